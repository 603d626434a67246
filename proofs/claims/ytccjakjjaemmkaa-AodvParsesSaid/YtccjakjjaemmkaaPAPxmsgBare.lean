-- Written by mp.py, a program of this work (wip/tools), out of the translation; Lean checks it.
import Derived.Test.YtccjakjjaemmkaaPAPxZ
import Derived.Test.YtccjakjjaemmkaaPAPxmsg
import Derived.Test.YtccjakjjaemmkaaBuild
import Derived.Test.YtccjakjjaemmkaaStore
namespace Go.Proofs.Ytccjakjjaemmkaa.PAP
open Go.RowKit Go.Proofs.YtccjakjjaemmkaaW.PrintWords Go.Proofs.YtccjakjjaemmkaaW.PrintLast Go.Proofs.YtccjakjjaemmkaaW.PrintMore
attribute [local go_sem] max2_int min2_int max_two min_two max_three min_three max_four min_four   -- for this text's walks alone
set_option linter.unusedVariables false
set_option linter.unusedSimpArgs false

/-! ### msg_Bare: function 53 -/
def msg_Bare.z (k : Int) (p0 : Int) (p1 : Int) (p2 : Int) (p3 : Int) (p4 : Int) (p5 : Int) (p6 : Int) (p7 : Int) (p8 : Int) (p9 : Int) (p10 : Int) (p11 : Int) (p12 : Int) (p13 : Int) (p14 : Int) (p15 : Int) (p16 : ByteArray) (p17 : ByteArray) (p18 : ByteArray) (p19 : ByteArray) (p20 : ByteArray) (p21 : ByteArray) (p22 : ByteArray) : Bool := (p0 == k && (p1 == 0 && (p2 == 0 && (p3 == 0 && (p4 == 0 && (p5 == 0 && (p6 == 0 && (p7 == 0 && (p8 == 0 && (p9 == 0 && (p10 == 0 && (p11 == 0 && (p12 == 0 && (p13 == 0 && (p14 == 0 && (p15 == 0 && (p16.toList == (⟨#[]⟩ : ByteArray).toList && (p17.toList == (⟨#[]⟩ : ByteArray).toList && (p18.toList == (⟨#[]⟩ : ByteArray).toList && (p19.toList == (⟨#[]⟩ : ByteArray).toList && (p20.toList == (⟨#[]⟩ : ByteArray).toList && (p21.toList == (⟨#[]⟩ : ByteArray).toList && (p22.toList == (⟨#[]⟩ : ByteArray).toList)))))))))))))))))))))))
def msg_Bare.b (ax : Int) (av : Int) (aw : Int) (ay : ByteArray) (aA : Int) (aH : Int) (aI : ByteArray) (aC : Int) (aD : Int) (aG : ByteArray) (au : Int) (ar : ByteArray) (ak : Int) (aj : Int) (ap : Int) (ah : Int) (ai : Int) (al : Int) (an : Int) (ac : ByteArray) (af : ByteArray) (ae : List S46) (ao : Int) (aq : ByteArray) (am : List S48) : Bool := if ax = 6 then (msg_Bare.z 6 6 av aw aA aH aC aD au ak aj ap ah ai al an ao ay aI aG ar ac af aq && ((ae.length : Int) == 0)) && true else false
def msg_Bare.f (ax : Int) (av : Int) (aw : Int) (ay : ByteArray) (aA : Int) (aH : Int) (aI : ByteArray) (aC : Int) (aD : Int) (aG : ByteArray) (au : Int) (ar : ByteArray) (ak : Int) (aj : Int) (ap : Int) (ah : Int) (ai : Int) (al : Int) (an : Int) (ac : ByteArray) (af : ByteArray) (ae : List S46) (ao : Int) (aq : ByteArray) (am : List S48) : Option Bool := if ax = 6 then some (msg_Bare.b ax av aw ay aA aH aI aC aD aG au ar ak aj ap ah ai al an ac af ae ao aq am) else none
theorem msg_Bare.b6 (av : Int) (aw : Int) (ay : ByteArray) (aA : Int) (aH : Int) (aI : ByteArray) (aC : Int) (aD : Int) (aG : ByteArray) (au : Int) (ar : ByteArray) (ak : Int) (aj : Int) (ap : Int) (ah : Int) (ai : Int) (al : Int) (an : Int) (ac : ByteArray) (af : ByteArray) (ae : List S46) (ao : Int) (aq : ByteArray) (am : List S48) : msg_Bare.b 6 av aw ay aA aH aI aC aD aG au ar ak aj ap ah ai al an ac af ae ao aq am = ((msg_Bare.z 6 6 av aw aA aH aC aD au ak aj ap ah ai al an ao ay aI aG ar ac af aq && ((ae.length : Int) == 0)) && true) := by
 unfold msg_Bare.b
 simp (config := {decide := true}) only [if_true, if_false]
theorem msg_Bare.eqz (d : Nat) (w : World) (k : Int) (p0 : Int) (p1 : Int) (p2 : Int) (p3 : Int) (p4 : Int) (p5 : Int) (p6 : Int) (p7 : Int) (p8 : Int) (p9 : Int) (p10 : Int) (p11 : Int) (p12 : Int) (p13 : Int) (p14 : Int) (p15 : Int) (p16 : ByteArray) (p17 : ByteArray) (p18 : ByteArray) (p19 : ByteArray) (p20 : ByteArray) (p21 : ByteArray) (p22 : ByteArray) :
  (Op.equalIn (d + 2) 71 (.agg #[.int .i64 p0, .int .i64 p1, .int .i64 p2, .int .i64 p3, .int .i64 p4, .int .i64 p5, .int .i64 p6, .int .i64 p7, .int .i64 p8, .int .i64 p9, .int .i64 p10, .int .i64 p11, .int .i64 p12, .int .i64 p13, .int .i64 p14, .int .i64 p15, .string p16, .string p17, .string p18, .string p19, .string p20, .string p21, .string p22]) (.agg #[.int .i64 k, .int .i64 0, .int .i64 0, .int .i64 0, .int .i64 0, .int .i64 0, .int .i64 0, .int .i64 0, .int .i64 0, .int .i64 0, .int .i64 0, .int .i64 0, .int .i64 0, .int .i64 0, .int .i64 0, .int .i64 0, .string ⟨#[]⟩, .string ⟨#[]⟩, .string ⟨#[]⟩, .string ⟨#[]⟩, .string ⟨#[]⟩, .string ⟨#[]⟩, .string ⟨#[]⟩])).run Try.prog w = .ok (msg_Bare.z k p0 p1 p2 p3 p4 p5 p6 p7 p8 p9 p10 p11 p12 p13 p14 p15 p16 p17 p18 p19 p20 p21 p22) w := by
 unfold msg_Bare.z
 refine eqA_of Try.underlying71 Z14 ?_
 refine eqf_cons Z22 Z57 Z57 Z95 ?_
 refine eqf_cons Z22 Z57 Z57 Z95 ?_
 refine eqf_cons Z22 Z57 Z57 Z95 ?_
 refine eqf_cons Z22 Z57 Z57 Z95 ?_
 refine eqf_cons Z22 Z57 Z57 Z95 ?_
 refine eqf_cons Z22 Z57 Z57 Z95 ?_
 refine eqf_cons Z22 Z57 Z57 Z95 ?_
 refine eqf_cons Z22 Z57 Z57 Z95 ?_
 refine eqf_cons Z22 Z57 Z57 Z95 ?_
 refine eqf_cons Z22 Z57 Z57 Z95 ?_
 refine eqf_cons Z22 Z57 Z57 Z95 ?_
 refine eqf_cons Z22 Z57 Z57 Z95 ?_
 refine eqf_cons Z22 Z57 Z57 Z95 ?_
 refine eqf_cons Z22 Z57 Z57 Z95 ?_
 refine eqf_cons Z22 Z57 Z57 Z95 ?_
 refine eqf_cons Z22 Z57 Z57 Z95 ?_
 refine eqf_cons Z22 Z57 Z57 Z95 ?_
 refine eqf_cons Z22 Z57 Z57 Z95 ?_
 refine eqf_cons Z22 Z57 Z57 Z95 ?_
 refine eqf_cons Z22 Z57 Z57 Z95 ?_
 refine eqf_cons Z22 Z57 Z57 Z95 ?_
 refine eqf_cons Z22 Z57 Z57 Z95 ?_
 exact eqf_last Z22 Z57 Z57 Z95
set_option maxRecDepth 100000 in
theorem msg_Bare.bd (v : Int) : Try.prog.built 71 [(0, .int .i64 v)] = some #[.int .i64 v, .int .i64 0, .int .i64 0, .int .i64 0, .int .i64 0, .int .i64 0, .int .i64 0, .int .i64 0, .int .i64 0, .int .i64 0, .int .i64 0, .int .i64 0, .int .i64 0, .int .i64 0, .int .i64 0, .int .i64 0, .string ⟨#[]⟩, .string ⟨#[]⟩, .string ⟨#[]⟩, .string ⟨#[]⟩, .string ⟨#[]⟩, .string ⟨#[]⟩, .string ⟨#[]⟩] := by kernel_rfl
set_option maxHeartbeats 8000000 in
set_option maxRecDepth 100000 in
theorem msg_Bare.calls (ax : Int) (av : Int) (aw : Int) (ay : ByteArray) (aA : Int) (aH : Int) (aI : ByteArray) (aC : Int) (aD : Int) (aG : ByteArray) (au : Int) (ar : ByteArray) (ak : Int) (aj : Int) (ap : Int) (ah : Int) (ai : Int) (al : Int) (an : Int) (ac : ByteArray) (af : ByteArray) (bs : Option Addr) (bq : Nat) (ae : List S46) (ao : Int) (aq : ByteArray) (bn : Option Addr) (bo : Nat) (am : List S48) (r : Bool) (w : World) (cD : Kd.C k46 w bs ae.length ae) (cE : ae.length ≤ bq) (cF : Kd.C k48 w bn am.length am) (cG : am.length ≤ bo) (h : msg_Bare.f ax av aw ay aA aH aI aC aD aG au ar ak aj ap ah ai al an ac af ae ao aq am = some r) :
  Calls Try.prog 53 #[.agg #[.int .i64 ax, .int .i64 av, .int .i64 aw, .string ay, .int .i64 aA, .int .i64 aH, .string aI, .int .i64 aC, .int .i64 aD, .string aG, .int .i64 au, .string ar, .int .i64 ak, .int .i64 aj, .int .i64 ap, .int .i64 ah, .int .i64 ai, .int .i64 al, .int .i64 an, .string ac, .string af, .slice bs ae.length bq, .int .i64 ao, .string aq, .slice bn am.length bo]] w fun e w' => e = .returned (.bool r) ∧ Below w.heap.size w w' := by
 have fn := Try.underlying25
 have sT := Try.underlying71
 have eL := Aside0.mk cD
 have bG := Aside0.mk cE
 clear cD cE
 have fb := Aside0.mk cF
 have bA := Aside0.mk cG
 clear cF cG
 have hk : ax = 6 := by
  by_cases c : ax = 6
  ·exact c
  ·unfold msg_Bare.f at h; rw [if_neg c] at h; exact absurd h Z59
 unfold msg_Bare.f at h
 rw [if_pos hk] at h
 have HK := Aside0.mk hk
 clear hk
 have HB := Aside0.mk (Below.refl w.heap.size w)
 have gs := Aside0.mk (Option.some.inj h)
 clear h
 have A2 : Aside0 (msg_strip.f ax av aw ay aA aH aI aC aD aG au ar ak aj ap ah ai al an ac af ae ao aq am = some (ax, av, aw, aA, aH, aC, aD, au, ak, aj, ap, ah, ai, al, an, ao, ay, aI, aG, ar, ac, af, aq)) := ⟨rfl⟩
 go_enter Try.func53, Try.ntmps53
 go_upto_block 0 with (first | ((with_reducible refine Pre.gate_store 71 rfl ?_); refine Pre.store_abs rfl rfl rfl Z22 Z22 (by (with_reducible repeat (first | refine blk_drewN ?_ _ | refine blk_drew ?_ | refine blk_alloc ?_ _)); exact BKx.out) Z14 Z22 Z22 ?_; intro wS hbS sS; have bl := Aside0.mk (sS.blk Z77 NBmx.out); have bm := Aside0.mk (sS.below Z68 GEx.out); have bI := Aside0.mk hbS; clear BKm HB BKx hbS sS; have BKm := bl; have HB := bm; have BKx := bI; clear bl bm bI; have hcm21 := (blk_cell BKm.out 21).trans rfl; have hcm0 := (blk_cell BKm.out 0).trans rfl) | ((with_reducible refine Pre.gate_load 25 rfl ?_); refine Pre.load_event rfl rfl rfl Z22 Z73 Try.underlying25 rfl Z14 ?_) | ((with_reducible refine gate_dst (N := 1) rfl ?_); refine Sq.box 1 #[.int .i64 ax, .int .i64 av, .int .i64 aw, .string ay, .int .i64 aA, .int .i64 aH, .string aI, .int .i64 aC, .int .i64 aD, .string aG, .int .i64 au, .string ar, .int .i64 ak, .int .i64 aj, .int .i64 ap, .int .i64 ah, .int .i64 ai, .int .i64 al, .int .i64 an, .string ac, .string af, .slice bs ae.length bq, .int .i64 ao, .string aq, .slice bn am.length bo] 25 ?_; intro gm hg w4 hbox hb; have bl := Aside0.mk (below_step Z1 hb); have bm := Aside0.mk hbox; have GEm := Aside0.mk (Sq.ge hg Z1); replace HB := bl; have BKm := bm; clear bl bm; clear hb hbox hg) | ((with_reducible refine gate_callee (f := 73) rfl ?_); refine goesL_ (some 7) rfl rfl Try.func73 Z14 rfl #[.agg #[.int .i64 ax, .int .i64 av, .int .i64 aw, .string ay, .int .i64 aA, .int .i64 aH, .string aI, .int .i64 aC, .int .i64 aD, .string aG, .int .i64 au, .string ar, .int .i64 ak, .int .i64 aj, .int .i64 ap, .int .i64 ah, .int .i64 ai, .int .i64 al, .int .i64 an, .string ac, .string af, .slice bs ae.length bq, .int .i64 ao, .string aq, .slice bn am.length bo]] rfl (by (try simp only [List.map_toArray, List.map_cons, List.map_nil]); first | done | rfl) ?_; (with_reducible refine (msg_strip.calls ax av aw ay aA aH aI aC aD aG au ar ak aj ap ah ai al an ac af _ _ ae ao aq _ _ am ax av aw aA aH aC aD au ak aj ap ah ai al an ao ay aI aG ar ac af aq _ ?side1 ?side2 ?side3 ?side4 A2.out).mono ?_); (case side1 => exact Z16); (case side2 => exact bG.out); (case side3 => exact Z12); (case side4 => exact bA.out); rintro e w6 ⟨rfl, hb⟩; refine ⟨_, rfl, ?_⟩; replace BKm := Aside0.mk (blk_below (g := gm) Z77 hb); replace HB := Aside0.mk (below_step Z68 hb); clear hb) | ((with_reducible refine gate_dst (N := 3) rfl ?_); refine Sq.box 3 #[.int .i64 0, .int .i64 0, .int .i64 0, .int .i64 0, .int .i64 0, .int .i64 0, .int .i64 0, .int .i64 0, .int .i64 0, .int .i64 0, .int .i64 0, .int .i64 0, .int .i64 0, .int .i64 0, .int .i64 0, .int .i64 0, .string ⟨#[]⟩, .string ⟨#[]⟩, .string ⟨#[]⟩, .string ⟨#[]⟩, .string ⟨#[]⟩, .string ⟨#[]⟩, .string ⟨#[]⟩] 71 ?_; intro gx hg w7 hbox hb; have bl := Aside0.mk (blk_below (g := gm) Z77 hb); have bm := Aside0.mk (below_step Z68 hb); have bI := Aside0.mk hbox; have GEx := Aside0.mk (Sq.ge hg Z68); have NBmx := Aside0.mk (Sq.nl hg (blk_lt (g := gm) Z77)); replace BKm := bl; replace HB := bm; have BKx := bI; clear bl bm bI; clear hb hbox hg; have hnb := NBmx.out; have hnc := NBmx.out.symm; (try clear hb)))
 (try simp only [Act.put, Sq.s1, Sq.s2, Sq.s3])
 go_cut [4, 5] (fun v4 v5 wc => ∃ (b4 b5 : Bool) (p0 : Int) (p1 : Int) (p2 : Int) (p3 : Int) (p4 : Int) (p5 : Int) (p6 : Int) (p7 : Int) (p8 : Int) (p9 : Int) (p10 : Int) (p11 : Int) (p12 : Int) (p13 : Int) (p14 : Int) (p15 : Int) (p16 : ByteArray) (p17 : ByteArray) (p18 : ByteArray) (p19 : ByteArray) (p20 : ByteArray) (p21 : ByteArray) (p22 : ByteArray), v4 = .bool b4 ∧ v5 = .bool b5 ∧ Aside0 (((msg_Bare.z ax p0 p1 p2 p3 p4 p5 p6 p7 p8 p9 p10 p11 p12 p13 p14 p15 p16 p17 p18 p19 p20 p21 p22 && b4) && b5) = r) ∧ Aside0 (wc.heap[gm]? = some (.cells #[.int .i64 ax, .int .i64 av, .int .i64 aw, .string ay, .int .i64 aA, .int .i64 aH, .string aI, .int .i64 aC, .int .i64 aD, .string aG, .int .i64 au, .string ar, .int .i64 ak, .int .i64 aj, .int .i64 ap, .int .i64 ah, .int .i64 ai, .int .i64 al, .int .i64 an, .string ac, .string af, .slice bs ae.length bq, .int .i64 ao, .string aq, .slice bn am.length bo] 25 (0, 0))) ∧ Aside0 (wc.heap[gx]? = some (.cells #[.int .i64 p0, .int .i64 p1, .int .i64 p2, .int .i64 p3, .int .i64 p4, .int .i64 p5, .int .i64 p6, .int .i64 p7, .int .i64 p8, .int .i64 p9, .int .i64 p10, .int .i64 p11, .int .i64 p12, .int .i64 p13, .int .i64 p14, .int .i64 p15, .string p16, .string p17, .string p18, .string p19, .string p20, .string p21, .string p22] 71 (0, 0))) ∧ Aside0 (Below w.heap.size w wc))
 case first =>
  have c6 := HK.out
  clear HK
  subst c6
  have HRES : Aside0 (((msg_Bare.z 6 6 av aw aA aH aC aD au ak aj ap ah ai al an ao ay aI aG ar ac af aq && ((ae.length : Int) == 0)) && true) = r) := ⟨(msg_Bare.b6 av aw ay aA aH aI aC aD aG au ar ak aj ap ah ai al an ac af ae ao aq am).symm.trans gs.out⟩
  clear gs A2
  go_wp2
  go_meet
  case rel => exact ⟨((ae.length : Int) == 0), true, 6, av, aw, aA, aH, aC, aD, au, ak, aj, ap, ah, ai, al, an, ao, ay, aI, aG, ar, ac, af, aq, rfl, rfl, HRES, BKm, BKx, HB⟩
 case rest =>
  clear hcm0 hcm21 gs A2 BKm BKx HB HK
  obtain ⟨b4, b5, p0, p1, p2, p3, p4, p5, p6, p7, p8, p9, p10, p11, p12, p13, p14, p15, p16, p17, p18, p19, p20, p21, p22, rfl, rfl, HRES, BKm, BKx, HB⟩ := hcut
  have hcm0 := (blk_cell BKm.out 0).trans rfl
  have hE := fun (d : Nat) (w : World) => msg_Bare.eqz d w ax p0 p1 p2 p3 p4 p5 p6 p7 p8 p9 p10 p11 p12 p13 p14 p15 p16 p17 p18 p19 p20 p21 p22
  generalize msg_Bare.z ax p0 p1 p2 p3 p4 p5 p6 p7 p8 p9 p10 p11 p12 p13 p14 p15 p16 p17 p18 p19 p20 p21 p22 = bz at HRES hE
  cases bz <;> cases b4 <;> cases b5
  all_goals
   obtain rfl := HRES.out
   clear HRES
   go_wp2_with (first | ((with_reducible refine Pre.gate_load 71 rfl ?_); refine Pre.load_event rfl rfl rfl Z22 Z73 Try.underlying71 rfl Z14 ?_) | ((with_reducible refine gate_dst (N := 108) rfl ?_); refine Pre.build_event 108 71 [(0, .tmp 107)] rfl rfl rfl (msg_Bare.bd _) ?_))
   go_ret
   exact ⟨rfl, Z99⟩

end Go.Proofs.Ytccjakjjaemmkaa.PAP
