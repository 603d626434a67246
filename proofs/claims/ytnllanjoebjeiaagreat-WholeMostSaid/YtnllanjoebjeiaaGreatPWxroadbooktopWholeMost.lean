-- Written by mp.py, a program of this work (wip/tools), out of the translation; Lean checks it.
import Derived.Test.YtnllanjoebjeiaaGreatPWxZ
import Derived.Test.YtnllanjoebjeiaaGreatPWxoutlet
import Derived.Test.YtnllanjoebjeiaaGreatPWxroadbookref07
import Derived.Test.YtnllanjoebjeiaaGreatPWxroadbookref18
import Derived.Test.YtnllanjoebjeiaaGreatPWxroadbooktop
import Derived.Test.YtnllanjoebjeiaaGreatBox
namespace Go.Proofs.YtnllanjoebjeiaaGreat.PW
open Go.RowKit Go.Proofs.YtnllanjoebjeiaaGreatW.PrintWords Go.Proofs.YtnllanjoebjeiaaGreatW.PrintLast Go.Proofs.YtnllanjoebjeiaaGreatW.PrintMore
attribute [local go_sem] max2_int min2_int max_two min_two max_three min_three max_four min_four   -- for this text's walks alone
set_option linter.unusedVariables false
set_option linter.unusedSimpArgs false

/-! ### roadbooktop_WholeMost: function 6 -/
theorem roadbooktop_WholeMost.at48 {w : World} {A : Option Addr} {n : Nat} {xs : List S48} (h : Kd.C k48 w A n xs) (i : Int) (h0 : 0 ≤ i) (h1 : i < n) : ∃ ad, A = some ad ∧ w.cell? (ad.add (i.toNat * 3)) = some (.int .i64 (rd_T48 xs i).f0) ∧ w.cell? ⟨(ad.add (i.toNat * 3)).block, (ad.add (i.toNat * 3)).off + 2, none⟩ = some (.string (rd_T48 xs i).f2) := by
 obtain ⟨ad, c, e, _, hK, cO⟩ := Kd.C_get h z48 i h0 h1
 have hc : ∀ j u, c[j]? = some u → w.cell? (ad.add (i.toNat * 3 + j)) = some u := cO
 obtain ⟨_, _, rfl, rfl, _, _, rfl, rfl, rfl⟩ := hK
 exact ⟨ad, e, hc 0 _ rfl, by rw [← add_field _ _ 2 Z23]; exact hc 2 _ rfl⟩
/-- The next Update from a place on. -/
def roadbooktop_WholeMost.ln : Nat → List S32 → Int → Option Int
 | 0, _, _ => none
 | k + 1, l0, n => if n < (l0.length : Int) then (if 0 ≤ n then (if (rd_T32 l0 n).f0 = 11 then some n else roadbooktop_WholeMost.ln k l0 (wrap64 (n + 1))) else none) else none
/-- The prefix that was the last one, and the last ones behind it. -/
def roadbooktop_WholeMost.st (ae : Int) (p1 p2 p3 px : ByteArray) : ByteArray × ByteArray × ByteArray × ByteArray := if ae = 1 then (p1, px, p2, p3) else if ae = 2 then (p2, p1, px, p3) else (p3, p1, p2, px)
/-- Are so many bytes alike, and the next one isn't? -/
def roadbooktop_WholeMost.ck (a L : Int) (p px : ByteArray) : Bool := decide (a ≤ L ∧ 0 ≤ a ∧ a ≤ (p.size : Int) ∧ a ≤ (px.size : Int) ∧ (p.extract 0 a.toNat).toList = (px.extract 0 a.toNat).toList ∧ (a < L → a < (p.size : Int) ∧ a < (px.size : Int) ∧ bt p a ≠ bt px a))
def roadbooktop_WholeMost.lo : Nat → List S32 → List S48 → Int → Int → ByteArray → ByteArray → ByteArray → Option Bool
 | 0, _, _, _, _, _, _, _ => none
 | k + 1, l0, tl, i, n, p1, p2, p3 => if i < (tl.length : Int) then (if 0 ≤ i then (if (rd_T48 tl i).f0 = 8 then (if ((rd_T48 tl i).f2.size : Int) < 10 then roadbooktop_WholeMost.lo k l0 tl (wrap64 (i + 1)) n p1 p2 p3 else
   (roadbooktop_WholeMost.ln k l0 n).bind fun n => if (rd_T32 l0 n).f5 < 1 then roadbooktop_WholeMost.lo k l0 tl (wrap64 (i + 1)) (wrap64 (n + 1)) p1 p2 p3 else if (rd_T32 l0 n).f5 > 3 then roadbooktop_WholeMost.lo k l0 tl (wrap64 (i + 1)) (wrap64 (n + 1)) p1 p2 p3 else if ((rd_T32 l0 n).f6.size : Int) < 4 then roadbooktop_WholeMost.lo k l0 tl (wrap64 (i + 1)) (wrap64 (n + 1)) p1 p2 p3 else
    if (if (roadbooktop_WholeMost.st (rd_T32 l0 n).f5 p1 p2 p3 (rd_T32 l0 n).f6).1.toList = [] then decide (bt (rd_T48 tl i).f2 3 = 0) else roadbooktop_WholeMost.ck (if (rd_T32 l0 n).f5 = 3 then wrap64 (wrap64 (bt (rd_T48 tl i).f2 3) + 8) else wrap64 (bt (rd_T48 tl i).f2 3)) (wrap64 (Int.tdiv (wrap64 ((rd_T32 l0 n).f7 + 7)) 8)) (roadbooktop_WholeMost.st (rd_T32 l0 n).f5 p1 p2 p3 (rd_T32 l0 n).f6).1 (rd_T32 l0 n).f6) = true then
     roadbooktop_WholeMost.lo k l0 tl (wrap64 (i + 1)) (wrap64 (n + 1)) (roadbooktop_WholeMost.st (rd_T32 l0 n).f5 p1 p2 p3 (rd_T32 l0 n).f6).2.1 (roadbooktop_WholeMost.st (rd_T32 l0 n).f5 p1 p2 p3 (rd_T32 l0 n).f6).2.2.1 (roadbooktop_WholeMost.st (rd_T32 l0 n).f5 p1 p2 p3 (rd_T32 l0 n).f6).2.2.2 else none)
   else roadbooktop_WholeMost.lo k l0 tl (wrap64 (i + 1)) n p1 p2 p3) else none) else roadbooktop_awake.f k
def roadbooktop_WholeMost.f (k : Nat) (l0 : List S32) : Option Bool := (roadbookref07_FewAll.f k l0 40).bind fun r => if r = true then (outlet_Encode.f k l0).bind fun x => if x.2.2 = 0 then (roadbookref18_Body.f x.1).bind fun y => (roadbookref18_Split.f k y.1 4).bind fun t => roadbooktop_WholeMost.lo k l0 t.1 0 0 ⟨#[]⟩ ⟨#[]⟩ ⟨#[]⟩ else roadbooktop_awake.f k else roadbooktop_awake.f k
def roadbooktop_WholeMost.T30 : Bool × List (List Nat × List Nat) := (true, [([], []), ([], []), ([0, 1], [0, 1]), ([2], [2]), ([3], [3]), ([3], [3]), ([4, 5, 3], [3, 4, 5]), ([3], [3]), ([7, 3], [3, 7]), ([3], [3]), ([8, 9, 3], [3, 8, 9]), ([6, 10, 3], [3, 6, 10]), ([3, 11], [3, 11]), ([12, 3], [12]), ([13], [13]), ([13], [13]), ([14, 15, 13], [13, 14, 15]), ([16, 13, 13], [13, 16]), ([17], [17]), ([17], [17]), ([18, 19, 17], [17, 18, 19]), ([17], [17]), ([21, 17], [17, 21]), ([17], [17]), ([22, 23, 17], [17, 22, 23]), ([20, 24, 17], [17, 20, 24]), ([17, 25, 13], [13, 17, 25]), ([13, 26], [13, 26])])
def roadbooktop_WholeMost.B30 : List Nat := [0, 0, 3, 7, 15, 15, 63, 15, 143, 15, 911, 2047, 4095, 8191, 16383, 16383, 65535, 131071, 262143, 262143, 1048575, 262143, 2359295, 262143, 14942207, 33554431, 67108863, 134217727]
theorem roadbooktop_WholeMost.tab30 : rtab .any (opsOf Tryz.f6 30) = roadbooktop_WholeMost.T30 := by kernel_rfl
theorem roadbooktop_WholeMost.bits30 : waitsOk roadbooktop_WholeMost.T30.2 roadbooktop_WholeMost.B30 = true := by kernel_rfl
set_option maxHeartbeats 8000000 in
set_option maxRecDepth 100000 in
theorem roadbooktop_WholeMost.calls (k : Nat) (A0 : Option Addr) (c0 : Nat) (l0 : List S32) (r : Bool) (w : World) (du : Kd.C k32 w A0 l0.length l0) (cO : l0.length ≤ c0) (hr_ : Aside0 (r = true)) (h : roadbooktop_WholeMost.f k l0 = some r) :
  Calls Tryz.prog 6 #[.slice A0 l0.length c0] w fun e w' => e = .returned (.bool r) ∧ Below w.heap.size w w' := by
 obtain rfl := hr_.out
 have dv := Aside0.mk du
 have eC := Aside0.mk cO
 have HB0 := Aside0.mk (Below.refl w.heap.size w)
 clear du cO hr_
 have dP := Tryz.underlying32
 have hu48 := Tryz.underlying48
 have hu43 := Tryz.underlying43
 unfold roadbooktop_WholeMost.f at h
 obtain ⟨few, h1, h⟩ := Option.bind_eq_some_iff.mp h
 have A1 := Aside0.mk h1
 clear h1
 cases few
 ·rw [if_neg Bool.false_ne_true] at h
  have AW := Aside0.mk h
  clear h
  go_enter Tryz.func6, Tryz.ntmps6
  go_wp2_with (first | ((with_reducible refine gate_callee (f := 9) rfl ?_); refine goesL_ (some 20) rfl rfl Tryz.func9 Z12 rfl #[.slice A0 l0.length c0, .int .i64 40] rfl (by (try simp only [List.map_toArray, List.map_cons, List.map_nil]); first | done | rfl) ?_; (with_reducible refine (roadbookref07_FewAll.calls k A0 c0 l0 40 false _ (Kd.C_below dv.out HB0.out) eC.out A1.out).mono ?_); rintro e w8 ⟨rfl, hb⟩; refine ⟨_, rfl, ?_⟩; replace HB0 := Aside0.mk (below_step HB0.out (show Below _ _ _ from hb)); clear hb) | ((with_reducible refine gate_callee (f := 10) rfl ?_); refine goesL_ (some 22) rfl rfl Tryz.func10 Z12 rfl #[] rfl (by (try simp only [List.map_toArray, List.map_cons, List.map_nil]); first | done | rfl) ?_; (with_reducible refine (roadbooktop_awake.calls k true _ ⟨rfl⟩ AW.out).mono ?_); rintro e w8 ⟨rfl, hb⟩; refine ⟨_, rfl, ?_⟩; replace HB0 := Aside0.mk (below_step HB0.out (show Below _ _ _ from hb)); clear hb))
  go_ret
  exact ⟨rfl, HB0.out⟩
 rw [if_pos rfl] at h
 obtain ⟨⟨b, x1, e⟩, h2, h⟩ := Option.bind_eq_some_iff.mp h
 have A2 := Aside0.mk h2
 clear h2
 by_cases c : e = 0
 rotate_left
 ·rw [if_neg c] at h
  have AW := Aside0.mk h
  have f1 : (e != 0) = true := bne_iff_ne.mpr c
  clear h c
  go_enter Tryz.func6, Tryz.ntmps6
  go_wp2_with (first | ((with_reducible refine gate_callee (f := 9) rfl ?_); refine goesL_ (some 20) rfl rfl Tryz.func9 Z12 rfl #[.slice A0 l0.length c0, .int .i64 40] rfl (by (try simp only [List.map_toArray, List.map_cons, List.map_nil]); first | done | rfl) ?_; (with_reducible refine (roadbookref07_FewAll.calls k A0 c0 l0 40 true _ (Kd.C_below dv.out HB0.out) eC.out A1.out).mono ?_); rintro e w8 ⟨rfl, hb⟩; refine ⟨_, rfl, ?_⟩; replace HB0 := Aside0.mk (below_step HB0.out (show Below _ _ _ from hb)); clear hb) | ((with_reducible refine gate_callee (f := 15) rfl ?_); refine goesL_ (some 25) rfl rfl Tryz.func15 Z12 rfl #[.slice A0 l0.length c0] rfl (by (try simp only [List.map_toArray, List.map_cons, List.map_nil]); first | done | rfl) ?_; (with_reducible refine (outlet_Encode.calls k A0 c0 l0 b x1 _ _ (Kd.C_below dv.out HB0.out) eC.out A2.out).mono ?_); rintro e w8 ⟨rfl, hb⟩; refine ⟨_, rfl, ?_⟩; replace HB0 := Aside0.mk (below_step HB0.out (show Below _ _ _ from hb)); clear hb) | ((with_reducible refine gate_callee (f := 10) rfl ?_); refine goesL_ (some 31) rfl rfl Tryz.func10 Z12 rfl #[] rfl (by (try simp only [List.map_toArray, List.map_cons, List.map_nil]); first | done | rfl) ?_; (with_reducible refine (roadbooktop_awake.calls k true _ ⟨rfl⟩ AW.out).mono ?_); rintro e w8 ⟨rfl, hb⟩; refine ⟨_, rfl, ?_⟩; replace HB0 := Aside0.mk (below_step HB0.out (show Below _ _ _ from hb)); clear hb))
  go_ret
  exact ⟨rfl, HB0.out⟩
 subst c
 rw [if_pos rfl] at h
 obtain ⟨⟨s, x2, x3⟩, h3, h⟩ := Option.bind_eq_some_iff.mp h
 have A3 := Aside0.mk h3
 obtain ⟨⟨tl, x4, x5⟩, h4, h⟩ := Option.bind_eq_some_iff.mp h
 have A4 := Aside0.mk h4
 have HL := Aside0.mk h
 clear h h3 h4
 go_enter Tryz.func6, Tryz.ntmps6
 go_upto_region 8 with (first | ((with_reducible refine gate_callee (f := 9) rfl ?_); refine goesL_ (some 20) rfl rfl Tryz.func9 Z12 rfl #[.slice A0 l0.length c0, .int .i64 40] rfl (by (try simp only [List.map_toArray, List.map_cons, List.map_nil]); first | done | rfl) ?_; (with_reducible refine (roadbookref07_FewAll.calls k A0 c0 l0 40 true _ (Kd.C_below dv.out HB0.out) eC.out A1.out).mono ?_); rintro e w8 ⟨rfl, hb⟩; refine ⟨_, rfl, ?_⟩; replace HB0 := Aside0.mk (below_step HB0.out (show Below _ _ _ from hb)); clear hb) | ((with_reducible refine gate_callee (f := 15) rfl ?_); refine goesL_ (some 25) rfl rfl Tryz.func15 Z12 rfl #[.slice A0 l0.length c0] rfl (by (try simp only [List.map_toArray, List.map_cons, List.map_nil]); first | done | rfl) ?_; (with_reducible refine (outlet_Encode.calls k A0 c0 l0 b x1 _ _ (Kd.C_below dv.out HB0.out) eC.out A2.out).mono ?_); rintro e w8 ⟨rfl, hb⟩; refine ⟨_, rfl, ?_⟩; replace HB0 := Aside0.mk (below_step HB0.out (show Below _ _ _ from hb)); clear hb) | ((with_reducible refine gate_callee (f := 16) rfl ?_); refine goesL_ (some 34) rfl rfl Tryz.func16 Z12 rfl #[.string b] rfl (by (try simp only [List.map_toArray, List.map_cons, List.map_nil]); first | done | rfl) ?_; (with_reducible refine (roadbookref18_Body.calls b s x2 x3 _ A3.out).mono ?_); rintro e w8 ⟨rfl, hd⟩; refine ⟨_, rfl, ?_⟩; replace HB0 := Aside0.mk (show Below w.heap.size w _ from (Bx.dr (⟨⟨HB0.out, Nat.le_refl _, fun _ h => absurd h Z27, List.Pairwise.nil⟩⟩ : Aside0 (Bx.Own w.heap.size w _ [])) hd).out.below); clear hd) | ((with_reducible refine gate_callee (f := 17) rfl ?_); refine goesL_ (some 40) rfl rfl Tryz.func17 Z12 rfl #[.string s, .int .i64 4] rfl (by (try simp only [List.map_toArray, List.map_cons, List.map_nil]); first | done | rfl) ?_; (with_reducible refine (roadbookref18_Split.calls k s 4 tl x4 x5 _ A4.out).mono ?_); rintro e w8 ⟨v, rfl, hrow, hb⟩; refine ⟨_, rfl, ?_⟩; replace HB0 := Aside0.mk (below_step HB0.out hb); clear hb; obtain ⟨At, ct, et⟩ := Kd.R_slice hrow; subst et; have CT := Aside0.mk (Kd.R_reads' hrow).2.2; clear hrow))
 rename_i wz
 have HO := Bx.start w8
 go_wp2_with (first | ((with_reducible refine gate_dst (N := 12) rfl ?_); refine Bx.mk 12 #[.string ⟨#[]⟩, .string ⟨#[]⟩, .string ⟨#[]⟩, .string ⟨#[]⟩] 43 HO ?_; clear HO; intro g12 iv HO))
 go_loopg [13, 14] k (fun kq fi eQ w' => ∃ (n i : Int) (p1 p2 p3 : ByteArray), fi = .int .i64 n ∧ eQ = .int .i64 i ∧ Aside0 (roadbooktop_WholeMost.lo kq l0 tl i n p1 p2 p3 = some true) ∧ Aside0 (kq ≤ k) ∧ Aside0 (Bx.Own w8.heap.size w8 w' [(g12, #[.string ⟨#[]⟩, .string p1, .string p2, .string p3], 43)]))
 case atStart => exact ⟨0, 0, _, _, _, rfl, rfl, HL, ⟨Nat.le_refl _⟩, HO⟩
 case round =>
 clear HL HO
 obtain ⟨n, i, p1, p2, p3, rfl, rfl, HA, HK1, HO⟩ := hrel
 cases gk with
 | zero => exact absurd HA.out (by simp [roadbooktop_WholeMost.lo])
 | succ k1 =>
 have H := HA.out
 clear HA
 simp only [roadbooktop_WholeMost.lo] at H
 by_cases c1 : i < (tl.length : Int)
 rotate_left
 ·rw [if_neg c1] at H
  have f1 : decide (i < (tl.length : Int)) = false := decide_eq_false c1
  have AW := Aside0.mk H
  clear H c1
  go_wp2_with (first | ((with_reducible refine gate_callee (f := 10) rfl ?_); refine goesL_ (some 165) rfl rfl Tryz.func10 Z12 rfl #[] rfl (by (try simp only [List.map_toArray, List.map_cons, List.map_nil]); first | done | rfl) ?_; (with_reducible refine (roadbooktop_awake.calls k1 true _ ⟨rfl⟩ AW.out).mono ?_); rintro e w8 ⟨rfl, hb⟩; refine ⟨_, rfl, ?_⟩; replace HO := Bx.stp HO hb; clear hb))
  go_ret
  exact ⟨rfl, below_step HB0.out HO.out.below⟩
 rw [if_pos c1] at H
 have f1 : decide (i < (tl.length : Int)) = true := decide_eq_true c1
 by_cases c2 : 0 ≤ i
 rotate_left
 ·rw [if_neg c2] at H; exact absurd H Z27
 rw [if_pos c2] at H
 obtain ⟨ad, ea, hx0, hx2⟩ := roadbooktop_WholeMost.at48 CT.out i c2 c1
 cases ea
 generalize (rd_T48 tl i).f0 = ty at H hx0
 generalize (rd_T48 tl i).f2 = d at H hx2
 have X0 := Aside0.mk hx0
 have X2 := Aside0.mk hx2
 have p := eq_true c2
 have q := eq_true c1
 clear hx0 hx2 c1 c2
 by_cases c3 : ty = 8
 rotate_left
 ·rw [if_neg c3] at H
  have f3 : (ty != 8) = true := bne_iff_ne.mpr c3
  have HA := Aside0.mk H
  clear H c3
  go_wp2_with (first | ((with_reducible refine Pre.gate_load 3 rfl ?_); (try (refine gate_guard Z16 ?_; dsimp only)); refine Bx.ldw HO X0.out Tryz.underlying3 ?_) | ((with_reducible refine Pre.gate_load 9 rfl ?_); (try (refine gate_guard Z16 ?_; dsimp only)); refine Bx.ldw HO X2.out Tryz.underlying9 ?_))
  go_roundg k1
  case measure => have := HK1.out; omega
  case rel => exact ⟨n, wrap64 (i + 1), _, _, _, rfl, rfl, HA, ⟨Z35⟩, ⟨HO.out.sub (by repeat (first | exact List.Sublist.refl _ | apply List.Sublist.cons_cons | apply List.Sublist.cons))⟩⟩
 rw [if_pos c3] at H
 have f3 : (ty != 8) = false := bne_eq_false_iff_eq.mpr c3
 clear c3
 by_cases c4 : (d.size : Int) < 10
 ·rw [if_pos c4] at H
  have f4 : decide ((d.size : Int) < 10) = true := decide_eq_true c4
  have HA := Aside0.mk H
  clear H c4
  go_wp2_with (first | ((with_reducible refine Pre.gate_load 3 rfl ?_); (try (refine gate_guard Z16 ?_; dsimp only)); refine Bx.ldw HO X0.out Tryz.underlying3 ?_) | ((with_reducible refine Pre.gate_load 9 rfl ?_); (try (refine gate_guard Z16 ?_; dsimp only)); refine Bx.ldw HO X2.out Tryz.underlying9 ?_))
  go_roundg k1
  case measure => have := HK1.out; omega
  case rel => exact ⟨n, wrap64 (i + 1), _, _, _, rfl, rfl, HA, ⟨Z35⟩, ⟨HO.out.sub (by repeat (first | exact List.Sublist.refl _ | apply List.Sublist.cons_cons | apply List.Sublist.cons))⟩⟩
 rw [if_neg c4] at H
 have f4 : decide ((d.size : Int) < 10) = false := decide_eq_false c4
 have D4 := Aside0.mk c4
 clear c4
 obtain ⟨m, hl, h⟩ := Option.bind_eq_some_iff.mp H
 have HM := Aside0.mk hl
 have HH := Aside0.mk h
 clear H hl h
 go_upto_block 2 with (first | ((with_reducible refine Pre.gate_load 3 rfl ?_); (try (refine gate_guard Z16 ?_; dsimp only)); refine Bx.ldw HO X0.out Tryz.underlying3 ?_) | ((with_reducible refine Pre.gate_load 9 rfl ?_); (try (refine gate_guard Z16 ?_; dsimp only)); refine Bx.ldw HO X2.out Tryz.underlying9 ?_))
 go_cut [13] (fun fi wc => fi = .int .i64 m ∧ Aside0 (0 ≤ m ∧ m < (l0.length : Int)) ∧ Aside0 (Bx.Own w8.heap.size w8 wc [(g12, #[.string ⟨#[]⟩, .string p1, .string p2, .string p3], 43)]))
 case first =>
  go_wp2
  go_loopg [13] k1 (fun kq fi w' => ∃ n2 : Int, fi = .int .i64 n2 ∧ Aside0 (roadbooktop_WholeMost.ln kq l0 n2 = some m) ∧ Aside0 (kq ≤ k1) ∧ Aside0 (Bx.Own w8.heap.size w8 w' [(g12, #[.string ⟨#[]⟩, .string p1, .string p2, .string p3], 43)]))
  case atStart => exact ⟨n, rfl, HM, ⟨Nat.le_refl _⟩, HO⟩
  case round =>
  clear HM HO
  obtain ⟨n2, rfl, HM, HK2, HO⟩ := hrel
  cases gk with
  | zero => exact absurd HM.out (by simp [roadbooktop_WholeMost.ln])
  | succ k2 =>
  have H := HM.out
  clear HM
  simp only [roadbooktop_WholeMost.ln] at H
  by_cases c5 : n2 < (l0.length : Int)
  rotate_left
  ·rw [if_neg c5] at H; exact absurd H Z27
  rw [if_pos c5] at H
  by_cases c6 : 0 ≤ n2
  rotate_left
  ·rw [if_neg c6] at H; exact absurd H Z27
  rw [if_pos c6] at H
  have f5 : decide (n2 < (l0.length : Int)) = true := decide_eq_true c5
  obtain ⟨ae, A_21, c_21, A_24, c_24, ea, hx0, -⟩ := at_T32 (Kd.C_below dv.out HB0.out) n2 c6 c5
  cases ea
  generalize (rd_T32 l0 n2).f0 = kd at H hx0
  have Y0 := Aside0.mk hx0
  have NN := Aside0.mk (And.intro c6 c5)
  have p5 := eq_true c6
  have q5 := eq_true c5
  clear hx0 c5 c6
  by_cases c7 : kd = 11
  ·rw [if_pos c7] at H
   have f7 : (kd != 11) = false := bne_eq_false_iff_eq.mpr c7
   obtain rfl := Option.some.inj H
   clear H c7
   go_wp2_with (first | ((with_reducible refine Pre.gate_load 3 rfl ?_); (try (refine gate_guard Z16 ?_; dsimp only)); refine Bx.ldw HO Y0.out Tryz.underlying3 ?_))
   go_meet
   case rel => exact ⟨rfl, NN, HO⟩
  ·rw [if_neg c7] at H
   have f7 : (kd != 11) = true := bne_iff_ne.mpr c7
   have HM := Aside0.mk H
   clear H c7
   go_wp2_with (first | ((with_reducible refine Pre.gate_load 3 rfl ?_); (try (refine gate_guard Z16 ?_; dsimp only)); refine Bx.ldw HO Y0.out Tryz.underlying3 ?_))
   go_roundg k2
   case measure => have := HK2.out; omega
   case rel => exact ⟨wrap64 (n2 + 1), rfl, HM, ⟨by have := HK2.out; omega⟩, HO⟩
 case rest =>
 clear HO
 obtain ⟨rfl, NN, HO⟩ := hcut
 have h := HH.out
 clear HH
 obtain ⟨c5, c6⟩ := NN.out
 obtain ⟨ae, A_21, c_21, A_24, c_24, ea, hx0, hx1, hx2, hx3, hx4, hx5, hx6, hx7, hx8, hx9, hx10, hx11, hx12, hx13, hx14, hx15, hx16, hx17, hx18, hx19, hx20, hx21, hx22, hx23, hx24, -, -, -, -⟩ := at_T32 (Kd.C_below dv.out HB0.out) m c5 c6
 cases ea
 have HX := Aside0.mk (show ∀ j v, ([.int .i64 (rd_T32 l0 m).f0, .int .i64 (rd_T32 l0 m).f1, .int .i64 (rd_T32 l0 m).f2, .string (rd_T32 l0 m).f3, .int .i64 (rd_T32 l0 m).f4, .int .i64 (rd_T32 l0 m).f5, .string (rd_T32 l0 m).f6, .int .i64 (rd_T32 l0 m).f7, .int .i64 (rd_T32 l0 m).f8, .string (rd_T32 l0 m).f9, .int .i64 (rd_T32 l0 m).f10, .string (rd_T32 l0 m).f11, .int .i64 (rd_T32 l0 m).f12, .int .i64 (rd_T32 l0 m).f13, .int .i64 (rd_T32 l0 m).f14, .int .i64 (rd_T32 l0 m).f15, .int .i64 (rd_T32 l0 m).f16, .int .i64 (rd_T32 l0 m).f17, .int .i64 (rd_T32 l0 m).f18, .string (rd_T32 l0 m).f19, .string (rd_T32 l0 m).f20, .slice A_21 (rd_T32 l0 m).f21.length c_21, .int .i64 (rd_T32 l0 m).f22, .string (rd_T32 l0 m).f23, .slice A_24 (rd_T32 l0 m).f24.length c_24] : List Value)[j]? = some v → w8.cell? ((ae.add (m.toNat * 25)).add j) = some v from Pre.range25)
 clear hx0 hx1 hx2 hx3 hx4 hx5 hx6 hx7 hx8 hx9 hx10 hx11 hx12 hx13 hx14 hx15 hx16 hx17 hx18 hx19 hx20 hx21 hx22 hx23 hx24
 generalize rd_T32 l0 m = M at h HX
 obtain ⟨a0, a1, a2, a3, a4, a5, a6, a7, a8, a9, dc, dd, de, df, dg, dh, di, dj, dk, dl, dm, dn, dp, dq, dr⟩ := M
 dsimp only at h HX
 have p5 := eq_true c5
 have q5 := eq_true c6
 have f8 : decide ((l0.length : Int) ≤ m) = false := decide_eq_false Z23
 clear c5 c6
 by_cases k5 : a5 < 1
 ·rw [if_pos k5] at h
  have e1 : decide (a5 < 1) = true := decide_eq_true k5
  have HA := Aside0.mk h
  clear h k5
  go_wp2_with (first | ((with_reducible refine Pre.gate_load 32 rfl ?_); refine Bx.ldsw HO HX.out Tryz.underlying32 ?_) | ((with_reducible refine gate_dst (N := 15) rfl ?_); refine Bx.mk 15 #[.int .i64 0, .int .i64 0, .int .i64 0, .string ⟨#[]⟩, .int .i64 0, .int .i64 0, .string ⟨#[]⟩, .int .i64 0, .int .i64 0, .string ⟨#[]⟩, .int .i64 0, .string ⟨#[]⟩, .int .i64 0, .int .i64 0, .int .i64 0, .int .i64 0, .int .i64 0, .int .i64 0, .int .i64 0, .string ⟨#[]⟩, .string ⟨#[]⟩, .slice none 0 0, .int .i64 0, .string ⟨#[]⟩, .slice none 0 0] 32 HO ?_; clear HO; intro g15 hQ HO) | ((with_reducible refine Pre.gate_store 32 rfl ?_); refine Bx.sts HO ?_; clear HO; intro w9 HO) | ((with_reducible refine Pre.gate_load 3 rfl ?_); (try (refine gate_guard Z16 ?_; dsimp only)); refine Bx.ld HO Tryz.underlying3 ?_) | ((with_reducible refine Pre.gate_load 9 rfl ?_); (try (refine gate_guard Z16 ?_; dsimp only)); refine Bx.ld HO Tryz.underlying9 ?_) | ((with_reducible refine Pre.gate_load 9 rfl ?_); (try (refine gate_guard Z16 ?_; dsimp only)); refine Bx.ldw HO X2.out Tryz.underlying9 ?_))
  go_roundg k1
  case measure => have := HK1.out; omega
  case rel => exact ⟨_, _, _, _, _, rfl, rfl, HA, ⟨Z35⟩, ⟨HO.out.sub (by repeat (first | exact List.Sublist.refl _ | apply List.Sublist.cons_cons | apply List.Sublist.cons))⟩⟩
 rw [if_neg k5] at h
 have g1 := ‹¬a5 < 1›
 have e1 : decide (a5 < 1) = false := decide_eq_false g1
 by_cases k6 : a5 > 3
 ·rw [if_pos k6] at h
  have e2 : decide (3 < a5) = true := decide_eq_true k6
  have HA := Aside0.mk h
  clear h k6
  go_wp2_with (first | ((with_reducible refine Pre.gate_load 32 rfl ?_); refine Bx.ldsw HO HX.out Tryz.underlying32 ?_) | ((with_reducible refine gate_dst (N := 15) rfl ?_); refine Bx.mk 15 #[.int .i64 0, .int .i64 0, .int .i64 0, .string ⟨#[]⟩, .int .i64 0, .int .i64 0, .string ⟨#[]⟩, .int .i64 0, .int .i64 0, .string ⟨#[]⟩, .int .i64 0, .string ⟨#[]⟩, .int .i64 0, .int .i64 0, .int .i64 0, .int .i64 0, .int .i64 0, .int .i64 0, .int .i64 0, .string ⟨#[]⟩, .string ⟨#[]⟩, .slice none 0 0, .int .i64 0, .string ⟨#[]⟩, .slice none 0 0] 32 HO ?_; clear HO; intro g15 hQ HO) | ((with_reducible refine Pre.gate_store 32 rfl ?_); refine Bx.sts HO ?_; clear HO; intro w9 HO) | ((with_reducible refine Pre.gate_load 3 rfl ?_); (try (refine gate_guard Z16 ?_; dsimp only)); refine Bx.ld HO Tryz.underlying3 ?_) | ((with_reducible refine Pre.gate_load 9 rfl ?_); (try (refine gate_guard Z16 ?_; dsimp only)); refine Bx.ld HO Tryz.underlying9 ?_) | ((with_reducible refine Pre.gate_load 9 rfl ?_); (try (refine gate_guard Z16 ?_; dsimp only)); refine Bx.ldw HO X2.out Tryz.underlying9 ?_))
  go_roundg k1
  case measure => have := HK1.out; omega
  case rel => exact ⟨_, _, _, _, _, rfl, rfl, HA, ⟨Z35⟩, ⟨HO.out.sub (by repeat (first | exact List.Sublist.refl _ | apply List.Sublist.cons_cons | apply List.Sublist.cons))⟩⟩
 rw [if_neg k6] at h
 have g2 := ‹¬a5 > 3›
 have e2 : decide (3 < a5) = false := decide_eq_false g2
 by_cases k7 : (a6.size : Int) < 4
 ·rw [if_pos k7] at h
  have e3 : decide ((a6.size : Int) < 4) = true := decide_eq_true k7
  have HA := Aside0.mk h
  clear h k7
  go_wp2_with (first | ((with_reducible refine Pre.gate_load 32 rfl ?_); refine Bx.ldsw HO HX.out Tryz.underlying32 ?_) | ((with_reducible refine gate_dst (N := 15) rfl ?_); refine Bx.mk 15 #[.int .i64 0, .int .i64 0, .int .i64 0, .string ⟨#[]⟩, .int .i64 0, .int .i64 0, .string ⟨#[]⟩, .int .i64 0, .int .i64 0, .string ⟨#[]⟩, .int .i64 0, .string ⟨#[]⟩, .int .i64 0, .int .i64 0, .int .i64 0, .int .i64 0, .int .i64 0, .int .i64 0, .int .i64 0, .string ⟨#[]⟩, .string ⟨#[]⟩, .slice none 0 0, .int .i64 0, .string ⟨#[]⟩, .slice none 0 0] 32 HO ?_; clear HO; intro g15 hQ HO) | ((with_reducible refine Pre.gate_store 32 rfl ?_); refine Bx.sts HO ?_; clear HO; intro w9 HO) | ((with_reducible refine Pre.gate_load 3 rfl ?_); (try (refine gate_guard Z16 ?_; dsimp only)); refine Bx.ld HO Tryz.underlying3 ?_) | ((with_reducible refine Pre.gate_load 9 rfl ?_); (try (refine gate_guard Z16 ?_; dsimp only)); refine Bx.ld HO Tryz.underlying9 ?_) | ((with_reducible refine Pre.gate_load 9 rfl ?_); (try (refine gate_guard Z16 ?_; dsimp only)); refine Bx.ldw HO X2.out Tryz.underlying9 ?_))
  go_roundg k1
  case measure => have := HK1.out; omega
  case rel => exact ⟨_, _, _, _, _, rfl, rfl, HA, ⟨Z35⟩, ⟨HO.out.sub (by repeat (first | exact List.Sublist.refl _ | apply List.Sublist.cons_cons | apply List.Sublist.cons))⟩⟩
 rw [if_neg k7] at h
 have e3 : decide ((a6.size : Int) < 4) = false := decide_eq_false ‹¬(a6.size : Int) < 4›
 have q3 : (3 < (d.size : Int)) = True := eq_true (by have := D4.out; omega)
 have q3n : (3 < d.size) = True := eq_true (by have := D4.out; omega)
 have hb3 : ∀ h : 3 < d.size, ((d[3]'h).toNat : Int) = bt d 3 := bt_at d 3
 obtain ⟨⟨p, q1, q2, q4⟩, hst⟩ : ∃ y, roadbooktop_WholeMost.st a5 p1 p2 p3 a6 = y := ⟨_, rfl⟩
 rw [hst] at h
 dsimp only at h
 obtain ⟨z, hz⟩ : ∃ z, wrap64 (bt d 3) = z := ⟨_, rfl⟩
 rw [hz] at h
 obtain ⟨a, ha⟩ : ∃ a, (if a5 = 3 then wrap64 (z + 8) else z) = a := ⟨_, rfl⟩
 rw [ha] at h
 obtain ⟨L, hL⟩ : ∃ L, wrap64 (Int.tdiv (wrap64 (a7 + 7)) 8) = L := ⟨_, rfl⟩
 rw [hL] at h
 by_cases cc : (if p.toList = [] then decide (bt d 3 = 0) else roadbooktop_WholeMost.ck a L p a6) = true
 rotate_left
 ·rw [if_neg cc] at h; exact absurd h Z27
 rw [if_pos cc] at h
 have HA := Aside0.mk h
 have CC := Aside0.mk cc
 have hae : a5 = 1 ∨ a5 = 2 ∨ a5 = 3 := by omega
 clear h cc g1 g2
 go_upto_if 112 with (first | ((with_reducible refine Pre.gate_load 32 rfl ?_); refine Bx.ldsw HO HX.out Tryz.underlying32 ?_) | ((with_reducible refine gate_dst (N := 15) rfl ?_); refine Bx.mk 15 #[.int .i64 0, .int .i64 0, .int .i64 0, .string ⟨#[]⟩, .int .i64 0, .int .i64 0, .string ⟨#[]⟩, .int .i64 0, .int .i64 0, .string ⟨#[]⟩, .int .i64 0, .string ⟨#[]⟩, .int .i64 0, .int .i64 0, .int .i64 0, .int .i64 0, .int .i64 0, .int .i64 0, .int .i64 0, .string ⟨#[]⟩, .string ⟨#[]⟩, .slice none 0 0, .int .i64 0, .string ⟨#[]⟩, .slice none 0 0] 32 HO ?_; clear HO; intro g15 hQ HO) | ((with_reducible refine Pre.gate_store 32 rfl ?_); refine Bx.sts HO ?_; clear HO; intro w9 HO) | ((with_reducible refine Pre.gate_load 3 rfl ?_); (try (refine gate_guard Z16 ?_; dsimp only)); refine Bx.ld HO Tryz.underlying3 ?_) | ((with_reducible refine Pre.gate_load 9 rfl ?_); (try (refine gate_guard Z16 ?_; dsimp only)); refine Bx.ld HO Tryz.underlying9 ?_) | ((with_reducible refine Pre.gate_load 9 rfl ?_); (try (refine gate_guard Z16 ?_; dsimp only)); refine Bx.ldw HO X2.out Tryz.underlying9 ?_) | ((with_reducible refine Pre.gate_store 9 rfl ?_); refine Bx.st HO ?_; clear HO; intro w9 HO))
 go_cut [16] (fun fj wc => fj = .int .i64 a ∧ Aside0 (Bx.Own w8.heap.size w8 wc ((g15, #[.int .i64 a0, .int .i64 a1, .int .i64 a2, .string a3, .int .i64 a4, .int .i64 a5, .string a6, .int .i64 a7, .int .i64 a8, .string a9, .int .i64 dc, .string dd, .int .i64 de, .int .i64 df, .int .i64 dg, .int .i64 dh, .int .i64 di, .int .i64 dj, .int .i64 dk, .string dl, .string dm, .slice A_21 dn.length c_21, .int .i64 dp, .string dq, .slice A_24 dr.length c_24], 32) :: [(g12, #[.string ⟨#[]⟩, .string p1, .string p2, .string p3], 43)])))
 case first =>
  by_cases c8 : a5 = 3
  ·have e8 : (a5 == 3) = true := beq_iff_eq.mpr c8
   rw [if_pos c8] at ha
   clear c8
   try rw [e8]
   go_wp2
   go_meet
   case rel => exact ⟨rfl, HO⟩
  ·have e8 : (a5 == 3) = false := beq_eq_false_iff_ne.mpr c8
   rw [if_neg c8] at ha
   subst ha
   clear c8
   try rw [e8]
   go_wp2
   go_meet
   case rel => exact ⟨rfl, HO⟩
 case rest =>
 clear HO
 obtain ⟨rfl, HO⟩ := hcut
 go_upto_region 25 with (first | ((with_reducible refine Pre.gate_load 32 rfl ?_); refine Bx.ldsw HO HX.out Tryz.underlying32 ?_) | ((with_reducible refine gate_dst (N := 15) rfl ?_); refine Bx.mk 15 #[.int .i64 0, .int .i64 0, .int .i64 0, .string ⟨#[]⟩, .int .i64 0, .int .i64 0, .string ⟨#[]⟩, .int .i64 0, .int .i64 0, .string ⟨#[]⟩, .int .i64 0, .string ⟨#[]⟩, .int .i64 0, .int .i64 0, .int .i64 0, .int .i64 0, .int .i64 0, .int .i64 0, .int .i64 0, .string ⟨#[]⟩, .string ⟨#[]⟩, .slice none 0 0, .int .i64 0, .string ⟨#[]⟩, .slice none 0 0] 32 HO ?_; clear HO; intro g15 hQ HO) | ((with_reducible refine Pre.gate_store 32 rfl ?_); refine Bx.sts HO ?_; clear HO; intro w9 HO) | ((with_reducible refine Pre.gate_load 3 rfl ?_); (try (refine gate_guard Z16 ?_; dsimp only)); refine Bx.ld HO Tryz.underlying3 ?_) | ((with_reducible refine Pre.gate_load 9 rfl ?_); (try (refine gate_guard Z16 ?_; dsimp only)); refine Bx.ld HO Tryz.underlying9 ?_) | ((with_reducible refine Pre.gate_load 9 rfl ?_); (try (refine gate_guard Z16 ?_; dsimp only)); refine Bx.ldw HO X2.out Tryz.underlying9 ?_) | ((with_reducible refine Pre.gate_store 9 rfl ?_); refine Bx.st HO ?_; clear HO; intro w9 HO))
 try simp only [hL]
 go_cut [18] (fun fl wc => fl = .string p ∧ Aside0 (Bx.Own w8.heap.size w8 wc ((g15, #[.int .i64 a0, .int .i64 a1, .int .i64 a2, .string a3, .int .i64 a4, .int .i64 a5, .string a6, .int .i64 a7, .int .i64 a8, .string a9, .int .i64 dc, .string dd, .int .i64 de, .int .i64 df, .int .i64 dg, .int .i64 dh, .int .i64 di, .int .i64 dj, .int .i64 dk, .string dl, .string dm, .slice A_21 dn.length c_21, .int .i64 dp, .string dq, .slice A_24 dr.length c_24], 32) :: [(g12, #[.string ⟨#[]⟩, .string p1, .string p2, .string p3], 43)])))
 case first =>
  rcases hae with rfl | rfl | rfl
  all_goals
   simp only [roadbooktop_WholeMost.st, Prod.mk.injEq, ↓reduceIte, Int.reduceEq] at hst
   obtain ⟨e4, -⟩ := hst
   subst e4
   go_wp2_with (first | ((with_reducible refine Pre.gate_load 3 rfl ?_); (try (refine gate_guard Z16 ?_; dsimp only)); refine Bx.ld HO Tryz.underlying3 ?_) | ((with_reducible refine Pre.gate_load 9 rfl ?_); (try (refine gate_guard Z16 ?_; dsimp only)); refine Bx.ld HO Tryz.underlying9 ?_))
   go_meet
   case rel => exact ⟨rfl, HO⟩
 case rest =>
 clear HO
 obtain ⟨rfl, HO⟩ := hcut
 go_upto_region 26 with (first | ((with_reducible refine Pre.gate_load 32 rfl ?_); refine Bx.ldsw HO HX.out Tryz.underlying32 ?_) | ((with_reducible refine gate_dst (N := 15) rfl ?_); refine Bx.mk 15 #[.int .i64 0, .int .i64 0, .int .i64 0, .string ⟨#[]⟩, .int .i64 0, .int .i64 0, .string ⟨#[]⟩, .int .i64 0, .int .i64 0, .string ⟨#[]⟩, .int .i64 0, .string ⟨#[]⟩, .int .i64 0, .int .i64 0, .int .i64 0, .int .i64 0, .int .i64 0, .int .i64 0, .int .i64 0, .string ⟨#[]⟩, .string ⟨#[]⟩, .slice none 0 0, .int .i64 0, .string ⟨#[]⟩, .slice none 0 0] 32 HO ?_; clear HO; intro g15 hQ HO) | ((with_reducible refine Pre.gate_store 32 rfl ?_); refine Bx.sts HO ?_; clear HO; intro w9 HO) | ((with_reducible refine Pre.gate_load 3 rfl ?_); (try (refine gate_guard Z16 ?_; dsimp only)); refine Bx.ld HO Tryz.underlying3 ?_) | ((with_reducible refine Pre.gate_load 9 rfl ?_); (try (refine gate_guard Z16 ?_; dsimp only)); refine Bx.ld HO Tryz.underlying9 ?_) | ((with_reducible refine Pre.gate_load 9 rfl ?_); (try (refine gate_guard Z16 ?_; dsimp only)); refine Bx.ldw HO X2.out Tryz.underlying9 ?_) | ((with_reducible refine Pre.gate_store 9 rfl ?_); refine Bx.st HO ?_; clear HO; intro w9 HO))
 try simp only [hL]
 go_cut [] (fun wc => Aside0 (Bx.Own w8.heap.size w8 wc ((g15, #[.int .i64 a0, .int .i64 a1, .int .i64 a2, .string a3, .int .i64 a4, .int .i64 a5, .string a6, .int .i64 a7, .int .i64 a8, .string a9, .int .i64 dc, .string dd, .int .i64 de, .int .i64 df, .int .i64 dg, .int .i64 dh, .int .i64 di, .int .i64 dj, .int .i64 dk, .string dl, .string dm, .slice A_21 dn.length c_21, .int .i64 dp, .string dq, .slice A_24 dr.length c_24], 32) :: [(g12, #[.string ⟨#[]⟩, .string q1, .string q2, .string q4], 43)])))
 case first =>
  rcases hae with rfl | rfl | rfl
  all_goals
   simp only [roadbooktop_WholeMost.st, Prod.mk.injEq, ↓reduceIte, Int.reduceEq] at hst
   obtain ⟨-, e5, e6, e7⟩ := hst
   subst e5 e6 e7
   go_wp2_with (first | ((with_reducible refine Pre.gate_load 3 rfl ?_); (try (refine gate_guard Z16 ?_; dsimp only)); refine Bx.ld HO Tryz.underlying3 ?_) | ((with_reducible refine Pre.gate_load 9 rfl ?_); (try (refine gate_guard Z16 ?_; dsimp only)); refine Bx.ld HO Tryz.underlying9 ?_) | ((with_reducible refine Pre.gate_store 9 rfl ?_); refine Bx.st HO ?_; clear HO; intro w9 HO))
   go_meet
   case rel => exact HO
 case rest =>
 clear HO
 have HO := hcut
 clear hcut hst hae
 by_cases cp : p.toList = []
 ·have cc := CC.out
  rw [if_pos cp] at cc
  have hb0 : bt d 3 = 0 := of_decide_eq_true cc
  have e9 : (p.toList == []) = true := beq_iff_eq.mpr cp
  have e0 : (bt d 3 != 0) = false := bne_eq_false_iff_eq.mpr hb0
  clear cc cp hb0 CC
  go_wp2_with (first | ((with_reducible refine Pre.gate_store 9 rfl ?_); refine Bx.st HO ?_; clear HO; intro w9 HO) | ((with_reducible refine Pre.gate_load 32 rfl ?_); refine Bx.ldsw HO HX.out Tryz.underlying32 ?_) | ((with_reducible refine gate_dst (N := 15) rfl ?_); refine Bx.mk 15 #[.int .i64 0, .int .i64 0, .int .i64 0, .string ⟨#[]⟩, .int .i64 0, .int .i64 0, .string ⟨#[]⟩, .int .i64 0, .int .i64 0, .string ⟨#[]⟩, .int .i64 0, .string ⟨#[]⟩, .int .i64 0, .int .i64 0, .int .i64 0, .int .i64 0, .int .i64 0, .int .i64 0, .int .i64 0, .string ⟨#[]⟩, .string ⟨#[]⟩, .slice none 0 0, .int .i64 0, .string ⟨#[]⟩, .slice none 0 0] 32 HO ?_; clear HO; intro g15 hQ HO) | ((with_reducible refine Pre.gate_store 32 rfl ?_); refine Bx.sts HO ?_; clear HO; intro w9 HO) | ((with_reducible refine Pre.gate_load 3 rfl ?_); (try (refine gate_guard Z16 ?_; dsimp only)); refine Bx.ld HO Tryz.underlying3 ?_) | ((with_reducible refine Pre.gate_load 9 rfl ?_); (try (refine gate_guard Z16 ?_; dsimp only)); refine Bx.ld HO Tryz.underlying9 ?_) | ((with_reducible refine Pre.gate_load 9 rfl ?_); (try (refine gate_guard Z16 ?_; dsimp only)); refine Bx.ldw HO X2.out Tryz.underlying9 ?_))
  go_roundg k1
  case measure => have := HK1.out; omega
  case rel => exact ⟨_, _, _, _, _, rfl, rfl, HA, ⟨Z35⟩, ⟨HO.out.sub (by repeat (first | exact List.Sublist.refl _ | apply List.Sublist.cons_cons | apply List.Sublist.cons))⟩⟩
 have cc := CC.out
 rw [if_neg cp] at cc
 unfold roadbooktop_WholeMost.ck at cc
 obtain ⟨h1, h2, h3, h4, h5, h6⟩ := of_decide_eq_true cc
 have e9 : (p.toList == []) = false := beq_eq_false_iff_ne.mpr cp
 have d1 : decide (L < a) = false := decide_eq_false Z23
 have d2 := eq_true h2
 have d3 := eq_true h3
 have d4 := eq_true h4
 have d5 : ((p.extract 0 a.toNat).toList == (a6.extract 0 a.toNat).toList) = true := beq_iff_eq.mpr h5
 clear cc cp h1 CC h3 h4 h5
 by_cases h7 : a < L
 ·obtain ⟨i1, i2, i3⟩ := h6 h7
  have d7 : decide (a < L) = true := decide_eq_true h7
  have d8 := eq_true i1
  have d9 := eq_true i2
  have d10 : (bt p a == bt a6 a) = false := beq_eq_false_iff_ne.mpr i3
  have hb1 := bt_at p a
  have hb2 := bt_at a6 a
  clear h2 h6 h7 i1 i2 i3
  go_upto_region 30 with (first | ((with_reducible refine Pre.gate_load 32 rfl ?_); refine Bx.ldsw HO HX.out Tryz.underlying32 ?_) | ((with_reducible refine gate_dst (N := 15) rfl ?_); refine Bx.mk 15 #[.int .i64 0, .int .i64 0, .int .i64 0, .string ⟨#[]⟩, .int .i64 0, .int .i64 0, .string ⟨#[]⟩, .int .i64 0, .int .i64 0, .string ⟨#[]⟩, .int .i64 0, .string ⟨#[]⟩, .int .i64 0, .int .i64 0, .int .i64 0, .int .i64 0, .int .i64 0, .int .i64 0, .int .i64 0, .string ⟨#[]⟩, .string ⟨#[]⟩, .slice none 0 0, .int .i64 0, .string ⟨#[]⟩, .slice none 0 0] 32 HO ?_; clear HO; intro g15 hQ HO) | ((with_reducible refine Pre.gate_store 32 rfl ?_); refine Bx.sts HO ?_; clear HO; intro w9 HO) | ((with_reducible refine Pre.gate_load 3 rfl ?_); (try (refine gate_guard Z16 ?_; dsimp only)); refine Bx.ld HO Tryz.underlying3 ?_) | ((with_reducible refine Pre.gate_load 9 rfl ?_); (try (refine gate_guard Z16 ?_; dsimp only)); refine Bx.ld HO Tryz.underlying9 ?_) | ((with_reducible refine Pre.gate_load 9 rfl ?_); (try (refine gate_guard Z16 ?_; dsimp only)); refine Bx.ldw HO X2.out Tryz.underlying9 ?_) | ((with_reducible refine Pre.gate_store 9 rfl ?_); refine Bx.st HO ?_; clear HO; intro w9 HO))
  refine Bx.rgo (Sq.b 28 0) [] _ roadbooktop_WholeMost.tab30 roadbooktop_WholeMost.bits30 HO ?_ (List.Sublist.refl _)
  clear HO
  intro w9 HO HS HT_ HW_
  clear HS
  refine Sq.pur 0 (some 137) (Sq.b 28 1) HT_.out ?_
  refine Sq.pur 1 (some 138) (Sq.b 28 3) HT_.out ?_
  refine Sq.pur 2 (some 139) (Sq.b 28 7) HT_.out ?_
  refine Sq.pur 3 (some 140) (Sq.b 28 15) HT_.out ?_
  refine Sq.pur 4 (some 141) (Sq.b 28 31) HT_.out ?_
  refine Sq.pur 5 (some 142) (Sq.b 28 63) HT_.out ?_
  refine Sq.pur 6 (some 143) (Sq.b 28 127) HT_.out ?_
  refine Sq.pur 7 (some 144) (Sq.b 28 255) HT_.out ?_
  refine Bx.rld 8 145 (Sq.b 28 511) HT_ HW_ HO Tryz.underlying9 ?_
  refine Sq.pur 9 (some 146) (Sq.b 28 1023) HT_.out ?_
  refine Sq.pur 10 (some 147) (Sq.b 28 2047) HT_.out ?_
  refine Sq.pur 11 (some 148) (Sq.b 28 4095) HT_.out ?_
  refine Sq.pur 12 (some 149) (Sq.b 28 8191) HT_.out ?_
  refine Sq.pur 13 (some 150) (Sq.b 28 16383) HT_.out ?_
  refine Sq.pur 14 (some 151) (Sq.b 28 32767) HT_.out ?_
  refine Sq.pur 15 (some 152) (Sq.b 28 65535) HT_.out ?_
  refine Sq.pur 16 (some 153) (Sq.b 28 131071) HT_.out ?_
  refine Sq.pur 17 (some 154) (Sq.b 28 262143) HT_.out ?_
  refine Sq.pur 18 (some 155) (Sq.b 28 524287) HT_.out ?_
  refine Sq.pur 19 (some 156) (Sq.b 28 1048575) HT_.out ?_
  refine Sq.pur 20 (some 157) (Sq.b 28 2097151) HT_.out ?_
  refine Sq.pur 21 (some 158) (Sq.b 28 4194303) HT_.out ?_
  refine Bx.rld 22 159 (Sq.b 28 8388607) HT_ HW_ HO Tryz.underlying9 ?_
  refine Sq.pur 23 (some 160) (Sq.b 28 16777215) HT_.out ?_
  refine Sq.pur 24 (some 161) (Sq.b 28 33554431) HT_.out ?_
  refine Sq.pur 25 (some 162) (Sq.b 28 67108863) HT_.out ?_
  refine Sq.pur 26 (some 163) (Sq.b 28 134217727) HT_.out ?_
  refine Sq.pur 27 (some 164) (Sq.b 28 268435455) HT_.out ?_
  refine done_ (done_of HT_.out Z12) ?_
  go_wp2_with (first | ((with_reducible refine Pre.gate_store 9 rfl ?_); refine Bx.st HO ?_; clear HO; intro w9 HO) | ((with_reducible refine Pre.gate_load 32 rfl ?_); refine Bx.ldsw HO HX.out Tryz.underlying32 ?_) | ((with_reducible refine gate_dst (N := 15) rfl ?_); refine Bx.mk 15 #[.int .i64 0, .int .i64 0, .int .i64 0, .string ⟨#[]⟩, .int .i64 0, .int .i64 0, .string ⟨#[]⟩, .int .i64 0, .int .i64 0, .string ⟨#[]⟩, .int .i64 0, .string ⟨#[]⟩, .int .i64 0, .int .i64 0, .int .i64 0, .int .i64 0, .int .i64 0, .int .i64 0, .int .i64 0, .string ⟨#[]⟩, .string ⟨#[]⟩, .slice none 0 0, .int .i64 0, .string ⟨#[]⟩, .slice none 0 0] 32 HO ?_; clear HO; intro g15 hQ HO) | ((with_reducible refine Pre.gate_store 32 rfl ?_); refine Bx.sts HO ?_; clear HO; intro w9 HO) | ((with_reducible refine Pre.gate_load 3 rfl ?_); (try (refine gate_guard Z16 ?_; dsimp only)); refine Bx.ld HO Tryz.underlying3 ?_) | ((with_reducible refine Pre.gate_load 9 rfl ?_); (try (refine gate_guard Z16 ?_; dsimp only)); refine Bx.ld HO Tryz.underlying9 ?_) | ((with_reducible refine Pre.gate_load 9 rfl ?_); (try (refine gate_guard Z16 ?_; dsimp only)); refine Bx.ldw HO X2.out Tryz.underlying9 ?_))
  go_roundg k1
  case measure => have := HK1.out; omega
  case rel => exact ⟨_, _, _, _, _, rfl, rfl, HA, ⟨Z35⟩, ⟨HO.out.sub (by repeat (first | exact List.Sublist.refl _ | apply List.Sublist.cons_cons | apply List.Sublist.cons))⟩⟩
 ·have d7 : decide (a < L) = false := decide_eq_false h7
  clear h2 h6 h7
  go_upto_region 30 with (first | ((with_reducible refine Pre.gate_load 32 rfl ?_); refine Bx.ldsw HO HX.out Tryz.underlying32 ?_) | ((with_reducible refine gate_dst (N := 15) rfl ?_); refine Bx.mk 15 #[.int .i64 0, .int .i64 0, .int .i64 0, .string ⟨#[]⟩, .int .i64 0, .int .i64 0, .string ⟨#[]⟩, .int .i64 0, .int .i64 0, .string ⟨#[]⟩, .int .i64 0, .string ⟨#[]⟩, .int .i64 0, .int .i64 0, .int .i64 0, .int .i64 0, .int .i64 0, .int .i64 0, .int .i64 0, .string ⟨#[]⟩, .string ⟨#[]⟩, .slice none 0 0, .int .i64 0, .string ⟨#[]⟩, .slice none 0 0] 32 HO ?_; clear HO; intro g15 hQ HO) | ((with_reducible refine Pre.gate_store 32 rfl ?_); refine Bx.sts HO ?_; clear HO; intro w9 HO) | ((with_reducible refine Pre.gate_load 3 rfl ?_); (try (refine gate_guard Z16 ?_; dsimp only)); refine Bx.ld HO Tryz.underlying3 ?_) | ((with_reducible refine Pre.gate_load 9 rfl ?_); (try (refine gate_guard Z16 ?_; dsimp only)); refine Bx.ld HO Tryz.underlying9 ?_) | ((with_reducible refine Pre.gate_load 9 rfl ?_); (try (refine gate_guard Z16 ?_; dsimp only)); refine Bx.ldw HO X2.out Tryz.underlying9 ?_) | ((with_reducible refine Pre.gate_store 9 rfl ?_); refine Bx.st HO ?_; clear HO; intro w9 HO))
  refine Bx.rgo (Sq.b 28 0) [] _ roadbooktop_WholeMost.tab30 roadbooktop_WholeMost.bits30 HO ?_ (List.Sublist.refl _)
  clear HO
  intro w9 HO HS HT_ HW_
  clear HS
  refine Sq.pur 0 (some 137) (Sq.b 28 1) HT_.out ?_
  refine Sq.pur 1 (some 138) (Sq.b 28 3) HT_.out ?_
  refine Sq.pur 2 (some 139) (Sq.b 28 7) HT_.out ?_
  refine Sq.pur 3 (some 140) (Sq.b 28 15) HT_.out ?_
  refine Sq.pur 4 (some 141) (Sq.b 28 31) HT_.out ?_
  refine Sq.pur 5 (some 142) (Sq.b 28 63) HT_.out ?_
  refine Sq.pur 6 (some 143) (Sq.b 28 127) HT_.out ?_
  refine Sq.pur 7 (some 144) (Sq.b 28 255) HT_.out ?_
  refine Bx.rld 8 145 (Sq.b 28 511) HT_ HW_ HO Tryz.underlying9 ?_
  refine Sq.pur 9 (some 146) (Sq.b 28 1023) HT_.out ?_
  refine Sq.pur 10 (some 147) (Sq.b 28 2047) HT_.out ?_
  refine Sq.pur 11 (some 148) (Sq.b 28 4095) HT_.out ?_
  refine Sq.pur 12 (some 149) (Sq.b 28 8191) HT_.out ?_
  refine Sq.pur 13 (some 150) (Sq.b 28 16383) HT_.out ?_
  refine Sq.pur 14 (some 151) (Sq.b 28 32767) HT_.out ?_
  refine Sq.pur 15 (some 152) (Sq.b 28 65535) HT_.out ?_
  refine Sq.pur 16 (some 153) (Sq.b 28 131071) HT_.out ?_
  refine Sq.pur 17 (some 154) (Sq.b 28 262143) HT_.out ?_
  refine Bx.und 18 (some 155) (Sq.b 28 524287) HT_.out ?_
  refine Bx.und 19 (some 156) (Sq.b 28 1048575) HT_.out ?_
  refine Bx.und 20 (some 157) (Sq.b 28 2097151) HT_.out ?_
  refine Bx.und 21 (some 158) (Sq.b 28 4194303) HT_.out ?_
  refine Bx.und 22 (some 159) (Sq.b 28 8388607) HT_.out ?_
  refine Bx.und 23 (some 160) (Sq.b 28 16777215) HT_.out ?_
  refine Bx.und 24 (some 161) (Sq.b 28 33554431) HT_.out ?_
  refine Bx.und 25 (some 162) (Sq.b 28 67108863) HT_.out ?_
  refine Sq.pur 26 (some 163) (Sq.b 28 134217727) HT_.out ?_
  refine Sq.pur 27 (some 164) (Sq.b 28 268435455) HT_.out ?_
  refine done_ (done_of HT_.out Z12) ?_
  go_wp2_with (first | ((with_reducible refine Pre.gate_store 9 rfl ?_); refine Bx.st HO ?_; clear HO; intro w9 HO) | ((with_reducible refine Pre.gate_load 32 rfl ?_); refine Bx.ldsw HO HX.out Tryz.underlying32 ?_) | ((with_reducible refine gate_dst (N := 15) rfl ?_); refine Bx.mk 15 #[.int .i64 0, .int .i64 0, .int .i64 0, .string ⟨#[]⟩, .int .i64 0, .int .i64 0, .string ⟨#[]⟩, .int .i64 0, .int .i64 0, .string ⟨#[]⟩, .int .i64 0, .string ⟨#[]⟩, .int .i64 0, .int .i64 0, .int .i64 0, .int .i64 0, .int .i64 0, .int .i64 0, .int .i64 0, .string ⟨#[]⟩, .string ⟨#[]⟩, .slice none 0 0, .int .i64 0, .string ⟨#[]⟩, .slice none 0 0] 32 HO ?_; clear HO; intro g15 hQ HO) | ((with_reducible refine Pre.gate_store 32 rfl ?_); refine Bx.sts HO ?_; clear HO; intro w9 HO) | ((with_reducible refine Pre.gate_load 3 rfl ?_); (try (refine gate_guard Z16 ?_; dsimp only)); refine Bx.ld HO Tryz.underlying3 ?_) | ((with_reducible refine Pre.gate_load 9 rfl ?_); (try (refine gate_guard Z16 ?_; dsimp only)); refine Bx.ld HO Tryz.underlying9 ?_) | ((with_reducible refine Pre.gate_load 9 rfl ?_); (try (refine gate_guard Z16 ?_; dsimp only)); refine Bx.ldw HO X2.out Tryz.underlying9 ?_))
  go_roundg k1
  case measure => have := HK1.out; omega
  case rel => exact ⟨_, _, _, _, _, rfl, rfl, HA, ⟨Z35⟩, ⟨HO.out.sub (by repeat (first | exact List.Sublist.refl _ | apply List.Sublist.cons_cons | apply List.Sublist.cons))⟩⟩

end Go.Proofs.YtnllanjoebjeiaaGreat.PW
