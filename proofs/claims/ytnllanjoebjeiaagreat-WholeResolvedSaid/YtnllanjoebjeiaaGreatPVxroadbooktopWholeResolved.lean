-- Written by mp.py, a program of this work (wip/tools), out of the translation; Lean checks it.
import Derived.Test.YtnllanjoebjeiaaGreatPVxZ
import Derived.Test.YtnllanjoebjeiaaGreatPVxoutlet
import Derived.Test.YtnllanjoebjeiaaGreatPVxroadbookref07
import Derived.Test.YtnllanjoebjeiaaGreatPVxroadbookref18
import Derived.Test.YtnllanjoebjeiaaGreatPVxroadbookref21
import Derived.Test.YtnllanjoebjeiaaGreatPVxroadbookref22
import Derived.Test.YtnllanjoebjeiaaGreatPVxroadbooktop
import Derived.Test.YtnllanjoebjeiaaGreatBox
namespace Go.Proofs.YtnllanjoebjeiaaGreat.PV
open Go.RowKit Go.Proofs.YtnllanjoebjeiaaGreatW.PrintWords Go.Proofs.YtnllanjoebjeiaaGreatW.PrintLast Go.Proofs.YtnllanjoebjeiaaGreatW.PrintMore
attribute [local go_sem] max2_int min2_int max_two min_two max_three min_three max_four min_four   -- for this text's walks alone
set_option linter.unusedVariables false
set_option linter.unusedSimpArgs false

/-! ### roadbooktop_WholeResolved: function 5 -/
/-- The next Update from a place on, or the list's end. -/
def roadbooktop_WholeResolved.nx : Nat → List S32 → Int → Option Int
 | 0, _, _ => none
 | k + 1, l0, n => if n < (l0.length : Int) then (if 0 ≤ n then (if (rd_T32 l0 n).f0 = 11 then some n else roadbooktop_WholeResolved.nx k l0 (wrap64 (n + 1))) else none) else some n
/-- An Update's TLV, what it says, and what is known behind it. -/
structure roadbooktop_WholeResolved.Up (k : Nat) (d : ByteArray) (p1 p2 p3 h0 h1 id r1 r2 r3 : ByteArray) (M : S32) (y ah a : ByteArray) (ae fl pl om i s m c b n : Int) (l : List S80) (X Y dp : ByteArray) (j : Nat) : Prop where
 ta : roadbookref22_update.Ta k d y ae fl pl om i s m c b n l
 ew : roadbookref21_Whole.f k ae (ah ++ y) pl = some a
 hz : ah.size + y.size ≤ 9223372036854775807
 tod : roadbookref22_update.To ae m h0 h1 id X Y
 hy : (ae = 0 ∧ fl = 0 ∧ (om = 0 ∧ ah = ⟨#[]⟩) ∧ r1 = p1 ∧ r2 = p2 ∧ r3 = p3) ∨ (ae ≠ 0 ∧ fl = 128 ∧ ((om = 0 ∧ ah = ⟨#[]⟩) ∨ (0 < om ∧ dp ≠ ⟨#[]⟩ ∧ b ≤ (dp.size : Int) ∧ 0 ≤ b ∧ om ≤ ((dp.size - b.toNat : Nat) : Int) ∧ (dp.extract b.toNat dp.size).extract 0 om.toNat = ah)) ∧ (∀ g w, (Instr.indexAt 43 (.pointer (some ⟨g, 0, none⟩)) (.int .i64 ae)).run Tryz.prog w = .ok (.pointer (some ⟨g, j, none⟩)) w) ∧ (#[.string ⟨#[]⟩, .string p1, .string p2, .string p3, .string h0, .string h1, .string id] : Array Value)[j]? = some (.string dp) ∧ (#[.string ⟨#[]⟩, .string p1, .string p2, .string p3, .string h0, .string h1, .string id] : Array Value).setIfInBounds j (.string a) = #[.string ⟨#[]⟩, .string r1, .string r2, .string r3, .string h0, .string h1, .string id] ∧ Nat.ble (j + 1) 7 = true)
 hM : M = ⟨11, 0, 0, ⟨#[]⟩, 0, ae, a, pl, 0, Y, m, X, s, 0, i, 0, 0, 0, 0, ⟨#[]⟩, ⟨#[]⟩, [], 0, ⟨#[]⟩, l⟩
/-- What a TLV does to what is known, and the message that it tells. -/
def roadbooktop_WholeResolved.st (k : Nat) (ty : Int) (d : ByteArray) (p1 p2 p3 h0 h1 id r1 r2 r3 g0 g1 jd : ByteArray) (mo : Option S32) : Prop :=
 (ty = 6 ∧ mo = none ∧ 10 ≤ d.size ∧ roadbookref22_fixed.f k d 10 = some (true, 0) ∧ r1 = p1 ∧ r2 = p2 ∧ r3 = p3 ∧ g0 = h0 ∧ g1 = h1 ∧ jd = d.extract 2 10)
 ∨ (ty = 7 ∧ mo = none ∧ r1 = p1 ∧ r2 = p2 ∧ r3 = p3 ∧ jd = id ∧ ∃ x y ae n0 f b j, roadbookref22_Step.Ho k d x y ae n0 f b ⟨#[]⟩ p1 p2 p3 h0 h1 id g0 g1 j)
 ∨ (ty = 8 ∧ g0 = h0 ∧ g1 = h1 ∧ jd = id ∧ ∃ M y ah a ae fl pl om i s m c b n l X Y dp j, mo = some M ∧ roadbooktop_WholeResolved.Up k d p1 p2 p3 h0 h1 id r1 r2 r3 M y ah a ae fl pl om i s m c b n l X Y dp j)
def roadbooktop_WholeResolved.lo : Nat → List S32 → List S48 → Int → Int → ByteArray → ByteArray → ByteArray → ByteArray → ByteArray → ByteArray → Prop
 | 0, _, _, _, _, _, _, _, _, _, _ => False
 | k + 1, l0, tl, i, n, p1, p2, p3, h0, h1, id => (i < (tl.length : Int) → 0 ≤ i ∧ ((((rd_T48 tl i).f0 < 6 ∨ 8 < (rd_T48 tl i).f0) ∧ roadbooktop_WholeResolved.lo k l0 tl (wrap64 (i + 1)) n p1 p2 p3 h0 h1 id) ∨ (6 ≤ (rd_T48 tl i).f0 ∧ (rd_T48 tl i).f0 ≤ 8 ∧ ∃ r1 r2 r3 g0 g1 jd mo q, roadbooktop_WholeResolved.st k (rd_T48 tl i).f0 (rd_T48 tl i).f2 p1 p2 p3 h0 h1 id r1 r2 r3 g0 g1 jd mo ∧ roadbooktop_WholeResolved.nx k l0 n = some q ∧ (mo = none → roadbooktop_WholeResolved.lo k l0 tl (wrap64 (i + 1)) q r1 r2 r3 g0 g1 jd) ∧ ∀ M, mo = some M → 0 ≤ q ∧ q < (l0.length : Int) ∧ rd_T32 l0 q = M ∧ roadbooktop_WholeResolved.lo k l0 tl (wrap64 (i + 1)) (wrap64 (q + 1)) r1 r2 r3 g0 g1 jd)))
   ∧ (¬ i < (tl.length : Int) → roadbooktop_WholeResolved.nx k l0 n = some (l0.length : Int) ∧ roadbooktop_awake.f 80 = some true)
def roadbooktop_WholeResolved.f (k : Nat) (l0 : List S32) : Prop := ∃ r, roadbookref07_FewAll.f k l0 40 = some r ∧ (r = false → roadbooktop_awake.f 80 = some true) ∧ (r = true → ∃ b x1 e, outlet_Encode.f k l0 = some (b, x1, e) ∧ (e ≠ 0 → roadbooktop_awake.f 80 = some true) ∧ (e = 0 → ∃ s x2 tl x4, roadbookref18_Body.f b = some (s, x2, 0) ∧ roadbookref18_Split.f k s 4 = some (tl, x4, 0) ∧ roadbooktop_WholeResolved.lo k l0 tl 0 0 ⟨#[]⟩ ⟨#[]⟩ ⟨#[]⟩ ⟨#[]⟩ ⟨#[]⟩ ⟨#[]⟩))
/-- The slice of what a TLV tells. -/
def roadbooktop_WholeResolved.Ms (v : Value) (mo : Option S32) (rs : List Bx.Box) : Prop := (mo = none ∧ v = .slice none 0 0) ∨ ∃ M gr A cp r2, mo = some M ∧ v = .slice (some ⟨gr, 0, none⟩) 1 1 ∧ M.f21 = [] ∧ rs = (gr, #[.int .i64 M.f0, .int .i64 M.f1, .int .i64 M.f2, .string M.f3, .int .i64 M.f4, .int .i64 M.f5, .string M.f6, .int .i64 M.f7, .int .i64 M.f8, .string M.f9, .int .i64 M.f10, .string M.f11, .int .i64 M.f12, .int .i64 M.f13, .int .i64 M.f14, .int .i64 M.f15, .int .i64 M.f16, .int .i64 M.f17, .int .i64 M.f18, .string M.f19, .string M.f20, .slice none 0 0, .int .i64 M.f22, .string M.f23, .slice A M.f24.length cp], 32) :: r2 ∧ Aside0 (roadbookref21_Take.Rw A cp M.f24 r2)
theorem roadbooktop_WholeResolved.step (k : Nat) (ty at_ : Int) (d : ByteArray) (p1 p2 p3 h0 h1 id r1 r2 r3 g0 g1 jd : ByteArray) (mo : Option S32) (hs : List Bx.Box) (B : Nat) (w0 w : World) (HO : Aside0 (Bx.Own B w0 w hs)) (h : roadbooktop_WholeResolved.st k ty d p1 p2 p3 h0 h1 id r1 r2 r3 g0 g1 jd mo) :
  Calls Tryz.prog 18 #[.agg #[.string ⟨#[]⟩, .string p1, .string p2, .string p3, .string h0, .string h1, .string id], .agg #[.int .i64 ty, .int .i64 at_, .string d]] w fun e w' => ∃ v rs, e = .returned (.tuple #[.agg #[.string ⟨#[]⟩, .string r1, .string r2, .string r3, .string g0, .string g1, .string jd], v, .int .i64 0]) ∧ Aside0 (roadbooktop_WholeResolved.Ms v mo rs) ∧ Aside0 (Bx.Own B w0 w' (hs ++ rs)) := by
 rcases h with ⟨rfl, rfl, h1, h2, rfl, rfl, rfl, rfl, rfl, rfl⟩ | ⟨rfl, rfl, rfl, rfl, rfl, rfl, x, y, ae, n0, f, b, j, h⟩ | ⟨rfl, rfl, rfl, rfl, M, y, ah, a, ae, fl, pl, om, i, s, m, c, b, n, l, X, Y, dp, j, rfl, h⟩
 ·refine (roadbookref22_Step.calls6 k at_ d ⟨#[]⟩ _ _ _ _ _ _ hs B w0 w HO h1 h2).mono ?_
  rintro e w' ⟨rfl, HO⟩
  exact ⟨_, [], rfl, ⟨.inl ⟨rfl, rfl⟩⟩, by rw [List.append_nil]; exact HO⟩
 ·refine (roadbookref22_Step.calls7 k at_ d x y ae n0 f b ⟨#[]⟩ _ _ _ _ _ _ _ _ j hs B w0 w HO h).mono ?_
  rintro e w' ⟨rfl, HO⟩
  exact ⟨_, [], rfl, ⟨.inl ⟨rfl, rfl⟩⟩, by rw [List.append_nil]; exact HO⟩
 ·refine (roadbookref22_Step.calls8 k at_ d y ah a ae fl pl om i s m c b n l X Y ⟨#[]⟩ _ _ _ _ _ _ _ _ _ dp j hs B w0 w HO h.ta h.ew h.hz h.tod h.hy).mono ?_
  rintro e w' ⟨A, cp, rs, gr, rfl, HR, HO⟩
  have hM := h.hM
  subst hM
  exact ⟨_, _ :: rs, rfl, ⟨.inr ⟨_, gr, A, cp, rs, rfl, rfl, rfl, rfl, HR⟩⟩, ⟨HO.out.perm List.perm_middle.symm⟩⟩
theorem roadbooktop_WholeResolved.tlv {w : World} {A : Option Addr} {n : Nat} {xs : List S48 } (h : Kd.C k48 w A n xs) (i : Int) (h0 : 0 ≤ i) (h1 : i < n) : ∃ ad, A = some ad ∧ w.cell? (ad.add (i.toNat * 3)) = some (.int .i64 (rd_T48 xs i).f0) ∧ ∀ j u, [Value.int .i64 (rd_T48 xs i).f0, .int .i64 (rd_T48 xs i).f1, .string (rd_T48 xs i).f2][j]? = some u → w.cell? ((ad.add (i.toNat * 3)).add j) = some u := by
 obtain ⟨ad, c, e, _, hK, cO⟩ := Kd.C_get h z48 i h0 h1
 have hc : ∀ j u, c[j]? = some u → w.cell? (ad.add (i.toNat * 3 + j)) = some u := cO
 obtain ⟨_, _, rfl, rfl, _, _, rfl, rfl, rfl⟩ := hK
 exact ⟨ad, e, hc 0 _ rfl, fun j u hj => by rw [add_add]; exact hc j u hj⟩
def roadbooktop_WholeResolved.T16 : Bool × List (List Nat × List Nat) := (true, [([], []), ([], []), ([], []), ([1, 2], [1, 2]), ([3], [3]), ([0, 4], [0, 4]), ([5], [5]), ([6], [6]), ([6], [6]), ([6], [6]), ([], []), ([10, 7, 5, 0, 1, 2, 3, 4, 5, 6, 7, 10], [7, 10]), ([8, 11, 0, 1, 2, 3, 4, 5, 6, 7, 8, 10, 11], [8]), ([9, 12, 0, 1, 2, 3, 4, 5, 6, 7, 8, 9, 10, 11, 12], [9])])
def roadbooktop_WholeResolved.B16 : List Nat := [0, 0, 0, 6, 14, 31, 63, 127, 127, 127, 0, 1279, 3583, 8191]
theorem roadbooktop_WholeResolved.tab16 : rtab .any (opsOf Tryz.f5 16) = roadbooktop_WholeResolved.T16 := by kernel_rfl
theorem roadbooktop_WholeResolved.bits16 : waitsOk roadbooktop_WholeResolved.T16.2 roadbooktop_WholeResolved.B16 = true := by kernel_rfl
def roadbooktop_WholeResolved.T23 : Bool × List (List Nat × List Nat) := (true, [([], []), ([0], [0]), ([1], [1]), ([], []), ([], []), ([3, 4], [3, 4]), ([5], [5]), ([2, 6], [2, 6]), ([7], [7])])
def roadbooktop_WholeResolved.B23 : List Nat := [0, 1, 3, 0, 0, 24, 56, 127, 255]
theorem roadbooktop_WholeResolved.tab23 : rtab .any (opsOf Tryz.f5 23) = roadbooktop_WholeResolved.T23 := by kernel_rfl
theorem roadbooktop_WholeResolved.bits23 : waitsOk roadbooktop_WholeResolved.T23.2 roadbooktop_WholeResolved.B23 = true := by kernel_rfl
set_option maxHeartbeats 8000000 in
set_option maxRecDepth 100000 in
theorem roadbooktop_WholeResolved.calls (k : Nat) (A0 : Option Addr) (c0 : Nat) (l0 : List S32) (r : Bool) (w : World) (du : Kd.C k32 w A0 l0.length l0) (cO : l0.length ≤ c0) (hr_ : Aside0 (r = true)) (h : roadbooktop_WholeResolved.f k l0) :
  Calls Tryz.prog 5 #[.slice A0 l0.length c0] w fun e w' => e = .returned (.bool r) ∧ Below w.heap.size w w' := by
 obtain rfl := hr_.out
 have dv := Aside0.mk du
 have eC := Aside0.mk cO
 have HB0 := Aside0.mk (Below.refl w.heap.size w)
 clear du cO hr_
 have dP := Tryz.underlying32
 have hu48 := Tryz.underlying48
 have ic := Tryz.underlying46
 obtain ⟨few, h1, hA, h⟩ := h
 have A1 := Aside0.mk h1
 clear h1
 cases few
 ·have AW := Aside0.mk (hA rfl)
  clear h hA
  go_enter Tryz.func5, Tryz.ntmps5
  go_wp2_with (first | ((with_reducible refine gate_callee (f := 9) rfl ?_); refine goesL_ (some 19) rfl rfl Tryz.func9 Z12 rfl #[.slice A0 l0.length c0, .int .i64 40] rfl (by (try simp only [List.map_toArray, List.map_cons, List.map_nil]); first | done | rfl) ?_; (with_reducible refine (roadbookref07_FewAll.calls k A0 c0 l0 40 false _ (Kd.C_below dv.out HB0.out) eC.out A1.out).mono ?_); rintro e w8 ⟨rfl, hb⟩; refine ⟨_, rfl, ?_⟩; replace HB0 := Aside0.mk (below_step HB0.out (show Below _ _ _ from hb)); clear hb) | ((with_reducible refine gate_callee (f := 10) rfl ?_); refine goesL_ (some 21) rfl rfl Tryz.func10 Z12 rfl #[] rfl (by (try simp only [List.map_toArray, List.map_cons, List.map_nil]); first | done | rfl) ?_; (with_reducible refine (roadbooktop_awake.calls 80 true _ ⟨rfl⟩ AW.out).mono ?_); rintro e w8 ⟨rfl, hb⟩; refine ⟨_, rfl, ?_⟩; replace HB0 := Aside0.mk (below_step HB0.out (show Below _ _ _ from hb)); clear hb))
  go_ret
  exact ⟨rfl, HB0.out⟩
 obtain ⟨b, x1, e_, h2, hA2, h⟩ := h rfl
 have A2 := Aside0.mk h2
 clear h2 hA
 by_cases c : e_ = 0
 rotate_left
 ·have AW := Aside0.mk (hA2 c)
  have f1 : (e_ != 0) = true := bne_iff_ne.mpr c
  clear h c hA2
  go_enter Tryz.func5, Tryz.ntmps5
  go_wp2_with (first | ((with_reducible refine gate_callee (f := 9) rfl ?_); refine goesL_ (some 19) rfl rfl Tryz.func9 Z12 rfl #[.slice A0 l0.length c0, .int .i64 40] rfl (by (try simp only [List.map_toArray, List.map_cons, List.map_nil]); first | done | rfl) ?_; (with_reducible refine (roadbookref07_FewAll.calls k A0 c0 l0 40 true _ (Kd.C_below dv.out HB0.out) eC.out A1.out).mono ?_); rintro e w8 ⟨rfl, hb⟩; refine ⟨_, rfl, ?_⟩; replace HB0 := Aside0.mk (below_step HB0.out (show Below _ _ _ from hb)); clear hb) | ((with_reducible refine gate_callee (f := 15) rfl ?_); refine goesL_ (some 24) rfl rfl Tryz.func15 Z12 rfl #[.slice A0 l0.length c0] rfl (by (try simp only [List.map_toArray, List.map_cons, List.map_nil]); first | done | rfl) ?_; (with_reducible refine (outlet_Encode.calls k A0 c0 l0 b x1 e_ _ (Kd.C_below dv.out HB0.out) eC.out A2.out).mono ?_); rintro e w8 ⟨rfl, hb⟩; refine ⟨_, rfl, ?_⟩; replace HB0 := Aside0.mk (below_step HB0.out (show Below _ _ _ from hb)); clear hb) | ((with_reducible refine gate_callee (f := 10) rfl ?_); refine goesL_ (some 30) rfl rfl Tryz.func10 Z12 rfl #[] rfl (by (try simp only [List.map_toArray, List.map_cons, List.map_nil]); first | done | rfl) ?_; (with_reducible refine (roadbooktop_awake.calls 80 true _ ⟨rfl⟩ AW.out).mono ?_); rintro e w8 ⟨rfl, hb⟩; refine ⟨_, rfl, ?_⟩; replace HB0 := Aside0.mk (below_step HB0.out (show Below _ _ _ from hb)); clear hb))
  go_ret
  exact ⟨rfl, HB0.out⟩
 obtain ⟨s, x2, tl, x4, h3, h4, h⟩ := h c
 have f1 : (e_ != 0) = false := bne_eq_false_iff_eq.mpr c
 have A3 := Aside0.mk h3
 have A4 := Aside0.mk h4
 have HL := Aside0.mk h
 clear h h3 h4 c hA2
 go_enter Tryz.func5, Tryz.ntmps5
 go_upto_region 8 with (first | ((with_reducible refine gate_callee (f := 9) rfl ?_); refine goesL_ (some 19) rfl rfl Tryz.func9 Z12 rfl #[.slice A0 l0.length c0, .int .i64 40] rfl (by (try simp only [List.map_toArray, List.map_cons, List.map_nil]); first | done | rfl) ?_; (with_reducible refine (roadbookref07_FewAll.calls k A0 c0 l0 40 true _ (Kd.C_below dv.out HB0.out) eC.out A1.out).mono ?_); rintro e w8 ⟨rfl, hb⟩; refine ⟨_, rfl, ?_⟩; replace HB0 := Aside0.mk (below_step HB0.out (show Below _ _ _ from hb)); clear hb) | ((with_reducible refine gate_callee (f := 15) rfl ?_); refine goesL_ (some 24) rfl rfl Tryz.func15 Z12 rfl #[.slice A0 l0.length c0] rfl (by (try simp only [List.map_toArray, List.map_cons, List.map_nil]); first | done | rfl) ?_; (with_reducible refine (outlet_Encode.calls k A0 c0 l0 b x1 e_ _ (Kd.C_below dv.out HB0.out) eC.out A2.out).mono ?_); rintro e w8 ⟨rfl, hb⟩; refine ⟨_, rfl, ?_⟩; replace HB0 := Aside0.mk (below_step HB0.out (show Below _ _ _ from hb)); clear hb) | ((with_reducible refine gate_callee (f := 16) rfl ?_); refine goesL_ (some 33) rfl rfl Tryz.func16 Z12 rfl #[.string b] rfl (by (try simp only [List.map_toArray, List.map_cons, List.map_nil]); first | done | rfl) ?_; (with_reducible refine (roadbookref18_Body.calls b s x2 0 _ A3.out).mono ?_); rintro e w8 ⟨rfl, hd⟩; refine ⟨_, rfl, ?_⟩; replace HB0 := Aside0.mk (show Below w.heap.size w _ from (Bx.dr (⟨⟨HB0.out, Nat.le_refl _, fun _ h => absurd h Z27, List.Pairwise.nil⟩⟩ : Aside0 (Bx.Own w.heap.size w _ [])) hd).out.below); clear hd) | ((with_reducible refine gate_callee (f := 17) rfl ?_); refine goesL_ (some 39) rfl rfl Tryz.func17 Z12 rfl #[.string s, .int .i64 4] rfl (by (try simp only [List.map_toArray, List.map_cons, List.map_nil]); first | done | rfl) ?_; (with_reducible refine (roadbookref18_Split.calls k s 4 tl x4 0 _ A4.out).mono ?_); rintro e w8 ⟨v, rfl, hrow, hb⟩; refine ⟨_, rfl, ?_⟩; replace HB0 := Aside0.mk (below_step HB0.out hb); clear hb; obtain ⟨At, ct, et⟩ := Kd.R_slice hrow; subst et; have CT := Aside0.mk (Kd.R_reads' hrow).2.2; clear hrow))
 rename_i wz
 have HO := Bx.start w8
 go_wp2_with (first | ((with_reducible refine gate_dst (N := 12) rfl ?_); refine Bx.mk 12 #[.string ⟨#[]⟩, .string ⟨#[]⟩, .string ⟨#[]⟩, .string ⟨#[]⟩, .string ⟨#[]⟩, .string ⟨#[]⟩, .string ⟨#[]⟩] 46 HO ?_; clear HO; intro g12 iv HO))
 go_loopg [13, 14] k (fun kq fi eQ w' => ∃ (n i : Int) (p1 p2 p3 h0 h1 id : ByteArray), fi = .int .i64 n ∧ eQ = .int .i64 i ∧ Aside0 (roadbooktop_WholeResolved.lo kq l0 tl i n p1 p2 p3 h0 h1 id) ∧ Aside0 (kq ≤ k) ∧ Aside0 (Bx.Own w8.heap.size w8 w' ((g12, #[.string ⟨#[]⟩, .string p1, .string p2, .string p3, .string h0, .string h1, .string id], 46) :: [])))
 case atStart => exact ⟨0, 0, _, _, _, _, _, _, rfl, rfl, HL, ⟨Nat.le_refl _⟩, HO⟩
 case round =>
 clear HL HO
 obtain ⟨n, i, p1, p2, p3, h0, h1, id, rfl, rfl, HA, HK1, HO⟩ := hrel
 cases gk with
 | zero => exact absurd HA.out (by simp [roadbooktop_WholeResolved.lo])
 | succ k1 =>
 have H := HA.out
 clear HA
 unfold roadbooktop_WholeResolved.lo at H
 by_cases c1 : i < (tl.length : Int)
 rotate_left
 ·obtain ⟨hq, hA⟩ := H.2 c1
  have f1 : decide (i < (tl.length : Int)) = false := decide_eq_false c1
  obtain ⟨q, eq⟩ : ∃ q, q = (l0.length : Int) := ⟨_, rfl⟩
  rw [← eq] at hq
  have HM := Aside0.mk hq
  have AW := Aside0.mk hA
  have EQ := Aside0.mk eq
  clear H c1 hq hA eq
  go_upto_block 4 with fail
  go_cut [13] (fun fi wc => fi = .int .i64 q ∧ Aside0 (Bx.Own w8.heap.size w8 wc ((g12, #[.string ⟨#[]⟩, .string p1, .string p2, .string p3, .string h0, .string h1, .string id], 46) :: [])))
  case first =>
   go_wp2
   go_loopg [13] k1 (fun kq fi w' => ∃ n2 : Int, fi = .int .i64 n2 ∧ Aside0 (roadbooktop_WholeResolved.nx kq l0 n2 = some q) ∧ Aside0 (kq ≤ k1) ∧ Aside0 (Bx.Own w8.heap.size w8 w' ((g12, #[.string ⟨#[]⟩, .string p1, .string p2, .string p3, .string h0, .string h1, .string id], 46) :: [])))
   case atStart => exact ⟨n, rfl, HM, ⟨Nat.le_refl _⟩, HO⟩
   case round =>
   clear HM HO
   obtain ⟨n2, rfl, HM, HK2, HO⟩ := hrel
   cases gk with
   | zero => exact absurd HM.out (by simp [roadbooktop_WholeResolved.nx])
   | succ k2 =>
   have H := HM.out
   clear HM
   simp only [roadbooktop_WholeResolved.nx] at H
   by_cases c5 : n2 < (l0.length : Int)
   rotate_left
   ·rw [if_neg c5] at H
    have f5 : decide (n2 < (l0.length : Int)) = false := decide_eq_false c5
    obtain rfl := Option.some.inj H
    clear H c5
    go_wp2
    go_meet
    case rel => exact ⟨rfl, HO⟩
   rw [if_pos c5] at H
   by_cases c6 : 0 ≤ n2
   rotate_left
   ·rw [if_neg c6] at H; exact absurd H Z27
   rw [if_pos c6] at H
   have f5 : decide (n2 < (l0.length : Int)) = true := decide_eq_true c5
   obtain ⟨ae, A_21, c_21, A_24, c_24, ea, hx0, -⟩ := at_T32 (Kd.C_below dv.out HB0.out) n2 c6 c5
   cases ea
   generalize (rd_T32 l0 n2).f0 = kd at H hx0
   have Y0 := Aside0.mk hx0
   have p5 := eq_true c6
   have q5 := eq_true c5
   clear hx0 c5 c6
   by_cases c7 : kd = 11
   ·rw [if_pos c7] at H
    have f7 : (kd != 11) = false := bne_eq_false_iff_eq.mpr c7
    obtain rfl := Option.some.inj H
    clear H c7
    go_wp2_with (first | ((with_reducible refine Pre.gate_load 3 rfl ?_); (try (refine gate_guard Z16 ?_; dsimp only)); refine Bx.ldw HO Y0.out Tryz.underlying3 ?_))
    go_meet
    case rel => exact ⟨rfl, HO⟩
   ·rw [if_neg c7] at H
    have f7 : (kd != 11) = true := bne_iff_ne.mpr c7
    have HM := Aside0.mk H
    clear H c7
    go_wp2_with (first | ((with_reducible refine Pre.gate_load 3 rfl ?_); (try (refine gate_guard Z16 ?_; dsimp only)); refine Bx.ldw HO Y0.out Tryz.underlying3 ?_))
    go_roundg k2
    case measure => have := HK2.out; omega
    case rel => exact ⟨wrap64 (n2 + 1), rfl, HM, ⟨by have := HK2.out; omega⟩, HO⟩
  case rest =>
  clear HO
  obtain ⟨rfl, HO⟩ := hcut
  have f9 : (q == (l0.length : Int)) = true := beq_iff_eq.mpr EQ.out
  go_wp2_with (first | ((with_reducible refine gate_callee (f := 10) rfl ?_); refine goesL_ (some 135) rfl rfl Tryz.func10 Z12 rfl #[] rfl (by (try simp only [List.map_toArray, List.map_cons, List.map_nil]); first | done | rfl) ?_; (with_reducible refine (roadbooktop_awake.calls 80 true _ ⟨rfl⟩ AW.out).mono ?_); rintro e w8 ⟨rfl, hb⟩; refine ⟨_, rfl, ?_⟩; replace HO := Bx.stp HO hb; clear hb))
  go_ret
  exact ⟨rfl, below_step HB0.out HO.out.below⟩
 have f1 : decide (i < (tl.length : Int)) = true := decide_eq_true c1
 obtain ⟨c2, H⟩ := H.1 c1
 obtain ⟨ad, ea, hx0, hx⟩ := roadbooktop_WholeResolved.tlv CT.out i c2 c1
 cases ea
 generalize (rd_T48 tl i).f0 = ty at H hx0 hx
 generalize (rd_T48 tl i).f1 = at_ at hx
 generalize (rd_T48 tl i).f2 = d at H hx
 have X0 := Aside0.mk hx0
 have HX := Aside0.mk hx
 have p := eq_true c2
 have q_ := eq_true c1
 clear hx0 hx c1 c2
 rcases H with ⟨c3, H⟩ | ⟨c3, c4, r1, r2, r3, g0, g1, jd, mo, q, hst, hq, hn, hm⟩
 ·have HA := Aside0.mk H
  clear H
  by_cases c4 : ty < 6
  ·have f3 : decide (ty < 6) = true := decide_eq_true c4
   clear c3 c4
   go_wp2_with (first | ((with_reducible refine Pre.gate_load 3 rfl ?_); (try (refine gate_guard Z16 ?_; dsimp only)); refine Bx.ldw HO X0.out Tryz.underlying3 ?_))
   go_roundg k1
   case measure => have := HK1.out; omega
   case rel => exact ⟨n, wrap64 (i + 1), _, _, _, _, _, _, rfl, rfl, HA, ⟨Z35⟩, ⟨HO.out.sub (by repeat (first | exact List.nil_sublist _ | exact List.Sublist.refl _ | apply List.Sublist.cons_cons | apply List.Sublist.cons))⟩⟩
  ·have f3 : decide (ty < 6) = false := decide_eq_false c4
   have f4 : decide (ty > 8) = true := decide_eq_true Z23
   clear c3 c4
   go_wp2_with (first | ((with_reducible refine Pre.gate_load 3 rfl ?_); (try (refine gate_guard Z16 ?_; dsimp only)); refine Bx.ldw HO X0.out Tryz.underlying3 ?_))
   go_roundg k1
   case measure => have := HK1.out; omega
   case rel => exact ⟨n, wrap64 (i + 1), _, _, _, _, _, _, rfl, rfl, HA, ⟨Z35⟩, ⟨HO.out.sub (by repeat (first | exact List.nil_sublist _ | exact List.Sublist.refl _ | apply List.Sublist.cons_cons | apply List.Sublist.cons))⟩⟩
 have f3 : decide (ty < 6) = false := decide_eq_false Z23
 have f4 : decide (ty > 8) = false := decide_eq_false Z23
 have ST := Aside0.mk hst
 have HM := Aside0.mk hq
 have HN := Aside0.mk hn
 have HM2 := Aside0.mk hm
 clear c3 c4 hst hq hn hm
 go_upto_region 16 with (first | ((with_reducible refine Pre.gate_load 3 rfl ?_); (try (refine gate_guard Z16 ?_; dsimp only)); refine Bx.ldw HO X0.out Tryz.underlying3 ?_))
 refine Bx.rgo (Sq.b 14 0) [11] [(g12, #[.string ⟨#[]⟩, .string p1, .string p2, .string p3, .string h0, .string h1, .string id], 46)] roadbooktop_WholeResolved.tab16 roadbooktop_WholeResolved.bits16 HO ?_
 clear HO
 intro w9 HO HS HT_ HW_
 refine Bx.rlds 0 70 (Sq.b 14 1) [.string ⟨#[]⟩, .string p1, .string p2, .string p3, .string h0, .string h1, .string id] HT_ HW_ HS Tryz.underlying46 ?_
 refine Sq.pur 1 (some 71) (Sq.b 14 3) HT_.out ?_
 refine Sq.pur 2 (some 72) (Sq.b 14 7) HT_.out ?_
 refine Sq.pur 3 (some 73) (Sq.b 14 15) HT_.out ?_
 refine Bx.rldA 4 74 (Sq.b 14 31) HT_ HW_ HS (fun v hv j u e => (hv.below.cell (World.block_lt_of_cell? w8 _ (HX.out j u e))).trans (HX.out j u e)) Tryz.underlying48 ?_
 refine two_ (i := 5) (j := 10) (Ni := some 75) (Nj := some 15) (Sq.b 14 63) (Sq.b 14 1055) rfl rfl rfl rfl (two_of HT_.out Z12) Z34 Z34 (fun K hK => ?_) (fun K hK => ?_)
 refine goes_ Tryz.func18 Z12 rfl #[.agg #[.string ⟨#[]⟩, .string p1, .string p2, .string p3, .string h0, .string h1, .string id], .agg #[.int .i64 ty, .int .i64 at_, .string d]] Z16 rfl rfl (by (try simp only [List.map_toArray, List.map_cons, List.map_nil]); first | done | rfl) ?_
 with_reducible refine (roadbooktop_WholeResolved.step k1 ty at_ d p1 p2 p3 h0 h1 id r1 r2 r3 g0 g1 jd mo _ _ _ _ HO ST.out).mono ?_
 rintro e w9 ⟨v, rs, rfl, MS, hH⟩
 refine ⟨_, rfl, ?_⟩
 clear HO; have HO := hH; clear hH; simp only [List.cons_append, List.nil_append] at HO
 refine hK.out _ _ (HO.out.sub (by repeat (first | exact List.nil_sublist _ | exact List.Sublist.refl _ | apply List.Sublist.cons_cons | apply List.Sublist.cons))) (fun _ => ?_)
 clear hK K
 refine norm_ (a' := ?_) ?_ ?_
 rotate_left
 ·show Act.put _ (some 75) _ = _
  simp only [Act.put, Sq.s1, Sq.s2, Sq.s3, i64_w, i32_w]
  rfl
 refine Sq.pur 6 (some 69) (Sq.b 14 127) HT_.out ?_
 refine Sq.pur 7 (some 76) (Sq.b 14 255) HT_.out ?_
 refine Sq.pur 8 (some 77) (Sq.b 14 511) HT_.out ?_
 refine Sq.pur 9 (some 78) (Sq.b 14 1023) HT_.out ?_
 refine one_ (i := 10) (N := some 15) (Sq.b 14 2047) rfl rfl (one_of HT_.out Z12) Z34 (fun K hK => ?_)
 refine Bx.smk 15 #[.string ⟨#[]⟩, .string ⟨#[]⟩, .string ⟨#[]⟩, .string ⟨#[]⟩, .string ⟨#[]⟩, .string ⟨#[]⟩, .string ⟨#[]⟩] 46 HO ?_
 clear HO
 intro g15 w9 HO
 refine hK.out _ _ (HO.out.sub (by repeat (first | exact List.nil_sublist _ | exact List.Sublist.refl _ | apply List.Sublist.cons_cons | apply List.Sublist.cons))) (fun _ => ?_)
 clear hK K
 refine norm_ (a' := ?_) ?_ ?_
 rotate_left
 ·show Act.put _ (some 15) _ = _
  simp only [Act.put, Sq.s1, Sq.s2, Sq.s3, i64_w, i32_w]
  rfl
 refine Bx.rsts 11 (Sq.b 14 4095) HT_ HO ?_
 clear HO
 intro w9 HO
 refine Sq.pur 12 (some 16) (Sq.b 14 8191) HT_.out ?_
 refine Sq.pur 13 (some 17) (Sq.b 14 16383) HT_.out ?_
 refine done_ (done_of HT_.out Z12) ?_
 rotate_left
 refine Bx.smk 15 #[.string ⟨#[]⟩, .string ⟨#[]⟩, .string ⟨#[]⟩, .string ⟨#[]⟩, .string ⟨#[]⟩, .string ⟨#[]⟩, .string ⟨#[]⟩] 46 HO ?_
 clear HO
 intro g15 w9 HO
 refine hK.out _ _ (HO.out.sub (by repeat (first | exact List.nil_sublist _ | exact List.Sublist.refl _ | apply List.Sublist.cons_cons | apply List.Sublist.cons))) (fun _ => ?_)
 clear hK K
 refine norm_ (a' := ?_) ?_ ?_
 rotate_left
 ·show Act.put _ (some 15) _ = _
  simp only [Act.put, Sq.s1, Sq.s2, Sq.s3, i64_w, i32_w]
  rfl
 refine one_ (i := 5) (N := some 75) (Sq.b 14 1087) rfl rfl (one_of HT_.out Z12) Z34 (fun K hK => ?_)
 refine goes_ Tryz.func18 Z12 rfl #[.agg #[.string ⟨#[]⟩, .string p1, .string p2, .string p3, .string h0, .string h1, .string id], .agg #[.int .i64 ty, .int .i64 at_, .string d]] Z16 rfl rfl (by (try simp only [List.map_toArray, List.map_cons, List.map_nil]); first | done | rfl) ?_
 with_reducible refine (roadbooktop_WholeResolved.step k1 ty at_ d p1 p2 p3 h0 h1 id r1 r2 r3 g0 g1 jd mo _ _ _ _ HO ST.out).mono ?_
 rintro e w9 ⟨v, rs, rfl, MS, hH⟩
 refine ⟨_, rfl, ?_⟩
 clear HO; have HO := hH; clear hH; simp only [List.cons_append, List.nil_append] at HO
 refine hK.out _ _ (HO.out.sub (by repeat (first | exact List.nil_sublist _ | exact List.Sublist.refl _ | apply List.Sublist.cons_cons | apply List.Sublist.cons))) (fun _ => ?_)
 clear hK K
 refine norm_ (a' := ?_) ?_ ?_
 rotate_left
 ·show Act.put _ (some 75) _ = _
  simp only [Act.put, Sq.s1, Sq.s2, Sq.s3, i64_w, i32_w]
  rfl
 refine Sq.pur 6 (some 69) (Sq.b 14 1151) HT_.out ?_
 refine Sq.pur 7 (some 76) (Sq.b 14 1279) HT_.out ?_
 refine Sq.pur 8 (some 77) (Sq.b 14 1535) HT_.out ?_
 refine Sq.pur 9 (some 78) (Sq.b 14 2047) HT_.out ?_
 refine Bx.rsts 11 (Sq.b 14 4095) HT_ HO ?_
 clear HO
 intro w9 HO
 refine Sq.pur 12 (some 16) (Sq.b 14 8191) HT_.out ?_
 refine Sq.pur 13 (some 17) (Sq.b 14 16383) HT_.out ?_
 refine done_ (done_of HT_.out Z12) ?_
 all_goals
  go_upto_block 2 with (first | ((with_reducible refine Pre.gate_load 46 rfl ?_); refine Bx.lds [.string ⟨#[]⟩, .string r1, .string r2, .string r3, .string g0, .string g1, .string jd] HO Tryz.underlying46 ?_) | ((with_reducible refine Pre.gate_store 46 rfl ?_); refine Bx.sts HO ?_; clear HO; intro w9 HO))
  try simp only [Act.put, Sq.s1, Sq.s2, Sq.s3]
  go_cut [13] (fun fi wc => fi = .int .i64 q ∧ Aside0 (Bx.Own w8.heap.size w8 wc ((g15, #[.string ⟨#[]⟩, .string r1, .string r2, .string r3, .string g0, .string g1, .string jd], 46) :: (g12, #[.string ⟨#[]⟩, .string r1, .string r2, .string r3, .string g0, .string g1, .string jd], 46) :: rs)))
  case first =>
   go_wp2
   go_loopg [13] k1 (fun kq fi w' => ∃ n2 : Int, fi = .int .i64 n2 ∧ Aside0 (roadbooktop_WholeResolved.nx kq l0 n2 = some q) ∧ Aside0 (kq ≤ k1) ∧ Aside0 (Bx.Own w8.heap.size w8 w' ((g15, #[.string ⟨#[]⟩, .string r1, .string r2, .string r3, .string g0, .string g1, .string jd], 46) :: (g12, #[.string ⟨#[]⟩, .string r1, .string r2, .string r3, .string g0, .string g1, .string jd], 46) :: rs)))
   case atStart => exact ⟨n, rfl, HM, ⟨Nat.le_refl _⟩, HO⟩
   case round =>
   clear HM HO
   obtain ⟨n2, rfl, HM, HK2, HO⟩ := hrel
   cases gk with
   | zero => exact absurd HM.out (by simp [roadbooktop_WholeResolved.nx])
   | succ k2 =>
   have H := HM.out
   clear HM
   simp only [roadbooktop_WholeResolved.nx] at H
   by_cases c5 : n2 < (l0.length : Int)
   rotate_left
   ·rw [if_neg c5] at H
    have f5 : decide (n2 < (l0.length : Int)) = false := decide_eq_false c5
    obtain rfl := Option.some.inj H
    clear H c5
    go_wp2
    go_meet
    case rel => exact ⟨rfl, HO⟩
   rw [if_pos c5] at H
   by_cases c6 : 0 ≤ n2
   rotate_left
   ·rw [if_neg c6] at H; exact absurd H Z27
   rw [if_pos c6] at H
   have f5 : decide (n2 < (l0.length : Int)) = true := decide_eq_true c5
   obtain ⟨ae, A_21, c_21, A_24, c_24, ea, hx0, -⟩ := at_T32 (Kd.C_below dv.out HB0.out) n2 c6 c5
   cases ea
   generalize (rd_T32 l0 n2).f0 = kd at H hx0
   have Y0 := Aside0.mk hx0
   have p5 := eq_true c6
   have q5 := eq_true c5
   clear hx0 c5 c6
   by_cases c7 : kd = 11
   ·rw [if_pos c7] at H
    have f7 : (kd != 11) = false := bne_eq_false_iff_eq.mpr c7
    obtain rfl := Option.some.inj H
    clear H c7
    go_wp2_with (first | ((with_reducible refine Pre.gate_load 3 rfl ?_); (try (refine gate_guard Z16 ?_; dsimp only)); refine Bx.ldw HO Y0.out Tryz.underlying3 ?_))
    go_meet
    case rel => exact ⟨rfl, HO⟩
   ·rw [if_neg c7] at H
    have f7 : (kd != 11) = true := bne_iff_ne.mpr c7
    have HM := Aside0.mk H
    clear H c7
    go_wp2_with (first | ((with_reducible refine Pre.gate_load 3 rfl ?_); (try (refine gate_guard Z16 ?_; dsimp only)); refine Bx.ldw HO Y0.out Tryz.underlying3 ?_))
    go_roundg k2
    case measure => have := HK2.out; omega
    case rel => exact ⟨wrap64 (n2 + 1), rfl, HM, ⟨by have := HK2.out; omega⟩, HO⟩
  case rest =>
  clear HO
  obtain ⟨rfl, HO⟩ := hcut
  rcases MS.out with ⟨rfl, rfl⟩ | ⟨M, gr, A, cp, rs2, rfl, rfl, e21, rfl, HR⟩
  ·have HA := Aside0.mk (HN.out rfl)
   clear HN HM2 MS ST
   go_wp2
   go_roundg k1
   case measure => have := HK1.out; omega
   case rel => exact ⟨q, wrap64 (i + 1), _, _, _, _, _, _, rfl, rfl, HA, ⟨Z35⟩, ⟨HO.out.sub (by repeat (first | exact List.nil_sublist _ | exact List.Sublist.refl _ | apply List.Sublist.cons_cons | apply List.Sublist.cons))⟩⟩
  obtain ⟨c5, c6, hM, h⟩ := HM2.out M rfl
  have HA := Aside0.mk h
  clear h HN HM2 MS ST
  obtain ⟨ae, A_21, c_21, A_24, c_24, ea, hx0, hx1, hx2, hx3, hx4, hx5, hx6, hx7, hx8, hx9, hx10, hx11, hx12, hx13, hx14, hx15, hx16, hx17, hx18, hx19, hx20, hx21, hx22, hx23, hx24, -, -, -, h24⟩ := at_T32 (Kd.C_below dv.out HB0.out) q c5 c6
  cases ea
  rw [hM] at hx0 hx1 hx2 hx3 hx4 hx5 hx6 hx7 hx8 hx9 hx10 hx11 hx12 hx13 hx14 hx15 hx16 hx17 hx18 hx19 hx20 hx21 hx22 hx23 hx24 h24
  obtain ⟨a0, a1, a2, a3, a4, a5, a6, a7, a8, a9, dc, dd, de, df, dg, dh, di, dj, dk, dl, dm, dn, dp, dq, dr⟩ := M
  dsimp only at hx0 hx1 hx2 hx3 hx4 hx5 hx6 hx7 hx8 hx9 hx10 hx11 hx12 hx13 hx14 hx15 hx16 hx17 hx18 hx19 hx20 hx21 hx22 hx23 hx24 h24 e21 HO HR
  subst e21
  simp only [List.length_nil] at hx21
  have HY := Aside0.mk (show ∀ j v, ([.int .i64 a0, .int .i64 a1, .int .i64 a2, .string a3, .int .i64 a4, .int .i64 a5, .string a6, .int .i64 a7, .int .i64 a8, .string a9, .int .i64 dc, .string dd, .int .i64 de, .int .i64 df, .int .i64 dg, .int .i64 dh, .int .i64 di, .int .i64 dj, .int .i64 dk, .string dl, .string dm, .slice A_21 0 c_21, .int .i64 dp, .string dq, .slice A_24 dr.length c_24] : List Value)[j]? = some v → w8.cell? ((ae.add (q.toNat * 25)).add j) = some v from Pre.range25)
  have H24 := Aside0.mk h24
  clear hx0 hx1 hx2 hx3 hx4 hx5 hx6 hx7 hx8 hx9 hx10 hx11 hx12 hx13 hx14 hx15 hx16 hx17 hx18 hx19 hx20 hx21 hx22 hx23 hx24 h24 hM
  have p5 := eq_true c5
  have q5 := eq_true c6
  have f8 : decide (q ≥ (l0.length : Int)) = false := decide_eq_false Z23
  have f9 : decide ((l0.length : Int) ≤ q) = false := decide_eq_false Z23
  clear c5 c6
  go_upto_region 23 with fail
  refine Bx.rgo (Sq.b 9 0) [] [(gr, #[.int .i64 a0, .int .i64 a1, .int .i64 a2, .string a3, .int .i64 a4, .int .i64 a5, .string a6, .int .i64 a7, .int .i64 a8, .string a9, .int .i64 dc, .string dd, .int .i64 de, .int .i64 df, .int .i64 dg, .int .i64 dh, .int .i64 di, .int .i64 dj, .int .i64 dk, .string dl, .string dm, .slice none 0 0, .int .i64 dp, .string dq, .slice A dr.length cp], 32)] roadbooktop_WholeResolved.tab23 roadbooktop_WholeResolved.bits23 HO ?_
  clear HO
  intro w9 HO HS HT_ HW_
  refine Sq.pur 0 (some 110) (Sq.b 9 1) HT_.out ?_
  refine Sq.pur 1 (some 111) (Sq.b 9 3) HT_.out ?_
  refine Bx.rlds 2 112 (Sq.b 9 7) [.int .i64 a0, .int .i64 a1, .int .i64 a2, .string a3, .int .i64 a4, .int .i64 a5, .string a6, .int .i64 a7, .int .i64 a8, .string a9, .int .i64 dc, .string dd, .int .i64 de, .int .i64 df, .int .i64 dg, .int .i64 dh, .int .i64 di, .int .i64 dj, .int .i64 dk, .string dl, .string dm, .slice none 0 0, .int .i64 dp, .string dq, .slice A dr.length cp] HT_ HW_ HS Tryz.underlying32 ?_
  refine Sq.pur 3 (some 113) (Sq.b 9 15) HT_.out ?_
  refine Sq.pur 4 (some 114) (Sq.b 9 31) HT_.out ?_
  refine Sq.pur 5 (some 115) (Sq.b 9 63) HT_.out ?_
  refine Bx.rldA 6 116 (Sq.b 9 127) HT_ HW_ HS (fun v hv j u e => (hv.below.cell (World.block_lt_of_cell? w8 _ (HY.out j u e))).trans (HY.out j u e)) Tryz.underlying32 ?_
  refine one_ (i := 7) (N := some 117) (Sq.b 9 255) rfl rfl (one_of HT_.out Z12) Z34 (fun K hK => ?_)
  refine goes_ Tryz.func19 Z12 rfl #[.agg #[.int .i64 a0, .int .i64 a1, .int .i64 a2, .string a3, .int .i64 a4, .int .i64 a5, .string a6, .int .i64 a7, .int .i64 a8, .string a9, .int .i64 dc, .string dd, .int .i64 de, .int .i64 df, .int .i64 dg, .int .i64 dh, .int .i64 di, .int .i64 dj, .int .i64 dk, .string dl, .string dm, .slice none 0 0, .int .i64 dp, .string dq, .slice A dr.length cp], .agg #[.int .i64 a0, .int .i64 a1, .int .i64 a2, .string a3, .int .i64 a4, .int .i64 a5, .string a6, .int .i64 a7, .int .i64 a8, .string a9, .int .i64 dc, .string dd, .int .i64 de, .int .i64 df, .int .i64 dg, .int .i64 dh, .int .i64 di, .int .i64 dj, .int .i64 dk, .string dl, .string dm, .slice A_21 0 c_21, .int .i64 dp, .string dq, .slice A_24 dr.length c_24]] Z16 rfl rfl (by (try simp only [List.map_toArray, List.map_cons, List.map_nil]); first | done | rfl) ?_
  with_reducible refine (roadbookref07_Same.callsE a0 a1 a2 a3 a4 a5 a6 a7 a8 a9 dc dd de df dg dh di dj dk dl dm dp dq none 0 A cp A_21 c_21 A_24 c_24 dr _ (roadbookref21_Take.C HR HO (by intro e he; repeat (first | exact he | exact List.mem_cons_of_mem _ he | apply List.mem_cons_of_mem))).2 (Kd.C_below H24.out (HO.out.below.mono (Nat.le_refl _)))).mono ?_
  rintro e w9 ⟨rfl, hb⟩
  refine ⟨_, rfl, ?_⟩
  replace HO := Bx.stp HO hb; clear hb
  refine hK.out _ _ (HO.out.sub (by repeat (first | exact List.nil_sublist _ | exact List.Sublist.refl _ | apply List.Sublist.cons_cons | apply List.Sublist.cons))) (fun _ => ?_)
  clear hK K
  refine norm_ (a' := ?_) ?_ ?_
  rotate_left
  ·show Act.put _ (some 117) _ = _
   simp only [Act.put, Sq.s1, Sq.s2, Sq.s3, i64_w, i32_w]
   rfl
  refine Sq.pur 8 (some 118) (Sq.b 9 511) HT_.out ?_
  refine done_ (done_of HT_.out Z12) ?_
  go_wp2
  go_roundg k1
  case measure => have := HK1.out; omega
  case rel => exact ⟨wrap64 (q + 1), wrap64 (i + 1), _, _, _, _, _, _, rfl, rfl, HA, ⟨Z35⟩, ⟨HO.out.sub (by repeat (first | exact List.nil_sublist _ | exact List.Sublist.refl _ | apply List.Sublist.cons_cons | apply List.Sublist.cons))⟩⟩

end Go.Proofs.YtnllanjoebjeiaaGreat.PV
