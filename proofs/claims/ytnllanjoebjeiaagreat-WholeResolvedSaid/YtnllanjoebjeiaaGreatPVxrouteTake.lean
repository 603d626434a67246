-- 7 texts in one (merge.py, a program of this work).
import Derived.Test.YtnllanjoebjeiaaGreatPVxZ
import Derived.Test.YtnllanjoebjeiaaGreatPVxframe
import Derived.Test.YtnllanjoebjeiaaGreatPVxmsg
import Derived.Test.YtnllanjoebjeiaaGreatBox
import Derived.Test.YtnllanjoebjeiaaGreatPVxcursor
import Derived.Test.YtnllanjoebjeiaaGreatPVxprefix
import Derived.Test.YtnllanjoebjeiaaGreatPVxrouteIn
-- Written by mp.py, a program of this work (wip/tools), out of the translation; Lean checks it.
namespace Go.Proofs.YtnllanjoebjeiaaGreat.PV
open Go.RowKit Go.Proofs.YtnllanjoebjeiaaGreatW.PrintWords Go.Proofs.YtnllanjoebjeiaaGreatW.PrintLast Go.Proofs.YtnllanjoebjeiaaGreatW.PrintMore
attribute [local go_sem] max2_int min2_int max_two min_two max_three min_three max_four min_four   -- for this text's walks alone
set_option linter.unusedVariables false
set_option linter.unusedSimpArgs false

/-! ### sub_Get: function 179 -/
theorem sub_Get.nil {s : ByteArray} (h : s.size = 0) : s = ⟨#[]⟩ := by
 cases s with
 | mk d => cases d with
  | mk l => cases l with
   | nil => rfl
   | cons x l => exact absurd h (by simp [ByteArray.size])
set_option maxHeartbeats 8000000 in
set_option maxRecDepth 100000 in
/-- Of no bytes alone. -/
theorem sub_Get.calls (s : ByteArray) (hs : s.size = 0) (w : World) :
  Calls Tryz.prog 179 #[.string s] w fun e w' => e = .returned (.tuple #[.slice none 0 0, .bool true, .int .i64 0]) ∧ Below w.heap.size w w' := by
 rw [sub_Get.nil hs]
 have HO := Bx.start w
 go_enter Tryz.func179, Tryz.ntmps179
 go_wp2_with (first | ((with_reducible refine gate_callee (f := 39) rfl ?_); refine goesL_ (some 14) rfl rfl Tryz.func39 Z12 rfl #[.string ⟨#[]⟩, .int .i64 0] rfl (by (try simp only [List.map_toArray, List.map_cons, List.map_nil]); first | done | rfl) ?_; (with_reducible refine (frame_Split.calls 1 ⟨#[]⟩ 0 0 [] _ _ _ _ HO Z12).mono ?_); clear HO; rintro e w8 ⟨v, rs, rfl, HR, HO⟩; refine ⟨_, rfl, ?_⟩; replace HR := HR.out; (cases HR with | nil => _ | row h_ _ => exact absurd h_ (Nat.lt_irrefl 0))))
 go_loopg [8, 9, 23] 0 (fun kq v8 v9 iq w' => v8 = .slice none 0 0 ∧ v9 = .bool true ∧ iq = .int .i64 0 ∧ Aside0 (Bx.Own w.heap.size w w' []))
 case atStart => exact ⟨rfl, rfl, rfl, HO⟩
 case round =>
  clear HO
  obtain ⟨rfl, rfl, rfl, HO⟩ := hrel
  go_wp2_with (first | ((with_reducible refine gate_callee (f := 167) rfl ?_); refine goesL_ (some 45) rfl rfl Tryz.func167 Z12 rfl #[.slice none ([] : List S80).length 0] rfl (by (try simp only [List.map_toArray, List.map_cons, List.map_nil]); first | done | rfl) ?_; (with_reducible refine (msg_Bytes.calls 1 none 0 [] 0 _ (Kd.C_nil _ _) (Nat.le_refl _) Z12).mono ?_); rintro e w8 ⟨rfl, hb⟩; refine ⟨_, rfl, ?_⟩; replace HO := Bx.stp HO hb; clear hb))
  go_ret3
  exact ⟨rfl, Bx.fin HO⟩

end Go.Proofs.YtnllanjoebjeiaaGreat.PV
-- Written by mp.py, a program of this work (wip/tools), out of the translation; Lean checks it.
namespace Go.Proofs.YtnllanjoebjeiaaGreat.PV
open Go.RowKit Go.Proofs.YtnllanjoebjeiaaGreatW.PrintWords Go.Proofs.YtnllanjoebjeiaaGreatW.PrintLast Go.Proofs.YtnllanjoebjeiaaGreatW.PrintMore
attribute [local go_sem] max2_int min2_int max_two min_two max_three min_three max_four min_four   -- for this text's walks alone
set_option linter.unusedVariables false
set_option linter.unusedSimpArgs false

/-! ### ctx_counts: function 194 -/
set_option maxHeartbeats 8000000 in
set_option maxRecDepth 100000 in
/-- Of ten bytes, all of which are fields. -/
theorem ctx_counts.calls (d : ByteArray) (hd : d.size = 10) (w : World) :
  Calls Tryz.prog 194 #[.string d, .int .i64 10] w fun e w' => e = .returned (.tuple #[.bool true, .int .i64 0]) ∧ Below w.heap.size w w' := by
 have HO := Bx.start w
 go_enter Tryz.func194, Tryz.ntmps194
 go_wp2_with (first | ((with_reducible refine gate_callee (f := 179) rfl ?_); refine goesL_ (some 17) rfl rfl Tryz.func179 Z12 rfl #[.string ByteArray.empty] rfl (by (try simp only [List.map_toArray, List.map_cons, List.map_nil]); first | done | rfl) ?_; (with_reducible refine (sub_Get.calls ByteArray.empty rfl _).mono ?_); rintro e w8 ⟨rfl, hb⟩; refine ⟨_, rfl, ?_⟩; replace HO := Bx.stp HO hb; clear hb))
 go_ret2
 exact ⟨rfl, Bx.fin HO⟩

end Go.Proofs.YtnllanjoebjeiaaGreat.PV
-- Written by mp.py, a program of this work (wip/tools), out of the translation; Lean checks it.
namespace Go.Proofs.YtnllanjoebjeiaaGreat.PV
open Go.RowKit Go.Proofs.YtnllanjoebjeiaaGreatW.PrintWords Go.Proofs.YtnllanjoebjeiaaGreatW.PrintLast Go.Proofs.YtnllanjoebjeiaaGreatW.PrintMore
attribute [local go_sem] max2_int min2_int max_two min_two max_three min_three max_four min_four   -- for this text's walks alone
set_option linter.unusedVariables false
set_option linter.unusedSimpArgs false

/-! ### route_reader_num: function 180 -/
set_option maxHeartbeats 8000000 in
set_option maxRecDepth 100000 in
theorem route_reader_num.calls (g : Nat) (hs hs' : List Bx.Box) (s : ByteArray) (p q : Int) (b : Bool) (n : Int) (r : Int) (s' : ByteArray) (p' q' : Int) (b' : Bool) (B : Nat) (w0 w : World) (HO : Aside0 (Bx.Own B w0 w hs)) (hU : Bx.Upd hs g #[.string s, .int .i64 p, .int .i64 q, .bool b] #[.string s', .int .i64 p', .int .i64 q', .bool b'] 187 hs') (h : cursor_Num.f s p q b n = some (r, s', p', q', b')) :
  Calls Tryz.prog 180 #[.pointer (some ⟨g, 0, none⟩), .int .i64 n] w fun e w' => e = .returned (.int .i64 r) ∧ Aside0 (Bx.Own B w0 w' hs') := by
 have A1 := Aside0.mk h
 have hA := hU.at
 have hu187 := Tryz.underlying187
 clear h
 go_enter Tryz.func180, Tryz.ntmps180
 go_wp2_with (first | ((with_reducible refine Pre.gate_load 105 rfl ?_); refine Bx.lds [.string s, .int .i64 p, .int .i64 q, .bool b] HO Tryz.underlying105 ?_) | ((with_reducible refine Pre.gate_load 105 rfl ?_); refine Bx.lds [.string s', .int .i64 p', .int .i64 q', .bool b'] HO Tryz.underlying105 ?_) | ((with_reducible refine gate_dst (N := 6) rfl ?_); refine Bx.mk 6 #[.string ⟨#[]⟩, .int .i64 0, .int .i64 0, .bool false] 105 HO ?_; clear HO; intro g1 w6 HO) | ((with_reducible refine Pre.gate_store 105 rfl ?_); refine Bx.sts HO ?_; clear HO; intro w9 HO) | ((with_reducible refine gate_callee (f := 144) rfl ?_); refine goesL_ (some 13) rfl rfl Tryz.func144 Z12 rfl #[.agg #[.string s, .int .i64 p, .int .i64 q, .bool b], .int .i64 n] rfl (by (try simp only [List.map_toArray, List.map_cons, List.map_nil]); first | done | rfl) ?_; (with_reducible refine (cursor_Num.calls s p q b n r s' p' q' b' _ A1.out).mono ?_); rintro e w8 ⟨rfl, hb⟩; refine ⟨_, rfl, ?_⟩; replace HO := Bx.stp HO hb; clear hb))
 go_ret
 exact ⟨rfl, Bx.drop HO⟩

end Go.Proofs.YtnllanjoebjeiaaGreat.PV
-- Written by mp.py, a program of this work (wip/tools), out of the translation; Lean checks it.
namespace Go.Proofs.YtnllanjoebjeiaaGreat.PV
open Go.RowKit Go.Proofs.YtnllanjoebjeiaaGreatW.PrintWords Go.Proofs.YtnllanjoebjeiaaGreatW.PrintLast Go.Proofs.YtnllanjoebjeiaaGreatW.PrintMore
attribute [local go_sem] max2_int min2_int max_two min_two max_three min_three max_four min_four   -- for this text's walks alone
set_option linter.unusedVariables false
set_option linter.unusedSimpArgs false

/-! ### route_reader_text: function 181 -/
set_option maxHeartbeats 8000000 in
set_option maxRecDepth 100000 in
theorem route_reader_text.calls (g : Nat) (hs hs' : List Bx.Box) (s : ByteArray) (p q : Int) (b : Bool) (n : Int) (r : ByteArray) (s' : ByteArray) (p' q' : Int) (b' : Bool) (B : Nat) (w0 w : World) (HO : Aside0 (Bx.Own B w0 w hs)) (hU : Bx.Upd hs g #[.string s, .int .i64 p, .int .i64 q, .bool b] #[.string s', .int .i64 p', .int .i64 q', .bool b'] 187 hs') (h : cursor_Text.f s p q b n = some (r, s', p', q', b')) :
  Calls Tryz.prog 181 #[.pointer (some ⟨g, 0, none⟩), .int .i64 n] w fun e w' => e = .returned (.string r) ∧ Aside0 (Bx.Own B w0 w' hs') := by
 have A1 := Aside0.mk h
 have hA := hU.at
 have hu187 := Tryz.underlying187
 clear h
 go_enter Tryz.func181, Tryz.ntmps181
 go_wp2_with (first | ((with_reducible refine Pre.gate_load 105 rfl ?_); refine Bx.lds [.string s, .int .i64 p, .int .i64 q, .bool b] HO Tryz.underlying105 ?_) | ((with_reducible refine Pre.gate_load 105 rfl ?_); refine Bx.lds [.string s', .int .i64 p', .int .i64 q', .bool b'] HO Tryz.underlying105 ?_) | ((with_reducible refine gate_dst (N := 6) rfl ?_); refine Bx.mk 6 #[.string ⟨#[]⟩, .int .i64 0, .int .i64 0, .bool false] 105 HO ?_; clear HO; intro g1 w6 HO) | ((with_reducible refine Pre.gate_store 105 rfl ?_); refine Bx.sts HO ?_; clear HO; intro w9 HO) | ((with_reducible refine gate_callee (f := 145) rfl ?_); refine goesL_ (some 13) rfl rfl Tryz.func145 Z12 rfl #[.agg #[.string s, .int .i64 p, .int .i64 q, .bool b], .int .i64 n] rfl (by (try simp only [List.map_toArray, List.map_cons, List.map_nil]); first | done | rfl) ?_; (with_reducible refine (cursor_Text.calls s p q b n r s' p' q' b' _ A1.out).mono ?_); rintro e w8 ⟨rfl, hb⟩; refine ⟨_, rfl, ?_⟩; replace HO := Bx.stp HO hb; clear hb))
 go_ret
 exact ⟨rfl, Bx.drop HO⟩

end Go.Proofs.YtnllanjoebjeiaaGreat.PV
-- Written by mp.py, a program of this work (wip/tools), out of the translation; Lean checks it.
namespace Go.Proofs.YtnllanjoebjeiaaGreat.PV
open Go.RowKit Go.Proofs.YtnllanjoebjeiaaGreatW.PrintWords Go.Proofs.YtnllanjoebjeiaaGreatW.PrintLast Go.Proofs.YtnllanjoebjeiaaGreatW.PrintMore
attribute [local go_sem] max2_int min2_int max_two min_two max_three min_three max_four min_four   -- for this text's walks alone
set_option linter.unusedVariables false
set_option linter.unusedSimpArgs false

/-! ### route_reader_prefix: function 182 -/
def route_reader_prefix.T2 : Bool × List (List Nat × List Nat) := (true, [([], []), ([0], [0]), ([], []), ([2], [2]), ([1, 3], [1, 3]), ([], []), ([4, 5], [4, 5]), ([6, 1, 0, 1, 2, 3, 4, 5, 6], [6])])
def route_reader_prefix.B2 : List Nat := [0, 1, 0, 4, 15, 0, 63, 127]
theorem route_reader_prefix.tab2 : rtab .any (opsOf Tryz.f182 2) = route_reader_prefix.T2 := by kernel_rfl
theorem route_reader_prefix.bits2 : waitsOk route_reader_prefix.T2.2 route_reader_prefix.B2 = true := by kernel_rfl
set_option maxHeartbeats 8000000 in
set_option maxRecDepth 100000 in
/-- Of the example alone: an address of four bytes, a prefix of eight bits, nothing left out. -/
theorem route_reader_prefix.calls (g : Nat) (hs hs' : List Bx.Box) (s : ByteArray) (p q : Int) (r : ByteArray) (s' : ByteArray) (p' q' : Int) (B : Nat) (w0 w : World) (HO : Aside0 (Bx.Own B w0 w hs)) (hU : Bx.Upd hs g #[.string s, .int .i64 p, .int .i64 q, .bool false] #[.string s', .int .i64 p', .int .i64 q', .bool false] 187 hs') (h : cursor_Text.f s p q false 1 = some (r, s', p', q', false)) :
  Calls Tryz.prog 182 #[.pointer (some ⟨g, 0, none⟩), .int .i64 1, .int .i64 8, .int .i64 0] w fun e w' => e = .returned (.tuple #[.string r, .int .i64 0]) ∧ Aside0 (Bx.Own B w0 w' hs') := by
 have A1 := Aside0.mk h
 have hA := hU.at
 have hA' := hU.at'
 have hu187 := Tryz.underlying187
 have hu166 := Tryz.underlying166
 have hu105 := Tryz.underlying105
 have hix := route_shapes.at1
 have hw1 : wrap64 1 = 1 := by kernel_rfl
 clear h
 go_enter Tryz.func182, Tryz.ntmps182
 go_upto_region 2 with (first | ((with_reducible refine gate_callee (f := 168) rfl ?_); refine goesL_ (some 13) rfl rfl Tryz.func168 Z12 rfl #[] rfl (by (try simp only [List.map_toArray, List.map_cons, List.map_nil]); first | done | rfl) ?_; (with_reducible refine (route_shapes.calls _).mono ?_); rintro e w8 ⟨rfl, hb⟩; refine ⟨_, rfl, ?_⟩; replace HO := Bx.stp HO hb; clear hb; unfold route_shapes.v) | ((with_reducible refine gate_dst (N := 10) rfl ?_); refine Bx.mk 10 #[.int .i64 0, .int .i64 0, .int .i64 0, .int .i64 0] 166 HO ?_; clear HO; intro g1 dL HO) | ((with_reducible refine Pre.gate_store 166 rfl ?_); refine Bx.sts HO ?_; clear HO; intro w9 HO))
 refine Bx.rgo (Sq.b 8 0) [] _ route_reader_prefix.tab2 route_reader_prefix.bits2 HO ?_ (List.Sublist.refl _)
 clear HO
 intro w9 HO HS HT_ HW_
 clear HS
 refine Sq.pur 0 (some 16) (Sq.b 8 1) HT_.out ?_
 refine Sq.pur 2 (some 18) (Sq.b 8 5) HT_.out ?_
 refine Sq.pur 5 (some 21) (Sq.b 8 37) HT_.out ?_
 refine Bx.rld 3 19 (Sq.b 8 45) HT_ HW_ HO Tryz.underlying3 ?_
 refine one_ (i := 1) (N := some 17) (Sq.b 8 47) rfl rfl (one_of HT_.out Z12) Z34 (fun K hK => ?_)
 refine goes_ Tryz.func192 Z12 rfl #[.int .i64 8] Z16 rfl rfl (by (try simp only [List.map_toArray, List.map_cons, List.map_nil]); first | done | rfl) ?_
 with_reducible refine (prefix_Least.calls 8 1 _ Z12).mono ?_
 rintro e w9 ⟨rfl, hb⟩
 refine ⟨_, rfl, ?_⟩
 replace HO := Bx.stp HO hb; clear hb
 refine hK.out _ _ HO.out (fun _ => ?_)
 clear hK K
 refine norm_ (a' := ?_) ?_ ?_
 rotate_left
 ·show Act.put _ (some 17) _ = _
  simp only [Act.put, Sq.s1, Sq.s2, Sq.s3, i64_w, i32_w]
  rfl
 refine Sq.pur 4 (some 20) (Sq.b 8 63) HT_.out ?_
 refine Sq.pur 6 (some 22) (Sq.b 8 127) HT_.out ?_
 refine Sq.pur 7 (some 11) (Sq.b 8 255) HT_.out ?_
 refine done_ (done_of HT_.out Z12) ?_
 simp only [hw1]
 go_wp2_with (first | ((with_reducible refine Pre.gate_load 3 rfl ?_); (try (refine gate_guard Z16 ?_; dsimp only)); refine Bx.ld HO Tryz.underlying3 ?_) | ((with_reducible refine Pre.gate_load 4 rfl ?_); (try (refine gate_guard Z16 ?_; dsimp only)); refine Bx.ld HO Tryz.underlying4 ?_) | ((with_reducible refine gate_callee (f := 181) rfl ?_); refine goesL_ (some 39) rfl rfl Tryz.func181 Z12 rfl #[.pointer (some ⟨g, 0, none⟩), .int .i64 1] rfl (by (try simp only [List.map_toArray, List.map_cons, List.map_nil]); first | done | rfl) ?_; (with_reducible refine (route_reader_text.calls g ((_, _, _) :: hs) ((_, _, _) :: hs') s p q false 1 r s' p' q' false B w0 _ HO (.there hU) A1.out).mono ?_); clear HO; rintro e w8 ⟨rfl, HO⟩; refine ⟨_, rfl, ?_⟩))
 go_ret2
 exact ⟨rfl, Bx.drop HO⟩

end Go.Proofs.YtnllanjoebjeiaaGreat.PV
-- Written by mp.py, a program of this work (wip/tools), out of the translation; Lean checks it.
namespace Go.Proofs.YtnllanjoebjeiaaGreat.PV
open Go.RowKit Go.Proofs.YtnllanjoebjeiaaGreatW.PrintWords Go.Proofs.YtnllanjoebjeiaaGreatW.PrintLast Go.Proofs.YtnllanjoebjeiaaGreatW.PrintMore
attribute [local go_sem] max2_int min2_int max_two min_two max_three min_three max_four min_four   -- for this text's walks alone
set_option linter.unusedVariables false
set_option linter.unusedSimpArgs false

/-! ### route_reader_rest: function 183 -/
set_option maxHeartbeats 8000000 in
set_option maxRecDepth 100000 in
/-- Of a reader that is at its end. -/
theorem route_reader_rest.calls (g : Nat) (hs : List Bx.Box) (s : ByteArray) (q : Int) (B : Nat) (w0 w : World) (HO : Aside0 (Bx.Own B w0 w hs)) (hU : Bx.Upd hs g #[.string s, .int .i64 q, .int .i64 q, .bool false] #[.string s, .int .i64 q, .int .i64 q, .bool false] 187 hs) (h1 : cursor_Left.f s q q false = some 0) (h2 : cursor_Text.f s q q false 0 = some (⟨#[]⟩, s, q, q, false)) :
  Calls Tryz.prog 183 #[.pointer (some ⟨g, 0, none⟩)] w fun e w' => e = .returned (.tuple #[.slice none 0 0, .bool true, .int .i64 0]) ∧ Aside0 (Bx.Own B w0 w' hs) := by
 have A1 := Aside0.mk h1
 have A2 := Aside0.mk h2
 have hA := hU.at
 have hu187 := Tryz.underlying187
 clear h1 h2
 go_enter Tryz.func183, Tryz.ntmps183
 go_wp2_with (first | ((with_reducible refine Pre.gate_load 105 rfl ?_); refine Bx.lds [.string s, .int .i64 q, .int .i64 q, .bool false] HO Tryz.underlying105 ?_) | ((with_reducible refine gate_callee (f := 85) rfl ?_); refine goesL_ (some 10) rfl rfl Tryz.func85 Z12 rfl #[.agg #[.string s, .int .i64 q, .int .i64 q, .bool false]] rfl (by (try simp only [List.map_toArray, List.map_cons, List.map_nil]); first | done | rfl) ?_; (with_reducible refine (cursor_Left.calls s q q false 0 _ A1.out).mono ?_); rintro e w8 ⟨rfl, hb⟩; refine ⟨_, rfl, ?_⟩; replace HO := Bx.stp HO hb; clear hb) | ((with_reducible refine gate_callee (f := 181) rfl ?_); refine goesL_ (some 11) rfl rfl Tryz.func181 Z12 rfl #[.pointer (some ⟨g, 0, none⟩), .int .i64 0] rfl (by (try simp only [List.map_toArray, List.map_cons, List.map_nil]); first | done | rfl) ?_; (with_reducible refine (route_reader_text.calls g hs hs s q q false 0 ⟨#[]⟩ s q q false B w0 _ HO hU A2.out).mono ?_); clear HO; rintro e w8 ⟨rfl, HO⟩; refine ⟨_, rfl, ?_⟩) | ((with_reducible refine gate_callee (f := 179) rfl ?_); refine goesL_ (some 12) rfl rfl Tryz.func179 Z12 rfl #[.string ⟨#[]⟩] rfl (by (try simp only [List.map_toArray, List.map_cons, List.map_nil]); first | done | rfl) ?_; (with_reducible refine (sub_Get.calls ⟨#[]⟩ rfl _).mono ?_); rintro e w8 ⟨rfl, hb⟩; refine ⟨_, rfl, ?_⟩; replace HO := Bx.stp HO hb; clear hb))
 go_ret3
 exact ⟨rfl, HO⟩

end Go.Proofs.YtnllanjoebjeiaaGreat.PV
-- Written by mp.py, a program of this work (wip/tools), out of the translation; Lean checks it.
namespace Go.Proofs.YtnllanjoebjeiaaGreat.PV
open Go.RowKit Go.Proofs.YtnllanjoebjeiaaGreatW.PrintWords Go.Proofs.YtnllanjoebjeiaaGreatW.PrintLast Go.Proofs.YtnllanjoebjeiaaGreatW.PrintMore
attribute [local go_sem] max2_int min2_int max_two min_two max_three min_three max_four min_four   -- for this text's walks alone
set_option linter.unusedVariables false
set_option linter.unusedSimpArgs false

/-! ### route_Take: function 196 -/
/-- The Update of the example's datagram. -/
def route_Take.d : ByteArray := ⟨#[1, 128, 8, 0, 0, 0, 0, 0, 0, 1, 10]⟩
def route_Take.x (k : Nat) : Array Value := ((([1, 128, 8, 0, 0, 0, 1] : List Int).take k ++ List.replicate (7 - k) 0).map (Value.int .i64) ++ [.int .i64 0, .string ⟨#[]⟩, .slice none 0 0]).toArray
theorem route_Take.n0 : cursor_Num.f route_Take.d 0 11 false 1 = some (1, route_Take.d, 1, 11, false) := by kernel_rfl
theorem route_Take.n1 : cursor_Num.f route_Take.d 1 11 false 1 = some (128, route_Take.d, 2, 11, false) := by kernel_rfl
theorem route_Take.n2 : cursor_Num.f route_Take.d 2 11 false 1 = some (8, route_Take.d, 3, 11, false) := by kernel_rfl
theorem route_Take.n3 : cursor_Num.f route_Take.d 3 11 false 1 = some (0, route_Take.d, 4, 11, false) := by kernel_rfl
theorem route_Take.n4 : cursor_Num.f route_Take.d 4 11 false 2 = some (0, route_Take.d, 6, 11, false) := by kernel_rfl
theorem route_Take.n5 : cursor_Num.f route_Take.d 6 11 false 2 = some (0, route_Take.d, 8, 11, false) := by kernel_rfl
theorem route_Take.n6 : cursor_Num.f route_Take.d 8 11 false 2 = some (1, route_Take.d, 10, 11, false) := by kernel_rfl
theorem route_Take.t0 : cursor_Text.f route_Take.d 10 11 false 1 = some (⟨#[10]⟩, route_Take.d, 11, 11, false) := by kernel_rfl
theorem route_Take.t1 : cursor_Text.f route_Take.d 11 11 false 0 = some (⟨#[]⟩, route_Take.d, 11, 11, false) := by kernel_rfl
set_option maxHeartbeats 8000000 in
set_option maxRecDepth 100000 in
theorem route_Take.calls (at_ : Int) (w : World) :
  Calls Tryz.prog 196 #[.agg #[.int .i64 8, .int .i64 at_, .string route_Take.d]] w fun e w' => e = .returned (.tuple #[.agg #[.int .i64 1, .int .i64 128, .int .i64 8, .int .i64 0, .int .i64 0, .int .i64 0, .int .i64 1, .int .i64 1, .string ⟨#[10]⟩, .slice none 0 0], .bool true, .int .i64 0]) ∧ Below w.heap.size w w' := by
 obtain ⟨d, hd⟩ : ∃ d, d = route_Take.d := ⟨_, rfl⟩
 rw [← hd]
 have HD := Aside0.mk hd
 clear hd
 have hu48 := Tryz.underlying48
 have hu97 := Tryz.underlying97
 have hu187 := Tryz.underlying187
 have hu105 := Tryz.underlying105
 have HO := Bx.start w
 go_enter Tryz.func196, Tryz.ntmps196
 go_wp2_with (first | ((with_reducible refine gate_dst (N := 1) rfl ?_); refine Bx.mk 1 #[.int .i64 8, .int .i64 at_, .string d] 48 HO ?_; clear HO; intro g1 w1 HO) | ((with_reducible refine gate_dst (N := 2) rfl ?_); refine Bx.mk 2 #[.int .i64 0, .int .i64 0, .int .i64 0, .int .i64 0, .int .i64 0, .int .i64 0, .int .i64 0, .int .i64 0, .string ⟨#[]⟩, .slice none 0 0] 97 HO ?_; clear HO; intro g2 w2 HO) | ((with_reducible refine Pre.gate_load 9 rfl ?_); (try (refine gate_guard Z16 ?_; dsimp only)); refine Bx.ld HO Tryz.underlying9 ?_) | ((with_reducible refine gate_callee (f := 84) rfl ?_); refine goesL_ (some 17) rfl rfl Tryz.func84 Z12 rfl #[.string d] rfl (by (try simp only [List.map_toArray, List.map_cons, List.map_nil]); first | done | rfl) ?_; (with_reducible refine (cursor_New.calls d d 0 11 false _ (by rw [HD.out]; kernel_rfl)).mono ?_); rintro e w8 ⟨rfl, hb⟩; refine ⟨_, rfl, ?_⟩; replace HO := Bx.stp HO hb; clear hb) | ((with_reducible refine gate_dst (N := 19) rfl ?_); refine Bx.mk 19 #[.string d, .int .i64 0, .int .i64 11, .bool false] 187 HO ?_; clear HO; intro g5 hW HO) | ((with_reducible refine gate_dst (N := 6) rfl ?_); refine Bx.mk 6 #[.int .i64 0, .int .i64 0, .int .i64 0, .int .i64 0, .int .i64 0, .int .i64 0, .int .i64 0, .int .i64 0, .string ⟨#[]⟩, .slice none 0 0] 97 HO ?_; clear HO; intro g6 w6 HO) | ((with_reducible refine gate_dst (N := 24) rfl ?_); refine Bx.lit 24 #[.pointer (some ⟨g6, 0, none⟩), .pointer (some ⟨g6, 1, none⟩), .pointer (some ⟨g6, 2, none⟩), .pointer (some ⟨g6, 3, none⟩)] 200 4 HO ?_; clear HO; intro g7 w9 HO))
 go_loopg [26] 4 (fun kq v26 w' => ∃ (k : Nat) (p i : Int), v26 = .int .i64 i ∧ (k, p, kq) ∈ ([(0, 0, 4), (1, 1, 3), (2, 2, 2), (3, 3, 1), (4, 4, 0)] : List (Nat × Int × Nat)) ∧ i = (k : Int) - 0 ∧ Aside0 (Bx.Own w.heap.size w w' [(g7, #[.pointer (some ⟨g6, 0, none⟩), .pointer (some ⟨g6, 1, none⟩), .pointer (some ⟨g6, 2, none⟩), .pointer (some ⟨g6, 3, none⟩)], 200), (g6, route_Take.x k, 97), (g5, #[.string d, .int .i64 p, .int .i64 11, .bool false], 187), (g2, #[.int .i64 0, .int .i64 0, .int .i64 0, .int .i64 0, .int .i64 0, .int .i64 0, .int .i64 0, .int .i64 0, .string ⟨#[]⟩, .slice none 0 0], 97), (g1, #[.int .i64 8, .int .i64 at_, .string d], 48)]))
 case atStart => exact ⟨0, 0, 0, rfl, Z27, Z16, HO⟩
 case round =>
 clear HO
 obtain ⟨k, p, i, rfl, hm, hi, HO⟩ := hrel
 simp only [List.mem_cons, Prod.mk.injEq, List.not_mem_nil, or_false] at hm
 rcases hm with ⟨rfl, rfl, rfl⟩ | ⟨rfl, rfl, rfl⟩ | ⟨rfl, rfl, rfl⟩ | ⟨rfl, rfl, rfl⟩ | ⟨rfl, rfl, rfl⟩
 ·obtain rfl : i = 0 := hi
  simp only [route_Take.x, List.take, List.replicate, List.map_cons, List.map_nil, List.cons_append, List.nil_append, Nat.reduceSub] at HO
  go_wp2_with (first | ((with_reducible refine Pre.gate_load 200 rfl ?_); (try (refine gate_guard Z16 ?_; dsimp only)); refine Bx.ld HO Tryz.underlying200 ?_) | ((with_reducible refine gate_callee (f := 180) rfl ?_); refine goesL_ (some 32) rfl rfl Tryz.func180 Z12 rfl #[.pointer (some ⟨g5, 0, none⟩), .int .i64 1] rfl (by (try simp only [List.map_toArray, List.map_cons, List.map_nil]); first | done | rfl) ?_; (with_reducible refine (route_reader_num.calls g5 _ _ d 0 11 false 1 1 d 1 11 false _ _ _ HO (by repeat (first | exact .here | apply Bx.Upd.there)) (by rw [HD.out]; exact route_Take.n0)).mono ?_); clear HO; rintro e w8 ⟨rfl, HO⟩; refine ⟨_, rfl, ?_⟩) | ((with_reducible refine Pre.gate_store 3 rfl ?_); refine Bx.st HO ?_; clear HO; intro w9 HO))
  go_roundg 3
  case measure => omega
  case rel => exact ⟨1, 1, 1, rfl, Z27, Z16, HO⟩
 ·obtain rfl : i = 1 := hi
  simp only [route_Take.x, List.take, List.replicate, List.map_cons, List.map_nil, List.cons_append, List.nil_append, Nat.reduceSub] at HO
  go_wp2_with (first | ((with_reducible refine Pre.gate_load 200 rfl ?_); (try (refine gate_guard Z16 ?_; dsimp only)); refine Bx.ld HO Tryz.underlying200 ?_) | ((with_reducible refine gate_callee (f := 180) rfl ?_); refine goesL_ (some 32) rfl rfl Tryz.func180 Z12 rfl #[.pointer (some ⟨g5, 0, none⟩), .int .i64 1] rfl (by (try simp only [List.map_toArray, List.map_cons, List.map_nil]); first | done | rfl) ?_; (with_reducible refine (route_reader_num.calls g5 _ _ d 1 11 false 1 128 d 2 11 false _ _ _ HO (by repeat (first | exact .here | apply Bx.Upd.there)) (by rw [HD.out]; exact route_Take.n1)).mono ?_); clear HO; rintro e w8 ⟨rfl, HO⟩; refine ⟨_, rfl, ?_⟩) | ((with_reducible refine Pre.gate_store 3 rfl ?_); refine Bx.st HO ?_; clear HO; intro w9 HO))
  go_roundg 2
  case measure => omega
  case rel => exact ⟨2, 2, 2, rfl, Z27, Z16, HO⟩
 ·obtain rfl : i = 2 := hi
  simp only [route_Take.x, List.take, List.replicate, List.map_cons, List.map_nil, List.cons_append, List.nil_append, Nat.reduceSub] at HO
  go_wp2_with (first | ((with_reducible refine Pre.gate_load 200 rfl ?_); (try (refine gate_guard Z16 ?_; dsimp only)); refine Bx.ld HO Tryz.underlying200 ?_) | ((with_reducible refine gate_callee (f := 180) rfl ?_); refine goesL_ (some 32) rfl rfl Tryz.func180 Z12 rfl #[.pointer (some ⟨g5, 0, none⟩), .int .i64 1] rfl (by (try simp only [List.map_toArray, List.map_cons, List.map_nil]); first | done | rfl) ?_; (with_reducible refine (route_reader_num.calls g5 _ _ d 2 11 false 1 8 d 3 11 false _ _ _ HO (by repeat (first | exact .here | apply Bx.Upd.there)) (by rw [HD.out]; exact route_Take.n2)).mono ?_); clear HO; rintro e w8 ⟨rfl, HO⟩; refine ⟨_, rfl, ?_⟩) | ((with_reducible refine Pre.gate_store 3 rfl ?_); refine Bx.st HO ?_; clear HO; intro w9 HO))
  go_roundg 1
  case measure => omega
  case rel => exact ⟨3, 3, 3, rfl, Z27, Z16, HO⟩
 ·obtain rfl : i = 3 := hi
  simp only [route_Take.x, List.take, List.replicate, List.map_cons, List.map_nil, List.cons_append, List.nil_append, Nat.reduceSub] at HO
  go_wp2_with (first | ((with_reducible refine Pre.gate_load 200 rfl ?_); (try (refine gate_guard Z16 ?_; dsimp only)); refine Bx.ld HO Tryz.underlying200 ?_) | ((with_reducible refine gate_callee (f := 180) rfl ?_); refine goesL_ (some 32) rfl rfl Tryz.func180 Z12 rfl #[.pointer (some ⟨g5, 0, none⟩), .int .i64 1] rfl (by (try simp only [List.map_toArray, List.map_cons, List.map_nil]); first | done | rfl) ?_; (with_reducible refine (route_reader_num.calls g5 _ _ d 3 11 false 1 0 d 4 11 false _ _ _ HO (by repeat (first | exact .here | apply Bx.Upd.there)) (by rw [HD.out]; exact route_Take.n3)).mono ?_); clear HO; rintro e w8 ⟨rfl, HO⟩; refine ⟨_, rfl, ?_⟩) | ((with_reducible refine Pre.gate_store 3 rfl ?_); refine Bx.st HO ?_; clear HO; intro w9 HO))
  go_roundg 0
  case measure => omega
  case rel => exact ⟨4, 4, 4, rfl, Z27, Z16, HO⟩
 obtain rfl : i = 4 := hi
 simp only [route_Take.x, List.take, List.replicate, List.map_cons, List.map_nil, List.cons_append, List.nil_append, Nat.reduceSub] at HO
 go_wp2_with (first | ((with_reducible refine gate_dst (N := 38) rfl ?_); refine Bx.lit 38 #[.pointer (some ⟨g6, 4, none⟩), .pointer (some ⟨g6, 5, none⟩), .pointer (some ⟨g6, 6, none⟩)] 200 3 HO ?_; clear HO; intro g8 w9 HO))
 go_loopg [40] 3 (fun kq v40 w' => ∃ (k : Nat) (p i : Int), v40 = .int .i64 i ∧ (k, p, kq) ∈ ([(4, 4, 3), (5, 6, 2), (6, 8, 1), (7, 10, 0)] : List (Nat × Int × Nat)) ∧ i = (k : Int) - 4 ∧ Aside0 (Bx.Own w.heap.size w w' [(g8, #[.pointer (some ⟨g6, 4, none⟩), .pointer (some ⟨g6, 5, none⟩), .pointer (some ⟨g6, 6, none⟩)], 200), (g7, #[.pointer (some ⟨g6, 0, none⟩), .pointer (some ⟨g6, 1, none⟩), .pointer (some ⟨g6, 2, none⟩), .pointer (some ⟨g6, 3, none⟩)], 200), (g6, route_Take.x k, 97), (g5, #[.string d, .int .i64 p, .int .i64 11, .bool false], 187), (g2, #[.int .i64 0, .int .i64 0, .int .i64 0, .int .i64 0, .int .i64 0, .int .i64 0, .int .i64 0, .int .i64 0, .string ⟨#[]⟩, .slice none 0 0], 97), (g1, #[.int .i64 8, .int .i64 at_, .string d], 48)]))
 case atStart => exact ⟨4, 4, 0, rfl, Z27, Z16, HO⟩
 case round =>
 clear HO
 obtain ⟨k, p, i, rfl, hm, hi, HO⟩ := hrel
 simp only [List.mem_cons, Prod.mk.injEq, List.not_mem_nil, or_false] at hm
 rcases hm with ⟨rfl, rfl, rfl⟩ | ⟨rfl, rfl, rfl⟩ | ⟨rfl, rfl, rfl⟩ | ⟨rfl, rfl, rfl⟩
 ·obtain rfl : i = 0 := hi
  simp only [route_Take.x, List.take, List.replicate, List.map_cons, List.map_nil, List.cons_append, List.nil_append, Nat.reduceSub] at HO
  go_wp2_with (first | ((with_reducible refine Pre.gate_load 200 rfl ?_); (try (refine gate_guard Z16 ?_; dsimp only)); refine Bx.ld HO Tryz.underlying200 ?_) | ((with_reducible refine gate_callee (f := 180) rfl ?_); refine goesL_ (some 46) rfl rfl Tryz.func180 Z12 rfl #[.pointer (some ⟨g5, 0, none⟩), .int .i64 2] rfl (by (try simp only [List.map_toArray, List.map_cons, List.map_nil]); first | done | rfl) ?_; (with_reducible refine (route_reader_num.calls g5 _ _ d 4 11 false 2 0 d 6 11 false _ _ _ HO (by repeat (first | exact .here | apply Bx.Upd.there)) (by rw [HD.out]; exact route_Take.n4)).mono ?_); clear HO; rintro e w8 ⟨rfl, HO⟩; refine ⟨_, rfl, ?_⟩) | ((with_reducible refine Pre.gate_store 3 rfl ?_); refine Bx.st HO ?_; clear HO; intro w9 HO))
  go_roundg 2
  case measure => omega
  case rel => exact ⟨5, 6, 1, rfl, Z27, Z16, HO⟩
 ·obtain rfl : i = 1 := hi
  simp only [route_Take.x, List.take, List.replicate, List.map_cons, List.map_nil, List.cons_append, List.nil_append, Nat.reduceSub] at HO
  go_wp2_with (first | ((with_reducible refine Pre.gate_load 200 rfl ?_); (try (refine gate_guard Z16 ?_; dsimp only)); refine Bx.ld HO Tryz.underlying200 ?_) | ((with_reducible refine gate_callee (f := 180) rfl ?_); refine goesL_ (some 46) rfl rfl Tryz.func180 Z12 rfl #[.pointer (some ⟨g5, 0, none⟩), .int .i64 2] rfl (by (try simp only [List.map_toArray, List.map_cons, List.map_nil]); first | done | rfl) ?_; (with_reducible refine (route_reader_num.calls g5 _ _ d 6 11 false 2 0 d 8 11 false _ _ _ HO (by repeat (first | exact .here | apply Bx.Upd.there)) (by rw [HD.out]; exact route_Take.n5)).mono ?_); clear HO; rintro e w8 ⟨rfl, HO⟩; refine ⟨_, rfl, ?_⟩) | ((with_reducible refine Pre.gate_store 3 rfl ?_); refine Bx.st HO ?_; clear HO; intro w9 HO))
  go_roundg 1
  case measure => omega
  case rel => exact ⟨6, 8, 2, rfl, Z27, Z16, HO⟩
 ·obtain rfl : i = 2 := hi
  simp only [route_Take.x, List.take, List.replicate, List.map_cons, List.map_nil, List.cons_append, List.nil_append, Nat.reduceSub] at HO
  go_wp2_with (first | ((with_reducible refine Pre.gate_load 200 rfl ?_); (try (refine gate_guard Z16 ?_; dsimp only)); refine Bx.ld HO Tryz.underlying200 ?_) | ((with_reducible refine gate_callee (f := 180) rfl ?_); refine goesL_ (some 46) rfl rfl Tryz.func180 Z12 rfl #[.pointer (some ⟨g5, 0, none⟩), .int .i64 2] rfl (by (try simp only [List.map_toArray, List.map_cons, List.map_nil]); first | done | rfl) ?_; (with_reducible refine (route_reader_num.calls g5 _ _ d 8 11 false 2 1 d 10 11 false _ _ _ HO (by repeat (first | exact .here | apply Bx.Upd.there)) (by rw [HD.out]; exact route_Take.n6)).mono ?_); clear HO; rintro e w8 ⟨rfl, HO⟩; refine ⟨_, rfl, ?_⟩) | ((with_reducible refine Pre.gate_store 3 rfl ?_); refine Bx.st HO ?_; clear HO; intro w9 HO))
  go_roundg 0
  case measure => omega
  case rel => exact ⟨7, 10, 3, rfl, Z27, Z16, HO⟩
 obtain rfl : i = 3 := hi
 simp only [route_Take.x, List.take, List.replicate, List.map_cons, List.map_nil, List.cons_append, List.nil_append, Nat.reduceSub] at HO
 go_wp2_with (first | ((with_reducible refine Pre.gate_load 4 rfl ?_); (try (refine gate_guard Z16 ?_; dsimp only)); refine Bx.ld HO Tryz.underlying4 ?_) | ((with_reducible refine Pre.gate_load 3 rfl ?_); (try (refine gate_guard Z16 ?_; dsimp only)); refine Bx.ld HO Tryz.underlying3 ?_) | ((with_reducible refine Pre.gate_load 9 rfl ?_); (try (refine gate_guard Z16 ?_; dsimp only)); refine Bx.ld HO Tryz.underlying9 ?_) | ((with_reducible refine Pre.gate_load 30 rfl ?_); (try (refine gate_guard Z16 ?_; dsimp only)); refine Bx.ld HO Tryz.underlying30 ?_) | ((with_reducible refine gate_callee (f := 182) rfl ?_); refine goesL_ (some 69) rfl rfl Tryz.func182 Z12 rfl #[.pointer (some ⟨g5, 0, none⟩), .int .i64 1, .int .i64 8, .int .i64 0] rfl (by (try simp only [List.map_toArray, List.map_cons, List.map_nil]); first | done | rfl) ?_; (with_reducible refine (route_reader_prefix.calls g5 _ _ d 10 11 ⟨#[10]⟩ d 11 11 _ _ _ HO (by repeat (first | exact .here | apply Bx.Upd.there)) (by rw [HD.out]; exact route_Take.t0)).mono ?_); clear HO; rintro e w8 ⟨rfl, HO⟩; refine ⟨_, rfl, ?_⟩) | ((with_reducible refine gate_callee (f := 183) rfl ?_); refine goesL_ (some 78) rfl rfl Tryz.func183 Z12 rfl #[.pointer (some ⟨g5, 0, none⟩)] rfl (by (try simp only [List.map_toArray, List.map_cons, List.map_nil]); first | done | rfl) ?_; (with_reducible refine (route_reader_rest.calls g5 _ d 11 _ _ _ HO (by repeat (first | exact .here | apply Bx.Upd.there)) Z12 (by rw [HD.out]; exact route_Take.t1)).mono ?_); clear HO; rintro e w8 ⟨rfl, HO⟩; refine ⟨_, rfl, ?_⟩) | ((with_reducible refine Pre.gate_store 9 rfl ?_); refine Bx.st HO ?_; clear HO; intro w9 HO) | ((with_reducible refine Pre.gate_store 30 rfl ?_); refine Bx.st HO ?_; clear HO; intro w9 HO) | ((with_reducible refine Pre.gate_store 3 rfl ?_); refine Bx.st HO ?_; clear HO; intro w9 HO) | ((with_reducible refine Pre.gate_load 97 rfl ?_); refine Bx.lds [.int .i64 1, .int .i64 128, .int .i64 8, .int .i64 0, .int .i64 0, .int .i64 0, .int .i64 1, .int .i64 1, .string ⟨#[10]⟩, .slice none 0 0] HO Tryz.underlying97 ?_) | ((with_reducible refine Pre.gate_store 97 rfl ?_); refine Bx.sts HO ?_; clear HO; intro w9 HO))
 exact Bx.ret [.cell 2 97, .tmp 3, .tmp 4] (Bx.vc HO Tryz.underlying97 (Bx.vt (Bx.vt .nil))) ⟨rfl, Bx.fin HO⟩

end Go.Proofs.YtnllanjoebjeiaaGreat.PV
