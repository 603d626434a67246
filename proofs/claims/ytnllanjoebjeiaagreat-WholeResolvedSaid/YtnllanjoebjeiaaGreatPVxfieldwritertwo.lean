-- Written by mp.py, a program of this work (wip/tools), out of the translation; Lean checks it.
import Derived.Test.YtnllanjoebjeiaaGreatPVxZ
import Derived.Test.YtnllanjoebjeiaaGreatStore
namespace Go.Proofs.YtnllanjoebjeiaaGreat.PV
open Go.RowKit Go.Proofs.YtnllanjoebjeiaaGreatW.PrintWords Go.Proofs.YtnllanjoebjeiaaGreatW.PrintLast Go.Proofs.YtnllanjoebjeiaaGreatW.PrintMore
attribute [local go_sem] max2_int min2_int max_two min_two max_three min_three max_four min_four   -- for this text's walks alone
set_option linter.unusedVariables false
set_option linter.unusedSimpArgs false

/-! ### field_writer_two: function 170 -/
/-- Numbers laid behind bytes, two bytes each. -/
def field_writer_two.l : Nat → List Int → List Int → Int → Option (List Int)
 | 0, _, _, _ => none
 | k + 1, l, xs, i => if i < (l.length : Int) then (if 0 ≤ i then (if xs.length + 2 < 140737488355328 then field_writer_two.l k l (xs ++ [rd l i / 256 % 256, rd l i % 256]) (wrap64 (i + 1)) else none) else none) else some xs
theorem field_writer_two.mono : ∀ k, (∀ y0 y1 y2, LeO (field_writer_two.l k y0 y1 y2) (field_writer_two.l (k + 1) y0 y1 y2))
 | 0 => Sq.mz
 | k + 1 => by
  have ih0 := field_writer_two.mono k
  intros
  unfold field_writer_two.l
  exact Sq.mo
set_option maxHeartbeats 8000000 in
set_option maxRecDepth 100000 in
theorem field_writer_two.calls (k : Nat) (g : Nat) (A : Option Addr) (c : Nat) (l ys : List Int) (w0 w : World) (hB : Below w0.heap.size w0 w) (hg : w0.heap.size ≤ g) (hK : w.heap[g]? = some (.cells #[.slice none 0 0] 171 (0, 0))) (hL : ∀ W', KeepBut w W' g none → Kd.C (Kd.int .i64) W' A l.length l) (h : field_writer_two.l k l [] 0 = some ys) :
  Calls Tryz.prog 170 #[.pointer (some ⟨g, 0, none⟩), .slice A l.length c] w fun e w' => e = .returned (.tuple #[]) ∧ ∃ u', w'.heap[g]? = some (.cells #[u'] 171 (0, 0)) ∧ Kd.R (Kd.int .u8) 5 w' w0.heap.size (fun _ => True) u' ys ∧ Below w0.heap.size w0 w' ∧ KeepBut w w' g none := by
 have gK := Tryz.underlying171
 have HA := Aside0.mk h
 have HL := Aside0.mk hL
 have HB := Aside0.mk hB
 have dW := Aside0.mk hg
 have bC := Aside0.mk hK
 have HO := Aside0.mk (show Kd.R (Kd.int .u8) 5 w w0.heap.size (fun _ => True) (.slice none 0 0) [] from Kd.R_nil _ _ _ _ _)
 have HK := Aside0.mk (KeepBut.refl w g none)
 clear h hL hB hg hK
 go_enter Tryz.func170, Tryz.ntmps170
 go_wp2
 go_loopg [8] k (fun kq v8 w' => ∃ (i : Int) (u : Value) (xs : List Int), v8 = .int .i64 i ∧ Aside0 (field_writer_two.l kq l xs i = some ys) ∧ Aside0 (kq ≤ k) ∧ Aside0 (w'.heap[g]? = some (.cells #[u] 171 (0, 0))) ∧ Aside0 (Kd.R (Kd.int .u8) 5 w' w0.heap.size (fun _ => True) u xs) ∧ Aside0 (Below w0.heap.size w0 w') ∧ Aside0 (KeepBut w w' g none) ∧ Aside0 (u.ownBlock = none ∨ ∃ b, u.ownBlock = some b ∧ w.heap.size ≤ b))
 case atStart => exact ⟨0, _, _, rfl, HA, ⟨Nat.le_refl _⟩, bC, HO, HB, HK, ⟨.inl rfl⟩⟩
 case round =>
  clear HA bC HO HB HK
  obtain ⟨i, u, xs, rfl, HA, HK1, bC, HO, HB, HK, UO⟩ := hrel
  cases gk with
  | zero => exact absurd HA.out (by simp [field_writer_two.l])
  | succ k1 =>
   have H := HA.out
   clear HA
   simp only [field_writer_two.l] at H
   by_cases c1 : i < (l.length : Int)
   rotate_left
   ·rw [if_neg c1] at H
    have f1 : decide (i < (l.length : Int)) = false := decide_eq_false c1
    clear c1
    obtain rfl := Option.some.inj H
    go_wp2
    go_end0
    exact ⟨rfl, u, bC.out, HO.out, HB.out, HK.out⟩
   rw [if_pos c1] at H
   have f1 : decide (i < (l.length : Int)) = true := decide_eq_true c1
   by_cases c2 : 0 ≤ i
   rotate_left
   ·rw [if_neg c2] at H; exact absurd H Z27
   rw [if_pos c2] at H
   have f2 : decide (0 ≤ i) = true := decide_eq_true c2
   by_cases c3 : xs.length + 2 < 140737488355328
   rotate_left
   ·rw [if_neg c3] at H; exact absurd H Z27
   rw [if_pos c3] at H
   have LM := Aside0.mk c3
   obtain ⟨zs, hzs⟩ : ∃ zs, zs = xs ++ [rd l i / 256 % 256, rd l i % 256] := ⟨_, rfl⟩
   rw [← hzs] at H
   have Ny := Aside0.mk hzs
   have HA := Aside0.mk H
   clear H c3 hzs
   obtain ⟨ad2, ea, hx0⟩ := Kd.at_int (HL.out _ HK.out) i c2 c1
   cases ea
   have p : (0 ≤ i) = True := eq_true c2
   have q : (i < (l.length : Int)) = True := eq_true c1
   clear c1 c2
   have hz0 := (blk_cell bC.out 0).trans rfl
   go_wp2_with (first | ((with_reducible refine gate_dst (N := 22) rfl ?_); refine Kd.R_lit (Kd.int .u8) _ 5 ?hg (N := 22) ?hd (xs := ([rd l i / 256 % 256, rd l i % 256] : List Int)) (inner := [.int .u8 (rd l i / 256 % 256), .int .u8 (rd l i % 256)]) (ok := fun _ => True) (okp := fun _ => True) ?hr ?hp (fun _ hk => hk) trivial (Below.refl _ _) (Nat.le_refl _) Z27 ?_; (case hd => rfl); (case hg => rfl); (case hr => first | (go_simp; done) | (go_simp; rfl)); (case hp => exact (Reps.one (show Kd.M (Kd.int .u8) _ _ _ (rd l i / 256 % 256) [.int .u8 (rd l i / 256 % 256)] from rfl) (Reps.one (show Kd.M (Kd.int .u8) _ _ _ (rd l i % 256) [.int .u8 (rd l i % 256)] from rfl) (Reps.none _ _)))); intro v4 w4 ho19 hb hg_ hnew_; clear hg_ hnew_; have RL := Aside0.mk (Kd.R_lower (Kd.R_new' ho19 (Kd.R_lt Z15)) (below_size HB.out)); replace HO := Aside0.mk (Kd.R_elder' Z15 (Kd.R_base ho19) hb); replace bC := Aside0.mk (blk_below (g := g) Z14 hb); replace HK := Aside0.mk (KeepBut.trans HK.out (KeepBut.of_below hb g none) (.inl rfl)); replace HB := Aside0.mk (below_step Z10 hb); clear hb ho19 hz0; obtain ⟨sc, sd, eo21⟩ := Kd.R_slice RL.out; subst eo21) | ((with_reducible refine gate_builtin (b := .append) (xs := #[.tmp 16, .tmp 22]) rfl ?_); at_builtin; refine Kd.R_append_rows (Kd.int .u8) (w0 := w0) w0.heap.size rfl (.tmp 16) (.tmp 22) 64 5 (.int .u8 0) 1 rfl Tryz.underlying64 info5 rfl Z34 Z23 u xs ([rd l i / 256 % 256, rd l i % 256] : List Int) _ _ _ (fun k_ => some k_ ≠ (.slice sc ([rd l i / 256 % 256, rd l i % 256] : List Int).length sd : Value).ownBlock) (fun _ => False) rfl rfl ?aO ?aR (fun _ _ h => h) (fun _ h => h.elim) ?aF ?aB ?aS ?aL ?_; (case aR => exact (Kd.R_reads' RL.out).2.2); (case aB => exact Z10); (case aF => exact (fun k_ hk => Kd.fresh' (Kd.R_lt (by (with_reducible repeat (first | apply Kd.R_alloc | apply Kd.R_drewN | apply Kd.R_drew)); exact RL.out)) k_ hk)); (case aO => exact (by (with_reducible repeat (first | apply Kd.R_alloc | apply Kd.R_drewN | apply Kd.R_drew)); exact Kd.R_mono HO.out (fun _ hk => hk.2))); (case aS => exact (below_size Z10)); (case aL => have := LM.out; simp only [List.length_cons, List.length_nil]; omega); intro xb w8 ho hb hg hat; rw [← Ny.out] at ho; have bL := Aside0.mk (Kd.R_mono (ok' := fun _ => True) ho (fun _ _ => trivial)); have bM := Aside0.mk (blk_grown (g := g) Z14 hg (Kd.R_ne HO.out bC.out Z34)); have hw := HK.out.1; have UO2 := Aside0.mk (show xb.ownBlock = none ∨ ∃ b, xb.ownBlock = some b ∧ w.heap.size ≤ b from hat.elim (fun e => (by rw [e]; exact UO.out)) (fun ⟨b, e, hb2⟩ => .inr ⟨b, e, Nat.le_trans hw hb2⟩)); replace HK := Aside0.mk (KeepBut.trans HK.out (KeepBut.of_grown hg g) UO.out); replace HB := Aside0.mk hb; clear HO bC RL UO ho hb hg hat hw; have HO := bL; have bC := bM; have UO := UO2; clear bL bM UO2; have hz0 := (blk_cell bC.out 0).trans rfl; have hf0 := blk_frozen bC.out 0; obtain ⟨gc, gg, eo2⟩ := Kd.R_slice HO.out; subst eo2))
   go_roundg k1
   case measure => have := HK1.out; omega
   case rel => exact ⟨wrap64 (i + 1), _, zs, rfl, HA, ⟨Z35⟩, ⟨blk_put (cs := #[u]) bC.out 0 _ rfl⟩, ⟨Kd.R_mono (Kd.R_far (p := ⟨g, 0, none⟩) (Kd.R_types HO.out bC.out Z34) (fun _ hk => hk.2) _) (fun _ _ => trivial)⟩, ⟨Z10⟩, ⟨KeepBut.set_ HK.out _ _⟩, UO⟩

end Go.Proofs.YtnllanjoebjeiaaGreat.PV
