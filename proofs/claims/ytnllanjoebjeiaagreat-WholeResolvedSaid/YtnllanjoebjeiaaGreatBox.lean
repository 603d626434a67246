/-
Blocks of one's own, told as one list: made, read, written, kept by calls; each as one step of a walk.
-/
import Derived.Test.YtnllanjoebjeiaaGreatStore
namespace Go.Proofs.YtnllanjoebjeiaaGreat.Bx
open Go.RowKit Go.Proofs.YtnllanjoebjeiaaGreatW.PrintWords Go.Proofs.YtnllanjoebjeiaaGreatW.PrintLast Go.Proofs.YtnllanjoebjeiaaGreat.Pre
set_option linter.unusedVariables false
/-- Has it parts? -/
def isA : TypeDesc → Bool
  | .struct _ | .array _ _ => true
  | _ => false
abbrev Box := Nat × Array Value × TypeId
/-- What a walk knows of memory: below B nothing has turned, and these blocks, all apart and none below B, hold these cells. -/
structure Own (B : Nat) (w0 w : World) (hs : List Box) : Prop where
  below : Below B w0 w
  base : B ≤ w0.heap.size
  each : ∀ e ∈ hs, B ≤ e.1 ∧ w.heap[e.1]? = some (.cells e.2.1 e.2.2 (0, 0))
  apart : hs.Pairwise (fun e f => e.1 ≠ f.1)
inductive At : List Box → Nat → Array Value → TypeId → Prop
  | here {hs g cs t} : At ((g, cs, t) :: hs) g cs t
  | there {e hs g cs t} : At hs g cs t → At (e :: hs) g cs t
inductive Upd : List Box → Nat → Array Value → Array Value → TypeId → List Box → Prop
  | here {hs g cs cs' t} : Upd ((g, cs, t) :: hs) g cs cs' t ((g, cs', t) :: hs)
  | there {e hs g cs cs' t hs'} : Upd hs g cs cs' t hs' → Upd (e :: hs) g cs cs' t (e :: hs')
theorem At.mem {hs : List Box} {g : Nat} {cs : Array Value} {t : TypeId} (h : At hs g cs t) : (g, cs, t) ∈ hs := by
  induction h with
  | here => exact List.mem_cons_self
  | there _ ih => exact List.mem_cons_of_mem _ ih
theorem Upd.at {hs hs' : List Box} {g : Nat} {cs cs' : Array Value} {t : TypeId} (h : Upd hs g cs cs' t hs') : At hs g cs t := by
  induction h with
  | here => exact .here
  | there _ ih => exact .there ih
theorem Upd.at' {hs hs' : List Box} {g : Nat} {cs cs' : Array Value} {t : TypeId} (h : Upd hs g cs cs' t hs') : At hs' g cs' t := by
  induction h with
  | here => exact .here
  | there _ ih => exact .there ih
theorem Upd.keys {hs hs' : List Box} {g : Nat} {cs cs' : Array Value} {t : TypeId} (h : Upd hs g cs cs' t hs') : hs'.map (·.1) = hs.map (·.1) := by
  induction h with
  | here => rfl
  | there _ ih => rw [List.map_cons, List.map_cons, ih]
theorem pw_map {l : List Box} : l.Pairwise (fun e f => e.1 ≠ f.1) ↔ (l.map (·.1)).Pairwise (· ≠ ·) := List.pairwise_map.symm
theorem Upd.inv {hs hs' : List Box} {g : Nat} {cs cs' : Array Value} {t : TypeId} (h : Upd hs g cs cs' t hs') (hp : hs.Pairwise (fun e f => e.1 ≠ f.1)) : ∀ e ∈ hs', e = (g, cs', t) ∨ e ∈ hs ∧ e.1 ≠ g := by
  induction h with
  | here =>
    intro e he
    rcases List.mem_cons.1 he with rfl | he
    · exact .inl rfl
    · exact .inr ⟨List.mem_cons_of_mem _ he, fun q => (List.pairwise_cons.1 hp).1 e he q.symm⟩
  | there hu ih =>
    intro e he
    rcases List.mem_cons.1 he with rfl | he
    · exact .inr ⟨List.mem_cons_self, fun q => (List.pairwise_cons.1 hp).1 _ hu.at.mem q⟩
    · rcases ih (List.pairwise_cons.1 hp).2 e he with h | ⟨h, hn⟩
      · exact .inl h
      · exact .inr ⟨List.mem_cons_of_mem _ h, hn⟩
section
variable {B : Nat} {w0 w w' : World} {hs hs' : List Box}
theorem start (w : World) : Aside0 (Own w.heap.size w w []) := ⟨⟨Below.refl _ _, Nat.le_refl _, fun _ h => absurd h (by simp), List.Pairwise.nil⟩⟩
theorem Own.lt (h : Own B w0 w hs) : ∀ e ∈ hs, e.1 < w.heap.size := fun e he => blk_lt (h.each e he).2
theorem Own.stp (h : Own B w0 w hs) (hb : Below w.heap.size w w') : Own B w0 w' hs :=
  ⟨h.below.trans (hb.mono (Nat.le_trans h.base h.below.size)), h.base, fun e he => ⟨(h.each e he).1, (hb.block _ (h.lt e he)).trans (h.each e he).2⟩, h.apart⟩
theorem stp (h : Aside0 (Own B w0 w hs)) (hb : Below w.heap.size w w') : Aside0 (Own B w0 w' hs) := ⟨h.out.stp hb⟩
theorem dr (h : Aside0 (Own B w0 w hs)) (hd : Drawn0 w w') : Aside0 (Own B w0 w' hs) := by
  obtain ⟨n, rfl⟩ := hd.out
  exact ⟨h.out.stp ⟨rfl, rfl, rfl, Nat.le_refl _, fun _ _ => rfl⟩⟩
theorem new {g : Nat} {cs : Array Value} {t : TypeId} (h : Aside0 (Own B w0 w hs)) (hg : g = w.heap.size) (hc : w'.heap[g]? = some (.cells cs t (0, 0))) (hb : Below w.heap.size w w') : Aside0 (Own B w0 w' ((g, cs, t) :: hs)) := by
  have h1 := h.out.stp hb
  refine ⟨h1.below, h1.base, fun e he => ?_, List.pairwise_cons.2 ⟨fun e he q => ?_, h1.apart⟩⟩
  · rcases List.mem_cons.1 he with rfl | he
    · exact ⟨by rw [hg]; exact Nat.le_trans h.out.base h.out.below.size, hc⟩
    · exact h1.each e he
  · have := h.out.lt e he
    have q : g = e.1 := q
    omega
theorem drop {e : Box} (h : Aside0 (Own B w0 w (e :: hs))) : Aside0 (Own B w0 w hs) := ⟨h.out.below, h.out.base, fun f hf => h.out.each f (List.mem_cons_of_mem _ hf), (List.pairwise_cons.1 h.out.apart).2⟩
theorem Own.get {g : Nat} {cs : Array Value} {t : TypeId} (h : Own B w0 w hs) (ha : At hs g cs t) : w.heap[g]? = some (.cells cs t (0, 0)) := (h.each _ ha.mem).2
theorem put {g : Nat} {cs cs' : Array Value} {t : TypeId} (h : Aside0 (Own B w0 w hs)) (hu : Upd hs g cs cs' t hs') (hs_ : Sets g w w') (hc : w'.heap[g]? = some (.cells cs' t (0, 0))) : Aside0 (Own B w0 w' hs') := by
  have hg := h.out.each _ hu.at.mem
  refine ⟨hs_.below h.out.below hg.1, h.out.base, fun e he => ?_, ?_⟩
  · rcases hu.inv h.out.apart e he with rfl | ⟨he, hn⟩
    · exact ⟨hg.1, hc⟩
    · exact ⟨(h.out.each e he).1, hs_.blk (h.out.each e he).2 hn⟩
  · rw [pw_map, hu.keys, ← pw_map]; exact h.out.apart
theorem Own.sub {hr : List Box} (h : Own B w0 w hs) (hb : hr.Sublist hs) : Own B w0 w hr := ⟨h.below, h.base, fun e he => h.each e (hb.subset he), h.apart.sublist hb⟩
theorem Own.perm {hr : List Box} (h : Own B w0 w hs) (hp : hs.Perm hr) : Own B w0 w hr := ⟨h.below, h.base, fun e he => h.each e (hp.mem_iff.2 he), (hp.pairwise_iff (fun q => Ne.symm q)).1 h.apart⟩
/-- Blocks ahead, put behind some others. -/
theorem front (pre : List Box) {rs : List Box} (h : Aside0 (Own B w0 w (pre ++ (rs ++ hs)))) : Aside0 (Own B w0 w (rs ++ (pre ++ hs))) := ⟨h.out.perm (by rw [← List.append_assoc, ← List.append_assoc]; exact List.perm_append_comm.append_right _)⟩
theorem fin (h : Aside0 (Own w0.heap.size w0 w hs)) : Below w0.heap.size w0 w := h.out.below
end
theorem run_load_cell {P : Program} {w : World} {g k t ty : Nat} {cs : Array Value} {v : Value} {d : TypeDesc} (hh : w.heap[g]? = some (.cells cs t (0, 0))) (hu : P.underlying ty = some d) (hd : isA d = false) (hv : cs[k]? = some v) : (loadVar ty ⟨g, k, none⟩).run P w = .ok v w := by
  have hc : w.cell? ⟨g, k, none⟩ = some v := (blk_cell hh k).trans hv
  have hagg : (isAgg ty).run P w = .ok false w := by
    unfold isAgg
    rw [Sem.run_bind, run_underlying hu w]
    cases d <;> simp_all [isA]
  simp [loadVar, Sem.run_bind, hagg, hc, go_sem]
theorem run_load_cell_ {P : Program} {w : World} {p : Addr} {ty : Nat} {v : Value} {d : TypeDesc} (hc : w.cell? p = some v) (hu : P.underlying ty = some d) (hd : isA d = false) : (loadVar ty p).run P w = .ok v w := by
  have hagg : (isAgg ty).run P w = .ok false w := by
    unfold isAgg
    rw [Sem.run_bind, run_underlying hu w]
    cases d <;> simp_all [isA]
  simp [loadVar, Sem.run_bind, hagg, hc, go_sem]
theorem run_load_seg {P : Program} {w : World} {g k t ty : Nat} {cs : Array Value} {seg : List Value} {d : TypeDesc} (hh : w.heap[g]? = some (.cells cs t (0, 0))) (hu : P.underlying ty = some d) (hd : isA d = true) (hi : (P.info? ty).map (·.size) = some seg.length)
    (hv : (cs.toList.drop k).take seg.length = seg) : (loadVar ty ⟨g, k, none⟩).run P w = .ok (.agg seg.toArray) w := by
  refine run_loadVar_a w _ ty seg d (fun j v e => ?_) hu (by cases d <;> first | rfl | exact hd) hi
  have e2 : cs[k + j]? = some v := by
    rw [← hv, List.getElem?_take] at e
    split at e
    · rw [List.getElem?_drop] at e; simpa using e
    · cases e
  have ha : Addr.add ⟨g, k, none⟩ j = ⟨g, k + j, none⟩ := by
    unfold Addr.add
    split
    · next h => subst h; rfl
    · rfl
  rw [ha]
  exact (blk_cell hh (k + j)).trans e2
section
variable {P : Program} {ops : Array Oper} {Q : Exit → Act → World → Prop} {rest : List Oper} {o : Oper} {a : Act} {B : Nat} {w0 w : World} {hs hs' : List Box}
/-- A block is made. -/
theorem mk (N : Tmp) (cs : Array Value) (t : TypeId) (HO : Aside0 (Own B w0 w hs))
    (h : ∀ g w1, Aside0 (Own B w0 w1 ((g, cs, t) :: hs)) → wpList P ops Q rest (a.put o.dst (.pointer (some ⟨g, 0, none⟩))) w1)
    (hgd : o.guard = none := by rfl) (hd : o.dst = some N := by rfl)
    (hrun : (execOp a.eval o).run P w = .ok (.value (.pointer (some ⟨w.heap.size, 0, none⟩))) (w.alloc (.cells cs t (0, 0))) := by first | (go_simp; done) | (go_simp; rfl)) : wpList P ops Q (o :: rest) a w :=
  box_event hgd hd hrun fun g hg w1 hc hb => h g w1 (new HO hg hc hb)
/-- A literal slice is made. -/
theorem lit (N : Tmp) (cs : Array Value) (t n : Nat) (HO : Aside0 (Own B w0 w hs))
    (h : ∀ g w1, Aside0 (Own B w0 w1 ((g, cs, t) :: hs)) → wpList P ops Q rest (a.put o.dst (.slice (some ⟨g, 0, none⟩) n n)) w1)
    (hgd : o.guard = none := by rfl) (hd : o.dst = some N := by rfl)
    (hrun : (execOp a.eval o).run P w = .ok (.value (.slice (some ⟨w.heap.size, 0, none⟩) n n)) (w.alloc (.cells cs t)) := by first | (go_simp; done) | (go_simp; rfl)) : wpList P ops Q (o :: rest) a w :=
  Kd.event_run hgd hrun (h _ _ (new HO rfl (blk_new w _) (below_alloc (Below.refl _ _) _)))
/-- A cell is read. -/
theorem ld {N : Tmp} {ty : TypeId} {x : Operand} {g k t : Nat} {cs : Array Value} {v : Value} {d : TypeDesc} (HO : Aside0 (Own B w0 w hs)) (hu : P.underlying ty = some d)
    (h : wpList P ops Q rest (a.put (some N) v) w)
    (hg : o.guard = none := by rfl) (hd : o.dst = some N := by rfl) (ho : o.op = .load ty x := by rfl) (hx : a.eval x = .pointer (some ⟨g, k, none⟩) := by rfl)
    (ha : At hs g cs t := by repeat (first | exact .here | assumption | apply Bx.At.there)) (hs_ : isA d = false := by rfl) (hv : cs[k]? = some v := by rfl) : wpList P ops Q (o :: rest) a w :=
  wpList_plain hg fun K hK => by
    unfold Oper.wp execOp
    simp only [ho, hx, Instr.loadAt, Instr.sureAddr, Sem.run_bind, Sem.run_pure, Result.andThen_ok, run_load_cell (HO.out.get ha) hu hs_ hv]
    have := hK _ _ h
    show K (a.put o.dst v) w
    rw [hd]
    exact this
/-- Cells are read as a whole. -/
theorem lds {N : Tmp} {ty : TypeId} {x : Operand} {g k t : Nat} {cs : Array Value} {d : TypeDesc} (seg : List Value) (HO : Aside0 (Own B w0 w hs)) (hu : P.underlying ty = some d)
    (h : wpList P ops Q rest (a.put (some N) (.agg seg.toArray)) w)
    (hg : o.guard = none := by rfl) (hd : o.dst = some N := by rfl) (ho : o.op = .load ty x := by rfl) (hx : a.eval x = .pointer (some ⟨g, k, none⟩) := by rfl)
    (ha : At hs g cs t := by repeat (first | exact .here | assumption | apply Bx.At.there)) (hs_ : isA d = true := by rfl) (ht : (P.info? ty).map (·.size) = some seg.length := by kernel_rfl) (hv : (cs.toList.drop k).take seg.length = seg := by rfl) : wpList P ops Q (o :: rest) a w :=
  wpList_plain hg fun K hK => by
    unfold Oper.wp execOp
    simp only [ho, hx, Instr.loadAt, Instr.sureAddr, Sem.run_bind, Sem.run_pure, Result.andThen_ok, run_load_seg (HO.out.get ha) hu hs_ ht hv]
    have := hK _ _ h
    show K (a.put o.dst (.agg seg.toArray)) w
    rw [hd]
    exact this
/-- A cell that stood in memory ahead is read. -/
theorem ldw {N : Tmp} {ty : TypeId} {x : Operand} {p : Addr} {v : Value} {d : TypeDesc} (HO : Aside0 (Own w0.heap.size w0 w hs)) (hc : w0.cell? p = some v) (hu : P.underlying ty = some d)
    (h : wpList P ops Q rest (a.put (some N) v) w)
    (hg : o.guard = none := by rfl) (hd : o.dst = some N := by rfl) (ho : o.op = .load ty x := by rfl) (hx : a.eval x = .pointer (some p) := by rfl) (hs_ : isA d = false := by rfl) : wpList P ops Q (o :: rest) a w :=
  wpList_plain hg fun K hK => by
    unfold Oper.wp execOp
    simp only [ho, hx, Instr.loadAt, Instr.sureAddr, Sem.run_bind, Sem.run_pure, Result.andThen_ok, run_load_cell_ ((HO.out.below.cell (World.block_lt_of_cell? w0 _ hc)).trans hc) hu hs_]
    have := hK _ _ h
    show K (a.put o.dst v) w
    rw [hd]
    exact this
theorem run_put {ty : TypeId} {g k t : Nat} {cs : Array Value} {seg : List Value} {u : Value} (HO : Aside0 (Own B w0 w hs)) (hU : Upd hs g cs (setFrom cs k seg) t hs') (hc : u.cells.toList = seg) (ht : (P.info? ty).map (·.size) = some seg.length) (hfit : k + seg.length ≤ cs.size) (h1 : seg.all (·.oneCell') = true) :
    ∃ w1, (Instr.storeAt ty (.pointer (some ⟨g, k, none⟩)) u).run P w = .ok () w1 ∧ Aside0 (Own B w0 w1 hs') ∧ Sets g w w1 :=
  ⟨_, run_store_run (P := P) (o := k) ty u seg (HO.out.get hU.at) hc ht hfit (fun q hq => List.all_eq_true.1 h1 q hq), put HO hU (Sets.cells g _ _ _) (setCells_heap seg k w cs (HO.out.get hU.at)), Sets.cells g _ _ _⟩
/-- A block is written as a whole. -/
theorem sts {ty : TypeId} {x y : Operand} {g t : Nat} {cs cells : Array Value} (HO : Aside0 (Own B w0 w hs))
    (h : ∀ w1, Aside0 (Own B w0 w1 hs') → wpList P ops Q rest a w1)
    (hg : o.guard = none := by rfl) (hd : o.dst = none := by rfl) (ho : o.op = .store ty x y := by rfl) (hx : a.eval x = .pointer (some ⟨g, 0, none⟩) := by rfl) (hy : a.eval y = .agg cells := by rfl)
    (ha : At hs g cs t := by repeat (first | exact .here | assumption | apply Bx.At.there))
    (hU : Upd hs g cs cells t hs' := by repeat (first | exact .here | assumption | apply Bx.Upd.there))
    (ht : (P.info? ty).map (·.size) = some cells.size := by kernel_rfl) (hfit : cells.toList.length = cs.toList.length := by rfl) (h1 : cells.toList.all (·.oneCell') = true := by rfl) : wpList P ops Q (o :: rest) a w :=
  store_abs hg hd ho hx hy (HO.out.get ha) ht hfit h1 fun w1 hc hS => h w1 (put HO hU hS hc)
/-- A cell is written. -/
theorem st {ty : TypeId} {x y : Operand} {g k t : Nat} {cs cs' : Array Value} {u : Value} (HO : Aside0 (Own B w0 w hs))
    (h : ∀ w1, Aside0 (Own B w0 w1 hs') → wpList P ops Q rest a w1)
    (hg : o.guard = none := by rfl) (hd : o.dst = none := by rfl) (ho : o.op = .store ty x y := by rfl) (hx : a.eval x = .pointer (some ⟨g, k, none⟩) := by rfl) (hy : a.eval y = u := by ((conv => lhs; whnf); try rfl))
    (ha : At hs g cs t := by repeat (first | exact .here | assumption | apply Bx.At.there))
    (hcs : cs.setIfInBounds k u = cs' := by (simp only [Sq.s1, Sq.s2, Sq.s3]; rfl))
    (hU : Upd hs g cs cs' t hs' := by repeat (first | exact .here | assumption | apply Bx.Upd.there))
    (hc : u.cells.toList = [u] := by rfl) (ht : (P.info? ty).map (·.size) = some 1 := by kernel_rfl) (hfit : Nat.ble (k + 1) cs.size = true := by rfl) (h1 : u.oneCell' = true := by rfl) : wpList P ops Q (o :: rest) a w := by
  subst hcs
  obtain ⟨w1, hr, H1, _⟩ := run_put (P := P) (ty := ty) (seg := [u]) (k := k) HO hU hc ht (Nat.le_of_ble_eq_true hfit) (by rw [List.all_cons, h1]; rfl)
  refine wpList_plain hg fun K hK => ?_
  unfold Oper.wp execOp
  simp only [ho, hx, hy, Sem.run_bind, hr, Result.andThen_ok]
  have := hK _ _ (h w1 H1)
  show K (a.put o.dst undef) _
  rw [hd]
  exact this
end
section
variable {P : Program} {ops : Array Oper} {Q : Exit → Act → World → Prop} {md : Region.Mode} {S : World → Prop} {ds : List Nat} {T : Bool × List (List Nat × List Nat)} {V : List Nat} {fuel : Nat} {l : Array Bool} {a : Act} {B : Nat} {w0 w : World} {hs hs' hr : List Box}
/-- A region that draws its order is entered; hr: the blocks of which it reads. -/
theorem rgo {id n : Nat} (l : Array Bool) (ds : List Nat) (hr : List Box) (hT : rtab .any ops = T) (hV : waitsOk T.2 V = true) (HO : Aside0 (Own B w0 w hs))
    (h : ∀ w1, Aside0 (Own B w0 w1 hs) → Aside0 (Own B w0 w1 hr) → Aside0 (rtab .any ops = T) → Aside0 (waitsOk T.2 V = true) → wpAnyLast P .any ops Q (fun v => Own B w0 v hr) ds n l a w1)
    (hb : hr.Sublist hs := by repeat (first | exact List.nil_sublist _ | exact List.Sublist.refl _ | apply List.Sublist.cons_cons | apply List.Sublist.cons))
    (hm : P.follows .mixedOrders = true := by kernel_rfl) (hn : ops.size = n := by rfl) (hl : Array.replicate n false = l := by rfl) : (Code.region id ops true).wp P Q a w :=
  start_ l hm hn hl ((HO.out.stp (Below.refl _ _).drew).sub hb) (fun hS => h _ ⟨HO.out.stp (Below.refl _ _).drew⟩ ⟨hS⟩ ⟨hT⟩ ⟨hV⟩)
/-- A cell is read there. -/
theorem rld {ty : TypeId} {x : Operand} {oi : Oper} {g k t : Nat} {cs : Array Value} {v : Value} {d : TypeDesc} {a' : Act} (i : Nat) (N : Tmp) (l' : Array Bool) (hT : Aside0 (rtab md ops = T)) (hV : Aside0 (waitsOk T.2 V = true)) (HO : Aside0 (Own B w0 w hr)) (hu : P.underlying ty = some d)
    (h : wpAnyLast P md ops Q (fun v => Own B w0 v hr) ds fuel l' a' w)
    (hi : ops[i]? = some oi := by rfl) (hN : oi.dst = some N := by rfl) (hc : takeW T V ds l.toList l'.toList i = true := by kernel_rfl) (ho : oi.op = .load ty x := by rfl) (hx : a.eval x = .pointer (some ⟨g, k, none⟩) := by rfl)
    (hQ : ∀ c a w, Q (.panic c) (a.put oi.dst v) w → Q (.panic c) a w := by exact fun _ _ _ h => h) (hw : Region.wanted oi (yielded ops a.tmps) = true := by rfl)
    (ha : At hr g cs t := by repeat (first | exact .here | assumption | apply Bx.At.there)) (hs_ : isA d = false := by rfl) (hv : cs[k]? = some v := by rfl)
    (hp : a.put (some N) v = a' := by (simp only [Act.put, Sq.s1, Sq.s2, Sq.s3, i64_w, i32_w]; rfl)) : wpAnyLast P md ops Q (fun v => Own B w0 v hr) ds (fuel + 1) l a w := by
  refine take_ (i := i) (N := some N) l' hi hN (take_ofW hT.out hV.out hc) hQ (Or.inl ⟨hw, fun w1 hw1 => ?_⟩) HO.out hp h
  unfold execOp
  simp only [ho, hx, Instr.loadAt, Instr.sureAddr, Sem.run_bind, Sem.run_pure, Result.andThen_ok, run_load_cell (hw1.get ha) hu hs_ hv]
/-- Cells are read there as a whole. -/
theorem rlds {ty : TypeId} {x : Operand} {oi : Oper} {g k t : Nat} {cs : Array Value} {d : TypeDesc} {a' : Act} (i : Nat) (N : Tmp) (l' : Array Bool) (seg : List Value) (hT : Aside0 (rtab md ops = T)) (hV : Aside0 (waitsOk T.2 V = true)) (HO : Aside0 (Own B w0 w hr)) (hu : P.underlying ty = some d)
    (h : wpAnyLast P md ops Q (fun v => Own B w0 v hr) ds fuel l' a' w)
    (hi : ops[i]? = some oi := by rfl) (hN : oi.dst = some N := by rfl) (hc : takeW T V ds l.toList l'.toList i = true := by kernel_rfl) (ho : oi.op = .load ty x := by rfl) (hx : a.eval x = .pointer (some ⟨g, k, none⟩) := by rfl)
    (hQ : ∀ c a w, Q (.panic c) (a.put oi.dst (.agg seg.toArray)) w → Q (.panic c) a w := by exact fun _ _ _ h => h) (hw : Region.wanted oi (yielded ops a.tmps) = true := by rfl)
    (ha : At hr g cs t := by repeat (first | exact .here | assumption | apply Bx.At.there)) (hs_ : isA d = true := by rfl) (ht : (P.info? ty).map (·.size) = some seg.length := by kernel_rfl) (hv : (cs.toList.drop k).take seg.length = seg := by rfl)
    (hp : a.put (some N) (.agg seg.toArray) = a' := by (simp only [Act.put, Sq.s1, Sq.s2, Sq.s3, i64_w, i32_w]; rfl)) : wpAnyLast P md ops Q (fun v => Own B w0 v hr) ds (fuel + 1) l a w := by
  refine take_ (i := i) (N := some N) l' hi hN (take_ofW hT.out hV.out hc) hQ (Or.inl ⟨hw, fun w1 hw1 => ?_⟩) HO.out hp h
  unfold execOp
  simp only [ho, hx, Instr.loadAt, Instr.sureAddr, Sem.run_bind, Sem.run_pure, Result.andThen_ok, run_load_seg (hw1.get ha) hu hs_ ht hv]
/-- A block is written there as a whole, and nothing is read of it behind that. -/
theorem rsts {ty : TypeId} {x y : Operand} {oi : Oper} {g t : Nat} {cs cells : Array Value} (i : Nat) (l' : Array Bool) (hT : Aside0 (rtab md ops = T)) (HO : Aside0 (Own B w0 w hs))
    (h : ∀ w1, Aside0 (Own B w0 w1 hs') → wpAnyLast P md ops Q S ds fuel l' a w1)
    (hi : ops[i]? = some oi := by rfl) (hN : oi.dst = none := by rfl) (hc : (readyT T.2 l.toList == [i] && l.toList.set i true == l'.toList) = true := by kernel_rfl) (hd : i ∈ ds := by decide)
    (ho : oi.op = .store ty x y := by rfl) (hx : a.eval x = .pointer (some ⟨g, 0, none⟩) := by rfl) (hy : a.eval y = .agg cells := by rfl) (hw : Region.wanted oi (yielded ops a.tmps) = true := by rfl)
    (ha : At hs g cs t := by repeat (first | exact .here | assumption | apply Bx.At.there))
    (hU : Upd hs g cs cells t hs' := by repeat (first | exact .here | assumption | apply Bx.Upd.there))
    (ht : (P.info? ty).map (·.size) = some cells.size := by kernel_rfl) (hfit : cells.toList.length = cs.toList.length := by rfl) (h1 : cells.toList.all (·.oneCell') = true := by rfl) : wpAnyLast P md ops Q S ds (fuel + 1) l a w := by
  refine last_ (i := i) (N := none) l' hi hN (one_of hT.out hc) hd (fun K hK => ?_)
  have hr := run_store_run (P := P) (w := w) (g := g) (o := 0) (e := t) (cur := cs) ty (.agg cells) cells.toList (HO.out.get ha) rfl (by rw [ht, Array.length_toList]) (by rw [hfit, Array.length_toList]; omega) (fun q hq => List.all_eq_true.1 h1 q hq)
  refine skip_ (w1 := w.setCells g 0 cells.toList) hw hN ?_ ?_
  · unfold execOp
    simp only [ho, hx, hy, Sem.run_bind, hr, Result.andThen_ok]
    rfl
  · exact hK.out _ _ (h _ (put HO hU (Sets.cells g _ _ _) (setCells_allA (HO.out.get ha) (by simpa using hfit.symm))))
/-- A cell is written there. -/
theorem rst {ty : TypeId} {x y : Operand} {oi : Oper} {g k t : Nat} {cs cs' : Array Value} {u : Value} (i : Nat) (l' : Array Bool) (hT : Aside0 (rtab md ops = T)) (HO : Aside0 (Own B w0 w hs))
    (h : ∀ w1, Aside0 (Own B w0 w1 hs') → wpAnyLast P md ops Q S ds fuel l' a w1)
    (hi : ops[i]? = some oi := by rfl) (hN : oi.dst = none := by rfl) (hc' : (readyT T.2 l.toList == [i] && l.toList.set i true == l'.toList) = true := by kernel_rfl) (hd : i ∈ ds := by decide)
    (ho : oi.op = .store ty x y := by rfl) (hx : a.eval x = .pointer (some ⟨g, k, none⟩) := by rfl) (hy : a.eval y = u := by ((conv => lhs; whnf); try rfl)) (hw : Region.wanted oi (yielded ops a.tmps) = true := by rfl)
    (ha : At hs g cs t := by repeat (first | exact .here | assumption | apply Bx.At.there))
    (hcs : cs.setIfInBounds k u = cs' := by (simp only [Sq.s1, Sq.s2, Sq.s3]; rfl))
    (hU : Upd hs g cs cs' t hs' := by repeat (first | exact .here | assumption | apply Bx.Upd.there))
    (hc : u.cells.toList = [u] := by rfl) (ht : (P.info? ty).map (·.size) = some 1 := by kernel_rfl) (hfit : Nat.ble (k + 1) cs.size = true := by rfl) (h1 : u.oneCell' = true := by rfl) : wpAnyLast P md ops Q S ds (fuel + 1) l a w := by
  subst hcs
  refine last_ (i := i) (N := none) l' hi hN (one_of hT.out hc') hd (fun K hK => ?_)
  obtain ⟨w1, hr, H1, _⟩ := run_put (P := P) (ty := ty) (seg := [u]) (k := k) HO hU hc ht (Nat.le_of_ble_eq_true hfit) (by rw [List.all_cons, h1]; rfl)
  refine skip_ (w1 := w1) hw hN ?_ (hK.out _ _ (h w1 H1))
  unfold execOp
  simp only [ho, hx, hy, Sem.run_bind, hr, Result.andThen_ok]
  rfl
/-- A block is written there as a whole, and nothing is read of it in this region. -/
theorem rsts1 {ty : TypeId} {x y : Operand} {oi : Oper} {g t : Nat} {cs cells : Array Value} (i : Nat) (l' : Array Bool) (hT : Aside0 (rtab md ops = T)) (HO : Aside0 (Own B w0 w hs))
    (h : ∀ w1, Aside0 (Own B w0 w1 hs') → wpAnyLast P md ops Q S ds fuel l' a w1)
    (hi : ops[i]? = some oi := by rfl) (hN : oi.dst = none := by rfl) (hc : (readyT T.2 l.toList == [i] && l.toList.set i true == l'.toList) = true := by kernel_rfl) (hd : i ∉ ds := by decide)
    (ho : oi.op = .store ty x y := by rfl) (hx : a.eval x = .pointer (some ⟨g, 0, none⟩) := by rfl) (hy : a.eval y = .agg cells := by rfl) (hw : Region.wanted oi (yielded ops a.tmps) = true := by rfl)
    (ha : At hs g cs t := by repeat (first | exact .here | assumption | apply Bx.At.there))
    (hU : Upd hs g cs cells t hs' := by repeat (first | exact .here | assumption | apply Bx.Upd.there))
    (ht : (P.info? ty).map (·.size) = some cells.size := by kernel_rfl) (hfit : cells.toList.length = cs.toList.length := by rfl) (h1 : cells.toList.all (·.oneCell') = true := by rfl) (hS : ∀ u, Own B w0 u hs' → S u := by exact fun _ hu => hu.sub (by repeat (first | exact List.nil_sublist _ | exact List.Sublist.refl _ | apply List.Sublist.cons_cons | apply List.Sublist.cons))) : wpAnyLast P md ops Q S ds (fuel + 1) l a w := by
  refine one_ (i := i) (N := none) l' hi hN (one_of hT.out hc) hd (fun K hK => ?_)
  have hr := run_store_run (P := P) (w := w) (g := g) (o := 0) (e := t) (cur := cs) ty (.agg cells) cells.toList (HO.out.get ha) rfl (by rw [ht, Array.length_toList]) (by rw [hfit, Array.length_toList]; omega) (fun q hq => List.all_eq_true.1 h1 q hq)
  refine skip_ (w1 := w.setCells g 0 cells.toList) hw hN ?_ ?_
  · unfold execOp
    simp only [ho, hx, hy, Sem.run_bind, hr, Result.andThen_ok]
    rfl
  · have HO' := put HO hU (Sets.cells g _ _ _) (setCells_allA (HO.out.get ha) (by simpa using hfit.symm))
    exact hK.out _ _ (hS _ HO'.out) (fun _ => h _ HO')
/-- A cell is written there, of a block of which nothing is read in this region. -/
theorem rst1 {ty : TypeId} {x y : Operand} {oi : Oper} {g k t : Nat} {cs cs' : Array Value} {u : Value} (i : Nat) (l' : Array Bool) (hT : Aside0 (rtab md ops = T)) (HO : Aside0 (Own B w0 w hs))
    (h : ∀ w1, Aside0 (Own B w0 w1 hs') → wpAnyLast P md ops Q S ds fuel l' a w1)
    (hi : ops[i]? = some oi := by rfl) (hN : oi.dst = none := by rfl) (hc' : (readyT T.2 l.toList == [i] && l.toList.set i true == l'.toList) = true := by kernel_rfl) (hd : i ∉ ds := by decide)
    (ho : oi.op = .store ty x y := by rfl) (hx : a.eval x = .pointer (some ⟨g, k, none⟩) := by rfl) (hy : a.eval y = u := by ((conv => lhs; whnf); try rfl)) (hw : Region.wanted oi (yielded ops a.tmps) = true := by rfl)
    (ha : At hs g cs t := by repeat (first | exact .here | assumption | apply Bx.At.there))
    (hcs : cs.setIfInBounds k u = cs' := by (simp only [Sq.s1, Sq.s2, Sq.s3]; rfl))
    (hU : Upd hs g cs cs' t hs' := by repeat (first | exact .here | assumption | apply Bx.Upd.there))
    (hc : u.cells.toList = [u] := by rfl) (ht : (P.info? ty).map (·.size) = some 1 := by kernel_rfl) (hfit : Nat.ble (k + 1) cs.size = true := by rfl) (h1 : u.oneCell' = true := by rfl) (hS : ∀ u, Own B w0 u hs' → S u := by exact fun _ hu => hu.sub (by repeat (first | exact List.nil_sublist _ | exact List.Sublist.refl _ | apply List.Sublist.cons_cons | apply List.Sublist.cons))) : wpAnyLast P md ops Q S ds (fuel + 1) l a w := by
  subst hcs
  refine one_ (i := i) (N := none) l' hi hN (one_of hT.out hc') hd (fun K hK => ?_)
  obtain ⟨w1, hr, H1, _⟩ := run_put (P := P) (ty := ty) (seg := [u]) (k := k) HO hU hc ht (Nat.le_of_ble_eq_true hfit) (by rw [List.all_cons, h1]; rfl)
  refine skip_ (w1 := w1) hw hN ?_ (hK.out _ _ (hS _ H1.out) (fun _ => h w1 H1))
  unfold execOp
  simp only [ho, hx, hy, Sem.run_bind, hr, Result.andThen_ok]
  rfl
/-- A region that draws its order is entered; S: what is known all along. -/
theorem rgoS {id n : Nat} (l : Array Bool) (ds : List Nat) (S : World → Prop) (hT : rtab .any ops = T) (hV : waitsOk T.2 V = true) (HO : Aside0 (Own B w0 w hs))
    (h : ∀ w1, Aside0 (Own B w0 w1 hs) → Aside0 (S w1) → Aside0 (rtab .any ops = T) → Aside0 (waitsOk T.2 V = true) → wpAnyLast P .any ops Q S ds n l a w1)
    (hb : ∀ v, Own B w0 v hs → S v)
    (hm : P.follows .mixedOrders = true := by kernel_rfl) (hn : ops.size = n := by rfl) (hl : Array.replicate n false = l := by rfl) : (Code.region id ops true).wp P Q a w :=
  start_ l hm hn hl (hb _ (HO.out.stp (Below.refl _ _).drew)) (fun hS => h _ ⟨HO.out.stp (Below.refl _ _).drew⟩ ⟨hS⟩ ⟨hT⟩ ⟨hV⟩)
/-- The same where more is known than blocks. -/
theorem rldS {ty : TypeId} {x : Operand} {oi : Oper} {g k t : Nat} {cs : Array Value} {v : Value} {d : TypeDesc} {a' : Act} (i : Nat) (N : Tmp) (l' : Array Bool) (hT : Aside0 (rtab md ops = T)) (hV : Aside0 (waitsOk T.2 V = true)) (HS : Aside0 (S w)) (hSo : ∀ v, S v → Own B w0 v hr) (hu : P.underlying ty = some d)
    (h : wpAnyLast P md ops Q S ds fuel l' a' w)
    (hi : ops[i]? = some oi := by rfl) (hN : oi.dst = some N := by rfl) (hc : takeW T V ds l.toList l'.toList i = true := by kernel_rfl) (ho : oi.op = .load ty x := by rfl) (hx : a.eval x = .pointer (some ⟨g, k, none⟩) := by rfl)
    (hQ : ∀ c a w, Q (.panic c) (a.put oi.dst v) w → Q (.panic c) a w := by exact fun _ _ _ h => h) (hw : Region.wanted oi (yielded ops a.tmps) = true := by rfl)
    (ha : At hr g cs t := by repeat (first | exact .here | assumption | apply Bx.At.there)) (hs_ : isA d = false := by rfl) (hv : cs[k]? = some v := by rfl)
    (hp : a.put (some N) v = a' := by (simp only [Act.put, Sq.s1, Sq.s2, Sq.s3, i64_w, i32_w]; rfl)) : wpAnyLast P md ops Q S ds (fuel + 1) l a w := by
  refine take_ (i := i) (N := some N) l' hi hN (take_ofW hT.out hV.out hc) hQ (Or.inl ⟨hw, fun w1 hw1 => ?_⟩) HS.out hp h
  unfold execOp
  simp only [ho, hx, Instr.loadAt, Instr.sureAddr, Sem.run_bind, Sem.run_pure, Result.andThen_ok, run_load_cell ((hSo _ hw1).get ha) hu hs_ hv]
/-- A cell that is told by what is known. -/
theorem rldc {ty : TypeId} {x : Operand} {oi : Oper} {g k : Nat} {v0 : Value} {d : TypeDesc} {a' : Act} (i : Nat) (N : Tmp) (l' : Array Bool) (hT : Aside0 (rtab md ops = T)) (hV : Aside0 (waitsOk T.2 V = true)) (HS : Aside0 (S w)) (hSc : ∀ v, S v → v.cell? ⟨g, k, none⟩ = some v0) (hu : P.underlying ty = some d)
    (h : wpAnyLast P md ops Q S ds fuel l' a' w)
    (hi : ops[i]? = some oi := by rfl) (hN : oi.dst = some N := by rfl) (hc : takeW T V ds l.toList l'.toList i = true := by kernel_rfl) (ho : oi.op = .load ty x := by rfl) (hx : a.eval x = .pointer (some ⟨g, k, none⟩) := by rfl)
    (hQ : ∀ c a w, Q (.panic c) (a.put oi.dst v0) w → Q (.panic c) a w := by exact fun _ _ _ h => h) (hw : Region.wanted oi (yielded ops a.tmps) = true := by rfl)
    (hs_ : isA d = false := by rfl)
    (hp : a.put (some N) v0 = a' := by (simp only [Act.put, Sq.s1, Sq.s2, Sq.s3, i64_w, i32_w]; rfl)) : wpAnyLast P md ops Q S ds (fuel + 1) l a w := by
  refine take_ (i := i) (N := some N) l' hi hN (take_ofW hT.out hV.out hc) hQ (Or.inl ⟨hw, fun w1 hw1 => ?_⟩) HS.out hp h
  unfold execOp
  simp only [ho, hx, Instr.loadAt, Instr.sureAddr, Sem.run_bind, Sem.run_pure, Result.andThen_ok, run_load_cell_ (hSc _ hw1) hu hs_]
/-- Cells that lie in line, told by what is known, are read there as a whole. -/
theorem rldA {ty : TypeId} {x : Operand} {oi : Oper} {p : Addr} {cs : List Value} {d : TypeDesc} {a' : Act} (i : Nat) (N : Tmp) (l' : Array Bool) (hT : Aside0 (rtab md ops = T)) (hV : Aside0 (waitsOk T.2 V = true)) (HS : Aside0 (S w)) (hSc : ∀ v, S v → ∀ j u, cs[j]? = some u → v.cell? (p.add j) = some u) (hu : P.underlying ty = some d)
    (h : wpAnyLast P md ops Q S ds fuel l' a' w)
    (hi : ops[i]? = some oi := by rfl) (hN : oi.dst = some N := by rfl) (hc : takeW T V ds l.toList l'.toList i = true := by kernel_rfl) (ho : oi.op = .load ty x := by rfl) (hx : a.eval x = .pointer (some p) := by rfl)
    (hQ : ∀ c a w, Q (.panic c) (a.put oi.dst (.agg cs.toArray)) w → Q (.panic c) a w := by exact fun _ _ _ h => h) (hw : Region.wanted oi (yielded ops a.tmps) = true := by rfl)
    (hs_ : isA d = true := by rfl) (ht : (P.info? ty).map (·.size) = some cs.length := by kernel_rfl)
    (hp : a.put (some N) (.agg cs.toArray) = a' := by (simp only [Act.put, Sq.s1, Sq.s2, Sq.s3, i64_w, i32_w]; rfl)) : wpAnyLast P md ops Q S ds (fuel + 1) l a w :=
  take_ (i := i) (N := some N) l' hi hN (take_ofW hT.out hV.out hc) hQ (Or.inl ⟨hw, fun w1 hw1 => load_run_a ho hx (hSc w1 hw1) hu (by cases d <;> first | rfl | exact hs_) ht⟩) HS.out hp h
/-- A block is made, one of several that may come up. -/
theorem smk {oi : Oper} {K : Act → World → Prop} (N : Tmp) (cs : Array Value) (t : TypeId) (HO : Aside0 (Own B w0 w hs))
    (h : ∀ g w1, Aside0 (Own B w0 w1 ((g, cs, t) :: hs)) → K (a.put (some N) (.pointer (some ⟨g, 0, none⟩))) w1)
    (hN : oi.dst = some N := by rfl) (hw : Region.wanted oi (yielded ops a.tmps) = true := by rfl)
    (hrun : (execOp a.eval oi).run P w = .ok (.value (.pointer (some ⟨w.heap.size, 0, none⟩))) (w.alloc (.cells cs t (0, 0))) := by first | (go_simp; done) | (go_simp; rfl)) : if Region.wanted oi (yielded ops a.tmps) = true then Oper.wp P oi a w K Q else K (a.put (some N) undef) w := by
  have hb : Below w.heap.size w (w.alloc (.cells cs t (0, 0))) := below_alloc (Below.refl _ _) _
  have := h _ _ (new HO rfl (blk_new w _) hb)
  rw [if_pos hw]
  unfold Oper.wp
  rw [hrun]
  show K (a.put oi.dst _) _
  rw [hN]
  exact this
/-- A literal slice is made there. -/
theorem rlit {oi : Oper} (i : Nat) (N : Tmp) (l' : Array Bool) (cs : Array Value) (t n : Nat) (hT : Aside0 (rtab md ops = T)) (HO : Aside0 (Own B w0 w hs))
    (h : ∀ g w1, Aside0 (Own B w0 w1 ((g, cs, t) :: hs)) → wpAnyLast P md ops Q S ds fuel l' (a.put (some N) (.slice (some ⟨g, 0, none⟩) n n)) w1)
    (hi : ops[i]? = some oi := by rfl) (hN : oi.dst = some N := by rfl) (hc : (readyT T.2 l.toList == [i] && l.toList.set i true == l'.toList) = true := by kernel_rfl) (hd : i ∉ ds := by decide) (hw : Region.wanted oi (yielded ops a.tmps) = true := by rfl)
    (hrun : (execOp a.eval oi).run P w = .ok (.value (.slice (some ⟨w.heap.size, 0, none⟩) n n)) (w.alloc (.cells cs t)) := by first | (go_simp; done) | (go_simp; rfl))
    (hS : ∀ u, Own B w0 u hs → S u := by exact fun _ hu => hu.sub (by repeat (first | exact List.nil_sublist _ | exact List.Sublist.refl _ | apply List.Sublist.cons_cons | apply List.Sublist.cons))) : wpAnyLast P md ops Q S ds (fuel + 1) l a w := by
  have hb : Below w.heap.size w (w.alloc (.cells cs t)) := below_alloc (Below.refl _ _) _
  refine one_ (i := i) (N := some N) l' hi hN (one_of hT.out hc) hd (fun K hK => ?_)
  have := hK.out _ _ (hS _ (HO.out.stp hb)) (fun _ => h _ _ (new HO rfl (blk_new w _) hb))
  rw [if_pos hw]
  unfold Oper.wp
  rw [hrun]
  show K (a.put oi.dst _) _
  rw [hN]
  exact this
end
/-! Rows of one's own: a block whose first cells are told. -/
/-- v is n parts of so many cells each, xs in all, the first of block b. -/
structure Row (size n : Nat) (v : Value) (xs : List Value) (b : Box) : Prop where
  ex : ∃ cap, v = .slice (some ⟨b.1, 0, none⟩) n cap ∧ n ≤ cap ∧ cap ≤ maxLen ∧ b.2.1.size = cap * size
  len : xs.length = n * size
  take : b.2.1.toList.take (n * size) = xs
/-- The row's block, if it has one. -/
inductive Rowed (size : Nat) : Nat → Value → List Value → TypeId → List Box → Prop
  | nil {e} : Rowed size 0 (.slice none 0 0) [] e []
  | row {n v xs g cs e} : 0 < n → Row size n v xs (g, cs, e) → Rowed size n v xs e [(g, cs, e)]
theorem Rowed.some {size n : Nat} {v : Value} {xs : List Value} {e : TypeId} {rs : List Box} (h : Rowed size n v xs e rs) (hn : 0 < n) : ∃ g cs cap, rs = [(g, cs, e)] ∧ v = .slice (some ⟨g, 0, none⟩) n cap ∧ Row size n v xs (g, cs, e) := by
  cases h with
  | nil => exact absurd hn (Nat.lt_irrefl 0)
  | row _ h =>
    obtain ⟨cap, hv, _⟩ := h.ex
    exact ⟨_, _, cap, rfl, hv, h⟩
theorem Row.seg {size n : Nat} {v : Value} {xs seg : List Value} {b : Box} (h : Row size n v xs b) (k : Nat) (hk : k + seg.length ≤ n * size) (hx : (xs.drop k).take seg.length = seg) : (b.2.1.toList.drop k).take seg.length = seg := by
  have h1 : ((b.2.1.toList.take (n * size)).drop k).take seg.length = (b.2.1.toList.drop k).take seg.length := by rw [List.drop_take, List.take_take, Nat.min_eq_left (by omega)]
  rw [← h1, h.take]
  exact hx
section
variable {P : Program} {B : Nat} {w0 w : World} {hs rs : List Box}
theorem run_app {t ty e size bytes n m c : Nat} {z v : Value} {xs news : List Value} {ga : Nat} {ca : Array Value} {ta : TypeId} (HO : Aside0 (Own B w0 w (rs ++ hs))) (hr : Rowed size n v xs e rs) (ha : At hs ga ca ta) (ht : P.underlying t = some (.slice e)) (hinfo : (P.info? e).map (fun i => (i.zero, i.size, i.bytes)) = some (some z, size, bytes)) (hz : z.cells.size = size) (hs0 : 0 < size)
    (hl : news.length = m * size) (hnews : ca.toList.take news.length = news) (h1 : news.all (·.oneCell') = true) (hm : 0 < m) (h63 : n + m ≤ 1000) (hby : bytes ≤ 1000) :
    ∃ v' w' g' cs', (Builtin.append_ #[t, t] ty #[v, .slice (some ⟨ga, 0, none⟩) m c]).run P w = .ok v' w' ∧ Row size (n + m) v' (xs ++ news) (g', cs', e) ∧ Aside0 (Own B w0 w' ((g', cs', e) :: hs)) := by
  obtain ⟨i, hi, hi2⟩ := Option.map_eq_some_iff.1 hinfo
  simp only [Prod.mk.injEq] at hi2
  obtain ⟨hz1, hz2, hz3⟩ := hi2
  have hB : B ≤ w.heap.size := Nat.le_trans HO.out.base HO.out.below.size
  have hget : w.heap[ga]? = some (.cells ca ta (0, 0)) := HO.out.get (by
    clear hnews HO hr
    induction rs with
    | nil => exact ha
    | cons r rs ih => exact .there ih)
  have hown : w.ownsRow B e size v n xs := by
    cases hr with
    | nil => exact World.ownsRow_nil w B e size
    | row hn h =>
      obtain ⟨cap, hv, h1, h2, h3⟩ := h.ex
      exact ⟨h.len, .inr ⟨_, cap, _, hv, (HO.out.each _ List.mem_cons_self).1, (HO.out.each _ List.mem_cons_self).2, h1, h2, h3, h.take⟩⟩
  have hne : v.ownBlock ≠ some ga ∧ ∀ f ∈ hs, v.ownBlock ≠ some f.1 := by
    cases hr with
    | nil => exact ⟨by simp [Value.ownBlock], fun _ _ => by simp [Value.ownBlock]⟩
    | row hn h =>
      obtain ⟨cap, hv, _⟩ := h.ex
      have hp := (List.pairwise_cons.1 HO.out.apart).1
      subst hv
      exact ⟨by simp only [Value.ownBlock]; intro q; exact hp _ ha.mem (Option.some.inj q), fun f hf => by simp only [Value.ownBlock]; intro q; exact hp _ hf (Option.some.inj q)⟩
  obtain ⟨v', w', hrun, ho, hg, _, hat⟩ := run_append_own_at (P := P) w B t ty e i z size bytes ht hi hz1 hz2 hz3 hz hs0 v n xs hown ⟨ga, 0, none⟩ m c news hl (fun j u hu => by
    have e2 : ca[j]? = some u := by
      rw [← hnews, List.getElem?_take] at hu
      split at hu
      · simpa using hu
      · cases hu
    have hadd : Addr.add ⟨ga, 0, none⟩ j = ⟨ga, j, none⟩ := by unfold Addr.add; split <;> simp_all
    rw [hadd]
    exact (blk_cell hget j).trans e2) (fun u hu => List.all_eq_true.1 h1 u hu) (by simp only [maxLen]; omega) (by calc (n + m) * bytes ≤ 1000 * 1000 := Nat.mul_le_mul h63 hby
                                                                                                            _ ≤ 140737488355328 := by decide) hB
  have hb : Below B w0 w' := HO.out.below.grown hg hB (fun k hk => by
    cases hr with
    | nil => simp [Value.ownBlock] at hk
    | row hn h =>
      obtain ⟨cap, hv, _⟩ := h.ex
      subst hv
      simp only [Value.ownBlock, Option.some.injEq] at hk
      rw [← hk]
      exact (HO.out.each _ List.mem_cons_self).1)
  have hold : ∀ f ∈ hs, f.1 < w.heap.size ∧ w'.heap[f.1]? = some (.cells f.2.1 f.2.2 (0, 0)) ∧ B ≤ f.1 := fun f hf => by
    have hf2 : f ∈ rs ++ hs := List.mem_append_right _ hf
    exact ⟨HO.out.lt f hf2, (hg.block _ (HO.out.lt f hf2) (fun q => hne.2 f hf q.symm)).trans (HO.out.each f hf2).2, (HO.out.each f hf2).1⟩
  have hpw : hs.Pairwise (fun e f => e.1 ≠ f.1) := (List.pairwise_append.1 HO.out.apart).2.1
  rcases ho.2 with ⟨_, hn0⟩ | ⟨g, cap, cur, hv', hbg, hcell, hnc, hcm, hcs, htake⟩
  · omega
  · refine ⟨v', w', g, cur, hrun, ⟨⟨cap, hv', hnc, hcm, hcs⟩, ho.1, htake⟩, ⟨⟨hb, HO.out.base, fun f hf => ?_, List.pairwise_cons.2 ⟨fun f hf q => ?_, hpw⟩⟩⟩⟩
    · rcases List.mem_cons.1 hf with rfl | hf
      · exact ⟨hbg, hcell⟩
      · exact ⟨(hold f hf).2.2, (hold f hf).2.1⟩
    · have q : g = f.1 := q
      subst hv'
      rcases hat with hat | hat
      · refine hne.2 f hf ?_
        rw [← hat, q]; rfl
      · have : g = w.heap.size := by simpa [Value.ownBlock] using hat
        have := (hold f hf).1
        omega
/-- append of nothing to nothing: a step of a walk. -/
theorem app0 {ops : Array Oper} {Q : Exit → Act → World → Prop} {rest : List Oper} {o : Oper} {a : Act} {s x : Operand} {t e : TypeId} (ht : P.underlying t = some (.slice e)) (hi : (P.info? e).isSome = true) (h : wpList P ops Q rest (a.put o.dst (.slice none 0 0)) w)
    (hgd : o.guard = none := by rfl) (ho : o.op = .call { callee := .builtin .append, args := #[s, x], argTypes := #[t, t] } := by rfl) (hs_ : a.eval s = .slice none 0 0 := by rfl) (hx : a.eval x = .slice none 0 0 := by rfl) : wpList P ops Q (o :: rest) a w := by
  obtain ⟨i, hi⟩ := Option.isSome_iff_exists.1 hi
  have hrun : (Builtin.append_ #[t, t] o.type #[.slice none 0 0, .slice none 0 0]).run P w = .ok (.slice none 0 0) w := by simp [Builtin.append_, run_underlying ht, sizeOf, typeInfo, hi, Builtin.lenOf, Builtin.firstCells]
  refine wpList_plain hgd fun K hK => ?_
  unfold Oper.wp execOp
  simp only [ho, resolve, invoke, builtin, Sem.run_bind, Sem.run_pure, Result.andThen_ok, List.map_toArray, List.map_cons, List.map_nil, hs_, hx, hrun]
  exact hK _ _ h
/-- append of a box's first parts behind a row of one's own: a step of a walk. -/
theorem app {ops : Array Oper} {Q : Exit → Act → World → Prop} {rest : List Oper} {o : Oper} {a : Act} {s x : Operand} {t e size bytes n m c ga ta : Nat} {z v : Value} {xs : List Value} {ca : Array Value} (news : List Value) (HO : Aside0 (Own B w0 w (rs ++ hs))) (hr : Rowed size n v xs e rs) (ht : P.underlying t = some (.slice e)) (hinfo : (P.info? e).map (fun i => (i.zero, i.size, i.bytes)) = some (some z, size, bytes))
    (h : ∀ v' g' cs' w', Row size (n + m) v' (xs ++ news) (g', cs', e) → Aside0 (Own B w0 w' ((g', cs', e) :: hs)) → wpList P ops Q rest (a.put o.dst v') w')
    (hgd : o.guard = none := by rfl) (ho : o.op = .call { callee := .builtin .append, args := #[s, x], argTypes := #[t, t] } := by rfl) (hs_ : a.eval s = v := by rfl) (hx : a.eval x = .slice (some ⟨ga, 0, none⟩) m c := by rfl)
    (ha : At hs ga ca ta := by repeat (first | exact .here | assumption | apply Bx.At.there)) (hz : z.cells.size = size := by rfl) (hs0 : 0 < size := by decide)
    (hl : news.length = m * size := by rfl) (hnews : ca.toList.take news.length = news := by rfl) (h1 : news.all (·.oneCell') = true := by rfl) (hm : 0 < m := by decide) (h63 : n + m ≤ 1000 := by decide) (hby : bytes ≤ 1000 := by decide) : wpList P ops Q (o :: rest) a w := by
  obtain ⟨v', w', g', cs', hrun, hrow, HO'⟩ := run_app (ty := o.type) (c := c) HO hr ha ht hinfo hz hs0 hl hnews h1 hm h63 hby
  refine wpList_plain hgd fun K hK => ?_
  unfold Oper.wp execOp
  simp only [ho, resolve, invoke, builtin, Sem.run_bind, Sem.run_pure, Result.andThen_ok, List.map_toArray, List.map_cons, List.map_nil, hs_, hx, hrun]
  exact hK _ _ (h v' g' cs' w' hrow HO')
/-- The same in a region that draws. -/
theorem rapp {ops : Array Oper} {Q : Exit → Act → World → Prop} {md : Region.Mode} {S : World → Prop} {ds : List Nat} {T : Bool × List (List Nat × List Nat)} {fuel : Nat} {l : Array Bool} {oi : Oper} {a : Act} {s x : Operand} {t e size bytes n m c ga ta : Nat} {z v : Value} {xs : List Value} {ca : Array Value} (i : Nat) (N : Tmp) (l' : Array Bool) (news : List Value) (hT : Aside0 (rtab md ops = T)) (HO : Aside0 (Own B w0 w (rs ++ hs))) (hr : Rowed size n v xs e rs) (ht : P.underlying t = some (.slice e)) (hinfo : (P.info? e).map (fun i => (i.zero, i.size, i.bytes)) = some (some z, size, bytes))
    (h : ∀ v' g' cs' w', Row size (n + m) v' (xs ++ news) (g', cs', e) → Aside0 (Own B w0 w' ((g', cs', e) :: hs)) → wpAnyLast P md ops Q S ds fuel l' (a.put (some N) v') w')
    (hi : ops[i]? = some oi := by rfl) (hN : oi.dst = some N := by rfl) (hc : (readyT T.2 l.toList == [i] && l.toList.set i true == l'.toList) = true := by kernel_rfl) (hd : i ∉ ds := by decide) (hw : Region.wanted oi (yielded ops a.tmps) = true := by rfl)
    (ho : oi.op = .call { callee := .builtin .append, args := #[s, x], argTypes := #[t, t] } := by rfl) (hs_ : a.eval s = v := by rfl) (hx : a.eval x = .slice (some ⟨ga, 0, none⟩) m c := by rfl)
    (ha : At hs ga ca ta := by repeat (first | exact .here | assumption | apply Bx.At.there)) (hz : z.cells.size = size := by rfl) (hs0 : 0 < size := by decide)
    (hl : news.length = m * size := by rfl) (hnews : ca.toList.take news.length = news := by rfl) (h1 : news.all (·.oneCell') = true := by rfl) (hm : 0 < m := by decide) (h63 : n + m ≤ 1000 := by decide) (hby : bytes ≤ 1000 := by decide) (hS : ∀ u b, Own B w0 u (b :: hs) → S u := by exact fun _ _ hu => hu.sub (by repeat (first | exact List.nil_sublist _ | exact List.Sublist.refl _ | apply List.Sublist.cons_cons | apply List.Sublist.cons))) : wpAnyLast P md ops Q S ds (fuel + 1) l a w := by
  obtain ⟨v', w', g', cs', hrun, hrow, HO'⟩ := run_app (ty := oi.type) (c := c) HO hr ha ht hinfo hz hs0 hl hnews h1 hm h63 hby
  refine one_ (i := i) (N := some N) l' hi hN (one_of hT.out hc) hd (fun K hK => ?_)
  have := hK.out _ _ (hS _ _ HO'.out) (fun _ => h v' g' cs' w' hrow HO')
  rw [if_pos hw]
  unfold Oper.wp execOp
  simp only [ho, resolve, invoke, builtin, Sem.run_bind, Sem.run_pure, Result.andThen_ok, List.map_toArray, List.map_cons, List.map_nil, hs_, hx, hrun]
  show K (a.put oi.dst _) _
  rw [hN]
  exact this
end
/-- A row of one part, none of which leads to a row. -/
theorem rowS {α : Type} {d : Kd α} {x : α} {v : Value} {cs : List Value} {b : Box} {B : Nat} {w0 w : World} {hs : List Box} (h : Row d.sz 1 v cs b) (HO : Aside0 (Own B w0 w (b :: hs))) (hM : ∀ ok, d.M w B ok x cs) : Kd.S d b.2.2 w B (fun _ => True) v [x] := by
  obtain ⟨cap, hv, h1, h2, h3⟩ := h.ex
  exact ⟨fun _ => 0, fun _ _ => trivial, cs, ⟨h.len, .inr ⟨_, cap, _, hv, (HO.out.each _ List.mem_cons_self).1, (HO.out.each _ List.mem_cons_self).2, h1, h2, h3, h.take⟩⟩, Reps.snoc (p := (x, 0)) (Reps.none _ _) (hM _) (h.len.trans (Nat.one_mul _))⟩
section
variable {P : Program} {tmps : Array Value} {B : Nat} {w0 w : World} {hs : List Box}
theorem vt {u : Tmp} {v : Value} {rs : List ResultVar} {vs : List Value} (h : Vals P tmps w rs vs) (hv : tmps.getD u undef = v := by rfl) : Vals P tmps w (.tmp u :: rs) (v :: vs) := hv ▸ .tmp h
theorem vc {p : Tmp} {ty : TypeId} {d : TypeDesc} {g t : Nat} {cs : Array Value} {rs : List ResultVar} {vs : List Value} (HO : Aside0 (Own B w0 w hs)) (hu : P.underlying ty = some d) (h : Vals P tmps w rs vs)
    (hp : tmps.getD p undef = .pointer (some ⟨g, 0, none⟩) := by rfl) (ha : At hs g cs t := by repeat (first | exact .here | assumption | apply Bx.At.there)) (hd : isA d = true := by rfl) (hi : (P.info? ty).map (·.size) = some cs.size := by kernel_rfl) : Vals P tmps w (.cell p ty :: rs) (.agg cs :: vs) :=
  .cell g t cs (0, 0) d hp (HO.out.get ha) hu (by cases d <;> first | rfl | exact hd) hi h
/-- Several results (or none): 'vals' from vt, vc. -/
theorem ret {fn : Func} {R : Ending → World → Prop} {a : Act} (rs : List ResultVar) {vs : List Value} (hv : Vals P a.tmps w rs vs) (hR : R (.returned (.tuple vs.toArray)) w) (h : fn.results = rs.toArray := by rfl) (hl : (vs.length == 1) = false := by rfl) (hd : a.defers = [] := by rfl) : bodyPost P fn R .ret a w :=
  bodyPost_ret (results_list h (by simpa using hl) hv) hd hR
end
end Go.Proofs.YtnllanjoebjeiaaGreat.Bx
