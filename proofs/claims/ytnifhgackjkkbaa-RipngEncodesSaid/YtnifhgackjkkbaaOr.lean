/-
A row of comparisons 'x != y || ..' inside a region: each is carried out only where those before it said no; told in one step each, the Bool so far being a variable.
-/
import Derived.Test.YtnifhgackjkkbaaWMore
namespace Go.Proofs.Ytnifhgackjkkbaa.Pre
set_option linter.unusedVariables false
set_option linter.unusedSimpArgs false
open Go.RowKit Go.Proofs.YtnifhgackjkkbaaW.PrintWords Go.Proofs.YtnifhgackjkkbaaW.PrintLast
section
variable {P : Program} {ops : Array Oper} {Q : Exit → Act → World → Prop} {a : Act} {w : World} {rest : List Oper} {o : Oper}
theorem ev_self {d : Nat} {v : Value} (h : d < a.tmps.size) : (a.put (some d) v).eval (.tmp d) = v := by
  simp [Act.put, Act.eval, Array.getD, h]
theorem ev_ne {d t : Nat} {v : Value} (h : t ≠ d) : (a.put (some d) v).eval (.tmp t) = a.eval (.tmp t) := by
  simp only [Act.put, Act.eval, Array.getD_eq_getD_getElem?]
  rw [Array.getElem?_setIfInBounds_ne (Ne.symm h)]
theorem sz_put (d : Option Tmp) (v : Value) : (a.put d v).tmps.size = a.tmps.size := by
  cases d <;> simp [Act.put]
theorem yielded_of {gi : Nat} {s : Nat} {b : Bool} (hs : (ops[gi]?).bind (·.dst) = some s) (hz : s < a.tmps.size) (hv : a.eval (.tmp s) = .bool b) : yielded ops a.tmps gi = some b := by
  have e : a.tmps[s]? = some (.bool b) := by
    rw [Array.getElem?_eq_getElem hz]
    simp only [Act.eval, Array.getD, hz, dif_pos] at hv
    exact congrArg some hv
  simp only [yielded, hs, Option.bind_some, e]
theorem gd_step {n s : Nat} {gi : Nat} {b : Bool} {x : Value} (hg : o.guard = some (gi, false)) (hd : o.dst = some n) (hs : (ops[gi]?).bind (·.dst) = some s) (hz : s < a.tmps.size) (hv : a.eval (.tmp s) = .bool b)
    (hrun : b = false → (execOp a.eval o).run P w = .ok (.value x) w)
    (h : ∀ u, (b = false → u = x) → wpList P ops Q rest (a.put (some n) u) w) : wpList P ops Q (o :: rest) a w := by
  have hy := yielded_of (a := a) hs hz hv
  cases b with
  | true =>
    refine wpList_skip (by simp [Region.wanted, hg, hy]) ?_
    rw [hd]; exact h _ (fun c => by cases c)
  | false =>
    refine wpList_step fun K hK => ?_
    rw [if_pos (by simp [Region.wanted, hg, hy])]
    unfold Oper.wp
    rw [hrun rfl]
    show K (a.put o.dst x) w
    rw [hd]; exact hK _ _ (h x (fun _ => rfl))
theorem pl_step {n : Nat} {x : Value} (hg : o.guard = none) (hd : o.dst = some n) (hrun : (execOp a.eval o).run P w = .ok (.value x) w)
    (h : wpList P ops Q rest (a.put (some n) x) w) : wpList P ops Q (o :: rest) a w := by
  refine Kd.event_run hg hrun ?_
  rw [hd]; exact h
theorem pick_run {ρ : Operand → Value} {c x y : Operand} {b : Bool} (hop : o.op = .pick c x y) (hc : ρ c = .bool b) : (execOp ρ o).run P w = .ok (.value (if b = true then ρ x else ρ y)) w := by
  cases b <;> simp [execOp, hop, hc, asBool, go_sem]
/-- One comparison of a row: where what came before said no, two fields are loaded and compared; what it yields is said or the Bool so far. -/
theorem or_block {o1 o2 o3 o4 o5 o6 o7 : Oper} {n p q s gi : Nat} {b e : Bool} {A1 A2 B1 B2 X1 X2 : Value}
    (hn : n + 7 ≤ a.tmps.size) (hp : p < n) (hq : q < n) (hsn : s < n) (hs : (ops[gi]?).bind (·.dst) = some s) (hv : a.eval (.tmp s) = .bool b)
    (h1p : a.eval (.tmp p) = A1) (h2q : a.eval (.tmp q) = A2)
    (g1 : o1.guard = some (gi, false)) (d1 : o1.dst = some n) (r1 : ∀ (a : Act), a.eval (.tmp p) = A1 → (execOp a.eval o1).run P w = .ok (.value B1) w)
    (g2 : o2.guard = some (gi, false)) (d2 : o2.dst = some (n + 1)) (r2 : ∀ (a : Act), a.eval (.tmp n) = B1 → (execOp a.eval o2).run P w = .ok (.value X1) w)
    (g3 : o3.guard = some (gi, false)) (d3 : o3.dst = some (n + 2)) (r3 : ∀ (a : Act), a.eval (.tmp q) = A2 → (execOp a.eval o3).run P w = .ok (.value B2) w)
    (g4 : o4.guard = some (gi, false)) (d4 : o4.dst = some (n + 3)) (r4 : ∀ (a : Act), a.eval (.tmp (n + 2)) = B2 → (execOp a.eval o4).run P w = .ok (.value X2) w)
    (g5 : o5.guard = some (gi, false)) (d5 : o5.dst = some (n + 4)) (r5 : ∀ (a : Act), a.eval (.tmp (n + 1)) = X1 → a.eval (.tmp (n + 3)) = X2 → (execOp a.eval o5).run P w = .ok (.value (.bool e)) w)
    (g6 : o6.guard = none) (d6 : o6.dst = some (n + 5)) (p6 : o6.op = .pick (.tmp s) (.const (.bool true)) (.tmp (n + 4)))
    (g7 : o7.guard = none) (d7 : o7.dst = some (n + 6)) (p7 : o7.op = .move (.tmp (n + 5)))
    (h : ∀ u1 u2 u3 u4 u5, wpList P ops Q rest (((((((a.put (some n) u1).put (some (n + 1)) u2).put (some (n + 2)) u3).put (some (n + 3)) u4).put (some (n + 4)) u5).put (some (n + 5)) (.bool (b || e))).put (some (n + 6)) (.bool (b || e))) w) :
    wpList P ops Q (o1 :: o2 :: o3 :: o4 :: o5 :: o6 :: o7 :: rest) a w := by
  refine gd_step g1 d1 hs (by omega) hv (x := B1) (fun _ => r1 _ h1p) fun u1 k1 => ?_
  refine gd_step g2 d2 hs (by rw [sz_put]; omega) (b := b) (by rw [ev_ne (by exact Nat.ne_of_lt (by omega))]; exact hv) (x := X1) (fun hb => r2 _ (by rw [ev_self (by omega)]; exact k1 hb)) fun u2 k2 => ?_
  refine gd_step g3 d3 hs (by rw [sz_put, sz_put]; omega) (b := b) (by rw [ev_ne (by exact Nat.ne_of_lt (by omega)), ev_ne (by exact Nat.ne_of_lt (by omega))]; exact hv) (x := B2) (fun hb => r3 _ (by rw [ev_ne (by exact Nat.ne_of_lt (by omega)), ev_ne (by exact Nat.ne_of_lt (by omega))]; exact h2q)) fun u3 k3 => ?_
  refine gd_step g4 d4 hs (by rw [sz_put, sz_put, sz_put]; omega) (b := b) (by rw [ev_ne (by exact Nat.ne_of_lt (by omega)), ev_ne (by exact Nat.ne_of_lt (by omega)), ev_ne (by exact Nat.ne_of_lt (by omega))]; exact hv) (x := X2) (fun hb => r4 _ (by rw [ev_self (by rw [sz_put, sz_put]; omega)]; exact k3 hb)) fun u4 k4 => ?_
  refine gd_step g5 d5 hs (by rw [sz_put, sz_put, sz_put, sz_put]; omega) (b := b) (by rw [ev_ne (by exact Nat.ne_of_lt (by omega)), ev_ne (by exact Nat.ne_of_lt (by omega)), ev_ne (by exact Nat.ne_of_lt (by omega)), ev_ne (by exact Nat.ne_of_lt (by omega))]; exact hv) (x := .bool e)
    (fun hb => r5 _ (by rw [ev_ne (by exact Nat.ne_of_lt (by omega)), ev_ne (by exact Nat.ne_of_lt (by omega)), ev_self (by rw [sz_put]; omega)]; exact k2 hb) (by rw [ev_self (by rw [sz_put, sz_put, sz_put]; omega)]; exact k4 hb)) fun u5 k5 => ?_
  refine pl_step g6 d6 (x := .bool (b || e)) ?_ ?_
  · have e1 : (((((a.put (some n) u1).put (some (n + 1)) u2).put (some (n + 2)) u3).put (some (n + 3)) u4).put (some (n + 4)) u5).eval (.tmp s) = .bool b := by
      rw [ev_ne (by exact Nat.ne_of_lt (by omega)), ev_ne (by exact Nat.ne_of_lt (by omega)), ev_ne (by exact Nat.ne_of_lt (by omega)), ev_ne (by exact Nat.ne_of_lt (by omega)), ev_ne (by exact Nat.ne_of_lt (by omega))]; exact hv
    have e2 : (((((a.put (some n) u1).put (some (n + 1)) u2).put (some (n + 2)) u3).put (some (n + 3)) u4).put (some (n + 4)) u5).eval (.tmp (n + 4)) = u5 := ev_self (by rw [sz_put, sz_put, sz_put, sz_put]; omega)
    rw [pick_run p6 e1, e2]
    cases b with
    | true => rfl
    | false => rw [k5 rfl]; rfl
  refine pl_step g7 d7 (x := .bool (b || e)) ?_ (h u1 u2 u3 u4 u5)
  simp only [execOp, p7]
  rw [ev_self (by rw [sz_put, sz_put, sz_put, sz_put, sz_put]; omega)]
  rfl
/-- One comparison of a row: where what came before said no, two fields are loaded and compared; what it yields is said or the Bool so far. -/
theorem or_six {o1 o2 o3 o4 o5 o6 : Oper} {n p q s gi : Nat} {b e : Bool} {A1 A2 B1 B2 X1 X2 : Value}
    (hn : n + 7 ≤ a.tmps.size) (hp : p < n) (hq : q < n) (hsn : s < n) (hs : (ops[gi]?).bind (·.dst) = some s) (hv : a.eval (.tmp s) = .bool b)
    (h1p : a.eval (.tmp p) = A1) (h2q : a.eval (.tmp q) = A2)
    (g1 : o1.guard = some (gi, false)) (d1 : o1.dst = some n) (r1 : ∀ (a : Act), a.eval (.tmp p) = A1 → (execOp a.eval o1).run P w = .ok (.value B1) w)
    (g2 : o2.guard = some (gi, false)) (d2 : o2.dst = some (n + 1)) (r2 : ∀ (a : Act), a.eval (.tmp n) = B1 → (execOp a.eval o2).run P w = .ok (.value X1) w)
    (g3 : o3.guard = some (gi, false)) (d3 : o3.dst = some (n + 2)) (r3 : ∀ (a : Act), a.eval (.tmp q) = A2 → (execOp a.eval o3).run P w = .ok (.value B2) w)
    (g4 : o4.guard = some (gi, false)) (d4 : o4.dst = some (n + 3)) (r4 : ∀ (a : Act), a.eval (.tmp (n + 2)) = B2 → (execOp a.eval o4).run P w = .ok (.value X2) w)
    (g5 : o5.guard = some (gi, false)) (d5 : o5.dst = some (n + 4)) (r5 : ∀ (a : Act), a.eval (.tmp (n + 1)) = X1 → a.eval (.tmp (n + 3)) = X2 → (execOp a.eval o5).run P w = .ok (.value (.bool e)) w)
    (g6 : o6.guard = none) (d6 : o6.dst = some (n + 5)) (p6 : o6.op = .pick (.tmp s) (.const (.bool true)) (.tmp (n + 4)))
    (h : ∀ u1 u2 u3 u4 u5, wpList P ops Q rest ((((((a.put (some n) u1).put (some (n + 1)) u2).put (some (n + 2)) u3).put (some (n + 3)) u4).put (some (n + 4)) u5).put (some (n + 5)) (.bool (b || e))) w) :
    wpList P ops Q (o1 :: o2 :: o3 :: o4 :: o5 :: o6 :: rest) a w := by
  refine gd_step g1 d1 hs (by omega) hv (x := B1) (fun _ => r1 _ h1p) fun u1 k1 => ?_
  refine gd_step g2 d2 hs (by rw [sz_put]; omega) (b := b) (by rw [ev_ne (by exact Nat.ne_of_lt (by omega))]; exact hv) (x := X1) (fun hb => r2 _ (by rw [ev_self (by omega)]; exact k1 hb)) fun u2 k2 => ?_
  refine gd_step g3 d3 hs (by rw [sz_put, sz_put]; omega) (b := b) (by rw [ev_ne (by exact Nat.ne_of_lt (by omega)), ev_ne (by exact Nat.ne_of_lt (by omega))]; exact hv) (x := B2) (fun hb => r3 _ (by rw [ev_ne (by exact Nat.ne_of_lt (by omega)), ev_ne (by exact Nat.ne_of_lt (by omega))]; exact h2q)) fun u3 k3 => ?_
  refine gd_step g4 d4 hs (by rw [sz_put, sz_put, sz_put]; omega) (b := b) (by rw [ev_ne (by exact Nat.ne_of_lt (by omega)), ev_ne (by exact Nat.ne_of_lt (by omega)), ev_ne (by exact Nat.ne_of_lt (by omega))]; exact hv) (x := X2) (fun hb => r4 _ (by rw [ev_self (by rw [sz_put, sz_put]; omega)]; exact k3 hb)) fun u4 k4 => ?_
  refine gd_step g5 d5 hs (by rw [sz_put, sz_put, sz_put, sz_put]; omega) (b := b) (by rw [ev_ne (by exact Nat.ne_of_lt (by omega)), ev_ne (by exact Nat.ne_of_lt (by omega)), ev_ne (by exact Nat.ne_of_lt (by omega)), ev_ne (by exact Nat.ne_of_lt (by omega))]; exact hv) (x := .bool e)
    (fun hb => r5 _ (by rw [ev_ne (by exact Nat.ne_of_lt (by omega)), ev_ne (by exact Nat.ne_of_lt (by omega)), ev_self (by rw [sz_put]; omega)]; exact k2 hb) (by rw [ev_self (by rw [sz_put, sz_put, sz_put]; omega)]; exact k4 hb)) fun u5 k5 => ?_
  refine pl_step g6 d6 (x := .bool (b || e)) ?_ (h u1 u2 u3 u4 u5)
  · have e1 : (((((a.put (some n) u1).put (some (n + 1)) u2).put (some (n + 2)) u3).put (some (n + 3)) u4).put (some (n + 4)) u5).eval (.tmp s) = .bool b := by
      rw [ev_ne (by exact Nat.ne_of_lt (by omega)), ev_ne (by exact Nat.ne_of_lt (by omega)), ev_ne (by exact Nat.ne_of_lt (by omega)), ev_ne (by exact Nat.ne_of_lt (by omega)), ev_ne (by exact Nat.ne_of_lt (by omega))]; exact hv
    have e2 : (((((a.put (some n) u1).put (some (n + 1)) u2).put (some (n + 2)) u3).put (some (n + 3)) u4).put (some (n + 4)) u5).eval (.tmp (n + 4)) = u5 := ev_self (by rw [sz_put, sz_put, sz_put, sz_put]; omega)
    rw [pick_run p6 e1, e2]
    cases b with
    | true => rfl
    | false => rw [k5 rfl]; rfl
/-- The state between two comparisons: the two blocks' pointers, and the Bool so far. -/
structure RowSt (a z : Act) (N lo p q s : Nat) (A1 A2 : Value) (b : Bool) : Prop where
  size : a.tmps.size = N
  defers : a.defers = []
  left : a.eval (.tmp p) = A1
  right : a.eval (.tmp q) = A2
  so : a.eval (.tmp s) = .bool b
  kept : ∀ t, t < lo → a.eval (.tmp t) = z.eval (.tmp t)
theorem put_defers (d : Option Tmp) (v : Value) : (a.put d v).defers = a.defers := by cases d <;> rfl
/-- A frame without defers is the list of what its slots hold. -/
theorem act_lit {N : Nat} (hz : a.tmps.size = N) (hd : a.defers = []) : a = ⟨((List.range N).map fun t => a.eval (.tmp t)).toArray, []⟩ := by
  subst hz
  obtain ⟨⟨l⟩, d⟩ := a
  dsimp only at hd
  subst hd
  congr 1
  apply Array.toList_inj.mp
  apply List.ext_getElem
  · simp
  · intro i h1 h2
    have h1' : i < l.length := h1
    simp [Act.eval, Array.getD, h1']
variable {z : Act} {N lo p q s n gi f T T2 : Nat} {A1 A2 B1 B2 X1 X2 : Value} {b e : Bool} {t1 t2 t3 t4 t5 t6 t7 : TypeId} {x1 x2 x3 x4 x5 x6 x7 : String} {y1 y2 y3 y4 y5 y6 y7 : Array Edge} 
theorem row_next (hs : (ops[gi]?).bind (·.dst) = some s) (hr : RowSt a z N lo p q s A1 A2 b) (hlo : lo ≤ n) (hn : n + 7 ≤ N) (hp : p < n) (hq : q < n) (hsn : s < n)
    (r1 : ∀ (ρ : Operand → Value) (x : Operand) t x1 y g, ρ x = A1 → (execOp ρ { dst := some n, op := .fieldAddr T x f, type := t, pos := x1, after := y, guard := g }).run P w = .ok (.value B1) w)
    (r3 : ∀ (ρ : Operand → Value) (x : Operand) t x1 y g, ρ x = A2 → (execOp ρ { dst := some (n + 2), op := .fieldAddr T x f, type := t, pos := x1, after := y, guard := g }).run P w = .ok (.value B2) w)
    (r2 : ∀ (ρ : Operand → Value) (x : Operand) t x1 y g, ρ x = B1 → (execOp ρ { dst := some (n + 1), op := .load T2 x, type := t, pos := x1, after := y, guard := g }).run P w = .ok (.value X1) w)
    (r4 : ∀ (ρ : Operand → Value) (x : Operand) t x1 y g, ρ x = B2 → (execOp ρ { dst := some (n + 3), op := .load T2 x, type := t, pos := x1, after := y, guard := g }).run P w = .ok (.value X2) w)
    (r5 : ∀ (ρ : Operand → Value) (x y : Operand) t t' x1 y' g, ρ x = X1 → ρ y = X2 → (execOp ρ { dst := some (n + 4), op := .binOp .neq T2 x y t', type := t, pos := x1, after := y', guard := g }).run P w = .ok (.value (.bool e)) w)
    (h : ∀ a', RowSt a' z N lo p q (n + 6) A1 A2 (b || e) → wpList P ops Q rest a' w) :
    wpList P ops Q ({ dst := some n, op := .fieldAddr T (.tmp p) f, type := t1, pos := x1, after := y1, guard := some (gi, false) } :: { dst := some (n + 1), op := .load T2 (.tmp n), type := t2, pos := x2, after := y2, guard := some (gi, false) } ::
      { dst := some (n + 2), op := .fieldAddr T (.tmp q) f, type := t3, pos := x3, after := y3, guard := some (gi, false) } :: { dst := some (n + 3), op := .load T2 (.tmp (n + 2)), type := t4, pos := x4, after := y4, guard := some (gi, false) } ::
      { dst := some (n + 4), op := .binOp .neq T2 (.tmp (n + 1)) (.tmp (n + 3)) T2, type := t5, pos := x5, after := y5, guard := some (gi, false) } :: { dst := some (n + 5), op := .pick (.tmp s) (.const (.bool true)) (.tmp (n + 4)), type := t6, pos := x6, after := y6, guard := none } ::
      { dst := some (n + 6), op := .move (.tmp (n + 5)), type := t7, pos := x7, after := y7, guard := none } :: rest) a w := by
  obtain ⟨h1, h2, h3, h4, h5, h6⟩ := hr
  refine or_block (n := n) (p := p) (q := q) (s := s) (gi := gi) (b := b) (e := e) (A1 := A1) (A2 := A2) (B1 := B1) (B2 := B2) (X1 := X1) (X2 := X2) (by omega) hp hq hsn hs h5 h3 h4
    rfl rfl (fun a ha => r1 _ _ _ _ _ _ ha) rfl rfl (fun a ha => r2 _ _ _ _ _ _ ha) rfl rfl (fun a ha => r3 _ _ _ _ _ _ ha) rfl rfl (fun a ha => r4 _ _ _ _ _ _ ha) rfl rfl (fun a ha hb => r5 _ _ _ _ _ _ _ _ ha hb) rfl rfl rfl rfl rfl rfl ?_
  intro u1 u2 u3 u4 u5
  refine h _ ⟨by simp only [sz_put]; exact h1, by simp only [put_defers]; exact h2, ?_, ?_, ?_, ?_⟩
  · rw [ev_ne (by omega), ev_ne (by omega), ev_ne (by omega), ev_ne (by omega), ev_ne (by omega), ev_ne (by omega), ev_ne (by omega)]; exact h3
  · rw [ev_ne (by omega), ev_ne (by omega), ev_ne (by omega), ev_ne (by omega), ev_ne (by omega), ev_ne (by omega), ev_ne (by omega)]; exact h4
  · exact ev_self (by simp only [sz_put]; omega)
  · intro t ht; rw [ev_ne (by omega), ev_ne (by omega), ev_ne (by omega), ev_ne (by omega), ev_ne (by omega), ev_ne (by omega), ev_ne (by omega)]; exact h6 t ht
/-- The last of a row: no move behind it. -/
theorem row_last (hs : (ops[gi]?).bind (·.dst) = some s) (hr : RowSt a z N lo p q s A1 A2 b) (hlo : lo ≤ n) (hn : n + 7 ≤ N) (hp : p < n) (hq : q < n) (hsn : s < n)
    (r1 : ∀ (ρ : Operand → Value) (x : Operand) t x1 y g, ρ x = A1 → (execOp ρ { dst := some n, op := .fieldAddr T x f, type := t, pos := x1, after := y, guard := g }).run P w = .ok (.value B1) w)
    (r3 : ∀ (ρ : Operand → Value) (x : Operand) t x1 y g, ρ x = A2 → (execOp ρ { dst := some (n + 2), op := .fieldAddr T x f, type := t, pos := x1, after := y, guard := g }).run P w = .ok (.value B2) w)
    (r2 : ∀ (ρ : Operand → Value) (x : Operand) t x1 y g, ρ x = B1 → (execOp ρ { dst := some (n + 1), op := .load T2 x, type := t, pos := x1, after := y, guard := g }).run P w = .ok (.value X1) w)
    (r4 : ∀ (ρ : Operand → Value) (x : Operand) t x1 y g, ρ x = B2 → (execOp ρ { dst := some (n + 3), op := .load T2 x, type := t, pos := x1, after := y, guard := g }).run P w = .ok (.value X2) w)
    (r5 : ∀ (ρ : Operand → Value) (x y : Operand) t t' x1 y' g, ρ x = X1 → ρ y = X2 → (execOp ρ { dst := some (n + 4), op := .binOp .neq T2 x y t', type := t, pos := x1, after := y', guard := g }).run P w = .ok (.value (.bool e)) w)
    (h : ∀ a', RowSt a' z N lo p q (n + 5) A1 A2 (b || e) → wpList P ops Q rest a' w) :
    wpList P ops Q ({ dst := some n, op := .fieldAddr T (.tmp p) f, type := t1, pos := x1, after := y1, guard := some (gi, false) } :: { dst := some (n + 1), op := .load T2 (.tmp n), type := t2, pos := x2, after := y2, guard := some (gi, false) } ::
      { dst := some (n + 2), op := .fieldAddr T (.tmp q) f, type := t3, pos := x3, after := y3, guard := some (gi, false) } :: { dst := some (n + 3), op := .load T2 (.tmp (n + 2)), type := t4, pos := x4, after := y4, guard := some (gi, false) } ::
      { dst := some (n + 4), op := .binOp .neq T2 (.tmp (n + 1)) (.tmp (n + 3)) T2, type := t5, pos := x5, after := y5, guard := some (gi, false) } :: { dst := some (n + 5), op := .pick (.tmp s) (.const (.bool true)) (.tmp (n + 4)), type := t6, pos := x6, after := y6, guard := none } :: rest) a w := by
  obtain ⟨h1, h2, h3, h4, h5, h6⟩ := hr
  refine or_six (n := n) (p := p) (q := q) (s := s) (gi := gi) (b := b) (e := e) (A1 := A1) (A2 := A2) (B1 := B1) (B2 := B2) (X1 := X1) (X2 := X2) (by omega) hp hq hsn hs h5 h3 h4
    rfl rfl (fun a ha => r1 _ _ _ _ _ _ ha) rfl rfl (fun a ha => r2 _ _ _ _ _ _ ha) rfl rfl (fun a ha => r3 _ _ _ _ _ _ ha) rfl rfl (fun a ha => r4 _ _ _ _ _ _ ha) rfl rfl (fun a ha hb => r5 _ _ _ _ _ _ _ _ ha hb) rfl rfl rfl ?_
  intro u1 u2 u3 u4 u5
  refine h _ ⟨by simp only [sz_put]; exact h1, by simp only [put_defers]; exact h2, ?_, ?_, ?_, ?_⟩
  · rw [ev_ne (by omega), ev_ne (by omega), ev_ne (by omega), ev_ne (by omega), ev_ne (by omega), ev_ne (by omega)]; exact h3
  · rw [ev_ne (by omega), ev_ne (by omega), ev_ne (by omega), ev_ne (by omega), ev_ne (by omega), ev_ne (by omega)]; exact h4
  · exact ev_self (by simp only [sz_put]; omega)
  · intro t ht; rw [ev_ne (by omega), ev_ne (by omega), ev_ne (by omega), ev_ne (by omega), ev_ne (by omega), ev_ne (by omega)]; exact h6 t ht
/-- The first of a row. -/
theorem row_first (hz : a.tmps.size = N) (hd : a.defers = []) (hlo : lo ≤ n) (hl : a.eval (.tmp p) = A1) (hr : a.eval (.tmp q) = A2) (hn : n + 6 ≤ N) (hp : p < n) (hq : q < n)
    (r1 : ∀ (ρ : Operand → Value) (x : Operand) t x1 y g, ρ x = A1 → (execOp ρ { dst := some n, op := .fieldAddr T x f, type := t, pos := x1, after := y, guard := g }).run P w = .ok (.value B1) w)
    (r3 : ∀ (ρ : Operand → Value) (x : Operand) t x1 y g, ρ x = A2 → (execOp ρ { dst := some (n + 2), op := .fieldAddr T x f, type := t, pos := x1, after := y, guard := g }).run P w = .ok (.value B2) w)
    (r2 : ∀ (ρ : Operand → Value) (x : Operand) t x1 y g, ρ x = B1 → (execOp ρ { dst := some (n + 1), op := .load T2 x, type := t, pos := x1, after := y, guard := g }).run P w = .ok (.value X1) w)
    (r4 : ∀ (ρ : Operand → Value) (x : Operand) t x1 y g, ρ x = B2 → (execOp ρ { dst := some (n + 3), op := .load T2 x, type := t, pos := x1, after := y, guard := g }).run P w = .ok (.value X2) w)
    (r5 : ∀ (ρ : Operand → Value) (x y : Operand) t t' x1 y' g, ρ x = X1 → ρ y = X2 → (execOp ρ { dst := some (n + 4), op := .binOp .neq T2 x y t', type := t, pos := x1, after := y', guard := g }).run P w = .ok (.value (.bool e)) w)
    (h : ∀ a', RowSt a' a N lo p q (n + 5) A1 A2 e → wpList P ops Q rest a' w) :
    wpList P ops Q ({ dst := some n, op := .fieldAddr T (.tmp p) f, type := t1, pos := x1, after := y1, guard := none } :: { dst := some (n + 1), op := .load T2 (.tmp n), type := t2, pos := x2, after := y2, guard := none } ::
      { dst := some (n + 2), op := .fieldAddr T (.tmp q) f, type := t3, pos := x3, after := y3, guard := none } :: { dst := some (n + 3), op := .load T2 (.tmp (n + 2)), type := t4, pos := x4, after := y4, guard := none } ::
      { dst := some (n + 4), op := .binOp .neq T2 (.tmp (n + 1)) (.tmp (n + 3)) T2, type := t5, pos := x5, after := y5, guard := none } :: { dst := some (n + 5), op := .move (.tmp (n + 4)), type := t6, pos := x6, after := y6, guard := none } :: rest) a w := by
  refine pl_step rfl rfl (r1 _ _ _ _ _ _ hl) ?_
  refine pl_step rfl rfl (r2 _ _ _ _ _ _ (ev_self (by omega))) ?_
  refine pl_step rfl rfl (r3 _ _ _ _ _ _ (by rw [ev_ne (by omega), ev_ne (by omega)]; exact hr)) ?_
  refine pl_step rfl rfl (r4 _ _ _ _ _ _ (ev_self (by simp only [sz_put]; omega))) ?_
  refine pl_step rfl rfl (r5 _ _ _ _ _ _ _ _ (by rw [ev_ne (by omega), ev_ne (by omega), ev_self (by simp only [sz_put]; omega)]) (ev_self (by simp only [sz_put]; omega))) ?_
  refine pl_step rfl rfl (x := .bool e) (by simp only [execOp]; rw [ev_self (by simp only [sz_put]; omega)]; rfl) ?_
  refine h _ ⟨by simp only [sz_put]; exact hz, by simp only [put_defers]; exact hd, ?_, ?_, ?_, ?_⟩
  · rw [ev_ne (by omega), ev_ne (by omega), ev_ne (by omega), ev_ne (by omega), ev_ne (by omega), ev_ne (by omega)]; exact hl
  · rw [ev_ne (by omega), ev_ne (by omega), ev_ne (by omega), ev_ne (by omega), ev_ne (by omega), ev_ne (by omega)]; exact hr
  · exact ev_self (by simp only [sz_put]; omega)
  · intro t ht; rw [ev_ne (by omega), ev_ne (by omega), ev_ne (by omega), ev_ne (by omega), ev_ne (by omega), ev_ne (by omega)]
end
end Go.Proofs.Ytnifhgackjkkbaa.Pre
