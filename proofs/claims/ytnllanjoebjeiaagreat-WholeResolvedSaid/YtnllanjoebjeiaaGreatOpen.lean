/-
What reads as data at a type is a value of the kind that the walks speak of: numbers, bools, texts, slices of whatever elements, structs of whatever fields; with the bounds that a row's reach gives.
-/
import Derived.Test.YtnllanjoebjeiaaGreatWWords
import Derived.SizedLaws
import Derived.ChangeArms
import Derived.Deep.Slices
import Derived.ProofKit
import Derived.OpenShut
namespace Go.Proofs.YtnllanjoebjeiaaGreat.Open
open Go.RowKit Go.Proofs.YtnllanjoebjeiaaGreatW.PrintWords Go.Proofs.YtnllanjoebjeiaaGreatW.PrintLast
variable {P : Program}

/-- Whatever reads at type t is of kind d, and good. -/
structure Opn (P : Program) (t : TypeId) {α : Type} (d : Kd α) (good : α → Prop) : Prop where
  cells : P.cellsOf t = d.sz
  opn : ∀ {H : Type} {enc : TypeId × Value → H} {w : World} {base : Nat} {spare : Nat → Bool} {held : Bool} {fuel : Nat} {cs : List Value} {x : DataW H × List MemPlace},
    DataW.trod enc P w base spare held fuel t cs = some x → (∀ n ∈ x.1.weights P t, n ≤ reachBytes) → ∃ a, d.K w a cs ∧ good a

theorem Opn.int {t : TypeId} {k : IntKind} (hu : P.underlying t = some (.int k)) (hc : P.cellsOf t = 1) : Opn P t (Kd.int k) (fun n => (Lit.int k n).wf = true) :=
  ⟨hc, fun h _ => by obtain ⟨n, rfl, _, hw⟩ := DataW.trod_int hu h; exact ⟨n, rfl, hw⟩⟩
theorem Opn.bool {t : TypeId} (hu : P.underlying t = some .bool) (hc : P.cellsOf t = 1) : Opn P t Kd.bool (fun _ => True) :=
  ⟨hc, fun h _ => by obtain ⟨b, rfl, _⟩ := DataW.trod_bool hu h; exact ⟨b, rfl, trivial⟩⟩
theorem Opn.string {t : TypeId} (hu : P.underlying t = some .string) (hc : P.cellsOf t = 1) : Opn P t Kd.string (fun s => s.size ≤ 140737488351232) :=
  ⟨hc, fun {H enc w base spare held fuel cs x} h hw => by
    obtain ⟨s, rfl, rfl, _⟩ := DataW.trod_string hu h
    refine ⟨s, rfl, ?_⟩
    have := hw s.data.toList.length (by simp [DataW.weights])
    rw [Array.length_toList] at this
    exact this⟩

theorem weights_all {H : Type} {e : TypeId} : ∀ {l : List (DataW H)} {y : DataW H}, y ∈ l → ∀ n ∈ y.weights P e, n ∈ DataW.weightsAll P e l
  | d :: l, y, hy, n, hn => by
    simp only [DataW.weightsAll, List.mem_append]
    rcases List.mem_cons.mp hy with rfl | hy
    · exact .inl hn
    · exact .inr (weights_all hy n hn)

theorem choose_list {α : Type} {n : Nat} {Q : Nat → α → Prop} (h : ∀ i, i < n → ∃ a, Q i a) : ∃ l : List α, l.length = n ∧ ∀ i a, l[i]? = some a → Q i a := by
  induction n with
  | zero => exact ⟨[], rfl, fun i a e => by simp at e⟩
  | succ n ih =>
    obtain ⟨l, hl, hq⟩ := ih fun i hi => h i (by omega)
    obtain ⟨b, hb⟩ := h n (by omega)
    refine ⟨l ++ [b], by simp [hl], fun i a e => ?_⟩
    by_cases c : i < n
    · rw [List.getElem?_append_left (by omega)] at e; exact hq i a e
    · have hi : i < (l ++ [b]).length := (List.getElem?_eq_some_iff.mp e).1
      have : i = n := by simp [hl] at hi; omega
      subst this
      rw [List.getElem?_append_right (by omega), hl, Nat.sub_self] at e
      simp at e
      rw [← e]; exact hb

theorem Opn.slice {α : Type} {t e B : Nat} {d : Kd α} {good : α → Prop} (hu : P.underlying t = some (.slice e)) (hc : P.cellsOf t = 1) (he : Opn P e d good) (hB : P.bytesOf e = B) :
    Opn P t (Kd.slice e d) (fun l => l.length * B ≤ 140737488351232 ∧ ∀ x ∈ l, good x) :=
  ⟨hc, fun {H enc w base spare held fuel cs x} h hw => by
    rcases Go.Deep.open_slice hu h with ⟨rfl, _⟩ | ⟨a, len, cap, m, n, D, Pl, rfl, hb, hl, hm, hmm, rfl, hel⟩
    · exact ⟨[], ⟨none, 0, rfl, Nat.le_refl _, rfl, by simp, fun h => absurd h (by simp)⟩, by simp, fun x hx => by cases hx⟩
    · have hlm : len ≤ m := by rw [hmm]; split <;> omega
      have each : ∀ i, i < len → ∃ y, (∃ cs', w.cells? base (a.add (i * d.sz)) d.sz = some cs' ∧ d.K w y cs') ∧ good y := by
        intro i hi
        obtain ⟨cs', h1, h2⟩ := hel i (by omega)
        rw [he.cells] at h1
        obtain ⟨y, hk, hg⟩ := he.opn h2 fun q hq => hw q (by
          simp only [DataW.weights, hu, List.mem_cons, List.mem_append]
          refine .inr (.inl (weights_all (y := D i) ?_ q hq))
          exact List.mem_map.mpr ⟨i, List.mem_range.mpr hi, rfl⟩)
        exact ⟨y, ⟨cs', h1, hk⟩, hg⟩
      obtain ⟨l, hll, hq⟩ := choose_list each
      refine ⟨l, ⟨some a, cap, by rw [hll], by omega, hll ▸ rfl, ?_, fun _ => ⟨a, rfl, fun j p hj => ?_⟩⟩, ?_, fun y hy => ?_⟩
      · rw [hll]; simp only [maxLen] at hm; omega
      · obtain ⟨⟨cs', h1, hk⟩, _⟩ := hq j p hj
        obtain ⟨hb', hln, hcl⟩ := World.cells?_some h1
        refine ⟨cs', d.K_len hk, hk, fun i u hu' => ?_⟩
        have hi : i < d.sz := by
          have := (List.getElem?_eq_some_iff.mp hu').1
          omega
        have h3 := hcl i hi
        rw [hu', add_add] at h3
        exact h3
      · have h2 := hw _ (by simp only [DataW.weights, hu]; exact List.mem_cons_self)
        simp only [List.length_map, List.length_range] at h2
        rw [hB] at h2
        rw [hll]
        exact Nat.le_trans (Nat.mul_le_mul_right _ (by omega)) h2
      · obtain ⟨i, hi, rfl⟩ := List.getElem_of_mem hy
        exact (hq i _ (List.getElem?_eq_getElem hi)).2⟩

/-- Fields in line, from an offset on. -/
structure OpnF (P : Program) (fs : List Field) (off : Nat) {α : Type} (d : Kd α) (good : α → Prop) : Prop where
  opn : ∀ {H : Type} {enc : TypeId × Value → H} {w : World} {base : Nat} {spare : Nat → Bool} {held : Bool} {n : Nat} {cs : List Value} {xs : List (DataW H × List MemPlace)},
    xs.length = fs.length → (∀ (i : Nat) (f : Field), fs[i]? = some f → DataW.trod enc P w base spare held n f.type ((cs.drop f.offset).take (P.cellsOf f.type)) = xs[i]?) →
    (∀ q ∈ DataW.weightsEach P (fs.map (·.type)) (xs.map (·.1)), q ≤ reachBytes) → cs.length = off + d.sz → ∃ a, d.K w a (cs.drop off) ∧ good a

theorem OpnF.last {f : Field} {off : Nat} {α : Type} {d : Kd α} {good : α → Prop} (ho : f.offset = off) (h : Opn P f.type d good) : OpnF P [f] off d good :=
  ⟨fun {H enc w base spare held n cs xs} hl hx hw hc => by
    match xs, hl with
    | [x], _ =>
      have h1 := hx 0 f rfl
      rw [h.cells, ho, List.take_of_length_le (by rw [List.length_drop]; omega)] at h1
      exact h.opn h1 fun q hq => hw q (by simp [DataW.weightsEach, hq])⟩
theorem OpnF.cons {f : Field} {fs : List Field} {off : Nat} {α β : Type} {d : Kd α} {d2 : Kd β} {good : α → Prop} {good2 : β → Prop} (ho : f.offset = off) (h : Opn P f.type d good) (h2 : OpnF P fs (off + d.sz) d2 good2) :
    OpnF P (f :: fs) off (Kd.pair d d2) (fun p => good p.1 ∧ good2 p.2) :=
  ⟨fun {H enc w base spare held n cs xs} hl hx hw hc => by
    match xs, hl with
    | x :: xs, hl =>
      have h1 := hx 0 f rfl
      rw [h.cells, ho] at h1
      have hs : (Kd.pair d d2).sz = d.sz + d2.sz := rfl
      obtain ⟨a, ha, hg⟩ := h.opn h1 fun q hq => hw q (by simp [DataW.weightsEach, hq])
      obtain ⟨b, hb, hg2⟩ := h2.opn (xs := xs) (cs := cs) (by simpa using hl) (fun i g hg => hx (i + 1) g hg) (fun q hq => hw q (by simp [DataW.weightsEach, hq])) (by omega)
      refine ⟨(a, b), ⟨_, _, ?_, ha, hb⟩, hg, hg2⟩
      rw [← List.drop_drop, List.take_append_drop]⟩
theorem Opn.struct {α β : Type} {t : TypeId} {fs : Array Field} {d : Kd α} {good : α → Prop} (hu : P.underlying t = some (.struct fs)) (hc : P.cellsOf t = d.sz) (h : OpnF P fs.toList 0 d good) (f : β → α) (g : α → β) (hg : ∀ a, f (g a) = a) :
    Opn P t (Kd.iso d f) (fun b => good (f b)) :=
  ⟨hc, fun {H enc w base spare held fuel cs x} hx hw => by
    obtain ⟨xs, n, _, rfl, hl, hxl, hxs⟩ := DataW.trod_struct hu hx
    obtain ⟨a, ha, hga⟩ := h.opn (xs := xs) (cs := cs) (by simpa using hxl) (fun i q hq => hxs i q (by simpa using hq)) (fun q hq => hw q (by simp only [DataW.weights, hu]; exact hq)) (by rw [hl, hc]; omega)
    refine ⟨g a, ?_, by rw [hg]; exact hga⟩
    show d.K w (f (g a)) cs
    rw [hg]
    simpa using ha⟩

theorem each_all {H : Type} {e : TypeId} : ∀ {fs : List Field} {ds : List (DataW H)}, (∀ f ∈ fs, f.type = e) → ∀ q ∈ DataW.weightsEach P (fs.map (·.type)) ds, q ∈ DataW.weightsAll P e ds
  | [], _, _, q, hq => by simp [DataW.weightsEach] at hq
  | f :: fs, [], _, q, hq => by simp [DataW.weightsEach] at hq
  | f :: fs, d :: ds, hf, q, hq => by
    simp only [List.map_cons, DataW.weightsEach, List.mem_append] at hq
    simp only [DataW.weightsAll, List.mem_append]
    rcases hq with hq | hq
    · rw [hf f (by simp)] at hq; exact .inl hq
    · exact .inr (each_all (fun g hg => hf g (by simp [hg])) q hq)
/-- An array reads as its elements in line. -/
theorem Opn.array {α β : Type} {t e : TypeId} {n : Nat} {fs : List Field} {d : Kd α} {good : α → Prop} (hu : P.underlying t = some (.array n e)) (hn : fs.length = n) (hfs : ∀ (i : Nat) (f : Field), fs[i]? = some f → f.type = e ∧ f.offset = i * P.cellsOf e) (hc : P.cellsOf t = d.sz) (h : OpnF P fs 0 d good) (f : β → α) (g : α → β) (hg : ∀ a, f (g a) = a) :
    Opn P t (Kd.iso d f) (fun b => good (f b)) :=
  ⟨hc, fun {H enc w base spare held fuel cs x} hx hw => by
    obtain ⟨xs, m, _, rfl, hl, hxl, hxs⟩ := DataW.trod_array hu hx
    obtain ⟨a, ha, hga⟩ := h.opn (xs := xs) (cs := cs) (by omega) (fun i q hq => by obtain ⟨h1, h2⟩ := hfs i q hq; rw [h1, h2]; exact hxs i (by have := (List.getElem?_eq_some_iff.mp hq).1; omega)) (fun q hq => hw q (by simp only [DataW.weights, hu]; exact each_all (fun f hf => by obtain ⟨i, hi, rfl⟩ := List.getElem_of_mem hf; exact (hfs i _ (List.getElem?_eq_getElem hi)).1) q hq)) (by rw [hl, hc]; omega)
    refine ⟨g a, ?_, by rw [hg]; exact hga⟩
    show d.K w (f (g a)) cs
    rw [hg]
    simpa using ha⟩
/-- The weights of one argument lie within the reach. -/
theorem weights_of {H : Type} {ts : List TypeId} {ds : List (DataW H)} (hsz : (DataW.weightsEach P ts ds).all (· ≤ reachBytes) = true) {j : Nat} {t : TypeId} {d : DataW H} (ht : ts[j]? = some t) (hd : ds[j]? = some d) : ∀ n ∈ d.weights P t, n ≤ reachBytes := by
  intro n hn
  have := List.all_eq_true.1 hsz n (DataW.weights_mem_each ht hd n hn)
  simpa using this
end Go.Proofs.YtnllanjoebjeiaaGreat.Open
