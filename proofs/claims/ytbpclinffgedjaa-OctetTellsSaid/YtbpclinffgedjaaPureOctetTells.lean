/-
The bytes of any number in any size, noughts (2000 at most), and whether a text's bytes (300 at most) are noughts, are the reference's.
-/
import Derived.Test.YtbpclinffgedjaaPOctetTellsx
import Derived.Test.YtbpclinffgedjaaBase
namespace Go.Proofs.Ytbpclinffgedjaa.Pure
open Go.RowKit Go.Proofs.Ytbpclinffgedjaa.POctetTells Go.Proofs.YtbpclinffgedjaaW.PrintWords Go.Proofs.YtbpclinffgedjaaW.PrintLast Go.Proofs.YtbpclinffgedjaaW.PrintMore Go.Proofs.Ytbpclinffgedjaa.Base
set_option linter.unusedVariables false
set_option linter.unusedSimpArgs false

/-- The lowest so many bytes of a number, the highest first. -/
def dig : Nat → Int → List Int
  | 0, _ => []
  | s + 1, n => dig s (n / 256) ++ [n % 256]
theorem dig_length (s : Nat) (n : Int) : (dig s n).length = s := by
  induction s generalizing n with
  | zero => rfl
  | succ s ih => simp [dig, ih]
theorem dig_range (s : Nat) (n : Int) : ∀ x ∈ dig s n, 0 ≤ x ∧ x ≤ 255 := by
  induction s generalizing n with
  | zero => intro x hx; cases hx
  | succ s ih =>
    intro x hx
    simp only [dig, List.mem_append, List.mem_singleton] at hx
    rcases hx with hx | rfl
    · exact ih _ x hx
    · omega
def octFits (n size : Int) : Bool := decide (1 ≤ size ∧ size ≤ 7 ∧ 0 ≤ n ∧ n < 256 ^ size.toNat)
def octPut (n size : Int) : ByteArray × Bool := if octFits n size = true then (strOfNums (dig size.toNat n), true) else (⟨#[]⟩, false)
theorem octFits_iff {n size : Int} : octFits n size = true ↔ (1 ≤ size ∧ size ≤ 7 ∧ 0 ≤ n ∧ n < 256 ^ size.toNat) := by simp [octFits]

theorem div_eq_zero_iff {n : Int} {m : Nat} (h : 0 ≤ n) (hm : 0 < (2 : Int) ^ m) : (n / 2 ^ m = 0) ↔ n < 2 ^ m := by
  constructor
  · intro e
    have := Int.lt_mul_ediv_self_add (x := n) (k := 2 ^ m) hm
    rw [e] at this; omega
  · intro e; exact Int.ediv_eq_zero_of_lt h e

theorem octet_Fits_f (n size : Int) (hn : -9223372036854775808 ≤ n) (hn' : n ≤ 9223372036854775807) : octet_Fits.f n size = some (octFits n size) := by
  unfold octet_Fits.f octFits
  by_cases h1 : 1 ≤ size
  · rw [if_pos h1]
    by_cases h2 : size ≤ 7
    · rw [if_pos h2]
      by_cases h3 : 0 ≤ n
      · rw [if_pos h3]
        have e : IntKind.u64.wrap (wrap64 (8 * size)) = 8 * size := by rw [wrap64_id (by omega) (by omega), u64_id (by omega) (by omega)]
        rw [e, if_pos (by omega)]
        congr 1
        unfold shr
        have e2 : min (8 * size).toNat IntKind.i64.bits = 8 * size.toNat := by simp [IntKind.bits]; omega
        rw [e2, Bool.eq_iff_iff, beq_iff_eq, decide_eq_true_iff, div_eq_zero_iff h3 (Int.pow_pos (by decide))]
        have e3 : (2 : Int) ^ (8 * size.toNat) = 256 ^ size.toNat := by rw [Int.pow_mul]; rfl
        rw [e3]
        exact ⟨fun h => ⟨h1, h2, h3, h⟩, fun h => h.2.2.2⟩
      · rw [if_neg h3, decide_eq_false (fun h => h3 h.2.2.1)]
    · rw [if_neg h2, decide_eq_false (fun h => h2 h.2.1)]
  · rw [if_neg h1, decide_eq_false (fun h => h1 h.1)]

theorem drop_set_self (l : List Int) (m : Nat) (v : Int) (h : m < l.length) : (l.set m v).drop m = [v] ++ l.drop (m + 1) := by
  apply List.ext_getElem?
  intro i
  rw [List.getElem?_drop, List.getElem?_set]
  cases i with
  | zero => simp [h]
  | succ i => rw [if_neg (by omega)]; simp; congr 1; omega

theorem octet_Put_l (m : Nat) : ∀ (k : Nat) (x : Int) (l : List Int), m < k → m ≤ l.length → m ≤ 100 →
    octet_Put.l0 k x l ((m : Int) - 1) = some (strOfNums (dig m x ++ l.drop m), true) := by
  induction m with
  | zero =>
    intro k x l hk hl _
    obtain ⟨k, rfl⟩ : ∃ j, k = j + 1 := ⟨k - 1, by omega⟩
    simp only [octet_Put.l0]; rw [if_neg (by omega)]; rfl
  | succ m ih =>
    intro k x l hk hl hm
    obtain ⟨k, rfl⟩ : ∃ j, k = j + 1 := ⟨k - 1, by omega⟩
    simp only [octet_Put.l0]
    rw [if_pos (by omega), if_pos (by omega), if_pos (by omega)]
    have e1 : (((m + 1 : Nat) : Int) - 1) = m := by omega
    rw [e1, wrap64_id (by omega) (by omega)]
    have e2 : ((m : Int)).toNat = m := by omega
    rw [e2, ih k (x / 256) (l.set m (x % 256)) (by omega) (by simp; omega) (by omega)]
    congr 3
    rw [dig, List.append_assoc]
    congr 1
    exact drop_set_self l m (x % 256) (by omega)

theorem octet_Put_f (n size : Int) (hn : -9223372036854775808 ≤ n) (hn' : n ≤ 9223372036854775807) (k : Nat) (hk : 8 < k) : octet_Put.f k n size = some (octPut n size) := by
  unfold octet_Put.f octPut
  rw [octet_Fits_f n size hn hn', Option.bind_some]
  by_cases h : octFits n size = true
  · have h' := octFits_iff.mp h
    rw [if_pos h, if_pos h, if_pos (by omega), if_pos (by omega), wrap64_id (by omega) (by omega)]
    have e := octet_Put_l size.toNat k n (List.replicate size.toNat 0) (by omega) (by simp) (by omega)
    have e1 : ((size.toNat : Int) - 1) = size - 1 := by omega
    rw [e1] at e
    rw [e, List.drop_of_length_le (by simp), List.append_nil]
  · rw [if_neg h, if_neg h]

theorem pow_le7 (m : Nat) (h : m ≤ 7) : (256 : Int) ^ m ≤ 72057594037927936 := by
  have : m = 0 ∨ m = 1 ∨ m = 2 ∨ m = 3 ∨ m = 4 ∨ m = 5 ∨ m = 6 ∨ m = 7 := by omega
  rcases this with rfl | rfl | rfl | rfl | rfl | rfl | rfl | rfl <;> decide

theorem refFits_l (m : Nat) : ∀ (k : Nat) (n size t i : Int), m < k → (size - i) = m → 0 ≤ i → size ≤ 7 → t = 256 ^ i.toNat →
    roadbookref02_Fits.l0 k n size t i = some (decide (n < 256 ^ size.toNat)) := by
  induction m with
  | zero =>
    intro k n size t i hk hm hi hs ht
    obtain ⟨k, rfl⟩ : ∃ j, k = j + 1 := ⟨k - 1, by omega⟩
    simp only [roadbookref02_Fits.l0]; rw [if_neg (by omega), ht, show i = size by omega]
  | succ m ih =>
    intro k n size t i hk hm hi hs ht
    obtain ⟨k, rfl⟩ : ∃ j, k = j + 1 := ⟨k - 1, by omega⟩
    simp only [roadbookref02_Fits.l0]; rw [if_pos (by omega)]
    have hp : t * 256 = 256 ^ (i + 1).toNat := by rw [ht, show (i + 1).toNat = i.toNat + 1 by omega, Int.pow_succ]
    have hb := pow_le7 (i + 1).toNat (by omega)
    have hb3 : (0 : Int) < 256 ^ (i + 1).toNat := Int.pow_pos (by decide)
    rw [wrap64_id (by omega) (by omega), wrap64_id (by omega) (by omega)]
    exact ih k n size _ (i + 1) (by omega) (by omega) (by omega) hs hp

theorem refFits_f (n size : Int) (k : Nat) (hk : 10 < k) : roadbookref02_Fits.f k n size = some (octFits n size) := by
  obtain ⟨k, rfl⟩ : ∃ j, k = j + 1 := ⟨k - 1, by omega⟩
  unfold roadbookref02_Fits.f octFits
  simp only [roadbookref02_Fits.j0, if_true]
  by_cases h1 : size < 1
  · rw [if_pos h1, decide_eq_false (fun h => by omega)]
  · rw [if_neg h1]
    by_cases h2 : size > 7
    · rw [if_pos h2, decide_eq_false (fun h => by omega)]
    · rw [if_neg h2]
      by_cases h3 : n < 0
      · rw [decide_eq_true h3, if_pos rfl, decide_eq_false (fun h => by omega)]
      · rw [decide_eq_false h3, if_neg (by decide), refFits_l size.toNat k n size 1 0 (by omega) (by omega) (by omega) (by omega) rfl]
        congr 1
        rw [Bool.eq_iff_iff, decide_eq_true_iff, decide_eq_true_iff]
        exact ⟨fun h => ⟨by omega, by omega, by omega, h⟩, fun h => h.2.2.2⟩

theorem refPut_l (m : Nat) : ∀ (k : Nat) (n size i : Int) (s : ByteArray), m < k → (size - i) = m → 0 ≤ i → size ≤ 7 → 0 ≤ n → n ≤ 9223372036854775807 → s.size ≤ 100 + i →
    roadbookref02_Put.l0 k n size s i = some (strOfNums (dig m n) ++ s, true) := by
  induction m with
  | zero =>
    intro k n size i s hk hm hi hs hn hn' hz
    obtain ⟨k, rfl⟩ : ∃ j, k = j + 1 := ⟨k - 1, by omega⟩
    simp only [roadbookref02_Put.l0]; rw [if_neg (by omega)]
    congr 2
  | succ m ih =>
    intro k n size i s hk hm hi hs hn hn' hz
    obtain ⟨k, rfl⟩ : ∃ j, k = j + 1 := ⟨k - 1, by omega⟩
    simp only [roadbookref02_Put.l0, Option.bind_some]; rw [if_pos (by omega)]
    have e1 : Int.tmod n 256 % 256 = n % 256 := by rw [Int.tmod_eq_emod_of_nonneg hn]; omega
    have e2 : Int.tdiv n 256 = n / 256 := Int.tdiv_eq_ediv_of_nonneg hn
    rw [e1, e2, wrap64_id (by omega) (by omega), wrap64_id (by omega) (by omega), if_pos (by rw [size_nums]; simp; omega)]
    rw [ih k (n / 256) size (i + 1) _ (by omega) (by omega) (by omega) hs (by omega) (by omega) (by rw [size_app, size_nums]; simp; omega)]
    congr 2
    rw [dig, nums_app, ByteArray.append_assoc]

theorem refPut_f (n size : Int) (hn' : n ≤ 9223372036854775807) (k : Nat) (hk : 10 < k) : roadbookref02_Put.f k n size = some (octPut n size) := by
  unfold roadbookref02_Put.f octPut
  rw [refFits_f n size k hk, Option.bind_some]
  by_cases h : octFits n size = true
  · have h' := octFits_iff.mp h
    rw [if_pos h, if_pos h]
    have := refPut_l size.toNat k n size 0 (⟨#[]⟩ : ByteArray) (by omega) (by omega) (by omega) (by omega) (by omega) hn' (by decide)
    rw [this]
    congr 2
    exact ByteArray.append_empty
  · rw [if_neg h, if_neg h]

theorem awake_f : ∃ K, ∀ k, K ≤ k → roadbooklaw02_awake.f k = some true := Ev.of (roadbooklaw02_awake.mono) (k := 12) (by decide +kernel)

theorem all_bt (s : ByteArray) : s.data.toList.all (· == 0) = true ↔ ∀ i : Nat, i < s.size → bt s i = 0 := by
  rw [List.all_eq_true]
  constructor
  · intro h i hi
    rw [bt_lt s i hi]
    have := h _ (List.getElem_mem (by rw [data_length]; exact hi))
    rw [beq_iff_eq] at this
    rw [this]; rfl
  · intro h x hx
    obtain ⟨i, hi, rfl⟩ := List.getElem_of_mem hx
    rw [data_length] at hi
    have := h i hi
    rw [bt_lt s i hi] at this
    rw [beq_iff_eq]
    exact UInt8.toNat_inj.mp (by simpa using this)

theorem refZero_l (s : ByteArray) (hs : s.size ≤ 300) (m : Nat) : ∀ (k : Nat) (i : Int), m < k → 0 ≤ i → (s.size : Int) - i = m → (∀ j : Nat, (j : Int) < i → bt s j = 0) →
    roadbookref02_Zero.l0 k s i = some (s.data.toList.all (· == 0)) := by
  induction m with
  | zero =>
    intro k i hk h0 hm hz
    obtain ⟨k, rfl⟩ : ∃ j, k = j + 1 := ⟨k - 1, by omega⟩
    simp only [roadbookref02_Zero.l0]; rw [if_neg (by omega), (all_bt s).mpr (fun j hj => hz j (by omega))]
  | succ m ih =>
    intro k i hk h0 hm hz
    obtain ⟨k, rfl⟩ : ∃ j, k = j + 1 := ⟨k - 1, by omega⟩
    simp only [roadbookref02_Zero.l0]; rw [if_pos (by omega), if_pos h0]
    by_cases h : bt s i = 0
    · rw [if_pos h, wrap64_id (by omega) (by omega)]
      refine ih k (i + 1) (by omega) (by omega) (by omega) fun j hj => ?_
      by_cases hji : (j : Int) = i
      · rw [hji]; exact h
      · exact hz j (by omega)
    · rw [if_neg h]
      congr 1
      symm
      rw [Bool.eq_false_iff]
      intro c
      have := (all_bt s).mp c i.toNat (by omega)
      rw [show ((i.toNat : Nat) : Int) = i by omega] at this
      exact h this

theorem OctetTells : roadbooklaw02_OctetTells.Pure := by
  intro n size s hn hsz hs
  have hn := wf_i64 hn
  obtain ⟨K, hK⟩ := awake_f
  refine ⟨K + 400, ?_⟩
  unfold roadbooklaw02_OctetTells.f
  rw [hK _ (by omega)]
  by_cases h : (s.size : Int) > 300
  · rw [if_pos h]; rfl
  · rw [if_neg h, octet_Put_f n size hn.1 hn.2 _ (by omega), refPut_f n size hn.2 _ (by omega), octet_Fits_f n size hn.1 hn.2, refFits_f n size _ (by omega)]
    have hz : octet_Zero.f s = some (s.data.toList.all (· == 0)) := by unfold octet_Zero.f; rw [if_pos (by omega)]
    have hr : roadbookref02_Zero.f (K + 400) s = some (s.data.toList.all (· == 0)) := refZero_l s (by omega) s.size _ 0 (by omega) (by omega) (by omega) (fun j hj => by omega)
    rw [hz, hr]
    simp only [Option.bind_some, if_true, beq_self_eq_true]
    by_cases h2 : n > 2000
    · rw [if_pos h2]
    · rw [if_neg h2]
      have e : ∃ r, octet_Zeros.f n = some r ∧ roadbookref02_Zeros.f n = some r := by
        unfold octet_Zeros.f roadbookref02_Zeros.f
        by_cases h0 : n < 0
        · have e : mx n 0 = 0 := by unfold mx; split <;> omega
          rw [e, if_pos h0]; exact ⟨_, rfl, rfl⟩
        · have e : mx n 0 = n := by unfold mx; split <;> omega
          rw [e, if_neg h0, if_pos (by omega), if_pos (by omega)]; exact ⟨_, rfl, rfl⟩
      obtain ⟨r, h1, h2⟩ := e
      rw [h1, h2]
      simp

end Go.Proofs.Ytbpclinffgedjaa.Pure
