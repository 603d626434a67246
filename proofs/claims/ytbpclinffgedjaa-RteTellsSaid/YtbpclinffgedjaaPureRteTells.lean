/-
The entry of any bytes and the bytes of any entry are the document's.
-/
import Derived.Test.YtbpclinffgedjaaQRteTells
import Derived.Test.YtbpclinffgedjaaBase
namespace Go.Proofs.Ytbpclinffgedjaa.Pure
open Go.RowKit Go.Proofs.Ytbpclinffgedjaa.PRteTells Go.Proofs.YtbpclinffgedjaaW.PrintWords Go.Proofs.YtbpclinffgedjaaW.PrintLast Go.Proofs.YtbpclinffgedjaaW.PrintMore Go.Proofs.Ytbpclinffgedjaa.Base
set_option linter.unusedVariables false
set_option linter.unusedSimpArgs false

/-- The lowest so many bytes of a number, the highest first. -/
def dig : Nat → Int → List Int
  | 0, _ => []
  | s + 1, n => dig s (n / 256) ++ [n % 256]
theorem dig_length (s : Nat) (n : Int) : (dig s n).length = s := by
  induction s generalizing n with
  | zero => rfl
  | succ s ih => simp [dig, ih]
theorem dig_range (s : Nat) (n : Int) : ∀ x ∈ dig s n, 0 ≤ x ∧ x ≤ 255 := by
  induction s generalizing n with
  | zero => intro x hx; cases hx
  | succ s ih =>
    intro x hx
    simp only [dig, List.mem_append, List.mem_singleton] at hx
    rcases hx with hx | rfl
    · exact ih _ x hx
    · omega
def octFits (n size : Int) : Bool := decide (1 ≤ size ∧ size ≤ 7 ∧ 0 ≤ n ∧ n < 256 ^ size.toNat)
def octPut (n size : Int) : ByteArray × Bool := if octFits n size = true then (strOfNums (dig size.toNat n), true) else (⟨#[]⟩, false)
theorem octFits_iff {n size : Int} : octFits n size = true ↔ (1 ≤ size ∧ size ≤ 7 ∧ 0 ≤ n ∧ n < 256 ^ size.toNat) := by simp [octFits]

theorem div_eq_zero_iff {n : Int} {m : Nat} (h : 0 ≤ n) (hm : 0 < (2 : Int) ^ m) : (n / 2 ^ m = 0) ↔ n < 2 ^ m := by
  constructor
  · intro e
    have := Int.lt_mul_ediv_self_add (x := n) (k := 2 ^ m) hm
    rw [e] at this; omega
  · intro e; exact Int.ediv_eq_zero_of_lt h e

theorem pow_le7 (m : Nat) (h : m ≤ 7) : (256 : Int) ^ m ≤ 72057594037927936 := by
  have : m = 0 ∨ m = 1 ∨ m = 2 ∨ m = 3 ∨ m = 4 ∨ m = 5 ∨ m = 6 ∨ m = 7 := by omega
  rcases this with rfl | rfl | rfl | rfl | rfl | rfl | rfl | rfl <;> decide

theorem octet_Fits_f (n size : Int) (hn : -9223372036854775808 ≤ n) (hn' : n ≤ 9223372036854775807) : octet_Fits.f n size = some (octFits n size) := by
  unfold octet_Fits.f octFits
  by_cases h1 : 1 ≤ size
  · rw [if_pos h1]
    by_cases h2 : size ≤ 7
    · rw [if_pos h2]
      by_cases h3 : 0 ≤ n
      · rw [if_pos h3]
        have e : IntKind.u64.wrap (wrap64 (8 * size)) = 8 * size := by rw [wrap64_id (by omega) (by omega), u64_id (by omega) (by omega)]
        rw [e, if_pos (by omega)]
        congr 1
        unfold shr
        have e2 : min (8 * size).toNat IntKind.i64.bits = 8 * size.toNat := by simp [IntKind.bits]; omega
        rw [e2, Bool.eq_iff_iff, beq_iff_eq, decide_eq_true_iff, div_eq_zero_iff h3 (Int.pow_pos (by decide))]
        have e3 : (2 : Int) ^ (8 * size.toNat) = 256 ^ size.toNat := by rw [Int.pow_mul]; rfl
        rw [e3]
        exact ⟨fun h => ⟨h1, h2, h3, h⟩, fun h => h.2.2.2⟩
      · rw [if_neg h3, decide_eq_false (fun h => h3 h.2.2.1)]
    · rw [if_neg h2, decide_eq_false (fun h => h2 h.2.1)]
  · rw [if_neg h1, decide_eq_false (fun h => h1 h.1)]

/-- The number that bytes make, the highest first. -/
def num (l : List Int) : Int := l.foldl (fun a b => a * 256 + b) 0
theorem num_nil : num [] = 0 := rfl
theorem num_snoc (l : List Int) (x : Int) : num (l ++ [x]) = num l * 256 + x := by simp [num, List.foldl_append]
theorem num_take (l : List Int) (i : Nat) (h : i < l.length) : num (l.take (i + 1)) = num (l.take i) * 256 + l.getD i 0 := by
  rw [List.take_succ_eq_append_getElem h, num_snoc, List.getD_eq_getElem?_getD, List.getElem?_eq_getElem h]; rfl
theorem num_foldl (l : List Int) (a : Int) : l.foldl (fun a b => a * 256 + b) a = a * 256 ^ l.length + num l := by
  induction l generalizing a with
  | nil => simp [num]
  | cons x l ih =>
    have e : num (x :: l) = List.foldl (fun a b => a * 256 + b) x l := by simp [num]
    rw [e, ih x]
    simp only [List.foldl_cons, List.length_cons]
    rw [ih (a * 256 + x), Int.pow_succ, Int.add_mul, Int.mul_assoc, Int.mul_comm 256, Int.add_assoc]
theorem num_cons (x : Int) (l : List Int) : num (x :: l) = x * 256 ^ l.length + num l := by
  have e : num (x :: l) = List.foldl (fun a b => a * 256 + b) x l := by simp [num]
  rw [e, num_foldl]
theorem num_range (l : List Int) (h : ∀ x ∈ l, 0 ≤ x ∧ x ≤ 255) : 0 ≤ num l ∧ num l < 256 ^ l.length := by
  induction l with
  | nil => simp [num]
  | cons x l ih =>
    have hx := h x (by simp)
    obtain ⟨h0, h1⟩ := ih fun y hy => h y (by simp [hy])
    rw [num_cons, List.length_cons, Int.pow_succ]
    have hp : (0 : Int) < 256 ^ l.length := Int.pow_pos (by decide)
    have e1 : 0 ≤ x * 256 ^ l.length := Int.mul_nonneg hx.1 (by omega)
    have e2 : x * 256 ^ l.length ≤ 255 * 256 ^ l.length := Int.mul_le_mul_of_nonneg_right hx.2 (by omega)
    omega
theorem num_dig (s : Nat) : ∀ n : Int, 0 ≤ n → n < 256 ^ s → num (dig s n) = n := by
  induction s with
  | zero => intro n h0 h1; simp at h1; simp [dig, num]; omega
  | succ s ih =>
    intro n h0 h1
    rw [dig, num_snoc, ih (n / 256) (by omega) (by rw [Int.pow_succ] at h1; omega)]
    omega
theorem dig_num (l : List Int) (h : ∀ x ∈ l, 0 ≤ x ∧ x ≤ 255) : dig l.length (num l) = l := by
  generalize hs : l.length = s
  induction s generalizing l with
  | zero => rw [List.eq_nil_of_length_eq_zero hs]; rfl
  | succ s ih =>
    have hne : l ≠ [] := fun c => by rw [c] at hs; cases hs
    obtain ⟨a, x, rfl⟩ : ∃ a x, l = a ++ [x] := ⟨_, _, (List.dropLast_concat_getLast hne).symm⟩
    rw [List.length_append, List.length_singleton] at hs
    have hx := h x (by simp)
    rw [dig, num_snoc, show (num a * 256 + x) / 256 = num a by omega, show (num a * 256 + x) % 256 = x by omega, ih a (fun y hy => h y (by simp [hy])) (by omega)]

theorem u8_lt {x y : Int} (hx : 0 ≤ x ∧ x ≤ 255) (hy : 0 ≤ y ∧ y ≤ 255) : (UInt8.ofNat x.toNat < UInt8.ofNat y.toNat) ↔ x < y := by
  rw [UInt8.lt_iff_toNat_lt, UInt8.toNat_ofNat', UInt8.toNat_ofNat']; omega
theorem u8_eq {x y : Int} (hx : 0 ≤ x ∧ x ≤ 255) (hy : 0 ≤ y ∧ y ≤ 255) : (UInt8.ofNat x.toNat = UInt8.ofNat y.toNat) ↔ x = y := by
  rw [← UInt8.toNat_inj, UInt8.toNat_ofNat', UInt8.toNat_ofNat']; omega
/-- Of two texts of one length the lesser is the one whose number is less. -/
theorem less_num (a b : List Int) (ha : ∀ x ∈ a, 0 ≤ x ∧ x ≤ 255) (hb : ∀ x ∈ b, 0 ≤ x ∧ x ≤ 255) (hl : a.length = b.length) :
    Op.bytesLess (strOfNums a).toList (strOfNums b).toList = decide (num a < num b) := by
  rw [ByteArray.toList_eq, ByteArray.toList_eq, data_nums, data_nums]
  induction a generalizing b with
  | nil =>
    cases b with
    | nil => rfl
    | cons y b => cases hl
  | cons x a ih =>
    cases b with
    | nil => cases hl
    | cons y b =>
      have hl' : a.length = b.length := by simpa using hl
      have hx := ha x (by simp)
      have hy := hb y (by simp)
      have ha' : ∀ z ∈ a, 0 ≤ z ∧ z ≤ 255 := fun z hz => ha z (by simp [hz])
      have hb' : ∀ z ∈ b, 0 ≤ z ∧ z ≤ 255 := fun z hz => hb z (by simp [hz])
      simp only [List.map_cons, Op.bytesLess, ih b ha' hb' hl']
      obtain ⟨r0, r1⟩ := num_range a ha'
      obtain ⟨q0, q1⟩ := num_range b hb'
      rw [num_cons, num_cons, hl'] at *
      have hp : (0 : Int) < 256 ^ b.length := Int.pow_pos (by decide)
      rw [Bool.eq_iff_iff]
      simp only [Bool.or_eq_true, Bool.and_eq_true, decide_eq_true_eq, beq_iff_eq, u8_lt hx hy, u8_eq hx hy]
      constructor
      · rintro (h | ⟨rfl, h⟩)
        · have : (x + 1) * 256 ^ b.length ≤ y * 256 ^ b.length := Int.mul_le_mul_of_nonneg_right (by omega) (by omega)
          rw [Int.add_mul] at this; omega
        · omega
      · intro h
        rcases Int.lt_trichotomy x y with c | c | c
        · exact .inl c
        · subst c; exact .inr ⟨rfl, by omega⟩
        · have : (y + 1) * 256 ^ b.length ≤ x * 256 ^ b.length := Int.mul_le_mul_of_nonneg_right (by omega) (by omega)
          rw [Int.add_mul] at this; omega

def rtePut (f t : Int) (ad mk nx : ByteArray) (m : Int) : ByteArray × Bool :=
  if ad.size = 16 ∧ mk.size = 0 ∧ nx.size = 0 ∧ octFits t 2 = true ∧ octFits f 1 = true ∧ octFits m 1 = true then (ad ++ strOfNums [(t / 256) % 256, t % 256, f % 256, m % 256], true) else (⟨#[]⟩, false)
theorem empty_iff (a : ByteArray) : a.toList = ([] : List UInt8) ↔ a.size = 0 := by
  rw [ByteArray.toList_eq, ← data_length, List.length_eq_zero_iff]
theorem rte_Put_f (f t : Int) (ad mk nx : ByteArray) (m : Int) (hf : -9223372036854775808 ≤ f ∧ f ≤ 9223372036854775807) (ht : -9223372036854775808 ≤ t ∧ t ≤ 9223372036854775807) (hm : -9223372036854775808 ≤ m ∧ m ≤ 9223372036854775807)
    (hs : mk.size + nx.size ≤ 1000) : rte_Put.f f t ad mk nx m = some (rtePut f t ad mk nx m) := by
  unfold rte_Put.f rtePut
  by_cases h1 : ad.size = 16
  · rw [if_pos (by omega), if_pos (by omega)]
    by_cases h2 : mk.size = 0 ∧ nx.size = 0
    · rw [if_pos (by rw [empty_iff, size_app]; omega), octet_Fits_f t 2 ht.1 ht.2, Option.bind_some, octet_Fits_f f 1 hf.1 hf.2, octet_Fits_f m 1 hm.1 hm.2]
      by_cases h3 : octFits t 2 = true
      · rw [if_pos h3, Option.bind_some]
        by_cases h4 : octFits f 1 = true
        · rw [if_pos h4, Option.bind_some]
          by_cases h5 : octFits m 1 = true
          · rw [if_pos h5, Option.bind_some, if_pos (by rw [size_nums]; simp only [List.length_cons, List.length_nil]; omega), if_pos ⟨h1, h2.1, h2.2, h3, h4, h5⟩]
          · rw [if_neg h5, if_neg (fun h => h5 h.2.2.2.2.2)]
        · rw [if_neg h4, if_neg (fun h => h4 h.2.2.2.2.1)]
      · rw [if_neg h3, if_neg (fun h => h3 h.2.2.2.1)]
    · rw [if_neg (by rw [empty_iff, size_app]; omega), if_neg (fun h => h2 ⟨h.2.1, h.2.2.1⟩)]
  · rw [if_neg (by omega), if_neg (fun h => h1 h.1)]
theorem rte_Get_f (s : ByteArray) : rte_Get.f s = some (if s.size = 20 then (bt s 18, bt s 16 * 256 + bt s 17, s.extract 0 16, (⟨#[]⟩ : ByteArray), (⟨#[]⟩ : ByteArray), bt s 19, true) else (0, 0, (⟨#[]⟩ : ByteArray), (⟨#[]⟩ : ByteArray), (⟨#[]⟩ : ByteArray), 0, false)) := by
  unfold rte_Get.f
  by_cases h : s.size = 20
  · rw [if_pos h, if_pos h, bt_ext _ _ _ 2 (by decide), bt_ext _ _ _ 0 (by decide), bt_ext _ _ _ 1 (by decide), bt_ext _ _ _ 3 (by decide), if_pos (by omega), if_pos (by omega), if_pos (by omega), if_pos (by omega)]
    rfl
  · rw [if_neg h, if_neg h]

theorem refFits_l (m : Nat) : ∀ (k : Nat) (n size t i : Int), m < k → (size - i) = m → 0 ≤ i → size ≤ 7 → t = 256 ^ i.toNat →
    roadbookref02_Fits.l0 k n size t i = some (decide (n < 256 ^ size.toNat)) := by
  induction m with
  | zero =>
    intro k n size t i hk hm hi hs ht
    obtain ⟨k, rfl⟩ : ∃ j, k = j + 1 := ⟨k - 1, by omega⟩
    simp only [roadbookref02_Fits.l0]; rw [if_neg (by omega), ht, show i = size by omega]
  | succ m ih =>
    intro k n size t i hk hm hi hs ht
    obtain ⟨k, rfl⟩ : ∃ j, k = j + 1 := ⟨k - 1, by omega⟩
    simp only [roadbookref02_Fits.l0]; rw [if_pos (by omega)]
    have hp : t * 256 = 256 ^ (i + 1).toNat := by rw [ht, show (i + 1).toNat = i.toNat + 1 by omega, Int.pow_succ]
    have hb := pow_le7 (i + 1).toNat (by omega)
    have hb3 : (0 : Int) < 256 ^ (i + 1).toNat := Int.pow_pos (by decide)
    rw [wrap64_id (by omega) (by omega), wrap64_id (by omega) (by omega)]
    exact ih k n size _ (i + 1) (by omega) (by omega) (by omega) hs hp

theorem refFits_f (n size : Int) (k : Nat) (hk : 10 < k) : roadbookref02_Fits.f k n size = some (octFits n size) := by
  obtain ⟨k, rfl⟩ : ∃ j, k = j + 1 := ⟨k - 1, by omega⟩
  unfold roadbookref02_Fits.f octFits
  simp only [roadbookref02_Fits.j0, if_true]
  by_cases h1 : size < 1
  · rw [if_pos h1, decide_eq_false (fun h => by omega)]
  · rw [if_neg h1]
    by_cases h2 : size > 7
    · rw [if_pos h2, decide_eq_false (fun h => by omega)]
    · rw [if_neg h2]
      by_cases h3 : n < 0
      · rw [decide_eq_true h3, if_pos rfl, decide_eq_false (fun h => by omega)]
      · rw [decide_eq_false h3, if_neg (by decide), refFits_l size.toNat k n size 1 0 (by omega) (by omega) (by omega) (by omega) rfl]
        congr 1
        rw [Bool.eq_iff_iff, decide_eq_true_iff, decide_eq_true_iff]
        exact ⟨fun h => ⟨by omega, by omega, by omega, h⟩, fun h => h.2.2.2⟩

theorem refPut_l (m : Nat) : ∀ (k : Nat) (n size i : Int) (s : ByteArray), m < k → (size - i) = m → 0 ≤ i → size ≤ 7 → 0 ≤ n → n ≤ 9223372036854775807 → s.size ≤ 100 + i →
    roadbookref02_Put.l0 k n size s i = some (strOfNums (dig m n) ++ s, true) := by
  induction m with
  | zero =>
    intro k n size i s hk hm hi hs hn hn' hz
    obtain ⟨k, rfl⟩ : ∃ j, k = j + 1 := ⟨k - 1, by omega⟩
    simp only [roadbookref02_Put.l0]; rw [if_neg (by omega)]
    congr 2
  | succ m ih =>
    intro k n size i s hk hm hi hs hn hn' hz
    obtain ⟨k, rfl⟩ : ∃ j, k = j + 1 := ⟨k - 1, by omega⟩
    simp only [roadbookref02_Put.l0, Option.bind_some]; rw [if_pos (by omega)]
    have e1 : Int.tmod n 256 % 256 = n % 256 := by rw [Int.tmod_eq_emod_of_nonneg hn]; omega
    have e2 : Int.tdiv n 256 = n / 256 := Int.tdiv_eq_ediv_of_nonneg hn
    rw [e1, e2, wrap64_id (by omega) (by omega), wrap64_id (by omega) (by omega), if_pos (by rw [size_nums]; simp; omega)]
    rw [ih k (n / 256) size (i + 1) _ (by omega) (by omega) (by omega) hs (by omega) (by omega) (by rw [size_app, size_nums]; simp; omega)]
    congr 2
    rw [dig, nums_app, ByteArray.append_assoc]

theorem refPut_f (n size : Int) (hn' : n ≤ 9223372036854775807) (k : Nat) (hk : 10 < k) : roadbookref02_Put.f k n size = some (octPut n size) := by
  unfold roadbookref02_Put.f octPut
  rw [refFits_f n size k hk, Option.bind_some]
  by_cases h : octFits n size = true
  · have h' := octFits_iff.mp h
    rw [if_pos h, if_pos h]
    have := refPut_l size.toNat k n size 0 (⟨#[]⟩ : ByteArray) (by omega) (by omega) (by omega) (by omega) (by omega) hn' (by decide)
    rw [this]
    congr 2
    exact ByteArray.append_empty
  · rw [if_neg h, if_neg h]

theorem refNumber_l (m : Nat) : ∀ (k : Nat) (s : ByteArray) (i : Nat), m < k → s.size - i = m → i ≤ s.size → s.size ≤ 7 →
    roadbookref08_Number.l0 k s (num ((bytesOf s).take i)) i = some (num (bytesOf s)) := by
  induction m with
  | zero =>
    intro k s i hk hm hi hs
    obtain ⟨k, rfl⟩ : ∃ j, k = j + 1 := ⟨k - 1, by omega⟩
    simp only [roadbookref08_Number.l0]
    rw [if_neg (by omega), List.take_of_length_le (by rw [len_bytesOf]; omega)]
  | succ m ih =>
    intro k s i hk hm hi hs
    obtain ⟨k, rfl⟩ : ∃ j, k = j + 1 := ⟨k - 1, by omega⟩
    simp only [roadbookref08_Number.l0]
    rw [if_pos (by omega), if_pos (by omega), if_pos (by omega)]
    have hr := num_range ((bytesOf s).take i) (fun x hx => bytesOf_range s x (List.mem_of_mem_take hx))
    rw [List.length_take, len_bytesOf] at hr
    have hp := pow_le7 (min i s.size) (by omega)
    have hp6 : (256 : Int) ^ (min i s.size) ≤ 281474976710656 := by
      have : min i s.size ≤ 6 := by omega
      generalize min i s.size = q at this
      have : q = 0 ∨ q = 1 ∨ q = 2 ∨ q = 3 ∨ q = 4 ∨ q = 5 ∨ q = 6 := by omega
      rcases this with rfl | rfl | rfl | rfl | rfl | rfl | rfl <;> decide
    have hb := bt_range s (i : Int)
    rw [wrap64_id (x := num ((bytesOf s).take i) * 256) (by omega) (by omega), wrap64_id (x := bt s (i : Int)) (by omega) (by omega), wrap64_id (by omega) (by omega), wrap64_id (by omega) (by omega)]
    have := ih k s (i + 1) (by omega) (by omega) (by omega) hs
    rw [num_take _ i (by rw [len_bytesOf]; omega), bytesOf_getD] at this
    exact this
theorem refNumber_f (s : ByteArray) (hs : s.size ≤ 7) (k : Nat) (hk : 8 < k) : roadbookref08_Number.f k s = some (num (bytesOf s)) :=
  refNumber_l s.size k s 0 (by omega) (by omega) (by omega) hs

theorem rte_awake : roadbooklaw11_awake.f = some true := by decide +kernel
theorem refPut11_f (f t : Int) (ad mk nx : ByteArray) (m : Int) (hf : f ≤ 9223372036854775807) (ht : t ≤ 9223372036854775807) (hm : m ≤ 9223372036854775807) (k : Nat) (hk : 10 < k) : roadbookref11_Put.f k f t ad mk nx m = some (rtePut f t ad mk nx m) := by
  unfold roadbookref11_Put.f rtePut
  rw [refPut_f t 2 ht k hk, Option.bind_some, refPut_f f 1 hf k hk, Option.bind_some, refPut_f m 1 hm k hk, Option.bind_some]
  unfold octPut
  by_cases h3 : octFits t 2 = true
  · rw [if_pos h3]
    by_cases h4 : octFits f 1 = true
    · rw [if_pos h4]
      by_cases h5 : octFits m 1 = true
      · rw [if_pos h5]
        dsimp only
        rw [if_pos rfl, if_pos rfl, if_pos rfl]
        by_cases h1 : ad.size = 16
        · rw [if_pos (by omega)]
          by_cases h2 : mk.size = 0
          · rw [if_pos ((empty_iff _).mpr h2)]
            by_cases h6 : nx.size = 0
            · rw [if_pos ((empty_iff _).mpr h6)]
              have z2 : (strOfNums (dig (2 : Int).toNat t)).size = 2 := by rw [size_nums, dig_length]; rfl
              have z1 : ∀ n, (strOfNums (dig (1 : Int).toNat n)).size = 1 := fun n => by rw [size_nums, dig_length]; rfl
              rw [if_pos (by rw [z2]; omega), if_pos (by rw [size_app, z2, z1]; omega), if_pos (by rw [size_app, size_app, z2, z1, z1]; omega), if_pos ⟨h1, h2, h6, h3, h4, h5⟩]
              congr 2
              rw [ByteArray.append_assoc, ByteArray.append_assoc, ← nums_app, ← nums_app]
              rfl
            · rw [if_neg (fun h => h6 ((empty_iff _).mp h)), if_neg (fun h => h6 h.2.2.1)]
          · rw [if_neg (fun h => h2 ((empty_iff _).mp h)), if_neg (fun h => h2 h.2.1)]
        · rw [if_neg (by omega), if_neg (fun h => h1 h.1)]
      · rw [if_neg h5]
        dsimp only
        rw [if_pos rfl, if_pos rfl, if_neg (by decide), if_neg (fun h => h5 h.2.2.2.2.2)]
    · rw [if_neg h4]
      dsimp only
      rw [if_pos rfl, if_neg (by decide), if_neg (fun h => h4 h.2.2.2.2.1)]
  · rw [if_neg h3]
    dsimp only
    rw [if_neg (by decide), if_neg (fun h => h3 h.2.2.2.1)]
theorem refGet11_f (s : ByteArray) (k : Nat) (hk : 8 < k) : roadbookref11_Get.f k s = rte_Get.f s := by
  rw [rte_Get_f]
  unfold roadbookref11_Get.f
  by_cases h : s.size = 20
  · rw [if_pos (by omega), if_pos (by omega), if_pos (by omega), if_pos (by omega), if_pos (by omega), refNumber_f _ (by rw [size_ext]; omega) k hk, Option.bind_some, if_pos (by omega), if_pos (by omega), if_pos h]
    have b8 := bt_range s 18; have b9 := bt_range s 19
    rw [wrap64_id (by omega) (by omega), wrap64_id (by omega) (by omega)]
    have e : bytesOf (s.extract 16 18) = [bt s 16, bt s 17] := by
      apply List.ext_getElem (by rw [len_bytesOf, size_ext]; simp only [List.length_cons, List.length_nil]; omega)
      intro i h1 h2
      have e := bytesOf_getD (s.extract 16 18) i
      rw [bt_ext _ _ _ _ (by omega), List.getD_eq_getElem?_getD, List.getElem?_eq_getElem h1] at e
      rw [len_bytesOf, size_ext] at h1
      rw [if_pos (by omega)] at e
      have : i = 0 ∨ i = 1 := by omega
      rcases this with rfl | rfl <;> exact e
    rw [e]
    simp [num]
  · rw [if_neg (by omega), if_neg h]
theorem RteTells : roadbooklaw11_RteTells.Pure := by
  intro s f t ad mk nx m hs hg
  obtain ⟨hf, ht, ha, hk, hn, hm⟩ := hg
  have hf := wf_i64 hf; have ht := wf_i64 ht; have hm := wf_i64 hm
  dsimp only at hf ht hm ha hk hn
  refine ⟨20, ?_⟩
  have big : roadbooklaw11_RteTells.j0 20 s true f t ad mk nx m = some true := by
    simp only [roadbooklaw11_RteTells.j0, if_true]
    rw [rte_awake, Option.bind_some]
  unfold roadbooklaw11_RteTells.f
  rw [wrap64_id (by omega) (by omega)]
  split
  · exact big
  split
  · exact big
  by_cases c : (nx.size : Int) > 100
  · rw [decide_eq_true c]; exact big
  rw [decide_eq_false c]
  rename_i c1 c2
  obtain ⟨g, hg⟩ : ∃ g, rte_Get.f s = some g := ⟨_, rte_Get_f s⟩
  obtain ⟨p, hp⟩ : ∃ p, rtePut f t ad mk nx m = p := ⟨_, rfl⟩
  simp only [roadbooklaw11_RteTells.j0, Bool.false_eq_true, if_false]
  rw [refGet11_f s 19 (by omega), hg, Option.bind_some, Option.bind_some, rte_Put_f f t ad mk nx m hf ht hm (by omega), Option.bind_some, refPut11_f f t ad mk nx m hf.2 ht.2 hm.2 19 (by omega), Option.bind_some, rte_awake, Option.bind_some, hp]
  simp

end Go.Proofs.Ytbpclinffgedjaa.Pure
