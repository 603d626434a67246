/-
Twenty bytes are one entry's, and an entry that has bytes is that of these.
-/
import Derived.Test.YtbpclinffgedjaaQRteBack
import Derived.Test.YtbpclinffgedjaaBase
namespace Go.Proofs.Ytbpclinffgedjaa.Pure
open Go.RowKit Go.Proofs.Ytbpclinffgedjaa.PRteBack Go.Proofs.YtbpclinffgedjaaW.PrintWords Go.Proofs.YtbpclinffgedjaaW.PrintLast Go.Proofs.YtbpclinffgedjaaW.PrintMore Go.Proofs.Ytbpclinffgedjaa.Base
set_option linter.unusedVariables false
set_option linter.unusedSimpArgs false

/-- The lowest so many bytes of a number, the highest first. -/
def dig : Nat → Int → List Int
  | 0, _ => []
  | s + 1, n => dig s (n / 256) ++ [n % 256]
theorem dig_length (s : Nat) (n : Int) : (dig s n).length = s := by
  induction s generalizing n with
  | zero => rfl
  | succ s ih => simp [dig, ih]
theorem dig_range (s : Nat) (n : Int) : ∀ x ∈ dig s n, 0 ≤ x ∧ x ≤ 255 := by
  induction s generalizing n with
  | zero => intro x hx; cases hx
  | succ s ih =>
    intro x hx
    simp only [dig, List.mem_append, List.mem_singleton] at hx
    rcases hx with hx | rfl
    · exact ih _ x hx
    · omega
def octFits (n size : Int) : Bool := decide (1 ≤ size ∧ size ≤ 7 ∧ 0 ≤ n ∧ n < 256 ^ size.toNat)
def octPut (n size : Int) : ByteArray × Bool := if octFits n size = true then (strOfNums (dig size.toNat n), true) else (⟨#[]⟩, false)
theorem octFits_iff {n size : Int} : octFits n size = true ↔ (1 ≤ size ∧ size ≤ 7 ∧ 0 ≤ n ∧ n < 256 ^ size.toNat) := by simp [octFits]

theorem div_eq_zero_iff {n : Int} {m : Nat} (h : 0 ≤ n) (hm : 0 < (2 : Int) ^ m) : (n / 2 ^ m = 0) ↔ n < 2 ^ m := by
  constructor
  · intro e
    have := Int.lt_mul_ediv_self_add (x := n) (k := 2 ^ m) hm
    rw [e] at this; omega
  · intro e; exact Int.ediv_eq_zero_of_lt h e

theorem pow_le7 (m : Nat) (h : m ≤ 7) : (256 : Int) ^ m ≤ 72057594037927936 := by
  have : m = 0 ∨ m = 1 ∨ m = 2 ∨ m = 3 ∨ m = 4 ∨ m = 5 ∨ m = 6 ∨ m = 7 := by omega
  rcases this with rfl | rfl | rfl | rfl | rfl | rfl | rfl | rfl <;> decide

theorem octet_Fits_f (n size : Int) (hn : -9223372036854775808 ≤ n) (hn' : n ≤ 9223372036854775807) : octet_Fits.f n size = some (octFits n size) := by
  unfold octet_Fits.f octFits
  by_cases h1 : 1 ≤ size
  · rw [if_pos h1]
    by_cases h2 : size ≤ 7
    · rw [if_pos h2]
      by_cases h3 : 0 ≤ n
      · rw [if_pos h3]
        have e : IntKind.u64.wrap (wrap64 (8 * size)) = 8 * size := by rw [wrap64_id (by omega) (by omega), u64_id (by omega) (by omega)]
        rw [e, if_pos (by omega)]
        congr 1
        unfold shr
        have e2 : min (8 * size).toNat IntKind.i64.bits = 8 * size.toNat := by simp [IntKind.bits]; omega
        rw [e2, Bool.eq_iff_iff, beq_iff_eq, decide_eq_true_iff, div_eq_zero_iff h3 (Int.pow_pos (by decide))]
        have e3 : (2 : Int) ^ (8 * size.toNat) = 256 ^ size.toNat := by rw [Int.pow_mul]; rfl
        rw [e3]
        exact ⟨fun h => ⟨h1, h2, h3, h⟩, fun h => h.2.2.2⟩
      · rw [if_neg h3, decide_eq_false (fun h => h3 h.2.2.1)]
    · rw [if_neg h2, decide_eq_false (fun h => h2 h.2.1)]
  · rw [if_neg h1, decide_eq_false (fun h => h1 h.1)]

/-- The number that bytes make, the highest first. -/
def num (l : List Int) : Int := l.foldl (fun a b => a * 256 + b) 0
theorem num_nil : num [] = 0 := rfl
theorem num_snoc (l : List Int) (x : Int) : num (l ++ [x]) = num l * 256 + x := by simp [num, List.foldl_append]
theorem num_take (l : List Int) (i : Nat) (h : i < l.length) : num (l.take (i + 1)) = num (l.take i) * 256 + l.getD i 0 := by
  rw [List.take_succ_eq_append_getElem h, num_snoc, List.getD_eq_getElem?_getD, List.getElem?_eq_getElem h]; rfl
theorem num_foldl (l : List Int) (a : Int) : l.foldl (fun a b => a * 256 + b) a = a * 256 ^ l.length + num l := by
  induction l generalizing a with
  | nil => simp [num]
  | cons x l ih =>
    have e : num (x :: l) = List.foldl (fun a b => a * 256 + b) x l := by simp [num]
    rw [e, ih x]
    simp only [List.foldl_cons, List.length_cons]
    rw [ih (a * 256 + x), Int.pow_succ, Int.add_mul, Int.mul_assoc, Int.mul_comm 256, Int.add_assoc]
theorem num_cons (x : Int) (l : List Int) : num (x :: l) = x * 256 ^ l.length + num l := by
  have e : num (x :: l) = List.foldl (fun a b => a * 256 + b) x l := by simp [num]
  rw [e, num_foldl]
theorem num_range (l : List Int) (h : ∀ x ∈ l, 0 ≤ x ∧ x ≤ 255) : 0 ≤ num l ∧ num l < 256 ^ l.length := by
  induction l with
  | nil => simp [num]
  | cons x l ih =>
    have hx := h x (by simp)
    obtain ⟨h0, h1⟩ := ih fun y hy => h y (by simp [hy])
    rw [num_cons, List.length_cons, Int.pow_succ]
    have hp : (0 : Int) < 256 ^ l.length := Int.pow_pos (by decide)
    have e1 : 0 ≤ x * 256 ^ l.length := Int.mul_nonneg hx.1 (by omega)
    have e2 : x * 256 ^ l.length ≤ 255 * 256 ^ l.length := Int.mul_le_mul_of_nonneg_right hx.2 (by omega)
    omega
theorem num_dig (s : Nat) : ∀ n : Int, 0 ≤ n → n < 256 ^ s → num (dig s n) = n := by
  induction s with
  | zero => intro n h0 h1; simp at h1; simp [dig, num]; omega
  | succ s ih =>
    intro n h0 h1
    rw [dig, num_snoc, ih (n / 256) (by omega) (by rw [Int.pow_succ] at h1; omega)]
    omega
theorem dig_num (l : List Int) (h : ∀ x ∈ l, 0 ≤ x ∧ x ≤ 255) : dig l.length (num l) = l := by
  generalize hs : l.length = s
  induction s generalizing l with
  | zero => rw [List.eq_nil_of_length_eq_zero hs]; rfl
  | succ s ih =>
    have hne : l ≠ [] := fun c => by rw [c] at hs; cases hs
    obtain ⟨a, x, rfl⟩ : ∃ a x, l = a ++ [x] := ⟨_, _, (List.dropLast_concat_getLast hne).symm⟩
    rw [List.length_append, List.length_singleton] at hs
    have hx := h x (by simp)
    rw [dig, num_snoc, show (num a * 256 + x) / 256 = num a by omega, show (num a * 256 + x) % 256 = x by omega, ih a (fun y hy => h y (by simp [hy])) (by omega)]

theorem u8_lt {x y : Int} (hx : 0 ≤ x ∧ x ≤ 255) (hy : 0 ≤ y ∧ y ≤ 255) : (UInt8.ofNat x.toNat < UInt8.ofNat y.toNat) ↔ x < y := by
  rw [UInt8.lt_iff_toNat_lt, UInt8.toNat_ofNat', UInt8.toNat_ofNat']; omega
theorem u8_eq {x y : Int} (hx : 0 ≤ x ∧ x ≤ 255) (hy : 0 ≤ y ∧ y ≤ 255) : (UInt8.ofNat x.toNat = UInt8.ofNat y.toNat) ↔ x = y := by
  rw [← UInt8.toNat_inj, UInt8.toNat_ofNat', UInt8.toNat_ofNat']; omega
/-- Of two texts of one length the lesser is the one whose number is less. -/
theorem less_num (a b : List Int) (ha : ∀ x ∈ a, 0 ≤ x ∧ x ≤ 255) (hb : ∀ x ∈ b, 0 ≤ x ∧ x ≤ 255) (hl : a.length = b.length) :
    Op.bytesLess (strOfNums a).toList (strOfNums b).toList = decide (num a < num b) := by
  rw [ByteArray.toList_eq, ByteArray.toList_eq, data_nums, data_nums]
  induction a generalizing b with
  | nil =>
    cases b with
    | nil => rfl
    | cons y b => cases hl
  | cons x a ih =>
    cases b with
    | nil => cases hl
    | cons y b =>
      have hl' : a.length = b.length := by simpa using hl
      have hx := ha x (by simp)
      have hy := hb y (by simp)
      have ha' : ∀ z ∈ a, 0 ≤ z ∧ z ≤ 255 := fun z hz => ha z (by simp [hz])
      have hb' : ∀ z ∈ b, 0 ≤ z ∧ z ≤ 255 := fun z hz => hb z (by simp [hz])
      simp only [List.map_cons, Op.bytesLess, ih b ha' hb' hl']
      obtain ⟨r0, r1⟩ := num_range a ha'
      obtain ⟨q0, q1⟩ := num_range b hb'
      rw [num_cons, num_cons, hl'] at *
      have hp : (0 : Int) < 256 ^ b.length := Int.pow_pos (by decide)
      rw [Bool.eq_iff_iff]
      simp only [Bool.or_eq_true, Bool.and_eq_true, decide_eq_true_eq, beq_iff_eq, u8_lt hx hy, u8_eq hx hy]
      constructor
      · rintro (h | ⟨rfl, h⟩)
        · have : (x + 1) * 256 ^ b.length ≤ y * 256 ^ b.length := Int.mul_le_mul_of_nonneg_right (by omega) (by omega)
          rw [Int.add_mul] at this; omega
        · omega
      · intro h
        rcases Int.lt_trichotomy x y with c | c | c
        · exact .inl c
        · subst c; exact .inr ⟨rfl, by omega⟩
        · have : (y + 1) * 256 ^ b.length ≤ x * 256 ^ b.length := Int.mul_le_mul_of_nonneg_right (by omega) (by omega)
          rw [Int.add_mul] at this; omega

def rtePut (f t : Int) (ad mk nx : ByteArray) (m : Int) : ByteArray × Bool :=
  if ad.size = 16 ∧ mk.size = 0 ∧ nx.size = 0 ∧ octFits t 2 = true ∧ octFits f 1 = true ∧ octFits m 1 = true then (ad ++ strOfNums [(t / 256) % 256, t % 256, f % 256, m % 256], true) else (⟨#[]⟩, false)
theorem empty_iff (a : ByteArray) : a.toList = ([] : List UInt8) ↔ a.size = 0 := by
  rw [ByteArray.toList_eq, ← data_length, List.length_eq_zero_iff]
theorem rte_Put_f (f t : Int) (ad mk nx : ByteArray) (m : Int) (hf : -9223372036854775808 ≤ f ∧ f ≤ 9223372036854775807) (ht : -9223372036854775808 ≤ t ∧ t ≤ 9223372036854775807) (hm : -9223372036854775808 ≤ m ∧ m ≤ 9223372036854775807)
    (hs : mk.size + nx.size ≤ 1000) : rte_Put.f f t ad mk nx m = some (rtePut f t ad mk nx m) := by
  unfold rte_Put.f rtePut
  by_cases h1 : ad.size = 16
  · rw [if_pos (by omega), if_pos (by omega)]
    by_cases h2 : mk.size = 0 ∧ nx.size = 0
    · rw [if_pos (by rw [empty_iff, size_app]; omega), octet_Fits_f t 2 ht.1 ht.2, Option.bind_some, octet_Fits_f f 1 hf.1 hf.2, octet_Fits_f m 1 hm.1 hm.2]
      by_cases h3 : octFits t 2 = true
      · rw [if_pos h3, Option.bind_some]
        by_cases h4 : octFits f 1 = true
        · rw [if_pos h4, Option.bind_some]
          by_cases h5 : octFits m 1 = true
          · rw [if_pos h5, Option.bind_some, if_pos (by rw [size_nums]; simp only [List.length_cons, List.length_nil]; omega), if_pos ⟨h1, h2.1, h2.2, h3, h4, h5⟩]
          · rw [if_neg h5, if_neg (fun h => h5 h.2.2.2.2.2)]
        · rw [if_neg h4, if_neg (fun h => h4 h.2.2.2.2.1)]
      · rw [if_neg h3, if_neg (fun h => h3 h.2.2.2.1)]
    · rw [if_neg (by rw [empty_iff, size_app]; omega), if_neg (fun h => h2 ⟨h.2.1, h.2.2.1⟩)]
  · rw [if_neg (by omega), if_neg (fun h => h1 h.1)]
theorem rte_Get_f (s : ByteArray) : rte_Get.f s = some (if s.size = 20 then (bt s 18, bt s 16 * 256 + bt s 17, s.extract 0 16, (⟨#[]⟩ : ByteArray), (⟨#[]⟩ : ByteArray), bt s 19, true) else (0, 0, (⟨#[]⟩ : ByteArray), (⟨#[]⟩ : ByteArray), (⟨#[]⟩ : ByteArray), 0, false)) := by
  unfold rte_Get.f
  by_cases h : s.size = 20
  · rw [if_pos h, if_pos h, bt_ext _ _ _ 2 (by decide), bt_ext _ _ _ 0 (by decide), bt_ext _ _ _ 1 (by decide), bt_ext _ _ _ 3 (by decide), if_pos (by omega), if_pos (by omega), if_pos (by omega), if_pos (by omega)]
    rfl
  · rw [if_neg h, if_neg h]

theorem rte_awake : roadbooklaw11_awake.f = some true := by decide +kernel
theorem fits1 {x : Int} (h : 0 ≤ x ∧ x ≤ 255) : octFits x 1 = true := octFits_iff.mpr ⟨by decide, by decide, h.1, by show x < 256; omega⟩
theorem fits1' {x : Int} (h : octFits x 1 = true) : 0 ≤ x ∧ x < 256 := ⟨(octFits_iff.mp h).2.2.1, (octFits_iff.mp h).2.2.2⟩
theorem fits2 {x : Int} (h : 0 ≤ x ∧ x ≤ 65535) : octFits x 2 = true := octFits_iff.mpr ⟨by decide, by decide, h.1, by show x < 65536; omega⟩
theorem fits2' {x : Int} (h : octFits x 2 = true) : 0 ≤ x ∧ x < 65536 := ⟨(octFits_iff.mp h).2.2.1, (octFits_iff.mp h).2.2.2⟩
theorem rte_put_get (s : ByteArray) (h : s.size = 20) : rtePut (bt s 18) (bt s 16 * 256 + bt s 17) (s.extract 0 16) (⟨#[]⟩ : ByteArray) (⟨#[]⟩ : ByteArray) (bt s 19) = (s, true) := by
  have b6 := bt_range s 16; have b7 := bt_range s 17; have b8 := bt_range s 18; have b9 := bt_range s 19
  unfold rtePut
  rw [if_pos ⟨by rw [size_ext]; omega, rfl, rfl, fits2 (by omega), fits1 b8, fits1 b9⟩]
  congr 1
  have e : [(bt s 16 * 256 + bt s 17) / 256 % 256, (bt s 16 * 256 + bt s 17) % 256, bt s 18 % 256, bt s 19 % 256] = [bt s 16, bt s 17, bt s 18, bt s 19] := by
    congr 1
    · omega
    congr 1
    · omega
    congr 1
    · omega
    congr 1
    omega
  rw [e]
  refine ext_bt (by rw [size_app, size_ext, size_nums]; simp only [List.length_cons, List.length_nil]; omega) fun i hi => ?_
  rw [size_app, size_ext, size_nums] at hi
  simp only [List.length_cons, List.length_nil] at hi
  rw [bt_app _ _ _ (by omega), size_ext]
  by_cases c : i < 16
  · rw [if_pos (by omega), bt_ext _ _ _ _ (by omega), if_pos (by omega)]; simp
  · rw [if_neg (by omega)]
    have hb := bt_bytes [bt s 16, bt s 17, bt s 18, bt s 19] (by intro x hx; simp only [List.mem_cons, List.not_mem_nil, or_false] at hx; rcases hx with rfl | rfl | rfl | rfl <;> assumption)
    have : i = 16 ∨ i = 17 ∨ i = 18 ∨ i = 19 := by omega
    rw [show (min 16 s.size - 0 : Nat) = 16 by omega]
    rcases this with rfl | rfl | rfl | rfl
    · exact hb 0
    · exact hb 1
    · exact hb 2
    · exact hb 3
theorem rte_get_put (f t : Int) (ad mk nx : ByteArray) (m : Int) (h : (rtePut f t ad mk nx m).2 = true) : rte_Get.f (rtePut f t ad mk nx m).1 = some (f, t, ad, mk, nx, m, true) := by
  rw [rte_Get_f]
  unfold rtePut at h ⊢
  split at h
  · rename_i c
    rw [if_pos c]
    dsimp only
    obtain ⟨h1, h2, h3, h4, h5, h6⟩ := c
    have h4 := fits2' h4; have h5 := fits1' h5; have h6 := fits1' h6
    have hb := bt_bytes [t / 256 % 256, t % 256, f % 256, m % 256] (by intro x hx; simp only [List.mem_cons, List.not_mem_nil, or_false] at hx; rcases hx with rfl | rfl | rfl | rfl <;> omega)
    rw [if_pos (by rw [size_app, size_nums]; simp only [List.length_cons, List.length_nil]; omega)]
    have e : ∀ j : Nat, bt (ad ++ strOfNums [t / 256 % 256, t % 256, f % 256, m % 256]) ((16 + j : Nat) : Int) = [t / 256 % 256, t % 256, f % 256, m % 256].getD j 0 := by
      intro j
      rw [bt_app _ _ _ (by omega), if_neg (by omega), h1, show ((16 + j : Nat) : Int) - ((16 : Nat) : Int) = (j : Int) by omega]
      exact hb j
    have e0 := e 0; have e1 := e 1; have e2 := e 2; have e3 := e 3
    simp only [List.getD_cons_zero, List.getD_cons_succ, Nat.add_zero, Nat.reduceAdd, Int.cast_ofNat_Int] at e0 e1 e2 e3
    rw [e0, e1, e2, e3]
    have z : (ad ++ strOfNums [t / 256 % 256, t % 256, f % 256, m % 256]).extract 0 16 = ad := by
      refine ext_bt (by rw [size_ext, size_app, size_nums]; simp only [List.length_cons, List.length_nil]; omega) fun i hi => ?_
      rw [size_ext] at hi
      rw [bt_ext _ _ _ _ (by omega), if_pos (by omega), bt_app _ _ _ (by omega), if_pos (by omega)]
      simp
    rw [z, show (⟨#[]⟩ : ByteArray) = mk from (ext_bt (a := mk) (by rw [h2]; rfl) (fun i hi => by omega)).symm, show mk = nx from ext_bt (by rw [h2, h3]) (fun i hi => by omega), show f % 256 = f by omega, show m % 256 = m by omega, show t / 256 % 256 * 256 + t % 256 = t by omega]
  · cases h
theorem RteBack : roadbooklaw11_RteBack.Pure := by
  intro s f t ad mk nx m hs hg
  obtain ⟨hf, ht, ha, hk, hn, hm⟩ := hg
  have hf := wf_i64 hf; have ht := wf_i64 ht; have hm := wf_i64 hm
  dsimp only at hf ht hm ha hk hn
  refine ⟨20, ?_⟩
  have big : roadbooklaw11_RteBack.j0 20 s true f t ad mk nx m = some true := by
    simp only [roadbooklaw11_RteBack.j0, if_true]
    rw [rte_awake, Option.bind_some]
  unfold roadbooklaw11_RteBack.f
  rw [wrap64_id (by omega) (by omega)]
  split
  · exact big
  split
  · exact big
  by_cases c : (nx.size : Int) > 100
  · rw [decide_eq_true c]; exact big
  rw [decide_eq_false c]
  rename_i c1 c2
  have last : roadbooklaw11_RteBack.j1 19 false f t ad mk nx m = some true := by
    simp only [roadbooklaw11_RteBack.j1, Bool.false_eq_true, if_false]
    rw [rte_Put_f f t ad mk nx m hf ht hm (by omega), Option.bind_some]
    by_cases hp : (rtePut f t ad mk nx m).2 = true
    · rw [rte_get_put f t ad mk nx m hp, Option.bind_some, rte_awake, Option.bind_some]
      rw [hp]
      simp
    · have e : rtePut f t ad mk nx m = (⟨#[]⟩, false) := by
        unfold rtePut at hp ⊢
        split at hp
        · exact absurd rfl hp
        · rename_i c; rw [if_neg c]
      rw [e, rte_Get_f, Option.bind_some, rte_awake, Option.bind_some, if_pos rfl]
      dsimp only
      rw [if_neg (by decide)]
      decide +kernel
  simp only [roadbooklaw11_RteBack.j0, Bool.false_eq_true, if_false]
  rw [rte_Get_f, Option.bind_some]
  by_cases h : s.size = 20
  · rw [if_pos h]
    dsimp only
    have b6 := bt_range s 16; have b7 := bt_range s 17; have b8 := bt_range s 18; have b9 := bt_range s 19
    rw [rte_Put_f _ _ _ _ _ _ (by omega) (by omega) (by omega) (by decide), Option.bind_some, rte_put_get s h]
    have e : ((s.size : Int) == 20) = true := by rw [beq_iff_eq]; omega
    rw [e]
    simp only [bne_self_eq_false, Bool.false_eq_true, if_false, if_true]
    exact last
  · rw [if_neg h]
    dsimp only
    rw [rte_Put_f _ _ _ _ _ _ (by omega) (by omega) (by omega) (by decide), Option.bind_some]
    have e : ((s.size : Int) == 20) = false := by rw [beq_eq_false_iff_ne]; omega
    rw [e]
    simp only [bne_self_eq_false, Bool.false_eq_true, if_false]
    exact last

end Go.Proofs.Ytbpclinffgedjaa.Pure
