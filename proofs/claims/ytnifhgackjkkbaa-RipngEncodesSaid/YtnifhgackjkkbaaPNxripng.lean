-- Written by mp.py, a program of this work (wip/tools), out of the translation; Lean checks it.
import Derived.Test.YtnifhgackjkkbaaPNxZ
import Derived.Test.YtnifhgackjkkbaaPNxbits
import Derived.Test.YtnifhgackjkkbaaPNxoctet
import Derived.Test.YtnifhgackjkkbaaPNxstringslite
import Derived.Test.YtnifhgackjkkbaaBuild
import Derived.Test.YtnifhgackjkkbaaStore
namespace Go.Proofs.Ytnifhgackjkkbaa.PN
open Go.RowKit Go.Proofs.YtnifhgackjkkbaaW.PrintWords Go.Proofs.YtnifhgackjkkbaaW.PrintLast Go.Proofs.YtnifhgackjkkbaaW.PrintMore
attribute [local go_sem] max2_int min2_int max_two min_two max_three min_three max_four min_four   -- for this text's walks alone
set_option linter.unusedVariables false
set_option linter.unusedSimpArgs false

/-! ### ripng_head: function 17 -/
def ripng_head.j0 : Nat → ByteArray → Int → Bool → Option (Int × Int)
 | 0, _, _, _ => none
 | k + 1, x0, x4, jL => if jL = true then (some (0, 4)) else (if 1 < (x0.size : Int) then (if (bt x0 1) = 1 then (if 2 ≤ 4 then (if 4 ≤ (x0.size : Int) then ((octet_Zero.f (x0.extract 2 4)).bind fun aM => (if aM = true then (if (Int.tmod x4 20) = 4 then (some (0, 0)) else (some (x4, 2))) else (some (2, 5)))) else (none)) else (none)) else (some (1, 4))) else (none))
def ripng_head.f (k : Nat) (a0 : ByteArray) : Option (Int × Int) := if (a0.size : Int) > 65535 then (some (65535, 10)) else (if (a0.size : Int) < 4 then (some ((a0.size : Int), 2)) else (if 0 < (a0.size : Int) then (if (bt a0 0) = 1 then (ripng_head.j0 k a0 (a0.size : Int) false) else (ripng_head.j0 k a0 (a0.size : Int) ((bt a0 0) != 2))) else (none)))
theorem ripng_head.mono_l : ∀ k, (∀ y0 y1 y2, LeO (ripng_head.j0 k y0 y1 y2) (ripng_head.j0 (k + 1) y0 y1 y2))
 | 0 => Sq.mz
 | k + 1 => by
  have ih0 := ripng_head.mono_l k
  ·intros
   unfold ripng_head.j0
   exact Sq.mo
theorem ripng_head.mono : ∀ a0 k, LeO (ripng_head.f k a0) (ripng_head.f (k + 1) a0) := by
 intro a0 k
 have ih0 := ripng_head.mono_l k
 unfold ripng_head.f
 exact Sq.mo
set_option maxHeartbeats 8000000 in
set_option maxRecDepth 100000 in
theorem ripng_head.calls (k : Nat) (a0 : ByteArray) (r1 : Int) (r2 : Int) (w : World) (h : ripng_head.f k a0 = some (r1, r2)) :
  Calls Try.prog 17 #[.string a0] w fun e w' => e = .returned (.tuple #[.int .i64 r1, .int .i64 r2]) ∧ Below w.heap.size w w' := by
 have HB := Aside0.mk (Below.refl w.heap.size w)
 have H : (if (a0.size : Int) > 65535 then (some (65535, 10)) else (if (a0.size : Int) < 4 then (some ((a0.size : Int), 2)) else (if 0 < (a0.size : Int) then (if (bt a0 0) = 1 then (ripng_head.j0 k a0 (a0.size : Int) false) else (ripng_head.j0 k a0 (a0.size : Int) ((bt a0 0) != 2))) else (none)))) = some (r1, r2) := h
 clear h
 by_cases c2 : (a0.size : Int) > 65535
 ·rw [if_pos c2] at H
  have cV : decide (65535 < (a0.size : Int)) = true := decide_eq_true c2
  have dj : decide (65535 < a0.size) = true := decide_eq_true Z25
  clear c2
  simp only [Option.some.injEq, Prod.mk.injEq] at H
  obtain ⟨rfl, rfl⟩ := H
  go_enter Try.func17, Try.ntmps17
  go_wp2
  go_ret2
  exact ⟨Z2, Z0⟩
 ·rw [if_neg c2] at H
  have cV : decide (65535 < (a0.size : Int)) = false := decide_eq_false c2
  have dj : decide (65535 < a0.size) = false := decide_eq_false Z25
  clear c2
  by_cases c3 : (a0.size : Int) < 4
  ·rw [if_pos c3] at H
   have bY : decide ((a0.size : Int) < 4) = true := decide_eq_true c3
   have cE : decide (a0.size < 4) = true := decide_eq_true Z25
   clear c3
   simp only [Option.some.injEq, Prod.mk.injEq] at H
   obtain ⟨rfl, rfl⟩ := H
   go_enter Try.func17, Try.ntmps17
   go_wp2
   go_ret2
   exact ⟨Z2, Z0⟩
  ·rw [if_neg c3] at H
   have bY : decide ((a0.size : Int) < 4) = false := decide_eq_false c3
   have cE : decide (a0.size < 4) = false := decide_eq_false Z25
   clear c3
   have fV := Aside0.mk H
   clear H
   go_enter Try.func17, Try.ntmps17
   go_upto_region 6 with (fail)
   go_cut [14] (fun fp wc => ∃ (kq : Nat) (eC : Bool), fp = .bool eC ∧ Aside0 (ripng_head.j0 kq a0 (a0.size : Int) eC = some (r1, r2)) ∧ Aside0 (kq ≤ k) ∧ Aside0 (Below w.heap.size w wc))
   case first =>
    have H := fV.out
    clear fV
    by_cases c5 : 0 < (a0.size : Int)
    ·rw [if_pos c5] at H
     have cY : decide (0 < (a0.size : Int)) = true := decide_eq_true c5
     have eR : decide (0 < a0.size) = true := decide_eq_true Z25
     clear c5
     (first | rw [cY] | (simp only [i64_w, i32_w]; rw [cY]) | skip)
     by_cases c7 : (bt a0 0) = 1
     ·rw [if_pos c7] at H
      have dn : ((bt a0 0) == 1) = true := beq_iff_eq.mpr c7
      have eY : ((bt a0 0) != 1) = false := bne_eq_false_iff_eq.mpr c7
      clear c7
      have H' := Aside0.mk H
      clear H
      have p6 : 0 ≤ (0 : Int) := Z25
      have q6 : 0 < a0.size := (by have : (0 : Int) < (a0.size : Int) := of_decide_eq_true Z5; omega)
      have hx6 : ∀ h : 0 < a0.size, ((a0[0]'h).toNat : Int) = bt a0 0 := bt_at a0 0
      clear p6
      have qi6 : (0 < (a0.size : Int)) = True := eq_true (of_decide_eq_true Z5)
      replace q6 := eq_true q6
      go_wp2
      go_meet
      case rel => exact ⟨_, (false), Z7, H', ⟨Z34⟩, ⟨Z0⟩⟩
     ·rw [if_neg c7] at H
      have dn : ((bt a0 0) == 1) = false := beq_eq_false_iff_ne.mpr c7
      have eY : ((bt a0 0) != 1) = true := bne_iff_ne.mpr c7
      have H' := Aside0.mk H
      clear H
      have p6 : 0 ≤ (0 : Int) := Z25
      have q6 : 0 < a0.size := (by have : (0 : Int) < (a0.size : Int) := of_decide_eq_true Z5; omega)
      have hx6 : ∀ h : 0 < a0.size, ((a0[0]'h).toNat : Int) = bt a0 0 := bt_at a0 0
      clear p6
      have qi6 : (0 < (a0.size : Int)) = True := eq_true (of_decide_eq_true Z5)
      replace q6 := eq_true q6
      have p8 : 0 ≤ (0 : Int) := Z25
      have q8 : 0 < a0.size := (by have : (0 : Int) < (a0.size : Int) := of_decide_eq_true Z5; omega)
      have hx8 : ∀ h : 0 < a0.size, ((a0[0]'h).toNat : Int) = bt a0 0 := bt_at a0 0
      clear p8
      have qi8 : (0 < (a0.size : Int)) = True := eq_true (of_decide_eq_true Z5)
      replace q8 := eq_true q8
      go_wp2
      go_meet
      case rel => exact ⟨_, (((bt a0 0) != 2)), Z7, H', ⟨Z34⟩, ⟨Z0⟩⟩
    ·rw [if_neg c5] at H
     exact absurd H Z36
   case rest =>
    clear fV
    try clear c1
    try clear c2
    try clear cV
    try clear dj
    try clear p2
    try clear c3
    try clear bY
    try clear cE
    obtain ⟨kq, eC, rfl, HA, eZ, HB⟩ := hcut
    cases kq with
    | zero => exact absurd HA.out (by simp [ripng_head.j0])
    | succ kj3 =>
     have H := HA.out
     clear HA
     simp only [ripng_head.j0] at H
     by_cases c9 : eC = true
     ·subst c9
      have H1 : (some (0, 4)) = some (r1, r2) := by rw [if_pos rfl] at H; exact H
      clear H
      have H := H1
      clear H1
      simp only [Option.some.injEq, Prod.mk.injEq] at H
      obtain ⟨rfl, rfl⟩ := H
      go_wp2
      go_ret2
      exact ⟨Z2, Z0⟩
     ·replace c9 := Bool.eq_false_iff.mpr c9
      subst c9
      have H1 : (if 1 < (a0.size : Int) then (if (bt a0 1) = 1 then (if 2 ≤ 4 then (if 4 ≤ (a0.size : Int) then ((octet_Zero.f (a0.extract 2 4)).bind fun aM => (if aM = true then (if (Int.tmod (a0.size : Int) 20) = 4 then (some (0, 0)) else (some ((a0.size : Int), 2))) else (some (2, 5)))) else (none)) else (none)) else (some (1, 4))) else (none)) = some (r1, r2) := by rw [if_neg (show ¬ (false = true) by decide)] at H; exact H
      clear H
      have H := H1
      clear H1
      by_cases cR : 1 < (a0.size : Int)
      ·rw [if_pos cR] at H
       have dl : decide (1 < (a0.size : Int)) = true := decide_eq_true cR
       have dV : decide (1 < a0.size) = true := decide_eq_true Z25
       clear cR
       by_cases dm : (bt a0 1) = 1
       ·rw [if_pos dm] at H
        have dE : ((bt a0 1) == 1) = true := beq_iff_eq.mpr dm
        have dF : ((bt a0 1) != 1) = false := bne_eq_false_iff_eq.mpr dm
        clear dm
        by_cases eD : 2 ≤ 4
        ·rw [if_pos eD] at H
         have hu := eq_true eD
         have c13b1 : decide (2 ≤ 4) = true := decide_eq_true eD
         clear eD
         by_cases dR : 4 ≤ (a0.size : Int)
         ·rw [if_pos dR] at H
          have dW := eq_true dR
          have fa : decide (4 ≤ (a0.size : Int)) = true := decide_eq_true dR
          clear dR
          replace H := Option.bind_eq_some_iff.mp H
          obtain ⟨aM, hv, H⟩ := H
          replace H : (if aM = true then (if (Int.tmod (a0.size : Int) 20) = 4 then (some (0, 0)) else (some ((a0.size : Int), 2))) else (some (2, 5))) = some (r1, r2) := H
          have iN := Aside0.mk hv
          clear hv
          by_cases dX : aM = true
          ·subst dX
           have H1 : (if (Int.tmod (a0.size : Int) 20) = 4 then (some (0, 0)) else (some ((a0.size : Int), 2))) = some (r1, r2) := by rw [if_pos rfl] at H; exact H
           clear H
           have H := H1
           clear H1
           by_cases eE : (Int.tmod (a0.size : Int) 20) = 4
           ·rw [if_pos eE] at H
            have eF : ((Int.tmod (a0.size : Int) 20) == 4) = true := beq_iff_eq.mpr eE
            have c17b0m : (((a0.size : Int) % 20) == 4) = true := by rw [← Int.tmod_eq_emod_of_nonneg (Int.natCast_nonneg _)]; exact eF
            have eG : ((Int.tmod (a0.size : Int) 20) != 4) = false := bne_eq_false_iff_eq.mpr eE
            have c17b1m : (((a0.size : Int) % 20) != 4) = false := by rw [← Int.tmod_eq_emod_of_nonneg (Int.natCast_nonneg _)]; exact eG
            clear eE
            simp only [Option.some.injEq, Prod.mk.injEq] at H
            obtain ⟨rfl, rfl⟩ := H
            have p11 : 0 ≤ (1 : Int) := Z25
            have q11 : 1 < a0.size := (by have : (1 : Int) < (a0.size : Int) := of_decide_eq_true Z5; omega)
            have hx11 : ∀ h : 1 < a0.size, ((a0[1]'h).toNat : Int) = bt a0 1 := bt_at a0 1
            clear p11
            have qi11 : (1 < (a0.size : Int)) = True := eq_true (of_decide_eq_true Z5)
            replace q11 := eq_true q11
            go_wp2_with (first | ((with_reducible refine gate_callee (f := 35) rfl ?_); refine goesL_ (some 30) rfl rfl Try.func35 Z16 rfl #[.string (a0.extract 2 4)] rfl Z4 ?_; (with_reducible refine (octet_Zero.calls (a0.extract 2 4) true _ iN.out).mono ?_); rintro e jM ⟨rfl, hb⟩; refine ⟨_, rfl, ?_⟩; replace HB := Aside0.mk (below_step Z0 hb); clear hb))
            go_ret2
            exact ⟨Z2, Z0⟩
           ·rw [if_neg eE] at H
            have eF : ((Int.tmod (a0.size : Int) 20) == 4) = false := beq_eq_false_iff_ne.mpr eE
            have c17b0m : (((a0.size : Int) % 20) == 4) = false := by rw [← Int.tmod_eq_emod_of_nonneg (Int.natCast_nonneg _)]; exact eF
            have eG : ((Int.tmod (a0.size : Int) 20) != 4) = true := bne_iff_ne.mpr eE
            have c17b1m : (((a0.size : Int) % 20) != 4) = true := by rw [← Int.tmod_eq_emod_of_nonneg (Int.natCast_nonneg _)]; exact eG
            simp only [Option.some.injEq, Prod.mk.injEq] at H
            obtain ⟨rfl, rfl⟩ := H
            have p11 : 0 ≤ (1 : Int) := Z25
            have q11 : 1 < a0.size := (by have : (1 : Int) < (a0.size : Int) := of_decide_eq_true Z5; omega)
            have hx11 : ∀ h : 1 < a0.size, ((a0[1]'h).toNat : Int) = bt a0 1 := bt_at a0 1
            clear p11
            have qi11 : (1 < (a0.size : Int)) = True := eq_true (of_decide_eq_true Z5)
            replace q11 := eq_true q11
            go_wp2_with (first | ((with_reducible refine gate_callee (f := 35) rfl ?_); refine goesL_ (some 30) rfl rfl Try.func35 Z16 rfl #[.string (a0.extract 2 4)] rfl Z4 ?_; (with_reducible refine (octet_Zero.calls (a0.extract 2 4) true _ iN.out).mono ?_); rintro e jy ⟨rfl, hb⟩; refine ⟨_, rfl, ?_⟩; replace HB := Aside0.mk (below_step Z0 hb); clear hb))
            go_ret2
            exact ⟨Z2, Z0⟩
          ·replace dX := Bool.eq_false_iff.mpr dX
           subst dX
           have H1 : (some (2, 5)) = some (r1, r2) := by rw [if_neg (show ¬ (false = true) by decide)] at H; exact H
           clear H
           have H := H1
           clear H1
           simp only [Option.some.injEq, Prod.mk.injEq] at H
           obtain ⟨rfl, rfl⟩ := H
           have p11 : 0 ≤ (1 : Int) := Z25
           have q11 : 1 < a0.size := (by have : (1 : Int) < (a0.size : Int) := of_decide_eq_true Z5; omega)
           have hx11 : ∀ h : 1 < a0.size, ((a0[1]'h).toNat : Int) = bt a0 1 := bt_at a0 1
           clear p11
           have qi11 : (1 < (a0.size : Int)) = True := eq_true (of_decide_eq_true Z5)
           replace q11 := eq_true q11
           go_wp2_with (first | ((with_reducible refine gate_callee (f := 35) rfl ?_); refine goesL_ (some 30) rfl rfl Try.func35 Z16 rfl #[.string (a0.extract 2 4)] rfl Z4 ?_; (with_reducible refine (octet_Zero.calls (a0.extract 2 4) false _ iN.out).mono ?_); rintro e jN ⟨rfl, hb⟩; refine ⟨_, rfl, ?_⟩; replace HB := Aside0.mk (below_step Z0 hb); clear hb))
           go_ret2
           exact ⟨Z2, Z0⟩
         ·rw [if_neg dR] at H
          exact absurd H Z36
        ·rw [if_neg eD] at H
         exact absurd H Z36
       ·rw [if_neg dm] at H
        have dE : ((bt a0 1) == 1) = false := beq_eq_false_iff_ne.mpr dm
        have dF : ((bt a0 1) != 1) = true := bne_iff_ne.mpr dm
        simp only [Option.some.injEq, Prod.mk.injEq] at H
        obtain ⟨rfl, rfl⟩ := H
        have p11 : 0 ≤ (1 : Int) := Z25
        have q11 : 1 < a0.size := (by have : (1 : Int) < (a0.size : Int) := of_decide_eq_true Z5; omega)
        have hx11 : ∀ h : 1 < a0.size, ((a0[1]'h).toNat : Int) = bt a0 1 := bt_at a0 1
        clear p11
        have qi11 : (1 < (a0.size : Int)) = True := eq_true (of_decide_eq_true Z5)
        replace q11 := eq_true q11
        go_wp2
        go_ret2
        exact ⟨Z2, Z0⟩
      ·rw [if_neg cR] at H
       exact absurd H Z36

/-! ### ripng_reader_hop: function 36 -/
/-- What a reader makes of an entry of a next hop: why not, and which next hop holds. -/
def ripng_reader_hop.f (nx : ByteArray) (b0 b1 : Int) (b2 b3 b4 : ByteArray) (b5 : Int) : Option (Int × ByteArray) := if (Go.bits .or .i64 b1 b0) = 0 then (octet_Zeros.f 16).bind fun z => (addr_Link.f b2).bind fun l => some (0, if l = true then b2 else z) else some (5, nx)
set_option maxHeartbeats 8000000 in
set_option maxRecDepth 100000 in
theorem ripng_reader_hop.calls (g : Nat) (cm : Int) (nx : ByteArray) (u : Value) (xs : List S34) (b0 b1 : Int) (b2 b3 b4 : ByteArray) (b5 : Int) (e1 : Int) (ny : ByteArray) (w0 w : World) (hB : Below w0.heap.size w0 w) (hg : w0.heap.size ≤ g) (hK : w.heap[g]? = some (.cells #[.int .i64 cm, .string nx, u] 45 (0, 0))) (hR : Kd.S k34 34 w w0.heap.size (fun _ => True) u xs) (h : ripng_reader_hop.f nx b0 b1 b2 b3 b4 b5 = some (e1, ny)) :
  Calls Try.prog 36 #[.pointer (some ⟨g, 0, none⟩), .agg #[.int .i64 b0, .int .i64 b1, .string b2, .string b3, .string b4, .int .i64 b5]] w fun e w' => e = .returned (.int .i64 e1) ∧ w'.heap[g]? = some (.cells #[.int .i64 cm, .string ny, u] 45 (0, 0)) ∧ Kd.S k34 34 w' w0.heap.size (fun _ => True) u xs ∧ Below w0.heap.size w0 w' := by
 have hu45 := Try.underlying45
 have fW := Try.underlying47
 unfold ripng_reader_hop.f at h
 have HB := Aside0.mk hB
 have GE0 := Aside0.mk hg
 have BK0 := Aside0.mk hK
 have HO := Aside0.mk hR
 clear hB hg hK hR
 by_cases c : (Go.bits .or .i64 b1 b0) = 0
 ·rw [if_pos c] at h
  have c0 : ((Go.bits .or .i64 b1 b0) == 0) = true := beq_iff_eq.mpr c
  have c1 : ((Go.bits .or .i64 b1 b0) != 0) = false := bne_eq_false_iff_eq.mpr c
  clear c
  obtain ⟨z, h1, h3⟩ := Option.bind_eq_some_iff.mp h
  obtain ⟨l, h2, h4⟩ := Option.bind_eq_some_iff.mp h3
  have A1 := Aside0.mk h1
  have A2 := Aside0.mk h2
  clear h h1 h2 h3
  simp only [Option.some.injEq, Prod.mk.injEq] at h4
  obtain ⟨rfl, h5⟩ := h4
  cases l with
  | true =>
   rw [if_pos rfl] at h5
   subst h5
   go_enter Try.func36, Try.ntmps36
   go_wp2_with (first | ((with_reducible refine gate_dst (N := 3) rfl ?_); refine Sq.box 3 #[.int .i64 b0, .int .i64 b1, .string b2, .string b3, .string b4, .int .i64 b5] 47 ?_; intro gb hg w7 hbox hb; have cQ := Aside0.mk (Kd.S_below (by (with_reducible repeat (first | apply Kd.S_alloc | apply Kd.S_drewN | apply Kd.S_drew)); exact HO.out) hb); have de := Aside0.mk (blk_below (g := g) (by (with_reducible repeat (first | refine blk_drewN ?_ _ | refine blk_drew ?_ | refine blk_alloc ?_ _)); exact BK0.out) hb); have eH := Aside0.mk (below_step (by repeat (first | (with_reducible first | exact HB.out | apply below_alloc | apply pw_below_drewN | apply below_drew1 | refine below_set ?_ GE0.out) | exact HB.out)) hb); have BK1 := Aside0.mk hbox; have GE1 := Aside0.mk ((by rw [hg]; exact below_size HB.out) : w0.heap.size ≤ gb); have NB := Aside0.mk ((by rw [hg]; exact Nat.ne_of_lt (blk_lt BK0.out)) : g ≠ gb); clear HO BK0 HB hbox hg hb; have HO := cQ; have BK0 := de; have HB := eH; clear cQ de eH; have hz0 := (blk_cell BK1.out 0).trans rfl; have hz1 := (blk_cell BK1.out 1).trans rfl; have hz2 := (blk_cell BK1.out 2).trans rfl; have hz3 := (blk_cell BK1.out 3).trans rfl; have hz4 := (blk_cell BK1.out 4).trans rfl; have hz5 := (blk_cell BK1.out 5).trans rfl) | ((with_reducible refine gate_callee (f := 18) rfl ?_); refine goesL_ (some 12) rfl rfl Try.func18 Z16 rfl #[.int .i64 16] rfl (by (try simp only [List.map_toArray, List.map_cons, List.map_nil]); first | done | rfl) ?_; (with_reducible refine (octet_Zeros.calls 16 z _ A1.out).mono ?_); rintro e jH ⟨rfl, hb⟩; refine ⟨_, rfl, ?_⟩; have cQ := Aside0.mk (Kd.S_below (by (with_reducible repeat (first | apply Kd.S_alloc | apply Kd.S_drewN | apply Kd.S_drew)); exact HO.out) hb); have de := Aside0.mk (blk_below (g := g) (by (with_reducible repeat (first | refine blk_drewN ?_ _ | refine blk_drew ?_ | refine blk_alloc ?_ _)); exact BK0.out) hb); have eH := Aside0.mk (blk_below (g := gb) (by (with_reducible repeat (first | refine blk_drewN ?_ _ | refine blk_drew ?_ | refine blk_alloc ?_ _)); exact BK1.out) hb); have n3_ := Aside0.mk (below_step (by repeat (first | (with_reducible first | exact HB.out | apply below_alloc | apply pw_below_drewN | apply below_drew1 | refine below_set ?_ GE0.out) | exact HB.out)) hb); clear HO BK0 BK1 HB hz0 hz1 hz2 hz3 hz4 hz5 hb; have HO := cQ; have BK0 := de; have BK1 := eH; have HB := n3_; clear cQ de eH n3_; have hz0 := (blk_cell BK1.out 0).trans rfl; have hz1 := (blk_cell BK1.out 1).trans rfl; have hz2 := (blk_cell BK1.out 2).trans rfl; have hz3 := (blk_cell BK1.out 3).trans rfl; have hz4 := (blk_cell BK1.out 4).trans rfl; have hz5 := (blk_cell BK1.out 5).trans rfl; have hg1 := (blk_cell BK0.out 1).trans rfl; have hq1 := blk_frozen BK0.out 1) | ((with_reducible refine gate_callee (f := 30) rfl ?_); refine goesL_ (some 17) rfl rfl Try.func30 Z16 rfl #[.string b2] rfl (by (try simp only [List.map_toArray, List.map_cons, List.map_nil]); first | done | rfl) ?_; (with_reducible refine (addr_Link.calls b2 true _ A2.out).mono ?_); rintro e jH ⟨rfl, ⟨nd, rfl⟩⟩; refine ⟨_, rfl, ?_⟩; skip))
   go_ret
   exact ⟨rfl, (by (with_reducible repeat (first | refine blk_drewN ?_ _ | refine blk_drew ?_ | refine blk_alloc ?_ _)); refine blk_put (cs := #[.int .i64 cm, .string z, u]) ?_ 1 _ rfl; (with_reducible repeat (first | refine blk_drewN ?_ _ | refine blk_drew ?_ | refine blk_alloc ?_ _)); refine blk_put (cs := #[.int .i64 cm, .string nx, u]) ?_ 1 _ rfl; (with_reducible repeat (first | refine blk_drewN ?_ _ | refine blk_drew ?_ | refine blk_alloc ?_ _)); exact BK0.out), (by refine Kd.S_mono (ok := fun k => True ∧ k ≠ g) ?_ (fun _ _ => trivial); repeat (first | exact Kd.S_types HO.out BK0.out Z18 | refine Kd.S_far ?_ (fun _ hk => hk.2) _ | (with_reducible refine Kd.S_drewN ?_ _) | (with_reducible refine Kd.S_drew ?_) | (with_reducible refine Kd.S_alloc ?_ _))), (by repeat (first | (with_reducible first | exact HB.out | apply below_alloc | apply pw_below_drewN | apply below_drew1 | refine below_set ?_ GE0.out) | exact HB.out))⟩
  | false =>
   rw [if_neg Z18] at h5
   subst h5
   go_enter Try.func36, Try.ntmps36
   go_wp2_with (first | ((with_reducible refine gate_dst (N := 3) rfl ?_); refine Sq.box 3 #[.int .i64 b0, .int .i64 b1, .string b2, .string b3, .string b4, .int .i64 b5] 47 ?_; intro gb hg w7 hbox hb; have cQ := Aside0.mk (Kd.S_below (by (with_reducible repeat (first | apply Kd.S_alloc | apply Kd.S_drewN | apply Kd.S_drew)); exact HO.out) hb); have de := Aside0.mk (blk_below (g := g) (by (with_reducible repeat (first | refine blk_drewN ?_ _ | refine blk_drew ?_ | refine blk_alloc ?_ _)); exact BK0.out) hb); have eH := Aside0.mk (below_step (by repeat (first | (with_reducible first | exact HB.out | apply below_alloc | apply pw_below_drewN | apply below_drew1 | refine below_set ?_ GE0.out) | exact HB.out)) hb); have BK1 := Aside0.mk hbox; have GE1 := Aside0.mk ((by rw [hg]; exact below_size HB.out) : w0.heap.size ≤ gb); have NB := Aside0.mk ((by rw [hg]; exact Nat.ne_of_lt (blk_lt BK0.out)) : g ≠ gb); clear HO BK0 HB hbox hg hb; have HO := cQ; have BK0 := de; have HB := eH; clear cQ de eH; have hz0 := (blk_cell BK1.out 0).trans rfl; have hz1 := (blk_cell BK1.out 1).trans rfl; have hz2 := (blk_cell BK1.out 2).trans rfl; have hz3 := (blk_cell BK1.out 3).trans rfl; have hz4 := (blk_cell BK1.out 4).trans rfl; have hz5 := (blk_cell BK1.out 5).trans rfl) | ((with_reducible refine gate_callee (f := 18) rfl ?_); refine goesL_ (some 12) rfl rfl Try.func18 Z16 rfl #[.int .i64 16] rfl (by (try simp only [List.map_toArray, List.map_cons, List.map_nil]); first | done | rfl) ?_; (with_reducible refine (octet_Zeros.calls 16 z _ A1.out).mono ?_); rintro e jH ⟨rfl, hb⟩; refine ⟨_, rfl, ?_⟩; have cQ := Aside0.mk (Kd.S_below (by (with_reducible repeat (first | apply Kd.S_alloc | apply Kd.S_drewN | apply Kd.S_drew)); exact HO.out) hb); have de := Aside0.mk (blk_below (g := g) (by (with_reducible repeat (first | refine blk_drewN ?_ _ | refine blk_drew ?_ | refine blk_alloc ?_ _)); exact BK0.out) hb); have eH := Aside0.mk (blk_below (g := gb) (by (with_reducible repeat (first | refine blk_drewN ?_ _ | refine blk_drew ?_ | refine blk_alloc ?_ _)); exact BK1.out) hb); have n3_ := Aside0.mk (below_step (by repeat (first | (with_reducible first | exact HB.out | apply below_alloc | apply pw_below_drewN | apply below_drew1 | refine below_set ?_ GE0.out) | exact HB.out)) hb); clear HO BK0 BK1 HB hz0 hz1 hz2 hz3 hz4 hz5 hb; have HO := cQ; have BK0 := de; have BK1 := eH; have HB := n3_; clear cQ de eH n3_; have hz0 := (blk_cell BK1.out 0).trans rfl; have hz1 := (blk_cell BK1.out 1).trans rfl; have hz2 := (blk_cell BK1.out 2).trans rfl; have hz3 := (blk_cell BK1.out 3).trans rfl; have hz4 := (blk_cell BK1.out 4).trans rfl; have hz5 := (blk_cell BK1.out 5).trans rfl; have hg1 := (blk_cell BK0.out 1).trans rfl; have hq1 := blk_frozen BK0.out 1) | ((with_reducible refine gate_callee (f := 30) rfl ?_); refine goesL_ (some 17) rfl rfl Try.func30 Z16 rfl #[.string b2] rfl (by (try simp only [List.map_toArray, List.map_cons, List.map_nil]); first | done | rfl) ?_; (with_reducible refine (addr_Link.calls b2 false _ A2.out).mono ?_); rintro e jH ⟨rfl, ⟨nd, rfl⟩⟩; refine ⟨_, rfl, ?_⟩; skip))
   go_ret
   exact ⟨rfl, (by (with_reducible repeat (first | refine blk_drewN ?_ _ | refine blk_drew ?_ | refine blk_alloc ?_ _)); refine blk_put (cs := #[.int .i64 cm, .string nx, u]) ?_ 1 _ rfl; (with_reducible repeat (first | refine blk_drewN ?_ _ | refine blk_drew ?_ | refine blk_alloc ?_ _)); exact BK0.out), (by refine Kd.S_mono (ok := fun k => True ∧ k ≠ g) ?_ (fun _ _ => trivial); repeat (first | exact Kd.S_types HO.out BK0.out Z18 | refine Kd.S_far ?_ (fun _ hk => hk.2) _ | (with_reducible refine Kd.S_drewN ?_ _) | (with_reducible refine Kd.S_drew ?_) | (with_reducible refine Kd.S_alloc ?_ _))), (by repeat (first | (with_reducible first | exact HB.out | apply below_alloc | apply pw_below_drewN | apply below_drew1 | refine below_set ?_ GE0.out) | exact HB.out))⟩
 ·rw [if_neg c] at h
  have c0 : ((Go.bits .or .i64 b1 b0) == 0) = false := beq_eq_false_iff_ne.mpr c
  have c1 : ((Go.bits .or .i64 b1 b0) != 0) = true := bne_iff_ne.mpr c
  simp only [Option.some.injEq, Prod.mk.injEq] at h
  obtain ⟨rfl, rfl⟩ := h
  go_enter Try.func36, Try.ntmps36
  go_wp2_with (first | ((with_reducible refine gate_dst (N := 3) rfl ?_); refine Sq.box 3 #[.int .i64 b0, .int .i64 b1, .string b2, .string b3, .string b4, .int .i64 b5] 47 ?_; intro gb hg w7 hbox hb; have cQ := Aside0.mk (Kd.S_below (by (with_reducible repeat (first | apply Kd.S_alloc | apply Kd.S_drewN | apply Kd.S_drew)); exact HO.out) hb); have de := Aside0.mk (blk_below (g := g) (by (with_reducible repeat (first | refine blk_drewN ?_ _ | refine blk_drew ?_ | refine blk_alloc ?_ _)); exact BK0.out) hb); have eH := Aside0.mk (below_step (by repeat (first | (with_reducible first | exact HB.out | apply below_alloc | apply pw_below_drewN | apply below_drew1 | refine below_set ?_ GE0.out) | exact HB.out)) hb); have BK1 := Aside0.mk hbox; have GE1 := Aside0.mk ((by rw [hg]; exact below_size HB.out) : w0.heap.size ≤ gb); have NB := Aside0.mk ((by rw [hg]; exact Nat.ne_of_lt (blk_lt BK0.out)) : g ≠ gb); clear HO BK0 HB hbox hg hb; have HO := cQ; have BK0 := de; have HB := eH; clear cQ de eH; have hz0 := (blk_cell BK1.out 0).trans rfl; have hz1 := (blk_cell BK1.out 1).trans rfl; have hz2 := (blk_cell BK1.out 2).trans rfl; have hz3 := (blk_cell BK1.out 3).trans rfl; have hz4 := (blk_cell BK1.out 4).trans rfl; have hz5 := (blk_cell BK1.out 5).trans rfl))
  go_ret
  exact ⟨rfl, (by (with_reducible repeat (first | refine blk_drewN ?_ _ | refine blk_drew ?_ | refine blk_alloc ?_ _)); exact BK0.out), (by (with_reducible repeat (first | apply Kd.S_alloc | apply Kd.S_drewN | apply Kd.S_drew)); exact HO.out), (by repeat (first | (with_reducible first | exact HB.out | apply below_alloc | apply pw_below_drewN | apply below_drew1 | refine below_set ?_ GE0.out) | exact HB.out))⟩

/-! ### ripng_reader_entry: function 20 -/
def ripng_reader_entry.T7 : Bool × List (List Nat × List Nat) := (true, [([], []), ([], []), ([1], [1]), ([2], [2]), ([3], [3]), ([], []), ([5], [5]), ([6], [6]), ([7], [7]), ([], []), ([9], [9]), ([], []), ([11], [11]), ([], []), ([13], [13]), ([], []), ([15], [15]), ([16], [16]), ([17], [17]), ([], []), ([19], [19]), ([8, 10, 12, 14, 18, 20], [8, 10, 12, 14, 18, 20]), ([21], [21]), ([4, 22], [4, 22]), ([0, 0, 1, 2, 3, 4, 5, 6, 7, 8, 9, 10, 11, 12, 13, 14, 15, 16, 17, 18, 19, 20, 21, 22, 23], [0]), ([24, 0, 1, 2, 3, 4, 5, 6, 7, 8, 9, 10, 11, 12, 13, 14, 15, 16, 17, 18, 19, 20, 21, 22, 23], [24]), ([25, 23, 23, 0, 1, 2, 3, 4, 5, 6, 7, 8, 9, 10, 11, 12, 13, 14, 15, 16, 17, 18, 19, 20, 21, 22, 23], [23, 25])])
def ripng_reader_entry.B7 : List Nat := [0, 0, 2, 6, 14, 0, 32, 96, 224, 0, 512, 0, 2048, 0, 8192, 0, 32768, 98304, 229376, 0, 524288, 2097120, 4194272, 8388606, 16777215, 33554431, 67108863]
theorem ripng_reader_entry.tab7 : rtab .any (opsOf Try.f20 7) = ripng_reader_entry.T7 := by kernel_rfl
theorem ripng_reader_entry.bits7 : waitsOk ripng_reader_entry.T7.2 ripng_reader_entry.B7 = true := by kernel_rfl
set_option maxRecDepth 100000 in
theorem ripng_reader_entry.bd49 (v1 v8 : Int) (v6 : ByteArray) (v7 : Int) (v9 : ByteArray) (fe : Int) : Try.prog.built 34 [(0, .int .i64 2), (1, .int .i64 v1), (8, .int .i64 v8), (6, .string v6), (7, .int .i64 v7), (9, .string v9), (10, .int .i64 fe)] = some #[.int .i64 2, .int .i64 v1, .int .i64 0, .string ⟨#[]⟩, .int .i64 0, .int .i64 0, .string v6, .int .i64 v7, .int .i64 v8, .string v9, .int .i64 fe, .string ⟨#[]⟩, .int .i64 0, .int .i64 0, .int .i64 0, .int .i64 0, .int .i64 0, .int .i64 0, .int .i64 0, .string ⟨#[]⟩, .string ⟨#[]⟩, .slice none 0 0, .int .i64 0, .string ⟨#[]⟩, .slice none 0 0] := by kernel_rfl
/-- What a reader makes of an entry: why not, which next hop holds, and the routes. -/
def ripng_reader_entry.f (cm : Int) (nx : ByteArray) (xs : List S34) (b0 b1 : Int) (b2 b3 b4 : ByteArray) (b5 : Int) : Option (Int × ByteArray × List S34) :=
 if b5 = 255 then (ripng_reader_hop.f nx b0 b1 b2 b3 b4 b5).bind fun r => some (r.1, r.2, xs)
 else (prefix_Right.f b2 b0).bind fun p => if p = true then (if b5 < 1 then some (6, nx, xs) else if b5 > 16 then some (6, nx, xs) else if xs.length < 488671834567 then some (0, nx, xs ++ [(⟨2, cm, 0, ⟨#[]⟩, 0, 0, b2, b0, b1, nx, b5, ⟨#[]⟩, 0, 0, 0, 0, 0, 0, 0, ⟨#[]⟩, ⟨#[]⟩, [], 0, ⟨#[]⟩, []⟩ : S34)]) else none) else some (7, nx, xs)
set_option maxHeartbeats 8000000 in
set_option maxRecDepth 100000 in
theorem ripng_reader_entry.calls (g : Nat) (cm : Int) (nx : ByteArray) (u : Value) (xs : List S34) (b0 b1 : Int) (b2 b3 b4 : ByteArray) (b5 : Int) (e1 : Int) (ny : ByteArray) (ys : List S34) (w0 w : World) (hB : Below w0.heap.size w0 w) (hg : w0.heap.size ≤ g) (hK : w.heap[g]? = some (.cells #[.int .i64 cm, .string nx, u] 45 (0, 0))) (hR : Kd.S k34 34 w w0.heap.size (fun _ => True) u xs) (h : ripng_reader_entry.f cm nx xs b0 b1 b2 b3 b4 b5 = some (e1, ny, ys)) :
  Calls Try.prog 20 #[.pointer (some ⟨g, 0, none⟩), .agg #[.int .i64 b0, .int .i64 b1, .string b2, .string b3, .string b4, .int .i64 b5]] w fun e w' => e = .returned (.int .i64 e1) ∧ ∃ u', w'.heap[g]? = some (.cells #[.int .i64 cm, .string ny, u'] 45 (0, 0)) ∧ Kd.S k34 34 w' w0.heap.size (fun _ => True) u' ys ∧ Below w0.heap.size w0 w' := by
 have hu45 := Try.underlying45
 have fW := Try.underlying47
 unfold ripng_reader_entry.f at h
 have HB := Aside0.mk hB
 have GE0 := Aside0.mk hg
 have BK0 := Aside0.mk hK
 have HO := Aside0.mk hR
 clear hB hg hK hR
 by_cases c5 : b5 = 255
 ·rw [if_pos c5] at h
  have d0 : (b5 == 255) = true := beq_iff_eq.mpr c5
  clear c5
  obtain ⟨⟨r1, r2⟩, h1, h2⟩ := Option.bind_eq_some_iff.mp h
  have A1 := Aside0.mk h1
  clear h h1
  simp only [Option.some.injEq, Prod.mk.injEq] at h2
  obtain ⟨rfl, rfl, rfl⟩ := h2
  go_enter Try.func20, Try.ntmps20
  go_wp2_with (first | ((with_reducible refine gate_dst (N := 3) rfl ?_); refine Sq.box 3 #[.int .i64 b0, .int .i64 b1, .string b2, .string b3, .string b4, .int .i64 b5] 47 ?_; intro gb hg w7 hbox hb; have cQ := Aside0.mk (Kd.S_below (by (with_reducible repeat (first | apply Kd.S_alloc | apply Kd.S_drewN | apply Kd.S_drew)); exact HO.out) hb); have de := Aside0.mk (blk_below (g := g) (by (with_reducible repeat (first | refine blk_drewN ?_ _ | refine blk_drew ?_ | refine blk_alloc ?_ _)); exact BK0.out) hb); have eH := Aside0.mk (below_step (by repeat (first | (with_reducible first | exact HB.out | apply below_alloc | apply pw_below_drewN | apply below_drew1 | refine below_set ?_ GE0.out) | exact HB.out)) hb); have BK1 := Aside0.mk hbox; have GE1 := Aside0.mk ((by rw [hg]; exact below_size HB.out) : w0.heap.size ≤ gb); have NB := Aside0.mk ((by rw [hg]; exact Nat.ne_of_lt (blk_lt BK0.out)) : g ≠ gb); clear HO BK0 HB hbox hg hb; have HO := cQ; have BK0 := de; have HB := eH; clear cQ de eH; have hz0 := (blk_cell BK1.out 0).trans rfl; have hz1 := (blk_cell BK1.out 1).trans rfl; have hz2 := (blk_cell BK1.out 2).trans rfl; have hz3 := (blk_cell BK1.out 3).trans rfl; have hz4 := (blk_cell BK1.out 4).trans rfl; have hz5 := (blk_cell BK1.out 5).trans rfl) | ((with_reducible refine gate_callee (f := 36) rfl ?_); refine goesL_ (some 11) rfl rfl Try.func36 Z16 rfl #[.pointer (some ⟨g, 0, none⟩), .agg #[.int .i64 b0, .int .i64 b1, .string b2, .string b3, .string b4, .int .i64 b5]] rfl (by (try simp only [List.map_toArray, List.map_cons, List.map_nil]); first | done | rfl) ?_; (with_reducible refine (ripng_reader_hop.calls g cm nx u xs b0 b1 b2 b3 b4 b5 r1 r2 w0 _ (by repeat (first | (with_reducible first | exact HB.out | apply below_alloc | apply pw_below_drewN | apply below_drew1 | refine below_set ?_ GE0.out) | exact HB.out)) GE0.out (by (with_reducible repeat (first | refine blk_drewN ?_ _ | refine blk_drew ?_ | refine blk_alloc ?_ _)); exact BK0.out) (by (with_reducible repeat (first | apply Kd.S_alloc | apply Kd.S_drewN | apply Kd.S_drew)); exact HO.out) A1.out).mono ?_); rintro e jH ⟨rfl, hk, hr, hb⟩; refine ⟨_, rfl, ?_⟩; have KX := Aside0.mk (And.intro hk (And.intro hr hb)); clear hk hr hb))
  go_ret
  exact ⟨rfl, u, KX.out.1, KX.out.2.1, KX.out.2.2⟩
 ·rw [if_neg c5] at h
  have d0 : (b5 == 255) = false := beq_eq_false_iff_ne.mpr c5
  clear c5
  obtain ⟨p, h1, h2⟩ := Option.bind_eq_some_iff.mp h
  have A1 := Aside0.mk h1
  clear h h1
  by_cases cp : p = true
  ·subst cp
   rw [if_pos rfl] at h2
   by_cases c1 : b5 < 1
   ·rw [if_pos c1] at h2
    have d1 : decide (b5 < 1) = true := decide_eq_true c1
    simp only [Option.some.injEq, Prod.mk.injEq] at h2
    obtain ⟨rfl, rfl, rfl⟩ := h2
    go_enter Try.func20, Try.ntmps20
    go_wp2_with (first | ((with_reducible refine gate_dst (N := 3) rfl ?_); refine Sq.box 3 #[.int .i64 b0, .int .i64 b1, .string b2, .string b3, .string b4, .int .i64 b5] 47 ?_; intro gb hg w7 hbox hb; have cQ := Aside0.mk (Kd.S_below (by (with_reducible repeat (first | apply Kd.S_alloc | apply Kd.S_drewN | apply Kd.S_drew)); exact HO.out) hb); have de := Aside0.mk (blk_below (g := g) (by (with_reducible repeat (first | refine blk_drewN ?_ _ | refine blk_drew ?_ | refine blk_alloc ?_ _)); exact BK0.out) hb); have eH := Aside0.mk (below_step (by repeat (first | (with_reducible first | exact HB.out | apply below_alloc | apply pw_below_drewN | apply below_drew1 | refine below_set ?_ GE0.out) | exact HB.out)) hb); have BK1 := Aside0.mk hbox; have GE1 := Aside0.mk ((by rw [hg]; exact below_size HB.out) : w0.heap.size ≤ gb); have NB := Aside0.mk ((by rw [hg]; exact Nat.ne_of_lt (blk_lt BK0.out)) : g ≠ gb); clear HO BK0 HB hbox hg hb; have HO := cQ; have BK0 := de; have HB := eH; clear cQ de eH; have hz0 := (blk_cell BK1.out 0).trans rfl; have hz1 := (blk_cell BK1.out 1).trans rfl; have hz2 := (blk_cell BK1.out 2).trans rfl; have hz3 := (blk_cell BK1.out 3).trans rfl; have hz4 := (blk_cell BK1.out 4).trans rfl; have hz5 := (blk_cell BK1.out 5).trans rfl) | ((with_reducible refine gate_callee (f := 29) rfl ?_); refine goesL_ (some 17) rfl rfl Try.func29 Z16 rfl #[.string b2, .int .i64 b0] rfl (by (try simp only [List.map_toArray, List.map_cons, List.map_nil]); first | done | rfl) ?_; (with_reducible refine (prefix_Right.calls b2 b0 true _ A1.out).mono ?_); rintro e jH ⟨rfl, hb⟩; refine ⟨_, rfl, ?_⟩; have cQ := Aside0.mk (Kd.S_below (by (with_reducible repeat (first | apply Kd.S_alloc | apply Kd.S_drewN | apply Kd.S_drew)); exact HO.out) hb); have de := Aside0.mk (blk_below (g := g) (by (with_reducible repeat (first | refine blk_drewN ?_ _ | refine blk_drew ?_ | refine blk_alloc ?_ _)); exact BK0.out) hb); have eH := Aside0.mk (blk_below (g := gb) (by (with_reducible repeat (first | refine blk_drewN ?_ _ | refine blk_drew ?_ | refine blk_alloc ?_ _)); exact BK1.out) hb); have n3_ := Aside0.mk (below_step (by repeat (first | (with_reducible first | exact HB.out | apply below_alloc | apply pw_below_drewN | apply below_drew1 | refine below_set ?_ GE0.out) | exact HB.out)) hb); clear HO BK0 BK1 HB hz0 hz1 hz2 hz3 hz4 hz5 hb; have HO := cQ; have BK0 := de; have BK1 := eH; have HB := n3_; clear cQ de eH n3_; have hz0 := (blk_cell BK1.out 0).trans rfl; have hz1 := (blk_cell BK1.out 1).trans rfl; have hz2 := (blk_cell BK1.out 2).trans rfl; have hz3 := (blk_cell BK1.out 3).trans rfl; have hz4 := (blk_cell BK1.out 4).trans rfl; have hz5 := (blk_cell BK1.out 5).trans rfl))
    go_ret
    exact ⟨rfl, u, (by (with_reducible repeat (first | refine blk_drewN ?_ _ | refine blk_drew ?_ | refine blk_alloc ?_ _)); exact BK0.out), (by (with_reducible repeat (first | apply Kd.S_alloc | apply Kd.S_drewN | apply Kd.S_drew)); exact HO.out), (by repeat (first | (with_reducible first | exact HB.out | apply below_alloc | apply pw_below_drewN | apply below_drew1 | refine below_set ?_ GE0.out) | exact HB.out))⟩
   rw [if_neg c1] at h2
   have d1 : decide (b5 < 1) = false := decide_eq_false c1
   by_cases c2 : b5 > 16
   ·rw [if_pos c2] at h2
    have d2 : decide (b5 > 16) = true := decide_eq_true c2
    have d3 : decide (16 < b5) = true := decide_eq_true c2
    simp only [Option.some.injEq, Prod.mk.injEq] at h2
    obtain ⟨rfl, rfl, rfl⟩ := h2
    go_enter Try.func20, Try.ntmps20
    go_wp2_with (first | ((with_reducible refine gate_dst (N := 3) rfl ?_); refine Sq.box 3 #[.int .i64 b0, .int .i64 b1, .string b2, .string b3, .string b4, .int .i64 b5] 47 ?_; intro gb hg w7 hbox hb; have cQ := Aside0.mk (Kd.S_below (by (with_reducible repeat (first | apply Kd.S_alloc | apply Kd.S_drewN | apply Kd.S_drew)); exact HO.out) hb); have de := Aside0.mk (blk_below (g := g) (by (with_reducible repeat (first | refine blk_drewN ?_ _ | refine blk_drew ?_ | refine blk_alloc ?_ _)); exact BK0.out) hb); have eH := Aside0.mk (below_step (by repeat (first | (with_reducible first | exact HB.out | apply below_alloc | apply pw_below_drewN | apply below_drew1 | refine below_set ?_ GE0.out) | exact HB.out)) hb); have BK1 := Aside0.mk hbox; have GE1 := Aside0.mk ((by rw [hg]; exact below_size HB.out) : w0.heap.size ≤ gb); have NB := Aside0.mk ((by rw [hg]; exact Nat.ne_of_lt (blk_lt BK0.out)) : g ≠ gb); clear HO BK0 HB hbox hg hb; have HO := cQ; have BK0 := de; have HB := eH; clear cQ de eH; have hz0 := (blk_cell BK1.out 0).trans rfl; have hz1 := (blk_cell BK1.out 1).trans rfl; have hz2 := (blk_cell BK1.out 2).trans rfl; have hz3 := (blk_cell BK1.out 3).trans rfl; have hz4 := (blk_cell BK1.out 4).trans rfl; have hz5 := (blk_cell BK1.out 5).trans rfl) | ((with_reducible refine gate_callee (f := 29) rfl ?_); refine goesL_ (some 17) rfl rfl Try.func29 Z16 rfl #[.string b2, .int .i64 b0] rfl (by (try simp only [List.map_toArray, List.map_cons, List.map_nil]); first | done | rfl) ?_; (with_reducible refine (prefix_Right.calls b2 b0 true _ A1.out).mono ?_); rintro e jH ⟨rfl, hb⟩; refine ⟨_, rfl, ?_⟩; have cQ := Aside0.mk (Kd.S_below (by (with_reducible repeat (first | apply Kd.S_alloc | apply Kd.S_drewN | apply Kd.S_drew)); exact HO.out) hb); have de := Aside0.mk (blk_below (g := g) (by (with_reducible repeat (first | refine blk_drewN ?_ _ | refine blk_drew ?_ | refine blk_alloc ?_ _)); exact BK0.out) hb); have eH := Aside0.mk (blk_below (g := gb) (by (with_reducible repeat (first | refine blk_drewN ?_ _ | refine blk_drew ?_ | refine blk_alloc ?_ _)); exact BK1.out) hb); have n3_ := Aside0.mk (below_step (by repeat (first | (with_reducible first | exact HB.out | apply below_alloc | apply pw_below_drewN | apply below_drew1 | refine below_set ?_ GE0.out) | exact HB.out)) hb); clear HO BK0 BK1 HB hz0 hz1 hz2 hz3 hz4 hz5 hb; have HO := cQ; have BK0 := de; have BK1 := eH; have HB := n3_; clear cQ de eH n3_; have hz0 := (blk_cell BK1.out 0).trans rfl; have hz1 := (blk_cell BK1.out 1).trans rfl; have hz2 := (blk_cell BK1.out 2).trans rfl; have hz3 := (blk_cell BK1.out 3).trans rfl; have hz4 := (blk_cell BK1.out 4).trans rfl; have hz5 := (blk_cell BK1.out 5).trans rfl))
    go_ret
    exact ⟨rfl, u, (by (with_reducible repeat (first | refine blk_drewN ?_ _ | refine blk_drew ?_ | refine blk_alloc ?_ _)); exact BK0.out), (by (with_reducible repeat (first | apply Kd.S_alloc | apply Kd.S_drewN | apply Kd.S_drew)); exact HO.out), (by repeat (first | (with_reducible first | exact HB.out | apply below_alloc | apply pw_below_drewN | apply below_drew1 | refine below_set ?_ GE0.out) | exact HB.out))⟩
   rw [if_neg c2] at h2
   have d2 : decide (b5 > 16) = false := decide_eq_false c2
   have d3 : decide (16 < b5) = false := decide_eq_false c2
   by_cases c3 : 488671834567 ≤ xs.length
   ·rw [if_neg Z25] at h2
    exact absurd h2 Z36
   rw [if_pos Z25] at h2
   have LM := Aside0.mk (show xs.length < 488671834567 by omega)
   simp only [Option.some.injEq, Prod.mk.injEq] at h2
   obtain ⟨rfl, rfl, hy⟩ := h2
   have Ny := Aside0.mk hy.symm
   clear hy c1 c2 c3
   go_enter Try.func20, Try.ntmps20
   go_upto_region 7 with (first | ((with_reducible refine gate_dst (N := 3) rfl ?_); refine Sq.box 3 #[.int .i64 b0, .int .i64 b1, .string b2, .string b3, .string b4, .int .i64 b5] 47 ?_; intro gb hg w7 hbox hb; have cQ := Aside0.mk (Kd.S_below (by (with_reducible repeat (first | apply Kd.S_alloc | apply Kd.S_drewN | apply Kd.S_drew)); exact HO.out) hb); have de := Aside0.mk (blk_below (g := g) (by (with_reducible repeat (first | refine blk_drewN ?_ _ | refine blk_drew ?_ | refine blk_alloc ?_ _)); exact BK0.out) hb); have eH := Aside0.mk (below_step (by repeat (first | (with_reducible first | exact HB.out | apply below_alloc | apply pw_below_drewN | apply below_drew1 | refine below_set ?_ GE0.out) | exact HB.out)) hb); have BK1 := Aside0.mk hbox; have GE1 := Aside0.mk ((by rw [hg]; exact below_size HB.out) : w0.heap.size ≤ gb); have NB := Aside0.mk ((by rw [hg]; exact Nat.ne_of_lt (blk_lt BK0.out)) : g ≠ gb); clear HO BK0 HB hbox hg hb; have HO := cQ; have BK0 := de; have HB := eH; clear cQ de eH; have hz0 := (blk_cell BK1.out 0).trans rfl; have hz1 := (blk_cell BK1.out 1).trans rfl; have hz2 := (blk_cell BK1.out 2).trans rfl; have hz3 := (blk_cell BK1.out 3).trans rfl; have hz4 := (blk_cell BK1.out 4).trans rfl; have hz5 := (blk_cell BK1.out 5).trans rfl) | ((with_reducible refine gate_callee (f := 29) rfl ?_); refine goesL_ (some 17) rfl rfl Try.func29 Z16 rfl #[.string b2, .int .i64 b0] rfl (by (try simp only [List.map_toArray, List.map_cons, List.map_nil]); first | done | rfl) ?_; (with_reducible refine (prefix_Right.calls b2 b0 true _ A1.out).mono ?_); rintro e jH ⟨rfl, hb⟩; refine ⟨_, rfl, ?_⟩; have cQ := Aside0.mk (Kd.S_below (by (with_reducible repeat (first | apply Kd.S_alloc | apply Kd.S_drewN | apply Kd.S_drew)); exact HO.out) hb); have de := Aside0.mk (blk_below (g := g) (by (with_reducible repeat (first | refine blk_drewN ?_ _ | refine blk_drew ?_ | refine blk_alloc ?_ _)); exact BK0.out) hb); have eH := Aside0.mk (blk_below (g := gb) (by (with_reducible repeat (first | refine blk_drewN ?_ _ | refine blk_drew ?_ | refine blk_alloc ?_ _)); exact BK1.out) hb); have n3_ := Aside0.mk (below_step (by repeat (first | (with_reducible first | exact HB.out | apply below_alloc | apply pw_below_drewN | apply below_drew1 | refine below_set ?_ GE0.out) | exact HB.out)) hb); clear HO BK0 BK1 HB hz0 hz1 hz2 hz3 hz4 hz5 hb; have HO := cQ; have BK0 := de; have BK1 := eH; have HB := n3_; clear cQ de eH n3_; have hz0 := (blk_cell BK1.out 0).trans rfl; have hz1 := (blk_cell BK1.out 1).trans rfl; have hz2 := (blk_cell BK1.out 2).trans rfl; have hz3 := (blk_cell BK1.out 3).trans rfl; have hz4 := (blk_cell BK1.out 4).trans rfl; have hz5 := (blk_cell BK1.out 5).trans rfl))
   (try simp only [Act.put, Sq.s1, Sq.s2, Sq.s3])
   have cQ := Aside0.mk (blk_drew BK0.out)
   have de := Aside0.mk (blk_drew BK1.out)
   have eH := Aside0.mk (below_drew1 HB.out)
   have n3_ := Aside0.mk (Kd.S_drew HO.out)
   clear BK0 BK1 HB HO hz0 hz1 hz2 hz3 hz4 hz5
   have BK0 := cQ
   have BK1 := de
   have HB := eH
   have HO := n3_
   clear cQ de eH n3_
   refine start_ (n := 27) (S := fun w' => w'.cell? ⟨g, 0, none⟩ = some (.int .i64 cm) ∧ w'.cell? ⟨g, 1, none⟩ = some (.string nx) ∧ w'.cell? ⟨g, 2, none⟩ = some (u) ∧ w'.cell? ⟨gb, 0, none⟩ = some (.int .i64 b0) ∧ w'.cell? ⟨gb, 1, none⟩ = some (.int .i64 b1) ∧ w'.cell? ⟨gb, 2, none⟩ = some (.string b2) ∧ w'.cell? ⟨gb, 5, none⟩ = some (.int .i64 b5)) (ds := [26]) (Sq.b 27 0) Z16 rfl rfl ⟨Sq.bc BK0 0, Sq.bc BK0 1, Sq.bc BK0 2, Sq.bc BK1 0, Sq.bc BK1 1, Sq.bc BK1 2, Sq.bc BK1 5⟩ (fun hHeld => ?_)
   refine with_tabW ripng_reader_entry.tab7 ripng_reader_entry.bits7 (fun HT_ HW_ => ?_)
   generalize World.drew _ = w39 at BK0 BK1 HB HO hHeld ⊢
   refine Sq.pur 0 (some 28) (Sq.b 27 1) HT_.out ?_
   refine Sq.pur 1 (some 29) (Sq.b 27 3) HT_.out ?_
   refine Sq.pur 2 (some 30) (Sq.b 27 7) HT_.out ?_
   refine Sq.pur 3 (some 31) (Sq.b 27 15) HT_.out ?_
   refine Sq.pur 5 (some 33) (Sq.b 27 47) HT_.out ?_
   refine Sq.pur 6 (some 34) (Sq.b 27 111) HT_.out ?_
   refine Sq.pur 7 (some 35) (Sq.b 27 239) HT_.out ?_
   refine Sq.pur 9 (some 37) (Sq.b 27 751) HT_.out ?_
   refine Sq.pur 11 (some 39) (Sq.b 27 2799) HT_.out ?_
   refine Sq.pur 13 (some 41) (Sq.b 27 10991) HT_.out ?_
   refine Sq.pur 15 (some 43) (Sq.b 27 43759) HT_.out ?_
   refine Sq.pur 16 (some 44) (Sq.b 27 109295) HT_.out ?_
   refine Sq.pur 17 (some 45) (Sq.b 27 240367) HT_.out ?_
   refine Sq.pur 19 (some 47) (Sq.b 27 764655) HT_.out ?_
   refine Sq.tak 4 (some 32) (Sq.b 27 764671) HT_.out HW_.out hHeld (v := ?_) (a' := ?_) ?_ ?_ ?_
   rotate_left
   ·rintro w' ⟨s0, s1, s2, s3, s4, s5, s6⟩
    go_simp
    with_reducible rfl
   rotate_left
   ·simp only [Act.put, Sq.s1, Sq.s2, Sq.s3, i64_w, i32_w]
    rfl
   refine Sq.tak 8 (some 36) (Sq.b 27 764927) HT_.out HW_.out hHeld (v := ?_) (a' := ?_) ?_ ?_ ?_
   rotate_left
   ·rintro w' ⟨s0, s1, s2, s3, s4, s5, s6⟩
    go_simp
    with_reducible rfl
   rotate_left
   ·simp only [Act.put, Sq.s1, Sq.s2, Sq.s3, i64_w, i32_w]
    rfl
   refine Sq.tak 10 (some 38) (Sq.b 27 765951) HT_.out HW_.out hHeld (v := ?_) (a' := ?_) ?_ ?_ ?_
   rotate_left
   ·rintro w' ⟨s0, s1, s2, s3, s4, s5, s6⟩
    go_simp
    with_reducible rfl
   rotate_left
   ·simp only [Act.put, Sq.s1, Sq.s2, Sq.s3, i64_w, i32_w]
    rfl
   refine Sq.tak 12 (some 40) (Sq.b 27 770047) HT_.out HW_.out hHeld (v := ?_) (a' := ?_) ?_ ?_ ?_
   rotate_left
   ·rintro w' ⟨s0, s1, s2, s3, s4, s5, s6⟩
    go_simp
    with_reducible rfl
   rotate_left
   ·simp only [Act.put, Sq.s1, Sq.s2, Sq.s3, i64_w, i32_w]
    rfl
   refine Sq.tak 14 (some 42) (Sq.b 27 786431) HT_.out HW_.out hHeld (v := ?_) (a' := ?_) ?_ ?_ ?_
   rotate_left
   ·rintro w' ⟨s0, s1, s2, s3, s4, s5, s6⟩
    go_simp
    with_reducible rfl
   rotate_left
   ·simp only [Act.put, Sq.s1, Sq.s2, Sq.s3, i64_w, i32_w]
    rfl
   refine Sq.tak 18 (some 46) (Sq.b 27 1048575) HT_.out HW_.out hHeld (v := ?_) (a' := ?_) ?_ ?_ ?_
   rotate_left
   ·rintro w' ⟨s0, s1, s2, s3, s4, s5, s6⟩
    go_simp
    with_reducible rfl
   rotate_left
   ·simp only [Act.put, Sq.s1, Sq.s2, Sq.s3, i64_w, i32_w]
    rfl
   refine Sq.tak 20 (some 48) (Sq.b 27 2097151) HT_.out HW_.out hHeld (v := ?_) (a' := ?_) ?_ ?_ ?_
   rotate_left
   ·rintro w' ⟨s0, s1, s2, s3, s4, s5, s6⟩
    go_simp
    with_reducible rfl
   rotate_left
   ·simp only [Act.put, Sq.s1, Sq.s2, Sq.s3, i64_w, i32_w]
    rfl
   refine pure_ (i := 21) (N := some 49) (v := ?_) (a' := ?_) (Sq.b 27 4194303) rfl rfl (any_of HT_.out Z16) (fun _ _ _ h => h) (Or.inl ⟨Z27, ?_⟩) ?_ ?_
   rotate_left
   ·intro w'
    refine Eq.trans (Pre.build_run 34 [(0, Go.Operand.const (Go.Value.int Go.IntKind.i64 2)), (1, Go.Operand.tmp 36), (8, Go.Operand.tmp 38), (6, Go.Operand.tmp 40), (7, Go.Operand.tmp 42), (9, Go.Operand.tmp 46), (10, Go.Operand.tmp 48)] rfl (ripng_reader_entry.bd49 _ _ _ _ _ _)) ?_
    with_reducible rfl
   rotate_left
   ·simp only [Act.put, Sq.s1, Sq.s2, Sq.s3, i64_w, i32_w]
    rfl
   refine one_ (i := 22) (N := some 50) (Sq.b 27 8388607) rfl rfl (one_of HT_.out Z16) Z18 (fun K hK => ?_)
   refine value_ (w1 := ?_) (v := ?_) Z27 rfl ?_ ?_
   rotate_left 2
   ·go_simp
    constructor
    ·rfl
    ·rfl
   refine hK.out _ _ ⟨(blk_cell (blk_alloc BK0.out _) 0).trans rfl, (blk_cell (blk_alloc BK0.out _) 1).trans rfl, (blk_cell (blk_alloc BK0.out _) 2).trans rfl, (blk_cell (blk_alloc BK1.out _) 0).trans rfl, (blk_cell (blk_alloc BK1.out _) 1).trans rfl, (blk_cell (blk_alloc BK1.out _) 2).trans rfl, (blk_cell (blk_alloc BK1.out _) 5).trans rfl⟩ (fun hHeld => ?_)
   clear hK K
   refine norm_ (a' := ?_) ?_ ?_
   rotate_left
   ·show Act.put _ (some 50) _ = _
    simp only [Act.put, Sq.s1, Sq.s2, Sq.s3, i64_w, i32_w]
    rfl
   refine one_ (i := 23) (N := some 51) (Sq.b 27 16777215) rfl rfl (one_of HT_.out Z16) Z18 (fun K hK => ?_)
   refine Kd.S_append_step k34 (w0 := w0) w0.heap.size Z27 (.tmp 32) (.tmp 50) 23 34 (.agg #[(.int .i64 0), (.int .i64 0), (.int .i64 0), (.string ⟨#[]⟩), (.int .i64 0), (.int .i64 0), (.string ⟨#[]⟩), (.int .i64 0), (.int .i64 0), (.string ⟨#[]⟩), (.int .i64 0), (.string ⟨#[]⟩), (.int .i64 0), (.int .i64 0), (.int .i64 0), (.int .i64 0), (.int .i64 0), (.int .i64 0), (.int .i64 0), (.string ⟨#[]⟩), (.string ⟨#[]⟩), (.slice none 0 0), (.int .i64 0), (.string ⟨#[]⟩), (.slice none 0 0)]) 288 rfl Try.underlying23 info34 rfl Z18 Z25 u xs (⟨2, cm, 0, ⟨#[]⟩, 0, 0, b2, b0, b1, nx, b5, ⟨#[]⟩, 0, 0, 0, 0, 0, 0, 0, ⟨#[]⟩, ⟨#[]⟩, [], 0, ⟨#[]⟩, []⟩ : S34) [.int .i64 2, .int .i64 cm, .int .i64 0, .string ⟨#[]⟩, .int .i64 0, .int .i64 0, .string b2, .int .i64 b0, .int .i64 b1, .string nx, .int .i64 b5, .string ⟨#[]⟩, .int .i64 0, .int .i64 0, .int .i64 0, .int .i64 0, .int .i64 0, .int .i64 0, .int .i64 0, .string ⟨#[]⟩, .string ⟨#[]⟩, .slice none 0 0, .int .i64 0, .string ⟨#[]⟩, .slice none 0 0] (fun _ => True) (fun _ => False) rfl rfl ?aP (fun k_ hk_ => hk_.elim) ?aF ?aO ?aB ?aS ?aL ?_
   (case aP => exact k34_mkM _ _ _ (⟨2, cm, 0, ⟨#[]⟩, 0, 0, b2, b0, b1, nx, b5, ⟨#[]⟩, 0, 0, 0, 0, 0, 0, 0, ⟨#[]⟩, ⟨#[]⟩, [], 0, ⟨#[]⟩, []⟩ : S34) (Kd.R_nil _ _ _ _ _) (Kd.R_nil _ _ _ _ _))
   (case aB => exact Z0)
   (case aF => exact (fun _ _ => trivial))
   (case aO => exact (by (with_reducible repeat (first | apply Kd.S_alloc | apply Kd.S_drewN | apply Kd.S_drew)); exact Kd.S_mono HO.out (fun k_ hk => ⟨trivial, fun e_ => e_⟩)))
   (case aS => exact (below_size Z0))
   (case aL => have := LM.out; omega)
   intro v2 w67 ho hb hg hat
   rw [← Ny.out] at ho
   have cQ := Aside0.mk (blk_grown (g := g) (by (with_reducible repeat (first | refine blk_drewN ?_ _ | refine blk_drew ?_ | refine blk_alloc ?_ _)); exact BK0.out) hg (Kd.S_ne HO.out BK0.out Z18))
   have de := Aside0.mk (blk_grown (g := gb) (by (with_reducible repeat (first | refine blk_drewN ?_ _ | refine blk_drew ?_ | refine blk_alloc ?_ _)); exact BK1.out) hg (Kd.S_ne HO.out BK1.out Z18))
   have eH := Aside0.mk hb
   have n3_ := Aside0.mk ho
   clear BK0 BK1 HB HO
   have BK0 := cQ
   have BK1 := de
   have HB := eH
   have HO := n3_
   clear cQ de eH n3_ ho hb hg hat
   obtain ⟨Ao2, co2, eo2⟩ := Kd.S_slice HO.out
   subst eo2
   refine hK.out _ _ ⟨Sq.bc BK0 0, Sq.bc BK0 1, Sq.bc BK0 2, Sq.bc BK1 0, Sq.bc BK1 1, Sq.bc BK1 2, Sq.bc BK1 5⟩ (fun hHeld => ?_)
   clear hK K
   refine norm_ (a' := ?_) ?_ ?_
   rotate_left
   ·show Act.put _ (some 51) _ = _
    simp only [Act.put, Sq.s1, Sq.s2, Sq.s3, i64_w, i32_w]
    rfl
   refine Sq.pur 24 (some 52) (Sq.b 27 33554431) HT_.out ?_
   refine Sq.pur 25 (some 53) (Sq.b 27 67108863) HT_.out ?_
   refine last_ (i := 26) (N := none) (Sq.b 27 134217727) rfl rfl (one_of HT_.out Z16) Z18 (fun K hK => ?_)
   have hs_ := (blk_cell BK0.out 2).trans (c := some u) rfl
   have hf_ := blk_frozen BK0.out 2
   refine skip_ (w1 := ?_) Z27 rfl ?_ ?_
   rotate_left
   ·go_simp
    rfl
   clear hs_ hf_
   refine hK.out _ _ ?_
   clear hK K
   refine done_ (done_of HT_.out Z16) ?_
   go_wp2
   go_ret
   exact ⟨rfl, _, (by (with_reducible repeat (first | refine blk_drewN ?_ _ | refine blk_drew ?_ | refine blk_alloc ?_ _)); refine blk_put (cs := #[.int .i64 cm, .string nx, u]) ?_ 2 _ rfl; (with_reducible repeat (first | refine blk_drewN ?_ _ | refine blk_drew ?_ | refine blk_alloc ?_ _)); exact BK0.out), (by refine Kd.S_mono (ok := fun k => True ∧ k ≠ g) ?_ (fun _ _ => trivial); repeat (first | exact Kd.S_types HO.out BK0.out Z18 | refine Kd.S_far ?_ (fun _ hk => hk.2) _ | (with_reducible refine Kd.S_drewN ?_ _) | (with_reducible refine Kd.S_drew ?_) | (with_reducible refine Kd.S_alloc ?_ _))), (by repeat (first | (with_reducible first | exact HB.out | apply below_alloc | apply pw_below_drewN | apply below_drew1 | refine below_set ?_ GE0.out) | exact HB.out))⟩
  ·replace cp := Bool.eq_false_iff.mpr cp
   subst cp
   rw [if_neg Z18] at h2
   simp only [Option.some.injEq, Prod.mk.injEq] at h2
   obtain ⟨rfl, rfl, rfl⟩ := h2
   go_enter Try.func20, Try.ntmps20
   go_wp2_with (first | ((with_reducible refine gate_dst (N := 3) rfl ?_); refine Sq.box 3 #[.int .i64 b0, .int .i64 b1, .string b2, .string b3, .string b4, .int .i64 b5] 47 ?_; intro gb hg w7 hbox hb; have cQ := Aside0.mk (Kd.S_below (by (with_reducible repeat (first | apply Kd.S_alloc | apply Kd.S_drewN | apply Kd.S_drew)); exact HO.out) hb); have de := Aside0.mk (blk_below (g := g) (by (with_reducible repeat (first | refine blk_drewN ?_ _ | refine blk_drew ?_ | refine blk_alloc ?_ _)); exact BK0.out) hb); have eH := Aside0.mk (below_step (by repeat (first | (with_reducible first | exact HB.out | apply below_alloc | apply pw_below_drewN | apply below_drew1 | refine below_set ?_ GE0.out) | exact HB.out)) hb); have BK1 := Aside0.mk hbox; have GE1 := Aside0.mk ((by rw [hg]; exact below_size HB.out) : w0.heap.size ≤ gb); have NB := Aside0.mk ((by rw [hg]; exact Nat.ne_of_lt (blk_lt BK0.out)) : g ≠ gb); clear HO BK0 HB hbox hg hb; have HO := cQ; have BK0 := de; have HB := eH; clear cQ de eH; have hz0 := (blk_cell BK1.out 0).trans rfl; have hz1 := (blk_cell BK1.out 1).trans rfl; have hz2 := (blk_cell BK1.out 2).trans rfl; have hz3 := (blk_cell BK1.out 3).trans rfl; have hz4 := (blk_cell BK1.out 4).trans rfl; have hz5 := (blk_cell BK1.out 5).trans rfl) | ((with_reducible refine gate_callee (f := 29) rfl ?_); refine goesL_ (some 17) rfl rfl Try.func29 Z16 rfl #[.string b2, .int .i64 b0] rfl (by (try simp only [List.map_toArray, List.map_cons, List.map_nil]); first | done | rfl) ?_; (with_reducible refine (prefix_Right.calls b2 b0 false _ A1.out).mono ?_); rintro e jH ⟨rfl, hb⟩; refine ⟨_, rfl, ?_⟩; have cQ := Aside0.mk (Kd.S_below (by (with_reducible repeat (first | apply Kd.S_alloc | apply Kd.S_drewN | apply Kd.S_drew)); exact HO.out) hb); have de := Aside0.mk (blk_below (g := g) (by (with_reducible repeat (first | refine blk_drewN ?_ _ | refine blk_drew ?_ | refine blk_alloc ?_ _)); exact BK0.out) hb); have eH := Aside0.mk (blk_below (g := gb) (by (with_reducible repeat (first | refine blk_drewN ?_ _ | refine blk_drew ?_ | refine blk_alloc ?_ _)); exact BK1.out) hb); have n3_ := Aside0.mk (below_step (by repeat (first | (with_reducible first | exact HB.out | apply below_alloc | apply pw_below_drewN | apply below_drew1 | refine below_set ?_ GE0.out) | exact HB.out)) hb); clear HO BK0 BK1 HB hz0 hz1 hz2 hz3 hz4 hz5 hb; have HO := cQ; have BK0 := de; have BK1 := eH; have HB := n3_; clear cQ de eH n3_; have hz0 := (blk_cell BK1.out 0).trans rfl; have hz1 := (blk_cell BK1.out 1).trans rfl; have hz2 := (blk_cell BK1.out 2).trans rfl; have hz3 := (blk_cell BK1.out 3).trans rfl; have hz4 := (blk_cell BK1.out 4).trans rfl; have hz5 := (blk_cell BK1.out 5).trans rfl))
   go_ret
   exact ⟨rfl, u, (by (with_reducible repeat (first | refine blk_drewN ?_ _ | refine blk_drew ?_ | refine blk_alloc ?_ _)); exact BK0.out), (by (with_reducible repeat (first | apply Kd.S_alloc | apply Kd.S_drewN | apply Kd.S_drew)); exact HO.out), (by repeat (first | (with_reducible first | exact HB.out | apply below_alloc | apply pw_below_drewN | apply below_drew1 | refine below_set ?_ GE0.out) | exact HB.out))⟩

/-! ### ripng_Parse: function 8 -/
def ripng_Parse.T4 : Bool × List (List Nat × List Nat) := (true, [([], []), ([0], [0]), ([1], [1]), ([], []), ([2, 3], [2, 3]), ([4], [4]), ([5, 3, 0, 1, 2, 3, 4, 5], [5])])
def ripng_Parse.B4 : List Nat := [0, 1, 3, 0, 15, 31, 63]
theorem ripng_Parse.tab4 : rtab .any (opsOf Try.f8 4) = ripng_Parse.T4 := by kernel_rfl
theorem ripng_Parse.bits4 : waitsOk ripng_Parse.T4.2 ripng_Parse.B4 = true := by kernel_rfl
theorem ripng_Parse.bd25 (v0 : Int) (v1 : ByteArray) : Try.prog.built 45 [(0, .int .i64 v0), (1, .string v1)] = some #[.int .i64 v0, .string v1, .slice none 0 0] := by kernel_rfl
def ripng_Parse.l0 : Nat → ByteArray → Int → ByteArray → List S34 → Option (List S34 × Int × Int)
 | 0, _, _, _, _ => none
 | k + 1, a0, x8, xn, xx => if x8 < (a0.size : Int) then (if 0 ≤ x8 then (if x8 ≤ wrap64 (x8 + 20) then (if wrap64 (x8 + 20) ≤ (a0.size : Int) then ((rte_Get.f (a0.extract (x8 : Int).toNat (wrap64 (x8 + 20) : Int).toNat)).bind fun t => (ripng_reader_entry.f (wrap64 (bt a0 0)) xn xx t.1 t.2.1 t.2.2.1 t.2.2.2.1 t.2.2.2.2.1 t.2.2.2.2.2.1).bind fun r => if r.1 = 0 then ripng_Parse.l0 k a0 (wrap64 (x8 + 20)) r.2.1 r.2.2 else some ([], x8, r.1)) else none) else none) else none) else (if (xx.length : Int) = 0 then some ([], (a0.size : Int), 8) else some (xx, 0, 0))
def ripng_Parse.f (k : Nat) (a0 : ByteArray) : Option (List S34 × Int × Int) := (ripng_head.f k a0).bind fun h => if h.2 = 0 then (if 0 < (a0.size : Int) then ((octet_Zeros.f 16).bind fun z => ripng_Parse.l0 k a0 4 z []) else none) else some ([], h.1, h.2)
theorem ripng_Parse.mono_l : ∀ k, (∀ y0 y1 y2 y3, LeO (ripng_Parse.l0 k y0 y1 y2 y3) (ripng_Parse.l0 (k + 1) y0 y1 y2 y3))
 | 0 => Sq.mz
 | k + 1 => by
  have ih0 := ripng_Parse.mono_l k
  intros
  unfold ripng_Parse.l0
  exact Sq.mo
theorem ripng_Parse.mono : ∀ a0 k, LeO (ripng_Parse.f k a0) (ripng_Parse.f (k + 1) a0) := by
 intro a0 k
 have ih0 := ripng_Parse.mono_l k
 unfold ripng_Parse.f
 have m0 := ripng_head.mono
 exact Sq.mo
set_option maxHeartbeats 8000000 in
set_option maxRecDepth 100000 in
theorem ripng_Parse.calls (k : Nat) (a0 : ByteArray) (r1 : List S34) (r2 : Int) (r3 : Int) (w : World) (h : ripng_Parse.f k a0 = some (r1, r2, r3)) :
  Calls Try.prog 8 #[.string a0] w fun e w' => ∃ v0_ : Value, e = .returned (.tuple #[v0_, .int .i64 r2, .int .i64 r3]) ∧ Kd.S k34 34 w' w.heap.size (fun _ => True) v0_ r1 ∧ Below w.heap.size w w' := by
 have hu45 := Try.underlying45
 have fW := Try.underlying47
 have HB := Aside0.mk (Below.refl w.heap.size w)
 unfold ripng_Parse.f at h
 obtain ⟨⟨h1, h2⟩, e1, h⟩ := Option.bind_eq_some_iff.mp h
 dsimp only at h
 have AH := Aside0.mk e1
 clear e1
 by_cases c : h2 = 0
 ·subst c
  rw [if_pos rfl] at h
  by_cases c0 : 0 < (a0.size : Int)
  ·rw [if_pos c0] at h
   obtain ⟨z, e2, h3⟩ := Option.bind_eq_some_iff.mp h
   have A1 := Aside0.mk e2
   have HL := Aside0.mk h3
   clear h h3 e2
   have q0 : 0 < a0.size := by omega
   have hx0 : ∀ h : 0 < a0.size, ((a0[0]'h).toNat : Int) = bt a0 0 := bt_at a0 0
   have qi0 : (0 < (a0.size : Int)) = True := eq_true c0
   have c0b : decide (0 < (a0.size : Int)) = true := decide_eq_true c0
   replace q0 := eq_true q0
   clear c0
   go_enter Try.func8, Try.ntmps8
   go_upto_region 4 with (first | ((with_reducible refine gate_callee (f := 17) rfl ?_); refine goesL_ (some 14) rfl rfl Try.func17 Z16 rfl #[.string a0] rfl (by (try simp only [List.map_toArray, List.map_cons, List.map_nil]); first | done | rfl) ?_; (with_reducible refine (ripng_head.calls k a0 h1 0 _ AH.out).mono ?_); rintro e jH ⟨rfl, hb⟩; refine ⟨_, rfl, ?_⟩; have cQ := Aside0.mk (below_step (by repeat (first | (with_reducible first | exact HB.out | apply below_alloc | apply pw_below_drewN | apply below_drew1 | refine below_set ?_ GE0.out) | exact HB.out)) hb); clear HB hb; have HB := cQ; clear cQ))
   (try simp only [Act.put, Sq.s1, Sq.s2, Sq.s3])
   have eH := Aside0.mk (below_drew1 HB.out)
   clear HB
   have HB := eH
   clear eH
   refine start_ (n := 7) (S := fun _ => True) (ds := []) (Sq.b 7 0) Z16 rfl rfl trivial (fun hHeld => ?_)
   refine with_tabW ripng_Parse.tab4 ripng_Parse.bits4 (fun HT_ HW_ => ?_)
   generalize World.drew _ = w39 at HB hHeld ⊢
   refine Sq.pur 0 (some 21) (Sq.b 7 1) HT_.out ?_
   refine Sq.pur 1 (some 22) (Sq.b 7 3) HT_.out ?_
   refine Sq.pur 2 (some 23) (Sq.b 7 7) HT_.out ?_
   refine one_ (i := 3) (N := some 24) (Sq.b 7 15) rfl rfl (one_of HT_.out Z16) Z18 (fun K hK => ?_)
   refine goes_ Try.func18 Z16 rfl #[.int .i64 16] Z27 rfl rfl (by (try simp only [List.map_toArray, List.map_cons, List.map_nil]); first | done | rfl) ?_
   with_reducible refine (octet_Zeros.calls 16 z _ A1.out).mono ?_
   rintro e jH ⟨rfl, hb⟩
   refine ⟨_, rfl, ?_⟩
   have eH := Aside0.mk (below_step HB.out hb)
   clear HB hb
   have HB := eH
   clear eH
   refine hK.out _ _ trivial (fun hHeld => ?_)
   clear hK K
   refine norm_ (a' := ?_) ?_ ?_
   rotate_left
   ·show Act.put _ (some 24) _ = _
    simp only [Act.put, Sq.s1, Sq.s2, Sq.s3, i64_w, i32_w]
    rfl
   refine pure_ (i := 4) (N := some 25) (v := ?_) (a' := ?_) (Sq.b 7 31) rfl rfl (any_of HT_.out Z16) (fun _ _ _ h => h) (Or.inl ⟨Z27, ?_⟩) ?_ ?_
   rotate_left
   ·intro w'
    refine Eq.trans (Pre.build_run 45 [(0, Go.Operand.tmp 23), (1, Go.Operand.tmp 24)] rfl (ripng_Parse.bd25 _ _)) ?_
    with_reducible rfl
   rotate_left
   ·simp only [Act.put, Sq.s1, Sq.s2, Sq.s3, i64_w, i32_w]
    rfl
   refine one_ (i := 5) (N := some 26) (Sq.b 7 63) rfl rfl (one_of HT_.out Z16) Z18 (fun K hK => ?_)
   refine value_ (w1 := jH.alloc (.cells #[.int .i64 (wrap64 (bt a0 0)), .string z, .slice none 0 0] 45 (0, 0))) (v := .pointer (some ⟨jH.heap.size, 0, none⟩)) Z27 rfl ?_ ?_
   ·first | (go_simp; done) | (go_simp; rfl) | (go_simp; constructor <;> rfl)
   refine hK.out _ _ trivial (fun hHeld => ?_)
   clear hK K
   refine norm_ (a' := ?_) ?_ ?_
   rotate_left
   ·show Act.put _ (some 26) _ = _
    simp only [Act.put, Sq.s1, Sq.s2, Sq.s3, i64_w, i32_w]
    rfl
   have hbx := below_alloc (Below.refl jH.heap.size jH) (.cells #[.int .i64 (wrap64 (bt a0 0)), .string z, .slice none 0 0] 45 (0, 0))
   have BK0 := Aside0.mk (blk_new jH (.cells #[.int .i64 (wrap64 (bt a0 0)), .string z, .slice none 0 0] 45 (0, 0)))
   have eH := Aside0.mk (below_step HB.out hbx)
   have GE0 := Aside0.mk (below_size HB.out)
   clear HB hbx
   have HB := eH
   clear eH
   generalize jH.heap.size = g at BK0 GE0 ⊢
   generalize World.alloc _ _ = w11 at BK0 HB hHeld ⊢
   refine Sq.pur 6 (some 7) (Sq.b 7 127) HT_.out ?_
   refine done_ (done_of HT_.out Z16) ?_
   clear hHeld HT_ HW_ hx0 qi0 c0b q0 AH A1 hu45 fW
   go_wp2
   go_loopg [8] k (fun kq v8 w' => ∃ (x8 : Int) (xn : ByteArray) (xx : List S34) (u : Value), v8 = .int .i64 x8 ∧ Aside0 (ripng_Parse.l0 kq a0 x8 xn xx = some (r1, r2, r3)) ∧ Aside0 (kq ≤ k) ∧ Aside0 (w'.heap[g]? = some (.cells #[.int .i64 (wrap64 (bt a0 0)), .string xn, u] 45 (0, 0))) ∧ Aside0 (Kd.S k34 34 w' w.heap.size (fun _ => True) u xx) ∧ Aside0 (Below w.heap.size w w'))
   case atStart => exact ⟨4, z, [], .slice none 0 0, rfl, HL, ⟨Nat.le_refl _⟩, BK0, ⟨Kd.S_nil _ _ _ _ _⟩, HB⟩
   case round =>
    clear HL BK0 HB
    obtain ⟨x8, xn, xx, u, rfl, HA, HK1, BK0, HO, HB⟩ := hrel
    cases gk with
    | zero => exact absurd HA.out (by simp [ripng_Parse.l0])
    | succ k1 =>
     have hu45 := Try.underlying45
     have fW := Try.underlying47
     have H := HA.out
     clear HA
     simp only [ripng_Parse.l0] at H
     by_cases c1 : x8 < (a0.size : Int)
     ·rw [if_pos c1] at H
      have f1 : decide (x8 < (a0.size : Int)) = true := decide_eq_true c1
      by_cases c2 : 0 ≤ x8
      ·rw [if_pos c2] at H
       have f2 := eq_true c2
       have f3 : decide (0 ≤ x8) = true := decide_eq_true c2
       by_cases c3 : x8 ≤ wrap64 (x8 + 20)
       ·rw [if_pos c3] at H
        have f4 := eq_true c3
        have f5 : decide (x8 ≤ wrap64 (x8 + 20)) = true := decide_eq_true c3
        by_cases c4 : wrap64 (x8 + 20) ≤ (a0.size : Int)
        ·rw [if_pos c4] at H
         have f6 := eq_true c4
         have f7 : decide (wrap64 (x8 + 20) ≤ (a0.size : Int)) = true := decide_eq_true c4
         obtain ⟨⟨t1, t2, t3, t4, t5, t6, t7⟩, g1, H1⟩ := Option.bind_eq_some_iff.mp H
         obtain ⟨⟨e1, yn, yx⟩, g2, H2⟩ := Option.bind_eq_some_iff.mp H1
         dsimp only at g2 H2
         have A1 := Aside0.mk g1
         have A2 := Aside0.mk g2
         clear H H1 g1 g2 c1 c2 c3 c4
         by_cases ce : e1 = 0
         ·rw [if_pos ce] at H2
          subst ce
          have H' := Aside0.mk H2
          clear H2
          go_wp2_with (first | ((with_reducible refine gate_callee (f := 19) rfl ?_); refine goesL_ (some 39) rfl rfl Try.func19 Z16 rfl #[.string (a0.extract (x8 : Int).toNat (wrap64 (x8 + 20) : Int).toNat)] rfl (by (try simp only [List.map_toArray, List.map_cons, List.map_nil]); first | done | rfl) ?_; (with_reducible refine (rte_Get.calls _ t1 t2 t3 t4 t5 t6 t7 _ A1.out).mono ?_); rintro e jH ⟨rfl, hb⟩; refine ⟨_, rfl, ?_⟩; have cQ := Aside0.mk (Kd.S_below (by (with_reducible repeat (first | apply Kd.S_alloc | apply Kd.S_drewN | apply Kd.S_drew)); exact HO.out) hb); have de := Aside0.mk (blk_below (g := g) (by (with_reducible repeat (first | refine blk_drewN ?_ _ | refine blk_drew ?_ | refine blk_alloc ?_ _)); exact BK0.out) hb); have eH := Aside0.mk (below_step (by repeat (first | (with_reducible first | exact HB.out | apply below_alloc | apply pw_below_drewN | apply below_drew1 | refine below_set ?_ GE0.out) | exact HB.out)) hb); clear HO BK0 HB hb; have HO := cQ; have BK0 := de; have HB := eH; clear cQ de eH) | ((with_reducible refine gate_dst (N := 9) rfl ?_); refine Sq.box 9 #[.int .i64 0, .int .i64 0, .string ⟨#[]⟩, .string ⟨#[]⟩, .string ⟨#[]⟩, .int .i64 0] 47 ?_; intro gb hg w7 hbox hb; have cQ := Aside0.mk (Kd.S_below (by (with_reducible repeat (first | apply Kd.S_alloc | apply Kd.S_drewN | apply Kd.S_drew)); exact HO.out) hb); have de := Aside0.mk (blk_below (g := g) (by (with_reducible repeat (first | refine blk_drewN ?_ _ | refine blk_drew ?_ | refine blk_alloc ?_ _)); exact BK0.out) hb); have eH := Aside0.mk (below_step (by repeat (first | (with_reducible first | exact HB.out | apply below_alloc | apply pw_below_drewN | apply below_drew1 | refine below_set ?_ GE0.out) | exact HB.out)) hb); have BK1 := Aside0.mk hbox; have GE1 := Aside0.mk ((by rw [hg]; exact below_size (by repeat (first | (with_reducible first | exact HB.out | apply below_alloc | apply pw_below_drewN | apply below_drew1 | refine below_set ?_ GE0.out) | exact HB.out))) : w.heap.size ≤ gb); have NB := Aside0.mk ((by rw [hg]; exact Nat.ne_of_lt (blk_lt (g := g) (by (with_reducible repeat (first | refine blk_drewN ?_ _ | refine blk_drew ?_ | refine blk_alloc ?_ _)); exact BK0.out))) : g ≠ gb); clear HO BK0 HB hbox hg hb; have HO := cQ; have BK0 := de; have HB := eH; clear cQ de eH; have hz0 := (blk_cell BK1.out 0).trans rfl; have hf0 := blk_frozen BK1.out 0; have hz1 := (blk_cell BK1.out 1).trans rfl; have hf1 := blk_frozen BK1.out 1; have hz2 := (blk_cell BK1.out 2).trans rfl; have hf2 := blk_frozen BK1.out 2; have hz3 := (blk_cell BK1.out 3).trans rfl; have hf3 := blk_frozen BK1.out 3; have hz4 := (blk_cell BK1.out 4).trans rfl; have hf4 := blk_frozen BK1.out 4; have hz5 := (blk_cell BK1.out 5).trans rfl; have hf5 := blk_frozen BK1.out 5) | ((with_reducible refine gate_callee (f := 20) rfl ?_); refine goesL_ (some 44) rfl rfl Try.func20 Z16 rfl #[.pointer (some ⟨g, 0, none⟩), .agg #[.int .i64 t1, .int .i64 t2, .string t3, .string t4, .string t5, .int .i64 t6]] rfl (by (try simp only [List.map_toArray, List.map_cons, List.map_nil]); first | done | rfl) ?_; (with_reducible refine (ripng_reader_entry.calls g (wrap64 (bt a0 0)) xn u xx t1 t2 t3 t4 t5 t6 _ yn yx w _ (by repeat (first | (with_reducible first | exact HB.out | apply below_alloc | apply pw_below_drewN | apply below_drew1 | refine below_set ?_ GE1.out | refine below_set ?_ GE0.out) | exact HB.out)) GE0.out (by repeat (first | exact BK0.out | refine blk_far (p := ⟨gb, _, none⟩) ?_ NB.out _ | (with_reducible refine blk_drewN ?_ _) | (with_reducible refine blk_drew ?_) | (with_reducible refine blk_alloc ?_ _))) (by refine Kd.S_mono (ok := fun k => True ∧ k ≠ gb) ?_ (fun _ _ => trivial); repeat (first | exact Kd.S_types HO.out BK1.out Z18 | refine Kd.S_far (p := ⟨gb, _, none⟩) ?_ (fun _ hk => hk.2) _ | (with_reducible refine Kd.S_drewN ?_ _) | (with_reducible refine Kd.S_drew ?_) | (with_reducible refine Kd.S_alloc ?_ _))) A2.out).mono ?_); rintro e jN ⟨rfl, u2, hk, hr, hb⟩; refine ⟨_, rfl, ?_⟩; have cQ := Aside0.mk hk; have de := Aside0.mk hr; have eH := Aside0.mk hb; clear BK0 HO HB BK1 hz0 hf0 hz1 hf1 hz2 hf2 hz3 hf3 hz4 hf4 hz5 hf5 hk hr hb; have BK0 := cQ; have HO := de; have HB := eH; clear cQ de eH))
          go_roundg k1
          case measure => have := HK1.out; omega
          case rel => exact ⟨wrap64 (x8 + 20), yn, yx, u2, Z7, H', ⟨by have := HK1.out; omega⟩, ⟨by (with_reducible repeat (first | refine blk_drewN ?_ _ | refine blk_drew ?_ | refine blk_alloc ?_ _)); exact BK0.out⟩, ⟨by (with_reducible repeat (first | apply Kd.S_alloc | apply Kd.S_drewN | apply Kd.S_drew)); exact HO.out⟩, ⟨(by repeat (first | (with_reducible first | exact HB.out | apply below_alloc | apply pw_below_drewN | apply below_drew1 | refine below_set ?_ GE0.out) | exact HB.out))⟩⟩
         ·rw [if_neg ce] at H2
          have d0 : (e1 == 0) = false := beq_eq_false_iff_ne.mpr ce
          have d1 : (e1 != 0) = true := bne_iff_ne.mpr ce
          clear ce
          simp only [Option.some.injEq, Prod.mk.injEq] at H2
          obtain ⟨rfl, rfl, rfl⟩ := H2
          go_wp2_with (first | ((with_reducible refine gate_callee (f := 19) rfl ?_); refine goesL_ (some 39) rfl rfl Try.func19 Z16 rfl #[.string (a0.extract (x8 : Int).toNat (wrap64 (x8 + 20) : Int).toNat)] rfl (by (try simp only [List.map_toArray, List.map_cons, List.map_nil]); first | done | rfl) ?_; (with_reducible refine (rte_Get.calls _ t1 t2 t3 t4 t5 t6 t7 _ A1.out).mono ?_); rintro e jH ⟨rfl, hb⟩; refine ⟨_, rfl, ?_⟩; have cQ := Aside0.mk (Kd.S_below (by (with_reducible repeat (first | apply Kd.S_alloc | apply Kd.S_drewN | apply Kd.S_drew)); exact HO.out) hb); have de := Aside0.mk (blk_below (g := g) (by (with_reducible repeat (first | refine blk_drewN ?_ _ | refine blk_drew ?_ | refine blk_alloc ?_ _)); exact BK0.out) hb); have eH := Aside0.mk (below_step (by repeat (first | (with_reducible first | exact HB.out | apply below_alloc | apply pw_below_drewN | apply below_drew1 | refine below_set ?_ GE0.out) | exact HB.out)) hb); clear HO BK0 HB hb; have HO := cQ; have BK0 := de; have HB := eH; clear cQ de eH) | ((with_reducible refine gate_dst (N := 9) rfl ?_); refine Sq.box 9 #[.int .i64 0, .int .i64 0, .string ⟨#[]⟩, .string ⟨#[]⟩, .string ⟨#[]⟩, .int .i64 0] 47 ?_; intro gb hg w7 hbox hb; have cQ := Aside0.mk (Kd.S_below (by (with_reducible repeat (first | apply Kd.S_alloc | apply Kd.S_drewN | apply Kd.S_drew)); exact HO.out) hb); have de := Aside0.mk (blk_below (g := g) (by (with_reducible repeat (first | refine blk_drewN ?_ _ | refine blk_drew ?_ | refine blk_alloc ?_ _)); exact BK0.out) hb); have eH := Aside0.mk (below_step (by repeat (first | (with_reducible first | exact HB.out | apply below_alloc | apply pw_below_drewN | apply below_drew1 | refine below_set ?_ GE0.out) | exact HB.out)) hb); have BK1 := Aside0.mk hbox; have GE1 := Aside0.mk ((by rw [hg]; exact below_size (by repeat (first | (with_reducible first | exact HB.out | apply below_alloc | apply pw_below_drewN | apply below_drew1 | refine below_set ?_ GE0.out) | exact HB.out))) : w.heap.size ≤ gb); have NB := Aside0.mk ((by rw [hg]; exact Nat.ne_of_lt (blk_lt (g := g) (by (with_reducible repeat (first | refine blk_drewN ?_ _ | refine blk_drew ?_ | refine blk_alloc ?_ _)); exact BK0.out))) : g ≠ gb); clear HO BK0 HB hbox hg hb; have HO := cQ; have BK0 := de; have HB := eH; clear cQ de eH; have hz0 := (blk_cell BK1.out 0).trans rfl; have hf0 := blk_frozen BK1.out 0; have hz1 := (blk_cell BK1.out 1).trans rfl; have hf1 := blk_frozen BK1.out 1; have hz2 := (blk_cell BK1.out 2).trans rfl; have hf2 := blk_frozen BK1.out 2; have hz3 := (blk_cell BK1.out 3).trans rfl; have hf3 := blk_frozen BK1.out 3; have hz4 := (blk_cell BK1.out 4).trans rfl; have hf4 := blk_frozen BK1.out 4; have hz5 := (blk_cell BK1.out 5).trans rfl; have hf5 := blk_frozen BK1.out 5) | ((with_reducible refine gate_callee (f := 20) rfl ?_); refine goesL_ (some 44) rfl rfl Try.func20 Z16 rfl #[.pointer (some ⟨g, 0, none⟩), .agg #[.int .i64 t1, .int .i64 t2, .string t3, .string t4, .string t5, .int .i64 t6]] rfl (by (try simp only [List.map_toArray, List.map_cons, List.map_nil]); first | done | rfl) ?_; (with_reducible refine (ripng_reader_entry.calls g (wrap64 (bt a0 0)) xn u xx t1 t2 t3 t4 t5 t6 _ yn yx w _ (by repeat (first | (with_reducible first | exact HB.out | apply below_alloc | apply pw_below_drewN | apply below_drew1 | refine below_set ?_ GE1.out | refine below_set ?_ GE0.out) | exact HB.out)) GE0.out (by repeat (first | exact BK0.out | refine blk_far (p := ⟨gb, _, none⟩) ?_ NB.out _ | (with_reducible refine blk_drewN ?_ _) | (with_reducible refine blk_drew ?_) | (with_reducible refine blk_alloc ?_ _))) (by refine Kd.S_mono (ok := fun k => True ∧ k ≠ gb) ?_ (fun _ _ => trivial); repeat (first | exact Kd.S_types HO.out BK1.out Z18 | refine Kd.S_far (p := ⟨gb, _, none⟩) ?_ (fun _ hk => hk.2) _ | (with_reducible refine Kd.S_drewN ?_ _) | (with_reducible refine Kd.S_drew ?_) | (with_reducible refine Kd.S_alloc ?_ _))) A2.out).mono ?_); rintro e jN ⟨rfl, u2, hk, hr, hb⟩; refine ⟨_, rfl, ?_⟩; have cQ := Aside0.mk hk; have de := Aside0.mk hr; have eH := Aside0.mk hb; clear BK0 HO HB BK1 hz0 hf0 hz1 hf1 hz2 hf2 hz3 hf3 hz4 hf4 hz5 hf5 hk hr hb; have BK0 := cQ; have HO := de; have HB := eH; clear cQ de eH))
          go_ret3
          exact ⟨_, rfl, Kd.S_nil _ _ _ _ _, (by repeat (first | (with_reducible first | exact HB.out | apply below_alloc | apply pw_below_drewN | apply below_drew1 | refine below_set ?_ GE0.out) | exact HB.out))⟩
        ·rw [if_neg c4] at H; exact absurd H Z36
       ·rw [if_neg c3] at H; exact absurd H Z36
      ·rw [if_neg c2] at H; exact absurd H Z36
     ·rw [if_neg c1] at H
      have f1 : decide (x8 < (a0.size : Int)) = false := decide_eq_false c1
      clear c1
      obtain ⟨A2, c2, rfl⟩ := Kd.S_slice HO.out
      have hg2 := (blk_cell BK0.out 2).trans rfl
      by_cases cl : (xx.length : Int) = 0
      ·rw [if_pos cl] at H
       have d0 : ((xx.length : Int) == 0) = true := beq_iff_eq.mpr cl
       clear cl
       simp only [Option.some.injEq, Prod.mk.injEq] at H
       obtain ⟨rfl, rfl, rfl⟩ := H
       go_wp2
       go_ret3
       exact ⟨_, rfl, Kd.S_nil _ _ _ _ _, HB.out⟩
      ·rw [if_neg cl] at H
       have d0 : ((xx.length : Int) == 0) = false := beq_eq_false_iff_ne.mpr cl
       clear cl
       simp only [Option.some.injEq, Prod.mk.injEq] at H
       obtain ⟨rfl, rfl, rfl⟩ := H
       go_wp2
       go_ret3
       exact ⟨_, rfl, HO.out, HB.out⟩
  ·rw [if_neg c0] at h
   exact absurd h Z36
 ·rw [if_neg c] at h
  have d0 : (h2 == 0) = false := beq_eq_false_iff_ne.mpr c
  have d1 : (h2 != 0) = true := bne_iff_ne.mpr c
  simp only [Option.some.injEq, Prod.mk.injEq] at h
  obtain ⟨rfl, rfl, rfl⟩ := h
  go_enter Try.func8, Try.ntmps8
  go_wp2_with (first | ((with_reducible refine gate_callee (f := 17) rfl ?_); refine goesL_ (some 14) rfl rfl Try.func17 Z16 rfl #[.string a0] rfl (by (try simp only [List.map_toArray, List.map_cons, List.map_nil]); first | done | rfl) ?_; (with_reducible refine (ripng_head.calls k a0 h1 h2 _ AH.out).mono ?_); rintro e jH ⟨rfl, hb⟩; refine ⟨_, rfl, ?_⟩; have cQ := Aside0.mk (below_step (by repeat (first | (with_reducible first | exact HB.out | apply below_alloc | apply pw_below_drewN | apply below_drew1 | refine below_set ?_ GE0.out) | exact HB.out)) hb); clear HB hb; have HB := cQ; clear cQ))
  go_ret3
  exact ⟨_, rfl, Kd.S_nil _ _ _ _ _, Z0⟩

/-! ### ripng_writer_put: function 46 -/
/-- What a writer that has xs has behind an entry. -/
def ripng_writer_put.f (xs : List Int) (b0 b1 : Int) (b2 b3 b4 : ByteArray) (b5 : Int) : Option (List Int) := (rte_Put.f b0 b1 b2 b3 b4 b5).bind fun t => if xs.length + t.1.size < 140737488355328 then some (xs ++ bytesOf t.1) else none
set_option maxHeartbeats 8000000 in
set_option maxRecDepth 100000 in
theorem ripng_writer_put.calls (g : Nat) (u : Value) (nx : ByteArray) (xs : List Int) (b0 b1 : Int) (b2 b3 b4 : ByteArray) (b5 : Int) (ys : List Int) (w0 w : World) (hB : Below w0.heap.size w0 w) (hg : w0.heap.size ≤ g) (hK : w.heap[g]? = some (.cells #[u, .string nx] 56 (0, 0))) (hR : Kd.R (Kd.int .u8) 5 w w0.heap.size (fun _ => True) u xs) (h : ripng_writer_put.f xs b0 b1 b2 b3 b4 b5 = some ys) :
  Calls Try.prog 46 #[.pointer (some ⟨g, 0, none⟩), .agg #[.int .i64 b0, .int .i64 b1, .string b2, .string b3, .string b4, .int .i64 b5]] w fun e w' => e = .returned (.tuple #[]) ∧ ∃ u', w'.heap[g]? = some (.cells #[u', .string nx] 56 (0, 0)) ∧ Kd.R (Kd.int .u8) 5 w' w0.heap.size (fun _ => True) u' ys ∧ Below w0.heap.size w0 w' ∧ KeepBut w w' g u.ownBlock := by
 have hu56 := Try.underlying56
 have fW := Try.underlying47
 unfold ripng_writer_put.f at h
 obtain ⟨⟨t1, t2⟩, h1, h⟩ := Option.bind_eq_some_iff.mp h
 dsimp only at h
 by_cases c : xs.length + t1.size < 140737488355328
 ·rw [if_pos c] at h
  have Ny := Aside0.mk (Option.some.inj h).symm
  have LM := Aside0.mk c
  have A1 := Aside0.mk h1
  have HB := Aside0.mk hB
  have GE0 := Aside0.mk hg
  have BK0 := Aside0.mk hK
  have HO := Aside0.mk hR
  have HK := Aside0.mk (KeepBut.refl w g u.ownBlock)
  clear h c h1 hB hg hK hR
  go_enter Try.func46, Try.ntmps46
  go_wp2_with (first | ((with_reducible refine gate_dst (N := 3) rfl ?_); refine Sq.box 3 #[.int .i64 b0, .int .i64 b1, .string b2, .string b3, .string b4, .int .i64 b5] 47 ?_; intro gb hg w7 hbox hb; have cQ := Aside0.mk (Kd.R_below HO.out hb); have de := Aside0.mk (blk_below BK0.out hb); have eH := Aside0.mk (below_step HB.out hb); have n3_ := Aside0.mk (KeepBut.trans HK.out (KeepBut.of_below hb g u.ownBlock) (.inl rfl)); have BK1 := Aside0.mk hbox; have GE1 := Aside0.mk ((by rw [hg]; exact below_size HB.out) : w0.heap.size ≤ gb); have NB := Aside0.mk ((by rw [hg]; exact Nat.ne_of_lt (blk_lt BK0.out)) : g ≠ gb); clear HO BK0 HB HK hbox hg hb; have HO := cQ; have BK0 := de; have HB := eH; have HK := n3_; clear cQ de eH n3_; have hz0 := (blk_cell BK1.out 0).trans rfl; have hz1 := (blk_cell BK1.out 1).trans rfl; have hz2 := (blk_cell BK1.out 2).trans rfl; have hz3 := (blk_cell BK1.out 3).trans rfl; have hz4 := (blk_cell BK1.out 4).trans rfl; have hz5 := (blk_cell BK1.out 5).trans rfl) | ((with_reducible refine gate_callee (f := 51) rfl ?_); refine goesL_ (some 8) rfl rfl Try.func51 Z16 rfl #[.agg #[.int .i64 b0, .int .i64 b1, .string b2, .string b3, .string b4, .int .i64 b5]] rfl (by (try simp only [List.map_toArray, List.map_cons, List.map_nil]); first | done | rfl) ?_; (with_reducible refine (rte_Put.calls b0 b1 b2 b3 b4 b5 t1 t2 _ A1.out).mono ?_); rintro e jH ⟨rfl, hb⟩; refine ⟨_, rfl, ?_⟩; have cQ := Aside0.mk (Kd.R_below (by (with_reducible repeat (first | apply Kd.R_alloc | apply Kd.R_drewN | apply Kd.R_drew)); exact HO.out) hb); have de := Aside0.mk (blk_below (g := g) (by (with_reducible repeat (first | refine blk_drewN ?_ _ | refine blk_drew ?_ | refine blk_alloc ?_ _)); exact BK0.out) hb); have eH := Aside0.mk (below_step Z0 hb); have n3_ := Aside0.mk (KeepBut.trans (by repeat (first | (with_reducible first | exact HK.out | apply keep_drewN | apply keep_drew) | exact HK.out)) (KeepBut.of_below hb g u.ownBlock) (.inl rfl)); clear HO BK0 BK1 HB HK hz0 hz1 hz2 hz3 hz4 hz5 hb; have HO := cQ; have BK0 := de; have HB := eH; have HK := n3_; clear cQ de eH n3_; have hz0 := (blk_cell BK0.out 0).trans rfl) | (at_builtin; refine print_append_str (w0 := w0) w0.heap.size rfl (.tmp 15) _ 38 9 5 rfl Try.underlying38 Try.underlying9 info5 u xs t1 rfl rfl ?aO ?aB ?aS ?aL ?_; (case aB => exact Z0); (case aO => exact (Kd.own_of_R (by (with_reducible repeat (first | apply Kd.R_alloc | apply Kd.R_drewN | apply Kd.R_drew)); exact HO.out))); (case aS => exact (below_size Z0)); (case aL => have := LM.out; omega); intro v2 w23 ho0 hb hg; have ho := Kd.R_of_own (h1 := fun _ => rfl) (ok := fun _ => True) ho0 (fun _ _ => trivial); clear ho0; rw [← Ny.out] at ho; change Kd.R (Kd.int .u8) 5 w23 w0.heap.size (fun _ => True) v2 ys at ho; have cQ := Aside0.mk ho; have de := Aside0.mk (blk_grown (g := g) (by (with_reducible repeat (first | refine blk_drewN ?_ _ | refine blk_drew ?_ | refine blk_alloc ?_ _)); exact BK0.out) hg (Kd.R_ne HO.out BK0.out Z18)); have eH := Aside0.mk hb; have n3_ := Aside0.mk (KeepBut.trans (by repeat (first | (with_reducible first | exact HK.out | apply keep_drewN | apply keep_drew) | exact HK.out)) (KeepBut.of_grown hg g) (.inl rfl)); clear HO BK0 HB HK hz0 ho hb hg; have HO := cQ; have BK0 := de; have HB := eH; have HK := n3_; clear cQ de eH n3_; have hz0 := (blk_cell BK0.out 0).trans rfl; have hf0 := blk_frozen BK0.out 0; obtain ⟨Ao2, co2, eo2⟩ := Kd.R_slice HO.out; subst eo2))
  go_end0
  exact ⟨rfl, _, (by (with_reducible repeat (first | refine blk_drewN ?_ _ | refine blk_drew ?_ | refine blk_alloc ?_ _)); refine blk_put (cs := #[u, .string nx]) ?_ 0 _ rfl; (with_reducible repeat (first | refine blk_drewN ?_ _ | refine blk_drew ?_ | refine blk_alloc ?_ _)); exact BK0.out), (by (with_reducible repeat (first | apply Kd.R_alloc | apply Kd.R_drewN | apply Kd.R_drew)); exact Kd.R_mono (Kd.R_far (p := ⟨g, 0, none⟩) (Kd.R_types HO.out BK0.out Z18) (fun _ hk => hk.2) _) (fun _ _ => trivial)), (by repeat (first | (with_reducible first | exact HB.out | apply below_alloc | apply pw_below_drewN | apply below_drew1 | refine below_set ?_ GE0.out) | exact HB.out)), (by repeat (first | (with_reducible first | exact HK.out | apply KeepBut.set_ | apply keep_drewN | apply keep_drew) | exact HK.out))⟩
 ·rw [if_neg c] at h
  exact absurd h Z36

/-! ### ripng_writer_route: function 32 -/
/-- What a writer that has xs, and for which the next hop nx holds, has behind a route: and which next hop holds. -/
def ripng_writer_route.f (xs : List Int) (nx : ByteArray) (a6 : ByteArray) (a7 a8 : Int) (a9 : ByteArray) (gI : Int) : Option (List Int × ByteArray) :=
 if a9.toList = nx.toList then (ripng_writer_put.f xs a7 a8 a6 ⟨#[]⟩ ⟨#[]⟩ gI).bind fun y => some (y, nx)
 else (ripng_writer_put.f xs 0 0 a9 ⟨#[]⟩ ⟨#[]⟩ 255).bind fun y => (ripng_writer_put.f y a7 a8 a6 ⟨#[]⟩ ⟨#[]⟩ gI).bind fun y2 => some (y2, a9)
set_option maxRecDepth 100000 in
theorem ripng_writer_route.bd19 (s : ByteArray) : Try.prog.built 47 [(2, .string s), (5, .int .i64 255)] = some #[.int .i64 0, .int .i64 0, .string s, .string ⟨#[]⟩, .string ⟨#[]⟩, .int .i64 255] := by kernel_rfl
set_option maxRecDepth 100000 in
theorem ripng_writer_route.bd30 (s : ByteArray) (x y z : Int) : Try.prog.built 47 [(2, .string s), (1, .int .i64 x), (0, .int .i64 y), (5, .int .i64 z)] = some #[.int .i64 y, .int .i64 x, .string s, .string ⟨#[]⟩, .string ⟨#[]⟩, .int .i64 z] := by kernel_rfl
set_option maxHeartbeats 8000000 in
set_option maxRecDepth 100000 in
theorem ripng_writer_route.calls (g : Nat) (u : Value) (nx : ByteArray) (xs : List Int) (a0 : Int) (a1 : Int) (a2 : Int) (a3 : ByteArray) (a4 : Int) (a5 : Int) (a6 : ByteArray) (a7 : Int) (a8 : Int) (a9 : ByteArray) (gI : Int) (gJ : ByteArray) (gK : Int) (gL : Int) (gM : Int) (gN : Int) (gO : Int) (gP : Int) (gQ : Int) (gR : ByteArray) (gS : ByteArray) (db : Option Addr) (n21 k21 : Nat) (gU : Int) (gV : ByteArray) (dd : Option Addr) (n24 k24 : Nat) (ys : List Int) (ny : ByteArray) (w0 w : World) (hB : Below w0.heap.size w0 w) (hg : w0.heap.size ≤ g) (hK : w.heap[g]? = some (.cells #[u, .string nx] 56 (0, 0))) (hR : Kd.R (Kd.int .u8) 5 w w0.heap.size (fun _ => True) u xs) (h : ripng_writer_route.f xs nx a6 a7 a8 a9 gI = some (ys, ny)) :
  Calls Try.prog 32 #[.pointer (some ⟨g, 0, none⟩), .agg #[.int .i64 a0, .int .i64 a1, .int .i64 a2, .string a3, .int .i64 a4, .int .i64 a5, .string a6, .int .i64 a7, .int .i64 a8, .string a9, .int .i64 gI, .string gJ, .int .i64 gK, .int .i64 gL, .int .i64 gM, .int .i64 gN, .int .i64 gO, .int .i64 gP, .int .i64 gQ, .string gR, .string gS, .slice db n21 k21, .int .i64 gU, .string gV, .slice dd n24 k24]] w fun e w' => e = .returned (.tuple #[]) ∧ ∃ u', w'.heap[g]? = some (.cells #[u', .string ny] 56 (0, 0)) ∧ Kd.R (Kd.int .u8) 5 w' w0.heap.size (fun _ => True) u' ys ∧ Below w0.heap.size w0 w' := by
 have hu56 := Try.underlying56
 have fu := Try.underlying34
 have fW := Try.underlying47
 unfold ripng_writer_route.f at h
 have HB := Aside0.mk hB
 have GE0 := Aside0.mk hg
 have BK0 := Aside0.mk hK
 have HO := Aside0.mk hR
 clear hB hg hK hR
 by_cases c : a9.toList = nx.toList
 ·rw [if_pos c] at h
  have c0 : (a9.toList == nx.toList) = true := beq_iff_eq.mpr c
  have c1 : (a9.toList != nx.toList) = false := bne_eq_false_iff_eq.mpr c
  clear c
  obtain ⟨y, h1, h3⟩ := Option.bind_eq_some_iff.mp h
  have A1 := Aside0.mk h1
  clear h h1
  simp only [Option.some.injEq, Prod.mk.injEq] at h3
  obtain ⟨rfl, rfl⟩ := h3
  go_enter Try.func32, Try.ntmps32
  have hgz1 := (blk_cell BK0.out 1).trans rfl
  go_wp2_with (first | ((with_reducible refine gate_dst (N := 3) rfl ?_); refine Sq.box 3 #[.int .i64 a0, .int .i64 a1, .int .i64 a2, .string a3, .int .i64 a4, .int .i64 a5, .string a6, .int .i64 a7, .int .i64 a8, .string a9, .int .i64 gI, .string gJ, .int .i64 gK, .int .i64 gL, .int .i64 gM, .int .i64 gN, .int .i64 gO, .int .i64 gP, .int .i64 gQ, .string gR, .string gS, .slice db n21 k21, .int .i64 gU, .string gV, .slice dd n24 k24] 34 ?_; intro gb hg w7 hbox hb; have cQ := Aside0.mk (Kd.R_below (by (with_reducible repeat (first | apply Kd.R_alloc | apply Kd.R_drewN | apply Kd.R_drew)); exact HO.out) hb); have de := Aside0.mk (blk_below (g := g) (by (with_reducible repeat (first | refine blk_drewN ?_ _ | refine blk_drew ?_ | refine blk_alloc ?_ _)); exact BK0.out) hb); have eH := Aside0.mk (below_step (by repeat (first | (with_reducible first | exact HB.out | apply below_alloc | apply pw_below_drewN | apply below_drew1 | refine below_set ?_ GE0.out) | exact HB.out)) hb); have BK1 := Aside0.mk hbox; have GE1 := Aside0.mk ((by rw [hg]; exact below_size HB.out) : w0.heap.size ≤ gb); have NB := Aside0.mk ((by rw [hg]; exact Nat.ne_of_lt (blk_lt BK0.out)) : g ≠ gb); clear HO BK0 HB hbox hg hb; have HO := cQ; have BK0 := de; have HB := eH; clear cQ de eH; have hz6 := (blk_cell BK1.out 6).trans rfl; have hz7 := (blk_cell BK1.out 7).trans rfl; have hz8 := (blk_cell BK1.out 8).trans rfl; have hz9 := (blk_cell BK1.out 9).trans rfl; have hz10 := (blk_cell BK1.out 10).trans rfl; clear hgz1; have hgz1 := (blk_cell BK0.out 1).trans rfl))
  go_region
  all_goals
   go_wp2_with (first | ((with_reducible refine gate_dst (N := 30) rfl ?_); refine Pre.build_event 30 47 [(2, .tmp 23), (1, .tmp 25), (0, .tmp 27), (5, .tmp 29)] rfl rfl rfl (ripng_writer_route.bd30 _ _ _ _) ?_) | ((with_reducible refine gate_callee (f := 46) rfl ?_); refine goesL_ (some 31) rfl rfl Try.func46 Z16 rfl #[.pointer (some ⟨g, 0, none⟩), .agg #[.int .i64 a7, .int .i64 a8, .string a6, .string ⟨#[]⟩, .string ⟨#[]⟩, .int .i64 gI]] rfl (by (try simp only [List.map_toArray, List.map_cons, List.map_nil]); first | done | rfl) ?_; (with_reducible refine (ripng_writer_put.calls g u nx xs a7 a8 a6 ⟨#[]⟩ ⟨#[]⟩ gI y w0 _ (by repeat (first | (with_reducible first | exact HB.out | apply below_alloc | apply pw_below_drewN | apply below_drew1 | refine below_set ?_ GE0.out) | exact HB.out)) GE0.out (by (with_reducible repeat (first | refine blk_drewN ?_ _ | refine blk_drew ?_ | refine blk_alloc ?_ _)); exact BK0.out) (by (with_reducible repeat (first | apply Kd.R_alloc | apply Kd.R_drewN | apply Kd.R_drew)); exact HO.out) A1.out).mono ?_); rintro e jH ⟨rfl, u1, hk, hr, hb, hkb⟩; refine ⟨_, rfl, ?_⟩; have KX := Aside0.mk (And.intro hk (And.intro hr hb)); clear hk hr hb hkb))
   go_end0
   exact ⟨rfl, u1, KX.out.1, KX.out.2.1, KX.out.2.2⟩
 ·rw [if_neg c] at h
  have c0 : (a9.toList == nx.toList) = false := beq_eq_false_iff_ne.mpr c
  have c1 : (a9.toList != nx.toList) = true := bne_iff_ne.mpr c
  clear c
  obtain ⟨y, h1, h3⟩ := Option.bind_eq_some_iff.mp h
  obtain ⟨y2, h2, h4⟩ := Option.bind_eq_some_iff.mp h3
  have A1 := Aside0.mk h1
  have A2 := Aside0.mk h2
  clear h h1 h2 h3
  simp only [Option.some.injEq, Prod.mk.injEq] at h4
  obtain ⟨rfl, rfl⟩ := h4
  go_enter Try.func32, Try.ntmps32
  have hgz1 := (blk_cell BK0.out 1).trans rfl
  go_wp2_with (first | ((with_reducible refine gate_dst (N := 3) rfl ?_); refine Sq.box 3 #[.int .i64 a0, .int .i64 a1, .int .i64 a2, .string a3, .int .i64 a4, .int .i64 a5, .string a6, .int .i64 a7, .int .i64 a8, .string a9, .int .i64 gI, .string gJ, .int .i64 gK, .int .i64 gL, .int .i64 gM, .int .i64 gN, .int .i64 gO, .int .i64 gP, .int .i64 gQ, .string gR, .string gS, .slice db n21 k21, .int .i64 gU, .string gV, .slice dd n24 k24] 34 ?_; intro gb hg w7 hbox hb; have cQ := Aside0.mk (Kd.R_below (by (with_reducible repeat (first | apply Kd.R_alloc | apply Kd.R_drewN | apply Kd.R_drew)); exact HO.out) hb); have de := Aside0.mk (blk_below (g := g) (by (with_reducible repeat (first | refine blk_drewN ?_ _ | refine blk_drew ?_ | refine blk_alloc ?_ _)); exact BK0.out) hb); have eH := Aside0.mk (below_step (by repeat (first | (with_reducible first | exact HB.out | apply below_alloc | apply pw_below_drewN | apply below_drew1 | refine below_set ?_ GE0.out) | exact HB.out)) hb); have BK1 := Aside0.mk hbox; have GE1 := Aside0.mk ((by rw [hg]; exact below_size HB.out) : w0.heap.size ≤ gb); have NB := Aside0.mk ((by rw [hg]; exact Nat.ne_of_lt (blk_lt BK0.out)) : g ≠ gb); clear HO BK0 HB hbox hg hb; have HO := cQ; have BK0 := de; have HB := eH; clear cQ de eH; have hz6 := (blk_cell BK1.out 6).trans rfl; have hz7 := (blk_cell BK1.out 7).trans rfl; have hz8 := (blk_cell BK1.out 8).trans rfl; have hz9 := (blk_cell BK1.out 9).trans rfl; have hz10 := (blk_cell BK1.out 10).trans rfl; clear hgz1; have hgz1 := (blk_cell BK0.out 1).trans rfl))
  have hq1 := blk_frozen BK0.out 1
  go_region
  all_goals
   go_wp2_with (first | ((with_reducible refine gate_dst (N := 19) rfl ?_); refine Pre.build_event 19 47 [(2, .tmp 18), (5, .const (.int .i64 255))] rfl rfl rfl (ripng_writer_route.bd19 _) ?_) | ((with_reducible refine gate_dst (N := 30) rfl ?_); refine Pre.build_event 30 47 [(2, .tmp 23), (1, .tmp 25), (0, .tmp 27), (5, .tmp 29)] rfl rfl rfl (ripng_writer_route.bd30 _ _ _ _) ?_) | ((with_reducible refine gate_callee (f := 46) rfl ?_); refine goesL_ (some 20) rfl rfl Try.func46 Z16 rfl #[.pointer (some ⟨g, 0, none⟩), .agg #[.int .i64 0, .int .i64 0, .string a9, .string ⟨#[]⟩, .string ⟨#[]⟩, .int .i64 255]] rfl (by (try simp only [List.map_toArray, List.map_cons, List.map_nil]); first | done | rfl) ?_; (with_reducible refine (ripng_writer_put.calls g u a9 xs 0 0 a9 ⟨#[]⟩ ⟨#[]⟩ 255 y w0 _ (by repeat (first | (with_reducible first | exact HB.out | apply below_alloc | apply pw_below_drewN | apply below_drew1 | refine below_set ?_ GE0.out) | exact HB.out)) GE0.out (by (with_reducible repeat (first | refine blk_drewN ?_ _ | refine blk_drew ?_ | refine blk_alloc ?_ _)); refine blk_put (cs := #[u, .string nx]) ?_ 1 _ rfl; (with_reducible repeat (first | refine blk_drewN ?_ _ | refine blk_drew ?_ | refine blk_alloc ?_ _)); exact BK0.out) (by refine Kd.R_mono (ok := fun k => True ∧ k ≠ g) ?_ (fun _ _ => trivial); repeat (first | exact Kd.R_types HO.out BK0.out Z18 | refine Kd.R_far ?_ (fun _ hk => hk.2) _ | (with_reducible refine Kd.R_drewN ?_ _) | (with_reducible refine Kd.R_drew ?_) | (with_reducible refine Kd.R_alloc ?_ _))) A1.out).mono ?_); rintro e jH ⟨rfl, u1, hk, hr, hb, hkb⟩; refine ⟨_, rfl, ?_⟩; have cQ := Aside0.mk hk; have de := Aside0.mk hr; have eH := Aside0.mk hb; have n3_ := Aside0.mk (KeepBut.blk hkb (g' := gb) (o := .cells #[.int .i64 a0, .int .i64 a1, .int .i64 a2, .string a3, .int .i64 a4, .int .i64 a5, .string a6, .int .i64 a7, .int .i64 a8, .string a9, .int .i64 gI, .string gJ, .int .i64 gK, .int .i64 gL, .int .i64 gM, .int .i64 gN, .int .i64 gO, .int .i64 gP, .int .i64 gQ, .string gR, .string gS, .slice db n21 k21, .int .i64 gU, .string gV, .slice dd n24 k24] 34 (0, 0)) (by (with_reducible repeat (first | refine blk_drewN ?_ _ | refine blk_drew ?_ | refine blk_alloc ?_ _)); refine blk_far (p := ⟨g, 1, none⟩) ?_ NB.out.symm _; (with_reducible repeat (first | refine blk_drewN ?_ _ | refine blk_drew ?_ | refine blk_alloc ?_ _)); exact BK1.out) NB.out.symm (Kd.R_ne HO.out BK1.out Z18)); clear BK0 HO HB BK1 hgz1 hq1 hz6 hz7 hz8 hz9 hz10 hk hr hb hkb; have BK0 := cQ; have HO := de; have HB := eH; have BK1 := n3_; clear cQ de eH n3_; have hz6 := (blk_cell BK1.out 6).trans rfl; have hz7 := (blk_cell BK1.out 7).trans rfl; have hz8 := (blk_cell BK1.out 8).trans rfl; have hz10 := (blk_cell BK1.out 10).trans rfl) | ((with_reducible refine gate_callee (f := 46) rfl ?_); refine goesL_ (some 31) rfl rfl Try.func46 Z16 rfl #[.pointer (some ⟨g, 0, none⟩), .agg #[.int .i64 a7, .int .i64 a8, .string a6, .string ⟨#[]⟩, .string ⟨#[]⟩, .int .i64 gI]] rfl (by (try simp only [List.map_toArray, List.map_cons, List.map_nil]); first | done | rfl) ?_; (with_reducible refine (ripng_writer_put.calls g u1 a9 y a7 a8 a6 ⟨#[]⟩ ⟨#[]⟩ gI y2 w0 _ (by repeat (first | (with_reducible first | exact HB.out | apply below_alloc | apply pw_below_drewN | apply below_drew1 | refine below_set ?_ GE0.out) | exact HB.out)) GE0.out (by (with_reducible repeat (first | refine blk_drewN ?_ _ | refine blk_drew ?_ | refine blk_alloc ?_ _)); exact BK0.out) (by (with_reducible repeat (first | apply Kd.R_alloc | apply Kd.R_drewN | apply Kd.R_drew)); exact HO.out) A2.out).mono ?_); rintro e jH ⟨rfl, u2, hk, hr, hb, hkb⟩; refine ⟨_, rfl, ?_⟩; have KX := Aside0.mk (And.intro hk (And.intro hr hb)); clear hk hr hb hkb))
   go_end0
   exact ⟨rfl, u2, KX.out.1, KX.out.2.1, KX.out.2.2⟩

end Go.Proofs.Ytnifhgackjkkbaa.PN
