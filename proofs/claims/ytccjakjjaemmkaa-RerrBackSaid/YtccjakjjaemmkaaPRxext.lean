-- Written by mp.py, a program of this work (wip/tools), out of the translation; Lean checks it.
import Derived.Test.YtccjakjjaemmkaaPRxZ
import Derived.Test.YtccjakjjaemmkaaPRxcursor
import Derived.Test.YtccjakjjaemmkaaPRxmsg
import Derived.Test.YtccjakjjaemmkaaMake0
namespace Go.Proofs.Ytccjakjjaemmkaa.PR
open Go.RowKit Go.Proofs.YtccjakjjaemmkaaW.PrintWords Go.Proofs.YtccjakjjaemmkaaW.PrintLast Go.Proofs.YtccjakjjaemmkaaW.PrintMore
attribute [local go_sem] max2_int min2_int max_two min_two max_three min_three max_four min_four   -- for this text's walks alone
set_option linter.unusedVariables false
set_option linter.unusedSimpArgs false

/-! ### ext_Right: function 55 -/
def ext_Right.f (k : Nat) (l0 : List (S48)) : Option (Bool) := (msg_Subs.f k l0 0 255).bind fun ci => (some ci)
theorem ext_Right.mono : ∀ a0 k, LeO (ext_Right.f k a0) (ext_Right.f (k + 1) a0) := by
 intro a0 k
 unfold ext_Right.f
 repeat' first
   | (with_reducible exact msg_Subs.mono _ _ _ _)
   | (with_reducible exact LeO.refl _)
   | (with_reducible exact LeO.none _)
   | (with_reducible refine LeO.ite ?_ ?_)
   | (with_reducible refine LeO.bind ?_ (fun _ => ?_))
   | exact msg_Subs.mono _ _ _ _
   | exact LeO.none _
   | refine LeO.ite ?_ ?_
   | refine LeO.bind ?_ (fun _ => ?_)
set_option maxHeartbeats 8000000 in
set_option maxRecDepth 100000 in
theorem ext_Right.calls (k : Nat) (A0 : Option Addr) (c0 : Nat) (l0 : List (S48)) (r : Bool) (w : World) (ka : Kd.C k48 w A0 l0.length l0) (iM : l0.length ≤ c0) (h : ext_Right.f k l0 = some r) :
  Calls Try.prog 55 #[.slice A0 l0.length c0] w fun e w' => e = .returned (.bool r) ∧ Below w.heap.size w w' := by
 have js := Aside0.mk ka
 have mD := Aside0.mk iM
 clear ka iM
 have HB := Aside0.mk (Below.refl w.heap.size w)
 have H : ((msg_Subs.f k l0 0 255).bind fun ci => (some ci)) = some r := h
 clear h
 replace H := Option.bind_eq_some_iff.mp H
 obtain ⟨ci, gN, H⟩ := H
 replace H : (some ci) = some r := H
 have A2 := Aside0.mk gN
 clear gN
 obtain rfl := Option.some.inj H
 go_enter Try.func55, Try.ntmps55
 go_wp2_with (first | ((with_reducible refine gate_callee (f := 74) rfl ?_); refine goesL_ (some 4) rfl rfl Try.func74 Z6 rfl #[.slice A0 l0.length c0, .int .i64 0, .int .i64 255] rfl Z5 ?_; (with_reducible refine (msg_Subs.calls k _ _ l0 0 255 ci _ ?side1 ?side2 A2.out).mono ?_); (case side1 => exact Z85); (case side2 => exact mD.out); rintro e w3 ⟨rfl, hb⟩; refine ⟨_, rfl, ?_⟩; have aG := Aside0.mk (below_step Z3 hb); replace HB := aG; clear aG; (try clear hb); (try clear hb2); (try clear hk); (try clear hi)))
 go_ret
 exact ⟨Z9, Z3⟩

/-! ### ext_Put: function 49 -/
def ext_Put.l0 : Nat → List Int → List (S48) → Int → Int → Option (ByteArray × Bool)
 | 0, _, _, _, _ => none
 | k + 1, x4, sk, wH, qO => if qO < wH then (if 0 ≤ qO then (if qO < (sk.length : Int) then ((some (([((rd_T48 sk qO).f0) % 256, ((((rd_T48 sk qO).f1).size : Int)) % 256] : List Int) : List Int)).bind fun lO => (if x4.length + lO.length < 140737488355328 then ((some (x4 ++ lO : List Int)).bind fun kU => (if kU.length + ((rd_T48 sk qO).f1).size < 140737488355328 then (ext_Put.l0 k (kU ++ bytesOf ((rd_T48 sk qO).f1)) sk wH (wrap64 (qO + 1))) else (none))) else (none))) else (none)) else (none)) else (some (strOfNums x4, true))
def ext_Put.f (k : Nat) (l0 : List (S48)) : Option (ByteArray × Bool) := (ext_Right.f k l0).bind fun ci => (if ci = true then ((msg_Bytes.f k l0).bind fun ba => (if 0 ≤ ba then (if (ba : Int).toNat ≤ 281474976710656 then (ext_Put.l0 k (List.nil) l0 (l0.length : Int) 0) else (none)) else (none))) else (some ((⟨#[]⟩ : ByteArray), false)))
theorem ext_Put.mono_l : ∀ k, (∀ y0 y1 y2 y3, LeO (ext_Put.l0 k y0 y1 y2 y3) (ext_Put.l0 (k + 1) y0 y1 y2 y3))
 | 0 => fun _ _ _ _ r h => by simp [ext_Put.l0] at h
 | k + 1 => by
  have ih0 := ext_Put.mono_l k
  ·intro y0 y1 y2 y3
   unfold ext_Put.l0
   repeat' first
   | (with_reducible exact ih0 ..)
   | (with_reducible exact ext_Right.mono _ _)
   | (with_reducible exact msg_Bytes.mono _ _)
   | (with_reducible exact LeO.refl _)
   | (with_reducible exact LeO.none _)
   | (with_reducible refine LeO.ite ?_ ?_)
   | (with_reducible refine LeO.bind ?_ (fun _ => ?_))
   | exact ih0 ..
   | exact ext_Right.mono _ _
   | exact msg_Bytes.mono _ _
   | exact LeO.none _
   | refine LeO.ite ?_ ?_
   | refine LeO.bind ?_ (fun _ => ?_)
theorem ext_Put.mono : ∀ a0 k, LeO (ext_Put.f k a0) (ext_Put.f (k + 1) a0) := by
 intro a0 k
 have ih0 := ext_Put.mono_l k
 unfold ext_Put.f
 repeat' first
   | (with_reducible exact ih0 ..)
   | (with_reducible exact ext_Right.mono _ _)
   | (with_reducible exact msg_Bytes.mono _ _)
   | (with_reducible exact LeO.refl _)
   | (with_reducible exact LeO.none _)
   | (with_reducible refine LeO.ite ?_ ?_)
   | (with_reducible refine LeO.bind ?_ (fun _ => ?_))
   | exact ih0 ..
   | exact ext_Right.mono _ _
   | exact msg_Bytes.mono _ _
   | exact LeO.none _
   | refine LeO.ite ?_ ?_
   | refine LeO.bind ?_ (fun _ => ?_)
set_option maxHeartbeats 8000000 in
set_option maxRecDepth 100000 in
theorem ext_Put.calls (k : Nat) (A0 : Option Addr) (c0 : Nat) (l0 : List (S48)) (r1 : ByteArray) (r2 : Bool) (w : World) (ka : Kd.C k48 w A0 l0.length l0) (iM : l0.length ≤ c0) (h : ext_Put.f k l0 = some (r1, r2)) :
  Calls Try.prog 49 #[.slice A0 l0.length c0] w fun e w' => e = .returned (.tuple #[.string r1, .bool r2]) ∧ Below w.heap.size w w' := by
 have pj := Try.underlying48
 have js := Aside0.mk ka
 have mD := Aside0.mk iM
 clear ka iM
 have HB := Aside0.mk (Below.refl w.heap.size w)
 have H : ((ext_Right.f k l0).bind fun ci => (if ci = true then ((msg_Bytes.f k l0).bind fun ba => (if 0 ≤ ba then (if (ba : Int).toNat ≤ 281474976710656 then (ext_Put.l0 k (List.nil) l0 (l0.length : Int) 0) else (none)) else (none))) else (some ((⟨#[]⟩ : ByteArray), false)))) = some (r1, r2) := h
 clear h
 replace H := Option.bind_eq_some_iff.mp H
 obtain ⟨ci, gN, H⟩ := H
 replace H : (if ci = true then ((msg_Bytes.f k l0).bind fun ba => (if 0 ≤ ba then (if (ba : Int).toNat ≤ 281474976710656 then (ext_Put.l0 k (List.nil) l0 (l0.length : Int) 0) else (none)) else (none))) else (some ((⟨#[]⟩ : ByteArray), false))) = some (r1, r2) := H
 have A2 := Aside0.mk gN
 clear gN
 by_cases c3 : ci = true
 ·subst c3
  have H1 : ((msg_Bytes.f k l0).bind fun ba => (if 0 ≤ ba then (if (ba : Int).toNat ≤ 281474976710656 then (ext_Put.l0 k (List.nil) l0 (l0.length : Int) 0) else (none)) else (none))) = some (r1, r2) := by rw [if_pos rfl] at H; exact H
  clear H
  have H := H1
  clear H1
  replace H := Option.bind_eq_some_iff.mp H
  obtain ⟨ba, jA, H⟩ := H
  replace H : (if 0 ≤ ba then (if (ba : Int).toNat ≤ 281474976710656 then (ext_Put.l0 k (List.nil) l0 (l0.length : Int) 0) else (none)) else (none)) = some (r1, r2) := H
  have A4 := Aside0.mk jA
  clear jA
  by_cases c5 : 0 ≤ ba
  ·rw [if_pos c5] at H
   have hm := eq_true c5
   have jC : decide (0 ≤ ba) = true := decide_eq_true c5
   clear c5
   by_cases c6 : (ba : Int).toNat ≤ 281474976710656
   ·rw [if_pos c6] at H
    have gZ := eq_true c6
    have ii : decide ((ba : Int).toNat ≤ 281474976710656) = true := decide_eq_true c6
    clear c6
    obtain ⟨fb, hy103⟩ : ∃ y_ : List Int, y_ = (List.nil) := ⟨_, rfl⟩
    replace H : (ext_Put.l0 k fb l0 (l0.length : Int) 0) = some (r1, r2) := by first | (rw [hy103]; with_reducible exact H) | (have H2_ := (Option.bind_some _ _).symm.trans H; rw [hy103]; with_reducible exact H2_) | (have H2_ := (Option.bind_some _ _).symm.trans H; with_reducible exact H2_) | with_reducible exact H | (rw [hy103]; exact H) | exact H
    have Ny103 := Aside0.mk hy103
    clear hy103
    have H' := Aside0.mk H
    clear H
    go_enter Try.func49, Try.ntmps49
    go_wp2_with (first | ((with_reducible refine gate_callee (f := 55) rfl ?_); refine goesL_ (some 8) rfl rfl Try.func55 Z6 rfl #[.slice A0 l0.length c0] rfl Z5 ?_; (with_reducible refine (ext_Right.calls k _ _ l0 true _ ?side1 ?side2 A2.out).mono ?_); (case side1 => exact Z85); (case side2 => exact mD.out); rintro e w7 ⟨rfl, hb⟩; refine ⟨_, rfl, ?_⟩; have aG := Aside0.mk (below_step Z3 hb); replace HB := aG; clear aG; (try clear hb); (try clear hb2); (try clear hk); (try clear hi)) | ((with_reducible refine gate_callee (f := 71) rfl ?_); refine goesL_ (some 11) rfl rfl Try.func71 Z6 rfl #[.slice A0 l0.length c0] rfl Z5 ?_; (with_reducible refine (msg_Bytes.calls k _ _ l0 ba _ ?side1 ?side2 A4.out).mono ?_); (case side1 => exact (by repeat (first | exact (Kd.C_below js.out HB.out) | (with_reducible refine Kd.C_alloc ?_ _) | (with_reducible refine Kd.C_drewN ?_ _) | (with_reducible refine Kd.C_drew ?_)))); (case side2 => exact mD.out); rintro e w8 ⟨rfl, hb⟩; refine ⟨_, rfl, ?_⟩; have aG := Aside0.mk (below_step Z3 hb); replace HB := aG; clear aG; (try clear hb); (try clear hb2); (try clear hk); (try clear hi)) | ((with_reducible refine gate_dst (N := 12) rfl ?_); refine Pre.R_make0 (Kd.int .u8) _ 5 rfl (N := 12) rfl 51 _ _ rfl ba rfl rfl Try.underlying51 (.int .u8 0) 1 info5 rfl Z32 Z55 0 (ok := fun _ => True) (okp := fun _ => True) rfl (fun _ hk => hk) trivial (of_decide_eq_true Z10) (Nat.le_trans (Nat.mul_le_mul_right _ (of_decide_eq_true Z10 : ba.toNat ≤ 281474976710656)) Z55) (Below.refl _ _) (Nat.le_refl _) ?_; intro qZ w9 ho10 hb hg_ hnew_; clear hg_ hnew_; (first | rw [← Ny103.out] at ho10 | (simp only [Int.reduceToNat] at ho10; rw [← Ny103.out] at ho10)); have aG := Aside0.mk (Kd.R_lower ho10 (below_size Z3)); have aH := Aside0.mk (below_step Z3 hb); have lw := aG; replace HB := aH; clear aG aH; clear hb ho10))
    go_loopg [4, 15] k (fun kq v4 kd w' => ∃ (cI : List Int) (dv : Int), kd = .int .i64 dv ∧ Aside0 (ext_Put.l0 kq cI l0 (l0.length : Int) dv = some (r1, r2)) ∧ Aside0 (kq ≤ k) ∧ Aside0 (Kd.R (Kd.int .u8) 5 w' w.heap.size (fun _ => True) v4 cI) ∧ Aside0 (Below w.heap.size w w'))
    case atStart => exact ⟨(fb), (0), Z14, H', ⟨Nat.le_refl _⟩, ⟨Z117⟩, ⟨Z3⟩⟩
    case round =>
     clear H'
     try clear p2
     try clear c3
     try clear c4
     try clear c5
     try clear hm
     try clear jC
     try clear c6
     try clear gZ
     try clear ii
     try clear c7
     obtain ⟨cI, dv, rfl, HA, HK1, HO_4, HB⟩ := hrel
     cases gk with
     | zero => exact absurd HA.out (by simp [ext_Put.l0])
     | succ k1 =>
      have H := HA.out
      clear HA
      simp only [ext_Put.l0] at H
      by_cases cU : dv < (l0.length : Int)
      ·rw [if_pos cU] at H
       have fE : decide (dv < (l0.length : Int)) = true := decide_eq_true cU
       clear cU
       by_cases hf : 0 ≤ dv
       ·rw [if_pos hf] at H
        have jZ : decide (0 ≤ dv) = true := decide_eq_true hf
        clear hf
        by_cases dB : dv < (l0.length : Int)
        ·rw [if_pos dB] at H
         have gF : decide (dv < (l0.length : Int)) = true := decide_eq_true dB
         clear dB
         obtain ⟨lO, hy108⟩ : ∃ y_ : List Int, y_ = (([((rd_T48 l0 dv).f0) % 256, ((((rd_T48 l0 dv).f1).size : Int)) % 256] : List Int)) := ⟨_, rfl⟩
         replace H : (if cI.length + lO.length < 140737488355328 then ((some (cI ++ lO : List Int)).bind fun kU => (if kU.length + ((rd_T48 l0 dv).f1).size < 140737488355328 then (ext_Put.l0 k1 (kU ++ bytesOf ((rd_T48 l0 dv).f1)) l0 (l0.length : Int) (wrap64 (dv + 1))) else (none))) else (none)) = some (r1, r2) := by first | (rw [hy108]; with_reducible exact H) | (have H2_ := (Option.bind_some _ _).symm.trans H; rw [hy108]; with_reducible exact H2_) | (have H2_ := (Option.bind_some _ _).symm.trans H; with_reducible exact H2_) | with_reducible exact H | (rw [hy108]; exact H) | exact H
         have Ny108 := Aside0.mk hy108
         clear hy108
         by_cases gW : cI.length + lO.length < 140737488355328
         ·rw [if_pos gW] at H
          have LMc14 := Aside0.mk gW
          clear gW
          obtain ⟨kU, hy111⟩ : ∃ y_ : List Int, y_ = (cI ++ lO) := ⟨_, rfl⟩
          replace H : (if kU.length + ((rd_T48 l0 dv).f1).size < 140737488355328 then (ext_Put.l0 k1 (kU ++ bytesOf ((rd_T48 l0 dv).f1)) l0 (l0.length : Int) (wrap64 (dv + 1))) else (none)) = some (r1, r2) := by first | (rw [hy111]; with_reducible exact H) | (have H2_ := (Option.bind_some _ _).symm.trans H; rw [hy111]; with_reducible exact H2_) | (have H2_ := (Option.bind_some _ _).symm.trans H; with_reducible exact H2_) | with_reducible exact H | (rw [hy111]; exact H) | exact H
          have Ny111 := Aside0.mk hy111
          clear hy111
          by_cases fd : kU.length + ((rd_T48 l0 dv).f1).size < 140737488355328
          ·rw [if_pos fd] at H
           have LMc15 := Aside0.mk fd
           clear fd
           obtain ⟨ru, hy114⟩ : ∃ y_ : List Int, y_ = (kU ++ bytesOf ((rd_T48 l0 dv).f1)) := ⟨_, rfl⟩
           replace H : (ext_Put.l0 k1 ru l0 (l0.length : Int) (wrap64 (dv + 1))) = some (r1, r2) := by first | (rw [hy114]; with_reducible exact H) | (have H2_ := (Option.bind_some _ _).symm.trans H; rw [hy114]; with_reducible exact H2_) | (have H2_ := (Option.bind_some _ _).symm.trans H; with_reducible exact H2_) | with_reducible exact H | (rw [hy114]; exact H) | exact H
           have Ny114 := Aside0.mk hy114
           clear hy114
           have H' := Aside0.mk H
           clear H
           have p106 : 0 ≤ (dv : Int) := of_decide_eq_true Z10
           have q106 : dv < (l0.length : Int) := of_decide_eq_true Z10
           obtain ⟨ad106, e106, hx106_0, hx106_1⟩ := at_T48 js.out dv p106 q106
           cases e106
           replace hx106_0 := (HB.out.cell (World.block_lt_of_cell? w _ hx106_0)).trans hx106_0
           replace hx106_1 := (HB.out.cell (World.block_lt_of_cell? w _ hx106_1)).trans hx106_1
           replace p106 := eq_true p106
           replace q106 := eq_true q106
           go_wp2_with (first | ((with_reducible refine gate_dst (N := 6) rfl ?_); refine box_event ?hg (N := 6) ?hd (cs := #[.int .i64 0, .string ⟨#[]⟩]) (t := 48) ?hr ?_; (case hd => rfl); (case hg => rfl); (case hr => first | (go_simp; done) | (go_simp; rfl)); intro cd hg lR hbox hb; have aG := Aside0.mk (Kd.R_below Z113 hb); have aH := Aside0.mk (below_step Z3 hb); have aI := Aside0.mk (hbox); have aZ := Aside0.mk ((by rw [hg]; exact (below_size Z3) : w.heap.size ≤ cd)); have bH := Aside0.mk ((by rw [hg]; exact (below_size Z3) : w.heap.size ≤ cd)); replace HO_4 := aG; replace HB := aH; have bX := aI; have ng := aZ; have jz := bH; clear aG aH aI aZ bH; clear hb hbox hg; have pV : lR.cell? ⟨cd, 0, none⟩ = some (.int .i64 0) := (blk_cell bX.out 0).trans rfl; have pW : lR.cell? ⟨cd, 1, none⟩ = some (.string ⟨#[]⟩) := (blk_cell bX.out 1).trans rfl; have hfz17_0 := blk_frozen bX.out 0; have hfz17_1 := blk_frozen bX.out 1) | ((with_reducible refine gate_dst (N := 27) rfl ?_); refine Kd.R_lit (Kd.int .u8) _ 5 ?hg (N := 27) ?hd (xs := ([((rd_T48 l0 dv).f0) % 256, ((((rd_T48 l0 dv).f1).size : Int)) % 256] : List Int)) (inner := [.int .u8 (((rd_T48 l0 dv).f0) % 256), .int .u8 (((((rd_T48 l0 dv).f1).size : Int)) % 256)]) (ok := fun _ => True) (okp := fun _ => True) ?hr ?hp (fun _ hk => hk) trivial (Below.refl _ _) (Nat.le_refl _) Z73 ?_; (case hd => rfl); (case hg => rfl); (case hr => first | (go_simp; done) | (go_simp; rfl)); (case hp => exact (Reps.one (show Kd.M (Kd.int .u8) _ _ _ (((rd_T48 l0 dv).f0) % 256) [.int .u8 (((rd_T48 l0 dv).f0) % 256)] from rfl) (Reps.one (show Kd.M (Kd.int .u8) _ _ _ (((((rd_T48 l0 dv).f1).size : Int)) % 256) [.int .u8 (((((rd_T48 l0 dv).f1).size : Int)) % 256)] from rfl) (Reps.none _ _)))); intro v109 kh ho19 hb hg_ hnew_; clear hg_ hnew_; (first | rw [← Ny108.out] at ho19 | (simp only [Int.reduceToNat] at ho19; rw [← Ny108.out] at ho19)); have aG := Aside0.mk (Kd.R_elder' Z111 (Kd.R_base ho19) hb); have aH := Aside0.mk (Kd.R_lower (Kd.R_new' ho19 (Kd.R_lt Z111)) (below_size Z63)); have aI := Aside0.mk (blk_below (g := cd) (o := .cells #[.int .i64 ((rd_T48 l0 dv).f0), .string ((rd_T48 l0 dv).f1)] 48 (0, 0)) (by (with_reducible repeat (first | refine blk_drewN ?_ _ | refine blk_drew ?_ | refine blk_alloc ?_ _)); refine blk_put (cs := #[.int .i64 ((rd_T48 l0 dv).f0), .string ⟨#[]⟩]) ?_ 1 _ rfl; (with_reducible repeat (first | refine blk_drewN ?_ _ | refine blk_drew ?_ | refine blk_alloc ?_ _)); refine blk_put (cs := #[.int .i64 0, .string ⟨#[]⟩]) ?_ 0 _ rfl; (with_reducible repeat (first | refine blk_drewN ?_ _ | refine blk_drew ?_ | refine blk_alloc ?_ _)); exact bX.out) hb); have aZ := Aside0.mk (below_step Z63 hb); replace HO_4 := aG; have mx := aH; replace bX := aI; replace HB := aZ; clear aG aH aI aZ; clear hb ho19; obtain ⟨kk, kl, eo21⟩ := Kd.R_slice mx.out; subst eo21) | ((with_reducible refine gate_builtin (b := .append) (xs := #[.tmp 19, .tmp 27]) rfl ?_); at_builtin; refine Kd.R_append_rows (Kd.int .u8) (w0 := w) w.heap.size rfl (.tmp 19) (.tmp 27) 51 5 (.int .u8 0) 1 rfl Try.underlying51 info5 rfl Z32 Z55 u4 cI lO _ _ _ (fun k_ => some k_ ≠ (.slice kk lO.length kl : Value).ownBlock) (fun _ => False) rfl rfl ?aO ?aR (fun _ _ h => h) (fun _ h => h.elim) ?aF ?aB ?aS ?aL ?_; (case aR => repeat (first | exact (Kd.R_reads' mx.out).2.2 | (with_reducible refine Kd.C_alloc ?_ _) | (with_reducible refine Kd.C_drewN ?_ _) | (with_reducible refine Kd.C_drew ?_))); (case aB => exact Z63); (case aF => exact (fun k_ hk => Kd.fresh' (Kd.R_lt (by (with_reducible repeat (first | apply Kd.R_alloc | apply Kd.R_drewN | apply Kd.R_drew)); exact mx.out)) k_ hk)); (case aO => exact (by (with_reducible repeat (first | apply Kd.R_alloc | apply Kd.R_drewN | apply Kd.R_drew)); exact Kd.R_mono HO_4.out (fun _ hk => hk.2))); (case aS => exact (below_size Z63)); (case aL => have := LMc14.out; omega); intro vO kG ho hb hg hat; rw [← Ny111.out] at ho; have aG := Aside0.mk (blk_grown (g := cd) (o := .cells #[.int .i64 ((rd_T48 l0 dv).f0), .string ((rd_T48 l0 dv).f1)] 48 (0, 0)) Z46 hg (Kd.R_ne HO_4.out bX.out Z32)); have aH := Aside0.mk (Kd.R_after (ok := (fun _ => True)) (by (with_reducible repeat (first | apply Kd.R_alloc | apply Kd.R_drewN | apply Kd.R_drew)); exact mx.out) hg hat); have aI := Aside0.mk (hb); have aZ := Aside0.mk (ho); clear HO_4; replace bX := aG; replace mx := aH; replace HB := aI; have pr := aZ; clear aG aH aI aZ; clear ho hb hg hat; have hcz22_0 : kG.cell? ⟨cd, 0, none⟩ = some (.int .i64 ((rd_T48 l0 dv).f0)) := (blk_cell bX.out 0).trans rfl; have hcz22_1 : kG.cell? ⟨cd, 1, none⟩ = some (.string ((rd_T48 l0 dv).f1)) := (blk_cell bX.out 1).trans rfl; have hfz22_0 := blk_frozen bX.out 0; have hfz22_1 := blk_frozen bX.out 1) | (at_builtin; refine print_append_str (w0 := w) w.heap.size rfl (.tmp 29) _ 51 9 5 rfl Try.underlying51 Try.underlying9 info5 vO kU ((rd_T48 l0 dv).f1) rfl rfl ?aO ?aB ?aS ?aL ?_; (case aB => exact Z63); (case aO => exact (Kd.own_of_R (by (with_reducible repeat (first | apply Kd.R_alloc | apply Kd.R_drewN | apply Kd.R_drew)); exact Kd.R_mono pr.out (fun _ hk => trivial)))); (case aS => exact (below_size Z63)); (case aL => have := LMc15.out; omega); intro vP gn ho0 hb hg; have ho := Kd.R_of_own (h1 := fun _ => rfl) (ok := fun _ => True) ho0 (fun _ _ => trivial); clear ho0; have hat := True.intro; rw [← Ny114.out] at ho; change Kd.R (Kd.int .u8) 5 gn w.heap.size (fun _ => True) vP ru at ho; have aG := Aside0.mk (blk_grown (g := cd) (o := .cells #[.int .i64 ((rd_T48 l0 dv).f0), .string ((rd_T48 l0 dv).f1)] 48 (0, 0)) Z46 hg (Kd.R_ne pr.out bX.out Z32)); have aH := Aside0.mk (hb); have aI := Aside0.mk (ho); clear pr; replace bX := aG; replace HB := aH; have uC := aI; clear aG aH aI; clear ho hb hg hat))
           go_roundg k1
           case measure => have := HK1.out; omega
           case rel => exact ⟨(ru), (wrap64 (dv + 1)), Z14, H', ⟨Z112⟩, ⟨by (with_reducible repeat (first | apply Kd.R_alloc | apply Kd.R_drewN | apply Kd.R_drew)); exact uC.out⟩, ⟨Z63⟩⟩
          ·rw [if_neg fd] at H
           exact absurd H Z73
         ·rw [if_neg gW] at H
          exact absurd H Z73
        ·rw [if_neg dB] at H
         exact absurd H Z73
       ·rw [if_neg hf] at H
        exact absurd H Z73
      ·rw [if_neg cU] at H
       have fE : decide (dv < (l0.length : Int)) = false := decide_eq_false cU
       clear cU
       simp only [Option.some.injEq, Prod.mk.injEq] at H
       obtain ⟨rfl, rfl⟩ := H
       have hcv24 := own_string (P := Try.prog) Try.underlying51 Try.underlying5 Try.underlying9 (Kd.own_of_R HO_4.out)
       go_wp2
       go_ret2
       exact ⟨Z9, Z3⟩
   ·rw [if_neg c6] at H
    exact absurd H Z73
  ·rw [if_neg c5] at H
   exact absurd H Z73
 ·replace c3 := Bool.eq_false_iff.mpr c3
  subst c3
  have H1 : (some ((⟨#[]⟩ : ByteArray), false)) = some (r1, r2) := by rw [if_neg (show ¬ (false = true) by decide)] at H; exact H
  clear H
  have H := H1
  clear H1
  simp only [Option.some.injEq, Prod.mk.injEq] at H
  obtain ⟨rfl, rfl⟩ := H
  go_enter Try.func49, Try.ntmps49
  go_wp2_with (first | ((with_reducible refine gate_callee (f := 55) rfl ?_); refine goesL_ (some 8) rfl rfl Try.func55 Z6 rfl #[.slice A0 l0.length c0] rfl Z5 ?_; (with_reducible refine (ext_Right.calls k _ _ l0 false _ ?side1 ?side2 A2.out).mono ?_); (case side1 => exact Z85); (case side2 => exact mD.out); rintro e gO ⟨rfl, hb⟩; refine ⟨_, rfl, ?_⟩; have aG := Aside0.mk (below_step Z3 hb); replace HB := aG; clear aG; (try clear hb); (try clear hb2); (try clear hk); (try clear hi)))
  go_ret2
  exact ⟨Z9, Z3⟩

/-! ### ext_Get: function 59 -/
def ext_Get.l0 : Nat → List (S48) → ByteArray → Int → Int → Bool → Option ((List (S48)) × Int × Int)
 | 0, _, _, _, _, _ => none
 | k + 1, x5, nu, lP, nv, nw => (cursor_Left.f nu lP nv nw).bind fun bm => (if bm > 0 then ((cursor_Num.f nu lP nv nw 1).bind fun fC => ((cursor_Num.f fC.2.1 fC.2.2.1 fC.2.2.2.1 fC.2.2.2.2 1).bind fun hW => ((cursor_Text.f hW.2.1 hW.2.2.1 hW.2.2.2.1 hW.2.2.2.2 hW.1).bind fun cH => (if cH.2.2.2.2 = true then (some (([] : List (S48)), lP, 2)) else (if x5.length < 5864062014805 then (ext_Get.l0 k (x5 ++ [(⟨fC.1, cH.1⟩ : S48)]) cH.2.1 cH.2.2.1 cH.2.2.2.1 cH.2.2.2.2) else (none)))))) else (some (x5, 0, 0)))
def ext_Get.f (k : Nat) (a0 : ByteArray) : Option ((List (S48)) × Int × Int) := (cursor_New.f a0).bind fun aM => (ext_Get.l0 k ([] : List (S48)) aM.1 aM.2.1 aM.2.2.1 aM.2.2.2)
theorem ext_Get.mono_l : ∀ k, (∀ y0 y1 y2 y3 y4, LeO (ext_Get.l0 k y0 y1 y2 y3 y4) (ext_Get.l0 (k + 1) y0 y1 y2 y3 y4))
 | 0 => fun _ _ _ _ _ r h => by simp [ext_Get.l0] at h
 | k + 1 => by
  have ih0 := ext_Get.mono_l k
  ·intro y0 y1 y2 y3 y4
   unfold ext_Get.l0
   repeat' first
   | (with_reducible exact ih0 ..)
   | (with_reducible exact LeO.refl _)
   | (with_reducible exact LeO.none _)
   | (with_reducible refine LeO.ite ?_ ?_)
   | (with_reducible refine LeO.bind ?_ (fun _ => ?_))
   | exact ih0 ..
   | exact LeO.none _
   | refine LeO.ite ?_ ?_
   | refine LeO.bind ?_ (fun _ => ?_)
theorem ext_Get.mono : ∀ a0 k, LeO (ext_Get.f k a0) (ext_Get.f (k + 1) a0) := by
 intro a0 k
 have ih0 := ext_Get.mono_l k
 unfold ext_Get.f
 repeat' first
   | (with_reducible exact ih0 ..)
   | (with_reducible exact LeO.refl _)
   | (with_reducible exact LeO.none _)
   | (with_reducible refine LeO.ite ?_ ?_)
   | (with_reducible refine LeO.bind ?_ (fun _ => ?_))
   | exact ih0 ..
   | exact LeO.none _
   | refine LeO.ite ?_ ?_
   | refine LeO.bind ?_ (fun _ => ?_)
set_option maxHeartbeats 8000000 in
set_option maxRecDepth 100000 in
theorem ext_Get.calls (k : Nat) (a0 : ByteArray) (r1 : List (S48)) (r2 : Int) (r3 : Int) (w : World) (h : ext_Get.f k a0 = some (r1, r2, r3)) :
  Calls Try.prog 59 #[.string a0] w fun e w' => ∃ v0_ : Value, e = .returned (.tuple #[v0_, .int .i64 r2, .int .i64 r3]) ∧ Kd.R k48 48 w' w.heap.size (fun _ => True) v0_ r1 ∧ Below w.heap.size w w' := by
 have kZ := Try.underlying60
 have pj := Try.underlying48
 have HB := Aside0.mk (Below.refl w.heap.size w)
 have H : ((cursor_New.f a0).bind fun aM => (ext_Get.l0 k ([] : List (S48)) aM.1 aM.2.1 aM.2.2.1 aM.2.2.2)) = some (r1, r2, r3) := h
 clear h
 replace H := Option.bind_eq_some_iff.mp H
 obtain ⟨⟨ci, ba, bf, bc⟩, gN, H⟩ := H
 replace H : (ext_Get.l0 k ([] : List (S48)) ci ba bf bc) = some (r1, r2, r3) := H
 have A2 := Aside0.mk gN
 clear gN
 have H' := Aside0.mk H
 clear H
 go_enter Try.func59, Try.ntmps59
 go_wp2_with (first | ((with_reducible refine gate_callee (f := 61) rfl ?_); refine goesL_ (some 11) rfl rfl Try.func61 Z6 rfl #[.string a0] rfl Z5 ?_; (with_reducible refine (cursor_New.calls a0 ci ba bf bc _ A2.out).mono ?_); rintro e w3 ⟨rfl, hb⟩; refine ⟨_, rfl, ?_⟩; have aG := Aside0.mk (below_step Z3 hb); replace HB := aG; clear aG; (try clear hb); (try clear hb2); (try clear hk); (try clear hi)) | ((with_reducible refine gate_dst (N := 6) rfl ?_); refine box_event ?hg (N := 6) ?hd (cs := #[.string ⟨#[]⟩, .int .i64 0, .int .i64 0, .bool false]) (t := 60) ?hr ?_; (case hd => rfl); (case hg => rfl); (case hr => first | (go_simp; done) | (go_simp; rfl)); intro dw hg w4 hbox hb; have aG := Aside0.mk (below_step Z3 hb); have aH := Aside0.mk (hbox); have aI := Aside0.mk ((by rw [hg]; exact (below_size Z3) : w.heap.size ≤ dw)); have aZ := Aside0.mk ((by rw [hg]; exact (below_size Z3) : w.heap.size ≤ dw)); replace HB := aG; have eb := aH; have qP := aI; have kV := aZ; clear aG aH aI aZ; clear hb hbox hg; have mS := cells_4 eb.out))
 go_loopg [5, 6] k (fun kq v5 v6 w' => ∃ (br : List (S48)) (ci : ByteArray) (ba : Int) (bf : Int) (bc : Bool) (dw : Nat), v6 = .pointer (some ⟨dw, 0, none⟩) ∧ Aside0 (ext_Get.l0 kq br ci ba bf bc = some (r1, r2, r3)) ∧ Aside0 (kq ≤ k) ∧ Aside0 (Kd.R k48 48 w' w.heap.size (fun _ => True) v5 br) ∧ Aside0 (w'.heap[dw]? = some (.cells #[.string ci, .int .i64 ba, .int .i64 bf, .bool bc] 60 (0, 0))) ∧ Aside0 (w.heap.size ≤ dw) ∧ Aside0 (Below w.heap.size w w'))
 case atStart => exact ⟨([] : List (S48)), ci, ba, bf, bc, dw, rfl, H', ⟨Nat.le_refl _⟩, ⟨Z12⟩, ⟨Z98⟩, kV, ⟨Z47⟩⟩
 case round =>
  clear H'
  try clear p2
  try clear c5
  try clear mS
  clear eb kV qP HB
  obtain ⟨br, ci, ba, bf, bc, dw, rfl, HA, HK1, HO_5, eb, kV, HB⟩ := hrel
  have qP := kV
  cases gk with
  | zero => exact absurd HA.out (by simp [ext_Get.l0])
  | succ k1 =>
   have H := HA.out
   clear HA
   simp only [ext_Get.l0] at H
   replace H := Option.bind_eq_some_iff.mp H
   obtain ⟨bm, ls, H⟩ := H
   replace H : (if bm > 0 then ((cursor_Num.f ci ba bf bc 1).bind fun fC => ((cursor_Num.f fC.2.1 fC.2.2.1 fC.2.2.2.1 fC.2.2.2.2 1).bind fun hW => ((cursor_Text.f hW.2.1 hW.2.2.1 hW.2.2.2.1 hW.2.2.2.2 hW.1).bind fun cH => (if cH.2.2.2.2 = true then (some (([] : List (S48)), ba, 2)) else (if br.length < 5864062014805 then (ext_Get.l0 k1 (br ++ [(⟨fC.1, cH.1⟩ : S48)]) cH.2.1 cH.2.2.1 cH.2.2.2.1 cH.2.2.2.2) else (none)))))) else (some (br, 0, 0))) = some (r1, r2, r3) := H
   have A6 := Aside0.mk ls
   clear ls
   by_cases c7 : bm > 0
   ·rw [if_pos c7] at H
    have ib : decide (0 < bm) = true := decide_eq_true c7
    clear c7
    replace H := Option.bind_eq_some_iff.mp H
    obtain ⟨⟨aQ, aV, bi, cy, cF⟩, kn, H⟩ := H
    replace H : ((cursor_Num.f aV bi cy cF 1).bind fun hW => ((cursor_Text.f hW.2.1 hW.2.2.1 hW.2.2.2.1 hW.2.2.2.2 hW.1).bind fun cH => (if cH.2.2.2.2 = true then (some (([] : List (S48)), ba, 2)) else (if br.length < 5864062014805 then (ext_Get.l0 k1 (br ++ [(⟨aQ, cH.1⟩ : S48)]) cH.2.1 cH.2.2.1 cH.2.2.2.1 cH.2.2.2.2) else (none))))) = some (r1, r2, r3) := H
    have A8 := Aside0.mk kn
    clear kn
    replace H := Option.bind_eq_some_iff.mp H
    obtain ⟨⟨cD, cj, cm, ce, cq⟩, mr, H⟩ := H
    replace H : ((cursor_Text.f cj cm ce cq cD).bind fun cH => (if cH.2.2.2.2 = true then (some (([] : List (S48)), ba, 2)) else (if br.length < 5864062014805 then (ext_Get.l0 k1 (br ++ [(⟨aQ, cH.1⟩ : S48)]) cH.2.1 cH.2.2.1 cH.2.2.2.1 cH.2.2.2.2) else (none)))) = some (r1, r2, r3) := H
    have A9 := Aside0.mk mr
    clear mr
    replace H := Option.bind_eq_some_iff.mp H
    obtain ⟨⟨cg, co, ck, cu, ch⟩, jR, H⟩ := H
    replace H : (if ch = true then (some (([] : List (S48)), ba, 2)) else (if br.length < 5864062014805 then (ext_Get.l0 k1 (br ++ [(⟨aQ, cg⟩ : S48)]) co ck cu ch) else (none))) = some (r1, r2, r3) := H
    have lm := Aside0.mk jR
    clear jR
    by_cases cU : ch = true
    ·subst cU
     have H1 : (some (([] : List (S48)), ba, 2)) = some (r1, r2, r3) := by rw [if_pos rfl] at H; exact H
     clear H
     have H := H1
     clear H1
     simp only [Option.some.injEq, Prod.mk.injEq] at H
     obtain ⟨rfl, rfl, rfl⟩ := H
     have md := cells_4 eb.out
     go_wp2_with (first | ((with_reducible refine gate_callee (f := 76) rfl ?_); refine goesL_ (some 13) rfl rfl Try.func76 Z6 rfl #[.agg #[.string ci, .int .i64 ba, .int .i64 bf, .bool bc]] rfl Z5 ?_; (with_reducible refine (cursor_Left.calls ci ba bf bc bm _ A6.out).mono ?_); rintro e lb ⟨rfl, hb⟩; refine ⟨_, rfl, ?_⟩; have aG := Aside0.mk (Kd.R_below Z68 hb); have aH := Aside0.mk (blk_below (g := dw) (o := .cells #[.string ci, .int .i64 ba, .int .i64 bf, .bool bc] 60 (0, 0)) Z49 hb); have aI := Aside0.mk (below_step Z47 hb); replace HO_5 := aG; replace eb := aH; replace HB := aI; clear aG aH aI; (try clear hb); (try clear hb2); (try clear hk); (try clear hi); have ji := cells_4 eb.out) | ((with_reducible refine gate_dst (N := 8) rfl ?_); refine box_event ?hg (N := 8) ?hd (cs := #[.int .i64 0, .string ⟨#[]⟩]) (t := 48) ?hr ?_; (case hd => rfl); (case hg => rfl); (case hr => first | (go_simp; done) | (go_simp; rfl)); intro cd hg pE hbox hb; have aG := Aside0.mk (Kd.R_below (Kd.R_elderB Z68 cd (Nat.le_of_eq hg.symm)) hb); have aH := Aside0.mk (blk_below (g := dw) (o := .cells #[.string ci, .int .i64 ba, .int .i64 bf, .bool bc] 60 (0, 0)) Z49 hb); have aI := Aside0.mk (below_step Z47 hb); have aZ := Aside0.mk (hbox); have bH := Aside0.mk ((by rw [hg]; exact (below_size Z47) : w.heap.size ≤ cd)); have cx := Aside0.mk ((by rw [hg]; exact (below_size Z47) : w.heap.size ≤ cd)); have du := Aside0.mk ((by rw [hg]; exact Nat.ne_of_lt (blk_lt (g := dw) (o := .cells #[.string ci, .int .i64 ba, .int .i64 bf, .bool bc] 60 (0, 0)) Z49) : dw ≠ cd)); have gE := Aside0.mk ((by rw [hg]; exact Nat.ne_of_gt (blk_lt (g := dw) (o := .cells #[.string ci, .int .i64 ba, .int .i64 bf, .bool bc] 60 (0, 0)) Z49) : cd ≠ dw)); replace HO_5 := aG; replace eb := aH; replace HB := aI; have bX := aZ; have ng := bH; have jz := cx; have jt := du; have eh := gE; clear aG aH aI aZ bH cx du gE; clear hb hbox hg; have hnb16 := jt.out; have hnc16 := eh.out; have lG := cells_4 eb.out) | ((with_reducible refine gate_callee (f := 62) rfl ?_); refine goesL_ (some 19) rfl rfl Try.func62 Z6 rfl #[.agg #[.string ci, .int .i64 ba, .int .i64 bf, .bool bc], .int .i64 1] rfl Z5 ?_; (with_reducible refine (cursor_Num.calls ci ba bf bc 1 aQ aV bi cy cF _ A8.out).mono ?_); rintro e kh ⟨rfl, hb⟩; refine ⟨_, rfl, ?_⟩; have aG := Aside0.mk (Kd.R_below Z68 hb); have aH := Aside0.mk (blk_below (g := dw) (o := .cells #[.string ci, .int .i64 ba, .int .i64 bf, .bool bc] 60 (0, 0)) Z49 hb); have aI := Aside0.mk (blk_below (g := cd) (o := .cells #[.int .i64 0, .string ⟨#[]⟩] 48 (0, 0)) Z46 hb); have aZ := Aside0.mk (below_step Z37 hb); replace HO_5 := aG; replace eb := aH; replace bX := aI; replace HB := aZ; clear aG aH aI aZ; (try clear hb); (try clear hb2); (try clear hk); (try clear hi); have pX : kh.cell? ⟨cd, 0, none⟩ = some (.int .i64 0) := (blk_cell bX.out 0).trans rfl; have pY : kh.cell? ⟨cd, 1, none⟩ = some (.string ⟨#[]⟩) := (blk_cell bX.out 1).trans rfl; have hfz19_0 := blk_frozen bX.out 0; have hfz19_1 := blk_frozen bX.out 1; have iR := cells_4 eb.out) | ((with_reducible refine gate_callee (f := 62) rfl ?_); refine goesL_ (some 25) rfl rfl Try.func62 Z6 rfl #[.agg #[.string aV, .int .i64 bi, .int .i64 cy, .bool cF], .int .i64 1] rfl Z5 ?_; (with_reducible refine (cursor_Num.calls aV bi cy cF 1 cD cj cm ce cq _ A9.out).mono ?_); rintro e mi ⟨rfl, hb⟩; refine ⟨_, rfl, ?_⟩; have aG := Aside0.mk (Kd.R_below Z96 hb); have aH := Aside0.mk (blk_below (g := dw) (o := .cells #[.string aV, .int .i64 bi, .int .i64 cy, .bool cF] 60 (0, 0)) Z88 hb); have aI := Aside0.mk (blk_below (g := cd) (o := .cells #[.int .i64 aQ, .string ⟨#[]⟩] 48 (0, 0)) Z78 hb); have aZ := Aside0.mk (below_step Z37 hb); replace HO_5 := aG; replace eb := aH; replace bX := aI; replace HB := aZ; clear aG aH aI aZ; (try clear hb); (try clear hb2); (try clear hk); (try clear hi); have jl := cells_4 eb.out) | ((with_reducible refine gate_callee (f := 60) rfl ?_); refine goesL_ (some 31) rfl rfl Try.func60 Z6 rfl #[.agg #[.string cj, .int .i64 cm, .int .i64 ce, .bool cq], .int .i64 cD] rfl Z5 ?_; (with_reducible refine (cursor_Text.calls cj cm ce cq cD cg co ck cu true _ lm.out).mono ?_); rintro e gn ⟨rfl, hb⟩; refine ⟨_, rfl, ?_⟩; have aG := Aside0.mk (Kd.R_below Z101 hb); have aH := Aside0.mk (blk_below (g := dw) (o := .cells #[.string cj, .int .i64 cm, .int .i64 ce, .bool cq] 60 (0, 0)) Z98 hb); have aI := Aside0.mk (blk_below (g := cd) (o := .cells #[.int .i64 aQ, .string ⟨#[]⟩] 48 (0, 0)) Z92 hb); have aZ := Aside0.mk (below_step Z37 hb); replace HO_5 := aG; replace eb := aH; replace bX := aI; replace HB := aZ; clear aG aH aI aZ; (try clear hb); (try clear hb2); (try clear hk); (try clear hi); have hcz24_0 : gn.cell? ⟨cd, 0, none⟩ = some (.int .i64 aQ) := (blk_cell bX.out 0).trans rfl; have hcz24_1 : gn.cell? ⟨cd, 1, none⟩ = some (.string ⟨#[]⟩) := (blk_cell bX.out 1).trans rfl; have hfz24_0 := blk_frozen bX.out 0; have hfz24_1 := blk_frozen bX.out 1; have iv := cells_4 eb.out))
     go_ret3
     exact ⟨_, Z9, Z12, Z37⟩
    ·replace cU := Bool.eq_false_iff.mpr cU
     subst cU
     have H1 : (if br.length < 5864062014805 then (ext_Get.l0 k1 (br ++ [(⟨aQ, cg⟩ : S48)]) co ck cu false) else (none)) = some (r1, r2, r3) := by rw [if_neg (show ¬ (false = true) by decide)] at H; exact H
     clear H
     have H := H1
     clear H1
     by_cases jG : br.length < 5864062014805
     ·rw [if_pos jG] at H
      have LMc26 := Aside0.mk jG
      clear jG
      obtain ⟨uD, hy123⟩ : ∃ y_ : List (S48), y_ = (br ++ [(⟨aQ, cg⟩ : S48)]) := ⟨_, rfl⟩
      replace H : (ext_Get.l0 k1 uD co ck cu false) = some (r1, r2, r3) := by first | (rw [hy123]; with_reducible exact H) | (have H2_ := (Option.bind_some _ _).symm.trans H; rw [hy123]; with_reducible exact H2_) | (have H2_ := (Option.bind_some _ _).symm.trans H; with_reducible exact H2_) | with_reducible exact H | (rw [hy123]; exact H) | exact H
      have Ny123 := Aside0.mk hy123
      clear hy123
      have H' := Aside0.mk H
      clear H
      have lu := cells_4 eb.out
      go_wp2_with (first | ((with_reducible refine gate_callee (f := 76) rfl ?_); refine goesL_ (some 13) rfl rfl Try.func76 Z6 rfl #[.agg #[.string ci, .int .i64 ba, .int .i64 bf, .bool bc]] rfl Z5 ?_; (with_reducible refine (cursor_Left.calls ci ba bf bc bm _ A6.out).mono ?_); rintro e nl ⟨rfl, hb⟩; refine ⟨_, rfl, ?_⟩; have aG := Aside0.mk (Kd.R_below Z68 hb); have aH := Aside0.mk (blk_below (g := dw) (o := .cells #[.string ci, .int .i64 ba, .int .i64 bf, .bool bc] 60 (0, 0)) Z49 hb); have aI := Aside0.mk (below_step Z47 hb); replace HO_5 := aG; replace eb := aH; replace HB := aI; clear aG aH aI; (try clear hb); (try clear hb2); (try clear hk); (try clear hi); have kr := cells_4 eb.out) | ((with_reducible refine gate_dst (N := 8) rfl ?_); refine box_event ?hg (N := 8) ?hd (cs := #[.int .i64 0, .string ⟨#[]⟩]) (t := 48) ?hr ?_; (case hd => rfl); (case hg => rfl); (case hr => first | (go_simp; done) | (go_simp; rfl)); intro cd hg gM hbox hb; have aG := Aside0.mk (Kd.R_below (Kd.R_elderB Z68 cd (Nat.le_of_eq hg.symm)) hb); have aH := Aside0.mk (blk_below (g := dw) (o := .cells #[.string ci, .int .i64 ba, .int .i64 bf, .bool bc] 60 (0, 0)) Z49 hb); have aI := Aside0.mk (below_step Z47 hb); have aZ := Aside0.mk (hbox); have bH := Aside0.mk ((by rw [hg]; exact (below_size Z47) : w.heap.size ≤ cd)); have cx := Aside0.mk ((by rw [hg]; exact (below_size Z47) : w.heap.size ≤ cd)); have du := Aside0.mk ((by rw [hg]; exact Nat.ne_of_lt (blk_lt (g := dw) (o := .cells #[.string ci, .int .i64 ba, .int .i64 bf, .bool bc] 60 (0, 0)) Z49) : dw ≠ cd)); have gE := Aside0.mk ((by rw [hg]; exact Nat.ne_of_gt (blk_lt (g := dw) (o := .cells #[.string ci, .int .i64 ba, .int .i64 bf, .bool bc] 60 (0, 0)) Z49) : cd ≠ dw)); replace HO_5 := aG; replace eb := aH; replace HB := aI; have bX := aZ; have ng := bH; have jz := cx; have jt := du; have eh := gE; clear aG aH aI aZ bH cx du gE; clear hb hbox hg; have tv := jt.out; have tw := eh.out; have ni := cells_4 eb.out) | ((with_reducible refine gate_callee (f := 62) rfl ?_); refine goesL_ (some 19) rfl rfl Try.func62 Z6 rfl #[.agg #[.string ci, .int .i64 ba, .int .i64 bf, .bool bc], .int .i64 1] rfl Z5 ?_; (with_reducible refine (cursor_Num.calls ci ba bf bc 1 aQ aV bi cy cF _ A8.out).mono ?_); rintro e iH ⟨rfl, hb⟩; refine ⟨_, rfl, ?_⟩; have aG := Aside0.mk (Kd.R_below Z68 hb); have aH := Aside0.mk (blk_below (g := dw) (o := .cells #[.string ci, .int .i64 ba, .int .i64 bf, .bool bc] 60 (0, 0)) Z49 hb); have aI := Aside0.mk (blk_below (g := cd) (o := .cells #[.int .i64 0, .string ⟨#[]⟩] 48 (0, 0)) Z46 hb); have aZ := Aside0.mk (below_step Z37 hb); replace HO_5 := aG; replace eb := aH; replace bX := aI; replace HB := aZ; clear aG aH aI aZ; (try clear hb); (try clear hb2); (try clear hk); (try clear hi); have hcz34_0 : iH.cell? ⟨cd, 0, none⟩ = some (.int .i64 0) := (blk_cell bX.out 0).trans rfl; have hcz34_1 : iH.cell? ⟨cd, 1, none⟩ = some (.string ⟨#[]⟩) := (blk_cell bX.out 1).trans rfl; have hfz34_0 := blk_frozen bX.out 0; have hfz34_1 := blk_frozen bX.out 1; have jj := cells_4 eb.out) | ((with_reducible refine gate_callee (f := 62) rfl ?_); refine goesL_ (some 25) rfl rfl Try.func62 Z6 rfl #[.agg #[.string aV, .int .i64 bi, .int .i64 cy, .bool cF], .int .i64 1] rfl Z5 ?_; (with_reducible refine (cursor_Num.calls aV bi cy cF 1 cD cj cm ce cq _ A9.out).mono ?_); rintro e qe ⟨rfl, hb⟩; refine ⟨_, rfl, ?_⟩; have aG := Aside0.mk (Kd.R_below Z96 hb); have aH := Aside0.mk (blk_below (g := dw) (o := .cells #[.string aV, .int .i64 bi, .int .i64 cy, .bool cF] 60 (0, 0)) Z88 hb); have aI := Aside0.mk (blk_below (g := cd) (o := .cells #[.int .i64 aQ, .string ⟨#[]⟩] 48 (0, 0)) Z78 hb); have aZ := Aside0.mk (below_step Z37 hb); replace HO_5 := aG; replace eb := aH; replace bX := aI; replace HB := aZ; clear aG aH aI aZ; (try clear hb); (try clear hb2); (try clear hk); (try clear hi); have oB := cells_4 eb.out) | ((with_reducible refine gate_callee (f := 60) rfl ?_); refine goesL_ (some 31) rfl rfl Try.func60 Z6 rfl #[.agg #[.string cj, .int .i64 cm, .int .i64 ce, .bool cq], .int .i64 cD] rfl Z5 ?_; (with_reducible refine (cursor_Text.calls cj cm ce cq cD cg co ck cu false _ lm.out).mono ?_); rintro e kY ⟨rfl, hb⟩; refine ⟨_, rfl, ?_⟩; have aG := Aside0.mk (Kd.R_below Z101 hb); have aH := Aside0.mk (blk_below (g := dw) (o := .cells #[.string cj, .int .i64 cm, .int .i64 ce, .bool cq] 60 (0, 0)) Z98 hb); have aI := Aside0.mk (blk_below (g := cd) (o := .cells #[.int .i64 aQ, .string ⟨#[]⟩] 48 (0, 0)) Z92 hb); have aZ := Aside0.mk (below_step Z37 hb); replace HO_5 := aG; replace eb := aH; replace bX := aI; replace HB := aZ; clear aG aH aI aZ; (try clear hb); (try clear hb2); (try clear hk); (try clear hi); have pZ : kY.cell? ⟨cd, 0, none⟩ = some (.int .i64 aQ) := (blk_cell bX.out 0).trans rfl; have qa : kY.cell? ⟨cd, 1, none⟩ = some (.string ⟨#[]⟩) := (blk_cell bX.out 1).trans rfl; have hfz39_0 := blk_frozen bX.out 0; have hfz39_1 := blk_frozen bX.out 1; have sZ := cells_4 eb.out) | ((with_reducible refine gate_builtin (b := .append) (xs := #[.tmp 38, .tmp 40]) rfl ?_); at_builtin; refine Kd.R_append k48 (w0 := w) w.heap.size rfl (.tmp 38) (.tmp 40) 23 48 (.agg #[(.int .i64 0), (.string ⟨#[]⟩)]) 24 rfl Try.underlying23 info48 rfl Z32 Z55 u5 br (⟨aQ, cg⟩ : S48) [.int .i64 aQ, .string cg] (fun k_ => k_ ≠ cd) (fun _ => False) rfl (by first | (go_simp; done) | (go_simp; rfl)) ?aP (fun _ hk => hk.elim) ?aF ?aO ?aB ?aS ?aL ?_; (case aP => exact k48_mkM _ _ _ (⟨aQ, cg⟩ : S48)); (case aB => exact Z37); (case aF => exact (fun k_ hk => Kd.freshB (g := cd) (o := .cells #[.int .i64 aQ, .string cg] 48 (0, 0)) Z74 k_ hk)); (case aO => exact (by (with_reducible repeat (first | apply Kd.R_alloc | apply Kd.R_drewN | apply Kd.R_drew)); exact Kd.R_mono (Kd.R_far (p := ⟨dw, 3, none⟩) (Kd.R_far (p := ⟨dw, 2, none⟩) (Kd.R_far (p := ⟨dw, 1, none⟩) (Kd.R_far (p := ⟨dw, 0, none⟩) (Kd.R_far (p := ⟨cd, 1, none⟩) (Kd.R_types (Kd.R_mono HO_5.out (fun k_ hk => (⟨hk, hk.2⟩ : _ ∧ k_ ≠ cd))) eb.out Z32) (fun _ hk => hk.1.2) (.string cg)) (fun _ hk => hk.2) (.string co)) (fun _ hk => hk.2) (.int .i64 ck)) (fun _ hk => hk.2) (.int .i64 cu)) (fun _ hk => hk.2) (.bool false)) (fun _ hk => hk.1.1.2))); (case aS => exact (below_size Z37)); (case aL => have := LMc26.out; omega); intro pF pC ho hb hg hat; rw [← Ny123.out] at ho; have aG := Aside0.mk (blk_grown (g := dw) (o := .cells #[.string co, .int .i64 ck, .int .i64 cu, .bool false] 60 (0, 0)) Z88 hg (Kd.R_ne HO_5.out eb.out Z32)); have aH := Aside0.mk (blk_grown (g := cd) (o := .cells #[.int .i64 aQ, .string cg] 48 (0, 0)) Z74 hg (Kd.R_away HO_5.out (fun _ hk => hk.2))); have aI := Aside0.mk (hb); have aZ := Aside0.mk (ho); clear HO_5; replace eb := aG; replace bX := aH; replace HB := aI; have dx := aZ; clear aG aH aI aZ; clear ho hb hg hat; have tF := cells_4 eb.out) | ((with_reducible refine gate_dst (N := 6) rfl ?_); refine box_event ?hg (N := 6) ?hd (cs := #[.string ⟨#[]⟩, .int .i64 0, .int .i64 0, .bool false]) (t := 60) ?hr ?_; (case hd => rfl); (case hg => rfl); (case hr => first | (go_simp; done) | (go_simp; rfl)); intro jn hg ov hbox hb; have aG := Aside0.mk (Kd.R_below Z42 hb); have aH := Aside0.mk (blk_below (g := dw) (o := .cells #[.string co, .int .i64 ck, .int .i64 cu, .bool false] 60 (0, 0)) Z49 hb); have aI := Aside0.mk (blk_below (g := cd) (o := .cells #[.int .i64 aQ, .string cg] 48 (0, 0)) Z46 hb); have aZ := Aside0.mk (below_step Z37 hb); have bH := Aside0.mk (hbox); have cx := Aside0.mk ((by rw [hg]; exact (below_size Z37) : w.heap.size ≤ jn)); have du := Aside0.mk ((by rw [hg]; exact (below_size Z37) : w.heap.size ≤ jn)); have gE := Aside0.mk ((by rw [hg]; exact Nat.ne_of_lt (blk_lt (g := dw) (o := .cells #[.string co, .int .i64 ck, .int .i64 cu, .bool false] 60 (0, 0)) Z49) : dw ≠ jn)); have hC := Aside0.mk ((by rw [hg]; exact Nat.ne_of_gt (blk_lt (g := dw) (o := .cells #[.string co, .int .i64 ck, .int .i64 cu, .bool false] 60 (0, 0)) Z49) : jn ≠ dw)); have jL := Aside0.mk ((by rw [hg]; exact Nat.ne_of_lt (blk_lt (g := cd) (o := .cells #[.int .i64 aQ, .string cg] 48 (0, 0)) Z46) : cd ≠ jn)); have iL := Aside0.mk ((by rw [hg]; exact Nat.ne_of_gt (blk_lt (g := cd) (o := .cells #[.int .i64 aQ, .string cg] 48 (0, 0)) Z46) : jn ≠ cd)); replace dx := aG; replace eb := aH; replace bX := aI; replace HB := aZ; have ps := bH; have GW126 := cx; have qQ := du; have nM := gE; have nN := hC; have nO := jL; have nP := iL; clear aG aH aI aZ bH cx du gE hC jL iL; clear hb hbox hg; have qF := nN.out; have qG := nM.out; have tG := nP.out; have tH := nO.out; have hcz46 := cells_4 ps.out))
      go_roundg k1
      case measure => have := HK1.out; omega
      case rel => exact ⟨uD, co, ck, cu, false, jn, rfl, H', ⟨Z112⟩, ⟨by (with_reducible repeat (first | apply Kd.R_alloc | apply Kd.R_drewN | apply Kd.R_drew)); exact Kd.R_mono (Kd.R_far (p := ⟨jn, 3, none⟩) (Kd.R_far (p := ⟨jn, 2, none⟩) (Kd.R_far (p := ⟨jn, 1, none⟩) (Kd.R_far (p := ⟨jn, 0, none⟩) (Kd.R_types dx.out ps.out Z32) (fun _ hk => hk.2) (.string co)) (fun _ hk => hk.2) (.int .i64 ck)) (fun _ hk => hk.2) (.int .i64 cu)) (fun _ hk => hk.2) (.bool false)) (fun _ hk => trivial)⟩, ⟨by (with_reducible repeat (first | refine blk_drewN ?_ _ | refine blk_drew ?_ | refine blk_alloc ?_ _)); apply blk_puts4; (with_reducible repeat (first | refine blk_drewN ?_ _ | refine blk_drew ?_ | refine blk_alloc ?_ _)); exact ps.out⟩, qQ, ⟨by repeat (first | (with_reducible first | exact HB.out | apply below_alloc | apply pw_below_drewN | apply below_drew1 | refine below_set ?_ kV.out | refine below_set ?_ jz.out | refine below_set ?_ qQ.out) | exact HB.out)⟩⟩
     ·rw [if_neg jG] at H
      exact absurd H Z73
   ·rw [if_neg c7] at H
    have ib : decide (0 < bm) = false := decide_eq_false c7
    clear c7
    simp only [Option.some.injEq, Prod.mk.injEq] at H
    obtain ⟨rfl, rfl, rfl⟩ := H
    have pf := cells_4 eb.out
    go_wp2_with (first | ((with_reducible refine gate_callee (f := 76) rfl ?_); refine goesL_ (some 13) rfl rfl Try.func76 Z6 rfl #[.agg #[.string ci, .int .i64 ba, .int .i64 bf, .bool bc]] rfl Z5 ?_; (with_reducible refine (cursor_Left.calls ci ba bf bc bm _ A6.out).mono ?_); rintro e tI ⟨rfl, hb⟩; refine ⟨_, rfl, ?_⟩; have aG := Aside0.mk (Kd.R_below Z68 hb); have aH := Aside0.mk (blk_below (g := dw) (o := .cells #[.string ci, .int .i64 ba, .int .i64 bf, .bool bc] 60 (0, 0)) Z49 hb); have aI := Aside0.mk (below_step Z47 hb); replace HO_5 := aG; replace eb := aH; replace HB := aI; clear aG aH aI; (try clear hb); (try clear hb2); (try clear hk); (try clear hi)))
    go_ret3
    exact ⟨_, Z9, Z68, Z47⟩

end Go.Proofs.Ytccjakjjaemmkaa.PR
