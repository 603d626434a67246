-- Written by mp.py, a program of this work (wip/tools), out of the translation; Lean checks it.
import Derived.Test.YtnllanjoebjeiaaGreatProg
import Derived.Below
import Derived.Deep.Draws
import Derived.Deep.AppendLies
import Derived.Maps.AppendAt
import Derived.OwnWalk
import Derived.Laws.BytesArg
import Derived.Laws.MakeOwn
import Derived.Laws.OwnMore
import Derived.Deep.OwnRows
import Derived.Tactics
import Derived.Lib.ConvBytes
import Derived.Laws.Slices
import Derived.WalkKit
import Derived.KernelRfl
import Derived.RowKit3
import Derived.Deep.LoopGhost
import Derived.Deep.QuietTactic
import Derived.BigQuiet
import Derived.WideLaws
import Derived.Deep.DeepCutAuto
import Derived.Deep.CutBlock
import Derived.Deep.RegionHeld3
import Derived.Laws.Rows
import Derived.Lib.AppendStr
import Derived.ArgAppend
import Derived.Laws.IdiomCopy
import Derived.OrdersHeld
import Derived.Laws.BitsLemmas
import Derived.RowKit
import Derived.WalkLawsBesides
import Derived.Test.YtnllanjoebjeiaaGreatStore
import Derived.Test.YtnllanjoebjeiaaGreatWWords
namespace Go.Proofs.YtnllanjoebjeiaaGreat.PV
open Go.RowKit Go.Proofs.YtnllanjoebjeiaaGreatW.PrintWords Go.Proofs.YtnllanjoebjeiaaGreatW.PrintLast Go.Proofs.YtnllanjoebjeiaaGreatW.PrintMore
attribute [local go_sem] max2_int min2_int max_two min_two max_three min_three max_four min_four   -- for this text's walks alone
set_option linter.unusedVariables false
set_option linter.unusedSimpArgs false



def errW : Option Int → Value
 | none => .nilIface
 | some c => .iface 0 (.int .i64 c)
theorem errW_none : errW none = .nilIface := rfl
theorem errW_some (c : Int) : errW (some c) = .iface 0 (.int .i64 c) := rfl

theorem info5 : (Tryz.prog.info? 5).map (fun i => (i.zero, i.size, i.bytes)) = some (some (.int .u8 0), 1, 1) := by kernel_rfl
theorem info48 : (Tryz.prog.info? 48).map (fun i => (i.zero, i.size, i.bytes)) = some (some (.agg #[(.int .i64 0), (.int .i64 0), (.string ⟨#[]⟩)]), 3, 32) := by kernel_rfl
theorem info80 : (Tryz.prog.info? 80).map (fun i => (i.zero, i.size, i.bytes)) = some (some (.agg #[(.int .i64 0), (.string ⟨#[]⟩)]), 2, 24) := by kernel_rfl
-- the values' own types
/-! #### struct type 78 -/
structure S78 where
 f0 : ByteArray
 f1 : Int
def z78 : S78 := ⟨(⟨#[]⟩ : ByteArray), (0 : Int)⟩
def k78 : Kd S78 := Kd.iso (Kd.pair Kd.string (Kd.int .i64)) (fun x : S78 => (x.f0, x.f1))
theorem k78_open {w : World} {x : S78} {cs : List Value} (h : k78.K w x cs) : cs = [.string x.f0, .int .i64 x.f1] := by
 obtain ⟨_, _, rfl, rfl, rfl⟩ := h
 exact rfl
def rd_T78 (xs : List S78) (i : Int) : S78 := xs.getD i.toNat z78
theorem at_T78 {w : World} {A : Option Addr} {n : Nat} {xs : List S78} (h : Kd.C k78 w A n xs) (i : Int) (h0 : 0 ≤ i) (h1 : i < n) : ∃ ad , A = some ad ∧ w.cell? (ad.add (i.toNat * 2)) = some (.string (rd_T78 xs i).f0) ∧ w.cell? ⟨(ad.add (i.toNat * 2)).block, (ad.add (i.toNat * 2)).off + 1, none⟩ = some (.int .i64 (rd_T78 xs i).f1) := by
 obtain ⟨ad, c, e, _, hK, hc0⟩ := Kd.C_get h z78 i h0 h1
 have hc : ∀ j u, c[j]? = some u → w.cell? (ad.add (i.toNat * 2 + j)) = some u := hc0
 obtain rfl := k78_open hK
 exact ⟨ad, e, hc 0 _ rfl, by rw [← add_field _ _ 1 (by omega)]; exact hc 1 _ rfl⟩

/-! #### struct type 80 -/
structure S80 where
 f0 : Int
 f1 : ByteArray
def z80 : S80 := ⟨(0 : Int), (⟨#[]⟩ : ByteArray)⟩
def k80 : Kd S80 := Kd.iso (Kd.pair (Kd.int .i64) Kd.string) (fun x : S80 => (x.f0, x.f1))
theorem k80_open {w : World} {x : S80} {cs : List Value} (h : k80.K w x cs) : cs = [.int .i64 x.f0, .string x.f1] := by
 obtain ⟨_, _, rfl, rfl, rfl⟩ := h
 exact rfl
theorem k80_mkM (w : World) (base : Nat) (ok : Nat → Prop) (x : S80)  : k80.M w base ok x [.int .i64 x.f0, .string x.f1] := ⟨[.int .i64 x.f0], [.string x.f1], rfl, rfl, rfl⟩
def rd_T80 (xs : List S80) (i : Int) : S80 := xs.getD i.toNat z80
theorem at_T80 {w : World} {A : Option Addr} {n : Nat} {xs : List S80} (h : Kd.C k80 w A n xs) (i : Int) (h0 : 0 ≤ i) (h1 : i < n) : ∃ ad , A = some ad ∧ w.cell? (ad.add (i.toNat * 2)) = some (.int .i64 (rd_T80 xs i).f0) ∧ w.cell? ⟨(ad.add (i.toNat * 2)).block, (ad.add (i.toNat * 2)).off + 1, none⟩ = some (.string (rd_T80 xs i).f1) := by
 obtain ⟨ad, c, e, _, hK, hc0⟩ := Kd.C_get h z80 i h0 h1
 have hc : ∀ j u, c[j]? = some u → w.cell? (ad.add (i.toNat * 2 + j)) = some u := hc0
 obtain rfl := k80_open hK
 exact ⟨ad, e, hc 0 _ rfl, by rw [← add_field _ _ 1 (by omega)]; exact hc 1 _ rfl⟩

structure S32 where
 f0 : Int
 f1 : Int
 f2 : Int
 f3 : ByteArray
 f4 : Int
 f5 : Int
 f6 : ByteArray
 f7 : Int
 f8 : Int
 f9 : ByteArray
 f10 : Int
 f11 : ByteArray
 f12 : Int
 f13 : Int
 f14 : Int
 f15 : Int
 f16 : Int
 f17 : Int
 f18 : Int
 f19 : ByteArray
 f20 : ByteArray
 f21 : (List S78)
 f22 : Int
 f23 : ByteArray
 f24 : (List S80)
def z32 : S32 := ⟨(0 : Int), (0 : Int), (0 : Int), (⟨#[]⟩ : ByteArray), (0 : Int), (0 : Int), (⟨#[]⟩ : ByteArray), (0 : Int), (0 : Int), (⟨#[]⟩ : ByteArray), (0 : Int), (⟨#[]⟩ : ByteArray), (0 : Int), (0 : Int), (0 : Int), (0 : Int), (0 : Int), (0 : Int), (0 : Int), (⟨#[]⟩ : ByteArray), (⟨#[]⟩ : ByteArray), ([] : List S78), (0 : Int), (⟨#[]⟩ : ByteArray), ([] : List S80)⟩
def k32 : Kd S32 := Kd.iso (Kd.pair (Kd.int .i64) (Kd.pair (Kd.int .i64) (Kd.pair (Kd.int .i64) (Kd.pair Kd.string (Kd.pair (Kd.int .i64) (Kd.pair (Kd.int .i64) (Kd.pair Kd.string (Kd.pair (Kd.int .i64) (Kd.pair (Kd.int .i64) (Kd.pair Kd.string (Kd.pair (Kd.int .i64) (Kd.pair Kd.string (Kd.pair (Kd.int .i64) (Kd.pair (Kd.int .i64) (Kd.pair (Kd.int .i64) (Kd.pair (Kd.int .i64) (Kd.pair (Kd.int .i64) (Kd.pair (Kd.int .i64) (Kd.pair (Kd.int .i64) (Kd.pair Kd.string (Kd.pair Kd.string (Kd.pair (Kd.slice 78 k78) (Kd.pair (Kd.int .i64) (Kd.pair Kd.string (Kd.slice 80 k80))))))))))))))))))))))))) (fun x : S32 => (x.f0, x.f1, x.f2, x.f3, x.f4, x.f5, x.f6, x.f7, x.f8, x.f9, x.f10, x.f11, x.f12, x.f13, x.f14, x.f15, x.f16, x.f17, x.f18, x.f19, x.f20, x.f21, x.f22, x.f23, x.f24))
theorem k32_open {w : World} {x : S32} {cs : List Value} (h : k32.K w x cs) : ∃ A21 c21 A24 c24, cs = [.int .i64 x.f0, .int .i64 x.f1, .int .i64 x.f2, .string x.f3, .int .i64 x.f4, .int .i64 x.f5, .string x.f6, .int .i64 x.f7, .int .i64 x.f8, .string x.f9, .int .i64 x.f10, .string x.f11, .int .i64 x.f12, .int .i64 x.f13, .int .i64 x.f14, .int .i64 x.f15, .int .i64 x.f16, .int .i64 x.f17, .int .i64 x.f18, .string x.f19, .string x.f20, .slice A21 x.f21.length c21, .int .i64 x.f22, .string x.f23, .slice A24 x.f24.length c24] ∧ x.f21.length ≤ c21 ∧ k78.C w A21 x.f21.length x.f21 ∧ x.f24.length ≤ c24 ∧ k80.C w A24 x.f24.length x.f24 := by
 obtain ⟨_, _, rfl, rfl, ⟨_, _, rfl, rfl, ⟨_, _, rfl, rfl, ⟨_, _, rfl, rfl, ⟨_, _, rfl, rfl, ⟨_, _, rfl, rfl, ⟨_, _, rfl, rfl, ⟨_, _, rfl, rfl, ⟨_, _, rfl, rfl, ⟨_, _, rfl, rfl, ⟨_, _, rfl, rfl, ⟨_, _, rfl, rfl, ⟨_, _, rfl, rfl, ⟨_, _, rfl, rfl, ⟨_, _, rfl, rfl, ⟨_, _, rfl, rfl, ⟨_, _, rfl, rfl, ⟨_, _, rfl, rfl, ⟨_, _, rfl, rfl, ⟨_, _, rfl, rfl, ⟨_, _, rfl, rfl, ⟨_, _, rfl, ⟨A21, c21, rfl, l21, g21⟩, ⟨_, _, rfl, rfl, ⟨_, _, rfl, rfl, ⟨A24, c24, rfl, l24, g24⟩⟩⟩⟩⟩⟩⟩⟩⟩⟩⟩⟩⟩⟩⟩⟩⟩⟩⟩⟩⟩⟩⟩⟩⟩ := h
 exact ⟨A21, c21, A24, c24, rfl, l21, g21, l24, g24⟩
theorem k32_mkM (w : World) (base : Nat) (ok : Nat → Prop) (x : S32) {v21 : Value} (g21 : k78.R 78 w base ok v21 x.f21) {v24 : Value} (g24 : k80.R 80 w base ok v24 x.f24) : k32.M w base ok x [.int .i64 x.f0, .int .i64 x.f1, .int .i64 x.f2, .string x.f3, .int .i64 x.f4, .int .i64 x.f5, .string x.f6, .int .i64 x.f7, .int .i64 x.f8, .string x.f9, .int .i64 x.f10, .string x.f11, .int .i64 x.f12, .int .i64 x.f13, .int .i64 x.f14, .int .i64 x.f15, .int .i64 x.f16, .int .i64 x.f17, .int .i64 x.f18, .string x.f19, .string x.f20, v21, .int .i64 x.f22, .string x.f23, v24] := ⟨[.int .i64 x.f0], [.int .i64 x.f1, .int .i64 x.f2, .string x.f3, .int .i64 x.f4, .int .i64 x.f5, .string x.f6, .int .i64 x.f7, .int .i64 x.f8, .string x.f9, .int .i64 x.f10, .string x.f11, .int .i64 x.f12, .int .i64 x.f13, .int .i64 x.f14, .int .i64 x.f15, .int .i64 x.f16, .int .i64 x.f17, .int .i64 x.f18, .string x.f19, .string x.f20, v21, .int .i64 x.f22, .string x.f23, v24], rfl, rfl, ⟨[.int .i64 x.f1], [.int .i64 x.f2, .string x.f3, .int .i64 x.f4, .int .i64 x.f5, .string x.f6, .int .i64 x.f7, .int .i64 x.f8, .string x.f9, .int .i64 x.f10, .string x.f11, .int .i64 x.f12, .int .i64 x.f13, .int .i64 x.f14, .int .i64 x.f15, .int .i64 x.f16, .int .i64 x.f17, .int .i64 x.f18, .string x.f19, .string x.f20, v21, .int .i64 x.f22, .string x.f23, v24], rfl, rfl, ⟨[.int .i64 x.f2], [.string x.f3, .int .i64 x.f4, .int .i64 x.f5, .string x.f6, .int .i64 x.f7, .int .i64 x.f8, .string x.f9, .int .i64 x.f10, .string x.f11, .int .i64 x.f12, .int .i64 x.f13, .int .i64 x.f14, .int .i64 x.f15, .int .i64 x.f16, .int .i64 x.f17, .int .i64 x.f18, .string x.f19, .string x.f20, v21, .int .i64 x.f22, .string x.f23, v24], rfl, rfl, ⟨[.string x.f3], [.int .i64 x.f4, .int .i64 x.f5, .string x.f6, .int .i64 x.f7, .int .i64 x.f8, .string x.f9, .int .i64 x.f10, .string x.f11, .int .i64 x.f12, .int .i64 x.f13, .int .i64 x.f14, .int .i64 x.f15, .int .i64 x.f16, .int .i64 x.f17, .int .i64 x.f18, .string x.f19, .string x.f20, v21, .int .i64 x.f22, .string x.f23, v24], rfl, rfl, ⟨[.int .i64 x.f4], [.int .i64 x.f5, .string x.f6, .int .i64 x.f7, .int .i64 x.f8, .string x.f9, .int .i64 x.f10, .string x.f11, .int .i64 x.f12, .int .i64 x.f13, .int .i64 x.f14, .int .i64 x.f15, .int .i64 x.f16, .int .i64 x.f17, .int .i64 x.f18, .string x.f19, .string x.f20, v21, .int .i64 x.f22, .string x.f23, v24], rfl, rfl, ⟨[.int .i64 x.f5], [.string x.f6, .int .i64 x.f7, .int .i64 x.f8, .string x.f9, .int .i64 x.f10, .string x.f11, .int .i64 x.f12, .int .i64 x.f13, .int .i64 x.f14, .int .i64 x.f15, .int .i64 x.f16, .int .i64 x.f17, .int .i64 x.f18, .string x.f19, .string x.f20, v21, .int .i64 x.f22, .string x.f23, v24], rfl, rfl, ⟨[.string x.f6], [.int .i64 x.f7, .int .i64 x.f8, .string x.f9, .int .i64 x.f10, .string x.f11, .int .i64 x.f12, .int .i64 x.f13, .int .i64 x.f14, .int .i64 x.f15, .int .i64 x.f16, .int .i64 x.f17, .int .i64 x.f18, .string x.f19, .string x.f20, v21, .int .i64 x.f22, .string x.f23, v24], rfl, rfl, ⟨[.int .i64 x.f7], [.int .i64 x.f8, .string x.f9, .int .i64 x.f10, .string x.f11, .int .i64 x.f12, .int .i64 x.f13, .int .i64 x.f14, .int .i64 x.f15, .int .i64 x.f16, .int .i64 x.f17, .int .i64 x.f18, .string x.f19, .string x.f20, v21, .int .i64 x.f22, .string x.f23, v24], rfl, rfl, ⟨[.int .i64 x.f8], [.string x.f9, .int .i64 x.f10, .string x.f11, .int .i64 x.f12, .int .i64 x.f13, .int .i64 x.f14, .int .i64 x.f15, .int .i64 x.f16, .int .i64 x.f17, .int .i64 x.f18, .string x.f19, .string x.f20, v21, .int .i64 x.f22, .string x.f23, v24], rfl, rfl, ⟨[.string x.f9], [.int .i64 x.f10, .string x.f11, .int .i64 x.f12, .int .i64 x.f13, .int .i64 x.f14, .int .i64 x.f15, .int .i64 x.f16, .int .i64 x.f17, .int .i64 x.f18, .string x.f19, .string x.f20, v21, .int .i64 x.f22, .string x.f23, v24], rfl, rfl, ⟨[.int .i64 x.f10], [.string x.f11, .int .i64 x.f12, .int .i64 x.f13, .int .i64 x.f14, .int .i64 x.f15, .int .i64 x.f16, .int .i64 x.f17, .int .i64 x.f18, .string x.f19, .string x.f20, v21, .int .i64 x.f22, .string x.f23, v24], rfl, rfl, ⟨[.string x.f11], [.int .i64 x.f12, .int .i64 x.f13, .int .i64 x.f14, .int .i64 x.f15, .int .i64 x.f16, .int .i64 x.f17, .int .i64 x.f18, .string x.f19, .string x.f20, v21, .int .i64 x.f22, .string x.f23, v24], rfl, rfl, ⟨[.int .i64 x.f12], [.int .i64 x.f13, .int .i64 x.f14, .int .i64 x.f15, .int .i64 x.f16, .int .i64 x.f17, .int .i64 x.f18, .string x.f19, .string x.f20, v21, .int .i64 x.f22, .string x.f23, v24], rfl, rfl, ⟨[.int .i64 x.f13], [.int .i64 x.f14, .int .i64 x.f15, .int .i64 x.f16, .int .i64 x.f17, .int .i64 x.f18, .string x.f19, .string x.f20, v21, .int .i64 x.f22, .string x.f23, v24], rfl, rfl, ⟨[.int .i64 x.f14], [.int .i64 x.f15, .int .i64 x.f16, .int .i64 x.f17, .int .i64 x.f18, .string x.f19, .string x.f20, v21, .int .i64 x.f22, .string x.f23, v24], rfl, rfl, ⟨[.int .i64 x.f15], [.int .i64 x.f16, .int .i64 x.f17, .int .i64 x.f18, .string x.f19, .string x.f20, v21, .int .i64 x.f22, .string x.f23, v24], rfl, rfl, ⟨[.int .i64 x.f16], [.int .i64 x.f17, .int .i64 x.f18, .string x.f19, .string x.f20, v21, .int .i64 x.f22, .string x.f23, v24], rfl, rfl, ⟨[.int .i64 x.f17], [.int .i64 x.f18, .string x.f19, .string x.f20, v21, .int .i64 x.f22, .string x.f23, v24], rfl, rfl, ⟨[.int .i64 x.f18], [.string x.f19, .string x.f20, v21, .int .i64 x.f22, .string x.f23, v24], rfl, rfl, ⟨[.string x.f19], [.string x.f20, v21, .int .i64 x.f22, .string x.f23, v24], rfl, rfl, ⟨[.string x.f20], [v21, .int .i64 x.f22, .string x.f23, v24], rfl, rfl, ⟨[v21], [.int .i64 x.f22, .string x.f23, v24], rfl, ⟨v21, rfl, g21⟩, ⟨[.int .i64 x.f22], [.string x.f23, v24], rfl, rfl, ⟨[.string x.f23], [v24], rfl, rfl, ⟨v24, rfl, g24⟩⟩⟩⟩⟩⟩⟩⟩⟩⟩⟩⟩⟩⟩⟩⟩⟩⟩⟩⟩⟩⟩⟩⟩⟩
def rd_T32 (xs : List S32) (i : Int) : S32 := xs.getD i.toNat z32
theorem at_T32 {w : World} {A : Option Addr} {n : Nat} {xs : List S32} (h : Kd.C k32 w A n xs) (i : Int) (h0 : 0 ≤ i) (h1 : i < n) : ∃ ad A21 c21 A24 c24, A = some ad ∧ w.cell? (ad.add (i.toNat * 25)) = some (.int .i64 (rd_T32 xs i).f0) ∧ w.cell? ⟨(ad.add (i.toNat * 25)).block, (ad.add (i.toNat * 25)).off + 1, none⟩ = some (.int .i64 (rd_T32 xs i).f1) ∧ w.cell? ⟨(ad.add (i.toNat * 25)).block, (ad.add (i.toNat * 25)).off + 2, none⟩ = some (.int .i64 (rd_T32 xs i).f2) ∧ w.cell? ⟨(ad.add (i.toNat * 25)).block, (ad.add (i.toNat * 25)).off + 3, none⟩ = some (.string (rd_T32 xs i).f3) ∧ w.cell? ⟨(ad.add (i.toNat * 25)).block, (ad.add (i.toNat * 25)).off + 4, none⟩ = some (.int .i64 (rd_T32 xs i).f4) ∧ w.cell? ⟨(ad.add (i.toNat * 25)).block, (ad.add (i.toNat * 25)).off + 5, none⟩ = some (.int .i64 (rd_T32 xs i).f5) ∧ w.cell? ⟨(ad.add (i.toNat * 25)).block, (ad.add (i.toNat * 25)).off + 6, none⟩ = some (.string (rd_T32 xs i).f6) ∧ w.cell? ⟨(ad.add (i.toNat * 25)).block, (ad.add (i.toNat * 25)).off + 7, none⟩ = some (.int .i64 (rd_T32 xs i).f7) ∧ w.cell? ⟨(ad.add (i.toNat * 25)).block, (ad.add (i.toNat * 25)).off + 8, none⟩ = some (.int .i64 (rd_T32 xs i).f8) ∧ w.cell? ⟨(ad.add (i.toNat * 25)).block, (ad.add (i.toNat * 25)).off + 9, none⟩ = some (.string (rd_T32 xs i).f9) ∧ w.cell? ⟨(ad.add (i.toNat * 25)).block, (ad.add (i.toNat * 25)).off + 10, none⟩ = some (.int .i64 (rd_T32 xs i).f10) ∧ w.cell? ⟨(ad.add (i.toNat * 25)).block, (ad.add (i.toNat * 25)).off + 11, none⟩ = some (.string (rd_T32 xs i).f11) ∧ w.cell? ⟨(ad.add (i.toNat * 25)).block, (ad.add (i.toNat * 25)).off + 12, none⟩ = some (.int .i64 (rd_T32 xs i).f12) ∧ w.cell? ⟨(ad.add (i.toNat * 25)).block, (ad.add (i.toNat * 25)).off + 13, none⟩ = some (.int .i64 (rd_T32 xs i).f13) ∧ w.cell? ⟨(ad.add (i.toNat * 25)).block, (ad.add (i.toNat * 25)).off + 14, none⟩ = some (.int .i64 (rd_T32 xs i).f14) ∧ w.cell? ⟨(ad.add (i.toNat * 25)).block, (ad.add (i.toNat * 25)).off + 15, none⟩ = some (.int .i64 (rd_T32 xs i).f15) ∧ w.cell? ⟨(ad.add (i.toNat * 25)).block, (ad.add (i.toNat * 25)).off + 16, none⟩ = some (.int .i64 (rd_T32 xs i).f16) ∧ w.cell? ⟨(ad.add (i.toNat * 25)).block, (ad.add (i.toNat * 25)).off + 17, none⟩ = some (.int .i64 (rd_T32 xs i).f17) ∧ w.cell? ⟨(ad.add (i.toNat * 25)).block, (ad.add (i.toNat * 25)).off + 18, none⟩ = some (.int .i64 (rd_T32 xs i).f18) ∧ w.cell? ⟨(ad.add (i.toNat * 25)).block, (ad.add (i.toNat * 25)).off + 19, none⟩ = some (.string (rd_T32 xs i).f19) ∧ w.cell? ⟨(ad.add (i.toNat * 25)).block, (ad.add (i.toNat * 25)).off + 20, none⟩ = some (.string (rd_T32 xs i).f20) ∧ w.cell? ⟨(ad.add (i.toNat * 25)).block, (ad.add (i.toNat * 25)).off + 21, none⟩ = some (.slice A21 (rd_T32 xs i).f21.length c21) ∧ w.cell? ⟨(ad.add (i.toNat * 25)).block, (ad.add (i.toNat * 25)).off + 22, none⟩ = some (.int .i64 (rd_T32 xs i).f22) ∧ w.cell? ⟨(ad.add (i.toNat * 25)).block, (ad.add (i.toNat * 25)).off + 23, none⟩ = some (.string (rd_T32 xs i).f23) ∧ w.cell? ⟨(ad.add (i.toNat * 25)).block, (ad.add (i.toNat * 25)).off + 24, none⟩ = some (.slice A24 (rd_T32 xs i).f24.length c24) ∧ (rd_T32 xs i).f21.length ≤ c21 ∧ k78.C w A21 (rd_T32 xs i).f21.length (rd_T32 xs i).f21 ∧ (rd_T32 xs i).f24.length ≤ c24 ∧ k80.C w A24 (rd_T32 xs i).f24.length (rd_T32 xs i).f24 := by
 obtain ⟨ad, c, e, _, hK, hc0⟩ := Kd.C_get h z32 i h0 h1
 have hc : ∀ j u, c[j]? = some u → w.cell? (ad.add (i.toNat * 25 + j)) = some u := hc0
 obtain ⟨A21, c21, A24, c24, rfl, l21, g21, l24, g24⟩ := k32_open hK
 exact ⟨ad, A21, c21, A24, c24, e, hc 0 _ rfl, by rw [← add_field _ _ 1 (by omega)]; exact hc 1 _ rfl, by rw [← add_field _ _ 2 (by omega)]; exact hc 2 _ rfl, by rw [← add_field _ _ 3 (by omega)]; exact hc 3 _ rfl, by rw [← add_field _ _ 4 (by omega)]; exact hc 4 _ rfl, by rw [← add_field _ _ 5 (by omega)]; exact hc 5 _ rfl, by rw [← add_field _ _ 6 (by omega)]; exact hc 6 _ rfl, by rw [← add_field _ _ 7 (by omega)]; exact hc 7 _ rfl, by rw [← add_field _ _ 8 (by omega)]; exact hc 8 _ rfl, by rw [← add_field _ _ 9 (by omega)]; exact hc 9 _ rfl, by rw [← add_field _ _ 10 (by omega)]; exact hc 10 _ rfl, by rw [← add_field _ _ 11 (by omega)]; exact hc 11 _ rfl, by rw [← add_field _ _ 12 (by omega)]; exact hc 12 _ rfl, by rw [← add_field _ _ 13 (by omega)]; exact hc 13 _ rfl, by rw [← add_field _ _ 14 (by omega)]; exact hc 14 _ rfl, by rw [← add_field _ _ 15 (by omega)]; exact hc 15 _ rfl, by rw [← add_field _ _ 16 (by omega)]; exact hc 16 _ rfl, by rw [← add_field _ _ 17 (by omega)]; exact hc 17 _ rfl, by rw [← add_field _ _ 18 (by omega)]; exact hc 18 _ rfl, by rw [← add_field _ _ 19 (by omega)]; exact hc 19 _ rfl, by rw [← add_field _ _ 20 (by omega)]; exact hc 20 _ rfl, by rw [← add_field _ _ 21 (by omega)]; exact hc 21 _ rfl, by rw [← add_field _ _ 22 (by omega)]; exact hc 22 _ rfl, by rw [← add_field _ _ 23 (by omega)]; exact hc 23 _ rfl, by rw [← add_field _ _ 24 (by omega)]; exact hc 24 _ rfl, l21, g21, l24, g24⟩

structure S48 where
 f0 : Int
 f1 : Int
 f2 : ByteArray
def z48 : S48 := ⟨(0 : Int), (0 : Int), (⟨#[]⟩ : ByteArray)⟩
def k48 : Kd S48 := Kd.iso (Kd.pair (Kd.int .i64) (Kd.pair (Kd.int .i64) Kd.string)) (fun x : S48 => (x.f0, x.f1, x.f2))
theorem k48_open {w : World} {x : S48} {cs : List Value} (h : k48.K w x cs) : cs = [.int .i64 x.f0, .int .i64 x.f1, .string x.f2] := by
 obtain ⟨_, _, rfl, rfl, ⟨_, _, rfl, rfl, rfl⟩⟩ := h
 exact rfl
theorem k48_mkM (w : World) (base : Nat) (ok : Nat → Prop) (x : S48)  : k48.M w base ok x [.int .i64 x.f0, .int .i64 x.f1, .string x.f2] := ⟨[.int .i64 x.f0], [.int .i64 x.f1, .string x.f2], rfl, rfl, ⟨[.int .i64 x.f1], [.string x.f2], rfl, rfl, rfl⟩⟩
def rd_T48 (xs : List S48) (i : Int) : S48 := xs.getD i.toNat z48
theorem at_T48 {w : World} {A : Option Addr} {n : Nat} {xs : List S48} (h : Kd.C k48 w A n xs) (i : Int) (h0 : 0 ≤ i) (h1 : i < n) : ∃ ad , A = some ad ∧ w.cell? (ad.add (i.toNat * 3)) = some (.int .i64 (rd_T48 xs i).f0) ∧ w.cell? ⟨(ad.add (i.toNat * 3)).block, (ad.add (i.toNat * 3)).off + 1, none⟩ = some (.int .i64 (rd_T48 xs i).f1) ∧ w.cell? ⟨(ad.add (i.toNat * 3)).block, (ad.add (i.toNat * 3)).off + 2, none⟩ = some (.string (rd_T48 xs i).f2) := by
 obtain ⟨ad, c, e, _, hK, hc0⟩ := Kd.C_get h z48 i h0 h1
 have hc : ∀ j u, c[j]? = some u → w.cell? (ad.add (i.toNat * 3 + j)) = some u := hc0
 obtain rfl := k48_open hK
 exact ⟨ad, e, hc 0 _ rfl, by rw [← add_field _ _ 1 (by omega)]; exact hc 1 _ rfl, by rw [← add_field _ _ 2 (by omega)]; exact hc 2 _ rfl⟩

/-! #### struct type 105 -/
theorem blk_puts4 {w : World} {g : Nat} {t : TypeId} {c0 c1 c2 c3 v0 v1 v2 v3 : Value} (h : w.heap[g]? = some (.cells #[c0, c1, c2, c3] t (0, 0))) : (((((w.setCell ⟨g, 0, none⟩ v0).setCell ⟨g, 1, none⟩ v1).setCell ⟨g, 2, none⟩ v2).setCell ⟨g, 3, none⟩ v3)).heap[g]? = some (.cells #[v0, v1, v2, v3] t (0, 0)) := by
 replace h := blk_put (cs' := #[v0, c1, c2, c3]) h 0 v0 rfl
 replace h := blk_put (cs' := #[v0, v1, c2, c3]) h 1 v1 rfl
 replace h := blk_put (cs' := #[v0, v1, v2, c3]) h 2 v2 rfl
 replace h := blk_put (cs' := #[v0, v1, v2, v3]) h 3 v3 rfl
 exact h
theorem cells_4 {W : World} {g t : Nat} {v0 v1 v2 v3 : Value} (h : W.heap[g]? = some (.cells #[v0, v1, v2, v3] t (0, 0))) : W.cell? ⟨g, 0, none⟩ = some v0 ∧ W.cell? ⟨g, 1, none⟩ = some v1 ∧ W.cell? ⟨g, 2, none⟩ = some v2 ∧ W.cell? ⟨g, 3, none⟩ = some v3 ∧ W.frozen? ⟨g, 0, none⟩ = false ∧ W.frozen? ⟨g, 1, none⟩ = false ∧ W.frozen? ⟨g, 2, none⟩ = false ∧ W.frozen? ⟨g, 3, none⟩ = false :=
 ⟨(blk_cell h 0).trans rfl, (blk_cell h 1).trans rfl, (blk_cell h 2).trans rfl, (blk_cell h 3).trans rfl, blk_frozen h 0, blk_frozen h 1, blk_frozen h 2, blk_frozen h 3⟩
theorem cells_23 {W : World} {g t : Nat} {v0 v1 v2 v3 v4 v5 v6 v7 v8 v9 v10 v11 v12 v13 v14 v15 v16 v17 v18 v19 v20 v21 v22 : Value} (h : W.heap[g]? = some (.cells #[v0, v1, v2, v3, v4, v5, v6, v7, v8, v9, v10, v11, v12, v13, v14, v15, v16, v17, v18, v19, v20, v21, v22] t (0, 0))) : W.cell? ⟨g, 0, none⟩ = some v0 ∧ W.cell? ⟨g, 1, none⟩ = some v1 ∧ W.cell? ⟨g, 2, none⟩ = some v2 ∧ W.cell? ⟨g, 3, none⟩ = some v3 ∧ W.cell? ⟨g, 4, none⟩ = some v4 ∧ W.cell? ⟨g, 5, none⟩ = some v5 ∧ W.cell? ⟨g, 6, none⟩ = some v6 ∧ W.cell? ⟨g, 7, none⟩ = some v7 ∧ W.cell? ⟨g, 8, none⟩ = some v8 ∧ W.cell? ⟨g, 9, none⟩ = some v9 ∧ W.cell? ⟨g, 10, none⟩ = some v10 ∧ W.cell? ⟨g, 11, none⟩ = some v11 ∧ W.cell? ⟨g, 12, none⟩ = some v12 ∧ W.cell? ⟨g, 13, none⟩ = some v13 ∧ W.cell? ⟨g, 14, none⟩ = some v14 ∧ W.cell? ⟨g, 15, none⟩ = some v15 ∧ W.cell? ⟨g, 16, none⟩ = some v16 ∧ W.cell? ⟨g, 17, none⟩ = some v17 ∧ W.cell? ⟨g, 18, none⟩ = some v18 ∧ W.cell? ⟨g, 19, none⟩ = some v19 ∧ W.cell? ⟨g, 20, none⟩ = some v20 ∧ W.cell? ⟨g, 21, none⟩ = some v21 ∧ W.cell? ⟨g, 22, none⟩ = some v22 ∧ W.frozen? ⟨g, 0, none⟩ = false ∧ W.frozen? ⟨g, 1, none⟩ = false ∧ W.frozen? ⟨g, 2, none⟩ = false ∧ W.frozen? ⟨g, 3, none⟩ = false ∧ W.frozen? ⟨g, 4, none⟩ = false ∧ W.frozen? ⟨g, 5, none⟩ = false ∧ W.frozen? ⟨g, 6, none⟩ = false ∧ W.frozen? ⟨g, 7, none⟩ = false ∧ W.frozen? ⟨g, 8, none⟩ = false ∧ W.frozen? ⟨g, 9, none⟩ = false ∧ W.frozen? ⟨g, 10, none⟩ = false ∧ W.frozen? ⟨g, 11, none⟩ = false ∧ W.frozen? ⟨g, 12, none⟩ = false ∧ W.frozen? ⟨g, 13, none⟩ = false ∧ W.frozen? ⟨g, 14, none⟩ = false ∧ W.frozen? ⟨g, 15, none⟩ = false ∧ W.frozen? ⟨g, 16, none⟩ = false ∧ W.frozen? ⟨g, 17, none⟩ = false ∧ W.frozen? ⟨g, 18, none⟩ = false ∧ W.frozen? ⟨g, 19, none⟩ = false ∧ W.frozen? ⟨g, 20, none⟩ = false ∧ W.frozen? ⟨g, 21, none⟩ = false ∧ W.frozen? ⟨g, 22, none⟩ = false :=
 ⟨(blk_cell h 0).trans rfl, (blk_cell h 1).trans rfl, (blk_cell h 2).trans rfl, (blk_cell h 3).trans rfl, (blk_cell h 4).trans rfl, (blk_cell h 5).trans rfl, (blk_cell h 6).trans rfl, (blk_cell h 7).trans rfl, (blk_cell h 8).trans rfl, (blk_cell h 9).trans rfl, (blk_cell h 10).trans rfl, (blk_cell h 11).trans rfl, (blk_cell h 12).trans rfl, (blk_cell h 13).trans rfl, (blk_cell h 14).trans rfl, (blk_cell h 15).trans rfl, (blk_cell h 16).trans rfl, (blk_cell h 17).trans rfl, (blk_cell h 18).trans rfl, (blk_cell h 19).trans rfl, (blk_cell h 20).trans rfl, (blk_cell h 21).trans rfl, (blk_cell h 22).trans rfl, blk_frozen h 0, blk_frozen h 1, blk_frozen h 2, blk_frozen h 3, blk_frozen h 4, blk_frozen h 5, blk_frozen h 6, blk_frozen h 7, blk_frozen h 8, blk_frozen h 9, blk_frozen h 10, blk_frozen h 11, blk_frozen h 12, blk_frozen h 13, blk_frozen h 14, blk_frozen h 15, blk_frozen h 16, blk_frozen h 17, blk_frozen h 18, blk_frozen h 19, blk_frozen h 20, blk_frozen h 21, blk_frozen h 22⟩
theorem cells_25 {W : World} {g t : Nat} {v0 v1 v2 v3 v4 v5 v6 v7 v8 v9 v10 v11 v12 v13 v14 v15 v16 v17 v18 v19 v20 v21 v22 v23 v24 : Value} (h : W.heap[g]? = some (.cells #[v0, v1, v2, v3, v4, v5, v6, v7, v8, v9, v10, v11, v12, v13, v14, v15, v16, v17, v18, v19, v20, v21, v22, v23, v24] t (0, 0))) : W.cell? ⟨g, 0, none⟩ = some v0 ∧ W.cell? ⟨g, 1, none⟩ = some v1 ∧ W.cell? ⟨g, 2, none⟩ = some v2 ∧ W.cell? ⟨g, 3, none⟩ = some v3 ∧ W.cell? ⟨g, 4, none⟩ = some v4 ∧ W.cell? ⟨g, 5, none⟩ = some v5 ∧ W.cell? ⟨g, 6, none⟩ = some v6 ∧ W.cell? ⟨g, 7, none⟩ = some v7 ∧ W.cell? ⟨g, 8, none⟩ = some v8 ∧ W.cell? ⟨g, 9, none⟩ = some v9 ∧ W.cell? ⟨g, 10, none⟩ = some v10 ∧ W.cell? ⟨g, 11, none⟩ = some v11 ∧ W.cell? ⟨g, 12, none⟩ = some v12 ∧ W.cell? ⟨g, 13, none⟩ = some v13 ∧ W.cell? ⟨g, 14, none⟩ = some v14 ∧ W.cell? ⟨g, 15, none⟩ = some v15 ∧ W.cell? ⟨g, 16, none⟩ = some v16 ∧ W.cell? ⟨g, 17, none⟩ = some v17 ∧ W.cell? ⟨g, 18, none⟩ = some v18 ∧ W.cell? ⟨g, 19, none⟩ = some v19 ∧ W.cell? ⟨g, 20, none⟩ = some v20 ∧ W.cell? ⟨g, 21, none⟩ = some v21 ∧ W.cell? ⟨g, 22, none⟩ = some v22 ∧ W.cell? ⟨g, 23, none⟩ = some v23 ∧ W.cell? ⟨g, 24, none⟩ = some v24 ∧ W.frozen? ⟨g, 0, none⟩ = false ∧ W.frozen? ⟨g, 1, none⟩ = false ∧ W.frozen? ⟨g, 2, none⟩ = false ∧ W.frozen? ⟨g, 3, none⟩ = false ∧ W.frozen? ⟨g, 4, none⟩ = false ∧ W.frozen? ⟨g, 5, none⟩ = false ∧ W.frozen? ⟨g, 6, none⟩ = false ∧ W.frozen? ⟨g, 7, none⟩ = false ∧ W.frozen? ⟨g, 8, none⟩ = false ∧ W.frozen? ⟨g, 9, none⟩ = false ∧ W.frozen? ⟨g, 10, none⟩ = false ∧ W.frozen? ⟨g, 11, none⟩ = false ∧ W.frozen? ⟨g, 12, none⟩ = false ∧ W.frozen? ⟨g, 13, none⟩ = false ∧ W.frozen? ⟨g, 14, none⟩ = false ∧ W.frozen? ⟨g, 15, none⟩ = false ∧ W.frozen? ⟨g, 16, none⟩ = false ∧ W.frozen? ⟨g, 17, none⟩ = false ∧ W.frozen? ⟨g, 18, none⟩ = false ∧ W.frozen? ⟨g, 19, none⟩ = false ∧ W.frozen? ⟨g, 20, none⟩ = false ∧ W.frozen? ⟨g, 21, none⟩ = false ∧ W.frozen? ⟨g, 22, none⟩ = false ∧ W.frozen? ⟨g, 23, none⟩ = false ∧ W.frozen? ⟨g, 24, none⟩ = false :=
 ⟨(blk_cell h 0).trans rfl, (blk_cell h 1).trans rfl, (blk_cell h 2).trans rfl, (blk_cell h 3).trans rfl, (blk_cell h 4).trans rfl, (blk_cell h 5).trans rfl, (blk_cell h 6).trans rfl, (blk_cell h 7).trans rfl, (blk_cell h 8).trans rfl, (blk_cell h 9).trans rfl, (blk_cell h 10).trans rfl, (blk_cell h 11).trans rfl, (blk_cell h 12).trans rfl, (blk_cell h 13).trans rfl, (blk_cell h 14).trans rfl, (blk_cell h 15).trans rfl, (blk_cell h 16).trans rfl, (blk_cell h 17).trans rfl, (blk_cell h 18).trans rfl, (blk_cell h 19).trans rfl, (blk_cell h 20).trans rfl, (blk_cell h 21).trans rfl, (blk_cell h 22).trans rfl, (blk_cell h 23).trans rfl, (blk_cell h 24).trans rfl, blk_frozen h 0, blk_frozen h 1, blk_frozen h 2, blk_frozen h 3, blk_frozen h 4, blk_frozen h 5, blk_frozen h 6, blk_frozen h 7, blk_frozen h 8, blk_frozen h 9, blk_frozen h 10, blk_frozen h 11, blk_frozen h 12, blk_frozen h 13, blk_frozen h 14, blk_frozen h 15, blk_frozen h 16, blk_frozen h 17, blk_frozen h 18, blk_frozen h 19, blk_frozen h 20, blk_frozen h 21, blk_frozen h 22, blk_frozen h 23, blk_frozen h 24⟩
end Go.Proofs.YtnllanjoebjeiaaGreat.PV
