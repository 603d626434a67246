/-
  No cell of these rows narrows 'for every input' (looked for: loops, veiled, ifaces, maps, wideKeys, modest, calm, conditions, laid).
  DERIVED. THE GIVEN ROWS OF THIS SEAT. 6 by the template 'for every input the law returns true; each argument reads behind the call as it read before'; 0 by the template 'total and deterministic' (their statements: YtnllanjoebjeiaaGreatTotals.lean).
  GIVEN WITH THE SEED: the statements are not yours to turn. If you find one false, say at which input.
  Laid BY PROGRAM, IN A SANDBOX (cutbox-rows.mjs): the forced cells as the released guide's own fill.sh prints them over the translation 6c897c9450819465… (all of the seat's roots in one cut). By AI agents, Wed Nov 11 2026. No macro, syntax, notation, axiom, sorry.
-/
import Derived.Test.YtnllanjoebjeiaaGreatChecked
import GoSem.Claim
import GoSem.ClaimJoined
import GoSem.ClaimMapViews
import Derived.JoinedTies
import Derived.KernelRfl
namespace Go.Proofs.YtnllanjoebjeiaaGreat
/- THE CELL 'sum', in the pinned program and in every row, IS THE sha256 OF THE DUMP (.gsa) THAT YtnllanjoebjeiaaGreatProg.lean LOADS. Nothing in Lean hashes anything: it is a label: what it is worth is what the hold of that sum in a sandbox is worth. -/
noncomputable def Tryz.pinned : Pinned := { name := "ytnllanjoebjeiaagreat", sum := "6c897c9450819465ba68e5b17e00137971b635e61576dfec04b51badb7a1c6bf", checked := Tryz.checked }
namespace Rows
def none {H : Type} : Left H := { results := [], args := [] }

/-- 'roadbooktop.WholeRound': WHATEVER THE INPUT: true; the input reads as it did. -/
def wholeRoundSpec : ChangeSpec := { name := "wholeRound", fn := fun _ => fun
  | [d1, d2] => { results := [.lit (.bool true)], args := [d1, d2] }
  | _ => none }
def wholeRoundRow : OpenClaim := { program := "ytnllanjoebjeiaagreat", sum := "6c897c9450819465ba68e5b17e00137971b635e61576dfec04b51badb7a1c6bf", func := "roadbook/roadbooktop.WholeRound", spec := "wholeRound", unfollowed := true, recurses := true, apart := false }
def WholeRoundSaid : Prop := wholeRoundRow.holds Tryz.pinned (OpenSpec.ofChange wholeRoundSpec)

/-- ITS FALSE NEIGHBOUR: 'it returns false'. Refute it at one input. -/
def wholeRoundWrong : ChangeSpec := { name := "wholeRound", fn := fun _ => fun
  | [d1, d2] => { results := [.lit (.bool false)], args := [d1, d2] }
  | _ => none }
def WholeRoundWrongFalsely : Prop := wholeRoundRow.holds Tryz.pinned (OpenSpec.ofChange wholeRoundWrong)

/-- 'roadbooktop.WholeNorm': WHATEVER THE INPUT: true; the input reads as it did. -/
def wholeNormSpec : ChangeSpec := { name := "wholeNorm", fn := fun _ => fun
  | [d1, d2, d3] => { results := [.lit (.bool true)], args := [d1, d2, d3] }
  | _ => none }
def wholeNormRow : OpenClaim := { program := "ytnllanjoebjeiaagreat", sum := "6c897c9450819465ba68e5b17e00137971b635e61576dfec04b51badb7a1c6bf", func := "roadbook/roadbooktop.WholeNorm", spec := "wholeNorm", unfollowed := true, recurses := true, apart := false }
def WholeNormSaid : Prop := wholeNormRow.holds Tryz.pinned (OpenSpec.ofChange wholeNormSpec)

/-- ITS FALSE NEIGHBOUR: 'it returns false'. Refute it at one input. -/
def wholeNormWrong : ChangeSpec := { name := "wholeNorm", fn := fun _ => fun
  | [d1, d2, d3] => { results := [.lit (.bool false)], args := [d1, d2, d3] }
  | _ => none }
def WholeNormWrongFalsely : Prop := wholeNormRow.holds Tryz.pinned (OpenSpec.ofChange wholeNormWrong)

/-- 'roadbooktop.WholeResolved': WHATEVER THE INPUT: true; the input reads as it did. -/
def wholeResolvedSpec : ChangeSpec := { name := "wholeResolved", fn := fun _ => fun
  | [d] => { results := [.lit (.bool true)], args := [d] }
  | _ => none }
def wholeResolvedRow : OpenClaim := { program := "ytnllanjoebjeiaagreat", sum := "6c897c9450819465ba68e5b17e00137971b635e61576dfec04b51badb7a1c6bf", func := "roadbook/roadbooktop.WholeResolved", spec := "wholeResolved", unfollowed := true, recurses := true, apart := false }
def WholeResolvedSaid : Prop := wholeResolvedRow.holds Tryz.pinned (OpenSpec.ofChange wholeResolvedSpec)

/-- ITS FALSE NEIGHBOUR: 'it returns false'. Refute it at one input. -/
def wholeResolvedWrong : ChangeSpec := { name := "wholeResolved", fn := fun _ => fun
  | [d] => { results := [.lit (.bool false)], args := [d] }
  | _ => none }
def WholeResolvedWrongFalsely : Prop := wholeResolvedRow.holds Tryz.pinned (OpenSpec.ofChange wholeResolvedWrong)

/-- 'roadbooktop.WholeMost': WHATEVER THE INPUT: true; the input reads as it did. -/
def wholeMostSpec : ChangeSpec := { name := "wholeMost", fn := fun _ => fun
  | [d] => { results := [.lit (.bool true)], args := [d] }
  | _ => none }
def wholeMostRow : OpenClaim := { program := "ytnllanjoebjeiaagreat", sum := "6c897c9450819465ba68e5b17e00137971b635e61576dfec04b51badb7a1c6bf", func := "roadbook/roadbooktop.WholeMost", spec := "wholeMost", unfollowed := true, recurses := true, apart := false }
def WholeMostSaid : Prop := wholeMostRow.holds Tryz.pinned (OpenSpec.ofChange wholeMostSpec)

/-- ITS FALSE NEIGHBOUR: 'it returns false'. Refute it at one input. -/
def wholeMostWrong : ChangeSpec := { name := "wholeMost", fn := fun _ => fun
  | [d] => { results := [.lit (.bool false)], args := [d] }
  | _ => none }
def WholeMostWrongFalsely : Prop := wholeMostRow.holds Tryz.pinned (OpenSpec.ofChange wholeMostWrong)

/-- 'roadbooktop.WholeIgnored': WHATEVER THE INPUT: true; the input reads as it did. -/
def wholeIgnoredSpec : ChangeSpec := { name := "wholeIgnored", fn := fun _ => fun
  | [d1, d2] => { results := [.lit (.bool true)], args := [d1, d2] }
  | _ => none }
def wholeIgnoredRow : OpenClaim := { program := "ytnllanjoebjeiaagreat", sum := "6c897c9450819465ba68e5b17e00137971b635e61576dfec04b51badb7a1c6bf", func := "roadbook/roadbooktop.WholeIgnored", spec := "wholeIgnored", unfollowed := true, recurses := true, apart := false }
def WholeIgnoredSaid : Prop := wholeIgnoredRow.holds Tryz.pinned (OpenSpec.ofChange wholeIgnoredSpec)

/-- ITS FALSE NEIGHBOUR: 'it returns false'. Refute it at one input. -/
def wholeIgnoredWrong : ChangeSpec := { name := "wholeIgnored", fn := fun _ => fun
  | [d1, d2] => { results := [.lit (.bool false)], args := [d1, d2] }
  | _ => none }
def WholeIgnoredWrongFalsely : Prop := wholeIgnoredRow.holds Tryz.pinned (OpenSpec.ofChange wholeIgnoredWrong)

/-- 'roadbooktop.WholeFirst': WHATEVER THE INPUT: true; the input reads as it did. -/
def wholeFirstSpec : ChangeSpec := { name := "wholeFirst", fn := fun _ => fun
  | [d1, d2, d3] => { results := [.lit (.bool true)], args := [d1, d2, d3] }
  | _ => none }
def wholeFirstRow : OpenClaim := { program := "ytnllanjoebjeiaagreat", sum := "6c897c9450819465ba68e5b17e00137971b635e61576dfec04b51badb7a1c6bf", func := "roadbook/roadbooktop.WholeFirst", spec := "wholeFirst", unfollowed := true, recurses := true, apart := false }
def WholeFirstSaid : Prop := wholeFirstRow.holds Tryz.pinned (OpenSpec.ofChange wholeFirstSpec)

/-- ITS FALSE NEIGHBOUR: 'it returns false'. Refute it at one input. -/
def wholeFirstWrong : ChangeSpec := { name := "wholeFirst", fn := fun _ => fun
  | [d1, d2, d3] => { results := [.lit (.bool false)], args := [d1, d2, d3] }
  | _ => none }
def WholeFirstWrongFalsely : Prop := wholeFirstRow.holds Tryz.pinned (OpenSpec.ofChange wholeFirstWrong)

/- THE SECOND FORM. 'bulk': how many values and letters a reading holds, each counted each time it is reached (what is shared counts as often as it is met; a slice's spare places count too). A statement '..UptoSaid' is the law's where the arguments, and the package variables that the reading takes, are together of bulk at most 1048576: NARROWER than '..Said'. Prove '..Said' where nothing that the law and all that it calls make is longer than what came in: it says more and counts as full. Else prove '..UptoSaid'. A law counts once. -/
mutual
def uptoBulk {H : Type} : DataW H → Nat
  | .lit (.string bytes) => bytes.length + 1
  | .lit _ => 1
  | .nil => 1
  | .ptr d => uptoBulk d + 1
  | .slice elems spare => uptoBulkAll elems + uptoBulkAll spare + 1
  | .agg parts => uptoBulkAll parts + 1
  | .iface _ d => uptoBulk d + 1
  | .map entries => uptoBulkEntries entries + 1
  | .held _ => 1
def uptoBulkAll {H : Type} : List (DataW H) → Nat
  | [] => 0
  | d :: r => uptoBulk d + uptoBulkAll r
def uptoBulkEntries {H : Type} : List (Lit × DataW H) → Nat
  | [] => 0
  | x :: r => uptoBulkEntry x + uptoBulkEntries r
def uptoBulkEntry {H : Type} : Lit × DataW H → Nat
  | (.string bytes, d) => bytes.length + uptoBulk d + 1
  | (_, d) => uptoBulk d + 1
 end
def uptoSmall : (H : Type) → List (DataW H) → Bool := fun _ ds => decide (uptoBulkAll ds ≤ 1048576)
def OpenSpec.upto (s : _root_.Go.ChangeSpec) : _root_.Go.OpenSpec := { _root_.Go.OpenSpec.ofChange s with cond := some uptoSmall }

/-- 'roadbooktop.WholeRound', WHERE WHAT IT READS IS OF BULK AT MOST 1048576: true; the input reads as it did. -/
def wholeRoundUptoRow : OpenClaim := { program := "ytnllanjoebjeiaagreat", sum := "6c897c9450819465ba68e5b17e00137971b635e61576dfec04b51badb7a1c6bf", func := "roadbook/roadbooktop.WholeRound", spec := "wholeRound", unfollowed := true, recurses := true, apart := false, narrowed := true }
def WholeRoundUptoSaid : Prop := wholeRoundUptoRow.holds Tryz.pinned (OpenSpec.upto wholeRoundSpec)

/-- 'roadbooktop.WholeNorm', WHERE WHAT IT READS IS OF BULK AT MOST 1048576: true; the input reads as it did. -/
def wholeNormUptoRow : OpenClaim := { program := "ytnllanjoebjeiaagreat", sum := "6c897c9450819465ba68e5b17e00137971b635e61576dfec04b51badb7a1c6bf", func := "roadbook/roadbooktop.WholeNorm", spec := "wholeNorm", unfollowed := true, recurses := true, apart := false, narrowed := true }
def WholeNormUptoSaid : Prop := wholeNormUptoRow.holds Tryz.pinned (OpenSpec.upto wholeNormSpec)

/-- 'roadbooktop.WholeResolved', WHERE WHAT IT READS IS OF BULK AT MOST 1048576: true; the input reads as it did. -/
def wholeResolvedUptoRow : OpenClaim := { program := "ytnllanjoebjeiaagreat", sum := "6c897c9450819465ba68e5b17e00137971b635e61576dfec04b51badb7a1c6bf", func := "roadbook/roadbooktop.WholeResolved", spec := "wholeResolved", unfollowed := true, recurses := true, apart := false, narrowed := true }
def WholeResolvedUptoSaid : Prop := wholeResolvedUptoRow.holds Tryz.pinned (OpenSpec.upto wholeResolvedSpec)

/-- 'roadbooktop.WholeMost', WHERE WHAT IT READS IS OF BULK AT MOST 1048576: true; the input reads as it did. -/
def wholeMostUptoRow : OpenClaim := { program := "ytnllanjoebjeiaagreat", sum := "6c897c9450819465ba68e5b17e00137971b635e61576dfec04b51badb7a1c6bf", func := "roadbook/roadbooktop.WholeMost", spec := "wholeMost", unfollowed := true, recurses := true, apart := false, narrowed := true }
def WholeMostUptoSaid : Prop := wholeMostUptoRow.holds Tryz.pinned (OpenSpec.upto wholeMostSpec)

/-- 'roadbooktop.WholeIgnored', WHERE WHAT IT READS IS OF BULK AT MOST 1048576: true; the input reads as it did. -/
def wholeIgnoredUptoRow : OpenClaim := { program := "ytnllanjoebjeiaagreat", sum := "6c897c9450819465ba68e5b17e00137971b635e61576dfec04b51badb7a1c6bf", func := "roadbook/roadbooktop.WholeIgnored", spec := "wholeIgnored", unfollowed := true, recurses := true, apart := false, narrowed := true }
def WholeIgnoredUptoSaid : Prop := wholeIgnoredUptoRow.holds Tryz.pinned (OpenSpec.upto wholeIgnoredSpec)

/-- 'roadbooktop.WholeFirst', WHERE WHAT IT READS IS OF BULK AT MOST 1048576: true; the input reads as it did. -/
def wholeFirstUptoRow : OpenClaim := { program := "ytnllanjoebjeiaagreat", sum := "6c897c9450819465ba68e5b17e00137971b635e61576dfec04b51badb7a1c6bf", func := "roadbook/roadbooktop.WholeFirst", spec := "wholeFirst", unfollowed := true, recurses := true, apart := false, narrowed := true }
def WholeFirstUptoSaid : Prop := wholeFirstUptoRow.holds Tryz.pinned (OpenSpec.upto wholeFirstSpec)

end Rows
end Go.Proofs.YtnllanjoebjeiaaGreat
