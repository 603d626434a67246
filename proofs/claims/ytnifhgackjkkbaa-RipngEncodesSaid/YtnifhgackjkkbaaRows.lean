/-
  No cell of these rows narrows 'for every input' (looked for: loops, veiled, ifaces, maps, wideKeys, modest, calm, conditions, laid).
  DERIVED. THE GIVEN ROWS OF THIS SEAT. 4 by the template 'for every input the law returns true; each argument reads behind the call as it read before'; 0 by the template 'total and deterministic' (their statements: YtnifhgackjkkbaaTotals.lean).
  GIVEN WITH THE SEED: the statements are not yours to turn. If you find one false, say at which input.
  Laid BY PROGRAM, IN A SANDBOX (cutbox-rows.mjs): the forced cells as the released guide's own fill.sh prints them over the translation e2312e0992b5cc4b… (all of the seat's roots in one cut). By AI agents, Wed Nov 11 2026. No macro, syntax, notation, axiom, sorry.
-/
import Derived.Test.YtnifhgackjkkbaaChecked
import GoSem.Claim
import GoSem.ClaimJoined
import GoSem.ClaimMapViews
import Derived.JoinedTies
import Derived.KernelRfl
namespace Go.Proofs.Ytnifhgackjkkbaa
/- THE CELL 'sum', in the pinned program and in every row, IS THE sha256 OF THE DUMP (.gsa) THAT YtnifhgackjkkbaaProg.lean LOADS. Nothing in Lean hashes anything: it is a label: what it is worth is what the hold of that sum in a sandbox is worth. -/
noncomputable def Try.pinned : Pinned := { name := "ytnifhgackjkkbaa", sum := "e2312e0992b5cc4b36caa7a391bad32b5bc92f606cbe57641146df1ca49342d1", checked := Try.checked }
namespace Rows
def none {H : Type} : Left H := { results := [], args := [] }

/-- 'roadbooklaw12.RipngParses': WHATEVER THE INPUT: true; the input reads as it did. -/
def ripngParsesSpec : ChangeSpec := { name := "ripngParses", fn := fun _ => fun
  | [d] => { results := [.lit (.bool true)], args := [d] }
  | _ => none }
def ripngParsesRow : OpenClaim := { program := "ytnifhgackjkkbaa", sum := "e2312e0992b5cc4b36caa7a391bad32b5bc92f606cbe57641146df1ca49342d1", func := "roadbook/roadbooklaw12.RipngParses", spec := "ripngParses", apart := false }
def RipngParsesSaid : Prop := ripngParsesRow.holds Try.pinned (OpenSpec.ofChange ripngParsesSpec)

/-- ITS FALSE NEIGHBOUR: 'it returns false'. Refute it at one input. -/
def ripngParsesWrong : ChangeSpec := { name := "ripngParses", fn := fun _ => fun
  | [d] => { results := [.lit (.bool false)], args := [d] }
  | _ => none }
def RipngParsesWrongFalsely : Prop := ripngParsesRow.holds Try.pinned (OpenSpec.ofChange ripngParsesWrong)

/-- 'roadbooklaw12.RipngEncodes': WHATEVER THE INPUT: true; the input reads as it did. -/
def ripngEncodesSpec : ChangeSpec := { name := "ripngEncodes", fn := fun _ => fun
  | [d] => { results := [.lit (.bool true)], args := [d] }
  | _ => none }
def ripngEncodesRow : OpenClaim := { program := "ytnifhgackjkkbaa", sum := "e2312e0992b5cc4b36caa7a391bad32b5bc92f606cbe57641146df1ca49342d1", func := "roadbook/roadbooklaw12.RipngEncodes", spec := "ripngEncodes", apart := false }
def RipngEncodesSaid : Prop := ripngEncodesRow.holds Try.pinned (OpenSpec.ofChange ripngEncodesSpec)

/-- ITS FALSE NEIGHBOUR: 'it returns false'. Refute it at one input. -/
def ripngEncodesWrong : ChangeSpec := { name := "ripngEncodes", fn := fun _ => fun
  | [d] => { results := [.lit (.bool false)], args := [d] }
  | _ => none }
def RipngEncodesWrongFalsely : Prop := ripngEncodesRow.holds Try.pinned (OpenSpec.ofChange ripngEncodesWrong)

/-- 'roadbooklaw12.RipngBytes': WHATEVER THE INPUT: true; the input reads as it did. -/
def ripngBytesSpec : ChangeSpec := { name := "ripngBytes", fn := fun _ => fun
  | [d] => { results := [.lit (.bool true)], args := [d] }
  | _ => none }
def ripngBytesRow : OpenClaim := { program := "ytnifhgackjkkbaa", sum := "e2312e0992b5cc4b36caa7a391bad32b5bc92f606cbe57641146df1ca49342d1", func := "roadbook/roadbooklaw12.RipngBytes", spec := "ripngBytes", apart := false }
def RipngBytesSaid : Prop := ripngBytesRow.holds Try.pinned (OpenSpec.ofChange ripngBytesSpec)

/-- ITS FALSE NEIGHBOUR: 'it returns false'. Refute it at one input. -/
def ripngBytesWrong : ChangeSpec := { name := "ripngBytes", fn := fun _ => fun
  | [d] => { results := [.lit (.bool false)], args := [d] }
  | _ => none }
def RipngBytesWrongFalsely : Prop := ripngBytesRow.holds Try.pinned (OpenSpec.ofChange ripngBytesWrong)

/-- 'roadbooklaw12.RipngBack': WHATEVER THE INPUT: true; the input reads as it did. -/
def ripngBackSpec : ChangeSpec := { name := "ripngBack", fn := fun _ => fun
  | [d] => { results := [.lit (.bool true)], args := [d] }
  | _ => none }
def ripngBackRow : OpenClaim := { program := "ytnifhgackjkkbaa", sum := "e2312e0992b5cc4b36caa7a391bad32b5bc92f606cbe57641146df1ca49342d1", func := "roadbook/roadbooklaw12.RipngBack", spec := "ripngBack", apart := false }
def RipngBackSaid : Prop := ripngBackRow.holds Try.pinned (OpenSpec.ofChange ripngBackSpec)

/-- ITS FALSE NEIGHBOUR: 'it returns false'. Refute it at one input. -/
def ripngBackWrong : ChangeSpec := { name := "ripngBack", fn := fun _ => fun
  | [d] => { results := [.lit (.bool false)], args := [d] }
  | _ => none }
def RipngBackWrongFalsely : Prop := ripngBackRow.holds Try.pinned (OpenSpec.ofChange ripngBackWrong)

/- THE SECOND FORM. 'bulk': how many values and letters a reading holds, each counted each time it is reached (what is shared counts as often as it is met; a slice's spare places count too). A statement '..UptoSaid' is the law's where the arguments, and the package variables that the reading takes, are together of bulk at most 1048576: NARROWER than '..Said'. Prove '..Said' where nothing that the law and all that it calls make is longer than what came in: it says more and counts as full. Else prove '..UptoSaid'. A law counts once. -/
mutual
def uptoBulk {H : Type} : DataW H → Nat
  | .lit (.string bytes) => bytes.length + 1
  | .lit _ => 1
  | .nil => 1
  | .ptr d => uptoBulk d + 1
  | .slice elems spare => uptoBulkAll elems + uptoBulkAll spare + 1
  | .agg parts => uptoBulkAll parts + 1
  | .iface _ d => uptoBulk d + 1
  | .map entries => uptoBulkEntries entries + 1
  | .held _ => 1
def uptoBulkAll {H : Type} : List (DataW H) → Nat
  | [] => 0
  | d :: r => uptoBulk d + uptoBulkAll r
def uptoBulkEntries {H : Type} : List (Lit × DataW H) → Nat
  | [] => 0
  | x :: r => uptoBulkEntry x + uptoBulkEntries r
def uptoBulkEntry {H : Type} : Lit × DataW H → Nat
  | (.string bytes, d) => bytes.length + uptoBulk d + 1
  | (_, d) => uptoBulk d + 1
 end
def uptoSmall : (H : Type) → List (DataW H) → Bool := fun _ ds => decide (uptoBulkAll ds ≤ 1048576)
def OpenSpec.upto (s : _root_.Go.ChangeSpec) : _root_.Go.OpenSpec := { _root_.Go.OpenSpec.ofChange s with cond := some uptoSmall }

/-- 'roadbooklaw12.RipngParses', WHERE WHAT IT READS IS OF BULK AT MOST 1048576: true; the input reads as it did. -/
def ripngParsesUptoRow : OpenClaim := { program := "ytnifhgackjkkbaa", sum := "e2312e0992b5cc4b36caa7a391bad32b5bc92f606cbe57641146df1ca49342d1", func := "roadbook/roadbooklaw12.RipngParses", spec := "ripngParses", apart := false, narrowed := true }
def RipngParsesUptoSaid : Prop := ripngParsesUptoRow.holds Try.pinned (OpenSpec.upto ripngParsesSpec)

/-- 'roadbooklaw12.RipngEncodes', WHERE WHAT IT READS IS OF BULK AT MOST 1048576: true; the input reads as it did. -/
def ripngEncodesUptoRow : OpenClaim := { program := "ytnifhgackjkkbaa", sum := "e2312e0992b5cc4b36caa7a391bad32b5bc92f606cbe57641146df1ca49342d1", func := "roadbook/roadbooklaw12.RipngEncodes", spec := "ripngEncodes", apart := false, narrowed := true }
def RipngEncodesUptoSaid : Prop := ripngEncodesUptoRow.holds Try.pinned (OpenSpec.upto ripngEncodesSpec)

/-- 'roadbooklaw12.RipngBytes', WHERE WHAT IT READS IS OF BULK AT MOST 1048576: true; the input reads as it did. -/
def ripngBytesUptoRow : OpenClaim := { program := "ytnifhgackjkkbaa", sum := "e2312e0992b5cc4b36caa7a391bad32b5bc92f606cbe57641146df1ca49342d1", func := "roadbook/roadbooklaw12.RipngBytes", spec := "ripngBytes", apart := false, narrowed := true }
def RipngBytesUptoSaid : Prop := ripngBytesUptoRow.holds Try.pinned (OpenSpec.upto ripngBytesSpec)

/-- 'roadbooklaw12.RipngBack', WHERE WHAT IT READS IS OF BULK AT MOST 1048576: true; the input reads as it did. -/
def ripngBackUptoRow : OpenClaim := { program := "ytnifhgackjkkbaa", sum := "e2312e0992b5cc4b36caa7a391bad32b5bc92f606cbe57641146df1ca49342d1", func := "roadbook/roadbooklaw12.RipngBack", spec := "ripngBack", apart := false, narrowed := true }
def RipngBackUptoSaid : Prop := ripngBackUptoRow.holds Try.pinned (OpenSpec.upto ripngBackSpec)

end Rows
end Go.Proofs.Ytnifhgackjkkbaa
