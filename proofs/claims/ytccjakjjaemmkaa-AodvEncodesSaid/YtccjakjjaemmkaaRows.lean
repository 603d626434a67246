/-
  No cell of these rows narrows 'for every input' (looked for: loops, veiled, ifaces, maps, wideKeys, modest, calm, conditions, laid).
  DERIVED. THE GIVEN ROWS OF THIS SEAT. 13 by the template 'for every input the law returns true; each argument reads behind the call as it read before'; 0 by the template 'total and deterministic' (their statements: YtccjakjjaemmkaaTotals.lean).
  GIVEN WITH THE SEED: the statements are not yours to turn. If you find one false, say at which input.
  Laid BY PROGRAM, IN A SANDBOX (cutbox-rows.mjs): the forced cells as the released guide's own fill.sh prints them over the translation a84c799769d9c2b0… (all of the seat's roots in one cut). By AI agents, Wed Nov 11 2026. No macro, syntax, notation, axiom, sorry.
-/
import Derived.Test.YtccjakjjaemmkaaChecked
import GoSem.Claim
import GoSem.ClaimJoined
import GoSem.ClaimMapViews
import Derived.JoinedTies
import Derived.KernelRfl
namespace Go.Proofs.Ytccjakjjaemmkaa
/- THE CELL 'sum', in the pinned program and in every row, IS THE sha256 OF THE DUMP (.gsa) THAT YtccjakjjaemmkaaProg.lean LOADS. Nothing in Lean hashes anything: it is a label: what it is worth is what the hold of that sum in a sandbox is worth. -/
noncomputable def Try.pinned : Pinned := { name := "ytccjakjjaemmkaa", sum := "a84c799769d9c2b0beb3827863b2c6427accca95582f53bbdc5375e70eb5064d", checked := Try.checked }
namespace Rows
def none {H : Type} : Left H := { results := [], args := [] }

/-- 'roadbooklaw14.RreqTells': WHATEVER THE INPUT: true; the input reads as it did. -/
def rreqTellsSpec : ChangeSpec := { name := "rreqTells", fn := fun _ => fun
  | [d] => { results := [.lit (.bool true)], args := [d] }
  | _ => none }
def rreqTellsRow : OpenClaim := { program := "ytccjakjjaemmkaa", sum := "a84c799769d9c2b0beb3827863b2c6427accca95582f53bbdc5375e70eb5064d", func := "roadbook/roadbooklaw14.RreqTells", spec := "rreqTells", apart := false }
def RreqTellsSaid : Prop := rreqTellsRow.holds Try.pinned (OpenSpec.ofChange rreqTellsSpec)

/-- ITS FALSE NEIGHBOUR: 'it returns false'. Refute it at one input. -/
def rreqTellsWrong : ChangeSpec := { name := "rreqTells", fn := fun _ => fun
  | [d] => { results := [.lit (.bool false)], args := [d] }
  | _ => none }
def RreqTellsWrongFalsely : Prop := rreqTellsRow.holds Try.pinned (OpenSpec.ofChange rreqTellsWrong)

/-- 'roadbooklaw14.RreqGets': WHATEVER THE INPUT: true; the input reads as it did. -/
def rreqGetsSpec : ChangeSpec := { name := "rreqGets", fn := fun _ => fun
  | [d] => { results := [.lit (.bool true)], args := [d] }
  | _ => none }
def rreqGetsRow : OpenClaim := { program := "ytccjakjjaemmkaa", sum := "a84c799769d9c2b0beb3827863b2c6427accca95582f53bbdc5375e70eb5064d", func := "roadbook/roadbooklaw14.RreqGets", spec := "rreqGets", apart := false }
def RreqGetsSaid : Prop := rreqGetsRow.holds Try.pinned (OpenSpec.ofChange rreqGetsSpec)

/-- ITS FALSE NEIGHBOUR: 'it returns false'. Refute it at one input. -/
def rreqGetsWrong : ChangeSpec := { name := "rreqGets", fn := fun _ => fun
  | [d] => { results := [.lit (.bool false)], args := [d] }
  | _ => none }
def RreqGetsWrongFalsely : Prop := rreqGetsRow.holds Try.pinned (OpenSpec.ofChange rreqGetsWrong)

/-- 'roadbooklaw14.RreqBack': WHATEVER THE INPUT: true; the input reads as it did. -/
def rreqBackSpec : ChangeSpec := { name := "rreqBack", fn := fun _ => fun
  | [d1, d2] => { results := [.lit (.bool true)], args := [d1, d2] }
  | _ => none }
def rreqBackRow : OpenClaim := { program := "ytccjakjjaemmkaa", sum := "a84c799769d9c2b0beb3827863b2c6427accca95582f53bbdc5375e70eb5064d", func := "roadbook/roadbooklaw14.RreqBack", spec := "rreqBack", apart := false }
def RreqBackSaid : Prop := rreqBackRow.holds Try.pinned (OpenSpec.ofChange rreqBackSpec)

/-- ITS FALSE NEIGHBOUR: 'it returns false'. Refute it at one input. -/
def rreqBackWrong : ChangeSpec := { name := "rreqBack", fn := fun _ => fun
  | [d1, d2] => { results := [.lit (.bool false)], args := [d1, d2] }
  | _ => none }
def RreqBackWrongFalsely : Prop := rreqBackRow.holds Try.pinned (OpenSpec.ofChange rreqBackWrong)

/-- 'roadbooklaw16.RerrTells': WHATEVER THE INPUT: true; the input reads as it did. -/
def rerrTellsSpec : ChangeSpec := { name := "rerrTells", fn := fun _ => fun
  | [d] => { results := [.lit (.bool true)], args := [d] }
  | _ => none }
def rerrTellsRow : OpenClaim := { program := "ytccjakjjaemmkaa", sum := "a84c799769d9c2b0beb3827863b2c6427accca95582f53bbdc5375e70eb5064d", func := "roadbook/roadbooklaw16.RerrTells", spec := "rerrTells", apart := false }
def RerrTellsSaid : Prop := rerrTellsRow.holds Try.pinned (OpenSpec.ofChange rerrTellsSpec)

/-- ITS FALSE NEIGHBOUR: 'it returns false'. Refute it at one input. -/
def rerrTellsWrong : ChangeSpec := { name := "rerrTells", fn := fun _ => fun
  | [d] => { results := [.lit (.bool false)], args := [d] }
  | _ => none }
def RerrTellsWrongFalsely : Prop := rerrTellsRow.holds Try.pinned (OpenSpec.ofChange rerrTellsWrong)

/-- 'roadbooklaw16.RerrGets': WHATEVER THE INPUT: true; the input reads as it did. -/
def rerrGetsSpec : ChangeSpec := { name := "rerrGets", fn := fun _ => fun
  | [d] => { results := [.lit (.bool true)], args := [d] }
  | _ => none }
def rerrGetsRow : OpenClaim := { program := "ytccjakjjaemmkaa", sum := "a84c799769d9c2b0beb3827863b2c6427accca95582f53bbdc5375e70eb5064d", func := "roadbook/roadbooklaw16.RerrGets", spec := "rerrGets", apart := false }
def RerrGetsSaid : Prop := rerrGetsRow.holds Try.pinned (OpenSpec.ofChange rerrGetsSpec)

/-- ITS FALSE NEIGHBOUR: 'it returns false'. Refute it at one input. -/
def rerrGetsWrong : ChangeSpec := { name := "rerrGets", fn := fun _ => fun
  | [d] => { results := [.lit (.bool false)], args := [d] }
  | _ => none }
def RerrGetsWrongFalsely : Prop := rerrGetsRow.holds Try.pinned (OpenSpec.ofChange rerrGetsWrong)

/-- 'roadbooklaw16.RerrBack': WHATEVER THE INPUT: true; the input reads as it did. -/
def rerrBackSpec : ChangeSpec := { name := "rerrBack", fn := fun _ => fun
  | [d1, d2] => { results := [.lit (.bool true)], args := [d1, d2] }
  | _ => none }
def rerrBackRow : OpenClaim := { program := "ytccjakjjaemmkaa", sum := "a84c799769d9c2b0beb3827863b2c6427accca95582f53bbdc5375e70eb5064d", func := "roadbook/roadbooklaw16.RerrBack", spec := "rerrBack", apart := false }
def RerrBackSaid : Prop := rerrBackRow.holds Try.pinned (OpenSpec.ofChange rerrBackSpec)

/-- ITS FALSE NEIGHBOUR: 'it returns false'. Refute it at one input. -/
def rerrBackWrong : ChangeSpec := { name := "rerrBack", fn := fun _ => fun
  | [d1, d2] => { results := [.lit (.bool false)], args := [d1, d2] }
  | _ => none }
def RerrBackWrongFalsely : Prop := rerrBackRow.holds Try.pinned (OpenSpec.ofChange rerrBackWrong)

/-- 'roadbooklaw16.RerrSizes': WHATEVER THE INPUT: true; the input reads as it did. -/
def rerrSizesSpec : ChangeSpec := { name := "rerrSizes", fn := fun _ => fun
  | [d] => { results := [.lit (.bool true)], args := [d] }
  | _ => none }
def rerrSizesRow : OpenClaim := { program := "ytccjakjjaemmkaa", sum := "a84c799769d9c2b0beb3827863b2c6427accca95582f53bbdc5375e70eb5064d", func := "roadbook/roadbooklaw16.RerrSizes", spec := "rerrSizes", apart := false }
def RerrSizesSaid : Prop := rerrSizesRow.holds Try.pinned (OpenSpec.ofChange rerrSizesSpec)

/-- ITS FALSE NEIGHBOUR: 'it returns false'. Refute it at one input. -/
def rerrSizesWrong : ChangeSpec := { name := "rerrSizes", fn := fun _ => fun
  | [d] => { results := [.lit (.bool false)], args := [d] }
  | _ => none }
def RerrSizesWrongFalsely : Prop := rerrSizesRow.holds Try.pinned (OpenSpec.ofChange rerrSizesWrong)

/-- 'roadbooklaw15.RrepTells': WHATEVER THE INPUT: true; the input reads as it did. -/
def rrepTellsSpec : ChangeSpec := { name := "rrepTells", fn := fun _ => fun
  | [d] => { results := [.lit (.bool true)], args := [d] }
  | _ => none }
def rrepTellsRow : OpenClaim := { program := "ytccjakjjaemmkaa", sum := "a84c799769d9c2b0beb3827863b2c6427accca95582f53bbdc5375e70eb5064d", func := "roadbook/roadbooklaw15.RrepTells", spec := "rrepTells", apart := false }
def RrepTellsSaid : Prop := rrepTellsRow.holds Try.pinned (OpenSpec.ofChange rrepTellsSpec)

/-- ITS FALSE NEIGHBOUR: 'it returns false'. Refute it at one input. -/
def rrepTellsWrong : ChangeSpec := { name := "rrepTells", fn := fun _ => fun
  | [d] => { results := [.lit (.bool false)], args := [d] }
  | _ => none }
def RrepTellsWrongFalsely : Prop := rrepTellsRow.holds Try.pinned (OpenSpec.ofChange rrepTellsWrong)

/-- 'roadbooklaw15.RrepGets': WHATEVER THE INPUT: true; the input reads as it did. -/
def rrepGetsSpec : ChangeSpec := { name := "rrepGets", fn := fun _ => fun
  | [d] => { results := [.lit (.bool true)], args := [d] }
  | _ => none }
def rrepGetsRow : OpenClaim := { program := "ytccjakjjaemmkaa", sum := "a84c799769d9c2b0beb3827863b2c6427accca95582f53bbdc5375e70eb5064d", func := "roadbook/roadbooklaw15.RrepGets", spec := "rrepGets", apart := false }
def RrepGetsSaid : Prop := rrepGetsRow.holds Try.pinned (OpenSpec.ofChange rrepGetsSpec)

/-- ITS FALSE NEIGHBOUR: 'it returns false'. Refute it at one input. -/
def rrepGetsWrong : ChangeSpec := { name := "rrepGets", fn := fun _ => fun
  | [d] => { results := [.lit (.bool false)], args := [d] }
  | _ => none }
def RrepGetsWrongFalsely : Prop := rrepGetsRow.holds Try.pinned (OpenSpec.ofChange rrepGetsWrong)

/-- 'roadbooklaw15.RrepBack': WHATEVER THE INPUT: true; the input reads as it did. -/
def rrepBackSpec : ChangeSpec := { name := "rrepBack", fn := fun _ => fun
  | [d1, d2] => { results := [.lit (.bool true)], args := [d1, d2] }
  | _ => none }
def rrepBackRow : OpenClaim := { program := "ytccjakjjaemmkaa", sum := "a84c799769d9c2b0beb3827863b2c6427accca95582f53bbdc5375e70eb5064d", func := "roadbook/roadbooklaw15.RrepBack", spec := "rrepBack", apart := false }
def RrepBackSaid : Prop := rrepBackRow.holds Try.pinned (OpenSpec.ofChange rrepBackSpec)

/-- ITS FALSE NEIGHBOUR: 'it returns false'. Refute it at one input. -/
def rrepBackWrong : ChangeSpec := { name := "rrepBack", fn := fun _ => fun
  | [d1, d2] => { results := [.lit (.bool false)], args := [d1, d2] }
  | _ => none }
def RrepBackWrongFalsely : Prop := rrepBackRow.holds Try.pinned (OpenSpec.ofChange rrepBackWrong)

/-- 'roadbooklaw17.AodvParses': WHATEVER THE INPUT: true; the input reads as it did. -/
def aodvParsesSpec : ChangeSpec := { name := "aodvParses", fn := fun _ => fun
  | [d] => { results := [.lit (.bool true)], args := [d] }
  | _ => none }
def aodvParsesRow : OpenClaim := { program := "ytccjakjjaemmkaa", sum := "a84c799769d9c2b0beb3827863b2c6427accca95582f53bbdc5375e70eb5064d", func := "roadbook/roadbooklaw17.AodvParses", spec := "aodvParses", apart := false }
def AodvParsesSaid : Prop := aodvParsesRow.holds Try.pinned (OpenSpec.ofChange aodvParsesSpec)

/-- ITS FALSE NEIGHBOUR: 'it returns false'. Refute it at one input. -/
def aodvParsesWrong : ChangeSpec := { name := "aodvParses", fn := fun _ => fun
  | [d] => { results := [.lit (.bool false)], args := [d] }
  | _ => none }
def AodvParsesWrongFalsely : Prop := aodvParsesRow.holds Try.pinned (OpenSpec.ofChange aodvParsesWrong)

/-- 'roadbooklaw17.AodvEncodes': WHATEVER THE INPUT: true; the input reads as it did. -/
def aodvEncodesSpec : ChangeSpec := { name := "aodvEncodes", fn := fun _ => fun
  | [d] => { results := [.lit (.bool true)], args := [d] }
  | _ => none }
def aodvEncodesRow : OpenClaim := { program := "ytccjakjjaemmkaa", sum := "a84c799769d9c2b0beb3827863b2c6427accca95582f53bbdc5375e70eb5064d", func := "roadbook/roadbooklaw17.AodvEncodes", spec := "aodvEncodes", apart := false }
def AodvEncodesSaid : Prop := aodvEncodesRow.holds Try.pinned (OpenSpec.ofChange aodvEncodesSpec)

/-- ITS FALSE NEIGHBOUR: 'it returns false'. Refute it at one input. -/
def aodvEncodesWrong : ChangeSpec := { name := "aodvEncodes", fn := fun _ => fun
  | [d] => { results := [.lit (.bool false)], args := [d] }
  | _ => none }
def AodvEncodesWrongFalsely : Prop := aodvEncodesRow.holds Try.pinned (OpenSpec.ofChange aodvEncodesWrong)

/-- 'roadbooklaw17.AodvBack': WHATEVER THE INPUT: true; the input reads as it did. -/
def aodvBackSpec : ChangeSpec := { name := "aodvBack", fn := fun _ => fun
  | [d1, d2] => { results := [.lit (.bool true)], args := [d1, d2] }
  | _ => none }
def aodvBackRow : OpenClaim := { program := "ytccjakjjaemmkaa", sum := "a84c799769d9c2b0beb3827863b2c6427accca95582f53bbdc5375e70eb5064d", func := "roadbook/roadbooklaw17.AodvBack", spec := "aodvBack", apart := false }
def AodvBackSaid : Prop := aodvBackRow.holds Try.pinned (OpenSpec.ofChange aodvBackSpec)

/-- ITS FALSE NEIGHBOUR: 'it returns false'. Refute it at one input. -/
def aodvBackWrong : ChangeSpec := { name := "aodvBack", fn := fun _ => fun
  | [d1, d2] => { results := [.lit (.bool false)], args := [d1, d2] }
  | _ => none }
def AodvBackWrongFalsely : Prop := aodvBackRow.holds Try.pinned (OpenSpec.ofChange aodvBackWrong)

/- THE SECOND FORM. 'bulk': how many values and letters a reading holds, each counted each time it is reached (what is shared counts as often as it is met; a slice's spare places count too). A statement '..UptoSaid' is the law's where the arguments, and the package variables that the reading takes, are together of bulk at most 1048576: NARROWER than '..Said'. Prove '..Said' where nothing that the law and all that it calls make is longer than what came in: it says more and counts as full. Else prove '..UptoSaid'. A law counts once. -/
mutual
def uptoBulk {H : Type} : DataW H → Nat
  | .lit (.string bytes) => bytes.length + 1
  | .lit _ => 1
  | .nil => 1
  | .ptr d => uptoBulk d + 1
  | .slice elems spare => uptoBulkAll elems + uptoBulkAll spare + 1
  | .agg parts => uptoBulkAll parts + 1
  | .iface _ d => uptoBulk d + 1
  | .map entries => uptoBulkEntries entries + 1
  | .held _ => 1
def uptoBulkAll {H : Type} : List (DataW H) → Nat
  | [] => 0
  | d :: r => uptoBulk d + uptoBulkAll r
def uptoBulkEntries {H : Type} : List (Lit × DataW H) → Nat
  | [] => 0
  | x :: r => uptoBulkEntry x + uptoBulkEntries r
def uptoBulkEntry {H : Type} : Lit × DataW H → Nat
  | (.string bytes, d) => bytes.length + uptoBulk d + 1
  | (_, d) => uptoBulk d + 1
 end
def uptoSmall : (H : Type) → List (DataW H) → Bool := fun _ ds => decide (uptoBulkAll ds ≤ 1048576)
def OpenSpec.upto (s : _root_.Go.ChangeSpec) : _root_.Go.OpenSpec := { _root_.Go.OpenSpec.ofChange s with cond := some uptoSmall }

/-- 'roadbooklaw14.RreqTells', WHERE WHAT IT READS IS OF BULK AT MOST 1048576: true; the input reads as it did. -/
def rreqTellsUptoRow : OpenClaim := { program := "ytccjakjjaemmkaa", sum := "a84c799769d9c2b0beb3827863b2c6427accca95582f53bbdc5375e70eb5064d", func := "roadbook/roadbooklaw14.RreqTells", spec := "rreqTells", apart := false, narrowed := true }
def RreqTellsUptoSaid : Prop := rreqTellsUptoRow.holds Try.pinned (OpenSpec.upto rreqTellsSpec)

/-- 'roadbooklaw14.RreqGets', WHERE WHAT IT READS IS OF BULK AT MOST 1048576: true; the input reads as it did. -/
def rreqGetsUptoRow : OpenClaim := { program := "ytccjakjjaemmkaa", sum := "a84c799769d9c2b0beb3827863b2c6427accca95582f53bbdc5375e70eb5064d", func := "roadbook/roadbooklaw14.RreqGets", spec := "rreqGets", apart := false, narrowed := true }
def RreqGetsUptoSaid : Prop := rreqGetsUptoRow.holds Try.pinned (OpenSpec.upto rreqGetsSpec)

/-- 'roadbooklaw14.RreqBack', WHERE WHAT IT READS IS OF BULK AT MOST 1048576: true; the input reads as it did. -/
def rreqBackUptoRow : OpenClaim := { program := "ytccjakjjaemmkaa", sum := "a84c799769d9c2b0beb3827863b2c6427accca95582f53bbdc5375e70eb5064d", func := "roadbook/roadbooklaw14.RreqBack", spec := "rreqBack", apart := false, narrowed := true }
def RreqBackUptoSaid : Prop := rreqBackUptoRow.holds Try.pinned (OpenSpec.upto rreqBackSpec)

/-- 'roadbooklaw16.RerrTells', WHERE WHAT IT READS IS OF BULK AT MOST 1048576: true; the input reads as it did. -/
def rerrTellsUptoRow : OpenClaim := { program := "ytccjakjjaemmkaa", sum := "a84c799769d9c2b0beb3827863b2c6427accca95582f53bbdc5375e70eb5064d", func := "roadbook/roadbooklaw16.RerrTells", spec := "rerrTells", apart := false, narrowed := true }
def RerrTellsUptoSaid : Prop := rerrTellsUptoRow.holds Try.pinned (OpenSpec.upto rerrTellsSpec)

/-- 'roadbooklaw16.RerrGets', WHERE WHAT IT READS IS OF BULK AT MOST 1048576: true; the input reads as it did. -/
def rerrGetsUptoRow : OpenClaim := { program := "ytccjakjjaemmkaa", sum := "a84c799769d9c2b0beb3827863b2c6427accca95582f53bbdc5375e70eb5064d", func := "roadbook/roadbooklaw16.RerrGets", spec := "rerrGets", apart := false, narrowed := true }
def RerrGetsUptoSaid : Prop := rerrGetsUptoRow.holds Try.pinned (OpenSpec.upto rerrGetsSpec)

/-- 'roadbooklaw16.RerrBack', WHERE WHAT IT READS IS OF BULK AT MOST 1048576: true; the input reads as it did. -/
def rerrBackUptoRow : OpenClaim := { program := "ytccjakjjaemmkaa", sum := "a84c799769d9c2b0beb3827863b2c6427accca95582f53bbdc5375e70eb5064d", func := "roadbook/roadbooklaw16.RerrBack", spec := "rerrBack", apart := false, narrowed := true }
def RerrBackUptoSaid : Prop := rerrBackUptoRow.holds Try.pinned (OpenSpec.upto rerrBackSpec)

/-- 'roadbooklaw16.RerrSizes', WHERE WHAT IT READS IS OF BULK AT MOST 1048576: true; the input reads as it did. -/
def rerrSizesUptoRow : OpenClaim := { program := "ytccjakjjaemmkaa", sum := "a84c799769d9c2b0beb3827863b2c6427accca95582f53bbdc5375e70eb5064d", func := "roadbook/roadbooklaw16.RerrSizes", spec := "rerrSizes", apart := false, narrowed := true }
def RerrSizesUptoSaid : Prop := rerrSizesUptoRow.holds Try.pinned (OpenSpec.upto rerrSizesSpec)

/-- 'roadbooklaw15.RrepTells', WHERE WHAT IT READS IS OF BULK AT MOST 1048576: true; the input reads as it did. -/
def rrepTellsUptoRow : OpenClaim := { program := "ytccjakjjaemmkaa", sum := "a84c799769d9c2b0beb3827863b2c6427accca95582f53bbdc5375e70eb5064d", func := "roadbook/roadbooklaw15.RrepTells", spec := "rrepTells", apart := false, narrowed := true }
def RrepTellsUptoSaid : Prop := rrepTellsUptoRow.holds Try.pinned (OpenSpec.upto rrepTellsSpec)

/-- 'roadbooklaw15.RrepGets', WHERE WHAT IT READS IS OF BULK AT MOST 1048576: true; the input reads as it did. -/
def rrepGetsUptoRow : OpenClaim := { program := "ytccjakjjaemmkaa", sum := "a84c799769d9c2b0beb3827863b2c6427accca95582f53bbdc5375e70eb5064d", func := "roadbook/roadbooklaw15.RrepGets", spec := "rrepGets", apart := false, narrowed := true }
def RrepGetsUptoSaid : Prop := rrepGetsUptoRow.holds Try.pinned (OpenSpec.upto rrepGetsSpec)

/-- 'roadbooklaw15.RrepBack', WHERE WHAT IT READS IS OF BULK AT MOST 1048576: true; the input reads as it did. -/
def rrepBackUptoRow : OpenClaim := { program := "ytccjakjjaemmkaa", sum := "a84c799769d9c2b0beb3827863b2c6427accca95582f53bbdc5375e70eb5064d", func := "roadbook/roadbooklaw15.RrepBack", spec := "rrepBack", apart := false, narrowed := true }
def RrepBackUptoSaid : Prop := rrepBackUptoRow.holds Try.pinned (OpenSpec.upto rrepBackSpec)

/-- 'roadbooklaw17.AodvParses', WHERE WHAT IT READS IS OF BULK AT MOST 1048576: true; the input reads as it did. -/
def aodvParsesUptoRow : OpenClaim := { program := "ytccjakjjaemmkaa", sum := "a84c799769d9c2b0beb3827863b2c6427accca95582f53bbdc5375e70eb5064d", func := "roadbook/roadbooklaw17.AodvParses", spec := "aodvParses", apart := false, narrowed := true }
def AodvParsesUptoSaid : Prop := aodvParsesUptoRow.holds Try.pinned (OpenSpec.upto aodvParsesSpec)

/-- 'roadbooklaw17.AodvEncodes', WHERE WHAT IT READS IS OF BULK AT MOST 1048576: true; the input reads as it did. -/
def aodvEncodesUptoRow : OpenClaim := { program := "ytccjakjjaemmkaa", sum := "a84c799769d9c2b0beb3827863b2c6427accca95582f53bbdc5375e70eb5064d", func := "roadbook/roadbooklaw17.AodvEncodes", spec := "aodvEncodes", apart := false, narrowed := true }
def AodvEncodesUptoSaid : Prop := aodvEncodesUptoRow.holds Try.pinned (OpenSpec.upto aodvEncodesSpec)

/-- 'roadbooklaw17.AodvBack', WHERE WHAT IT READS IS OF BULK AT MOST 1048576: true; the input reads as it did. -/
def aodvBackUptoRow : OpenClaim := { program := "ytccjakjjaemmkaa", sum := "a84c799769d9c2b0beb3827863b2c6427accca95582f53bbdc5375e70eb5064d", func := "roadbook/roadbooklaw17.AodvBack", spec := "aodvBack", apart := false, narrowed := true }
def AodvBackUptoSaid : Prop := aodvBackUptoRow.holds Try.pinned (OpenSpec.upto aodvBackSpec)

end Rows
end Go.Proofs.Ytccjakjjaemmkaa
