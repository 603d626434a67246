/-
  No cell of these rows narrows 'for every input' (looked for: loops, veiled, ifaces, maps, wideKeys, modest, calm, conditions, laid).
  DERIVED. THE GIVEN ROWS OF THIS SEAT. 12 by the template 'for every input the law returns true; each argument reads behind the call as it read before'; 0 by the template 'total and deterministic' (their statements: YtbpclinffgedjaaTotals.lean).
  GIVEN WITH THE SEED: the statements are not yours to turn. If you find one false, say at which input.
  Laid BY PROGRAM, IN A SANDBOX (cutbox-rows.mjs): the forced cells as the released guide's own fill.sh prints them over the translation 6e4e0b0dc80645fe… (all of the seat's roots in one cut). By AI agents, Wed Nov 11 2026. No macro, syntax, notation, axiom, sorry.
-/
import Derived.Test.YtbpclinffgedjaaChecked
import GoSem.Claim
import GoSem.ClaimJoined
import GoSem.ClaimMapViews
import Derived.JoinedTies
import Derived.KernelRfl
namespace Go.Proofs.Ytbpclinffgedjaa
/- THE CELL 'sum', in the pinned program and in every row, IS THE sha256 OF THE DUMP (.gsa) THAT YtbpclinffgedjaaProg.lean LOADS. Nothing in Lean hashes anything: it is a label: what it is worth is what the hold of that sum in a sandbox is worth. -/
noncomputable def Try.pinned : Pinned := { name := "ytbpclinffgedjaa", sum := "6e4e0b0dc80645feec8257b7faec79f0ab15735fea4aed5239b85ca4620ad2df", checked := Try.checked }
namespace Rows
def none {H : Type} : Left H := { results := [], args := [] }

/-- 'roadbooklaw11.RteTells': WHATEVER THE INPUT: true; the input reads as it did. -/
def rteTellsSpec : ChangeSpec := { name := "rteTells", fn := fun _ => fun
  | [d1, d2] => { results := [.lit (.bool true)], args := [d1, d2] }
  | _ => none }
def rteTellsRow : OpenClaim := { program := "ytbpclinffgedjaa", sum := "6e4e0b0dc80645feec8257b7faec79f0ab15735fea4aed5239b85ca4620ad2df", func := "roadbook/roadbooklaw11.RteTells", spec := "rteTells", apart := false }
def RteTellsSaid : Prop := rteTellsRow.holds Try.pinned (OpenSpec.ofChange rteTellsSpec)

/-- ITS FALSE NEIGHBOUR: 'it returns false'. Refute it at one input. -/
def rteTellsWrong : ChangeSpec := { name := "rteTells", fn := fun _ => fun
  | [d1, d2] => { results := [.lit (.bool false)], args := [d1, d2] }
  | _ => none }
def RteTellsWrongFalsely : Prop := rteTellsRow.holds Try.pinned (OpenSpec.ofChange rteTellsWrong)

/-- 'roadbooklaw11.RteBack': WHATEVER THE INPUT: true; the input reads as it did. -/
def rteBackSpec : ChangeSpec := { name := "rteBack", fn := fun _ => fun
  | [d1, d2] => { results := [.lit (.bool true)], args := [d1, d2] }
  | _ => none }
def rteBackRow : OpenClaim := { program := "ytbpclinffgedjaa", sum := "6e4e0b0dc80645feec8257b7faec79f0ab15735fea4aed5239b85ca4620ad2df", func := "roadbook/roadbooklaw11.RteBack", spec := "rteBack", apart := false }
def RteBackSaid : Prop := rteBackRow.holds Try.pinned (OpenSpec.ofChange rteBackSpec)

/-- ITS FALSE NEIGHBOUR: 'it returns false'. Refute it at one input. -/
def rteBackWrong : ChangeSpec := { name := "rteBack", fn := fun _ => fun
  | [d1, d2] => { results := [.lit (.bool false)], args := [d1, d2] }
  | _ => none }
def RteBackWrongFalsely : Prop := rteBackRow.holds Try.pinned (OpenSpec.ofChange rteBackWrong)

/-- 'roadbooklaw02.OctetTells': WHATEVER THE INPUT: true; the input reads as it did. -/
def octetTellsSpec : ChangeSpec := { name := "octetTells", fn := fun _ => fun
  | [d1, d2, d3] => { results := [.lit (.bool true)], args := [d1, d2, d3] }
  | _ => none }
def octetTellsRow : OpenClaim := { program := "ytbpclinffgedjaa", sum := "6e4e0b0dc80645feec8257b7faec79f0ab15735fea4aed5239b85ca4620ad2df", func := "roadbook/roadbooklaw02.OctetTells", spec := "octetTells", apart := false }
def OctetTellsSaid : Prop := octetTellsRow.holds Try.pinned (OpenSpec.ofChange octetTellsSpec)

/-- ITS FALSE NEIGHBOUR: 'it returns false'. Refute it at one input. -/
def octetTellsWrong : ChangeSpec := { name := "octetTells", fn := fun _ => fun
  | [d1, d2, d3] => { results := [.lit (.bool false)], args := [d1, d2, d3] }
  | _ => none }
def OctetTellsWrongFalsely : Prop := octetTellsRow.holds Try.pinned (OpenSpec.ofChange octetTellsWrong)

/-- 'roadbooklaw02.OctetBack': WHATEVER THE INPUT: true; the input reads as it did. -/
def octetBackSpec : ChangeSpec := { name := "octetBack", fn := fun _ => fun
  | [d1, d2] => { results := [.lit (.bool true)], args := [d1, d2] }
  | _ => none }
def octetBackRow : OpenClaim := { program := "ytbpclinffgedjaa", sum := "6e4e0b0dc80645feec8257b7faec79f0ab15735fea4aed5239b85ca4620ad2df", func := "roadbook/roadbooklaw02.OctetBack", spec := "octetBack", apart := false }
def OctetBackSaid : Prop := octetBackRow.holds Try.pinned (OpenSpec.ofChange octetBackSpec)

/-- ITS FALSE NEIGHBOUR: 'it returns false'. Refute it at one input. -/
def octetBackWrong : ChangeSpec := { name := "octetBack", fn := fun _ => fun
  | [d1, d2] => { results := [.lit (.bool false)], args := [d1, d2] }
  | _ => none }
def OctetBackWrongFalsely : Prop := octetBackRow.holds Try.pinned (OpenSpec.ofChange octetBackWrong)

/-- 'roadbooklaw02.OctetRises': WHATEVER THE INPUT: true; the input reads as it did. -/
def octetRisesSpec : ChangeSpec := { name := "octetRises", fn := fun _ => fun
  | [d1, d2, d3] => { results := [.lit (.bool true)], args := [d1, d2, d3] }
  | _ => none }
def octetRisesRow : OpenClaim := { program := "ytbpclinffgedjaa", sum := "6e4e0b0dc80645feec8257b7faec79f0ab15735fea4aed5239b85ca4620ad2df", func := "roadbook/roadbooklaw02.OctetRises", spec := "octetRises", apart := false }
def OctetRisesSaid : Prop := octetRisesRow.holds Try.pinned (OpenSpec.ofChange octetRisesSpec)

/-- ITS FALSE NEIGHBOUR: 'it returns false'. Refute it at one input. -/
def octetRisesWrong : ChangeSpec := { name := "octetRises", fn := fun _ => fun
  | [d1, d2, d3] => { results := [.lit (.bool false)], args := [d1, d2, d3] }
  | _ => none }
def OctetRisesWrongFalsely : Prop := octetRisesRow.holds Try.pinned (OpenSpec.ofChange octetRisesWrong)

/-- 'roadbooklaw03.BitsTells': WHATEVER THE INPUT: true; the input reads as it did. -/
def bitsTellsSpec : ChangeSpec := { name := "bitsTells", fn := fun _ => fun
  | [d1, d2, d3] => { results := [.lit (.bool true)], args := [d1, d2, d3] }
  | _ => none }
def bitsTellsRow : OpenClaim := { program := "ytbpclinffgedjaa", sum := "6e4e0b0dc80645feec8257b7faec79f0ab15735fea4aed5239b85ca4620ad2df", func := "roadbook/roadbooklaw03.BitsTells", spec := "bitsTells", apart := false }
def BitsTellsSaid : Prop := bitsTellsRow.holds Try.pinned (OpenSpec.ofChange bitsTellsSpec)

/-- ITS FALSE NEIGHBOUR: 'it returns false'. Refute it at one input. -/
def bitsTellsWrong : ChangeSpec := { name := "bitsTells", fn := fun _ => fun
  | [d1, d2, d3] => { results := [.lit (.bool false)], args := [d1, d2, d3] }
  | _ => none }
def BitsTellsWrongFalsely : Prop := bitsTellsRow.holds Try.pinned (OpenSpec.ofChange bitsTellsWrong)

/-- 'roadbooklaw03.BitsKeeps': WHATEVER THE INPUT: true; the input reads as it did. -/
def bitsKeepsSpec : ChangeSpec := { name := "bitsKeeps", fn := fun _ => fun
  | [d1, d2] => { results := [.lit (.bool true)], args := [d1, d2] }
  | _ => none }
def bitsKeepsRow : OpenClaim := { program := "ytbpclinffgedjaa", sum := "6e4e0b0dc80645feec8257b7faec79f0ab15735fea4aed5239b85ca4620ad2df", func := "roadbook/roadbooklaw03.BitsKeeps", spec := "bitsKeeps", apart := false }
def BitsKeepsSaid : Prop := bitsKeepsRow.holds Try.pinned (OpenSpec.ofChange bitsKeepsSpec)

/-- ITS FALSE NEIGHBOUR: 'it returns false'. Refute it at one input. -/
def bitsKeepsWrong : ChangeSpec := { name := "bitsKeeps", fn := fun _ => fun
  | [d1, d2] => { results := [.lit (.bool false)], args := [d1, d2] }
  | _ => none }
def BitsKeepsWrongFalsely : Prop := bitsKeepsRow.holds Try.pinned (OpenSpec.ofChange bitsKeepsWrong)

/-- 'roadbooklaw03.BitsAlike': WHATEVER THE INPUT: true; the input reads as it did. -/
def bitsAlikeSpec : ChangeSpec := { name := "bitsAlike", fn := fun _ => fun
  | [d1, d2] => { results := [.lit (.bool true)], args := [d1, d2] }
  | _ => none }
def bitsAlikeRow : OpenClaim := { program := "ytbpclinffgedjaa", sum := "6e4e0b0dc80645feec8257b7faec79f0ab15735fea4aed5239b85ca4620ad2df", func := "roadbook/roadbooklaw03.BitsAlike", spec := "bitsAlike", apart := false }
def BitsAlikeSaid : Prop := bitsAlikeRow.holds Try.pinned (OpenSpec.ofChange bitsAlikeSpec)

/-- ITS FALSE NEIGHBOUR: 'it returns false'. Refute it at one input. -/
def bitsAlikeWrong : ChangeSpec := { name := "bitsAlike", fn := fun _ => fun
  | [d1, d2] => { results := [.lit (.bool false)], args := [d1, d2] }
  | _ => none }
def BitsAlikeWrongFalsely : Prop := bitsAlikeRow.holds Try.pinned (OpenSpec.ofChange bitsAlikeWrong)

/-- 'roadbooklaw09.AuthTells': WHATEVER THE INPUT: true; the input reads as it did. -/
def authTellsSpec : ChangeSpec := { name := "authTells", fn := fun _ => fun
  | [d] => { results := [.lit (.bool true)], args := [d] }
  | _ => none }
def authTellsRow : OpenClaim := { program := "ytbpclinffgedjaa", sum := "6e4e0b0dc80645feec8257b7faec79f0ab15735fea4aed5239b85ca4620ad2df", func := "roadbook/roadbooklaw09.AuthTells", spec := "authTells", apart := false }
def AuthTellsSaid : Prop := authTellsRow.holds Try.pinned (OpenSpec.ofChange authTellsSpec)

/-- ITS FALSE NEIGHBOUR: 'it returns false'. Refute it at one input. -/
def authTellsWrong : ChangeSpec := { name := "authTells", fn := fun _ => fun
  | [d] => { results := [.lit (.bool false)], args := [d] }
  | _ => none }
def AuthTellsWrongFalsely : Prop := authTellsRow.holds Try.pinned (OpenSpec.ofChange authTellsWrong)

/-- 'roadbooklaw09.AuthBack': WHATEVER THE INPUT: true; the input reads as it did. -/
def authBackSpec : ChangeSpec := { name := "authBack", fn := fun _ => fun
  | [d] => { results := [.lit (.bool true)], args := [d] }
  | _ => none }
def authBackRow : OpenClaim := { program := "ytbpclinffgedjaa", sum := "6e4e0b0dc80645feec8257b7faec79f0ab15735fea4aed5239b85ca4620ad2df", func := "roadbook/roadbooklaw09.AuthBack", spec := "authBack", apart := false }
def AuthBackSaid : Prop := authBackRow.holds Try.pinned (OpenSpec.ofChange authBackSpec)

/-- ITS FALSE NEIGHBOUR: 'it returns false'. Refute it at one input. -/
def authBackWrong : ChangeSpec := { name := "authBack", fn := fun _ => fun
  | [d] => { results := [.lit (.bool false)], args := [d] }
  | _ => none }
def AuthBackWrongFalsely : Prop := authBackRow.holds Try.pinned (OpenSpec.ofChange authBackWrong)

/-- 'roadbooklaw05.MaskTells': WHATEVER THE INPUT: true; the input reads as it did. -/
def maskTellsSpec : ChangeSpec := { name := "maskTells", fn := fun _ => fun
  | [d1, d2] => { results := [.lit (.bool true)], args := [d1, d2] }
  | _ => none }
def maskTellsRow : OpenClaim := { program := "ytbpclinffgedjaa", sum := "6e4e0b0dc80645feec8257b7faec79f0ab15735fea4aed5239b85ca4620ad2df", func := "roadbook/roadbooklaw05.MaskTells", spec := "maskTells", apart := false }
def MaskTellsSaid : Prop := maskTellsRow.holds Try.pinned (OpenSpec.ofChange maskTellsSpec)

/-- ITS FALSE NEIGHBOUR: 'it returns false'. Refute it at one input. -/
def maskTellsWrong : ChangeSpec := { name := "maskTells", fn := fun _ => fun
  | [d1, d2] => { results := [.lit (.bool false)], args := [d1, d2] }
  | _ => none }
def MaskTellsWrongFalsely : Prop := maskTellsRow.holds Try.pinned (OpenSpec.ofChange maskTellsWrong)

/-- 'roadbooklaw05.MaskBack': WHATEVER THE INPUT: true; the input reads as it did. -/
def maskBackSpec : ChangeSpec := { name := "maskBack", fn := fun _ => fun
  | [d1, d2] => { results := [.lit (.bool true)], args := [d1, d2] }
  | _ => none }
def maskBackRow : OpenClaim := { program := "ytbpclinffgedjaa", sum := "6e4e0b0dc80645feec8257b7faec79f0ab15735fea4aed5239b85ca4620ad2df", func := "roadbook/roadbooklaw05.MaskBack", spec := "maskBack", apart := false }
def MaskBackSaid : Prop := maskBackRow.holds Try.pinned (OpenSpec.ofChange maskBackSpec)

/-- ITS FALSE NEIGHBOUR: 'it returns false'. Refute it at one input. -/
def maskBackWrong : ChangeSpec := { name := "maskBack", fn := fun _ => fun
  | [d1, d2] => { results := [.lit (.bool false)], args := [d1, d2] }
  | _ => none }
def MaskBackWrongFalsely : Prop := maskBackRow.holds Try.pinned (OpenSpec.ofChange maskBackWrong)

/- THE SECOND FORM. 'bulk': how many values and letters a reading holds, each counted each time it is reached (what is shared counts as often as it is met; a slice's spare places count too). A statement '..UptoSaid' is the law's where the arguments, and the package variables that the reading takes, are together of bulk at most 1048576: NARROWER than '..Said'. Prove '..Said' where nothing that the law and all that it calls make is longer than what came in: it says more and counts as full. Else prove '..UptoSaid'. A law counts once. -/
mutual
def uptoBulk {H : Type} : DataW H → Nat
  | .lit (.string bytes) => bytes.length + 1
  | .lit _ => 1
  | .nil => 1
  | .ptr d => uptoBulk d + 1
  | .slice elems spare => uptoBulkAll elems + uptoBulkAll spare + 1
  | .agg parts => uptoBulkAll parts + 1
  | .iface _ d => uptoBulk d + 1
  | .map entries => uptoBulkEntries entries + 1
  | .held _ => 1
def uptoBulkAll {H : Type} : List (DataW H) → Nat
  | [] => 0
  | d :: r => uptoBulk d + uptoBulkAll r
def uptoBulkEntries {H : Type} : List (Lit × DataW H) → Nat
  | [] => 0
  | x :: r => uptoBulkEntry x + uptoBulkEntries r
def uptoBulkEntry {H : Type} : Lit × DataW H → Nat
  | (.string bytes, d) => bytes.length + uptoBulk d + 1
  | (_, d) => uptoBulk d + 1
 end
def uptoSmall : (H : Type) → List (DataW H) → Bool := fun _ ds => decide (uptoBulkAll ds ≤ 1048576)
def OpenSpec.upto (s : _root_.Go.ChangeSpec) : _root_.Go.OpenSpec := { _root_.Go.OpenSpec.ofChange s with cond := some uptoSmall }

/-- 'roadbooklaw11.RteTells', WHERE WHAT IT READS IS OF BULK AT MOST 1048576: true; the input reads as it did. -/
def rteTellsUptoRow : OpenClaim := { program := "ytbpclinffgedjaa", sum := "6e4e0b0dc80645feec8257b7faec79f0ab15735fea4aed5239b85ca4620ad2df", func := "roadbook/roadbooklaw11.RteTells", spec := "rteTells", apart := false, narrowed := true }
def RteTellsUptoSaid : Prop := rteTellsUptoRow.holds Try.pinned (OpenSpec.upto rteTellsSpec)

/-- 'roadbooklaw11.RteBack', WHERE WHAT IT READS IS OF BULK AT MOST 1048576: true; the input reads as it did. -/
def rteBackUptoRow : OpenClaim := { program := "ytbpclinffgedjaa", sum := "6e4e0b0dc80645feec8257b7faec79f0ab15735fea4aed5239b85ca4620ad2df", func := "roadbook/roadbooklaw11.RteBack", spec := "rteBack", apart := false, narrowed := true }
def RteBackUptoSaid : Prop := rteBackUptoRow.holds Try.pinned (OpenSpec.upto rteBackSpec)

/-- 'roadbooklaw02.OctetTells', WHERE WHAT IT READS IS OF BULK AT MOST 1048576: true; the input reads as it did. -/
def octetTellsUptoRow : OpenClaim := { program := "ytbpclinffgedjaa", sum := "6e4e0b0dc80645feec8257b7faec79f0ab15735fea4aed5239b85ca4620ad2df", func := "roadbook/roadbooklaw02.OctetTells", spec := "octetTells", apart := false, narrowed := true }
def OctetTellsUptoSaid : Prop := octetTellsUptoRow.holds Try.pinned (OpenSpec.upto octetTellsSpec)

/-- 'roadbooklaw02.OctetBack', WHERE WHAT IT READS IS OF BULK AT MOST 1048576: true; the input reads as it did. -/
def octetBackUptoRow : OpenClaim := { program := "ytbpclinffgedjaa", sum := "6e4e0b0dc80645feec8257b7faec79f0ab15735fea4aed5239b85ca4620ad2df", func := "roadbook/roadbooklaw02.OctetBack", spec := "octetBack", apart := false, narrowed := true }
def OctetBackUptoSaid : Prop := octetBackUptoRow.holds Try.pinned (OpenSpec.upto octetBackSpec)

/-- 'roadbooklaw02.OctetRises', WHERE WHAT IT READS IS OF BULK AT MOST 1048576: true; the input reads as it did. -/
def octetRisesUptoRow : OpenClaim := { program := "ytbpclinffgedjaa", sum := "6e4e0b0dc80645feec8257b7faec79f0ab15735fea4aed5239b85ca4620ad2df", func := "roadbook/roadbooklaw02.OctetRises", spec := "octetRises", apart := false, narrowed := true }
def OctetRisesUptoSaid : Prop := octetRisesUptoRow.holds Try.pinned (OpenSpec.upto octetRisesSpec)

/-- 'roadbooklaw03.BitsTells', WHERE WHAT IT READS IS OF BULK AT MOST 1048576: true; the input reads as it did. -/
def bitsTellsUptoRow : OpenClaim := { program := "ytbpclinffgedjaa", sum := "6e4e0b0dc80645feec8257b7faec79f0ab15735fea4aed5239b85ca4620ad2df", func := "roadbook/roadbooklaw03.BitsTells", spec := "bitsTells", apart := false, narrowed := true }
def BitsTellsUptoSaid : Prop := bitsTellsUptoRow.holds Try.pinned (OpenSpec.upto bitsTellsSpec)

/-- 'roadbooklaw03.BitsKeeps', WHERE WHAT IT READS IS OF BULK AT MOST 1048576: true; the input reads as it did. -/
def bitsKeepsUptoRow : OpenClaim := { program := "ytbpclinffgedjaa", sum := "6e4e0b0dc80645feec8257b7faec79f0ab15735fea4aed5239b85ca4620ad2df", func := "roadbook/roadbooklaw03.BitsKeeps", spec := "bitsKeeps", apart := false, narrowed := true }
def BitsKeepsUptoSaid : Prop := bitsKeepsUptoRow.holds Try.pinned (OpenSpec.upto bitsKeepsSpec)

/-- 'roadbooklaw03.BitsAlike', WHERE WHAT IT READS IS OF BULK AT MOST 1048576: true; the input reads as it did. -/
def bitsAlikeUptoRow : OpenClaim := { program := "ytbpclinffgedjaa", sum := "6e4e0b0dc80645feec8257b7faec79f0ab15735fea4aed5239b85ca4620ad2df", func := "roadbook/roadbooklaw03.BitsAlike", spec := "bitsAlike", apart := false, narrowed := true }
def BitsAlikeUptoSaid : Prop := bitsAlikeUptoRow.holds Try.pinned (OpenSpec.upto bitsAlikeSpec)

/-- 'roadbooklaw09.AuthTells', WHERE WHAT IT READS IS OF BULK AT MOST 1048576: true; the input reads as it did. -/
def authTellsUptoRow : OpenClaim := { program := "ytbpclinffgedjaa", sum := "6e4e0b0dc80645feec8257b7faec79f0ab15735fea4aed5239b85ca4620ad2df", func := "roadbook/roadbooklaw09.AuthTells", spec := "authTells", apart := false, narrowed := true }
def AuthTellsUptoSaid : Prop := authTellsUptoRow.holds Try.pinned (OpenSpec.upto authTellsSpec)

/-- 'roadbooklaw09.AuthBack', WHERE WHAT IT READS IS OF BULK AT MOST 1048576: true; the input reads as it did. -/
def authBackUptoRow : OpenClaim := { program := "ytbpclinffgedjaa", sum := "6e4e0b0dc80645feec8257b7faec79f0ab15735fea4aed5239b85ca4620ad2df", func := "roadbook/roadbooklaw09.AuthBack", spec := "authBack", apart := false, narrowed := true }
def AuthBackUptoSaid : Prop := authBackUptoRow.holds Try.pinned (OpenSpec.upto authBackSpec)

/-- 'roadbooklaw05.MaskTells', WHERE WHAT IT READS IS OF BULK AT MOST 1048576: true; the input reads as it did. -/
def maskTellsUptoRow : OpenClaim := { program := "ytbpclinffgedjaa", sum := "6e4e0b0dc80645feec8257b7faec79f0ab15735fea4aed5239b85ca4620ad2df", func := "roadbook/roadbooklaw05.MaskTells", spec := "maskTells", apart := false, narrowed := true }
def MaskTellsUptoSaid : Prop := maskTellsUptoRow.holds Try.pinned (OpenSpec.upto maskTellsSpec)

/-- 'roadbooklaw05.MaskBack', WHERE WHAT IT READS IS OF BULK AT MOST 1048576: true; the input reads as it did. -/
def maskBackUptoRow : OpenClaim := { program := "ytbpclinffgedjaa", sum := "6e4e0b0dc80645feec8257b7faec79f0ab15735fea4aed5239b85ca4620ad2df", func := "roadbook/roadbooklaw05.MaskBack", spec := "maskBack", apart := false, narrowed := true }
def MaskBackUptoSaid : Prop := maskBackUptoRow.holds Try.pinned (OpenSpec.upto maskBackSpec)

end Rows
end Go.Proofs.Ytbpclinffgedjaa
