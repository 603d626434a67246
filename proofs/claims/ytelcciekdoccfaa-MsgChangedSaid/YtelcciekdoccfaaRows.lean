/-
  No cell of these rows narrows 'for every input' (looked for: loops, veiled, ifaces, maps, wideKeys, modest, calm, conditions, laid).
  DERIVED. THE GIVEN ROWS OF THIS SEAT. 14 by the template 'for every input the law returns true; each argument reads behind the call as it read before'; 0 by the template 'total and deterministic' (their statements: YtelcciekdoccfaaTotals.lean).
  GIVEN WITH THE SEED: the statements are not yours to turn. If you find one false, say at which input.
  Laid BY PROGRAM, IN A SANDBOX (cutbox-rows.mjs): the forced cells as the released guide's own fill.sh prints them over the translation 61fec57843ed23bf… (all of the seat's roots in one cut). By AI agents, Wed Nov 11 2026. No macro, syntax, notation, axiom, sorry.
-/
import Derived.Test.YtelcciekdoccfaaChecked
import GoSem.Claim
import GoSem.ClaimJoined
import GoSem.ClaimMapViews
import Derived.JoinedTies
import Derived.KernelRfl
namespace Go.Proofs.Ytelcciekdoccfaa
/- THE CELL 'sum', in the pinned program and in every row, IS THE sha256 OF THE DUMP (.gsa) THAT YtelcciekdoccfaaProg.lean LOADS. Nothing in Lean hashes anything: it is a label: what it is worth is what the hold of that sum in a sandbox is worth. -/
noncomputable def Try.pinned : Pinned := { name := "ytelcciekdoccfaa", sum := "61fec57843ed23bff4bc9a9b52942cc7019b2562235891bab1100469142e9fd7", checked := Try.checked }
namespace Rows
def none {H : Type} : Left H := { results := [], args := [] }

/-- 'roadbooklaw05.MaskRises': WHATEVER THE INPUT: true; the input reads as it did. -/
def maskRisesSpec : ChangeSpec := { name := "maskRises", fn := fun _ => fun
  | [d1, d2] => { results := [.lit (.bool true)], args := [d1, d2] }
  | _ => none }
def maskRisesRow : OpenClaim := { program := "ytelcciekdoccfaa", sum := "61fec57843ed23bff4bc9a9b52942cc7019b2562235891bab1100469142e9fd7", func := "roadbook/roadbooklaw05.MaskRises", spec := "maskRises", apart := false }
def MaskRisesSaid : Prop := maskRisesRow.holds Try.pinned (OpenSpec.ofChange maskRisesSpec)

/-- ITS FALSE NEIGHBOUR: 'it returns false'. Refute it at one input. -/
def maskRisesWrong : ChangeSpec := { name := "maskRises", fn := fun _ => fun
  | [d1, d2] => { results := [.lit (.bool false)], args := [d1, d2] }
  | _ => none }
def MaskRisesWrongFalsely : Prop := maskRisesRow.holds Try.pinned (OpenSpec.ofChange maskRisesWrong)

/-- 'roadbooklaw01.CursorTogether': WHATEVER THE INPUT: true; the input reads as it did. -/
def cursorTogetherSpec : ChangeSpec := { name := "cursorTogether", fn := fun _ => fun
  | [d1, d2, d3] => { results := [.lit (.bool true)], args := [d1, d2, d3] }
  | _ => none }
def cursorTogetherRow : OpenClaim := { program := "ytelcciekdoccfaa", sum := "61fec57843ed23bff4bc9a9b52942cc7019b2562235891bab1100469142e9fd7", func := "roadbook/roadbooklaw01.CursorTogether", spec := "cursorTogether", apart := false }
def CursorTogetherSaid : Prop := cursorTogetherRow.holds Try.pinned (OpenSpec.ofChange cursorTogetherSpec)

/-- ITS FALSE NEIGHBOUR: 'it returns false'. Refute it at one input. -/
def cursorTogetherWrong : ChangeSpec := { name := "cursorTogether", fn := fun _ => fun
  | [d1, d2, d3] => { results := [.lit (.bool false)], args := [d1, d2, d3] }
  | _ => none }
def CursorTogetherWrongFalsely : Prop := cursorTogetherRow.holds Try.pinned (OpenSpec.ofChange cursorTogetherWrong)

/-- 'roadbooklaw04.PrefixTells': WHATEVER THE INPUT: true; the input reads as it did. -/
def prefixTellsSpec : ChangeSpec := { name := "prefixTells", fn := fun _ => fun
  | [d] => { results := [.lit (.bool true)], args := [d] }
  | _ => none }
def prefixTellsRow : OpenClaim := { program := "ytelcciekdoccfaa", sum := "61fec57843ed23bff4bc9a9b52942cc7019b2562235891bab1100469142e9fd7", func := "roadbook/roadbooklaw04.PrefixTells", spec := "prefixTells", apart := false }
def PrefixTellsSaid : Prop := prefixTellsRow.holds Try.pinned (OpenSpec.ofChange prefixTellsSpec)

/-- ITS FALSE NEIGHBOUR: 'it returns false'. Refute it at one input. -/
def prefixTellsWrong : ChangeSpec := { name := "prefixTells", fn := fun _ => fun
  | [d] => { results := [.lit (.bool false)], args := [d] }
  | _ => none }
def PrefixTellsWrongFalsely : Prop := prefixTellsRow.holds Try.pinned (OpenSpec.ofChange prefixTellsWrong)

/-- 'roadbooklaw04.PrefixBack': WHATEVER THE INPUT: true; the input reads as it did. -/
def prefixBackSpec : ChangeSpec := { name := "prefixBack", fn := fun _ => fun
  | [d1, d2] => { results := [.lit (.bool true)], args := [d1, d2] }
  | _ => none }
def prefixBackRow : OpenClaim := { program := "ytelcciekdoccfaa", sum := "61fec57843ed23bff4bc9a9b52942cc7019b2562235891bab1100469142e9fd7", func := "roadbook/roadbooklaw04.PrefixBack", spec := "prefixBack", apart := false }
def PrefixBackSaid : Prop := prefixBackRow.holds Try.pinned (OpenSpec.ofChange prefixBackSpec)

/-- ITS FALSE NEIGHBOUR: 'it returns false'. Refute it at one input. -/
def prefixBackWrong : ChangeSpec := { name := "prefixBack", fn := fun _ => fun
  | [d1, d2] => { results := [.lit (.bool false)], args := [d1, d2] }
  | _ => none }
def PrefixBackWrongFalsely : Prop := prefixBackRow.holds Try.pinned (OpenSpec.ofChange prefixBackWrong)

/-- 'roadbooklaw04.PrefixLead': WHATEVER THE INPUT: true; the input reads as it did. -/
def prefixLeadSpec : ChangeSpec := { name := "prefixLead", fn := fun _ => fun
  | [d1, d2] => { results := [.lit (.bool true)], args := [d1, d2] }
  | _ => none }
def prefixLeadRow : OpenClaim := { program := "ytelcciekdoccfaa", sum := "61fec57843ed23bff4bc9a9b52942cc7019b2562235891bab1100469142e9fd7", func := "roadbook/roadbooklaw04.PrefixLead", spec := "prefixLead", apart := false }
def PrefixLeadSaid : Prop := prefixLeadRow.holds Try.pinned (OpenSpec.ofChange prefixLeadSpec)

/-- ITS FALSE NEIGHBOUR: 'it returns false'. Refute it at one input. -/
def prefixLeadWrong : ChangeSpec := { name := "prefixLead", fn := fun _ => fun
  | [d1, d2] => { results := [.lit (.bool false)], args := [d1, d2] }
  | _ => none }
def PrefixLeadWrongFalsely : Prop := prefixLeadRow.holds Try.pinned (OpenSpec.ofChange prefixLeadWrong)

/-- 'roadbooklaw01.CursorTells': WHATEVER THE INPUT: true; the input reads as it did. -/
def cursorTellsSpec : ChangeSpec := { name := "cursorTells", fn := fun _ => fun
  | [d1, d2] => { results := [.lit (.bool true)], args := [d1, d2] }
  | _ => none }
def cursorTellsRow : OpenClaim := { program := "ytelcciekdoccfaa", sum := "61fec57843ed23bff4bc9a9b52942cc7019b2562235891bab1100469142e9fd7", func := "roadbook/roadbooklaw01.CursorTells", spec := "cursorTells", apart := false }
def CursorTellsSaid : Prop := cursorTellsRow.holds Try.pinned (OpenSpec.ofChange cursorTellsSpec)

/-- ITS FALSE NEIGHBOUR: 'it returns false'. Refute it at one input. -/
def cursorTellsWrong : ChangeSpec := { name := "cursorTells", fn := fun _ => fun
  | [d1, d2] => { results := [.lit (.bool false)], args := [d1, d2] }
  | _ => none }
def CursorTellsWrongFalsely : Prop := cursorTellsRow.holds Try.pinned (OpenSpec.ofChange cursorTellsWrong)

/-- 'roadbooklaw01.CursorStays': WHATEVER THE INPUT: true; the input reads as it did. -/
def cursorStaysSpec : ChangeSpec := { name := "cursorStays", fn := fun _ => fun
  | [d1, d2] => { results := [.lit (.bool true)], args := [d1, d2] }
  | _ => none }
def cursorStaysRow : OpenClaim := { program := "ytelcciekdoccfaa", sum := "61fec57843ed23bff4bc9a9b52942cc7019b2562235891bab1100469142e9fd7", func := "roadbook/roadbooklaw01.CursorStays", spec := "cursorStays", apart := false }
def CursorStaysSaid : Prop := cursorStaysRow.holds Try.pinned (OpenSpec.ofChange cursorStaysSpec)

/-- ITS FALSE NEIGHBOUR: 'it returns false'. Refute it at one input. -/
def cursorStaysWrong : ChangeSpec := { name := "cursorStays", fn := fun _ => fun
  | [d1, d2] => { results := [.lit (.bool false)], args := [d1, d2] }
  | _ => none }
def CursorStaysWrongFalsely : Prop := cursorStaysRow.holds Try.pinned (OpenSpec.ofChange cursorStaysWrong)

/-- 'roadbooklaw13.ExtJoins': WHATEVER THE INPUT: true; the input reads as it did. -/
def extJoinsSpec : ChangeSpec := { name := "extJoins", fn := fun _ => fun
  | [d1, d2] => { results := [.lit (.bool true)], args := [d1, d2] }
  | _ => none }
def extJoinsRow : OpenClaim := { program := "ytelcciekdoccfaa", sum := "61fec57843ed23bff4bc9a9b52942cc7019b2562235891bab1100469142e9fd7", func := "roadbook/roadbooklaw13.ExtJoins", spec := "extJoins", apart := false }
def ExtJoinsSaid : Prop := extJoinsRow.holds Try.pinned (OpenSpec.ofChange extJoinsSpec)

/-- ITS FALSE NEIGHBOUR: 'it returns false'. Refute it at one input. -/
def extJoinsWrong : ChangeSpec := { name := "extJoins", fn := fun _ => fun
  | [d1, d2] => { results := [.lit (.bool false)], args := [d1, d2] }
  | _ => none }
def ExtJoinsWrongFalsely : Prop := extJoinsRow.holds Try.pinned (OpenSpec.ofChange extJoinsWrong)

/-- 'roadbooklaw07.MsgChanged': WHATEVER THE INPUT: true; the input reads as it did. -/
def msgChangedSpec : ChangeSpec := { name := "msgChanged", fn := fun _ => fun
  | [d1, d2] => { results := [.lit (.bool true)], args := [d1, d2] }
  | _ => none }
def msgChangedRow : OpenClaim := { program := "ytelcciekdoccfaa", sum := "61fec57843ed23bff4bc9a9b52942cc7019b2562235891bab1100469142e9fd7", func := "roadbook/roadbooklaw07.MsgChanged", spec := "msgChanged", apart := false }
def MsgChangedSaid : Prop := msgChangedRow.holds Try.pinned (OpenSpec.ofChange msgChangedSpec)

/-- ITS FALSE NEIGHBOUR: 'it returns false'. Refute it at one input. -/
def msgChangedWrong : ChangeSpec := { name := "msgChanged", fn := fun _ => fun
  | [d1, d2] => { results := [.lit (.bool false)], args := [d1, d2] }
  | _ => none }
def MsgChangedWrongFalsely : Prop := msgChangedRow.holds Try.pinned (OpenSpec.ofChange msgChangedWrong)

/-- 'roadbooklaw07.MsgTells': WHATEVER THE INPUT: true; the input reads as it did. -/
def msgTellsSpec : ChangeSpec := { name := "msgTells", fn := fun _ => fun
  | [d1, d2, d3] => { results := [.lit (.bool true)], args := [d1, d2, d3] }
  | _ => none }
def msgTellsRow : OpenClaim := { program := "ytelcciekdoccfaa", sum := "61fec57843ed23bff4bc9a9b52942cc7019b2562235891bab1100469142e9fd7", func := "roadbook/roadbooklaw07.MsgTells", spec := "msgTells", apart := false }
def MsgTellsSaid : Prop := msgTellsRow.holds Try.pinned (OpenSpec.ofChange msgTellsSpec)

/-- ITS FALSE NEIGHBOUR: 'it returns false'. Refute it at one input. -/
def msgTellsWrong : ChangeSpec := { name := "msgTells", fn := fun _ => fun
  | [d1, d2, d3] => { results := [.lit (.bool false)], args := [d1, d2, d3] }
  | _ => none }
def MsgTellsWrongFalsely : Prop := msgTellsRow.holds Try.pinned (OpenSpec.ofChange msgTellsWrong)

/-- 'roadbooklaw13.ExtTells': WHATEVER THE INPUT: true; the input reads as it did. -/
def extTellsSpec : ChangeSpec := { name := "extTells", fn := fun _ => fun
  | [d1, d2] => { results := [.lit (.bool true)], args := [d1, d2] }
  | _ => none }
def extTellsRow : OpenClaim := { program := "ytelcciekdoccfaa", sum := "61fec57843ed23bff4bc9a9b52942cc7019b2562235891bab1100469142e9fd7", func := "roadbook/roadbooklaw13.ExtTells", spec := "extTells", apart := false }
def ExtTellsSaid : Prop := extTellsRow.holds Try.pinned (OpenSpec.ofChange extTellsSpec)

/-- ITS FALSE NEIGHBOUR: 'it returns false'. Refute it at one input. -/
def extTellsWrong : ChangeSpec := { name := "extTells", fn := fun _ => fun
  | [d1, d2] => { results := [.lit (.bool false)], args := [d1, d2] }
  | _ => none }
def ExtTellsWrongFalsely : Prop := extTellsRow.holds Try.pinned (OpenSpec.ofChange extTellsWrong)

/-- 'roadbooklaw13.ExtBack': WHATEVER THE INPUT: true; the input reads as it did. -/
def extBackSpec : ChangeSpec := { name := "extBack", fn := fun _ => fun
  | [d1, d2] => { results := [.lit (.bool true)], args := [d1, d2] }
  | _ => none }
def extBackRow : OpenClaim := { program := "ytelcciekdoccfaa", sum := "61fec57843ed23bff4bc9a9b52942cc7019b2562235891bab1100469142e9fd7", func := "roadbook/roadbooklaw13.ExtBack", spec := "extBack", apart := false }
def ExtBackSaid : Prop := extBackRow.holds Try.pinned (OpenSpec.ofChange extBackSpec)

/-- ITS FALSE NEIGHBOUR: 'it returns false'. Refute it at one input. -/
def extBackWrong : ChangeSpec := { name := "extBack", fn := fun _ => fun
  | [d1, d2] => { results := [.lit (.bool false)], args := [d1, d2] }
  | _ => none }
def ExtBackWrongFalsely : Prop := extBackRow.holds Try.pinned (OpenSpec.ofChange extBackWrong)

/-- 'roadbooklaw13.ExtCut': WHATEVER THE INPUT: true; the input reads as it did. -/
def extCutSpec : ChangeSpec := { name := "extCut", fn := fun _ => fun
  | [d1, d2] => { results := [.lit (.bool true)], args := [d1, d2] }
  | _ => none }
def extCutRow : OpenClaim := { program := "ytelcciekdoccfaa", sum := "61fec57843ed23bff4bc9a9b52942cc7019b2562235891bab1100469142e9fd7", func := "roadbook/roadbooklaw13.ExtCut", spec := "extCut", apart := false }
def ExtCutSaid : Prop := extCutRow.holds Try.pinned (OpenSpec.ofChange extCutSpec)

/-- ITS FALSE NEIGHBOUR: 'it returns false'. Refute it at one input. -/
def extCutWrong : ChangeSpec := { name := "extCut", fn := fun _ => fun
  | [d1, d2] => { results := [.lit (.bool false)], args := [d1, d2] }
  | _ => none }
def ExtCutWrongFalsely : Prop := extCutRow.holds Try.pinned (OpenSpec.ofChange extCutWrong)

/-- 'roadbooklaw07.MsgLists': WHATEVER THE INPUT: true; the input reads as it did. -/
def msgListsSpec : ChangeSpec := { name := "msgLists", fn := fun _ => fun
  | [d1, d2] => { results := [.lit (.bool true)], args := [d1, d2] }
  | _ => none }
def msgListsRow : OpenClaim := { program := "ytelcciekdoccfaa", sum := "61fec57843ed23bff4bc9a9b52942cc7019b2562235891bab1100469142e9fd7", func := "roadbook/roadbooklaw07.MsgLists", spec := "msgLists", unfollowed := true, recurses := true, apart := false }
def MsgListsSaid : Prop := msgListsRow.holds Try.pinned (OpenSpec.ofChange msgListsSpec)

/-- ITS FALSE NEIGHBOUR: 'it returns false'. Refute it at one input. -/
def msgListsWrong : ChangeSpec := { name := "msgLists", fn := fun _ => fun
  | [d1, d2] => { results := [.lit (.bool false)], args := [d1, d2] }
  | _ => none }
def MsgListsWrongFalsely : Prop := msgListsRow.holds Try.pinned (OpenSpec.ofChange msgListsWrong)

/- THE SECOND FORM. 'bulk': how many values and letters a reading holds, each counted each time it is reached (what is shared counts as often as it is met; a slice's spare places count too). A statement '..UptoSaid' is the law's where the arguments, and the package variables that the reading takes, are together of bulk at most 1048576: NARROWER than '..Said'. Prove '..Said' where nothing that the law and all that it calls make is longer than what came in: it says more and counts as full. Else prove '..UptoSaid'. A law counts once. -/
mutual
def uptoBulk {H : Type} : DataW H → Nat
  | .lit (.string bytes) => bytes.length + 1
  | .lit _ => 1
  | .nil => 1
  | .ptr d => uptoBulk d + 1
  | .slice elems spare => uptoBulkAll elems + uptoBulkAll spare + 1
  | .agg parts => uptoBulkAll parts + 1
  | .iface _ d => uptoBulk d + 1
  | .map entries => uptoBulkEntries entries + 1
  | .held _ => 1
def uptoBulkAll {H : Type} : List (DataW H) → Nat
  | [] => 0
  | d :: r => uptoBulk d + uptoBulkAll r
def uptoBulkEntries {H : Type} : List (Lit × DataW H) → Nat
  | [] => 0
  | x :: r => uptoBulkEntry x + uptoBulkEntries r
def uptoBulkEntry {H : Type} : Lit × DataW H → Nat
  | (.string bytes, d) => bytes.length + uptoBulk d + 1
  | (_, d) => uptoBulk d + 1
 end
def uptoSmall : (H : Type) → List (DataW H) → Bool := fun _ ds => decide (uptoBulkAll ds ≤ 1048576)
def OpenSpec.upto (s : _root_.Go.ChangeSpec) : _root_.Go.OpenSpec := { _root_.Go.OpenSpec.ofChange s with cond := some uptoSmall }

/-- 'roadbooklaw05.MaskRises', WHERE WHAT IT READS IS OF BULK AT MOST 1048576: true; the input reads as it did. -/
def maskRisesUptoRow : OpenClaim := { program := "ytelcciekdoccfaa", sum := "61fec57843ed23bff4bc9a9b52942cc7019b2562235891bab1100469142e9fd7", func := "roadbook/roadbooklaw05.MaskRises", spec := "maskRises", apart := false, narrowed := true }
def MaskRisesUptoSaid : Prop := maskRisesUptoRow.holds Try.pinned (OpenSpec.upto maskRisesSpec)

/-- 'roadbooklaw01.CursorTogether', WHERE WHAT IT READS IS OF BULK AT MOST 1048576: true; the input reads as it did. -/
def cursorTogetherUptoRow : OpenClaim := { program := "ytelcciekdoccfaa", sum := "61fec57843ed23bff4bc9a9b52942cc7019b2562235891bab1100469142e9fd7", func := "roadbook/roadbooklaw01.CursorTogether", spec := "cursorTogether", apart := false, narrowed := true }
def CursorTogetherUptoSaid : Prop := cursorTogetherUptoRow.holds Try.pinned (OpenSpec.upto cursorTogetherSpec)

/-- 'roadbooklaw04.PrefixTells', WHERE WHAT IT READS IS OF BULK AT MOST 1048576: true; the input reads as it did. -/
def prefixTellsUptoRow : OpenClaim := { program := "ytelcciekdoccfaa", sum := "61fec57843ed23bff4bc9a9b52942cc7019b2562235891bab1100469142e9fd7", func := "roadbook/roadbooklaw04.PrefixTells", spec := "prefixTells", apart := false, narrowed := true }
def PrefixTellsUptoSaid : Prop := prefixTellsUptoRow.holds Try.pinned (OpenSpec.upto prefixTellsSpec)

/-- 'roadbooklaw04.PrefixBack', WHERE WHAT IT READS IS OF BULK AT MOST 1048576: true; the input reads as it did. -/
def prefixBackUptoRow : OpenClaim := { program := "ytelcciekdoccfaa", sum := "61fec57843ed23bff4bc9a9b52942cc7019b2562235891bab1100469142e9fd7", func := "roadbook/roadbooklaw04.PrefixBack", spec := "prefixBack", apart := false, narrowed := true }
def PrefixBackUptoSaid : Prop := prefixBackUptoRow.holds Try.pinned (OpenSpec.upto prefixBackSpec)

/-- 'roadbooklaw04.PrefixLead', WHERE WHAT IT READS IS OF BULK AT MOST 1048576: true; the input reads as it did. -/
def prefixLeadUptoRow : OpenClaim := { program := "ytelcciekdoccfaa", sum := "61fec57843ed23bff4bc9a9b52942cc7019b2562235891bab1100469142e9fd7", func := "roadbook/roadbooklaw04.PrefixLead", spec := "prefixLead", apart := false, narrowed := true }
def PrefixLeadUptoSaid : Prop := prefixLeadUptoRow.holds Try.pinned (OpenSpec.upto prefixLeadSpec)

/-- 'roadbooklaw01.CursorTells', WHERE WHAT IT READS IS OF BULK AT MOST 1048576: true; the input reads as it did. -/
def cursorTellsUptoRow : OpenClaim := { program := "ytelcciekdoccfaa", sum := "61fec57843ed23bff4bc9a9b52942cc7019b2562235891bab1100469142e9fd7", func := "roadbook/roadbooklaw01.CursorTells", spec := "cursorTells", apart := false, narrowed := true }
def CursorTellsUptoSaid : Prop := cursorTellsUptoRow.holds Try.pinned (OpenSpec.upto cursorTellsSpec)

/-- 'roadbooklaw01.CursorStays', WHERE WHAT IT READS IS OF BULK AT MOST 1048576: true; the input reads as it did. -/
def cursorStaysUptoRow : OpenClaim := { program := "ytelcciekdoccfaa", sum := "61fec57843ed23bff4bc9a9b52942cc7019b2562235891bab1100469142e9fd7", func := "roadbook/roadbooklaw01.CursorStays", spec := "cursorStays", apart := false, narrowed := true }
def CursorStaysUptoSaid : Prop := cursorStaysUptoRow.holds Try.pinned (OpenSpec.upto cursorStaysSpec)

/-- 'roadbooklaw13.ExtJoins', WHERE WHAT IT READS IS OF BULK AT MOST 1048576: true; the input reads as it did. -/
def extJoinsUptoRow : OpenClaim := { program := "ytelcciekdoccfaa", sum := "61fec57843ed23bff4bc9a9b52942cc7019b2562235891bab1100469142e9fd7", func := "roadbook/roadbooklaw13.ExtJoins", spec := "extJoins", apart := false, narrowed := true }
def ExtJoinsUptoSaid : Prop := extJoinsUptoRow.holds Try.pinned (OpenSpec.upto extJoinsSpec)

/-- 'roadbooklaw07.MsgChanged', WHERE WHAT IT READS IS OF BULK AT MOST 1048576: true; the input reads as it did. -/
def msgChangedUptoRow : OpenClaim := { program := "ytelcciekdoccfaa", sum := "61fec57843ed23bff4bc9a9b52942cc7019b2562235891bab1100469142e9fd7", func := "roadbook/roadbooklaw07.MsgChanged", spec := "msgChanged", apart := false, narrowed := true }
def MsgChangedUptoSaid : Prop := msgChangedUptoRow.holds Try.pinned (OpenSpec.upto msgChangedSpec)

/-- 'roadbooklaw07.MsgTells', WHERE WHAT IT READS IS OF BULK AT MOST 1048576: true; the input reads as it did. -/
def msgTellsUptoRow : OpenClaim := { program := "ytelcciekdoccfaa", sum := "61fec57843ed23bff4bc9a9b52942cc7019b2562235891bab1100469142e9fd7", func := "roadbook/roadbooklaw07.MsgTells", spec := "msgTells", apart := false, narrowed := true }
def MsgTellsUptoSaid : Prop := msgTellsUptoRow.holds Try.pinned (OpenSpec.upto msgTellsSpec)

/-- 'roadbooklaw13.ExtTells', WHERE WHAT IT READS IS OF BULK AT MOST 1048576: true; the input reads as it did. -/
def extTellsUptoRow : OpenClaim := { program := "ytelcciekdoccfaa", sum := "61fec57843ed23bff4bc9a9b52942cc7019b2562235891bab1100469142e9fd7", func := "roadbook/roadbooklaw13.ExtTells", spec := "extTells", apart := false, narrowed := true }
def ExtTellsUptoSaid : Prop := extTellsUptoRow.holds Try.pinned (OpenSpec.upto extTellsSpec)

/-- 'roadbooklaw13.ExtBack', WHERE WHAT IT READS IS OF BULK AT MOST 1048576: true; the input reads as it did. -/
def extBackUptoRow : OpenClaim := { program := "ytelcciekdoccfaa", sum := "61fec57843ed23bff4bc9a9b52942cc7019b2562235891bab1100469142e9fd7", func := "roadbook/roadbooklaw13.ExtBack", spec := "extBack", apart := false, narrowed := true }
def ExtBackUptoSaid : Prop := extBackUptoRow.holds Try.pinned (OpenSpec.upto extBackSpec)

/-- 'roadbooklaw13.ExtCut', WHERE WHAT IT READS IS OF BULK AT MOST 1048576: true; the input reads as it did. -/
def extCutUptoRow : OpenClaim := { program := "ytelcciekdoccfaa", sum := "61fec57843ed23bff4bc9a9b52942cc7019b2562235891bab1100469142e9fd7", func := "roadbook/roadbooklaw13.ExtCut", spec := "extCut", apart := false, narrowed := true }
def ExtCutUptoSaid : Prop := extCutUptoRow.holds Try.pinned (OpenSpec.upto extCutSpec)

/-- 'roadbooklaw07.MsgLists', WHERE WHAT IT READS IS OF BULK AT MOST 1048576: true; the input reads as it did. -/
def msgListsUptoRow : OpenClaim := { program := "ytelcciekdoccfaa", sum := "61fec57843ed23bff4bc9a9b52942cc7019b2562235891bab1100469142e9fd7", func := "roadbook/roadbooklaw07.MsgLists", spec := "msgLists", unfollowed := true, recurses := true, apart := false, narrowed := true }
def MsgListsUptoSaid : Prop := msgListsUptoRow.holds Try.pinned (OpenSpec.upto msgListsSpec)

end Rows
end Go.Proofs.Ytelcciekdoccfaa
