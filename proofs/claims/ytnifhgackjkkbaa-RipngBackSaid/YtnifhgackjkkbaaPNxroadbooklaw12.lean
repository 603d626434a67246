-- Written by mp.py, a program of this work (wip/tools), out of the translation; Lean checks it.
import Derived.Test.YtnifhgackjkkbaaPNxZ
namespace Go.Proofs.Ytnifhgackjkkbaa.PN
open Go.RowKit Go.Proofs.YtnifhgackjkkbaaW.PrintWords Go.Proofs.YtnifhgackjkkbaaW.PrintLast Go.Proofs.YtnifhgackjkkbaaW.PrintMore
attribute [local go_sem] max2_int min2_int max_two min_two max_three min_three max_four min_four   -- for this text's walks alone
set_option linter.unusedVariables false
set_option linter.unusedSimpArgs false

/-! ### roadbooklaw12_hop: function 16 -/
def roadbooklaw12_hop.f  : Option (ByteArray) := some (⟨#[254, 128, 0, 0, 0, 0, 0, 0, 97, 98, 99, 100, 101, 102, 103, 104]⟩ : ByteArray)
set_option maxHeartbeats 8000000 in
set_option maxRecDepth 100000 in
theorem roadbooklaw12_hop.calls  (r : ByteArray) (w : World) (h : roadbooklaw12_hop.f  = some r) :
  Calls Try.prog 16 #[] w fun e w' => e = .returned (.string r) ∧ Drawn0 w w' := by
 have H : (some (⟨#[254, 128, 0, 0, 0, 0, 0, 0, 97, 98, 99, 100, 101, 102, 103, 104]⟩ : ByteArray)) = some r := h
 clear h
 obtain rfl := Option.some.inj H
 go_enter Try.func16, Try.ntmps16
 go_wp2
 go_ret
 exact ⟨Z7, Z10⟩

end Go.Proofs.Ytnifhgackjkkbaa.PN
