/-
math/bits.Len8: it returns how many bits a byte needs; the world is as it was.
-/
import Derived.Test.YtnllanjoebjeiaaGreatProg
import Derived.Lib.Strings
import Derived.Lib.Slices
import Derived.Lib.Small
import Derived.Lib.Walk
import Derived.Lib.BitFns
namespace Go.Proofs.YtnllanjoebjeiaaGreat.Pre
theorem bits_Len8 (x : Int) (w : World) (h0 : 0 ≤ x) (h1 : x ≤ 255) :
    Calls Tryz.prog 202 #[.int .u8 x] w fun e w' => e = .returned (.int .i64 (Lib.bitLen x.toNat)) ∧ w' = w := by
  rw [← Lib.len8_int x h0 h1]
  go_enter Tryz.func202, Tryz.ntmps202
  go_wp2
  go_ret
  exact ⟨rfl, rfl⟩
end Go.Proofs.YtnllanjoebjeiaaGreat.Pre
