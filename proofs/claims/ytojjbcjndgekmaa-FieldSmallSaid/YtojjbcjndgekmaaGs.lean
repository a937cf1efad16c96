/- FieldSmall, of arguments as the row has them. -/
import Derived.Test.YtojjbcjndgekmaaFz
import Derived.Test.YtojjbcjndgekmaaOpen
namespace Go.Proofs.Ytojjbcjndgekmaa
open Go.RowKit Go.ChangeShapes Go.WideShapes
set_option linter.unusedVariables false
theorem small_walk2 (m a : Nat) (i k : Int) (hm : m < N256) (ha : a < N256) (hi : (Lit.int .u64 i).wf = true) (hk : (Lit.int .u64 k).wf = true) (w : World) :
    Calls Try.prog 8 #[numV m, numV a, .int .u64 i, .int .u64 k] w fun e w' => e = .returned (.bool true) ∧ Below w.heap.size w w' := by
  obtain ⟨x, rfl, hx⟩ := nat_of_wf hi
  obtain ⟨y, rfl, hy⟩ := nat_of_wf hk
  exact small_walk m a x y hm ha (by unfold N64 at hx; exact hx) (by unfold N64 at hy; exact hy) w
end Go.Proofs.Ytojjbcjndgekmaa
