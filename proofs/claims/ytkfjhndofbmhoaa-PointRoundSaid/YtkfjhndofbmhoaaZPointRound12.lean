/- What the proof of PointRound is made of, part 12. -/
import Derived.Test.YtkfjhndofbmhoaaZPointRound10
import Derived.Test.YtkfjhndofbmhoaaZPointRound11
import Derived.Deep.QuietTactic
import Derived.BigQuiet
import Derived.Deep.Cut
namespace Go.Proofs.Ytkfjhndofbmhoaa
open Go.RowKit
set_option linter.unusedVariables false
set_option linter.unusedSimpArgs false
def lt2 (x y : Int) (r : Bool) : Bool := if x = y then r else decide (x < y)
end Go.Proofs.Ytkfjhndofbmhoaa
namespace Go.Proofs.Ytkfjhndofbmhoaa
open Go.RowKit
set_option linter.unusedVariables false
set_option linter.unusedSimpArgs false
theorem fits_dif {a b m : Nat} (ham : a < m) (hbm : b < m) (hm : m < N256) :
  (a < b → ((a + N256 - b) % N256 + m) % N256 = (a + m - b) % m) ∧ (¬ a < b → (a + N256 - b) % N256 = (a + m - b) % m) := by
 refine ⟨fun h => ?_, fun h => ?_⟩
 ·rw [Nat.mod_eq_of_lt (a := a + N256 - b) (by omega), show a + N256 - b + m = (a + m - b) + N256 by omega, Nat.add_mod_right, Nat.mod_eq_of_lt (a := a + m - b) (by omega), Nat.mod_eq_of_lt (by omega)]
 ·rw [show a + N256 - b = (a - b) + N256 by omega, Nat.add_mod_right, Nat.mod_eq_of_lt (by omega), show a + m - b = (a - b) + m by omega, Nat.add_mod_right, Nat.mod_eq_of_lt (by omega)]
end Go.Proofs.Ytkfjhndofbmhoaa
