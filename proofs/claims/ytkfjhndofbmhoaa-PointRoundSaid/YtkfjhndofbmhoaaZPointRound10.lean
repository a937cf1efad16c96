/- What the proof of PointRound is made of, part 10. -/
import Derived.Test.YtkfjhndofbmhoaaZPointRound8
import Derived.Lib.Hide
import Derived.Deep.RegionWith
namespace Go.Proofs.Ytkfjhndofbmhoaa
open Go.RowKit
set_option linter.unusedVariables false
set_option linter.unusedSimpArgs false
/-- The ways of a region meet again. -/
def Meet (A : Act) (W : World) (a : Act) (w : World) : Prop := a = A ∧ w = W
theorem Meet.mk (A : Act) (W : World) : Meet A W A W := ⟨rfl, rfl⟩
end Go.Proofs.Ytkfjhndofbmhoaa
