/- What the proof of PointRound is made of, part 11. -/
import Derived.Test.YtkfjhndofbmhoaaZPointRound0
import Derived.Deep.RegionWith
namespace Go.Proofs.Ytkfjhndofbmhoaa
open Go.RowKit
set_option linter.unusedVariables false
set_option linter.unusedSimpArgs false
theorem Rw.set4 {w : World} {e : TypeId} {g : Nat} {x0 x1 x2 x3 y0 y1 y2 y3 : Value} (h : Rw w e g [x0, x1, x2, x3]) :
  Rw ((((w.setCell ⟨g, 0, none⟩ y0).setCell ⟨g, 1, none⟩ y1).setCell ⟨g, 2, none⟩ y2).setCell ⟨g, 3, none⟩ y3) e g [y0, y1, y2, y3] := (((h.set 0 y0).set 1 y1).set 2 y2).set 3 y3
end Go.Proofs.Ytkfjhndofbmhoaa
