/- What the proof of NonceMore is made of, part 18. -/
import Derived.Test.YtojlhmmmiebbmaaZNonceMore17
import Derived.Test.YtojlhmmmiebbmaaZNonceMore13
import Derived.Deep.RegionWith
import Derived.Deep.QuietTactic
import Derived.BigQuiet
import Derived.Deep.Cut
namespace Go.Proofs.Ytojlhmmmiebbmaa
open Go.RowKit
set_option linter.unusedVariables false
set_option linter.unusedSimpArgs false
def lt2 (x y : Int) (r : Bool) : Bool := if x = y then r else decide (x < y)
end Go.Proofs.Ytojlhmmmiebbmaa
