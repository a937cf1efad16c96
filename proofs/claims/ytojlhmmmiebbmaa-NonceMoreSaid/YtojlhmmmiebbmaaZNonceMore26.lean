/- What the proof of NonceMore is made of, part 26. -/
import Derived.Test.YtojlhmmmiebbmaaZNonceMore25
import Derived.Test.YtojlhmmmiebbmaaZNonceMore24
import Derived.Deep.RegionHeld3
import Derived.Deep.AppendLies
import Derived.OwnWalk
namespace Go.Proofs.Ytojlhmmmiebbmaa
open Go.RowKit
set_option linter.unusedVariables false
set_option linter.unusedSimpArgs false
theorem own_low {w : World} {b b' n sz : Nat} {e : TypeId} {v : Value} {xs : List Value} (h : w.ownsRow b e sz v n xs) (hb : b' ≤ b) : w.ownsRow b' e sz v n xs := by
  obtain ⟨h1, h2⟩ := h
  refine ⟨h1, ?_⟩
  rcases h2 with h2 | ⟨g, cap, cur, rfl, hg, r⟩
  · exact .inl h2
  · exact .inr ⟨g, cap, cur, rfl, Nat.le_trans hb hg, r⟩
end Go.Proofs.Ytojlhmmmiebbmaa
