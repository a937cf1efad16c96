/- What the proof of PointRound is made of, part 1. -/
import Derived.Test.YtkfjhndofbmhoaaZPointRound0
import Derived.Lib.Hide
import Derived.Deep.QuietTactic
import Derived.BigQuiet
import Derived.BigRegion
namespace Go.Proofs.Ytkfjhndofbmhoaa
open Go.RowKit
set_option linter.unusedVariables false
set_option linter.unusedSimpArgs false
/-- A slice's bytes lie in memory. -/
def BAt (w : World) (A : Option Addr) (bs : List Nat) : Prop := (bs = [] ∨ ∃ b o, A = some ⟨b, o, none⟩ ∧ b < w.heap.size ∧ ∀ i, i < bs.length → w.cell? ⟨b, o + i, none⟩ = some (.int .u8 (bs.getD i 0 : Nat))) ∧ ∀ i, bs.getD i 0 < 256
theorem BAt.lt {w : World} {A : Option Addr} {bs : List Nat} (h : BAt w A bs) (i : Nat) : bs.getD i 0 < 256 := h.2 i
theorem BAt.below {w w' : World} {A : Option Addr} {bs : List Nat} {B : Nat} (h : BAt w A bs) (hb : Below B w w') (hB : w.heap.size ≤ B) : BAt w' A bs := by
 refine ⟨?_, h.2⟩
 rcases h.1 with h | ⟨b, o, e, hs, hc⟩
 ·exact .inl h
 ·exact .inr ⟨b, o, e, Nat.lt_of_lt_of_le hs hb.size, fun i hi => (hb.cell (p := ⟨b, o + i, none⟩) (by exact Nat.lt_of_lt_of_le hs hB)).trans (hc i hi)⟩
end Go.Proofs.Ytkfjhndofbmhoaa
