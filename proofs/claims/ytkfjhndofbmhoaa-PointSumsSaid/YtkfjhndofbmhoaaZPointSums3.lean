/- What the proof of PointSums is made of, part 3. -/
import Derived.Test.YtkfjhndofbmhoaaZPointSums2
import Derived.ProofKit
import Derived.OpenShut
import Derived.Lib.SmallJoins
import Derived.SizedLaws
namespace Go.Proofs.Ytkfjhndofbmhoaa
open Go.RowKit Go.ChangeShapes Go.WideShapes
set_option linter.unusedVariables false
set_option linter.unusedSimpArgs false
section
variable {H : Type} {enc : TypeId × Value → H} {P : Program} {W : World} {base : Nat} {spare : Nat → Bool} {held : Bool}
theorem nat_of_wf {n : Int} (h : (Lit.int .u64 n).wf = true) : ∃ k : Nat, n = (k : Int) ∧ k < N64 := by
 have h := bounds_u64 h
 obtain ⟨k, rfl⟩ := Int.eq_ofNat_of_zero_le h.1
 exact ⟨k, rfl, by unfold N64; omega⟩
end
end Go.Proofs.Ytkfjhndofbmhoaa
