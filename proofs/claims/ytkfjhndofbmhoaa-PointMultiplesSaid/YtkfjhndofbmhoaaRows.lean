/-
  No cell of these rows narrows 'for every input' (looked for: loops, veiled, ifaces, maps, wideKeys, modest, calm, conditions, laid).
  DERIVED. THE GIVEN ROWS OF THIS SEAT. 6 by the template 'for every input the law returns true; each argument reads behind the call as it read before'; 0 by the template 'total and deterministic' (their statements: YtkfjhndofbmhoaaTotals.lean).
  GIVEN WITH THE SEED: the statements are not yours to turn. If you find one false, say at which input.
  Laid BY PROGRAM, IN A SANDBOX (cutbox-rows.mjs): the forced cells as the released guide's own fill.sh prints them over the translation 9b644e1365c026bf… (all of the seat's roots in one cut). By AI agents, Wed Nov 11 2026. No macro, syntax, notation, axiom, sorry.
-/
import Derived.Test.YtkfjhndofbmhoaaChecked
import GoSem.Claim
import GoSem.ClaimJoined
import GoSem.ClaimMapViews
import Derived.JoinedTies
import Derived.KernelRfl
namespace Go.Proofs.Ytkfjhndofbmhoaa
/- THE CELL 'sum', in the pinned program and in every row, IS THE sha256 OF THE DUMP (.gsa) THAT YtkfjhndofbmhoaaProg.lean LOADS. Nothing in Lean hashes anything: it is a label: what it is worth is what the hold of that sum in a sandbox is worth. -/
noncomputable def Try.pinned : Pinned := { name := "ytkfjhndofbmhoaa", sum := "9b644e1365c026bf9139fd2ab8d2c90e2cce621d9e719f8dea5c336e83eaa3e8", checked := Try.checked }
namespace Rows
def none {H : Type} : Left H := { results := [], args := [] }

/-- 'clapperlaw05.PointGroup': WHATEVER THE INPUT: true; the input reads as it did. -/
def pointGroupSpec : ChangeSpec := { name := "pointGroup", fn := fun _ => fun
  | [d1, d2, d3] => { results := [.lit (.bool true)], args := [d1, d2, d3] }
  | _ => none }
def pointGroupRow : OpenClaim := { program := "ytkfjhndofbmhoaa", sum := "9b644e1365c026bf9139fd2ab8d2c90e2cce621d9e719f8dea5c336e83eaa3e8", func := "clapper/clapperlaw05.PointGroup", spec := "pointGroup", inPlace := ["math/bits.Add64", "math/bits.Sub64"], unfollowed := true, recurses := true, apart := false }
def PointGroupSaid : Prop := pointGroupRow.holds Try.pinned (OpenSpec.ofChange pointGroupSpec)

/-- ITS FALSE NEIGHBOUR: 'it returns false'. Refute it at one input. -/
def pointGroupWrong : ChangeSpec := { name := "pointGroup", fn := fun _ => fun
  | [d1, d2, d3] => { results := [.lit (.bool false)], args := [d1, d2, d3] }
  | _ => none }
def PointGroupWrongFalsely : Prop := pointGroupRow.holds Try.pinned (OpenSpec.ofChange pointGroupWrong)

/-- 'clapperlaw05.PointSums': WHATEVER THE INPUT: true; the input reads as it did. -/
def pointSumsSpec : ChangeSpec := { name := "pointSums", fn := fun _ => fun
  | [d1, d2] => { results := [.lit (.bool true)], args := [d1, d2] }
  | _ => none }
def pointSumsRow : OpenClaim := { program := "ytkfjhndofbmhoaa", sum := "9b644e1365c026bf9139fd2ab8d2c90e2cce621d9e719f8dea5c336e83eaa3e8", func := "clapper/clapperlaw05.PointSums", spec := "pointSums", inPlace := ["math/bits.Add64", "math/bits.Sub64"], unfollowed := true, recurses := true, apart := false }
def PointSumsSaid : Prop := pointSumsRow.holds Try.pinned (OpenSpec.ofChange pointSumsSpec)

/-- ITS FALSE NEIGHBOUR: 'it returns false'. Refute it at one input. -/
def pointSumsWrong : ChangeSpec := { name := "pointSums", fn := fun _ => fun
  | [d1, d2] => { results := [.lit (.bool false)], args := [d1, d2] }
  | _ => none }
def PointSumsWrongFalsely : Prop := pointSumsRow.holds Try.pinned (OpenSpec.ofChange pointSumsWrong)

/-- 'clapperlaw05.PointMultiples': WHATEVER THE INPUT: true; the input reads as it did. -/
def pointMultiplesSpec : ChangeSpec := { name := "pointMultiples", fn := fun _ => fun
  | [d1, d2] => { results := [.lit (.bool true)], args := [d1, d2] }
  | _ => none }
def pointMultiplesRow : OpenClaim := { program := "ytkfjhndofbmhoaa", sum := "9b644e1365c026bf9139fd2ab8d2c90e2cce621d9e719f8dea5c336e83eaa3e8", func := "clapper/clapperlaw05.PointMultiples", spec := "pointMultiples", inPlace := ["math/bits.Add64", "math/bits.Sub64"], unfollowed := true, recurses := true, apart := false }
def PointMultiplesSaid : Prop := pointMultiplesRow.holds Try.pinned (OpenSpec.ofChange pointMultiplesSpec)

/-- ITS FALSE NEIGHBOUR: 'it returns false'. Refute it at one input. -/
def pointMultiplesWrong : ChangeSpec := { name := "pointMultiples", fn := fun _ => fun
  | [d1, d2] => { results := [.lit (.bool false)], args := [d1, d2] }
  | _ => none }
def PointMultiplesWrongFalsely : Prop := pointMultiplesRow.holds Try.pinned (OpenSpec.ofChange pointMultiplesWrong)

/-- 'clapperlaw05.PointTimes': WHATEVER THE INPUT: true; the input reads as it did. -/
def pointTimesSpec : ChangeSpec := { name := "pointTimes", fn := fun _ => fun
  | [d1, d2, d3] => { results := [.lit (.bool true)], args := [d1, d2, d3] }
  | _ => none }
def pointTimesRow : OpenClaim := { program := "ytkfjhndofbmhoaa", sum := "9b644e1365c026bf9139fd2ab8d2c90e2cce621d9e719f8dea5c336e83eaa3e8", func := "clapper/clapperlaw05.PointTimes", spec := "pointTimes", inPlace := ["math/bits.Add64", "math/bits.Sub64"], unfollowed := true, recurses := true, apart := false }
def PointTimesSaid : Prop := pointTimesRow.holds Try.pinned (OpenSpec.ofChange pointTimesSpec)

/-- ITS FALSE NEIGHBOUR: 'it returns false'. Refute it at one input. -/
def pointTimesWrong : ChangeSpec := { name := "pointTimes", fn := fun _ => fun
  | [d1, d2, d3] => { results := [.lit (.bool false)], args := [d1, d2, d3] }
  | _ => none }
def PointTimesWrongFalsely : Prop := pointTimesRow.holds Try.pinned (OpenSpec.ofChange pointTimesWrong)

/-- 'clapperlaw05.PointRound': WHATEVER THE INPUT: true; the input reads as it did. -/
def pointRoundSpec : ChangeSpec := { name := "pointRound", fn := fun _ => fun
  | [d1, d2] => { results := [.lit (.bool true)], args := [d1, d2] }
  | _ => none }
def pointRoundRow : OpenClaim := { program := "ytkfjhndofbmhoaa", sum := "9b644e1365c026bf9139fd2ab8d2c90e2cce621d9e719f8dea5c336e83eaa3e8", func := "clapper/clapperlaw05.PointRound", spec := "pointRound", inPlace := ["math/bits.Add64", "math/bits.Sub64"], unfollowed := true, recurses := true, apart := false }
def PointRoundSaid : Prop := pointRoundRow.holds Try.pinned (OpenSpec.ofChange pointRoundSpec)

/-- ITS FALSE NEIGHBOUR: 'it returns false'. Refute it at one input. -/
def pointRoundWrong : ChangeSpec := { name := "pointRound", fn := fun _ => fun
  | [d1, d2] => { results := [.lit (.bool false)], args := [d1, d2] }
  | _ => none }
def PointRoundWrongFalsely : Prop := pointRoundRow.holds Try.pinned (OpenSpec.ofChange pointRoundWrong)

/-- 'clapperlaw05.PointBytes': WHATEVER THE INPUT: true; the input reads as it did. -/
def pointBytesSpec : ChangeSpec := { name := "pointBytes", fn := fun _ => fun
  | [d1, d2] => { results := [.lit (.bool true)], args := [d1, d2] }
  | _ => none }
def pointBytesRow : OpenClaim := { program := "ytkfjhndofbmhoaa", sum := "9b644e1365c026bf9139fd2ab8d2c90e2cce621d9e719f8dea5c336e83eaa3e8", func := "clapper/clapperlaw05.PointBytes", spec := "pointBytes", inPlace := ["math/bits.Add64", "math/bits.Sub64"], unfollowed := true, recurses := true, apart := false }
def PointBytesSaid : Prop := pointBytesRow.holds Try.pinned (OpenSpec.ofChange pointBytesSpec)

/-- ITS FALSE NEIGHBOUR: 'it returns false'. Refute it at one input. -/
def pointBytesWrong : ChangeSpec := { name := "pointBytes", fn := fun _ => fun
  | [d1, d2] => { results := [.lit (.bool false)], args := [d1, d2] }
  | _ => none }
def PointBytesWrongFalsely : Prop := pointBytesRow.holds Try.pinned (OpenSpec.ofChange pointBytesWrong)

/- THE SECOND FORM. 'bulk': how many values and letters a reading holds, each counted each time it is reached (what is shared counts as often as it is met; a slice's spare places count too). A statement '..UptoSaid' is the law's where the arguments, and the package variables that the reading takes, are together of bulk at most 1048576: NARROWER than '..Said'. Prove '..Said' where nothing that the law and all that it calls make is longer than what came in: it says more and counts as full. Else prove '..UptoSaid'. A law counts once. -/
mutual
def uptoBulk {H : Type} : DataW H → Nat
  | .lit (.string bytes) => bytes.length + 1
  | .lit _ => 1
  | .nil => 1
  | .ptr d => uptoBulk d + 1
  | .slice elems spare => uptoBulkAll elems + uptoBulkAll spare + 1
  | .agg parts => uptoBulkAll parts + 1
  | .iface _ d => uptoBulk d + 1
  | .map entries => uptoBulkEntries entries + 1
  | .held _ => 1
def uptoBulkAll {H : Type} : List (DataW H) → Nat
  | [] => 0
  | d :: r => uptoBulk d + uptoBulkAll r
def uptoBulkEntries {H : Type} : List (Lit × DataW H) → Nat
  | [] => 0
  | x :: r => uptoBulkEntry x + uptoBulkEntries r
def uptoBulkEntry {H : Type} : Lit × DataW H → Nat
  | (.string bytes, d) => bytes.length + uptoBulk d + 1
  | (_, d) => uptoBulk d + 1
 end
def uptoSmall : (H : Type) → List (DataW H) → Bool := fun _ ds => decide (uptoBulkAll ds ≤ 1048576)
def OpenSpec.upto (s : _root_.Go.ChangeSpec) : _root_.Go.OpenSpec := { _root_.Go.OpenSpec.ofChange s with cond := some uptoSmall }

/-- 'clapperlaw05.PointGroup', WHERE WHAT IT READS IS OF BULK AT MOST 1048576: true; the input reads as it did. -/
def pointGroupUptoRow : OpenClaim := { program := "ytkfjhndofbmhoaa", sum := "9b644e1365c026bf9139fd2ab8d2c90e2cce621d9e719f8dea5c336e83eaa3e8", func := "clapper/clapperlaw05.PointGroup", spec := "pointGroup", inPlace := ["math/bits.Add64", "math/bits.Sub64"], unfollowed := true, recurses := true, apart := false, narrowed := true }
def PointGroupUptoSaid : Prop := pointGroupUptoRow.holds Try.pinned (OpenSpec.upto pointGroupSpec)

/-- 'clapperlaw05.PointSums', WHERE WHAT IT READS IS OF BULK AT MOST 1048576: true; the input reads as it did. -/
def pointSumsUptoRow : OpenClaim := { program := "ytkfjhndofbmhoaa", sum := "9b644e1365c026bf9139fd2ab8d2c90e2cce621d9e719f8dea5c336e83eaa3e8", func := "clapper/clapperlaw05.PointSums", spec := "pointSums", inPlace := ["math/bits.Add64", "math/bits.Sub64"], unfollowed := true, recurses := true, apart := false, narrowed := true }
def PointSumsUptoSaid : Prop := pointSumsUptoRow.holds Try.pinned (OpenSpec.upto pointSumsSpec)

/-- 'clapperlaw05.PointMultiples', WHERE WHAT IT READS IS OF BULK AT MOST 1048576: true; the input reads as it did. -/
def pointMultiplesUptoRow : OpenClaim := { program := "ytkfjhndofbmhoaa", sum := "9b644e1365c026bf9139fd2ab8d2c90e2cce621d9e719f8dea5c336e83eaa3e8", func := "clapper/clapperlaw05.PointMultiples", spec := "pointMultiples", inPlace := ["math/bits.Add64", "math/bits.Sub64"], unfollowed := true, recurses := true, apart := false, narrowed := true }
def PointMultiplesUptoSaid : Prop := pointMultiplesUptoRow.holds Try.pinned (OpenSpec.upto pointMultiplesSpec)

/-- 'clapperlaw05.PointTimes', WHERE WHAT IT READS IS OF BULK AT MOST 1048576: true; the input reads as it did. -/
def pointTimesUptoRow : OpenClaim := { program := "ytkfjhndofbmhoaa", sum := "9b644e1365c026bf9139fd2ab8d2c90e2cce621d9e719f8dea5c336e83eaa3e8", func := "clapper/clapperlaw05.PointTimes", spec := "pointTimes", inPlace := ["math/bits.Add64", "math/bits.Sub64"], unfollowed := true, recurses := true, apart := false, narrowed := true }
def PointTimesUptoSaid : Prop := pointTimesUptoRow.holds Try.pinned (OpenSpec.upto pointTimesSpec)

/-- 'clapperlaw05.PointRound', WHERE WHAT IT READS IS OF BULK AT MOST 1048576: true; the input reads as it did. -/
def pointRoundUptoRow : OpenClaim := { program := "ytkfjhndofbmhoaa", sum := "9b644e1365c026bf9139fd2ab8d2c90e2cce621d9e719f8dea5c336e83eaa3e8", func := "clapper/clapperlaw05.PointRound", spec := "pointRound", inPlace := ["math/bits.Add64", "math/bits.Sub64"], unfollowed := true, recurses := true, apart := false, narrowed := true }
def PointRoundUptoSaid : Prop := pointRoundUptoRow.holds Try.pinned (OpenSpec.upto pointRoundSpec)

/-- 'clapperlaw05.PointBytes', WHERE WHAT IT READS IS OF BULK AT MOST 1048576: true; the input reads as it did. -/
def pointBytesUptoRow : OpenClaim := { program := "ytkfjhndofbmhoaa", sum := "9b644e1365c026bf9139fd2ab8d2c90e2cce621d9e719f8dea5c336e83eaa3e8", func := "clapper/clapperlaw05.PointBytes", spec := "pointBytes", inPlace := ["math/bits.Add64", "math/bits.Sub64"], unfollowed := true, recurses := true, apart := false, narrowed := true }
def PointBytesUptoSaid : Prop := pointBytesUptoRow.holds Try.pinned (OpenSpec.upto pointBytesSpec)

end Rows
end Go.Proofs.Ytkfjhndofbmhoaa
