/-
  No cell of these rows narrows 'for every input' (looked for: loops, veiled, ifaces, maps, wideKeys, modest, calm, conditions, laid).
  DERIVED. THE GIVEN ROWS OF THIS SEAT. 3 by the template 'for every input the law returns true; each argument reads behind the call as it read before'; 0 by the template 'total and deterministic' (their statements: YtkaeoeebagndaaaTotals.lean).
  GIVEN WITH THE SEED: the statements are not yours to turn. If you find one false, say at which input.
  Laid BY PROGRAM, IN A SANDBOX (cutbox-rows.mjs): the forced cells as the released guide's own fill.sh prints them over the translation fab962d173e4f41a… (all of the seat's roots in one cut). By AI agents, Wed Nov 11 2026. No macro, syntax, notation, axiom, sorry.
-/
import Derived.Test.YtkaeoeebagndaaaChecked
import GoSem.Claim
import GoSem.ClaimJoined
import GoSem.ClaimMapViews
import Derived.JoinedTies
import Derived.KernelRfl
namespace Go.Proofs.Ytkaeoeebagndaaa
/- THE CELL 'sum', in the pinned program and in every row, IS THE sha256 OF THE DUMP (.gsa) THAT YtkaeoeebagndaaaProg.lean LOADS. Nothing in Lean hashes anything: it is a label: what it is worth is what the hold of that sum in a sandbox is worth. -/
noncomputable def Try.pinned : Pinned := { name := "ytkaeoeebagndaaa", sum := "fab962d173e4f41adf4dbf748624b76faf84eb348b6efc1b0828e6b41ee2307d", checked := Try.checked }
namespace Rows
def none {H : Type} : Left H := { results := [], args := [] }

/-- 'clapperlaw11.RevokeMerges': WHATEVER THE INPUT: true; the input reads as it did. -/
def revokeMergesSpec : ChangeSpec := { name := "revokeMerges", fn := fun _ => fun
  | [d1, d2] => { results := [.lit (.bool true)], args := [d1, d2] }
  | _ => none }
def revokeMergesRow : OpenClaim := { program := "ytkaeoeebagndaaa", sum := "fab962d173e4f41adf4dbf748624b76faf84eb348b6efc1b0828e6b41ee2307d", func := "clapper/clapperlaw11.RevokeMerges", spec := "revokeMerges", unfollowed := true, recurses := true, apart := false }
def RevokeMergesSaid : Prop := revokeMergesRow.holds Try.pinned (OpenSpec.ofChange revokeMergesSpec)

/-- ITS FALSE NEIGHBOUR: 'it returns false'. Refute it at one input. -/
def revokeMergesWrong : ChangeSpec := { name := "revokeMerges", fn := fun _ => fun
  | [d1, d2] => { results := [.lit (.bool false)], args := [d1, d2] }
  | _ => none }
def RevokeMergesWrongFalsely : Prop := revokeMergesRow.holds Try.pinned (OpenSpec.ofChange revokeMergesWrong)

/-- 'clapperlaw11.RevokeTells': WHATEVER THE INPUT: true; the input reads as it did. -/
def revokeTellsSpec : ChangeSpec := { name := "revokeTells", fn := fun _ => fun
  | [d1, d2, d3, d4] => { results := [.lit (.bool true)], args := [d1, d2, d3, d4] }
  | _ => none }
def revokeTellsRow : OpenClaim := { program := "ytkaeoeebagndaaa", sum := "fab962d173e4f41adf4dbf748624b76faf84eb348b6efc1b0828e6b41ee2307d", func := "clapper/clapperlaw11.RevokeTells", spec := "revokeTells", unfollowed := true, recurses := true, apart := false }
def RevokeTellsSaid : Prop := revokeTellsRow.holds Try.pinned (OpenSpec.ofChange revokeTellsSpec)

/-- ITS FALSE NEIGHBOUR: 'it returns false'. Refute it at one input. -/
def revokeTellsWrong : ChangeSpec := { name := "revokeTells", fn := fun _ => fun
  | [d1, d2, d3, d4] => { results := [.lit (.bool false)], args := [d1, d2, d3, d4] }
  | _ => none }
def RevokeTellsWrongFalsely : Prop := revokeTellsRow.holds Try.pinned (OpenSpec.ofChange revokeTellsWrong)

/-- 'clapperlaw11.RevokeBoth': WHATEVER THE INPUT: true; the input reads as it did. -/
def revokeBothSpec : ChangeSpec := { name := "revokeBoth", fn := fun _ => fun
  | [d1, d2, d3, d4, d5] => { results := [.lit (.bool true)], args := [d1, d2, d3, d4, d5] }
  | _ => none }
def revokeBothRow : OpenClaim := { program := "ytkaeoeebagndaaa", sum := "fab962d173e4f41adf4dbf748624b76faf84eb348b6efc1b0828e6b41ee2307d", func := "clapper/clapperlaw11.RevokeBoth", spec := "revokeBoth", unfollowed := true, recurses := true, apart := false }
def RevokeBothSaid : Prop := revokeBothRow.holds Try.pinned (OpenSpec.ofChange revokeBothSpec)

/-- ITS FALSE NEIGHBOUR: 'it returns false'. Refute it at one input. -/
def revokeBothWrong : ChangeSpec := { name := "revokeBoth", fn := fun _ => fun
  | [d1, d2, d3, d4, d5] => { results := [.lit (.bool false)], args := [d1, d2, d3, d4, d5] }
  | _ => none }
def RevokeBothWrongFalsely : Prop := revokeBothRow.holds Try.pinned (OpenSpec.ofChange revokeBothWrong)

/- THE SECOND FORM. 'bulk': how many values and letters a reading holds, each counted each time it is reached (what is shared counts as often as it is met; a slice's spare places count too). A statement '..UptoSaid' is the law's where the arguments, and the package variables that the reading takes, are together of bulk at most 1048576: NARROWER than '..Said'. Prove '..Said' where nothing that the law and all that it calls make is longer than what came in: it says more and counts as full. Else prove '..UptoSaid'. A law counts once. -/
mutual
def uptoBulk {H : Type} : DataW H → Nat
  | .lit (.string bytes) => bytes.length + 1
  | .lit _ => 1
  | .nil => 1
  | .ptr d => uptoBulk d + 1
  | .slice elems spare => uptoBulkAll elems + uptoBulkAll spare + 1
  | .agg parts => uptoBulkAll parts + 1
  | .iface _ d => uptoBulk d + 1
  | .map entries => uptoBulkEntries entries + 1
  | .held _ => 1
def uptoBulkAll {H : Type} : List (DataW H) → Nat
  | [] => 0
  | d :: r => uptoBulk d + uptoBulkAll r
def uptoBulkEntries {H : Type} : List (Lit × DataW H) → Nat
  | [] => 0
  | x :: r => uptoBulkEntry x + uptoBulkEntries r
def uptoBulkEntry {H : Type} : Lit × DataW H → Nat
  | (.string bytes, d) => bytes.length + uptoBulk d + 1
  | (_, d) => uptoBulk d + 1
 end
def uptoSmall : (H : Type) → List (DataW H) → Bool := fun _ ds => decide (uptoBulkAll ds ≤ 1048576)
def OpenSpec.upto (s : _root_.Go.ChangeSpec) : _root_.Go.OpenSpec := { _root_.Go.OpenSpec.ofChange s with cond := some uptoSmall }

/-- 'clapperlaw11.RevokeMerges', WHERE WHAT IT READS IS OF BULK AT MOST 1048576: true; the input reads as it did. -/
def revokeMergesUptoRow : OpenClaim := { program := "ytkaeoeebagndaaa", sum := "fab962d173e4f41adf4dbf748624b76faf84eb348b6efc1b0828e6b41ee2307d", func := "clapper/clapperlaw11.RevokeMerges", spec := "revokeMerges", unfollowed := true, recurses := true, apart := false, narrowed := true }
def RevokeMergesUptoSaid : Prop := revokeMergesUptoRow.holds Try.pinned (OpenSpec.upto revokeMergesSpec)

/-- 'clapperlaw11.RevokeTells', WHERE WHAT IT READS IS OF BULK AT MOST 1048576: true; the input reads as it did. -/
def revokeTellsUptoRow : OpenClaim := { program := "ytkaeoeebagndaaa", sum := "fab962d173e4f41adf4dbf748624b76faf84eb348b6efc1b0828e6b41ee2307d", func := "clapper/clapperlaw11.RevokeTells", spec := "revokeTells", unfollowed := true, recurses := true, apart := false, narrowed := true }
def RevokeTellsUptoSaid : Prop := revokeTellsUptoRow.holds Try.pinned (OpenSpec.upto revokeTellsSpec)

/-- 'clapperlaw11.RevokeBoth', WHERE WHAT IT READS IS OF BULK AT MOST 1048576: true; the input reads as it did. -/
def revokeBothUptoRow : OpenClaim := { program := "ytkaeoeebagndaaa", sum := "fab962d173e4f41adf4dbf748624b76faf84eb348b6efc1b0828e6b41ee2307d", func := "clapper/clapperlaw11.RevokeBoth", spec := "revokeBoth", unfollowed := true, recurses := true, apart := false, narrowed := true }
def RevokeBothUptoSaid : Prop := revokeBothUptoRow.holds Try.pinned (OpenSpec.upto revokeBothSpec)

end Rows
end Go.Proofs.Ytkaeoeebagndaaa
