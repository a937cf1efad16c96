/-
  No cell of these rows narrows 'for every input' (looked for: loops, veiled, ifaces, maps, wideKeys, modest, calm, conditions, laid).
  DERIVED. THE GIVEN ROWS OF THIS SEAT. 6 by the template 'for every input the law returns true; each argument reads behind the call as it read before'; 0 by the template 'total and deterministic' (their statements: YtinjhmmbndonhaaTotals.lean).
  GIVEN WITH THE SEED: the statements are not yours to turn. If you find one false, say at which input.
  Laid BY PROGRAM, IN A SANDBOX (cutbox-rows.mjs): the forced cells as the released guide's own fill.sh prints them over the translation fc086ae80e7b9df4… (all of the seat's roots in one cut). By AI agents, Wed Nov 11 2026. No macro, syntax, notation, axiom, sorry.
-/
import Derived.Test.YtinjhmmbndonhaaChecked
import GoSem.Claim
import GoSem.ClaimJoined
import GoSem.ClaimMapViews
import Derived.JoinedTies
import Derived.KernelRfl
namespace Go.Proofs.Ytinjhmmbndonhaa
/- THE CELL 'sum', in the pinned program and in every row, IS THE sha256 OF THE DUMP (.gsa) THAT YtinjhmmbndonhaaProg.lean LOADS. Nothing in Lean hashes anything: it is a label: what it is worth is what the hold of that sum in a sandbox is worth. -/
noncomputable def Try.pinned : Pinned := { name := "ytinjhmmbndonhaa", sum := "fc086ae80e7b9df4577eac0b7fb8de35b5e4bf4023df78372f1b33de8442ff9b", checked := Try.checked }
namespace Rows
def none {H : Type} : Left H := { results := [], args := [] }

/-- 'clapperlaw03.ShaSums': WHATEVER THE INPUT: true; the input reads as it did. -/
def shaSumsSpec : ChangeSpec := { name := "shaSums", fn := fun _ => fun
  | [d] => { results := [.lit (.bool true)], args := [d] }
  | _ => none }
def shaSumsRow : OpenClaim := { program := "ytinjhmmbndonhaa", sum := "fc086ae80e7b9df4577eac0b7fb8de35b5e4bf4023df78372f1b33de8442ff9b", func := "clapper/clapperlaw03.ShaSums", spec := "shaSums", unfollowed := true, recurses := true, apart := false }
def ShaSumsSaid : Prop := shaSumsRow.holds Try.pinned (OpenSpec.ofChange shaSumsSpec)

/-- ITS FALSE NEIGHBOUR: 'it returns false'. Refute it at one input. -/
def shaSumsWrong : ChangeSpec := { name := "shaSums", fn := fun _ => fun
  | [d] => { results := [.lit (.bool false)], args := [d] }
  | _ => none }
def ShaSumsWrongFalsely : Prop := shaSumsRow.holds Try.pinned (OpenSpec.ofChange shaSumsWrong)

/-- 'clapperlaw03.ShaWrites': WHATEVER THE INPUT: true; the input reads as it did. -/
def shaWritesSpec : ChangeSpec := { name := "shaWrites", fn := fun _ => fun
  | [d] => { results := [.lit (.bool true)], args := [d] }
  | _ => none }
def shaWritesRow : OpenClaim := { program := "ytinjhmmbndonhaa", sum := "fc086ae80e7b9df4577eac0b7fb8de35b5e4bf4023df78372f1b33de8442ff9b", func := "clapper/clapperlaw03.ShaWrites", spec := "shaWrites", unfollowed := true, recurses := true, apart := false }
def ShaWritesSaid : Prop := shaWritesRow.holds Try.pinned (OpenSpec.ofChange shaWritesSpec)

/-- ITS FALSE NEIGHBOUR: 'it returns false'. Refute it at one input. -/
def shaWritesWrong : ChangeSpec := { name := "shaWrites", fn := fun _ => fun
  | [d] => { results := [.lit (.bool false)], args := [d] }
  | _ => none }
def ShaWritesWrongFalsely : Prop := shaWritesRow.holds Try.pinned (OpenSpec.ofChange shaWritesWrong)

/-- 'clapperlaw03.ShaParts': WHATEVER THE INPUT: true; the input reads as it did. -/
def shaPartsSpec : ChangeSpec := { name := "shaParts", fn := fun _ => fun
  | [d1, d2] => { results := [.lit (.bool true)], args := [d1, d2] }
  | _ => none }
def shaPartsRow : OpenClaim := { program := "ytinjhmmbndonhaa", sum := "fc086ae80e7b9df4577eac0b7fb8de35b5e4bf4023df78372f1b33de8442ff9b", func := "clapper/clapperlaw03.ShaParts", spec := "shaParts", unfollowed := true, recurses := true, apart := false }
def ShaPartsSaid : Prop := shaPartsRow.holds Try.pinned (OpenSpec.ofChange shaPartsSpec)

/-- ITS FALSE NEIGHBOUR: 'it returns false'. Refute it at one input. -/
def shaPartsWrong : ChangeSpec := { name := "shaParts", fn := fun _ => fun
  | [d1, d2] => { results := [.lit (.bool false)], args := [d1, d2] }
  | _ => none }
def ShaPartsWrongFalsely : Prop := shaPartsRow.holds Try.pinned (OpenSpec.ofChange shaPartsWrong)

/-- 'clapperlaw03.ShaTwins': WHATEVER THE INPUT: true; the input reads as it did. -/
def shaTwinsSpec : ChangeSpec := { name := "shaTwins", fn := fun _ => fun
  | [d1, d2, d3] => { results := [.lit (.bool true)], args := [d1, d2, d3] }
  | _ => none }
def shaTwinsRow : OpenClaim := { program := "ytinjhmmbndonhaa", sum := "fc086ae80e7b9df4577eac0b7fb8de35b5e4bf4023df78372f1b33de8442ff9b", func := "clapper/clapperlaw03.ShaTwins", spec := "shaTwins", unfollowed := true, recurses := true, apart := false }
def ShaTwinsSaid : Prop := shaTwinsRow.holds Try.pinned (OpenSpec.ofChange shaTwinsSpec)

/-- ITS FALSE NEIGHBOUR: 'it returns false'. Refute it at one input. -/
def shaTwinsWrong : ChangeSpec := { name := "shaTwins", fn := fun _ => fun
  | [d1, d2, d3] => { results := [.lit (.bool false)], args := [d1, d2, d3] }
  | _ => none }
def ShaTwinsWrongFalsely : Prop := shaTwinsRow.holds Try.pinned (OpenSpec.ofChange shaTwinsWrong)

/-- 'clapperlaw04.MacCodes': WHATEVER THE INPUT: true; the input reads as it did. -/
def macCodesSpec : ChangeSpec := { name := "macCodes", fn := fun _ => fun
  | [d1, d2, d3, d4] => { results := [.lit (.bool true)], args := [d1, d2, d3, d4] }
  | _ => none }
def macCodesRow : OpenClaim := { program := "ytinjhmmbndonhaa", sum := "fc086ae80e7b9df4577eac0b7fb8de35b5e4bf4023df78372f1b33de8442ff9b", func := "clapper/clapperlaw04.MacCodes", spec := "macCodes", unfollowed := true, recurses := true, apart := false }
def MacCodesSaid : Prop := macCodesRow.holds Try.pinned (OpenSpec.ofChange macCodesSpec)

/-- ITS FALSE NEIGHBOUR: 'it returns false'. Refute it at one input. -/
def macCodesWrong : ChangeSpec := { name := "macCodes", fn := fun _ => fun
  | [d1, d2, d3, d4] => { results := [.lit (.bool false)], args := [d1, d2, d3, d4] }
  | _ => none }
def MacCodesWrongFalsely : Prop := macCodesRow.holds Try.pinned (OpenSpec.ofChange macCodesWrong)

/-- 'clapperlaw04.MacParts': WHATEVER THE INPUT: true; the input reads as it did. -/
def macPartsSpec : ChangeSpec := { name := "macParts", fn := fun _ => fun
  | [d1, d2, d3] => { results := [.lit (.bool true)], args := [d1, d2, d3] }
  | _ => none }
def macPartsRow : OpenClaim := { program := "ytinjhmmbndonhaa", sum := "fc086ae80e7b9df4577eac0b7fb8de35b5e4bf4023df78372f1b33de8442ff9b", func := "clapper/clapperlaw04.MacParts", spec := "macParts", unfollowed := true, recurses := true, apart := false }
def MacPartsSaid : Prop := macPartsRow.holds Try.pinned (OpenSpec.ofChange macPartsSpec)

/-- ITS FALSE NEIGHBOUR: 'it returns false'. Refute it at one input. -/
def macPartsWrong : ChangeSpec := { name := "macParts", fn := fun _ => fun
  | [d1, d2, d3] => { results := [.lit (.bool false)], args := [d1, d2, d3] }
  | _ => none }
def MacPartsWrongFalsely : Prop := macPartsRow.holds Try.pinned (OpenSpec.ofChange macPartsWrong)

/- THE SECOND FORM. 'bulk': how many values and letters a reading holds, each counted each time it is reached (what is shared counts as often as it is met; a slice's spare places count too). A statement '..UptoSaid' is the law's where the arguments, and the package variables that the reading takes, are together of bulk at most 1048576: NARROWER than '..Said'. Prove '..Said' where nothing that the law and all that it calls make is longer than what came in: it says more and counts as full. Else prove '..UptoSaid'. A law counts once. -/
mutual
def uptoBulk {H : Type} : DataW H → Nat
  | .lit (.string bytes) => bytes.length + 1
  | .lit _ => 1
  | .nil => 1
  | .ptr d => uptoBulk d + 1
  | .slice elems spare => uptoBulkAll elems + uptoBulkAll spare + 1
  | .agg parts => uptoBulkAll parts + 1
  | .iface _ d => uptoBulk d + 1
  | .map entries => uptoBulkEntries entries + 1
  | .held _ => 1
def uptoBulkAll {H : Type} : List (DataW H) → Nat
  | [] => 0
  | d :: r => uptoBulk d + uptoBulkAll r
def uptoBulkEntries {H : Type} : List (Lit × DataW H) → Nat
  | [] => 0
  | x :: r => uptoBulkEntry x + uptoBulkEntries r
def uptoBulkEntry {H : Type} : Lit × DataW H → Nat
  | (.string bytes, d) => bytes.length + uptoBulk d + 1
  | (_, d) => uptoBulk d + 1
 end
def uptoSmall : (H : Type) → List (DataW H) → Bool := fun _ ds => decide (uptoBulkAll ds ≤ 1048576)
def OpenSpec.upto (s : _root_.Go.ChangeSpec) : _root_.Go.OpenSpec := { _root_.Go.OpenSpec.ofChange s with cond := some uptoSmall }

/-- 'clapperlaw03.ShaSums', WHERE WHAT IT READS IS OF BULK AT MOST 1048576: true; the input reads as it did. -/
def shaSumsUptoRow : OpenClaim := { program := "ytinjhmmbndonhaa", sum := "fc086ae80e7b9df4577eac0b7fb8de35b5e4bf4023df78372f1b33de8442ff9b", func := "clapper/clapperlaw03.ShaSums", spec := "shaSums", unfollowed := true, recurses := true, apart := false, narrowed := true }
def ShaSumsUptoSaid : Prop := shaSumsUptoRow.holds Try.pinned (OpenSpec.upto shaSumsSpec)

/-- 'clapperlaw03.ShaWrites', WHERE WHAT IT READS IS OF BULK AT MOST 1048576: true; the input reads as it did. -/
def shaWritesUptoRow : OpenClaim := { program := "ytinjhmmbndonhaa", sum := "fc086ae80e7b9df4577eac0b7fb8de35b5e4bf4023df78372f1b33de8442ff9b", func := "clapper/clapperlaw03.ShaWrites", spec := "shaWrites", unfollowed := true, recurses := true, apart := false, narrowed := true }
def ShaWritesUptoSaid : Prop := shaWritesUptoRow.holds Try.pinned (OpenSpec.upto shaWritesSpec)

/-- 'clapperlaw03.ShaParts', WHERE WHAT IT READS IS OF BULK AT MOST 1048576: true; the input reads as it did. -/
def shaPartsUptoRow : OpenClaim := { program := "ytinjhmmbndonhaa", sum := "fc086ae80e7b9df4577eac0b7fb8de35b5e4bf4023df78372f1b33de8442ff9b", func := "clapper/clapperlaw03.ShaParts", spec := "shaParts", unfollowed := true, recurses := true, apart := false, narrowed := true }
def ShaPartsUptoSaid : Prop := shaPartsUptoRow.holds Try.pinned (OpenSpec.upto shaPartsSpec)

/-- 'clapperlaw03.ShaTwins', WHERE WHAT IT READS IS OF BULK AT MOST 1048576: true; the input reads as it did. -/
def shaTwinsUptoRow : OpenClaim := { program := "ytinjhmmbndonhaa", sum := "fc086ae80e7b9df4577eac0b7fb8de35b5e4bf4023df78372f1b33de8442ff9b", func := "clapper/clapperlaw03.ShaTwins", spec := "shaTwins", unfollowed := true, recurses := true, apart := false, narrowed := true }
def ShaTwinsUptoSaid : Prop := shaTwinsUptoRow.holds Try.pinned (OpenSpec.upto shaTwinsSpec)

/-- 'clapperlaw04.MacCodes', WHERE WHAT IT READS IS OF BULK AT MOST 1048576: true; the input reads as it did. -/
def macCodesUptoRow : OpenClaim := { program := "ytinjhmmbndonhaa", sum := "fc086ae80e7b9df4577eac0b7fb8de35b5e4bf4023df78372f1b33de8442ff9b", func := "clapper/clapperlaw04.MacCodes", spec := "macCodes", unfollowed := true, recurses := true, apart := false, narrowed := true }
def MacCodesUptoSaid : Prop := macCodesUptoRow.holds Try.pinned (OpenSpec.upto macCodesSpec)

/-- 'clapperlaw04.MacParts', WHERE WHAT IT READS IS OF BULK AT MOST 1048576: true; the input reads as it did. -/
def macPartsUptoRow : OpenClaim := { program := "ytinjhmmbndonhaa", sum := "fc086ae80e7b9df4577eac0b7fb8de35b5e4bf4023df78372f1b33de8442ff9b", func := "clapper/clapperlaw04.MacParts", spec := "macParts", unfollowed := true, recurses := true, apart := false, narrowed := true }
def MacPartsUptoSaid : Prop := macPartsUptoRow.holds Try.pinned (OpenSpec.upto macPartsSpec)

end Rows
end Go.Proofs.Ytinjhmmbndonhaa
