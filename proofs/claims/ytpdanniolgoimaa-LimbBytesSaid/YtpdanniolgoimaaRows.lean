/-
  No cell of these rows narrows 'for every input' (looked for: loops, veiled, ifaces, maps, wideKeys, modest, calm, conditions, laid).
  DERIVED. THE GIVEN ROWS OF THIS SEAT. 7 by the template 'for every input the law returns true; each argument reads behind the call as it read before'; 0 by the template 'total and deterministic' (their statements: YtpdanniolgoimaaTotals.lean).
  GIVEN WITH THE SEED: the statements are not yours to turn. If you find one false, say at which input.
  Laid BY PROGRAM, IN A SANDBOX (cutbox-rows.mjs): the forced cells as the released guide's own fill.sh prints them over the translation 57144e029c75fef5… (all of the seat's roots in one cut). By AI agents, Wed Nov 11 2026. No macro, syntax, notation, axiom, sorry.
-/
import Derived.Test.YtpdanniolgoimaaChecked
import GoSem.Claim
import GoSem.ClaimJoined
import GoSem.ClaimMapViews
import Derived.JoinedTies
import Derived.KernelRfl
namespace Go.Proofs.Ytpdanniolgoimaa
/- THE CELL 'sum', in the pinned program and in every row, IS THE sha256 OF THE DUMP (.gsa) THAT YtpdanniolgoimaaProg.lean LOADS. Nothing in Lean hashes anything: it is a label: what it is worth is what the hold of that sum in a sandbox is worth. -/
noncomputable def Try.pinned : Pinned := { name := "ytpdanniolgoimaa", sum := "57144e029c75fef5f969cf89f5407658258545f4c1386e45bc54a70bfcb9c82b", checked := Try.checked }
namespace Rows
def none {H : Type} : Left H := { results := [], args := [] }

/-- 'clapperlaw01.LimbBytes': WHATEVER THE INPUT: true; the input reads as it did. -/
def limbBytesSpec : ChangeSpec := { name := "limbBytes", fn := fun _ => fun
  | [d1, d2] => { results := [.lit (.bool true)], args := [d1, d2] }
  | _ => none }
def limbBytesRow : OpenClaim := { program := "ytpdanniolgoimaa", sum := "57144e029c75fef5f969cf89f5407658258545f4c1386e45bc54a70bfcb9c82b", func := "clapper/clapperlaw01.LimbBytes", spec := "limbBytes", inPlace := ["math/bits.Add64"], apart := false }
def LimbBytesSaid : Prop := limbBytesRow.holds Try.pinned (OpenSpec.ofChange limbBytesSpec)

/-- ITS FALSE NEIGHBOUR: 'it returns false'. Refute it at one input. -/
def limbBytesWrong : ChangeSpec := { name := "limbBytes", fn := fun _ => fun
  | [d1, d2] => { results := [.lit (.bool false)], args := [d1, d2] }
  | _ => none }
def LimbBytesWrongFalsely : Prop := limbBytesRow.holds Try.pinned (OpenSpec.ofChange limbBytesWrong)

/-- 'clapperlaw01.LimbSums': WHATEVER THE INPUT: true; the input reads as it did. -/
def limbSumsSpec : ChangeSpec := { name := "limbSums", fn := fun _ => fun
  | [d1, d2] => { results := [.lit (.bool true)], args := [d1, d2] }
  | _ => none }
def limbSumsRow : OpenClaim := { program := "ytpdanniolgoimaa", sum := "57144e029c75fef5f969cf89f5407658258545f4c1386e45bc54a70bfcb9c82b", func := "clapper/clapperlaw01.LimbSums", spec := "limbSums", inPlace := ["math/bits.Add64", "math/bits.Sub64"], apart := false }
def LimbSumsSaid : Prop := limbSumsRow.holds Try.pinned (OpenSpec.ofChange limbSumsSpec)

/-- ITS FALSE NEIGHBOUR: 'it returns false'. Refute it at one input. -/
def limbSumsWrong : ChangeSpec := { name := "limbSums", fn := fun _ => fun
  | [d1, d2] => { results := [.lit (.bool false)], args := [d1, d2] }
  | _ => none }
def LimbSumsWrongFalsely : Prop := limbSumsRow.holds Try.pinned (OpenSpec.ofChange limbSumsWrong)

/-- 'clapperlaw01.LimbProducts': WHATEVER THE INPUT: true; the input reads as it did. -/
def limbProductsSpec : ChangeSpec := { name := "limbProducts", fn := fun _ => fun
  | [d1, d2] => { results := [.lit (.bool true)], args := [d1, d2] }
  | _ => none }
def limbProductsRow : OpenClaim := { program := "ytpdanniolgoimaa", sum := "57144e029c75fef5f969cf89f5407658258545f4c1386e45bc54a70bfcb9c82b", func := "clapper/clapperlaw01.LimbProducts", spec := "limbProducts", inPlace := ["math/bits.Add64"], apart := false }
def LimbProductsSaid : Prop := limbProductsRow.holds Try.pinned (OpenSpec.ofChange limbProductsSpec)

/-- ITS FALSE NEIGHBOUR: 'it returns false'. Refute it at one input. -/
def limbProductsWrong : ChangeSpec := { name := "limbProducts", fn := fun _ => fun
  | [d1, d2] => { results := [.lit (.bool false)], args := [d1, d2] }
  | _ => none }
def LimbProductsWrongFalsely : Prop := limbProductsRow.holds Try.pinned (OpenSpec.ofChange limbProductsWrong)

/-- 'clapperlaw01.LimbTurns': WHATEVER THE INPUT: true; the input reads as it did. -/
def limbTurnsSpec : ChangeSpec := { name := "limbTurns", fn := fun _ => fun
  | [d1, d2] => { results := [.lit (.bool true)], args := [d1, d2] }
  | _ => none }
def limbTurnsRow : OpenClaim := { program := "ytpdanniolgoimaa", sum := "57144e029c75fef5f969cf89f5407658258545f4c1386e45bc54a70bfcb9c82b", func := "clapper/clapperlaw01.LimbTurns", spec := "limbTurns", inPlace := ["math/bits.Add64"], apart := false }
def LimbTurnsSaid : Prop := limbTurnsRow.holds Try.pinned (OpenSpec.ofChange limbTurnsSpec)

/-- ITS FALSE NEIGHBOUR: 'it returns false'. Refute it at one input. -/
def limbTurnsWrong : ChangeSpec := { name := "limbTurns", fn := fun _ => fun
  | [d1, d2] => { results := [.lit (.bool false)], args := [d1, d2] }
  | _ => none }
def LimbTurnsWrongFalsely : Prop := limbTurnsRow.holds Try.pinned (OpenSpec.ofChange limbTurnsWrong)

/-- 'clapperlaw01.LimbBack': WHATEVER THE INPUT: true; the input reads as it did. -/
def limbBackSpec : ChangeSpec := { name := "limbBack", fn := fun _ => fun
  | [d1, d2] => { results := [.lit (.bool true)], args := [d1, d2] }
  | _ => none }
def limbBackRow : OpenClaim := { program := "ytpdanniolgoimaa", sum := "57144e029c75fef5f969cf89f5407658258545f4c1386e45bc54a70bfcb9c82b", func := "clapper/clapperlaw01.LimbBack", spec := "limbBack", inPlace := ["math/bits.Add64", "math/bits.Sub64"], apart := false }
def LimbBackSaid : Prop := limbBackRow.holds Try.pinned (OpenSpec.ofChange limbBackSpec)

/-- ITS FALSE NEIGHBOUR: 'it returns false'. Refute it at one input. -/
def limbBackWrong : ChangeSpec := { name := "limbBack", fn := fun _ => fun
  | [d1, d2] => { results := [.lit (.bool false)], args := [d1, d2] }
  | _ => none }
def LimbBackWrongFalsely : Prop := limbBackRow.holds Try.pinned (OpenSpec.ofChange limbBackWrong)

/-- 'clapperlaw01.LimbBits': WHATEVER THE INPUT: true; the input reads as it did. -/
def limbBitsSpec : ChangeSpec := { name := "limbBits", fn := fun _ => fun
  | [d1, d2] => { results := [.lit (.bool true)], args := [d1, d2] }
  | _ => none }
def limbBitsRow : OpenClaim := { program := "ytpdanniolgoimaa", sum := "57144e029c75fef5f969cf89f5407658258545f4c1386e45bc54a70bfcb9c82b", func := "clapper/clapperlaw01.LimbBits", spec := "limbBits", inPlace := ["math/bits.Add64"], apart := false }
def LimbBitsSaid : Prop := limbBitsRow.holds Try.pinned (OpenSpec.ofChange limbBitsSpec)

/-- ITS FALSE NEIGHBOUR: 'it returns false'. Refute it at one input. -/
def limbBitsWrong : ChangeSpec := { name := "limbBits", fn := fun _ => fun
  | [d1, d2] => { results := [.lit (.bool false)], args := [d1, d2] }
  | _ => none }
def LimbBitsWrongFalsely : Prop := limbBitsRow.holds Try.pinned (OpenSpec.ofChange limbBitsWrong)

/-- 'clapperlaw01.LimbOrders': WHATEVER THE INPUT: true; the input reads as it did. -/
def limbOrdersSpec : ChangeSpec := { name := "limbOrders", fn := fun _ => fun
  | [d1, d2] => { results := [.lit (.bool true)], args := [d1, d2] }
  | _ => none }
def limbOrdersRow : OpenClaim := { program := "ytpdanniolgoimaa", sum := "57144e029c75fef5f969cf89f5407658258545f4c1386e45bc54a70bfcb9c82b", func := "clapper/clapperlaw01.LimbOrders", spec := "limbOrders", inPlace := ["math/bits.Add64", "math/bits.Sub64"], apart := false }
def LimbOrdersSaid : Prop := limbOrdersRow.holds Try.pinned (OpenSpec.ofChange limbOrdersSpec)

/-- ITS FALSE NEIGHBOUR: 'it returns false'. Refute it at one input. -/
def limbOrdersWrong : ChangeSpec := { name := "limbOrders", fn := fun _ => fun
  | [d1, d2] => { results := [.lit (.bool false)], args := [d1, d2] }
  | _ => none }
def LimbOrdersWrongFalsely : Prop := limbOrdersRow.holds Try.pinned (OpenSpec.ofChange limbOrdersWrong)

/- THE SECOND FORM. 'bulk': how many values and letters a reading holds, each counted each time it is reached (what is shared counts as often as it is met; a slice's spare places count too). A statement '..UptoSaid' is the law's where the arguments, and the package variables that the reading takes, are together of bulk at most 1048576: NARROWER than '..Said'. Prove '..Said' where nothing that the law and all that it calls make is longer than what came in: it says more and counts as full. Else prove '..UptoSaid'. A law counts once. -/
mutual
def uptoBulk {H : Type} : DataW H → Nat
  | .lit (.string bytes) => bytes.length + 1
  | .lit _ => 1
  | .nil => 1
  | .ptr d => uptoBulk d + 1
  | .slice elems spare => uptoBulkAll elems + uptoBulkAll spare + 1
  | .agg parts => uptoBulkAll parts + 1
  | .iface _ d => uptoBulk d + 1
  | .map entries => uptoBulkEntries entries + 1
  | .held _ => 1
def uptoBulkAll {H : Type} : List (DataW H) → Nat
  | [] => 0
  | d :: r => uptoBulk d + uptoBulkAll r
def uptoBulkEntries {H : Type} : List (Lit × DataW H) → Nat
  | [] => 0
  | x :: r => uptoBulkEntry x + uptoBulkEntries r
def uptoBulkEntry {H : Type} : Lit × DataW H → Nat
  | (.string bytes, d) => bytes.length + uptoBulk d + 1
  | (_, d) => uptoBulk d + 1
 end
def uptoSmall : (H : Type) → List (DataW H) → Bool := fun _ ds => decide (uptoBulkAll ds ≤ 1048576)
def OpenSpec.upto (s : _root_.Go.ChangeSpec) : _root_.Go.OpenSpec := { _root_.Go.OpenSpec.ofChange s with cond := some uptoSmall }

/-- 'clapperlaw01.LimbBytes', WHERE WHAT IT READS IS OF BULK AT MOST 1048576: true; the input reads as it did. -/
def limbBytesUptoRow : OpenClaim := { program := "ytpdanniolgoimaa", sum := "57144e029c75fef5f969cf89f5407658258545f4c1386e45bc54a70bfcb9c82b", func := "clapper/clapperlaw01.LimbBytes", spec := "limbBytes", inPlace := ["math/bits.Add64"], apart := false, narrowed := true }
def LimbBytesUptoSaid : Prop := limbBytesUptoRow.holds Try.pinned (OpenSpec.upto limbBytesSpec)

/-- 'clapperlaw01.LimbSums', WHERE WHAT IT READS IS OF BULK AT MOST 1048576: true; the input reads as it did. -/
def limbSumsUptoRow : OpenClaim := { program := "ytpdanniolgoimaa", sum := "57144e029c75fef5f969cf89f5407658258545f4c1386e45bc54a70bfcb9c82b", func := "clapper/clapperlaw01.LimbSums", spec := "limbSums", inPlace := ["math/bits.Add64", "math/bits.Sub64"], apart := false, narrowed := true }
def LimbSumsUptoSaid : Prop := limbSumsUptoRow.holds Try.pinned (OpenSpec.upto limbSumsSpec)

/-- 'clapperlaw01.LimbProducts', WHERE WHAT IT READS IS OF BULK AT MOST 1048576: true; the input reads as it did. -/
def limbProductsUptoRow : OpenClaim := { program := "ytpdanniolgoimaa", sum := "57144e029c75fef5f969cf89f5407658258545f4c1386e45bc54a70bfcb9c82b", func := "clapper/clapperlaw01.LimbProducts", spec := "limbProducts", inPlace := ["math/bits.Add64"], apart := false, narrowed := true }
def LimbProductsUptoSaid : Prop := limbProductsUptoRow.holds Try.pinned (OpenSpec.upto limbProductsSpec)

/-- 'clapperlaw01.LimbTurns', WHERE WHAT IT READS IS OF BULK AT MOST 1048576: true; the input reads as it did. -/
def limbTurnsUptoRow : OpenClaim := { program := "ytpdanniolgoimaa", sum := "57144e029c75fef5f969cf89f5407658258545f4c1386e45bc54a70bfcb9c82b", func := "clapper/clapperlaw01.LimbTurns", spec := "limbTurns", inPlace := ["math/bits.Add64"], apart := false, narrowed := true }
def LimbTurnsUptoSaid : Prop := limbTurnsUptoRow.holds Try.pinned (OpenSpec.upto limbTurnsSpec)

/-- 'clapperlaw01.LimbBack', WHERE WHAT IT READS IS OF BULK AT MOST 1048576: true; the input reads as it did. -/
def limbBackUptoRow : OpenClaim := { program := "ytpdanniolgoimaa", sum := "57144e029c75fef5f969cf89f5407658258545f4c1386e45bc54a70bfcb9c82b", func := "clapper/clapperlaw01.LimbBack", spec := "limbBack", inPlace := ["math/bits.Add64", "math/bits.Sub64"], apart := false, narrowed := true }
def LimbBackUptoSaid : Prop := limbBackUptoRow.holds Try.pinned (OpenSpec.upto limbBackSpec)

/-- 'clapperlaw01.LimbBits', WHERE WHAT IT READS IS OF BULK AT MOST 1048576: true; the input reads as it did. -/
def limbBitsUptoRow : OpenClaim := { program := "ytpdanniolgoimaa", sum := "57144e029c75fef5f969cf89f5407658258545f4c1386e45bc54a70bfcb9c82b", func := "clapper/clapperlaw01.LimbBits", spec := "limbBits", inPlace := ["math/bits.Add64"], apart := false, narrowed := true }
def LimbBitsUptoSaid : Prop := limbBitsUptoRow.holds Try.pinned (OpenSpec.upto limbBitsSpec)

/-- 'clapperlaw01.LimbOrders', WHERE WHAT IT READS IS OF BULK AT MOST 1048576: true; the input reads as it did. -/
def limbOrdersUptoRow : OpenClaim := { program := "ytpdanniolgoimaa", sum := "57144e029c75fef5f969cf89f5407658258545f4c1386e45bc54a70bfcb9c82b", func := "clapper/clapperlaw01.LimbOrders", spec := "limbOrders", inPlace := ["math/bits.Add64", "math/bits.Sub64"], apart := false, narrowed := true }
def LimbOrdersUptoSaid : Prop := limbOrdersUptoRow.holds Try.pinned (OpenSpec.upto limbOrdersSpec)

end Rows
end Go.Proofs.Ytpdanniolgoimaa
