/-
  No cell of these rows narrows 'for every input' (looked for: loops, veiled, ifaces, maps, wideKeys, modest, calm, conditions, laid).
  DERIVED. THE GIVEN ROWS OF THIS SEAT. 7 by the template 'for every input the law returns true; each argument reads behind the call as it read before'; 0 by the template 'total and deterministic' (their statements: YtojjbcjndgekmaaTotals.lean).
  GIVEN WITH THE SEED: the statements are not yours to turn. If you find one false, say at which input.
  Laid BY PROGRAM, IN A SANDBOX (cutbox-rows.mjs): the forced cells as the released guide's own fill.sh prints them over the translation aa168fd64781921a… (all of the seat's roots in one cut). By AI agents, Wed Nov 11 2026. No macro, syntax, notation, axiom, sorry.
-/
import Derived.Test.YtojjbcjndgekmaaChecked
import GoSem.Claim
import GoSem.ClaimJoined
import GoSem.ClaimMapViews
import Derived.JoinedTies
import Derived.KernelRfl
namespace Go.Proofs.Ytojjbcjndgekmaa
/- THE CELL 'sum', in the pinned program and in every row, IS THE sha256 OF THE DUMP (.gsa) THAT YtojjbcjndgekmaaProg.lean LOADS. Nothing in Lean hashes anything: it is a label: what it is worth is what the hold of that sum in a sandbox is worth. -/
noncomputable def Try.pinned : Pinned := { name := "ytojjbcjndgekmaa", sum := "aa168fd64781921a6a243927b65b61d0b886b341ea18e75b6afd663134591f3e", checked := Try.checked }
namespace Rows
def none {H : Type} : Left H := { results := [], args := [] }

/-- 'clapperlaw02.FieldInverses': WHATEVER THE INPUT: true; the input reads as it did. -/
def fieldInversesSpec : ChangeSpec := { name := "fieldInverses", fn := fun _ => fun
  | [d1, d2] => { results := [.lit (.bool true)], args := [d1, d2] }
  | _ => none }
def fieldInversesRow : OpenClaim := { program := "ytojjbcjndgekmaa", sum := "aa168fd64781921a6a243927b65b61d0b886b341ea18e75b6afd663134591f3e", func := "clapper/clapperlaw02.FieldInverses", spec := "fieldInverses", inPlace := ["math/bits.Add64", "math/bits.Sub64"], recurses := true, apart := false }
def FieldInversesSaid : Prop := fieldInversesRow.holds Try.pinned (OpenSpec.ofChange fieldInversesSpec)

/-- ITS FALSE NEIGHBOUR: 'it returns false'. Refute it at one input. -/
def fieldInversesWrong : ChangeSpec := { name := "fieldInverses", fn := fun _ => fun
  | [d1, d2] => { results := [.lit (.bool false)], args := [d1, d2] }
  | _ => none }
def FieldInversesWrongFalsely : Prop := fieldInversesRow.holds Try.pinned (OpenSpec.ofChange fieldInversesWrong)

/-- 'clapperlaw02.FieldMakes': WHATEVER THE INPUT: true; the input reads as it did. -/
def fieldMakesSpec : ChangeSpec := { name := "fieldMakes", fn := fun _ => fun
  | [d1, d2] => { results := [.lit (.bool true)], args := [d1, d2] }
  | _ => none }
def fieldMakesRow : OpenClaim := { program := "ytojjbcjndgekmaa", sum := "aa168fd64781921a6a243927b65b61d0b886b341ea18e75b6afd663134591f3e", func := "clapper/clapperlaw02.FieldMakes", spec := "fieldMakes", inPlace := ["math/bits.Add64", "math/bits.Sub64"], recurses := true, apart := false }
def FieldMakesSaid : Prop := fieldMakesRow.holds Try.pinned (OpenSpec.ofChange fieldMakesSpec)

/-- ITS FALSE NEIGHBOUR: 'it returns false'. Refute it at one input. -/
def fieldMakesWrong : ChangeSpec := { name := "fieldMakes", fn := fun _ => fun
  | [d1, d2] => { results := [.lit (.bool false)], args := [d1, d2] }
  | _ => none }
def FieldMakesWrongFalsely : Prop := fieldMakesRow.holds Try.pinned (OpenSpec.ofChange fieldMakesWrong)

/-- 'clapperlaw02.FieldSums': WHATEVER THE INPUT: true; the input reads as it did. -/
def fieldSumsSpec : ChangeSpec := { name := "fieldSums", fn := fun _ => fun
  | [d1, d2, d3] => { results := [.lit (.bool true)], args := [d1, d2, d3] }
  | _ => none }
def fieldSumsRow : OpenClaim := { program := "ytojjbcjndgekmaa", sum := "aa168fd64781921a6a243927b65b61d0b886b341ea18e75b6afd663134591f3e", func := "clapper/clapperlaw02.FieldSums", spec := "fieldSums", inPlace := ["math/bits.Add64", "math/bits.Sub64"], recurses := true, apart := false }
def FieldSumsSaid : Prop := fieldSumsRow.holds Try.pinned (OpenSpec.ofChange fieldSumsSpec)

/-- ITS FALSE NEIGHBOUR: 'it returns false'. Refute it at one input. -/
def fieldSumsWrong : ChangeSpec := { name := "fieldSums", fn := fun _ => fun
  | [d1, d2, d3] => { results := [.lit (.bool false)], args := [d1, d2, d3] }
  | _ => none }
def FieldSumsWrongFalsely : Prop := fieldSumsRow.holds Try.pinned (OpenSpec.ofChange fieldSumsWrong)

/-- 'clapperlaw02.FieldRing': WHATEVER THE INPUT: true; the input reads as it did. -/
def fieldRingSpec : ChangeSpec := { name := "fieldRing", fn := fun _ => fun
  | [d1, d2, d3, d4] => { results := [.lit (.bool true)], args := [d1, d2, d3, d4] }
  | _ => none }
def fieldRingRow : OpenClaim := { program := "ytojjbcjndgekmaa", sum := "aa168fd64781921a6a243927b65b61d0b886b341ea18e75b6afd663134591f3e", func := "clapper/clapperlaw02.FieldRing", spec := "fieldRing", inPlace := ["math/bits.Add64", "math/bits.Sub64"], apart := false }
def FieldRingSaid : Prop := fieldRingRow.holds Try.pinned (OpenSpec.ofChange fieldRingSpec)

/-- ITS FALSE NEIGHBOUR: 'it returns false'. Refute it at one input. -/
def fieldRingWrong : ChangeSpec := { name := "fieldRing", fn := fun _ => fun
  | [d1, d2, d3, d4] => { results := [.lit (.bool false)], args := [d1, d2, d3, d4] }
  | _ => none }
def FieldRingWrongFalsely : Prop := fieldRingRow.holds Try.pinned (OpenSpec.ofChange fieldRingWrong)

/-- 'clapperlaw02.FieldPowers': WHATEVER THE INPUT: true; the input reads as it did. -/
def fieldPowersSpec : ChangeSpec := { name := "fieldPowers", fn := fun _ => fun
  | [d1, d2, d3] => { results := [.lit (.bool true)], args := [d1, d2, d3] }
  | _ => none }
def fieldPowersRow : OpenClaim := { program := "ytojjbcjndgekmaa", sum := "aa168fd64781921a6a243927b65b61d0b886b341ea18e75b6afd663134591f3e", func := "clapper/clapperlaw02.FieldPowers", spec := "fieldPowers", inPlace := ["math/bits.Add64", "math/bits.Sub64"], recurses := true, apart := false }
def FieldPowersSaid : Prop := fieldPowersRow.holds Try.pinned (OpenSpec.ofChange fieldPowersSpec)

/-- ITS FALSE NEIGHBOUR: 'it returns false'. Refute it at one input. -/
def fieldPowersWrong : ChangeSpec := { name := "fieldPowers", fn := fun _ => fun
  | [d1, d2, d3] => { results := [.lit (.bool false)], args := [d1, d2, d3] }
  | _ => none }
def FieldPowersWrongFalsely : Prop := fieldPowersRow.holds Try.pinned (OpenSpec.ofChange fieldPowersWrong)

/-- 'clapperlaw02.FieldSmall': WHATEVER THE INPUT: true; the input reads as it did. -/
def fieldSmallSpec : ChangeSpec := { name := "fieldSmall", fn := fun _ => fun
  | [d1, d2, d3, d4] => { results := [.lit (.bool true)], args := [d1, d2, d3, d4] }
  | _ => none }
def fieldSmallRow : OpenClaim := { program := "ytojjbcjndgekmaa", sum := "aa168fd64781921a6a243927b65b61d0b886b341ea18e75b6afd663134591f3e", func := "clapper/clapperlaw02.FieldSmall", spec := "fieldSmall", inPlace := ["math/bits.Add64", "math/bits.Sub64"], apart := false }
def FieldSmallSaid : Prop := fieldSmallRow.holds Try.pinned (OpenSpec.ofChange fieldSmallSpec)

/-- ITS FALSE NEIGHBOUR: 'it returns false'. Refute it at one input. -/
def fieldSmallWrong : ChangeSpec := { name := "fieldSmall", fn := fun _ => fun
  | [d1, d2, d3, d4] => { results := [.lit (.bool false)], args := [d1, d2, d3, d4] }
  | _ => none }
def FieldSmallWrongFalsely : Prop := fieldSmallRow.holds Try.pinned (OpenSpec.ofChange fieldSmallWrong)

/-- 'clapperlaw02.FieldBack': WHATEVER THE INPUT: true; the input reads as it did. -/
def fieldBackSpec : ChangeSpec := { name := "fieldBack", fn := fun _ => fun
  | [d1, d2] => { results := [.lit (.bool true)], args := [d1, d2] }
  | _ => none }
def fieldBackRow : OpenClaim := { program := "ytojjbcjndgekmaa", sum := "aa168fd64781921a6a243927b65b61d0b886b341ea18e75b6afd663134591f3e", func := "clapper/clapperlaw02.FieldBack", spec := "fieldBack", inPlace := ["math/bits.Add64", "math/bits.Sub64"], apart := false }
def FieldBackSaid : Prop := fieldBackRow.holds Try.pinned (OpenSpec.ofChange fieldBackSpec)

/-- ITS FALSE NEIGHBOUR: 'it returns false'. Refute it at one input. -/
def fieldBackWrong : ChangeSpec := { name := "fieldBack", fn := fun _ => fun
  | [d1, d2] => { results := [.lit (.bool false)], args := [d1, d2] }
  | _ => none }
def FieldBackWrongFalsely : Prop := fieldBackRow.holds Try.pinned (OpenSpec.ofChange fieldBackWrong)

/- THE SECOND FORM. 'bulk': how many values and letters a reading holds, each counted each time it is reached (what is shared counts as often as it is met; a slice's spare places count too). A statement '..UptoSaid' is the law's where the arguments, and the package variables that the reading takes, are together of bulk at most 1048576: NARROWER than '..Said'. Prove '..Said' where nothing that the law and all that it calls make is longer than what came in: it says more and counts as full. Else prove '..UptoSaid'. A law counts once. -/
mutual
def uptoBulk {H : Type} : DataW H → Nat
  | .lit (.string bytes) => bytes.length + 1
  | .lit _ => 1
  | .nil => 1
  | .ptr d => uptoBulk d + 1
  | .slice elems spare => uptoBulkAll elems + uptoBulkAll spare + 1
  | .agg parts => uptoBulkAll parts + 1
  | .iface _ d => uptoBulk d + 1
  | .map entries => uptoBulkEntries entries + 1
  | .held _ => 1
def uptoBulkAll {H : Type} : List (DataW H) → Nat
  | [] => 0
  | d :: r => uptoBulk d + uptoBulkAll r
def uptoBulkEntries {H : Type} : List (Lit × DataW H) → Nat
  | [] => 0
  | x :: r => uptoBulkEntry x + uptoBulkEntries r
def uptoBulkEntry {H : Type} : Lit × DataW H → Nat
  | (.string bytes, d) => bytes.length + uptoBulk d + 1
  | (_, d) => uptoBulk d + 1
 end
def uptoSmall : (H : Type) → List (DataW H) → Bool := fun _ ds => decide (uptoBulkAll ds ≤ 1048576)
def OpenSpec.upto (s : _root_.Go.ChangeSpec) : _root_.Go.OpenSpec := { _root_.Go.OpenSpec.ofChange s with cond := some uptoSmall }

/-- 'clapperlaw02.FieldInverses', WHERE WHAT IT READS IS OF BULK AT MOST 1048576: true; the input reads as it did. -/
def fieldInversesUptoRow : OpenClaim := { program := "ytojjbcjndgekmaa", sum := "aa168fd64781921a6a243927b65b61d0b886b341ea18e75b6afd663134591f3e", func := "clapper/clapperlaw02.FieldInverses", spec := "fieldInverses", inPlace := ["math/bits.Add64", "math/bits.Sub64"], recurses := true, apart := false, narrowed := true }
def FieldInversesUptoSaid : Prop := fieldInversesUptoRow.holds Try.pinned (OpenSpec.upto fieldInversesSpec)

/-- 'clapperlaw02.FieldMakes', WHERE WHAT IT READS IS OF BULK AT MOST 1048576: true; the input reads as it did. -/
def fieldMakesUptoRow : OpenClaim := { program := "ytojjbcjndgekmaa", sum := "aa168fd64781921a6a243927b65b61d0b886b341ea18e75b6afd663134591f3e", func := "clapper/clapperlaw02.FieldMakes", spec := "fieldMakes", inPlace := ["math/bits.Add64", "math/bits.Sub64"], recurses := true, apart := false, narrowed := true }
def FieldMakesUptoSaid : Prop := fieldMakesUptoRow.holds Try.pinned (OpenSpec.upto fieldMakesSpec)

/-- 'clapperlaw02.FieldSums', WHERE WHAT IT READS IS OF BULK AT MOST 1048576: true; the input reads as it did. -/
def fieldSumsUptoRow : OpenClaim := { program := "ytojjbcjndgekmaa", sum := "aa168fd64781921a6a243927b65b61d0b886b341ea18e75b6afd663134591f3e", func := "clapper/clapperlaw02.FieldSums", spec := "fieldSums", inPlace := ["math/bits.Add64", "math/bits.Sub64"], recurses := true, apart := false, narrowed := true }
def FieldSumsUptoSaid : Prop := fieldSumsUptoRow.holds Try.pinned (OpenSpec.upto fieldSumsSpec)

/-- 'clapperlaw02.FieldRing', WHERE WHAT IT READS IS OF BULK AT MOST 1048576: true; the input reads as it did. -/
def fieldRingUptoRow : OpenClaim := { program := "ytojjbcjndgekmaa", sum := "aa168fd64781921a6a243927b65b61d0b886b341ea18e75b6afd663134591f3e", func := "clapper/clapperlaw02.FieldRing", spec := "fieldRing", inPlace := ["math/bits.Add64", "math/bits.Sub64"], apart := false, narrowed := true }
def FieldRingUptoSaid : Prop := fieldRingUptoRow.holds Try.pinned (OpenSpec.upto fieldRingSpec)

/-- 'clapperlaw02.FieldPowers', WHERE WHAT IT READS IS OF BULK AT MOST 1048576: true; the input reads as it did. -/
def fieldPowersUptoRow : OpenClaim := { program := "ytojjbcjndgekmaa", sum := "aa168fd64781921a6a243927b65b61d0b886b341ea18e75b6afd663134591f3e", func := "clapper/clapperlaw02.FieldPowers", spec := "fieldPowers", inPlace := ["math/bits.Add64", "math/bits.Sub64"], recurses := true, apart := false, narrowed := true }
def FieldPowersUptoSaid : Prop := fieldPowersUptoRow.holds Try.pinned (OpenSpec.upto fieldPowersSpec)

/-- 'clapperlaw02.FieldSmall', WHERE WHAT IT READS IS OF BULK AT MOST 1048576: true; the input reads as it did. -/
def fieldSmallUptoRow : OpenClaim := { program := "ytojjbcjndgekmaa", sum := "aa168fd64781921a6a243927b65b61d0b886b341ea18e75b6afd663134591f3e", func := "clapper/clapperlaw02.FieldSmall", spec := "fieldSmall", inPlace := ["math/bits.Add64", "math/bits.Sub64"], apart := false, narrowed := true }
def FieldSmallUptoSaid : Prop := fieldSmallUptoRow.holds Try.pinned (OpenSpec.upto fieldSmallSpec)

/-- 'clapperlaw02.FieldBack', WHERE WHAT IT READS IS OF BULK AT MOST 1048576: true; the input reads as it did. -/
def fieldBackUptoRow : OpenClaim := { program := "ytojjbcjndgekmaa", sum := "aa168fd64781921a6a243927b65b61d0b886b341ea18e75b6afd663134591f3e", func := "clapper/clapperlaw02.FieldBack", spec := "fieldBack", inPlace := ["math/bits.Add64", "math/bits.Sub64"], apart := false, narrowed := true }
def FieldBackUptoSaid : Prop := fieldBackUptoRow.holds Try.pinned (OpenSpec.upto fieldBackSpec)

end Rows
end Go.Proofs.Ytojjbcjndgekmaa
