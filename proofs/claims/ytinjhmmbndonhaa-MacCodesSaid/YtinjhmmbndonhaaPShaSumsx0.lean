-- Laid by a program of the session (mkprint2.py): the kit's printer, and contracts by hand among what it prints.
import Derived.Test.YtinjhmmbndonhaaProg
import Derived.Below
import Derived.Deep.Draws
import Derived.Deep.AppendLies
import Derived.Maps.AppendAt
import Derived.OwnWalk
import Derived.Laws.BytesArg
import Derived.Laws.MakeOwn
import Derived.Laws.OwnMore
import Derived.Deep.OwnRows
import Derived.Tactics
import Derived.Lib.ConvBytes
import Derived.Laws.Slices
import Derived.WalkKit
import Derived.KernelRfl
import Derived.RowKit3
import Derived.Deep.LoopGhost
import Derived.Deep.QuietTactic
import Derived.BigQuiet
import Derived.WideLaws
import Derived.Deep.DeepCutAuto
import Derived.Deep.CutBlock
import Derived.Deep.RegionHeld3
import Derived.Laws.Rows
import Derived.Lib.AppendStr
import Derived.ArgAppend
import Derived.Laws.IdiomCopy
import Derived.OrdersHeld
import Derived.Laws.BitsLemmas
import Derived.LaidEql
import Derived.WalkSpells
import Derived.Lib.SlBytesConst
import Derived.RowKit
import Derived.Test.YtinjhmmbndonhaaWWords
import Derived.Test.YtinjhmmbndonhaaWLast
import Derived.Test.YtinjhmmbndonhaaWTab
import Derived.Test.YtinjhmmbndonhaaWFour
import Derived.Test.YtinjhmmbndonhaaWQPut
import Derived.Test.YtinjhmmbndonhaaWApart
import Derived.Test.YtinjhmmbndonhaaWArr
import Derived.Test.YtinjhmmbndonhaaWZeros
import Derived.Test.YtinjhmmbndonhaaWFoot
import Derived.Test.YtinjhmmbndonhaaWKept
import Derived.Test.YtinjhmmbndonhaaWShare
import Derived.Test.YtinjhmmbndonhaaWN
import Derived.Test.YtinjhmmbndonhaaWFootNe
import Derived.Test.YtinjhmmbndonhaaWAt
import Derived.Test.YtinjhmmbndonhaaWEqStruct
import Derived.Test.YtinjhmmbndonhaaWRepsOne
import Derived.Test.YtinjhmmbndonhaaWInv
import Derived.Test.YtinjhmmbndonhaaWInvWords
import Derived.Test.YtinjhmmbndonhaaWGuard
import Derived.Test.YtinjhmmbndonhaaWNEv
import Derived.Test.YtinjhmmbndonhaaWMore
namespace Go.Proofs.Ytinjhmmbndonhaa.PShaSums
open Go.RowKit Go.Proofs.YtinjhmmbndonhaaW.PrintWords Go.Proofs.YtinjhmmbndonhaaW.PrintLast Go.Proofs.YtinjhmmbndonhaaW.PrintMore
attribute [local go_sem] max2_int min2_int max_two min_two max_three min_three max_four min_four   -- for this text's walks alone
set_option linter.unusedVariables false
set_option linter.unusedSimpArgs false



def errW : Option Int → Value
  | none => .nilIface
  | some c => .iface 0 (.int .i64 c)
theorem errW_none : errW none = .nilIface := rfl
theorem errW_some (c : Int) : errW (some c) = .iface 0 (.int .i64 c) := rfl

theorem info44 : (Try.prog.info? 44).map (fun i => (i.zero, i.size, i.bytes)) = some (some (.int .u32 0), 1, 4) := by kernel_rfl
-- the values' own types

end Go.Proofs.Ytinjhmmbndonhaa.PShaSums
