/- What the proof of RevokeTells is made of, part 14. -/
import Derived.Test.YtkaeoeebagndaaaZRevokeTells4
import Derived.Test.YtkaeoeebagndaaaZRevokeTells5
import Derived.Test.YtkaeoeebagndaaaZRevokeTells6
import Derived.Test.YtkaeoeebagndaaaZRevokeTells7
import Derived.Test.YtkaeoeebagndaaaZRevokeTells8
import Derived.Test.YtkaeoeebagndaaaZRevokeTells9
import Derived.Test.YtkaeoeebagndaaaZRevokeTells10
import Derived.Test.YtkaeoeebagndaaaZRevokeTells11
import Derived.Test.YtkaeoeebagndaaaZRevokeTells13
namespace Go.Proofs.Ytkaeoeebagndaaa.PRevokeTells
open Go.RowKit Go.Proofs.YtkaeoeebagndaaaW.PrintWords Go.Proofs.YtkaeoeebagndaaaW.PrintLast Go.Proofs.YtkaeoeebagndaaaW.PrintMore
attribute [local go_sem] max2_int min2_int max_two min_two max_three min_three max_four min_four   -- for this text's walks alone
set_option linter.unusedVariables false
set_option linter.unusedSimpArgs false
end Go.Proofs.Ytkaeoeebagndaaa.PRevokeTells
