-- Laid by a program of the session (mkprint2.py): the kit's printer, and contracts by hand among what it prints.
import Derived.Test.YtkaeoeebagndaaaPRevokeBothx0
import Derived.Test.YtkaeoeebagndaaaPRevokeBothx1
import Derived.Test.YtkaeoeebagndaaaPRevokeBothx2
import Derived.Test.YtkaeoeebagndaaaPRevokeBothx3
import Derived.Test.YtkaeoeebagndaaaPRevokeBothx4
import Derived.Test.YtkaeoeebagndaaaPRevokeBothx5
import Derived.Test.YtkaeoeebagndaaaPRevokeBothx6
import Derived.Test.YtkaeoeebagndaaaPRevokeBothx7
namespace Go.Proofs.Ytkaeoeebagndaaa.PRevokeBoth
open Go.RowKit Go.Proofs.YtkaeoeebagndaaaW.PrintWords Go.Proofs.YtkaeoeebagndaaaW.PrintLast Go.Proofs.YtkaeoeebagndaaaW.PrintMore
attribute [local go_sem] max2_int min2_int max_two min_two max_three min_three max_four min_four   -- for this text's walks alone
set_option linter.unusedVariables false
set_option linter.unusedSimpArgs false

end Go.Proofs.Ytkaeoeebagndaaa.PRevokeBoth
