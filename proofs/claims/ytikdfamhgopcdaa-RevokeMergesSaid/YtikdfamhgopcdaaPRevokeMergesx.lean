-- Laid by a program of the session (mkprint2.py): the kit's printer, and contracts by hand among what it prints.
import Derived.Test.YtikdfamhgopcdaaPRevokeMergesx0
import Derived.Test.YtikdfamhgopcdaaPRevokeMergesx1
import Derived.Test.YtikdfamhgopcdaaPRevokeMergesx2
import Derived.Test.YtikdfamhgopcdaaPRevokeMergesx3
import Derived.Test.YtikdfamhgopcdaaPRevokeMergesx4
import Derived.Test.YtikdfamhgopcdaaPRevokeMergesx5
import Derived.Test.YtikdfamhgopcdaaPRevokeMergesx6
namespace Go.Proofs.Ytikdfamhgopcdaa.PRevokeMerges
open Go.RowKit Go.Proofs.YtikdfamhgopcdaaW.PrintWords Go.Proofs.YtikdfamhgopcdaaW.PrintLast Go.Proofs.YtikdfamhgopcdaaW.PrintMore
attribute [local go_sem] max2_int min2_int max_two min_two max_three min_three max_four min_four   -- for this text's walks alone
set_option linter.unusedVariables false
set_option linter.unusedSimpArgs false

end Go.Proofs.Ytikdfamhgopcdaa.PRevokeMerges
