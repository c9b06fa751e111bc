-- Laid by this session's own printer (wip/xprint.py): each Go function that the law reaches as a plain Lean function, and that the call comes to it.
import Derived.Test.YtglekonhdjploaaXImageKeepsx0
import Derived.Test.YtglekonhdjploaaXImageKeepsx1
import Derived.Test.YtglekonhdjploaaXImageKeepsx2
import Derived.Test.YtglekonhdjploaaXImageKeepsx3
import Derived.Test.YtglekonhdjploaaXImageKeepsx4
import Derived.Test.YtglekonhdjploaaXImageKeepsx5
import Derived.Test.YtglekonhdjploaaXImageKeepsx6
import Derived.Test.YtglekonhdjploaaXImageKeepsx7
import Derived.Test.YtglekonhdjploaaXImageKeepsx8
import Derived.Test.YtglekonhdjploaaXImageKeepsx9
import Derived.Test.YtglekonhdjploaaXImageKeepsx10
import Derived.Test.YtglekonhdjploaaXImageKeepsx11
import Derived.Test.YtglekonhdjploaaXImageKeepsx12
import Derived.Test.YtglekonhdjploaaXImageKeepsx13
namespace Go.Proofs.Ytglekonhdjploaa.XImageKeeps
open Go.RowKit Go.Proofs.YtglekonhdjploaaW.PrintWords Go.Proofs.YtglekonhdjploaaW.PrintLast Go.Proofs.YtglekonhdjploaaW.PrintMore
attribute [local go_sem] max2_int min2_int max_two min_two max_three min_three max_four min_four   -- for this text's walks alone
set_option linter.unusedVariables false
set_option linter.unusedSimpArgs false

end Go.Proofs.Ytglekonhdjploaa.XImageKeeps
