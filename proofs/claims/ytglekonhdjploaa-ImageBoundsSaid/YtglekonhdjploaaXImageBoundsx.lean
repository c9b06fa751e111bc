-- Laid by this session's own printer (wip/xprint.py): each Go function that the law reaches as a plain Lean function, and that the call comes to it.
import Derived.Test.YtglekonhdjploaaXImageBoundsx0
import Derived.Test.YtglekonhdjploaaXImageBoundsx1
import Derived.Test.YtglekonhdjploaaXImageBoundsx2
import Derived.Test.YtglekonhdjploaaXImageBoundsx3
import Derived.Test.YtglekonhdjploaaXImageBoundsx4
import Derived.Test.YtglekonhdjploaaXImageBoundsx5
import Derived.Test.YtglekonhdjploaaXImageBoundsx6
import Derived.Test.YtglekonhdjploaaXImageBoundsx7
import Derived.Test.YtglekonhdjploaaXImageBoundsx8
namespace Go.Proofs.Ytglekonhdjploaa.XImageBounds
open Go.RowKit Go.Proofs.YtglekonhdjploaaW.PrintWords Go.Proofs.YtglekonhdjploaaW.PrintLast Go.Proofs.YtglekonhdjploaaW.PrintMore
attribute [local go_sem] max2_int min2_int max_two min_two max_three min_three max_four min_four   -- for this text's walks alone
set_option linter.unusedVariables false
set_option linter.unusedSimpArgs false

end Go.Proofs.Ytglekonhdjploaa.XImageBounds
