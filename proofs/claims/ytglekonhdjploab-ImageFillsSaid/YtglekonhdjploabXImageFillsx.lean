-- Laid by this session's own printer (wip/xprint.py): each Go function that the law reaches as a plain Lean function, and that the call comes to it.
import Derived.Test.YtglekonhdjploabXImageFillsx0
import Derived.Test.YtglekonhdjploabXImageFillsx1
import Derived.Test.YtglekonhdjploabXImageFillsx2
import Derived.Test.YtglekonhdjploabXImageFillsx3
import Derived.Test.YtglekonhdjploabXImageFillsx4
import Derived.Test.YtglekonhdjploabXImageFillsx5
import Derived.Test.YtglekonhdjploabXImageFillsx6
import Derived.Test.YtglekonhdjploabXImageFillsx7
import Derived.Test.YtglekonhdjploabXImageFillsx8
import Derived.Test.YtglekonhdjploabXImageFillsx9
import Derived.Test.YtglekonhdjploabXImageFillsx10
import Derived.Test.YtglekonhdjploabXImageFillsx11
namespace Go.Proofs.Ytglekonhdjploab.XImageFills
open Go.RowKit Go.Proofs.YtglekonhdjploabW.PrintWords Go.Proofs.YtglekonhdjploabW.PrintLast Go.Proofs.YtglekonhdjploabW.PrintMore
attribute [local go_sem] max2_int min2_int max_two min_two max_three min_three max_four min_four   -- for this text's walks alone
set_option linter.unusedVariables false
set_option linter.unusedSimpArgs false

end Go.Proofs.Ytglekonhdjploab.XImageFills
