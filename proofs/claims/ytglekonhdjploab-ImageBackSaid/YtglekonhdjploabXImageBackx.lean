-- Laid by this session's own printer (wip/xprint.py): each Go function that the law reaches as a plain Lean function, and that the call comes to it.
import Derived.Test.YtglekonhdjploabXImageBackx0
import Derived.Test.YtglekonhdjploabXImageBackx1
import Derived.Test.YtglekonhdjploabXImageBackx2
import Derived.Test.YtglekonhdjploabXImageBackx3
import Derived.Test.YtglekonhdjploabXImageBackx4
import Derived.Test.YtglekonhdjploabXImageBackx5
import Derived.Test.YtglekonhdjploabXImageBackx6
import Derived.Test.YtglekonhdjploabXImageBackx7
import Derived.Test.YtglekonhdjploabXImageBackx8
import Derived.Test.YtglekonhdjploabXImageBackx9
import Derived.Test.YtglekonhdjploabXImageBackx10
import Derived.Test.YtglekonhdjploabXImageBackx11
import Derived.Test.YtglekonhdjploabXImageBackx12
import Derived.Test.YtglekonhdjploabXImageBackx13
import Derived.Test.YtglekonhdjploabXImageBackx14
namespace Go.Proofs.Ytglekonhdjploab.XImageBack
open Go.RowKit Go.Proofs.YtglekonhdjploabW.PrintWords Go.Proofs.YtglekonhdjploabW.PrintLast Go.Proofs.YtglekonhdjploabW.PrintMore
attribute [local go_sem] max2_int min2_int max_two min_two max_three min_three max_four min_four   -- for this text's walks alone
set_option linter.unusedVariables false
set_option linter.unusedSimpArgs false

end Go.Proofs.Ytglekonhdjploab.XImageBack
