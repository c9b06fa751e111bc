-- Laid by this session's own printer (wip/xprint.py): each Go function that the law reaches as a plain Lean function, and that the call comes to it.
import Derived.Test.YtfgggmojdefidaaXCodeEachx0
import Derived.Test.YtfgggmojdefidaaXCodeEachx1
import Derived.Test.YtfgggmojdefidaaXCodeEachx2
import Derived.Test.YtfgggmojdefidaaXCodeEachx3
import Derived.Test.YtfgggmojdefidaaXCodeEachx4
import Derived.Test.YtfgggmojdefidaaXCodeEachx5
import Derived.Test.YtfgggmojdefidaaXCodeEachx6
import Derived.Test.YtfgggmojdefidaaXCodeEachx7
import Derived.Test.YtfgggmojdefidaaXCodeEachx8
namespace Go.Proofs.Ytfgggmojdefidaa.XCodeEach
open Go.RowKit Go.Proofs.YtfgggmojdefidaaW.PrintWords Go.Proofs.YtfgggmojdefidaaW.PrintLast Go.Proofs.YtfgggmojdefidaaW.PrintMore
attribute [local go_sem] max2_int min2_int max_two min_two max_three min_three max_four min_four   -- for this text's walks alone
set_option linter.unusedVariables false
set_option linter.unusedSimpArgs false

end Go.Proofs.Ytfgggmojdefidaa.XCodeEach
