-- Laid by this session's own printer (wip/xprint.py): each Go function that the law reaches as a plain Lean function, and that the call comes to it.
import Derived.Test.YtfgggmojdefidaaXCodeCutx0
import Derived.Test.YtfgggmojdefidaaXCodeCutx1
import Derived.Test.YtfgggmojdefidaaXCodeCutx2
import Derived.Test.YtfgggmojdefidaaXCodeCutx3
import Derived.Test.YtfgggmojdefidaaXCodeCutx4
import Derived.Test.YtfgggmojdefidaaXCodeCutx5
namespace Go.Proofs.Ytfgggmojdefidaa.XCodeCut
open Go.RowKit Go.Proofs.YtfgggmojdefidaaW.PrintWords Go.Proofs.YtfgggmojdefidaaW.PrintLast Go.Proofs.YtfgggmojdefidaaW.PrintMore
attribute [local go_sem] max2_int min2_int max_two min_two max_three min_three max_four min_four   -- for this text's walks alone
set_option linter.unusedVariables false
set_option linter.unusedSimpArgs false

end Go.Proofs.Ytfgggmojdefidaa.XCodeCut
