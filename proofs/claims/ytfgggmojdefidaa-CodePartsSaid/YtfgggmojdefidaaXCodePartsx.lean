-- Laid by this session's own printer (wip/xprint.py): each Go function that the law reaches as a plain Lean function, and that the call comes to it.
import Derived.Test.YtfgggmojdefidaaXCodePartsx0
import Derived.Test.YtfgggmojdefidaaXCodePartsx1
import Derived.Test.YtfgggmojdefidaaXCodePartsx2
import Derived.Test.YtfgggmojdefidaaXCodePartsx3
import Derived.Test.YtfgggmojdefidaaXCodePartsx4
import Derived.Test.YtfgggmojdefidaaXCodePartsx5
import Derived.Test.YtfgggmojdefidaaXCodePartsx6
import Derived.Test.YtfgggmojdefidaaXCodePartsx7
import Derived.Test.YtfgggmojdefidaaXCodePartsx8
import Derived.Test.YtfgggmojdefidaaXCodePartsx9
namespace Go.Proofs.Ytfgggmojdefidaa.XCodeParts
open Go.RowKit Go.Proofs.YtfgggmojdefidaaW.PrintWords Go.Proofs.YtfgggmojdefidaaW.PrintLast Go.Proofs.YtfgggmojdefidaaW.PrintMore
attribute [local go_sem] max2_int min2_int max_two min_two max_three min_three max_four min_four   -- for this text's walks alone
set_option linter.unusedVariables false
set_option linter.unusedSimpArgs false

end Go.Proofs.Ytfgggmojdefidaa.XCodeParts
