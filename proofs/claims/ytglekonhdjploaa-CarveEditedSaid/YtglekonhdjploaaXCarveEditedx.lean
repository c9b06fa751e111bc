-- Laid by this session's own printer (wip/xprint.py): each Go function that the law reaches as a plain Lean function, and that the call comes to it.
import Derived.Test.YtglekonhdjploaaXCarveEditedx0
import Derived.Test.YtglekonhdjploaaXCarveEditedx1
import Derived.Test.YtglekonhdjploaaXCarveEditedx2
import Derived.Test.YtglekonhdjploaaXCarveEditedx3
import Derived.Test.YtglekonhdjploaaXCarveEditedx4
import Derived.Test.YtglekonhdjploaaXCarveEditedx5
import Derived.Test.YtglekonhdjploaaXCarveEditedx6
import Derived.Test.YtglekonhdjploaaXCarveEditedx7
namespace Go.Proofs.Ytglekonhdjploaa.XCarveEdited
open Go.RowKit Go.Proofs.YtglekonhdjploaaW.PrintWords Go.Proofs.YtglekonhdjploaaW.PrintLast Go.Proofs.YtglekonhdjploaaW.PrintMore
attribute [local go_sem] max2_int min2_int max_two min_two max_three min_three max_four min_four   -- for this text's walks alone
set_option linter.unusedVariables false
set_option linter.unusedSimpArgs false

end Go.Proofs.Ytglekonhdjploaa.XCarveEdited
