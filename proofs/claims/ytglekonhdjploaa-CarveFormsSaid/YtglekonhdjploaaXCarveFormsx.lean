-- Laid by this session's own printer (wip/xprint.py): each Go function that the law reaches as a plain Lean function, and that the call comes to it.
import Derived.Test.YtglekonhdjploaaXCarveFormsx0
import Derived.Test.YtglekonhdjploaaXCarveFormsx1
import Derived.Test.YtglekonhdjploaaXCarveFormsx2
import Derived.Test.YtglekonhdjploaaXCarveFormsx3
import Derived.Test.YtglekonhdjploaaXCarveFormsx4
import Derived.Test.YtglekonhdjploaaXCarveFormsx5
import Derived.Test.YtglekonhdjploaaXCarveFormsx6
import Derived.Test.YtglekonhdjploaaXCarveFormsx7
import Derived.Test.YtglekonhdjploaaXCarveFormsx8
import Derived.Test.YtglekonhdjploaaXCarveFormsx9
namespace Go.Proofs.Ytglekonhdjploaa.XCarveForms
open Go.RowKit Go.Proofs.YtglekonhdjploaaW.PrintWords Go.Proofs.YtglekonhdjploaaW.PrintLast Go.Proofs.YtglekonhdjploaaW.PrintMore
attribute [local go_sem] max2_int min2_int max_two min_two max_three min_three max_four min_four   -- for this text's walks alone
set_option linter.unusedVariables false
set_option linter.unusedSimpArgs false

end Go.Proofs.Ytglekonhdjploaa.XCarveForms
