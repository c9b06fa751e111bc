-- Laid by this session's own printer (wip/xprint.py): each Go function that the law reaches as a plain Lean function, and that the call comes to it.
import Derived.Test.YtjmlbkbjmeeplabXGuardFormsx0
import Derived.Test.YtjmlbkbjmeeplabXGuardFormsx1
import Derived.Test.YtjmlbkbjmeeplabXGuardFormsx2
import Derived.Test.YtjmlbkbjmeeplabXGuardFormsx3
namespace Go.Proofs.Ytjmlbkbjmeeplab.XGuardForms
open Go.RowKit Go.Proofs.YtjmlbkbjmeeplabW.PrintWords Go.Proofs.YtjmlbkbjmeeplabW.PrintLast Go.Proofs.YtjmlbkbjmeeplabW.PrintMore
attribute [local go_sem] max2_int min2_int max_two min_two max_three min_three max_four min_four   -- for this text's walks alone
set_option linter.unusedVariables false
set_option linter.unusedSimpArgs false

end Go.Proofs.Ytjmlbkbjmeeplab.XGuardForms
