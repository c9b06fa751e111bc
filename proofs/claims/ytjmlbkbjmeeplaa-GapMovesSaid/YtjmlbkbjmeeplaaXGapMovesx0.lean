-- Laid by this session's own printer (wip/xprint.py): each Go function that the law reaches as a plain Lean function, and that the call comes to it.
import Derived.Test.YtjmlbkbjmeeplaaProg
import Derived.Below
import Derived.Deep.Draws
import Derived.Deep.AppendLies
import Derived.Maps.AppendAt
import Derived.OwnWalk
import Derived.Laws.BytesArg
import Derived.Laws.MakeOwn
import Derived.Laws.OwnMore
import Derived.Deep.OwnRows
import Derived.Tactics
import Derived.Lib.ConvBytes
import Derived.Laws.Slices
import Derived.WalkKit
import Derived.KernelRfl
import Derived.RowKit3
import Derived.Deep.LoopGhost
import Derived.Deep.QuietTactic
import Derived.BigQuiet
import Derived.WideLaws
import Derived.Deep.DeepCutAuto
import Derived.Deep.CutBlock
import Derived.Deep.RegionHeld3
import Derived.Laws.Rows
import Derived.Lib.AppendStr
import Derived.ArgAppend
import Derived.Laws.IdiomCopy
import Derived.OrdersHeld
import Derived.Laws.BitsLemmas
import Derived.RowKit
import Derived.Maps.OwnOps
import Derived.WalkSpells
import Derived.Lib.Hide
import Derived.Test.YtjmlbkbjmeeplaaWWords
import Derived.Test.YtjmlbkbjmeeplaaWLast
import Derived.Test.YtjmlbkbjmeeplaaWTab
import Derived.Test.YtjmlbkbjmeeplaaWFour
import Derived.Test.YtjmlbkbjmeeplaaWQPut
import Derived.Test.YtjmlbkbjmeeplaaWApart
import Derived.Test.YtjmlbkbjmeeplaaWArr
import Derived.Test.YtjmlbkbjmeeplaaWZeros
import Derived.Test.YtjmlbkbjmeeplaaWFoot
import Derived.Test.YtjmlbkbjmeeplaaWKept
import Derived.Test.YtjmlbkbjmeeplaaWShare
import Derived.Test.YtjmlbkbjmeeplaaWN
import Derived.Test.YtjmlbkbjmeeplaaWFootNe
import Derived.Test.YtjmlbkbjmeeplaaWAt
import Derived.Test.YtjmlbkbjmeeplaaWEqStruct
import Derived.Test.YtjmlbkbjmeeplaaWRepsOne
import Derived.Test.YtjmlbkbjmeeplaaWInv
import Derived.Test.YtjmlbkbjmeeplaaWInvWords
import Derived.Test.YtjmlbkbjmeeplaaWGuard
import Derived.Test.YtjmlbkbjmeeplaaWNEv
import Derived.Test.YtjmlbkbjmeeplaaWMore
namespace Go.Proofs.Ytjmlbkbjmeeplaa.XGapMoves
open Go.RowKit Go.Proofs.YtjmlbkbjmeeplaaW.PrintWords Go.Proofs.YtjmlbkbjmeeplaaW.PrintLast Go.Proofs.YtjmlbkbjmeeplaaW.PrintMore
attribute [local go_sem] max2_int min2_int max_two min_two max_three min_three max_four min_four   -- for this text's walks alone
set_option linter.unusedVariables false
set_option linter.unusedSimpArgs false



def errW : Option Int → Value
  | none => .nilIface
  | some c => .iface 0 (.int .i64 c)
theorem errW_none : errW none = .nilIface := rfl
theorem errW_some (c : Int) : errW (some c) = .iface 0 (.int .i64 c) := rfl

-- the values' own types

/-- What is done in a region: the first k of n operations. -/
def onA (n k : Nat) : Array Bool := ((List.range n).map (fun i => decide (i < k))).toArray
abbrev tt_ : Bool := true
abbrev ff_ : Bool := false

end Go.Proofs.Ytjmlbkbjmeeplaa.XGapMoves
