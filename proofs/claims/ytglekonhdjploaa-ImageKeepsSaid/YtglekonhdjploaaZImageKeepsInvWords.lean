import Derived.Test.YtglekonhdjploaaZImageKeepsInv
import Derived.Test.YtglekonhdjploaaZImageKeepsFootNe
namespace Go.Proofs.YtglekonhdjploaaW.PrintWords
open Go.RowKit
end Go.Proofs.YtglekonhdjploaaW.PrintWords
namespace Go.Proofs.YtglekonhdjploaaW.PrintLast
section
variable {ops : Array Oper} {a : Act} {o og : Oper} {g : Nat} {t : Tmp} {u : Bool}
end
end Go.Proofs.YtglekonhdjploaaW.PrintLast

