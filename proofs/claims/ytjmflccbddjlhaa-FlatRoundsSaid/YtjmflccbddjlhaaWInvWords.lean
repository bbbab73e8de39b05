import Derived.Test.YtjmflccbddjlhaaWInv
import Derived.Test.YtjmflccbddjlhaaWFootNe
namespace Go.Proofs.YtjmflccbddjlhaaW.PrintWords
open Go.RowKit
end Go.Proofs.YtjmflccbddjlhaaW.PrintWords
namespace Go.Proofs.YtjmflccbddjlhaaW.PrintLast
section
variable {ops : Array Oper} {a : Act} {o og : Oper} {g : Nat} {t : Tmp} {u : Bool}
end
end Go.Proofs.YtjmflccbddjlhaaW.PrintLast
