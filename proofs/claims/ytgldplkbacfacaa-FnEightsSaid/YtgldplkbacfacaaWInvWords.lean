/- What this claim needs of the words that the print laid, picked out of its texts by a program of this session (prune.py). -/
import Derived.Test.YtgldplkbacfacaaWInv
import Derived.Test.YtgldplkbacfacaaWFootNe
namespace Go.Proofs.YtgldplkbacfacaaW.PrintWords
open Go.RowKit
end Go.Proofs.YtgldplkbacfacaaW.PrintWords
namespace Go.Proofs.YtgldplkbacfacaaW.PrintLast
section
variable {ops : Array Oper} {a : Act} {o og : Oper} {g : Nat} {t : Tmp} {u : Bool}
end
end Go.Proofs.YtgldplkbacfacaaW.PrintLast
