/- What this claim needs of the words that the print laid, picked out of its texts by a program of this session (prune.py). -/
import Derived.Test.YtgldplkbacfacaaWTab
namespace Go.Proofs.YtgldplkbacfacaaW.PrintLast
section
variable {P : Program} {ops : Array Oper} {Q : Exit → Act → World → Prop} {md : Region.Mode} {S : World → Prop} {ds : List Nat} {T : Bool × List (List Nat × List Nat)}
end
end Go.Proofs.YtgldplkbacfacaaW.PrintLast
