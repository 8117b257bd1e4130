/- What this claim needs of the words that the print laid, picked out of its texts by a program of this session (prune.py). -/
import Derived.Test.YtgldplkbacfacaaWWords
namespace Go.Proofs.YtgldplkbacfacaaW.PrintWords
open Go.RowKit
section
variable {P : Program} {ops : Array Oper} {rest : List Oper} {o : Oper} {a : Act} {Q : Exit → Act → World → Prop} {W : World}
end
end Go.Proofs.YtgldplkbacfacaaW.PrintWords
