/- What this claim needs of the words that the print laid, picked out of its texts by a program of this session (prune.py). -/
import Derived.Test.YtgldplkbacfacaaWN
namespace Go.Proofs.YtgldplkbacfacaaW.PrintWords
open Go.RowKit
namespace Kd
section
variable {α : Type} {d : Kd α} {W : World} {g n : Nat} {S ok : Nat → Prop} {A : Option Addr} {ad : Addr} {xs : List α}
end
end Kd
end Go.Proofs.YtgldplkbacfacaaW.PrintWords
