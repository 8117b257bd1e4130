/- What this claim needs of the words that the print laid, picked out of its texts by a program of this session (prune.py). -/
import Derived.Test.YtgldplkbacfacaaWWords
import Derived.Test.YtgldplkbacfacaaWLast
namespace Go.Proofs.YtgldplkbacfacaaW.PrintWords
open Go.RowKit
namespace Kd
section
variable {α : Type} {d : Kd α} {e base g o n cap : Nat} {ok okp : Nat → Prop} {w W : World} {v : Value} {xs : List α}
end
section
variable {α : Type} {enc : α → Value} {h1 : ∀ x, (enc x).oneCell' = true} {e base g o n cap : Nat} {ok : Nat → Prop} {W : World} {xs : List α}
end
end Kd
end Go.Proofs.YtgldplkbacfacaaW.PrintWords
