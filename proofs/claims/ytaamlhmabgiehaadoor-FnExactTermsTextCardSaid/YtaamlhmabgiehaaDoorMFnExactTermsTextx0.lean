/- Functions of the program as Lean functions, and the proof that the code comes to what they say. Written by a program of this session (myprint.py). -/
import Derived.Test.YtaamlhmabgiehaaDoorProg
import Derived.Below
import Derived.Deep.Draws
import Derived.Deep.AppendLies
import Derived.Maps.AppendAt
import Derived.OwnWalk
import Derived.Laws.BytesArg
import Derived.Laws.MakeOwn
import Derived.Laws.OwnMore
import Derived.Deep.OwnRows
import Derived.Tactics
import Derived.Lib.ConvBytes
import Derived.Laws.Slices
import Derived.WalkKit
import Derived.KernelRfl
import Derived.RowKit3
import Derived.Deep.LoopGhost
import Derived.Deep.QuietTactic
import Derived.BigQuiet
import Derived.WideLaws
import Derived.Deep.DeepCutAuto
import Derived.Deep.CutBlock
import Derived.Deep.RegionHeld3
import Derived.Laws.Rows
import Derived.Lib.AppendStr
import Derived.ArgAppend
import Derived.Laws.IdiomCopy
import Derived.OrdersHeld
import Derived.Laws.BitsLemmas
import Derived.RowKit
import Derived.ChangeKeysEq
import Derived.Test.YtaamlhmabgiehaaDoorTab
import Derived.Test.YtaamlhmabgiehaaDoorWWords
import Derived.Test.YtaamlhmabgiehaaDoorWLast
import Derived.Test.YtaamlhmabgiehaaDoorWTab
import Derived.Test.YtaamlhmabgiehaaDoorWFour
import Derived.Test.YtaamlhmabgiehaaDoorWQPut
import Derived.Test.YtaamlhmabgiehaaDoorWApart
import Derived.Test.YtaamlhmabgiehaaDoorWArr
import Derived.Test.YtaamlhmabgiehaaDoorWZeros
import Derived.Test.YtaamlhmabgiehaaDoorWFoot
import Derived.Test.YtaamlhmabgiehaaDoorWKept
import Derived.Test.YtaamlhmabgiehaaDoorWShare
import Derived.Test.YtaamlhmabgiehaaDoorWN
import Derived.Test.YtaamlhmabgiehaaDoorWFootNe
import Derived.Test.YtaamlhmabgiehaaDoorWAt
import Derived.Test.YtaamlhmabgiehaaDoorWEqStruct
import Derived.Test.YtaamlhmabgiehaaDoorWRepsOne
import Derived.Test.YtaamlhmabgiehaaDoorWInv
import Derived.Test.YtaamlhmabgiehaaDoorWInvWords
import Derived.Test.YtaamlhmabgiehaaDoorWGuard
import Derived.Test.YtaamlhmabgiehaaDoorWNEv
import Derived.Test.YtaamlhmabgiehaaDoorWMore
import Derived.Test.YtaamlhmabgiehaaDoorMOpen
namespace Go.Proofs.YtaamlhmabgiehaaDoor.MFnExactTermsText
open Go.RowKit Go.Proofs.YtaamlhmabgiehaaDoor.MOpen Go.Proofs.YtaamlhmabgiehaaDoorW.PrintWords Go.Proofs.YtaamlhmabgiehaaDoorW.PrintLast Go.Proofs.YtaamlhmabgiehaaDoorW.PrintMore
attribute [local go_sem] max2_int min2_int max_two min_two max_three min_three max_four min_four   -- for this text's walks alone
set_option linter.unusedVariables false
set_option linter.unusedSimpArgs false



def errW : Option Int → Value
  | none => .nilIface
  | some c => .iface 0 (.int .i64 c)
theorem errW_none : errW none = .nilIface := rfl
theorem errW_some (c : Int) : errW (some c) = .iface 0 (.int .i64 c) := rfl

theorem info2 : (Tryd.prog.info? 2).map (fun i => (i.zero, i.size, i.bytes)) = some (some (.int .i64 0), 1, 8) := by kernel_rfl
theorem info5 : (Tryd.prog.info? 5).map (fun i => (i.zero, i.size, i.bytes)) = some (some (.int .u8 0), 1, 1) := by kernel_rfl
-- the values' own types

end Go.Proofs.YtaamlhmabgiehaaDoor.MFnExactTermsText
