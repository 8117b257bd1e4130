/- Functions of the program as Lean functions, and the proof that the code comes to what they say. Written by a program of this session (myprint.py). -/
import Derived.Test.YtdnkpfmcpalojaaProg
import Derived.Below
import Derived.Deep.Draws
import Derived.Deep.AppendLies
import Derived.Maps.AppendAt
import Derived.OwnWalk
import Derived.Laws.BytesArg
import Derived.Laws.MakeOwn
import Derived.Laws.OwnMore
import Derived.Deep.OwnRows
import Derived.Tactics
import Derived.Lib.ConvBytes
import Derived.Laws.Slices
import Derived.WalkKit
import Derived.KernelRfl
import Derived.RowKit3
import Derived.Deep.LoopGhost
import Derived.Deep.QuietTactic
import Derived.BigQuiet
import Derived.WideLaws
import Derived.Deep.DeepCutAuto
import Derived.Deep.CutBlock
import Derived.Deep.RegionHeld3
import Derived.Laws.Rows
import Derived.Lib.AppendStr
import Derived.ArgAppend
import Derived.Laws.IdiomCopy
import Derived.OrdersHeld
import Derived.Laws.BitsLemmas
import Derived.RowKit
import Derived.ChangeKeysEq
import Derived.Test.YtdnkpfmcpalojaaWWords
import Derived.Test.YtdnkpfmcpalojaaWLast
import Derived.Test.YtdnkpfmcpalojaaWTab
import Derived.Test.YtdnkpfmcpalojaaWFour
import Derived.Test.YtdnkpfmcpalojaaWQPut
import Derived.Test.YtdnkpfmcpalojaaWApart
import Derived.Test.YtdnkpfmcpalojaaWArr
import Derived.Test.YtdnkpfmcpalojaaWZeros
import Derived.Test.YtdnkpfmcpalojaaWFoot
import Derived.Test.YtdnkpfmcpalojaaWKept
import Derived.Test.YtdnkpfmcpalojaaWShare
import Derived.Test.YtdnkpfmcpalojaaWN
import Derived.Test.YtdnkpfmcpalojaaWFootNe
import Derived.Test.YtdnkpfmcpalojaaWAt
import Derived.Test.YtdnkpfmcpalojaaWEqStruct
import Derived.Test.YtdnkpfmcpalojaaWRepsOne
import Derived.Test.YtdnkpfmcpalojaaWInv
import Derived.Test.YtdnkpfmcpalojaaWInvWords
import Derived.Test.YtdnkpfmcpalojaaWGuard
import Derived.Test.YtdnkpfmcpalojaaWNEv
import Derived.Test.YtdnkpfmcpalojaaWMore
import Derived.Test.YtdnkpfmcpalojaaMOpen
namespace Go.Proofs.Ytdnkpfmcpalojaa.MFnExactCompareTerms
open Go.RowKit Go.Proofs.Ytdnkpfmcpalojaa.MOpen Go.Proofs.YtdnkpfmcpalojaaW.PrintWords Go.Proofs.YtdnkpfmcpalojaaW.PrintLast Go.Proofs.YtdnkpfmcpalojaaW.PrintMore
attribute [local go_sem] max2_int min2_int max_two min_two max_three min_three max_four min_four   -- for this text's walks alone
set_option linter.unusedVariables false
set_option linter.unusedSimpArgs false



def errW : Option Int → Value
  | none => .nilIface
  | some c => .iface 0 (.int .i64 c)
theorem errW_none : errW none = .nilIface := rfl
theorem errW_some (c : Int) : errW (some c) = .iface 0 (.int .i64 c) := rfl

theorem info2 : (Try.prog.info? 2).map (fun i => (i.zero, i.size, i.bytes)) = some (some (.int .i64 0), 1, 8) := by kernel_rfl
-- the values' own types

end Go.Proofs.Ytdnkpfmcpalojaa.MFnExactCompareTerms
