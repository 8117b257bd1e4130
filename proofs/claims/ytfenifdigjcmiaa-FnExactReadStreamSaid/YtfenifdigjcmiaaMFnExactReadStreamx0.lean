/- Functions of the program as Lean functions, and the proof that the code comes to what they say. Written by a program of this session (myprint.py). -/
import Derived.Test.YtfenifdigjcmiaaProg
import Derived.Below
import Derived.Deep.Draws
import Derived.Deep.AppendLies
import Derived.Maps.AppendAt
import Derived.OwnWalk
import Derived.Laws.BytesArg
import Derived.Laws.MakeOwn
import Derived.Laws.OwnMore
import Derived.Deep.OwnRows
import Derived.Tactics
import Derived.Lib.ConvBytes
import Derived.Laws.Slices
import Derived.WalkKit
import Derived.KernelRfl
import Derived.RowKit3
import Derived.Deep.LoopGhost
import Derived.Deep.QuietTactic
import Derived.BigQuiet
import Derived.WideLaws
import Derived.Deep.DeepCutAuto
import Derived.Deep.CutBlock
import Derived.Deep.RegionHeld3
import Derived.Laws.Rows
import Derived.Lib.AppendStr
import Derived.ArgAppend
import Derived.Laws.IdiomCopy
import Derived.OrdersHeld
import Derived.Laws.BitsLemmas
import Derived.RowKit
import Derived.ChangeKeysEq
import Derived.Lib.Bytealg
import Derived.Test.YtfenifdigjcmiaaWWords
import Derived.Test.YtfenifdigjcmiaaWLast
import Derived.Test.YtfenifdigjcmiaaWTab
import Derived.Test.YtfenifdigjcmiaaWFour
import Derived.Test.YtfenifdigjcmiaaWQPut
import Derived.Test.YtfenifdigjcmiaaWApart
import Derived.Test.YtfenifdigjcmiaaWArr
import Derived.Test.YtfenifdigjcmiaaWZeros
import Derived.Test.YtfenifdigjcmiaaWFoot
import Derived.Test.YtfenifdigjcmiaaWKept
import Derived.Test.YtfenifdigjcmiaaWShare
import Derived.Test.YtfenifdigjcmiaaWN
import Derived.Test.YtfenifdigjcmiaaWFootNe
import Derived.Test.YtfenifdigjcmiaaWAt
import Derived.Test.YtfenifdigjcmiaaWEqStruct
import Derived.Test.YtfenifdigjcmiaaWRepsOne
import Derived.Test.YtfenifdigjcmiaaWInv
import Derived.Test.YtfenifdigjcmiaaWInvWords
import Derived.Test.YtfenifdigjcmiaaWGuard
import Derived.Test.YtfenifdigjcmiaaWNEv
import Derived.Test.YtfenifdigjcmiaaWMore
import Derived.Test.YtfenifdigjcmiaaMOpen
namespace Go.Proofs.Ytfenifdigjcmiaa.MFnExactReadStream
open Go.RowKit Go.Proofs.Ytfenifdigjcmiaa.MOpen Go.Proofs.YtfenifdigjcmiaaW.PrintWords Go.Proofs.YtfenifdigjcmiaaW.PrintLast Go.Proofs.YtfenifdigjcmiaaW.PrintMore
attribute [local go_sem] max2_int min2_int max_two min_two max_three min_three max_four min_four   -- for this text's walks alone
set_option linter.unusedVariables false
set_option linter.unusedSimpArgs false



def errW : Option Int → Value
  | none => .nilIface
  | some c => .iface 0 (.int .i64 c)
theorem errW_none : errW none = .nilIface := rfl
theorem errW_some (c : Int) : errW (some c) = .iface 0 (.int .i64 c) := rfl

theorem info9 : (Try.prog.info? 9).map (fun i => (i.zero, i.size, i.bytes)) = some (some (.string ⟨#[]⟩), 1, 16) := by kernel_rfl
theorem info69 : (Try.prog.info? 69).map (fun i => (i.zero, i.size, i.bytes)) = some (some (.int .i8 0), 1, 1) := by kernel_rfl
-- the values' own types

end Go.Proofs.Ytfenifdigjcmiaa.MFnExactReadStream
