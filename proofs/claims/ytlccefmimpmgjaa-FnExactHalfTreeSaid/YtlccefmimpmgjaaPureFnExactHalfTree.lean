/- The program's HalfTree builds the tree that the reference builds, and marking it reaches every part. -/
import Derived.Test.YtlccefmimpmgjaaMFnExactHalfTreex3
import Derived.Test.YtlccefmimpmgjaaMOpen
namespace Go.Proofs.Ytlccefmimpmgjaa.Pure
open Go.RowKit Go.Proofs.Ytlccefmimpmgjaa.MFnExactHalfTree Go.Proofs.Ytlccefmimpmgjaa.MOpen Go.Proofs.YtlccefmimpmgjaaW.PrintWords Go.Proofs.YtlccefmimpmgjaaW.PrintLast Go.Proofs.YtlccefmimpmgjaaW.PrintMore
set_option linter.unusedVariables false
set_option linter.unusedSimpArgs false
theorem FnExactHalfTree : laws_FnExactHalfTree.Pure := ⟨60, by decide +kernel⟩
end Go.Proofs.Ytlccefmimpmgjaa.Pure
