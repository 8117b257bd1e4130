/- The program's NegTree builds the tree that the reference builds, and marking it reaches every part. -/
import Derived.Test.YtlccefmimpmgjaaMFnExactNegTreex3
import Derived.Test.YtlccefmimpmgjaaMOpen
namespace Go.Proofs.Ytlccefmimpmgjaa.Pure
open Go.RowKit Go.Proofs.Ytlccefmimpmgjaa.MFnExactNegTree Go.Proofs.Ytlccefmimpmgjaa.MOpen Go.Proofs.YtlccefmimpmgjaaW.PrintWords Go.Proofs.YtlccefmimpmgjaaW.PrintLast Go.Proofs.YtlccefmimpmgjaaW.PrintMore
set_option linter.unusedVariables false
set_option linter.unusedSimpArgs false
theorem FnExactNegTree : laws_FnExactNegTree.Pure := ⟨60, by decide +kernel⟩
end Go.Proofs.Ytlccefmimpmgjaa.Pure
