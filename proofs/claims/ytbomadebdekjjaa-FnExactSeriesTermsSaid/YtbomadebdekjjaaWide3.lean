/- Own text of this session: wide numbers by hand walks. -/
import Derived.Test.YtbomadebdekjjaaWide2
namespace Go.Proofs.Ytbomadebdekjjaa.Wide
open Go.RowKit Go.Proofs.Ytbomadebdekjjaa.MOpen Go.Proofs.YtbomadebdekjjaaW.PrintWords Go.Proofs.YtbomadebdekjjaaW.PrintLast Go.Proofs.YtbomadebdekjjaaW.PrintMore
attribute [local go_sem] max2_int min2_int max_two min_two max_three min_three max_four min_four
set_option linter.unusedVariables false
set_option linter.unusedSimpArgs false
attribute [local go_sem high] eqA111 eqA126
end Go.Proofs.Ytbomadebdekjjaa.Wide
