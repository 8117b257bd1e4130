/- The program's SumEight returns what the reference's returns. -/
import Derived.Test.YtpijklhonoekbaaMFnExactSumEightx1
import Derived.Test.YtpijklhonoekbaaMOpen
namespace Go.Proofs.Ytpijklhonoekbaa.Pure
open Go.RowKit Go.Proofs.Ytpijklhonoekbaa.MFnExactSumEight Go.Proofs.Ytpijklhonoekbaa.MOpen Go.Proofs.YtpijklhonoekbaaW.PrintWords Go.Proofs.YtpijklhonoekbaaW.PrintLast Go.Proofs.YtpijklhonoekbaaW.PrintMore

theorem FnExactSumEight : laws_FnExactSumEight.Pure := ⟨10, by decide +kernel⟩
end Go.Proofs.Ytpijklhonoekbaa.Pure
