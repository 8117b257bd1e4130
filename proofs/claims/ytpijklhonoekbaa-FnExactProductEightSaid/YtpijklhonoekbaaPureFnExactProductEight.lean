/- The program's ProductEight returns what the reference's returns. -/
import Derived.Test.YtpijklhonoekbaaMFnExactProductEightx1
import Derived.Test.YtpijklhonoekbaaMOpen
namespace Go.Proofs.Ytpijklhonoekbaa.Pure
open Go.RowKit Go.Proofs.Ytpijklhonoekbaa.MFnExactProductEight Go.Proofs.Ytpijklhonoekbaa.MOpen Go.Proofs.YtpijklhonoekbaaW.PrintWords Go.Proofs.YtpijklhonoekbaaW.PrintLast Go.Proofs.YtpijklhonoekbaaW.PrintMore

theorem FnExactProductEight : laws_FnExactProductEight.Pure := ⟨10, by decide +kernel⟩
end Go.Proofs.Ytpijklhonoekbaa.Pure
