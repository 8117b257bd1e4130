/- The program's ValidSeries returns what the reference's returns, for every series. -/
import Derived.Test.YtpijklhonoekbaaMFnExactValidSeriesx1
import Derived.Test.YtpijklhonoekbaaMOpen
namespace Go.Proofs.Ytpijklhonoekbaa.Pure
open Go.RowKit Go.Proofs.Ytpijklhonoekbaa.MFnExactValidSeries Go.Proofs.Ytpijklhonoekbaa.MOpen Go.Proofs.YtpijklhonoekbaaW.PrintWords Go.Proofs.YtpijklhonoekbaaW.PrintLast Go.Proofs.YtpijklhonoekbaaW.PrintMore

theorem within_eq (a b c : Int) : impl_within.f a b c = spec_l00In.f a b c := rfl
theorem l00In_some (a b c : Int) : spec_l00In.f a b c = some (decide (b ≤ a ∧ a ≤ c)) := by
  unfold spec_l00In.f
  split <;> simp <;> omega
theorem FnExactValidSeries : laws_FnExactValidSeries.Pure := by
  intro x _
  have h : impl_ValidSeries.f x.f0 x.f1 x.f2 x.f3 x.f4 = spec_l05Series.f x.f0 x.f1 x.f2 x.f3 x.f4 := rfl
  have hs : ∃ b, spec_l05Series.f x.f0 x.f1 x.f2 x.f3 x.f4 = some b := by
    unfold spec_l05Series.f
    simp only [l00In_some, Option.bind_some]
    repeat' split
    all_goals exact ⟨_, rfl⟩
  obtain ⟨b, hb⟩ := hs
  unfold laws_FnExactValidSeries.f laws_toSeries.f spec_ValidSeries.f
  simp only [Option.bind_some, h, hb]
  simp
end Go.Proofs.Ytpijklhonoekbaa.Pure
