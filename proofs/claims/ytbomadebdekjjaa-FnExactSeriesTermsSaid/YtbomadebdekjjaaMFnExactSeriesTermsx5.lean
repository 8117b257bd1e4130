/- Functions of the program as Lean functions, and the proof that the code comes to what they say. Written by a program of this session (myprint.py). -/
import Derived.Test.YtbomadebdekjjaaMFnExactSeriesTermsx0
import Derived.Test.YtbomadebdekjjaaMFnExactSeriesTermsx1
import Derived.Test.YtbomadebdekjjaaMFnExactSeriesTermsx4
namespace Go.Proofs.Ytbomadebdekjjaa.MFnExactSeriesTerms
open Go.RowKit Go.Proofs.Ytbomadebdekjjaa.MOpen Go.Proofs.YtbomadebdekjjaaW.PrintWords Go.Proofs.YtbomadebdekjjaaW.PrintLast Go.Proofs.YtbomadebdekjjaaW.PrintMore
attribute [local go_sem] max2_int min2_int max_two min_two max_three min_three max_four min_four   -- for this text's walks alone
set_option linter.unusedVariables false
set_option linter.unusedSimpArgs false

attribute [local go_sem high] eqA23
/-! ### spec_l01Sign: function 98 -/
def spec_l01Sign.f (a0 : S24) : Option (Int) := if a0.f0 = true then (some (-1)) else (if (a0.f1.f0 == 0 && (a0.f1.f1 == 0 && (a0.f1.f2 == 0 && (a0.f1.f3 == 0 && (a0.f1.f4 == 0 && (a0.f1.f5 == 0)))))) = true then (some 0) else (some 1))
set_option maxHeartbeats 8000000 in
set_option maxRecDepth 100000 in
theorem spec_l01Sign.calls (B0_ O0_ : Nat) (a0 : S24) (r : Int) (w : World) (hq0_ : w.cell? ⟨B0_, O0_, none⟩ = some (.bool a0.f0) ∧ w.cell? ⟨B0_, O0_ + 1, none⟩ = some (.int .u32 a0.f1.f0) ∧ w.cell? ⟨B0_, O0_ + 2, none⟩ = some (.int .u32 a0.f1.f1) ∧ w.cell? ⟨B0_, O0_ + 3, none⟩ = some (.int .u32 a0.f1.f2) ∧ w.cell? ⟨B0_, O0_ + 4, none⟩ = some (.int .u32 a0.f1.f3) ∧ w.cell? ⟨B0_, O0_ + 5, none⟩ = some (.int .u32 a0.f1.f4) ∧ w.cell? ⟨B0_, O0_ + 6, none⟩ = some (.int .u32 a0.f1.f5)) (h : spec_l01Sign.f a0 = some r) :
    Calls Try.prog 98 #[.pointer (some ⟨B0_, O0_, none⟩)] w fun e w' => e = .returned (.int .i64 r) ∧ Drawn0 w w' := by
  have hu23 := Try.underlying23
  have HQ0_ := Aside0.mk hq0_
  clear hq0_
  have H : (if a0.f0 = true then (some (-1)) else (if (a0.f1.f0 == 0 && (a0.f1.f1 == 0 && (a0.f1.f2 == 0 && (a0.f1.f3 == 0 && (a0.f1.f4 == 0 && (a0.f1.f5 == 0)))))) = true then (some 0) else (some 1))) = some r := h
  clear h
  by_cases c2 : a0.f0 = true
  · rw [if_pos c2] at H
    have c2b0 : a0.f0 = true := c2
    clear c2
    obtain rfl := Option.some.inj H
    obtain ⟨hxr3_0, hxr3_1, hxr3_2, hxr3_3, hxr3_4, hxr3_5, hxr3_6⟩ := HQ0_.out
    go_enter Try.func98, Try.ntmps98
    go_wp2
    go_ret
    exact ⟨by first | rfl | (simp; done) | (simp [*]; done), by repeat (first | exact Drawn0.refl _ | apply Drawn0.step)⟩
  · rw [if_neg c2] at H
    have c2b0 : a0.f0 = false := by simpa using c2
    clear c2
    by_cases c4 : (a0.f1.f0 == 0 && (a0.f1.f1 == 0 && (a0.f1.f2 == 0 && (a0.f1.f3 == 0 && (a0.f1.f4 == 0 && (a0.f1.f5 == 0)))))) = true
    · rw [if_pos c4] at H
      have c4b0 : (a0.f1.f0 == 0 && (a0.f1.f1 == 0 && (a0.f1.f2 == 0 && (a0.f1.f3 == 0 && (a0.f1.f4 == 0 && (a0.f1.f5 == 0)))))) = true := c4
      (try (have c4b1 : decide (a0.f1.f0 = 0 && (a0.f1.f1 == 0 && (a0.f1.f2 == 0 && (a0.f1.f3 == 0 && (a0.f1.f4 == 0 && (a0.f1.f5 == 0)))))) = true := by simpa using c4))
      (try (have c4b2 : (a0.f1.f0 == 0 && (a0.f1.f1 == 0 && (a0.f1.f2 == 0 && (a0.f1.f3 == 0 && (a0.f1.f4 == 0 && (a0.f1.f5 == 0)))))) = true := by simpa using c4))
      clear c4
      obtain rfl := Option.some.inj H
      obtain ⟨hxr5_0, hxr5_1, hxr5_2, hxr5_3, hxr5_4, hxr5_5, hxr5_6⟩ := HQ0_.out
      go_enter Try.func98, Try.ntmps98
      go_wp2
      go_ret
      exact ⟨by first | rfl | (simp; done) | (simp [*]; done), by repeat (first | exact Drawn0.refl _ | apply Drawn0.step)⟩
    · rw [if_neg c4] at H
      have c4b0 : (a0.f1.f0 == 0 && (a0.f1.f1 == 0 && (a0.f1.f2 == 0 && (a0.f1.f3 == 0 && (a0.f1.f4 == 0 && (a0.f1.f5 == 0)))))) = false := by simpa using c4
      (try (have c4b1 : decide (a0.f1.f0 = 0 && (a0.f1.f1 == 0 && (a0.f1.f2 == 0 && (a0.f1.f3 == 0 && (a0.f1.f4 == 0 && (a0.f1.f5 == 0)))))) = false := by simpa using c4))
      (try (have c4b2 : (a0.f1.f0 == 0 && (a0.f1.f1 == 0 && (a0.f1.f2 == 0 && (a0.f1.f3 == 0 && (a0.f1.f4 == 0 && (a0.f1.f5 == 0)))))) = false := by simpa using c4))
      (try (have c4b3 : ¬ (a0.f1.f0 = 0 && (a0.f1.f1 == 0 && (a0.f1.f2 == 0 && (a0.f1.f3 == 0 && (a0.f1.f4 == 0 && (a0.f1.f5 == 0)))))) := by simpa using c4))
      clear c4
      obtain rfl := Option.some.inj H
      obtain ⟨hxr6_0, hxr6_1, hxr6_2, hxr6_3, hxr6_4, hxr6_5, hxr6_6⟩ := HQ0_.out
      go_enter Try.func98, Try.ntmps98
      go_wp2
      go_ret
      exact ⟨by first | rfl | (simp; done) | (simp [*]; done), by repeat (first | exact Drawn0.refl _ | apply Drawn0.step)⟩


/-! ### spec_l01Div: function 99, by hand -/
def spec_l01Div.f (a0 : S24) (a1 : S24) : Option (S24 × S24) := (wun a0).bind fun x => (wun a1).bind fun y => if y = 0 then none else some (wenc (x.fdiv y), wenc (x.fmod y))
theorem spec_l01Div.calls (a0 : S24) (a1 : S24) (r1 : S24) (r2 : S24) (w : World) (h : spec_l01Div.f a0 a1 = some (r1, r2)) :
    Calls Try.prog 99 #[.agg #[.bool a0.f0, .int .u32 a0.f1.f0, .int .u32 a0.f1.f1, .int .u32 a0.f1.f2, .int .u32 a0.f1.f3, .int .u32 a0.f1.f4, .int .u32 a0.f1.f5], .agg #[.bool a1.f0, .int .u32 a1.f1.f0, .int .u32 a1.f1.f1, .int .u32 a1.f1.f2, .int .u32 a1.f1.f3, .int .u32 a1.f1.f4, .int .u32 a1.f1.f5]] w fun e w' => e = .returned (.tuple #[.agg #[.bool r1.f0, .int .u32 r1.f1.f0, .int .u32 r1.f1.f1, .int .u32 r1.f1.f2, .int .u32 r1.f1.f3, .int .u32 r1.f1.f4, .int .u32 r1.f1.f5], .agg #[.bool r2.f0, .int .u32 r2.f1.f0, .int .u32 r2.f1.f1, .int .u32 r2.f1.f2, .int .u32 r2.f1.f3, .int .u32 r2.f1.f4, .int .u32 r2.f1.f5]]) ∧ Below w.heap.size w w' := by
  unfold spec_l01Div.f at h
  obtain ⟨x, y, rfl, rfl, hx, hy, e⟩ := wun2 h
  by_cases c : y = 0
  · rw [if_pos c] at e
    exact absurd e (by simp)
  · rw [if_neg c] at e
    obtain ⟨rfl, rfl⟩ := Prod.mk.inj (Option.some.inj e)
    exact Wide.sDivV w x y hx hy c bits_ok


end Go.Proofs.Ytbomadebdekjjaa.MFnExactSeriesTerms
