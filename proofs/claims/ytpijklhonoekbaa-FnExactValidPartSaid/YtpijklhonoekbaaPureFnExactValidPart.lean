/- The program's ValidPart returns what the reference's returns, for every part. -/
import Derived.Test.YtpijklhonoekbaaMFnExactValidPartx5
import Derived.Test.YtpijklhonoekbaaMOpen
namespace Go.Proofs.Ytpijklhonoekbaa.Pure
open Go.RowKit Go.Proofs.Ytpijklhonoekbaa.MFnExactValidPart Go.Proofs.Ytpijklhonoekbaa.MOpen Go.Proofs.YtpijklhonoekbaaW.PrintWords Go.Proofs.YtpijklhonoekbaaW.PrintLast Go.Proofs.YtpijklhonoekbaaW.PrintMore
set_option linter.unusedVariables false
set_option linter.unusedSimpArgs false
theorem wrap64_id {n : Int} (h0 : -9223372036854775808 ≤ n) (h1 : n ≤ 9223372036854775807) : wrap64 n = n := by
  unfold wrap64; omega
theorem rd6_0 (a b c d e f : Int) : rd [a, b, c, d, e, f] 0 = a := rfl
theorem rd6_1 (a b c d e f : Int) : rd [a, b, c, d, e, f] 1 = b := rfl
theorem rd6_2 (a b c d e f : Int) : rd [a, b, c, d, e, f] 2 = c := rfl
theorem rd6_3 (a b c d e f : Int) : rd [a, b, c, d, e, f] 3 = d := rfl
theorem rd6_4 (a b c d e f : Int) : rd [a, b, c, d, e, f] 4 = e := rfl
theorem rd6_5 (a b c d e f : Int) : rd [a, b, c, d, e, f] 5 = f := rfl
theorem toUint32A6_ev (a b c d e f : Int) (k : Nat) : laws_toUint32A6.f (k + 7) a b c d e f = some (a, b, c, d, e, f) := by
  unfold laws_toUint32A6.f
  simp [laws_toUint32A6.l0, wrap64, aput, rd]
theorem toWide_ev (s : Bool) (a b c d e f : Int) (k : Nat) : laws_toWide.f (k + 7) s a b c d e f = some (s, a, b, c, d, e, f) := by
  unfold laws_toWide.f
  rw [toUint32A6_ev]; rfl
/-- Two sizes compared, the highest limb first. -/
def cmpF (a b : Int) (r : Option Int) : Option Int := if a < b then some (-1) else if a > b then some 1 else r
theorem l01Cmp_ev (a0 a1 a2 a3 a4 a5 b0 b1 b2 b3 b4 b5 : Int) (k : Nat) : spec_l01Cmp.f (k + 7) a0 a1 a2 a3 a4 a5 b0 b1 b2 b3 b4 b5 = cmpF a5 b5 (cmpF a4 b4 (cmpF a3 b3 (cmpF a2 b2 (cmpF a1 b1 (cmpF a0 b0 (some 0)))))) := by
  unfold spec_l01Cmp.f cmpF
  simp [spec_l01Cmp.l0, wrap64, rd]
theorem cmpF_eq (a b : Int) (r : Option Int) : (if a = b then r else if a < b then some (-1) else some 1) = cmpF a b r := by
  unfold cmpF
  by_cases h : a = b
  · subst h; simp
  · rcases Int.lt_or_gt_of_ne h with c | c
    · rw [if_neg h, if_pos c, if_pos c]
    · rw [if_neg h, if_neg (by omega), if_neg (by omega), if_pos c]
theorem size_compare_ev (a0 a1 a2 a3 a4 a5 b0 b1 b2 b3 b4 b5 : Int) (k : Nat) : impl_size_compare.f (k + 7) a0 a1 a2 a3 a4 a5 b0 b1 b2 b3 b4 b5 = cmpF a5 b5 (cmpF a4 b4 (cmpF a3 b3 (cmpF a2 b2 (cmpF a1 b1 (cmpF a0 b0 (some 0)))))) := by
  simp only [← cmpF_eq]
  unfold impl_size_compare.f
  simp [impl_size_compare.l0, wrap64, rd]
theorem cmpF_some {a b : Int} {r : Option Int} (h : ∃ x, r = some x) : ∃ x, cmpF a b r = some x := by
  unfold cmpF; repeat' split
  · exact ⟨_, rfl⟩
  · exact ⟨_, rfl⟩
  · exact h
theorem compare_same (s : Bool) (a0 a1 a2 a3 a4 a5 : Int) (t : Bool) (b0 b1 b2 b3 b4 b5 : Int) (k : Nat) :
    ∃ r, impl_compare.f (k + 9) s a0 a1 a2 a3 a4 a5 t b0 b1 b2 b3 b4 b5 = some r ∧ spec_l01Compare.f (k + 9) s a0 a1 a2 a3 a4 a5 t b0 b1 b2 b3 b4 b5 = some r := by
  obtain ⟨x, hx⟩ := cmpF_some (a := a5) (b := b5) (cmpF_some (a := a4) (b := b4) (cmpF_some (a := a3) (b := b3) (cmpF_some (a := a2) (b := b2) (cmpF_some (a := a1) (b := b1) (cmpF_some (a := a0) (b := b0) ⟨0, rfl⟩)))))
  obtain ⟨y, hy⟩ := cmpF_some (a := b5) (b := a5) (cmpF_some (a := b4) (b := a4) (cmpF_some (a := b3) (b := a3) (cmpF_some (a := b2) (b := a2) (cmpF_some (a := b1) (b := a1) (cmpF_some (a := b0) (b := a0) ⟨0, rfl⟩)))))
  unfold impl_compare.f spec_l01Compare.f
  simp only [impl_compare.j0, spec_l01Compare.j0, spec_l01Compare.j1, size_compare_ev _ _ _ _ _ _ _ _ _ _ _ _ (k + 1), l01Cmp_ev, hx, hy, Option.bind_some]
  cases s <;> cases t <;> simp [hx, hy]
theorem FnExactValidPart : laws_FnExactValidPart.Pure := by
  intro x _
  refine ⟨9, ?_⟩
  obtain ⟨⟨s, ⟨a0, a1, a2, a3, a4, a5⟩⟩, ⟨t, ⟨b0, b1, b2, b3, b4, b5⟩⟩, p⟩ := x
  obtain ⟨r, h1, h2⟩ := compare_same s a0 a1 a2 a3 a4 a5 t b0 b1 b2 b3 b4 b5 0
  have hv : ∀ (s : Bool) (a0 a1 a2 a3 a4 a5 : Int), impl_ValidWide.f s a0 a1 a2 a3 a4 a5 = spec_l01Ok.f s a0 a1 a2 a3 a4 a5 := fun _ _ _ _ _ _ _ => rfl
  have hp : impl_placesOk.f p = spec_l02Places.f p := rfl
  have ho : ∀ (s : Bool) (a0 a1 a2 a3 a4 a5 : Int), ∃ b, spec_l01Ok.f s a0 a1 a2 a3 a4 a5 = some b := by
    intro s a0 a1 a2 a3 a4 a5; unfold spec_l01Ok.f; split <;> exact ⟨_, rfl⟩
  obtain ⟨o1, ho1⟩ := ho s a0 a1 a2 a3 a4 a5
  obtain ⟨o2, ho2⟩ := ho t b0 b1 b2 b3 b4 b5
  have hq : ∃ b, spec_l02Places.f p = some b := by
    unfold spec_l02Places.f spec_l00In.f; split <;> exact ⟨_, rfl⟩
  obtain ⟨q, hq⟩ := hq
  unfold laws_FnExactValidPart.f laws_toPart.f impl_ValidPart.f spec_ValidPart.f spec_l05Part.f
  simp only [toWide_ev _ _ _ _ _ _ _ 2, Option.bind_some, hv, ho1, ho2, h1, h2, hp, hq]
  cases o1 <;> cases o2 <;> by_cases c : r < 0 <;> simp [c]
end Go.Proofs.Ytpijklhonoekbaa.Pure
