/- The row of FnExactSameTree: out of its pure statement and the walk. Written by a program of this session (myprint.py). -/
import Derived.Test.YtlccefmimpmgjaaRows
import Derived.Test.YtlccefmimpmgjaaMFnExactSameTreex4
import Derived.Test.YtlccefmimpmgjaaPureFnExactSameTree
import Derived.Test.YtlccefmimpmgjaaMOpen
import Derived.WalkKit
import Derived.ProofKit
import Derived.OpenShut
import Derived.ShutString
import Derived.ChangeOld
import Derived.Below
import Derived.SizedLaws
namespace Go.Proofs.Ytlccefmimpmgjaa.fnExactSameTree
open Go.ChangeShapes Go.WideShapes Go.ChangeAt Go.RowKit Go.Proofs.Ytlccefmimpmgjaa.MOpen Go.Proofs.Ytlccefmimpmgjaa.MFnExactSameTree Go.Proofs.YtlccefmimpmgjaaW.PrintWords
set_option linter.unusedVariables false
theorem own : ownKnob Try.prog.godebug = none := by kernel_rfl
theorem laidOut : laidOutB Try.prog = true := by kernel_rfl
set_option maxRecDepth 100000 in
theorem lifted (os : Os) (started : os.Started) (H : Type) (enc : TypeId × Value → H) :
    ReturnsInHanded {} Try.checked os 6 .any (Rows.fnExactSameTreeSpec.pre6 enc Try.prog Try.f6 Rows.fnExactSameTreeRow.domain false) (Rows.fnExactSameTreeSpec.post enc Try.prog Try.f6 false true false false) := by
  refine returnsInHanded_of_change_sized (C := Try.checked) own started (by kernel_rfl) Try.func6
    (ChangeSpec.witness6 (enc := enc) (C := Try.checked) false ⟨#[], #[.agg #[.slice none 0 0], .agg #[.slice none 0 0]], []⟩ 8 (by kernel_rfl) (by kernel_rfl) (by kernel_rfl) (by kernel_rfl)) ?_
  intro W base args ds gs before hval0 hW hcnd hsz0 _
  have hsz : (DataW.weightsEach Try.prog (Try.f6.params.toList ++ Rows.fnExactSameTreeSpec.plain.varTypes Try.prog) (ds ++ gs)).all (· ≤ reachBytes) = true := hsz0
  have hval : ∀ (j : Nat) t v, Try.f6.params[j]? = some t → args[j]? = some v → Value.okWide Try.prog W .any base t v := hval0
  have hW' := hW
  obtain ⟨p, q, hA0, hV, rfl, hfz, hnd⟩ := hW
  have hA : DataW.TrodAll enc Try.prog W 0 (fun _ => true) true Try.f6.params.toList args.toList ds p := hA0
  rw [Try.params6] at hA hval hsz
  obtain ⟨v0, vs0, d0, ds0, p0, q0, hargs, rfl, rfl, h0, r0⟩ := trodAll_cons hA
  obtain ⟨v1, vs1, d1, ds1, p1, q1, rfl, rfl, rfl, h1, r1⟩ := trodAll_cons r0
  obtain ⟨rfl, rfl, rfl⟩ := trodAll_nil r1
  obtain rfl : args = #[v0, v1] := by cases args; simp_all
  obtain ⟨rfl, rfl⟩ := trodVars_none hV
  have k0 := h0
  have lt0 : ∀ x ∈ p0, x.block < W.heap.size := by obtain ⟨m, hm⟩ := k0; exact DataW.trod_lt m _ _ _ hm
  obtain ⟨cs0, rfl, _⟩ := okWide_struct Try.underlying31 (hval 0 31 v0 rfl rfl)
  obtain ⟨fuel0, hf0⟩ := h0
  obtain ⟨x0, hk0, hw0⟩ := op31 _ _ _ hf0 (weight_of hsz (j := 0) (t := 31) rfl rfl)
  obtain ⟨A0_0, c0_0, e0, hc0_0, hr0_0⟩ := k31_open hk0
  obtain rfl : cs0 = #[.slice A0_0 x0.f0.length c0_0] := by simpa [Value.cells] using congrArg List.toArray e0
  have k1 := h1
  have lt1 : ∀ x ∈ p1, x.block < W.heap.size := by obtain ⟨m, hm⟩ := k1; exact DataW.trod_lt m _ _ _ hm
  obtain ⟨cs1, rfl, _⟩ := okWide_struct Try.underlying31 (hval 1 31 v1 rfl rfl)
  obtain ⟨fuel1, hf1⟩ := h1
  obtain ⟨x1, hk1, hw1⟩ := op31 _ _ _ hf1 (weight_of hsz (j := 1) (t := 31) rfl rfl)
  obtain ⟨A1_0, c1_0, e1, hc1_0, hr1_0⟩ := k31_open hk1
  obtain rfl : cs1 = #[.slice A1_0 x1.f0.length c1_0] := by simpa [Value.cells] using congrArg List.toArray e1
  try clear hA0 hval0 hsz0 hsz
  refine (laws_FnExactSameTree.walk Pure.FnExactSameTree W x0 _ _ hr0_0 hc0_0 hw0 x1 _ _ hr1_0 hc1_0 hw1).mono fun e W' ⟨he, bel⟩ => ?_
  subst he
  exact ⟨_, rfl, _, _, _, [], _, [], hW', trodAll_mk1 (shut_bool Try.underlying4 _), (trodAll_cons_mk (Below.trod laidOut (by kernel_rfl) (of_decide_eq_true (by kernel_rfl)) k0 bel lt0) (trodAll_cons_mk (Below.trod laidOut (by kernel_rfl) (of_decide_eq_true (by kernel_rfl)) k1 bel lt1) trodAll_mk0)), rfl, bel.frame _, fun h => by cases h⟩
theorem over : Rows.fnExactSameTreeRow.holds Try.pinned (OpenSpec.ofChange Rows.fnExactSameTreeSpec) :=
  OpenClaim.holds_of_wide 6 Try.f6 rfl rfl rfl rfl rfl rfl rfl ⟨rfl, rfl, rfl, rfl, rfl⟩ rfl rfl rfl rfl rfl (by kernel_rfl) Try.func6 (by kernel_rfl)
    (of_decide_eq_true (by kernel_rfl)) (by unfold Func.isWrapper; first | (rw [if_pos (by decide +kernel)]; kernel_rfl) | (rw [if_neg (by decide +kernel)]; exact ⟨rfl, rfl⟩))
    (fun os started H enc _ => lifted os started H enc)
theorem proved : Rows.FnExactSameTreeSaid := over
end Go.Proofs.Ytlccefmimpmgjaa.fnExactSameTree
namespace Go.Proofs.Ytlccefmimpmgjaa
/-- The row, under a short name, for the claim. -/
theorem fnExactSameTree_holds : Rows.FnExactSameTreeSaid := fnExactSameTree.proved
end Go.Proofs.Ytlccefmimpmgjaa
