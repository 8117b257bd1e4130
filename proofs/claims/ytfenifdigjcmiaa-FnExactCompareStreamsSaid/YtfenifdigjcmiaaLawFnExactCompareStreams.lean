/- The row of FnExactCompareStreams: out of its pure statement and the walk. Written by a program of this session (myprint.py). -/
import Derived.Test.YtfenifdigjcmiaaRows
import Derived.Test.YtfenifdigjcmiaaMFnExactCompareStreamsx7
import Derived.Test.YtfenifdigjcmiaaPureFnExactCompareStreams
import Derived.Test.YtfenifdigjcmiaaMOpen
import Derived.WalkKit
import Derived.ProofKit
import Derived.OpenShut
import Derived.ShutString
import Derived.ChangeOld
import Derived.Below
import Derived.SizedLaws
namespace Go.Proofs.Ytfenifdigjcmiaa.fnExactCompareStreams
open Go.ChangeShapes Go.WideShapes Go.ChangeAt Go.RowKit Go.Proofs.Ytfenifdigjcmiaa.MOpen Go.Proofs.Ytfenifdigjcmiaa.MFnExactCompareStreams Go.Proofs.YtfenifdigjcmiaaW.PrintWords
set_option linter.unusedVariables false
theorem own : ownKnob Try.prog.godebug = none := by kernel_rfl
theorem laidOut : laidOutB Try.prog = true := by kernel_rfl
set_option maxRecDepth 100000 in
theorem lifted (os : Os) (started : os.Started) (H : Type) (enc : TypeId × Value → H) :
    ReturnsInHanded {} Try.checked os 7 .any (Rows.fnExactCompareStreamsSpec.pre6 enc Try.prog Try.f7 Rows.fnExactCompareStreamsRow.domain false) (Rows.fnExactCompareStreamsSpec.post enc Try.prog Try.f7 false true false false) := by
  refine returnsInHanded_of_change_sized (C := Try.checked) own started (by kernel_rfl) Try.func7
    (ChangeSpec.witness6 (enc := enc) (C := Try.checked) false ⟨#[], #[.agg #[.slice none 0 0, .slice none 0 0], .agg #[.slice none 0 0, .slice none 0 0]], []⟩ 8 (by kernel_rfl) (by kernel_rfl) (by kernel_rfl) (by kernel_rfl)) ?_
  intro W base args ds gs before hval0 hW hcnd hsz0 _
  have hsz : (DataW.weightsEach Try.prog (Try.f7.params.toList ++ Rows.fnExactCompareStreamsSpec.plain.varTypes Try.prog) (ds ++ gs)).all (· ≤ reachBytes) = true := hsz0
  have hval : ∀ (j : Nat) t v, Try.f7.params[j]? = some t → args[j]? = some v → Value.okWide Try.prog W .any base t v := hval0
  have hW' := hW
  obtain ⟨p, q, hA0, hV, rfl, hfz, hnd⟩ := hW
  have hA : DataW.TrodAll enc Try.prog W 0 (fun _ => true) true Try.f7.params.toList args.toList ds p := hA0
  rw [Try.params7] at hA hval hsz
  obtain ⟨v0, vs0, d0, ds0, p0, q0, hargs, rfl, rfl, h0, r0⟩ := trodAll_cons hA
  obtain ⟨v1, vs1, d1, ds1, p1, q1, rfl, rfl, rfl, h1, r1⟩ := trodAll_cons r0
  obtain ⟨rfl, rfl, rfl⟩ := trodAll_nil r1
  obtain rfl : args = #[v0, v1] := by cases args; simp_all
  obtain ⟨rfl, rfl⟩ := trodVars_none hV
  have k0 := h0
  have lt0 : ∀ x ∈ p0, x.block < W.heap.size := by obtain ⟨m, hm⟩ := k0; exact DataW.trod_lt m _ _ _ hm
  obtain ⟨cs0, rfl, _⟩ := okWide_struct Try.underlying32 (hval 0 32 v0 rfl rfl)
  obtain ⟨fuel0, hf0⟩ := h0
  obtain ⟨x0, hk0, hw0⟩ := op32 _ _ _ hf0 (weight_of hsz (j := 0) (t := 32) rfl rfl)
  obtain ⟨A0_0, c0_0, A0_1, c0_1, e0, hc0_0, hr0_0, hc0_1, hr0_1⟩ := k32_open hk0
  obtain rfl : cs0 = #[.slice A0_0 x0.f0.length c0_0, .slice A0_1 x0.f1.length c0_1] := by simpa [Value.cells] using congrArg List.toArray e0
  have k1 := h1
  have lt1 : ∀ x ∈ p1, x.block < W.heap.size := by obtain ⟨m, hm⟩ := k1; exact DataW.trod_lt m _ _ _ hm
  obtain ⟨cs1, rfl, _⟩ := okWide_struct Try.underlying32 (hval 1 32 v1 rfl rfl)
  obtain ⟨fuel1, hf1⟩ := h1
  obtain ⟨x1, hk1, hw1⟩ := op32 _ _ _ hf1 (weight_of hsz (j := 1) (t := 32) rfl rfl)
  obtain ⟨A1_0, c1_0, A1_1, c1_1, e1, hc1_0, hr1_0, hc1_1, hr1_1⟩ := k32_open hk1
  obtain rfl : cs1 = #[.slice A1_0 x1.f0.length c1_0, .slice A1_1 x1.f1.length c1_1] := by simpa [Value.cells] using congrArg List.toArray e1
  try clear hA0 hval0 hsz0 hsz
  refine (laws_FnExactCompareStreams.walk Pure.FnExactCompareStreams W x0 _ _ hr0_0 hc0_0 _ _ hr0_1 hc0_1 hw0 x1 _ _ hr1_0 hc1_0 _ _ hr1_1 hc1_1 hw1).mono fun e W' ⟨he, bel⟩ => ?_
  subst he
  exact ⟨_, rfl, _, _, _, [], _, [], hW', trodAll_mk1 (shut_bool Try.underlying4 _), (trodAll_cons_mk (Below.trod laidOut (by kernel_rfl) (of_decide_eq_true (by kernel_rfl)) k0 bel lt0) (trodAll_cons_mk (Below.trod laidOut (by kernel_rfl) (of_decide_eq_true (by kernel_rfl)) k1 bel lt1) trodAll_mk0)), rfl, bel.frame _, fun h => by cases h⟩
theorem over : Rows.fnExactCompareStreamsRow.holds Try.pinned (OpenSpec.ofChange Rows.fnExactCompareStreamsSpec) :=
  OpenClaim.holds_of_wide 7 Try.f7 rfl rfl rfl rfl rfl rfl rfl ⟨rfl, rfl, rfl, rfl, rfl⟩ rfl rfl rfl rfl rfl (by kernel_rfl) Try.func7 (by kernel_rfl)
    (of_decide_eq_true (by kernel_rfl)) (by unfold Func.isWrapper; first | (rw [if_pos (by decide +kernel)]; kernel_rfl) | (rw [if_neg (by decide +kernel)]; exact ⟨rfl, rfl⟩))
    (fun os started H enc _ => lifted os started H enc)
theorem proved : Rows.FnExactCompareStreamsSaid := over
end Go.Proofs.Ytfenifdigjcmiaa.fnExactCompareStreams
namespace Go.Proofs.Ytfenifdigjcmiaa
/-- The row, under a short name, for the claim. -/
theorem fnExactCompareStreams_holds : Rows.FnExactCompareStreamsSaid := fnExactCompareStreams.proved
end Go.Proofs.Ytfenifdigjcmiaa
