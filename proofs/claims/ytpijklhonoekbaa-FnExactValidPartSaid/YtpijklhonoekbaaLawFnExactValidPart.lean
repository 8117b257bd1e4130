/- The row of FnExactValidPart: out of its pure statement and the walk. Written by a program of this session (myprint.py). -/
import Derived.Test.YtpijklhonoekbaaRows
import Derived.Test.YtpijklhonoekbaaMFnExactValidPartx5
import Derived.Test.YtpijklhonoekbaaPureFnExactValidPart
import Derived.Test.YtpijklhonoekbaaMOpen
import Derived.WalkKit
import Derived.ProofKit
import Derived.OpenShut
import Derived.ShutString
import Derived.ChangeOld
import Derived.Below
import Derived.SizedLaws
namespace Go.Proofs.Ytpijklhonoekbaa.fnExactValidPart
open Go.ChangeShapes Go.WideShapes Go.ChangeAt Go.RowKit Go.Proofs.Ytpijklhonoekbaa.MOpen Go.Proofs.Ytpijklhonoekbaa.MFnExactValidPart Go.Proofs.YtpijklhonoekbaaW.PrintWords
set_option linter.unusedVariables false
theorem own : ownKnob Try.prog.godebug = none := by kernel_rfl
theorem laidOut : laidOutB Try.prog = true := by kernel_rfl
set_option maxRecDepth 100000 in
theorem lifted (os : Os) (started : os.Started) (H : Type) (enc : TypeId × Value → H) :
    ReturnsInHanded {} Try.checked os 8 .any (Rows.fnExactValidPartSpec.pre6 enc Try.prog Try.f8 Rows.fnExactValidPartRow.domain false) (Rows.fnExactValidPartSpec.post enc Try.prog Try.f8 false true false false) := by
  refine returnsInHanded_of_change_sized (C := Try.checked) own started (by kernel_rfl) Try.func8
    (ChangeSpec.witness6 (enc := enc) (C := Try.checked) false ⟨#[], #[.agg #[.bool false, .int .u32 0, .int .u32 0, .int .u32 0, .int .u32 0, .int .u32 0, .int .u32 0, .bool false, .int .u32 0, .int .u32 0, .int .u32 0, .int .u32 0, .int .u32 0, .int .u32 0, .int .i64 0]], []⟩ 8 (by kernel_rfl) (by kernel_rfl) (by kernel_rfl) (by kernel_rfl)) ?_
  intro W base args ds gs before hval0 hW hcnd hsz0 _
  have hsz : (DataW.weightsEach Try.prog (Try.f8.params.toList ++ Rows.fnExactValidPartSpec.plain.varTypes Try.prog) (ds ++ gs)).all (· ≤ reachBytes) = true := hsz0
  have hval : ∀ (j : Nat) t v, Try.f8.params[j]? = some t → args[j]? = some v → Value.okWide Try.prog W .any base t v := hval0
  have hW' := hW
  obtain ⟨p, q, hA0, hV, rfl, hfz, hnd⟩ := hW
  have hA : DataW.TrodAll enc Try.prog W 0 (fun _ => true) true Try.f8.params.toList args.toList ds p := hA0
  rw [Try.params8] at hA hval hsz
  obtain ⟨v0, vs0, d0, ds0, p0, q0, hargs, rfl, rfl, h0, r0⟩ := trodAll_cons hA
  obtain ⟨rfl, rfl, rfl⟩ := trodAll_nil r0
  obtain rfl : args = #[v0] := by cases args; simp_all
  obtain ⟨rfl, rfl⟩ := trodVars_none hV
  have k0 := h0
  have lt0 : ∀ x ∈ p0, x.block < W.heap.size := by obtain ⟨m, hm⟩ := k0; exact DataW.trod_lt m _ _ _ hm
  obtain ⟨cs0, rfl, _⟩ := okWide_struct Try.underlying43 (hval 0 43 v0 rfl rfl)
  obtain ⟨fuel0, hf0⟩ := h0
  obtain ⟨x0, hk0, hw0⟩ := op43 _ _ _ hf0 (weight_of hsz (j := 0) (t := 43) rfl rfl)
  have e0 := k43_open hk0
  obtain rfl : cs0 = #[.bool x0.f0.f0, .int .u32 x0.f0.f1.f0, .int .u32 x0.f0.f1.f1, .int .u32 x0.f0.f1.f2, .int .u32 x0.f0.f1.f3, .int .u32 x0.f0.f1.f4, .int .u32 x0.f0.f1.f5, .bool x0.f1.f0, .int .u32 x0.f1.f1.f0, .int .u32 x0.f1.f1.f1, .int .u32 x0.f1.f1.f2, .int .u32 x0.f1.f1.f3, .int .u32 x0.f1.f1.f4, .int .u32 x0.f1.f1.f5, .int .i64 x0.f2] := by simpa [Value.cells] using congrArg List.toArray e0
  clear hA0 hval0 hsz0 hsz
  refine (laws_FnExactValidPart.walk Pure.FnExactValidPart W x0 hw0).mono fun e W' ⟨he, bel⟩ => ?_
  subst he
  exact ⟨_, rfl, _, _, _, [], _, [], hW', trodAll_mk1 (shut_bool Try.underlying4 _), (trodAll_cons_mk (Below.trod laidOut (by kernel_rfl) (of_decide_eq_true (by kernel_rfl)) k0 bel lt0) trodAll_mk0), rfl, bel.frame _, fun h => by cases h⟩
theorem over : Rows.fnExactValidPartRow.holds Try.pinned (OpenSpec.ofChange Rows.fnExactValidPartSpec) :=
  OpenClaim.holds_of_wide 8 Try.f8 rfl rfl rfl rfl rfl rfl rfl ⟨rfl, rfl, rfl, rfl, rfl⟩ rfl rfl rfl rfl rfl (by kernel_rfl) Try.func8 (by kernel_rfl)
    (of_decide_eq_true (by kernel_rfl)) (by unfold Func.isWrapper; first | (rw [if_pos (by decide +kernel)]; kernel_rfl) | (rw [if_neg (by decide +kernel)]; exact ⟨rfl, rfl⟩))
    (fun os started H enc _ => lifted os started H enc)
theorem proved : Rows.FnExactValidPartSaid := over
end Go.Proofs.Ytpijklhonoekbaa.fnExactValidPart
namespace Go.Proofs.Ytpijklhonoekbaa
/-- The row, under a short name, for the claim. -/
theorem fnExactValidPart_holds : Rows.FnExactValidPartSaid := fnExactValidPart.proved
end Go.Proofs.Ytpijklhonoekbaa
