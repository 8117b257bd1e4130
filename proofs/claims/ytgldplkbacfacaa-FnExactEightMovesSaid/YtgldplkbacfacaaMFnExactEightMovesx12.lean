/- Functions of the program as Lean functions, and the proof that the code comes to what they say. Written by a program of this session (myprint.py). -/
import Derived.Test.YtgldplkbacfacaaMFnExactEightMovesx0
import Derived.Test.YtgldplkbacfacaaMFnExactEightMovesx11
namespace Go.Proofs.Ytgldplkbacfacaa.MFnExactEightMoves
open Go.RowKit Go.Proofs.Ytgldplkbacfacaa.MOpen Go.Proofs.YtgldplkbacfacaaW.PrintWords Go.Proofs.YtgldplkbacfacaaW.PrintLast Go.Proofs.YtgldplkbacfacaaW.PrintMore
attribute [local go_sem] max2_int min2_int max_two min_two max_three min_three max_four min_four   -- for this text's walks alone
set_option linter.unusedVariables false
set_option linter.unusedSimpArgs false

def impl_EightMoves.f (k : Nat) (a0_0 a0_1 a0_2 a0_3 a0_4 a0_5 a0_6 a0_7 : Int) (l1 l2 : List Int) : Option (List S52 × Int) := (eightX k a0_0 a0_1 a0_2 a0_3 a0_4 a0_5 a0_6 a0_7 l1 l2).bind fun r => if r.2 = 0 then some (r.1.ms, 0) else some ([], r.2)
theorem impl_EightMoves.mono : ∀ a0 a1 a2 a3 a4 a5 a6 a7 a8 a9 k, LeO (impl_EightMoves.f k a0 a1 a2 a3 a4 a5 a6 a7 a8 a9) (impl_EightMoves.f (k + 1) a0 a1 a2 a3 a4 a5 a6 a7 a8 a9) := fun _ _ _ _ _ _ _ _ _ _ k => LeO.bind (eightX_mono _ _ _ _ _ _ _ _ _ _ k) (fun _ => LeO.refl _)
set_option maxHeartbeats 8000000 in
set_option maxRecDepth 100000 in
theorem impl_EightMoves.calls (k : Nat) (a0_0 a0_1 a0_2 a0_3 a0_4 a0_5 a0_6 a0_7 : Int) (A1 : Option Addr) (c1 : Nat) (l1 : List Int) (A2 : Option Addr) (c2 : Nat) (l2 : List Int) (r1 : List S52) (r2 : Int) (w : World) (hr1 : Kd.C (Kd.int .i64) w A1 l1.length l1) (hc1 : l1.length ≤ c1) (hr2 : Kd.C (Kd.int .i64) w A2 l2.length l2) (hc2 : l2.length ≤ c2) (h : impl_EightMoves.f k a0_0 a0_1 a0_2 a0_3 a0_4 a0_5 a0_6 a0_7 l1 l2 = some (r1, r2)) :
    Calls Try.prog 25 #[.agg #[.int .i64 a0_0, .int .i64 a0_1, .int .i64 a0_2, .int .i64 a0_3, .int .i64 a0_4, .int .i64 a0_5, .int .i64 a0_6, .int .i64 a0_7], .slice A1 l1.length c1, .slice A2 l2.length c2] w fun e w' => ∃ v0_ : Value, e = .returned (.tuple #[v0_, .int .i64 r2]) ∧ Kd.R k52 52 w' w.heap.size (fun _ => True) v0_ r1 ∧ Below w.heap.size w w' := by
  obtain ⟨⟨s, c⟩, hp, H⟩ := Option.bind_eq_some_iff.mp h
  have HP := Aside0.mk hp
  have HR := Aside0.mk hr1
  have HC := Aside0.mk hc1
  have HR2 := Aside0.mk hr2
  have HC2 := Aside0.mk hc2
  have hu42 := Try.underlying42
  have hu38 := Try.underlying38
  clear h hp hr1 hc1 hr2 hc2
  simp only at H
  by_cases c0 : c = 0
  · subst c0
    rw [if_pos rfl] at H
    simp only [Option.some.injEq, Prod.mk.injEq] at H
    obtain ⟨rfl, rfl⟩ := H
    go_enter Try.func25, Try.ntmps25
    go_wp2_with (first | (go_at_call 46; (with_reducible refine (eight_run_calls k a0_0 a0_1 a0_2 a0_3 a0_4 a0_5 a0_6 a0_7 l1 l2 A1 A2 c1 c2 s 0 _ ?s1 ?s2 ?s3 ?s4 HP.out).mono ?_); (case s1 => first | exact HR.out | exact Kd.C_alloc HR.out _); (case s2 => exact HC.out); (case s3 => first | exact HR2.out | exact Kd.C_alloc HR2.out _); (case s4 => exact HC2.out); rintro e w1 ⟨p, rfl, hm, hb⟩; obtain ⟨gw, rfl, mv, gv, e1, e2, e3, e4⟩ := hm rfl; obtain ⟨A3, c3, rfl⟩ := Kd.R_slice e3; have xg := (blk_cell e1 0).trans (show _ = some (Value.slice A3 s.ms.length c3) from rfl); have HG := Aside0.mk e3; have HB := Aside0.mk hb; clear hm hb e1 e2 e3 e4))
    go_ret2
    exact ⟨_, rfl, Kd.R_lower HG.out (by simp), below_step (below_alloc (Below.refl _ _) _) HB.out⟩
  · rw [if_neg c0] at H
    simp only [Option.some.injEq, Prod.mk.injEq] at H
    obtain ⟨rfl, rfl⟩ := H
    have hc0 : (c == 0) = false := beq_eq_false_iff_ne.mpr c0
    have hc2_ : (c != 0) = true := bne_iff_ne.mpr c0
    clear c0
    go_enter Try.func25, Try.ntmps25
    go_wp2_with (first | (go_at_call 46; (with_reducible refine (eight_run_calls k a0_0 a0_1 a0_2 a0_3 a0_4 a0_5 a0_6 a0_7 l1 l2 A1 A2 c1 c2 s c _ ?s1 ?s2 ?s3 ?s4 HP.out).mono ?_); (case s1 => first | exact HR.out | exact Kd.C_alloc HR.out _); (case s2 => exact HC.out); (case s3 => first | exact HR2.out | exact Kd.C_alloc HR2.out _); (case s4 => exact HC2.out); rintro e w1 ⟨p, rfl, hm, hb⟩; have HB := Aside0.mk hb; clear hm hb))
    go_ret2
    exact ⟨_, rfl, Kd.R_nil _ _ _ _ _, below_step (below_alloc (Below.refl _ _) _) HB.out⟩

end Go.Proofs.Ytgldplkbacfacaa.MFnExactEightMoves
