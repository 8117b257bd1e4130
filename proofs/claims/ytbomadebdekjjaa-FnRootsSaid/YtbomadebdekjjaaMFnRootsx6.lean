/- Functions of the program as Lean functions, and the proof that the code comes to what they say. Written by a program of this session (myprint.py). -/
import Derived.Test.YtbomadebdekjjaaMFnRootsx0
import Derived.Test.YtbomadebdekjjaaMFnRootsx5
namespace Go.Proofs.Ytbomadebdekjjaa.MFnRoots
open Go.RowKit Go.Proofs.Ytbomadebdekjjaa.MOpen Go.Proofs.YtbomadebdekjjaaW.PrintWords Go.Proofs.YtbomadebdekjjaaW.PrintLast Go.Proofs.YtbomadebdekjjaaW.PrintMore
attribute [local go_sem] max2_int min2_int max_two min_two max_three min_three max_four min_four   -- for this text's walks alone
set_option linter.unusedVariables false
set_option linter.unusedSimpArgs false

/-! ### impl_squareRoot: function 77 -/
def impl_squareRoot.l0 : Nat → Int → Int → Option (Int)
  | 0, _, _ => none
  | k + 1, x0, x3 => if (wrap64 ((wrap64 (x3 + 1)) * (wrap64 (x3 + 1)))) ≤ x0 then (impl_squareRoot.l0 k x0 (wrap64 (x3 + 1))) else (some x3)
def impl_squareRoot.f (k : Nat) (a0 : Int) : Option (Int) := impl_squareRoot.l0 k a0 0
theorem impl_squareRoot.mono_l : ∀ k, (∀ y0 y1, LeO (impl_squareRoot.l0 k y0 y1) (impl_squareRoot.l0 (k + 1) y0 y1))
  | 0 => fun _ _ r h => by simp [impl_squareRoot.l0] at h
  | k + 1 => by
    have ih0 := impl_squareRoot.mono_l k
    · intro y0 y1
      unfold impl_squareRoot.l0
      repeat' first
      | (with_reducible exact ih0 _ _)
      | (with_reducible exact LeO.refl _)
      | (with_reducible exact LeO.none _)
      | (with_reducible refine LeO.ite ?_ ?_)
      | (with_reducible refine LeO.bind ?_ (fun _ => ?_))
      | exact ih0 _ _
      | exact LeO.none _
      | refine LeO.ite ?_ ?_
      | refine LeO.bind ?_ (fun _ => ?_)
theorem impl_squareRoot.mono : ∀ a0 k, LeO (impl_squareRoot.f k a0) (impl_squareRoot.f (k + 1) a0) := by
  intro a0 k
  have ih0 := impl_squareRoot.mono_l k
  unfold impl_squareRoot.f
  repeat' first
      | (with_reducible exact ih0 _ _)
      | (with_reducible exact LeO.refl _)
      | (with_reducible exact LeO.none _)
      | (with_reducible refine LeO.ite ?_ ?_)
      | (with_reducible refine LeO.bind ?_ (fun _ => ?_))
      | exact ih0 _ _
      | exact LeO.none _
      | refine LeO.ite ?_ ?_
      | refine LeO.bind ?_ (fun _ => ?_)
set_option maxHeartbeats 8000000 in
set_option maxRecDepth 100000 in
theorem impl_squareRoot.calls (k : Nat) (a0 : Int) (r : Int) (w : World) (h : impl_squareRoot.f k a0 = some r) :
    Calls Try.prog 77 #[.int .i64 a0] w fun e w' => e = .returned (.int .i64 r) ∧ Drawn0 w w' := by
  have H : (impl_squareRoot.l0 k a0 0) = some r := h
  clear h
  have H' := Aside0.mk H
  clear H
  go_enter Try.func77, Try.ntmps77
  go_wp2
  go_loopg [3] k (fun kq v3 w' => ∃ (x3_1 : Int), v3 = .int .i64 x3_1 ∧ Aside0 (impl_squareRoot.l0 kq a0 x3_1 = some r) ∧ Aside0 (kq ≤ k) ∧ Drawn0 w w')
  case atStart => exact ⟨(0), (by first | rfl | (simp; done) | (simp [*]; done)), H', ⟨Nat.le_refl _⟩, by repeat (first | exact Drawn0.refl _ | apply Drawn0.step)⟩
  case round =>
    clear H'
    obtain ⟨x3_1, rfl, HA, HK1, ⟨m1, rfl⟩⟩ := hrel
    cases gk with
    | zero => exact absurd HA.out (by simp [impl_squareRoot.l0])
    | succ k1 =>
      have H := HA.out
      clear HA
      simp only [impl_squareRoot.l0] at H
      by_cases c2 : (wrap64 ((wrap64 (x3_1 + 1)) * (wrap64 (x3_1 + 1)))) ≤ a0
      · rw [if_pos c2] at H
        have c2b0 : decide ((wrap64 ((wrap64 (x3_1 + 1)) * (wrap64 (x3_1 + 1)))) ≤ a0) = true := decide_eq_true c2
        clear c2
        have H' := Aside0.mk H
        clear H
        go_wp2
        go_roundg k1
        case measure => have := HK1.out; omega
        case rel => exact ⟨(wrap64 (x3_1 + 1)), (by first | rfl | (simp; done) | (simp [*]; done)), H', ⟨by have := HK1.out; omega⟩, by repeat (first | exact Drawn0.refl _ | apply Drawn0.step)⟩
      · rw [if_neg c2] at H
        have c2b0 : decide ((wrap64 ((wrap64 (x3_1 + 1)) * (wrap64 (x3_1 + 1)))) ≤ a0) = false := decide_eq_false c2
        clear c2
        obtain rfl := Option.some.inj H
        go_wp2
        go_ret
        exact ⟨by first | rfl | (simp; done) | (simp [*]; done), by repeat (first | exact Drawn0.refl _ | apply Drawn0.step)⟩

/-! ### impl_RootTerms: function 39 -/
def impl_RootTerms.l0 : Nat → Int → Int → List Int → Int → Int → Int → Option (Int × List Int × Int)
  | 0, _, _, _, _, _, _ => none
  | k + 1, x0, x5, x6, x7, x8, x9 => if x9 = (wrap64 (2 * x5)) then (some (x5, x6, 0)) else (if x8 = 0 then (none) else (if (wrap64 (Int.tdiv (wrap64 (x0 - (wrap64 ((wrap64 ((wrap64 (x8 * x9)) - x7)) * (wrap64 ((wrap64 (x8 * x9)) - x7)))))) x8)) = 0 then (none) else (if (x6.length : Int) = 3000 then (some (0, ([] : List Int), 3)) else (if x6.length < 17592186044416 then (impl_RootTerms.l0 k x0 x5 (x6 ++ [wrap64 (Int.tdiv (wrap64 (x5 + (wrap64 ((wrap64 (x8 * x9)) - x7)))) (wrap64 (Int.tdiv (wrap64 (x0 - (wrap64 ((wrap64 ((wrap64 (x8 * x9)) - x7)) * (wrap64 ((wrap64 (x8 * x9)) - x7)))))) x8)))]) (wrap64 ((wrap64 (x8 * x9)) - x7)) (wrap64 (Int.tdiv (wrap64 (x0 - (wrap64 ((wrap64 ((wrap64 (x8 * x9)) - x7)) * (wrap64 ((wrap64 (x8 * x9)) - x7)))))) x8)) (wrap64 (Int.tdiv (wrap64 (x5 + (wrap64 ((wrap64 (x8 * x9)) - x7)))) (wrap64 (Int.tdiv (wrap64 (x0 - (wrap64 ((wrap64 ((wrap64 (x8 * x9)) - x7)) * (wrap64 ((wrap64 (x8 * x9)) - x7)))))) x8))))) else (none)))))
def impl_RootTerms.f (k : Nat) (a0 : Int) : Option (Int × List Int × Int) := (impl_within.f a0 0 1000000).bind fun t180 => (if t180 = true then ((impl_squareRoot.f k a0).bind fun t181 => (if (wrap64 (t181 * t181)) = a0 then (some (t181, ([] : List Int), 0)) else (impl_RootTerms.l0 k a0 t181 (([] : List Int)) 0 1 t181))) else (some (0, ([] : List Int), 2)))
theorem impl_RootTerms.mono_l : ∀ k, (∀ y0 y1 y2 y3 y4 y5, LeO (impl_RootTerms.l0 k y0 y1 y2 y3 y4 y5) (impl_RootTerms.l0 (k + 1) y0 y1 y2 y3 y4 y5))
  | 0 => fun _ _ _ _ _ _ r h => by simp [impl_RootTerms.l0] at h
  | k + 1 => by
    have ih0 := impl_RootTerms.mono_l k
    · intro y0 y1 y2 y3 y4 y5
      unfold impl_RootTerms.l0
      repeat' first
      | (with_reducible exact ih0 _ _ _ _ _ _)
      | (with_reducible exact impl_squareRoot.mono _ _)
      | (with_reducible exact LeO.refl _)
      | (with_reducible exact LeO.none _)
      | (with_reducible refine LeO.ite ?_ ?_)
      | (with_reducible refine LeO.bind ?_ (fun _ => ?_))
      | exact ih0 _ _ _ _ _ _
      | exact impl_squareRoot.mono _ _
      | exact LeO.none _
      | refine LeO.ite ?_ ?_
      | refine LeO.bind ?_ (fun _ => ?_)
theorem impl_RootTerms.mono : ∀ a0 k, LeO (impl_RootTerms.f k a0) (impl_RootTerms.f (k + 1) a0) := by
  intro a0 k
  have ih0 := impl_RootTerms.mono_l k
  unfold impl_RootTerms.f
  repeat' first
      | (with_reducible exact ih0 _ _ _ _ _ _)
      | (with_reducible exact impl_squareRoot.mono _ _)
      | (with_reducible exact LeO.refl _)
      | (with_reducible exact LeO.none _)
      | (with_reducible refine LeO.ite ?_ ?_)
      | (with_reducible refine LeO.bind ?_ (fun _ => ?_))
      | exact ih0 _ _ _ _ _ _
      | exact impl_squareRoot.mono _ _
      | exact LeO.none _
      | refine LeO.ite ?_ ?_
      | refine LeO.bind ?_ (fun _ => ?_)
set_option maxHeartbeats 8000000 in
set_option maxRecDepth 100000 in
theorem impl_RootTerms.calls (k : Nat) (a0 : Int) (r1 : Int) (r2 : List Int) (r3 : Int) (w : World) (h : impl_RootTerms.f k a0 = some (r1, r2, r3)) :
    Calls Try.prog 39 #[.int .i64 a0] w fun e w' => ∃ v1_ : Value, e = .returned (.tuple #[.int .i64 r1, v1_, .int .i64 r3]) ∧ Kd.R (Kd.int .i64) 2 w' w.heap.size (fun _ => True) v1_ r2 ∧ Below w.heap.size w w' := by
  have HB := Aside0.mk (Below.refl w.heap.size w)
  have H : ((impl_within.f a0 0 1000000).bind fun t180 => (if t180 = true then ((impl_squareRoot.f k a0).bind fun t181 => (if (wrap64 (t181 * t181)) = a0 then (some (t181, ([] : List Int), 0)) else (impl_RootTerms.l0 k a0 t181 (([] : List Int)) 0 1 t181))) else (some (0, ([] : List Int), 2)))) = some (r1, r2, r3) := h
  clear h
  replace H := Option.bind_eq_some_iff.mp H
  obtain ⟨t180, A20, H⟩ := H
  replace H : (if t180 = true then ((impl_squareRoot.f k a0).bind fun t181 => (if (wrap64 (t181 * t181)) = a0 then (some (t181, ([] : List Int), 0)) else (impl_RootTerms.l0 k a0 t181 (([] : List Int)) 0 1 t181))) else (some (0, ([] : List Int), 2))) = some (r1, r2, r3) := H
  have A2 := Aside0.mk A20
  clear A20
  by_cases c3 : t180 = true
  · subst c3
    have H1 : ((impl_squareRoot.f k a0).bind fun t181 => (if (wrap64 (t181 * t181)) = a0 then (some (t181, ([] : List Int), 0)) else (impl_RootTerms.l0 k a0 t181 (([] : List Int)) 0 1 t181))) = some (r1, r2, r3) := by rw [if_pos rfl] at H; exact H
    clear H
    have H := H1
    clear H1
    replace H := Option.bind_eq_some_iff.mp H
    obtain ⟨t181, A40, H⟩ := H
    replace H : (if (wrap64 (t181 * t181)) = a0 then (some (t181, ([] : List Int), 0)) else (impl_RootTerms.l0 k a0 t181 (([] : List Int)) 0 1 t181)) = some (r1, r2, r3) := H
    have A4 := Aside0.mk A40
    clear A40
    by_cases c5 : (wrap64 (t181 * t181)) = a0
    · rw [if_pos c5] at H
      have c5b0 : ((wrap64 (t181 * t181)) == a0) = true := beq_iff_eq.mpr c5
      have c5b1 : ((wrap64 (t181 * t181)) != a0) = false := bne_eq_false_iff_eq.mpr c5
      clear c5
      simp only [Option.some.injEq, Prod.mk.injEq] at H
      obtain ⟨rfl, rfl, rfl⟩ := H
      go_enter Try.func39, Try.ntmps39
      go_wp2_with (first | ((with_reducible refine gate_callee (f := 76) rfl ?_); refine goesL_ (some 11) rfl rfl Try.func76 (by kernel_rfl) rfl #[.int .i64 a0, .int .i64 0, .int .i64 1000000] rfl (by (try simp only [List.map_toArray, List.map_cons, List.map_nil]); first | done | rfl | (simp only [List.length_drop, List.length_take]; rfl) | (simp only [List.drop_one]; done) | (simp only [List.drop_one]; rfl)) ?_; (with_reducible refine (impl_within.calls a0 0 1000000 true _ A2.out).mono ?_); rintro e w' ⟨rfl, ⟨nd, rfl⟩⟩; refine ⟨_, rfl, ?_⟩) | ((with_reducible refine gate_callee (f := 77) rfl ?_); refine goesL_ (some 14) rfl rfl Try.func77 (by kernel_rfl) rfl #[.int .i64 a0] rfl (by (try simp only [List.map_toArray, List.map_cons, List.map_nil]); first | done | rfl | (simp only [List.length_drop, List.length_take]; rfl) | (simp only [List.drop_one]; done) | (simp only [List.drop_one]; rfl)) ?_; (with_reducible refine (impl_squareRoot.calls k a0 t181 _ A4.out).mono ?_); rintro e w' ⟨rfl, ⟨nd, rfl⟩⟩; refine ⟨_, rfl, ?_⟩))
      go_ret3
      exact ⟨_, by first | rfl | (simp [errW_none, errW_some] <;> rfl) | (simp [*, errW_none, errW_some] <;> rfl), by first | exact Kd.R_nil _ _ _ _ _ | exact Kd.N_nil _ _ _ _ _ | exact Kd.V_nil _ _ _ _ _ | exact Kd.Q_nil _ _ _ _ _ | exact Kd.S_nil _ _ _ _ _, by repeat (first | (with_reducible first | exact HB.out | apply below_alloc | apply pw_below_drewN | apply below_drew1) | exact HB.out)⟩
    · rw [if_neg c5] at H
      have c5b0 : ((wrap64 (t181 * t181)) == a0) = false := beq_eq_false_iff_ne.mpr c5
      have c5b1 : ((wrap64 (t181 * t181)) != a0) = true := bne_iff_ne.mpr c5
      obtain ⟨y182, hy182⟩ : ∃ y_ : List Int, y_ = (([] : List Int)) := ⟨_, rfl⟩
      replace H : (impl_RootTerms.l0 k a0 t181 y182 0 1 t181) = some (r1, r2, r3) := by first | (rw [hy182]; with_reducible exact H) | (have H2_ := (Option.bind_some _ _).symm.trans H; rw [hy182]; with_reducible exact H2_) | (have H2_ := (Option.bind_some _ _).symm.trans H; with_reducible exact H2_) | with_reducible exact H | (rw [hy182]; exact H) | exact H
      have Ny182 := Aside0.mk hy182
      clear hy182
      have H' := Aside0.mk H
      clear H
      go_enter Try.func39, Try.ntmps39
      go_wp2_with (first | ((with_reducible refine gate_callee (f := 76) rfl ?_); refine goesL_ (some 11) rfl rfl Try.func76 (by kernel_rfl) rfl #[.int .i64 a0, .int .i64 0, .int .i64 1000000] rfl (by (try simp only [List.map_toArray, List.map_cons, List.map_nil]); first | done | rfl | (simp only [List.length_drop, List.length_take]; rfl) | (simp only [List.drop_one]; done) | (simp only [List.drop_one]; rfl)) ?_; (with_reducible refine (impl_within.calls a0 0 1000000 true _ A2.out).mono ?_); rintro e w' ⟨rfl, ⟨nd, rfl⟩⟩; refine ⟨_, rfl, ?_⟩) | ((with_reducible refine gate_callee (f := 77) rfl ?_); refine goesL_ (some 14) rfl rfl Try.func77 (by kernel_rfl) rfl #[.int .i64 a0] rfl (by (try simp only [List.map_toArray, List.map_cons, List.map_nil]); first | done | rfl | (simp only [List.length_drop, List.length_take]; rfl) | (simp only [List.drop_one]; done) | (simp only [List.drop_one]; rfl)) ?_; (with_reducible refine (impl_squareRoot.calls k a0 t181 _ A4.out).mono ?_); rintro e w' ⟨rfl, ⟨nd, rfl⟩⟩; refine ⟨_, rfl, ?_⟩) | ((with_reducible refine gate_dst (N := 21) rfl ?_); refine Kd.R_lit (Kd.int .i64) _ 2 ?hg (N := 21) ?hd (xs := ([] : List Int)) (inner := []) (ok := fun _ => True) (okp := fun _ => True) ?hr ?hp (fun _ hk => hk) trivial (Below.refl _ _) (Nat.le_refl _) (by simp) ?_; (case hd => rfl); (case hg => rfl); (case hr => first | (go_simp; done) | (go_simp; rfl)); (case hp => exact (Reps.none _ _)); intro v183 w6 ho7 hb hg_ hnew_; clear hg_ hnew_; (first | rw [← Ny182.out] at ho7 | (simp only [Int.reduceToNat] at ho7; rw [← Ny182.out] at ho7)); have n0_ := Aside0.mk (Kd.R_lower ho7 (below_size (by repeat (first | (with_reducible first | exact HB.out | apply below_alloc | apply pw_below_drewN | apply below_drew1) | exact HB.out)))); have n1_ := Aside0.mk (below_step (by repeat (first | (with_reducible first | exact HB.out | apply below_alloc | apply pw_below_drewN | apply below_drew1) | exact HB.out)) hb); clear HB; have HO184 := n0_; have HB := n1_; clear n0_ n1_; clear hb ho7))
      go_loopg [6, 7, 8, 9] k (fun kq v6 v7 v8 v9 w' => ∃ (x6_1 : List Int) (x7_1 : Int) (x8_1 : Int) (x9_1 : Int), v7 = .int .i64 x7_1 ∧ v8 = .int .i64 x8_1 ∧ v9 = .int .i64 x9_1 ∧ Aside0 (impl_RootTerms.l0 kq a0 t181 x6_1 x7_1 x8_1 x9_1 = some (r1, r2, r3)) ∧ Aside0 (kq ≤ k) ∧ Aside0 (Kd.R (Kd.int .i64) 2 w' w.heap.size (fun _ => True) v6 x6_1) ∧ Aside0 (Below w.heap.size w w'))
      case atStart => exact ⟨(y182), (0), (1), (t181), (by first | rfl | (simp; done) | (simp [*]; done)), (by first | rfl | (simp; done) | (simp [*]; done)), (by first | rfl | (simp; done) | (simp [*]; done)), H', ⟨Nat.le_refl _⟩, ⟨by (with_reducible repeat (first | apply Kd.R_alloc | apply Kd.R_drewN | apply Kd.R_drew)); exact HO184.out⟩, ⟨by repeat (first | (with_reducible first | exact HB.out | apply below_alloc | apply pw_below_drewN | apply below_drew1) | exact HB.out)⟩⟩
      case round =>
        clear H'
        try clear p2
        try clear c3
        try clear c5
        try clear c5b0
        try clear c5b1
        try clear p6
        try clear c7
        obtain ⟨x6_1, x7_1, x8_1, x9_1, rfl, rfl, rfl, HA, HK1, HO_6, HB⟩ := hrel
        cases gk with
        | zero => exact absurd HA.out (by simp [impl_RootTerms.l0])
        | succ k1 =>
          have H := HA.out
          clear HA
          simp only [impl_RootTerms.l0] at H
          by_cases c8 : x9_1 = (wrap64 (2 * t181))
          · rw [if_pos c8] at H
            have c8b0 : (x9_1 == (wrap64 (2 * t181))) = true := beq_iff_eq.mpr c8
            have c8b1 : (x9_1 != (wrap64 (2 * t181))) = false := bne_eq_false_iff_eq.mpr c8
            clear c8
            simp only [Option.some.injEq, Prod.mk.injEq] at H
            obtain ⟨rfl, rfl, rfl⟩ := H
            go_wp2
            go_ret3
            exact ⟨_, by first | rfl | (simp [errW_none, errW_some] <;> rfl) | (simp [*, errW_none, errW_some] <;> rfl), by (with_reducible repeat (first | apply Kd.R_alloc | apply Kd.R_drewN | apply Kd.R_drew)); exact HO_6.out, by repeat (first | (with_reducible first | exact HB.out | apply below_alloc | apply pw_below_drewN | apply below_drew1) | exact HB.out)⟩
          · rw [if_neg c8] at H
            have c8b0 : (x9_1 == (wrap64 (2 * t181))) = false := beq_eq_false_iff_ne.mpr c8
            have c8b1 : (x9_1 != (wrap64 (2 * t181))) = true := bne_iff_ne.mpr c8
            by_cases c9 : x8_1 = 0
            · rw [if_pos c9] at H
              exact absurd H (by simp)
            · rw [if_neg c9] at H
              have c9b0 : (x8_1 == 0) = false := beq_eq_false_iff_ne.mpr c9
              have c9b1 : (x8_1 != 0) = true := bne_iff_ne.mpr c9
              by_cases c10 : (wrap64 (Int.tdiv (wrap64 (a0 - (wrap64 ((wrap64 ((wrap64 (x8_1 * x9_1)) - x7_1)) * (wrap64 ((wrap64 (x8_1 * x9_1)) - x7_1)))))) x8_1)) = 0
              · rw [if_pos c10] at H
                exact absurd H (by simp)
              · rw [if_neg c10] at H
                have c10b0 : ((wrap64 (Int.tdiv (wrap64 (a0 - (wrap64 ((wrap64 ((wrap64 (x8_1 * x9_1)) - x7_1)) * (wrap64 ((wrap64 (x8_1 * x9_1)) - x7_1)))))) x8_1)) == 0) = false := beq_eq_false_iff_ne.mpr c10
                have c10b1 : ((wrap64 (Int.tdiv (wrap64 (a0 - (wrap64 ((wrap64 ((wrap64 (x8_1 * x9_1)) - x7_1)) * (wrap64 ((wrap64 (x8_1 * x9_1)) - x7_1)))))) x8_1)) != 0) = true := bne_iff_ne.mpr c10
                by_cases c11 : (x6_1.length : Int) = 3000
                · rw [if_pos c11] at H
                  have c11b0 : ((x6_1.length : Int) == 3000) = true := beq_iff_eq.mpr c11
                  have c11b1 : ((x6_1.length : Int) != 3000) = false := bne_eq_false_iff_eq.mpr c11
                  clear c11
                  simp only [Option.some.injEq, Prod.mk.injEq] at H
                  obtain ⟨rfl, rfl, rfl⟩ := H
                  obtain ⟨Ao12, co12, eo12⟩ := Kd.R_slice HO_6.out
                  subst eo12
                  go_wp2
                  go_ret3
                  exact ⟨_, by first | rfl | (simp [errW_none, errW_some] <;> rfl) | (simp [*, errW_none, errW_some] <;> rfl), by first | exact Kd.R_nil _ _ _ _ _ | exact Kd.N_nil _ _ _ _ _ | exact Kd.V_nil _ _ _ _ _ | exact Kd.Q_nil _ _ _ _ _ | exact Kd.S_nil _ _ _ _ _, by repeat (first | (with_reducible first | exact HB.out | apply below_alloc | apply pw_below_drewN | apply below_drew1) | exact HB.out)⟩
                · rw [if_neg c11] at H
                  have c11b0 : ((x6_1.length : Int) == 3000) = false := beq_eq_false_iff_ne.mpr c11
                  have c11b1 : ((x6_1.length : Int) != 3000) = true := bne_iff_ne.mpr c11
                  by_cases c13 : x6_1.length < 17592186044416
                  · rw [if_pos c13] at H
                    have LMc13 := Aside0.mk c13
                    clear c13
                    obtain ⟨y185, hy185⟩ : ∃ y_ : List Int, y_ = (x6_1 ++ [wrap64 (Int.tdiv (wrap64 (t181 + (wrap64 ((wrap64 (x8_1 * x9_1)) - x7_1)))) (wrap64 (Int.tdiv (wrap64 (a0 - (wrap64 ((wrap64 ((wrap64 (x8_1 * x9_1)) - x7_1)) * (wrap64 ((wrap64 (x8_1 * x9_1)) - x7_1)))))) x8_1)))]) := ⟨_, rfl⟩
                    replace H : (impl_RootTerms.l0 k1 a0 t181 y185 (wrap64 ((wrap64 (x8_1 * x9_1)) - x7_1)) (wrap64 (Int.tdiv (wrap64 (a0 - (wrap64 ((wrap64 ((wrap64 (x8_1 * x9_1)) - x7_1)) * (wrap64 ((wrap64 (x8_1 * x9_1)) - x7_1)))))) x8_1)) (wrap64 (Int.tdiv (wrap64 (t181 + (wrap64 ((wrap64 (x8_1 * x9_1)) - x7_1)))) (wrap64 (Int.tdiv (wrap64 (a0 - (wrap64 ((wrap64 ((wrap64 (x8_1 * x9_1)) - x7_1)) * (wrap64 ((wrap64 (x8_1 * x9_1)) - x7_1)))))) x8_1))))) = some (r1, r2, r3) := by first | (rw [hy185]; with_reducible exact H) | (have H2_ := (Option.bind_some _ _).symm.trans H; rw [hy185]; with_reducible exact H2_) | (have H2_ := (Option.bind_some _ _).symm.trans H; with_reducible exact H2_) | with_reducible exact H | (rw [hy185]; exact H) | exact H
                    have Ny185 := Aside0.mk hy185
                    clear hy185
                    have H' := Aside0.mk H
                    clear H
                    obtain ⟨Ao14, co14, eo14⟩ := Kd.R_slice HO_6.out
                    subst eo14
                    go_wp2_with (first | ((with_reducible refine gate_builtin (b := .append) (xs := #[.tmp 47, .tmp 49]) rfl ?_); at_builtin; refine Kd.R_append (Kd.int .i64) (w0 := w) w.heap.size rfl (.tmp 47) (.tmp 49) 32 2 (.int .i64 0) 8 rfl Try.underlying32 info2 rfl (by decide) (by omega) (.slice Ao14 x6_1.length co14) x6_1 (wrap64 (Int.tdiv (wrap64 (t181 + (wrap64 ((wrap64 (x8_1 * x9_1)) - x7_1)))) (wrap64 (Int.tdiv (wrap64 (a0 - (wrap64 ((wrap64 ((wrap64 (x8_1 * x9_1)) - x7_1)) * (wrap64 ((wrap64 (x8_1 * x9_1)) - x7_1)))))) x8_1)))) [.int .i64 (wrap64 (Int.tdiv (wrap64 (t181 + (wrap64 ((wrap64 (x8_1 * x9_1)) - x7_1)))) (wrap64 (Int.tdiv (wrap64 (a0 - (wrap64 ((wrap64 ((wrap64 (x8_1 * x9_1)) - x7_1)) * (wrap64 ((wrap64 (x8_1 * x9_1)) - x7_1)))))) x8_1))))] (fun _ => True) (fun _ => False) rfl rfl ?aP (fun _ hk => hk.elim) ?aF ?aO ?aB ?aS ?aL ?_; (case aP => exact rfl); (case aB => exact (by repeat (first | (with_reducible first | exact HB.out | apply below_alloc | apply pw_below_drewN | apply below_drew1) | exact HB.out))); (case aF => exact (fun _ _ => trivial)); (case aO => exact (by (with_reducible repeat (first | apply Kd.R_alloc | apply Kd.R_drewN | apply Kd.R_drew)); exact HO_6.out)); (case aS => exact (below_size (by repeat (first | (with_reducible first | exact HB.out | apply below_alloc | apply pw_below_drewN | apply below_drew1) | exact HB.out)))); (case aL => have := LMc13.out; omega); intro v186 w15 ho hb hg hat; rw [← Ny185.out] at ho; have n0_ := Aside0.mk (hb); have n1_ := Aside0.mk (ho); clear HB HO_6; have HB := n0_; have HO187 := n1_; clear n0_ n1_; clear ho hb hg hat))
                    go_roundg k1
                    case measure => have := HK1.out; omega
                    case rel => exact ⟨(y185), (wrap64 ((wrap64 (x8_1 * x9_1)) - x7_1)), (wrap64 (Int.tdiv (wrap64 (a0 - (wrap64 ((wrap64 ((wrap64 (x8_1 * x9_1)) - x7_1)) * (wrap64 ((wrap64 (x8_1 * x9_1)) - x7_1)))))) x8_1)), (wrap64 (Int.tdiv (wrap64 (t181 + (wrap64 ((wrap64 (x8_1 * x9_1)) - x7_1)))) (wrap64 (Int.tdiv (wrap64 (a0 - (wrap64 ((wrap64 ((wrap64 (x8_1 * x9_1)) - x7_1)) * (wrap64 ((wrap64 (x8_1 * x9_1)) - x7_1)))))) x8_1)))), (by first | rfl | (simp; done) | (simp [*]; done)), (by first | rfl | (simp; done) | (simp [*]; done)), (by first | rfl | (simp; done) | (simp [*]; done)), H', ⟨by have := HK1.out; omega⟩, ⟨by (with_reducible repeat (first | apply Kd.R_alloc | apply Kd.R_drewN | apply Kd.R_drew)); exact HO187.out⟩, ⟨by repeat (first | (with_reducible first | exact HB.out | apply below_alloc | apply pw_below_drewN | apply below_drew1) | exact HB.out)⟩⟩
                  · rw [if_neg c13] at H
                    exact absurd H (by simp)
  · replace c3 := Bool.eq_false_iff.mpr c3
    subst c3
    have H1 : (some (0, ([] : List Int), 2)) = some (r1, r2, r3) := by rw [if_neg (show ¬ (false = true) by decide)] at H; exact H
    clear H
    have H := H1
    clear H1
    simp only [Option.some.injEq, Prod.mk.injEq] at H
    obtain ⟨rfl, rfl, rfl⟩ := H
    go_enter Try.func39, Try.ntmps39
    go_wp2_with (first | ((with_reducible refine gate_callee (f := 76) rfl ?_); refine goesL_ (some 11) rfl rfl Try.func76 (by kernel_rfl) rfl #[.int .i64 a0, .int .i64 0, .int .i64 1000000] rfl (by (try simp only [List.map_toArray, List.map_cons, List.map_nil]); first | done | rfl | (simp only [List.length_drop, List.length_take]; rfl) | (simp only [List.drop_one]; done) | (simp only [List.drop_one]; rfl)) ?_; (with_reducible refine (impl_within.calls a0 0 1000000 false _ A2.out).mono ?_); rintro e w' ⟨rfl, ⟨nd, rfl⟩⟩; refine ⟨_, rfl, ?_⟩))
    go_ret3
    exact ⟨_, by first | rfl | (simp [errW_none, errW_some] <;> rfl) | (simp [*, errW_none, errW_some] <;> rfl), by first | exact Kd.R_nil _ _ _ _ _ | exact Kd.N_nil _ _ _ _ _ | exact Kd.V_nil _ _ _ _ _ | exact Kd.Q_nil _ _ _ _ _ | exact Kd.S_nil _ _ _ _ _, by repeat (first | (with_reducible first | exact HB.out | apply below_alloc | apply pw_below_drewN | apply below_drew1) | exact HB.out)⟩

/-! ### impl_rootTerm: function 79 -/
def impl_rootTerm.f (a0 : Int) (l1 : List Int) (a2 : Int) : Option (Int) := if a2 = 0 then (some a0) else (if (l1.length : Int) = 0 then (none) else (if 0 ≤ (Int.tmod (wrap64 (a2 - 1)) (l1.length : Int)) then (if (Int.tmod (wrap64 (a2 - 1)) (l1.length : Int)) < (l1.length : Int) then (some (rd l1 (Int.tmod (wrap64 (a2 - 1)) (l1.length : Int)))) else (none)) else (none)))
set_option maxHeartbeats 8000000 in
set_option maxRecDepth 100000 in
theorem impl_rootTerm.calls (a0 : Int) (A1 : Option Addr) (c1 : Nat) (l1 : List Int) (a2 : Int) (r : Int) (w : World) (hr1 : Kd.C (Kd.int .i64) w A1 l1.length l1) (hc1 : l1.length ≤ c1) (h : impl_rootTerm.f a0 l1 a2 = some r) :
    Calls Try.prog 79 #[.int .i64 a0, .slice A1 l1.length c1, .int .i64 a2] w fun e w' => e = .returned (.int .i64 r) ∧ Drawn0 w w' := by
  have HR1 := Aside0.mk hr1
  have HC1 := Aside0.mk hc1
  clear hr1 hc1
  have H : (if a2 = 0 then (some a0) else (if (l1.length : Int) = 0 then (none) else (if 0 ≤ (Int.tmod (wrap64 (a2 - 1)) (l1.length : Int)) then (if (Int.tmod (wrap64 (a2 - 1)) (l1.length : Int)) < (l1.length : Int) then (some (rd l1 (Int.tmod (wrap64 (a2 - 1)) (l1.length : Int)))) else (none)) else (none)))) = some r := h
  clear h
  by_cases c4 : a2 = 0
  · rw [if_pos c4] at H
    have c4b0 : (a2 == 0) = true := beq_iff_eq.mpr c4
    have c4b1 : (a2 != 0) = false := bne_eq_false_iff_eq.mpr c4
    clear c4
    obtain rfl := Option.some.inj H
    go_enter Try.func79, Try.ntmps79
    go_wp2
    go_ret
    exact ⟨by first | rfl | (simp; done) | (simp [*]; done), by repeat (first | exact Drawn0.refl _ | apply Drawn0.step)⟩
  · rw [if_neg c4] at H
    have c4b0 : (a2 == 0) = false := beq_eq_false_iff_ne.mpr c4
    have c4b1 : (a2 != 0) = true := bne_iff_ne.mpr c4
    by_cases c5 : (l1.length : Int) = 0
    · rw [if_pos c5] at H
      exact absurd H (by simp)
    · rw [if_neg c5] at H
      have c5b0 : ((l1.length : Int) == 0) = false := beq_eq_false_iff_ne.mpr c5
      have c5b1 : ((l1.length : Int) != 0) = true := bne_iff_ne.mpr c5
      have c5b2 : ¬ (l1 = []) := fun h_ => c5 (by rw [h_]; rfl)
      obtain ⟨ji6, hji6⟩ : ∃ j_ : Int, (Int.tmod (wrap64 (a2 - 1)) (l1.length : Int)) = j_ := ⟨_, rfl⟩
      replace H : (if 0 ≤ (ji6) then (if (ji6) < (l1.length : Int) then (some (rd l1 (ji6))) else (none)) else (none)) = some r := by first | (rw [hji6] at H; exact H) | (simp only [hji6] at H ⊢; exact H)
      by_cases c7 : 0 ≤ (ji6)
      · rw [if_pos c7] at H
        have c7b0 : decide (0 ≤ (ji6)) = true := decide_eq_true c7
        clear c7
        by_cases c8 : (ji6) < (l1.length : Int)
        · rw [if_pos c8] at H
          have c8b0 : decide ((ji6) < (l1.length : Int)) = true := decide_eq_true c8
          clear c8
          obtain rfl := Option.some.inj H
          have p188 : 0 ≤ ((ji6) : Int) := of_decide_eq_true (by first | (with_reducible assumption) | assumption)
          have q188 : (ji6) < (l1.length : Int) := of_decide_eq_true (by first | (with_reducible assumption) | assumption)
          obtain ⟨ad188, e188, hx188_0⟩ := Kd.at_int HR1.out (ji6) p188 q188
          cases e188
          replace p188 := eq_true p188
          replace q188 := eq_true q188
          go_enter Try.func79, Try.ntmps79
          go_wp2
          go_ret
          exact ⟨by first | rfl | (simp; done) | (simp only [← hji6] <;> (first | rfl | simp)) | (simp [*]; done), by repeat (first | exact Drawn0.refl _ | apply Drawn0.step)⟩
        · rw [if_neg c8] at H
          exact absurd H (by simp)
      · rw [if_neg c7] at H
        exact absurd H (by simp)


/-! ### impl_WideOf: function 88 -/
def impl_WideOf.f (a0 : Int) : Option (S24) := if -9223372036854775808 ≤ a0 ∧ a0 < 9223372036854775808 then some (wenc a0) else none
theorem impl_WideOf.calls (a0 : Int) (r : S24) (w : World) (h : impl_WideOf.f a0 = some r) :
    Calls Try.prog 88 #[.int .i64 a0] w fun e w' => e = .returned (.agg #[.bool r.f0, .int .u32 r.f1.f0, .int .u32 r.f1.f1, .int .u32 r.f1.f2, .int .u32 r.f1.f3, .int .u32 r.f1.f4, .int .u32 r.f1.f5]) ∧ Below w.heap.size w w' := by
 unfold impl_WideOf.f at h
 split at h
 · rename_i c
   obtain rfl := Option.some.inj h
   exact Wide.iOf w a0 c.1 c.2
 · exact absurd h (by simp)





set_option linter.defProp false
def kA89_ := @blk_alloc
def kN89_ := @blk_drewN
def kD89_ := @blk_drew
def bS89_ := @below_set
def aM89_ := @Aside0.mk
def kB89_ := @blk_below
def kC89_ := @blk_cell
theorem q89x1_ {P : Prop} (h : P := by (with_reducible repeat (first | refine kN89_ ?_ _ | refine kD89_ ?_ | refine kA89_ ?_ _)); exact BK212.out) : P := h
theorem q89x2_ {P : Prop} (h : P := by repeat (first | (with_reducible first | exact HK.out | apply KeepBut.set_ | apply keep_drewN | apply keep_drew | apply keep_alloc | refine keep_far ?_ GW212.out _ | refine keep_far ?_ GW213.out _ | refine keep_far ?_ GW214.out _) | exact HK.out)) : P := h
theorem q89x3_ {P : Prop} (h : P := by repeat (first | (with_reducible first | exact HB.out | apply below_alloc | apply pw_below_drewN | apply below_drew1 | refine bS89_ ?_ (IsS79.ge HI0.out) | refine bS89_ ?_ GE212.out | refine bS89_ ?_ GE213.out | refine bS89_ ?_ GE214.out) | exact HB.out)) : P := h
theorem q89x4_ {P : Prop} (h : P := by (with_reducible repeat (first | refine kN89_ ?_ _ | refine kD89_ ?_ | refine kA89_ ?_ _)); exact BK213.out) : P := h
theorem q89x5_ {P : Prop} (h : P := by repeat (first | (with_reducible first | exact HI0.out | apply IsS79.alloc | apply IsS79.drewN | apply IsS79.drew | apply IsS79.set_0 | refine IsS79.far ?_ NB0_212.out _ | refine IsS79.far ?_ NB0_213.out _ | refine IsS79.far ?_ NB0_214.out _) | exact HI0.out)) : P := h
theorem q89x6_ {P : Prop} (h : P := by repeat (first | (with_reducible first | exact HK.out | apply KeepBut.set_ | apply keep_drewN | apply keep_drew | apply keep_alloc | refine keep_far ?_ GW212.out _ | refine keep_far ?_ GW213.out _) | exact HK.out)) : P := h
theorem q89x7_ {P : Prop} (h : P := by (with_reducible repeat (first | refine kN89_ ?_ _ | refine kD89_ ?_ | refine kA89_ ?_ _)); exact BK214.out) : P := h
theorem q89x8_ {P : Prop} (h : P := by repeat (first | (with_reducible first | exact HK.out | apply KeepBut.set_ | apply keep_drewN | apply keep_drew | apply keep_alloc | refine keep_far ?_ GW212.out _) | exact HK.out)) : P := h
theorem q89x9_ {P : Prop} (h : P := by rw [hg]; exact Nat.ne_of_lt (blk_lt (g := gb212) (o := .cells #[.bool a1.f0, .int .u32 a1.f1.f0, .int .u32 a1.f1.f1, .int .u32 a1.f1.f2, .int .u32 a1.f1.f3, .int .u32 a1.f1.f4, .int .u32 a1.f1.f5] 25 (0, 0)) q89x1_)) : P := h
theorem q89x10_ {P : Prop} (h : P := by rw [hg]; exact Nat.ne_of_gt (blk_lt (g := gb212) (o := .cells #[.bool a1.f0, .int .u32 a1.f1.f0, .int .u32 a1.f1.f1, .int .u32 a1.f1.f2, .int .u32 a1.f1.f3, .int .u32 a1.f1.f4, .int .u32 a1.f1.f5] 25 (0, 0)) q89x1_)) : P := h
theorem q89x11_ {P : Prop} (h : P := by (try simp only [List.map_toArray, List.map_cons, List.map_nil]); first | done | rfl | (simp only [List.length_drop, List.length_take]; rfl) | (simp only [List.drop_one]; done) | (simp only [List.drop_one]; rfl)) : P := h
theorem q89x12_ {P : Prop} (h : P := by repeat (first | (with_reducible first | exact HK.out | apply KeepBut.set_ | apply keep_drewN | apply keep_drew | apply keep_alloc) | exact HK.out)) : P := h
theorem q89x13_ {P : Prop} (h : P := by repeat (first | (with_reducible first | exact HB.out | apply below_alloc | apply pw_below_drewN | apply below_drew1 | refine bS89_ ?_ (IsS79.ge HI0.out) | refine bS89_ ?_ GE212.out | refine bS89_ ?_ GE213.out | refine bS89_ ?_ GE214.out | refine bS89_ ?_ GE217.out) | exact HB.out)) : P := h
theorem q89x14_ {P : Prop} (h : P := by repeat (first | (with_reducible first | exact HK.out | apply KeepBut.set_ | apply keep_drewN | apply keep_drew | apply keep_alloc | refine keep_far ?_ GW212.out _ | refine keep_far ?_ GW213.out _ | refine keep_far ?_ GW214.out _ | refine keep_far ?_ GW217.out _) | exact HK.out)) : P := h
theorem q89x15_ {P : Prop} (h : P := by rw [hg]; exact Nat.ne_of_lt (blk_lt (g := gb213) (o := .cells #[.bool a2.f0, .int .u32 a2.f1.f0, .int .u32 a2.f1.f1, .int .u32 a2.f1.f2, .int .u32 a2.f1.f3, .int .u32 a2.f1.f4, .int .u32 a2.f1.f5] 25 (0, 0)) q89x4_)) : P := h
theorem q89x16_ {P : Prop} (h : P := by rw [hg]; exact Nat.ne_of_gt (blk_lt (g := gb213) (o := .cells #[.bool a2.f0, .int .u32 a2.f1.f0, .int .u32 a2.f1.f1, .int .u32 a2.f1.f2, .int .u32 a2.f1.f3, .int .u32 a2.f1.f4, .int .u32 a2.f1.f5] 25 (0, 0)) q89x4_)) : P := h
theorem q89x17_ {P : Prop} (h : P := by (with_reducible repeat (first | refine kN89_ ?_ _ | refine kD89_ ?_ | refine kA89_ ?_ _)); refine puts7_ (.bool false) (.int .u32 0) (.int .u32 0) (.int .u32 0) (.int .u32 0) (.int .u32 0) (.int .u32 0) ?_; (with_reducible repeat (first | refine kN89_ ?_ _ | refine kD89_ ?_ | refine kA89_ ?_ _)); exact BK214.out) : P := h
theorem q89x18_ {P : Prop} (h : P := by rw [hw]; exact (by repeat (first | (with_reducible first | exact HI0.out | apply IsS79.alloc | apply IsS79.drewN | apply IsS79.drew | apply IsS79.set_0 | refine IsS79.far ?_ NB0_212.out _ | refine IsS79.far ?_ NB0_213.out _ | refine IsS79.far ?_ NB0_214.out _ | refine IsS79.far ?_ NB0_217.out _) | exact HI0.out))) : P := h
theorem q89x19_ {P : Prop} (h : P := by repeat (first | (with_reducible first | exact HB.out | apply below_alloc | apply pw_below_drewN | apply below_drew1 | refine bS89_ ?_ (IsS79.ge HI0.out) | refine bS89_ ?_ GE212.out | refine bS89_ ?_ GE213.out) | exact HB.out)) : P := h
theorem q89x20_ {P : Prop} (h : P := by repeat (first | (with_reducible first | exact HI0.out | apply IsS79.alloc | apply IsS79.drewN | apply IsS79.drew | apply IsS79.set_0 | refine IsS79.far ?_ NB0_212.out _ | refine IsS79.far ?_ NB0_213.out _) | exact HI0.out)) : P := h
theorem q89x21_ {P : Prop} (h : P := by repeat (first | (with_reducible first | exact HB.out | apply below_alloc | apply pw_below_drewN | apply below_drew1 | refine bS89_ ?_ (IsS79.ge HI0.out) | refine bS89_ ?_ GE212.out) | exact HB.out)) : P := h
theorem q89x22_ {P : Prop} (h : P := by repeat (first | (with_reducible first | exact HI0.out | apply IsS79.alloc | apply IsS79.drewN | apply IsS79.drew | apply IsS79.set_0 | refine IsS79.far ?_ NB0_212.out _) | exact HI0.out)) : P := h
theorem q89x23_ {P : Prop} (h : P := by repeat (first | (with_reducible first | exact HB.out | apply below_alloc | apply pw_below_drewN | apply below_drew1 | refine bS89_ ?_ (IsS79.ge HI0.out)) | exact HB.out)) : P := h
theorem q89x24_ {P : Prop} (h : P := by rw [hg]; exact (keep_size (w := w) (g := g) (row := none) q89x12_)) : P := h
theorem q89x25_ {P : Prop} (h : P := by rw [hg]; exact (keep_size (w := w) (g := g) (row := none) q89x8_)) : P := h
theorem q89x26_ {P : Prop} (h : P := by rw [hg]; exact (keep_size (w := w) (g := g) (row := none) q89x6_)) : P := h
theorem q89x27_ {P : Prop} (h : P := by repeat (first | (with_reducible first | exact HI0.out | apply IsS79.alloc | apply IsS79.drewN | apply IsS79.drew | apply IsS79.set_0) | exact HI0.out)) : P := h
theorem q89x28_ {P : Prop} (h : P := by rw [hw]; exact (by (with_reducible repeat (first | refine kN89_ ?_ _ | refine kD89_ ?_ | refine kA89_ ?_ _)); refine puts6_ (.int .u32 0) (.int .u32 0) (.int .u32 0) (.int .u32 0) (.int .u32 0) (.int .u32 0) ?_; (with_reducible repeat (first | refine kN89_ ?_ _ | refine kD89_ ?_ | refine kA89_ ?_ _)); exact BK217.out)) : P := h
theorem q89x29_ {P : Prop} (h : P := by rw [hg]; exact Nat.ne_of_lt (IsS79.lt (show IsS79 w0 _ g s0_0 from by repeat (first | (with_reducible first | exact HI0.out | apply IsS79.alloc | apply IsS79.drewN | apply IsS79.drew | apply IsS79.set_0 | refine IsS79.far ?_ NB0_212.out _ | refine IsS79.far ?_ NB0_213.out _) | exact HI0.out)))) : P := h
theorem q89x30_ {P : Prop} (h : P := by rw [hg]; exact Nat.ne_of_gt (IsS79.lt (show IsS79 w0 _ g s0_0 from by repeat (first | (with_reducible first | exact HI0.out | apply IsS79.alloc | apply IsS79.drewN | apply IsS79.drew | apply IsS79.set_0 | refine IsS79.far ?_ NB0_212.out _ | refine IsS79.far ?_ NB0_213.out _) | exact HI0.out)))) : P := h
theorem q89x31_ {P : Prop} (h : P := by rw [hw]; exact (by (with_reducible repeat (first | refine kN89_ ?_ _ | refine kD89_ ?_ | refine kA89_ ?_ _ | refine blk_far ?_ NB212_217.out _)); (with_reducible repeat (first | refine kN89_ ?_ _ | refine kD89_ ?_ | refine kA89_ ?_ _)); exact BK212.out)) : P := h
theorem q89x32_ {P : Prop} (h : P := by rw [hw]; exact (by (with_reducible repeat (first | refine kN89_ ?_ _ | refine kD89_ ?_ | refine kA89_ ?_ _ | refine blk_far ?_ NB213_217.out _)); (with_reducible repeat (first | refine kN89_ ?_ _ | refine kD89_ ?_ | refine kA89_ ?_ _)); exact BK213.out)) : P := h
theorem q89x33_ {P : Prop} (h : P := by rw [hw]; exact (by (with_reducible repeat (first | refine kN89_ ?_ _ | refine kD89_ ?_ | refine kA89_ ?_ _ | refine blk_far ?_ NB214_217.out _)); (with_reducible repeat (first | refine kN89_ ?_ _ | refine kD89_ ?_ | refine kA89_ ?_ _)); exact BK214.out)) : P := h
theorem q89x34_ {P : Prop} (h : P := by rw [hw]; exact (by (with_reducible repeat (first | refine kN89_ ?_ _ | refine kD89_ ?_ | refine kA89_ ?_ _ | refine blk_far ?_ NB212_214.out _)); (with_reducible repeat (first | refine kN89_ ?_ _ | refine kD89_ ?_ | refine kA89_ ?_ _)); exact BK212.out)) : P := h
theorem q89x35_ {P : Prop} (h : P := by rw [hw]; exact (by (with_reducible repeat (first | refine kN89_ ?_ _ | refine kD89_ ?_ | refine kA89_ ?_ _ | refine blk_far ?_ NB213_214.out _)); (with_reducible repeat (first | refine kN89_ ?_ _ | refine kD89_ ?_ | refine kA89_ ?_ _)); exact BK213.out)) : P := h
theorem q89x36_ {P : Prop} (h : P := by rw [hw]; exact (by (with_reducible repeat (first | refine kN89_ ?_ _ | refine kD89_ ?_ | refine kA89_ ?_ _ | refine blk_far ?_ NB217_214.out _)); (with_reducible repeat (first | refine kN89_ ?_ _ | refine kD89_ ?_ | refine kA89_ ?_ _)); exact BK217.out)) : P := h
theorem q89x37_ {P : Prop} (h : P := by rw [hg]; exact Nat.ne_of_lt (IsS79.lt (show IsS79 w0 _ g s0_0 from by repeat (first | (with_reducible first | exact HI0.out | apply IsS79.alloc | apply IsS79.drewN | apply IsS79.drew | apply IsS79.set_0 | refine IsS79.far ?_ NB0_212.out _) | exact HI0.out)))) : P := h
theorem q89x38_ {P : Prop} (h : P := by rw [hg]; exact Nat.ne_of_gt (IsS79.lt (show IsS79 w0 _ g s0_0 from by repeat (first | (with_reducible first | exact HI0.out | apply IsS79.alloc | apply IsS79.drewN | apply IsS79.drew | apply IsS79.set_0 | refine IsS79.far ?_ NB0_212.out _) | exact HI0.out)))) : P := h
theorem q89x39_ {P : Prop} (h : P := by (with_reducible repeat (first | refine kN89_ ?_ _ | refine kD89_ ?_ | refine kA89_ ?_ _ | refine blk_far ?_ NB212_0.out _)); (with_reducible repeat (first | refine kN89_ ?_ _ | refine kD89_ ?_ | refine kA89_ ?_ _)); exact BK212.out) : P := h
theorem q89x40_ {P : Prop} (h : P := by (with_reducible repeat (first | refine kN89_ ?_ _ | refine kD89_ ?_ | refine kA89_ ?_ _ | refine blk_far ?_ NB213_0.out _)); (with_reducible repeat (first | refine kN89_ ?_ _ | refine kD89_ ?_ | refine kA89_ ?_ _)); exact BK213.out) : P := h
theorem q89x41_ {P : Prop} (h : P := by (with_reducible repeat (first | refine kN89_ ?_ _ | refine kD89_ ?_ | refine kA89_ ?_ _ | refine blk_far ?_ NB214_0.out _)); (with_reducible repeat (first | refine kN89_ ?_ _ | refine kD89_ ?_ | refine kA89_ ?_ _)); exact BK214.out) : P := h
theorem q89x42_ {P : Prop} (h : P := by (with_reducible repeat (first | refine kN89_ ?_ _ | refine kD89_ ?_ | refine kA89_ ?_ _ | refine blk_far ?_ NB217_0.out _)); (with_reducible repeat (first | refine kN89_ ?_ _ | refine kD89_ ?_ | refine kA89_ ?_ _)); exact BK217.out) : P := h
theorem q89x43_ {P : Prop} (h : P := by rw [hg]; exact Nat.ne_of_lt (IsS79.lt (show IsS79 w0 _ g s0_0 from by repeat (first | (with_reducible first | exact HI0.out | apply IsS79.alloc | apply IsS79.drewN | apply IsS79.drew | apply IsS79.set_0) | exact HI0.out)))) : P := h
theorem q89x44_ {P : Prop} (h : P := by rw [hg]; exact Nat.ne_of_gt (IsS79.lt (show IsS79 w0 _ g s0_0 from by repeat (first | (with_reducible first | exact HI0.out | apply IsS79.alloc | apply IsS79.drewN | apply IsS79.drew | apply IsS79.set_0) | exact HI0.out)))) : P := h
theorem q89x45_ {P : Prop} (h : P := by rw [hg]; exact (keep_size (w := w) (g := g) (row := none) q89x2_)) : P := h
theorem q89x46_ {P : Prop} (h : P := by rw [hg]; exact Nat.ne_of_lt (blk_lt (g := gb214) (o := .cells #[.bool false, .int .u32 0, .int .u32 0, .int .u32 0, .int .u32 0, .int .u32 0, .int .u32 0] 25 (0, 0)) q89x7_)) : P := h
theorem q89x47_ {P : Prop} (h : P := by rw [hg]; exact Nat.ne_of_gt (blk_lt (g := gb214) (o := .cells #[.bool false, .int .u32 0, .int .u32 0, .int .u32 0, .int .u32 0, .int .u32 0, .int .u32 0] 25 (0, 0)) q89x7_)) : P := h
theorem q89x48_ {P : Prop} (h : P := by simp only [Act.put, List.setIfInBounds_toArray, List.set_cons_zero, List.set_cons_succ, i64_w, i32_w]; rfl) : P := h
theorem q89x49_ {P : Prop} (h : P := by rintro w' ⟨s0, s1, s2, s3, s4, s5, s6, s7, s8, s9, s10, s11, s12, s13⟩; go_simp; with_reducible rfl) : P := h
/-- A state of type 79 at block g of W; what its slices lead to came in by w0. -/
def IsS79 (w0 W : World) (g : Nat) (f0 : Bool) : Prop := W.heap[g]? = some (.cells #[.bool f0] 79 (0, 0)) ∧ w0.heap.size ≤ g
theorem IsS79.grown {w0 W : World} {g : Nat} {f0 : Bool} {W1 : World} {row : Option Nat} (h : IsS79 w0 W g f0) (hw : W.grownBy W1 row) (hne : some g ≠ row) : IsS79 w0 W1 g f0 := by
 obtain ⟨hb, hg⟩ := h
 exact ⟨blk_grown hb hw hne, hg⟩
theorem IsS79.own_neN {w0 W : World} {g : Nat} {f0 : Bool} {α : Type} {d : Kd α} {e : Nat} {base : Nat} {ok : Nat → Prop} {v : Value} {xs : List α} (h : IsS79 w0 W g f0) (ho : Kd.N d e W base ok v xs) (ht : e ≠ 79) : some g ≠ v.ownBlock := by
 obtain ⟨hb, hg⟩ := h
 exact Kd.N_ne ho hb ht
theorem IsS79.fresh {w0 W : World} {g : Nat} {f0 : Bool} (h : IsS79 w0 W g f0) : ∀ k, W.heap.size ≤ k → k ≠ g := by
 obtain ⟨hb, hg⟩ := h
 exact Kd.freshB hb
theorem IsS79.kept {w0 W : World} {g : Nat} {f0 : Bool} {W1 : World} {S : Nat → Prop} (h : IsS79 w0 W g f0) (hk : Kept W W1 S) (hne : ¬ S g) : IsS79 w0 W1 g f0 := by
 obtain ⟨hb, hg⟩ := h
 exact ⟨blk_kept hb hk hne, hg⟩
theorem IsS79.below {w0 W : World} {g : Nat} {f0 : Bool} {W1 : World} (h : IsS79 w0 W g f0) (hw : Below W.heap.size W W1) : IsS79 w0 W1 g f0 := h.grown (grown_of_below hw none) (by simp)
theorem IsS79.alloc {w0 W : World} {g : Nat} {f0 : Bool} (h : IsS79 w0 W g f0) (o : Obj) : IsS79 w0 (W.alloc o) g f0 := h.below (below_alloc (Below.refl _ _) o)
theorem IsS79.drewN {w0 W : World} {g : Nat} {f0 : Bool} (h : IsS79 w0 W g f0) (m : Nat) : IsS79 w0 (W.drewN m) g f0 := h
theorem IsS79.drew {w0 W : World} {g : Nat} {f0 : Bool} (h : IsS79 w0 W g f0) : IsS79 w0 W.drew g f0 := h
theorem IsS79.at_ {w0 W : World} {g : Nat} {f0 : Bool} {w' : World} {m : Nat} (hq : W.drewN m = w') (h : IsS79 w0 W g f0) : IsS79 w0 w' g f0 := by subst hq; exact IsS79.drewN h m
theorem IsS79.apart {w0 W : World} {g : Nat} {f0 : Bool} {α : Type} {d : Kd α} {e : Nat} {base : Nat} {ok : Nat → Prop} {v : Value} {xs : List α} (h : IsS79 w0 W g f0) (ho : d.R e W base ok v xs) (ht : ∀ q, q ∈ e :: d.E → q ≠ 79) : d.R e W base (fun k => ok k ∧ k ≠ g) v xs := by
 obtain ⟨hb, hg⟩ := h
 exact Kd.R_types ho hb ht
theorem IsS79.own_ne {w0 W : World} {g : Nat} {f0 : Bool} {α : Type} {d : Kd α} {e : Nat} {base : Nat} {ok : Nat → Prop} {v : Value} {xs : List α} (h : IsS79 w0 W g f0) (ho : d.R e W base ok v xs) (ht : e ≠ 79) : some g ≠ v.ownBlock := by
 obtain ⟨hb, hg⟩ := h
 exact Kd.R_ne ho hb ht
theorem IsS79.apartQ {w0 W : World} {g : Nat} {f0 : Bool} {α : Type} {d : Kd α} {e : Nat} {base : Nat} {ok : Nat → Prop} {v : Value} {xs : List α} (h : IsS79 w0 W g f0) (ho : d.Q e W base ok v xs) (ht : ∀ q, q ∈ e :: d.E → q ≠ 79) : d.Q e W base (fun k => ok k ∧ k ≠ g) v xs := by
 obtain ⟨hb, hg⟩ := h
 exact Kd.Q_types ho hb ht
theorem IsS79.own_neQ {w0 W : World} {g : Nat} {f0 : Bool} {α : Type} {d : Kd α} {e : Nat} {base : Nat} {ok : Nat → Prop} {v : Value} {xs : List α} (h : IsS79 w0 W g f0) (ho : d.Q e W base ok v xs) (ht : e ≠ 79) : some g ≠ v.ownBlock := by
 obtain ⟨hb, hg⟩ := h
 exact Kd.Q_ne ho hb ht
theorem IsS79.apartS {w0 W : World} {g : Nat} {f0 : Bool} {α : Type} {d : Kd α} {e : Nat} {base : Nat} {ok : Nat → Prop} {v : Value} {xs : List α} (h : IsS79 w0 W g f0) (ho : d.S e W base ok v xs) (ht : ∀ q, q ∈ e :: d.E → q ≠ 79) : d.S e W base (fun k => ok k ∧ k ≠ g) v xs := by
 obtain ⟨hb, hg⟩ := h
 exact Kd.S_types ho hb ht
theorem IsS79.own_neS {w0 W : World} {g : Nat} {f0 : Bool} {α : Type} {d : Kd α} {e : Nat} {base : Nat} {ok : Nat → Prop} {v : Value} {xs : List α} (h : IsS79 w0 W g f0) (ho : d.S e W base ok v xs) (ht : e ≠ 79) : some g ≠ v.ownBlock := by
 obtain ⟨hb, hg⟩ := h
 exact Kd.S_ne ho hb ht
theorem IsS79.lt {w0 W : World} {g : Nat} {f0 : Bool} (h : IsS79 w0 W g f0) : g < W.heap.size := by
 obtain ⟨hb, hg⟩ := h
 exact blk_lt hb
theorem IsS79.ge {w0 W : World} {g : Nat} {f0 : Bool} (h : IsS79 w0 W g f0) : w0.heap.size ≤ g := by
 obtain ⟨hb, hg⟩ := h
 exact hg
theorem IsS79.ne_blk {w0 W : World} {g : Nat} {f0 : Bool} {a : Nat} {cs : Array Value} {t : TypeId} {fr : Nat × Nat} (h : IsS79 w0 W g f0) (hb2 : W.heap[a]? = some (.cells cs t fr)) (ht : t ≠ 79) : g ≠ a := by
 obtain ⟨hb, hg⟩ := h
 rintro rfl
 rw [hb] at hb2
 injection hb2 with hb2
 injection hb2 with _ ht2
 exact ht ht2.symm
theorem IsS79.far {w0 W : World} {g : Nat} {f0 : Bool} {p : Addr} (h : IsS79 w0 W g f0) (hne : g ≠ p.block) (u : Value) : IsS79 w0 (W.setCell p u) g f0 := by
 obtain ⟨hb, hg⟩ := h
 exact ⟨blk_far hb hne u, hg⟩
theorem cellS79_0 {W : World} {g : Nat} {f0 : Bool} (h : W.heap[g]? = some (.cells #[.bool f0] 79 (0, 0))) : W.cell? ⟨g, 0, none⟩ = some (.bool f0) := (kC89_ h 0).trans rfl
theorem IsS79.set_0 {w0 W : World} {g : Nat} {f0 : Bool} (h : IsS79 w0 W g f0) (x : Bool) : IsS79 w0 (W.setCell ⟨g, 0, none⟩ (.bool x)) g x := by
 obtain ⟨hb, hg⟩ := h
 exact ⟨by simpa using blk_set hb 0 (.bool x), hg⟩
theorem IsS79.new (w0 W : World) (f0 : Bool) (hB : Below w0.heap.size w0 W) : IsS79 w0 (W.alloc (.cells #[.bool f0] 79)) W.heap.size f0 := ⟨by simpa using heap_alloc_new W _, hB.size⟩

/-! ### impl_calc_add: function 89 -/
def impl_calc_add.f (k : Nat) (s0_0 : Bool) (a1 : S24) (a2 : S24) : Option (S24 × Bool) := (wun a1).bind fun x => (wun a2).bind fun y => some (wenc (Wide.addZ x y), s0_0 || Wide.ovM (x + y).natAbs)
theorem impl_calc_add.mono : ∀ a0 a1 a2 k, LeO (impl_calc_add.f k a0 a1 a2) (impl_calc_add.f (k + 1) a0 a1 a2) := by
 intros
 exact LeO.refl _
theorem impl_calc_add.calls (k : Nat) (g : Nat) (s0_0 : Bool) (a1 : S24) (a2 : S24) (r1 : S24) (r2 : Bool) (w0 w : World) (hI : IsS79 w0 w g s0_0) (hB : Below w0.heap.size w0 w) (h : impl_calc_add.f k s0_0 a1 a2 = some (r1, r2)) :
  Calls Try.prog 89 #[.pointer (some ⟨g, 0, none⟩), .agg #[.bool a1.f0, .int .u32 a1.f1.f0, .int .u32 a1.f1.f1, .int .u32 a1.f1.f2, .int .u32 a1.f1.f3, .int .u32 a1.f1.f4, .int .u32 a1.f1.f5], .agg #[.bool a2.f0, .int .u32 a2.f1.f0, .int .u32 a2.f1.f1, .int .u32 a2.f1.f2, .int .u32 a2.f1.f3, .int .u32 a2.f1.f4, .int .u32 a2.f1.f5]] w fun e w' => e = .returned (.agg #[.bool r1.f0, .int .u32 r1.f1.f0, .int .u32 r1.f1.f1, .int .u32 r1.f1.f2, .int .u32 r1.f1.f3, .int .u32 r1.f1.f4, .int .u32 r1.f1.f5]) ∧ IsS79 w0 w' g r2 ∧ Below w0.heap.size w0 w' ∧ KeepBut w w' g none := by
 obtain ⟨x, y, rfl, rfl, hx, hy, e⟩ := wun2 h
 obtain ⟨rfl, rfl⟩ := Prod.mk.inj (Option.some.inj e)
 refine (Wide.iAddV w g s0_0 x y hx hy hI.1).mono ?_
 rintro e w' ⟨rfl, hb⟩
 have hi := IsS79.set_0 hI (s0_0 || Wide.ovM (x + y).natAbs)
 have hs : (w.setCell ⟨g, 0, none⟩ (.bool (s0_0 || Wide.ovM (x + y).natAbs))).heap.size = w.heap.size := Wide.setCell_size _ _ _
 have hb' : Below (w.setCell ⟨g, 0, none⟩ (.bool (s0_0 || Wide.ovM (x + y).natAbs))).heap.size (w.setCell ⟨g, 0, none⟩ (.bool (s0_0 || Wide.ovM (x + y).natAbs))) w' := by rw [hs]; exact hb
 exact ⟨rfl, IsS79.below hi hb', below_then (hB.setCell (IsS79.ge hI) _) (by rw [hs]; exact hB.size) hb', ((KeepBut.refl w g none).set_ 0 _).trans (KeepBut.of_below hb' g none) (.inl rfl)⟩



set_option linter.defProp false
def aM90_ := @Aside0.mk
theorem q90x1_ {P : Prop} (h : P := by (with_reducible repeat (first | refine blk_drewN ?_ _ | refine blk_drew ?_ | refine blk_alloc ?_ _)); exact BK235.out) : P := h
theorem q90x2_ {P : Prop} (h : P := by repeat (first | (with_reducible first | exact HK.out | apply KeepBut.set_ | apply keep_drewN | apply keep_drew | apply keep_alloc | refine keep_far ?_ GW235.out _ | refine keep_far ?_ GW236.out _ | refine keep_far ?_ GW237.out _) | exact HK.out)) : P := h
theorem q90x3_ {P : Prop} (h : P := by (with_reducible repeat (first | refine blk_drewN ?_ _ | refine blk_drew ?_ | refine blk_alloc ?_ _)); exact BK236.out) : P := h
theorem q90x4_ {P : Prop} (h : P := by repeat (first | (with_reducible first | exact HB.out | apply below_alloc | apply pw_below_drewN | apply below_drew1 | refine below_set ?_ (IsS79.ge HI0.out) | refine below_set ?_ GE235.out | refine below_set ?_ GE236.out | refine below_set ?_ GE237.out | refine below_set ?_ GE240.out) | exact HB.out)) : P := h
theorem q90x5_ {P : Prop} (h : P := by repeat (first | (with_reducible first | exact HK.out | apply KeepBut.set_ | apply keep_drewN | apply keep_drew | apply keep_alloc | refine keep_far ?_ GW235.out _ | refine keep_far ?_ GW236.out _ | refine keep_far ?_ GW237.out _ | refine keep_far ?_ GW240.out _) | exact HK.out)) : P := h
theorem q90x6_ {P : Prop} (h : P := by rw [hg]; exact Nat.ne_of_lt (blk_lt (g := gb235) (o := .cells #[.bool a1.f0, .int .u32 a1.f1.f0, .int .u32 a1.f1.f1, .int .u32 a1.f1.f2, .int .u32 a1.f1.f3, .int .u32 a1.f1.f4, .int .u32 a1.f1.f5] 25 (0, 0)) q90x1_)) : P := h
theorem q90x7_ {P : Prop} (h : P := by rw [hg]; exact Nat.ne_of_gt (blk_lt (g := gb235) (o := .cells #[.bool a1.f0, .int .u32 a1.f1.f0, .int .u32 a1.f1.f1, .int .u32 a1.f1.f2, .int .u32 a1.f1.f3, .int .u32 a1.f1.f4, .int .u32 a1.f1.f5] 25 (0, 0)) q90x1_)) : P := h
theorem q90x8_ {P : Prop} (h : P := by repeat (first | (with_reducible first | exact HK.out | apply KeepBut.set_ | apply keep_drewN | apply keep_drew | apply keep_alloc | refine keep_far ?_ GW235.out _ | refine keep_far ?_ GW236.out _) | exact HK.out)) : P := h
theorem q90x9_ {P : Prop} (h : P := by (with_reducible repeat (first | refine blk_drewN ?_ _ | refine blk_drew ?_ | refine blk_alloc ?_ _)); exact BK237.out) : P := h
theorem q90x10_ {P : Prop} (h : P := by rw [hw]; exact (by repeat (first | (with_reducible first | exact HI0.out | apply IsS79.alloc | apply IsS79.drewN | apply IsS79.drew | apply IsS79.set_0 | refine IsS79.far ?_ NB0_235.out _ | refine IsS79.far ?_ NB0_236.out _ | refine IsS79.far ?_ NB0_237.out _ | refine IsS79.far ?_ NB0_240.out _) | exact HI0.out))) : P := h
theorem q90x11_ {P : Prop} (h : P := by repeat (first | (with_reducible first | exact HK.out | apply KeepBut.set_ | apply keep_drewN | apply keep_drew | apply keep_alloc | refine keep_far ?_ GW235.out _) | exact HK.out)) : P := h
theorem q90x12_ {P : Prop} (h : P := by repeat (first | (with_reducible first | exact HB.out | apply below_alloc | apply pw_below_drewN | apply below_drew1 | refine below_set ?_ (IsS79.ge HI0.out) | refine below_set ?_ GE235.out | refine below_set ?_ GE236.out | refine below_set ?_ GE237.out) | exact HB.out)) : P := h
theorem q90x13_ {P : Prop} (h : P := by repeat (first | (with_reducible first | exact HI0.out | apply IsS79.alloc | apply IsS79.drewN | apply IsS79.drew | apply IsS79.set_0 | refine IsS79.far ?_ NB0_235.out _ | refine IsS79.far ?_ NB0_236.out _ | refine IsS79.far ?_ NB0_237.out _) | exact HI0.out)) : P := h
theorem q90x14_ {P : Prop} (h : P := by repeat (first | (with_reducible first | exact HK.out | apply KeepBut.set_ | apply keep_drewN | apply keep_drew | apply keep_alloc) | exact HK.out)) : P := h
theorem q90x15_ {P : Prop} (h : P := by rw [hg]; exact Nat.ne_of_lt (blk_lt (g := gb236) (o := .cells #[.bool a2.f0, .int .u32 a2.f1.f0, .int .u32 a2.f1.f1, .int .u32 a2.f1.f2, .int .u32 a2.f1.f3, .int .u32 a2.f1.f4, .int .u32 a2.f1.f5] 25 (0, 0)) q90x3_)) : P := h
theorem q90x16_ {P : Prop} (h : P := by rw [hg]; exact Nat.ne_of_gt (blk_lt (g := gb236) (o := .cells #[.bool a2.f0, .int .u32 a2.f1.f0, .int .u32 a2.f1.f1, .int .u32 a2.f1.f2, .int .u32 a2.f1.f3, .int .u32 a2.f1.f4, .int .u32 a2.f1.f5] 25 (0, 0)) q90x3_)) : P := h
theorem q90x17_ {P : Prop} (h : P := by (try simp only [List.map_toArray, List.map_cons, List.map_nil]); first | done | rfl | (simp only [List.length_drop, List.length_take]; rfl) | (simp only [List.drop_one]; done) | (simp only [List.drop_one]; rfl)) : P := h
theorem q90x18_ {P : Prop} (h : P := by rw [hw]; exact (by (with_reducible repeat (first | refine blk_drewN ?_ _ | refine blk_drew ?_ | refine blk_alloc ?_ _)); refine puts7_ (.bool false) (.int .u32 0) (.int .u32 0) (.int .u32 0) (.int .u32 0) (.int .u32 0) (.int .u32 0) ?_; (with_reducible repeat (first | refine blk_drewN ?_ _ | refine blk_drew ?_ | refine blk_alloc ?_ _)); exact BK237.out)) : P := h
theorem q90x19_ {P : Prop} (h : P := by rw [hw]; exact (by (with_reducible repeat (first | refine blk_drewN ?_ _ | refine blk_drew ?_ | refine blk_alloc ?_ _)); refine puts6_ (.int .u32 0) (.int .u32 0) (.int .u32 0) (.int .u32 0) (.int .u32 0) (.int .u32 0) ?_; (with_reducible repeat (first | refine blk_drewN ?_ _ | refine blk_drew ?_ | refine blk_alloc ?_ _)); exact BK240.out)) : P := h
theorem q90x20_ {P : Prop} (h : P := by rw [hw]; exact (by (with_reducible repeat (first | refine blk_drewN ?_ _ | refine blk_drew ?_ | refine blk_alloc ?_ _ | refine blk_far ?_ NB235_240.out _)); (with_reducible repeat (first | refine blk_drewN ?_ _ | refine blk_drew ?_ | refine blk_alloc ?_ _)); exact BK235.out)) : P := h
theorem q90x21_ {P : Prop} (h : P := by rw [hw]; exact (by (with_reducible repeat (first | refine blk_drewN ?_ _ | refine blk_drew ?_ | refine blk_alloc ?_ _ | refine blk_far ?_ NB236_240.out _)); (with_reducible repeat (first | refine blk_drewN ?_ _ | refine blk_drew ?_ | refine blk_alloc ?_ _)); exact BK236.out)) : P := h
theorem q90x22_ {P : Prop} (h : P := by rw [hw]; exact (by (with_reducible repeat (first | refine blk_drewN ?_ _ | refine blk_drew ?_ | refine blk_alloc ?_ _ | refine blk_far ?_ NB237_240.out _)); (with_reducible repeat (first | refine blk_drewN ?_ _ | refine blk_drew ?_ | refine blk_alloc ?_ _)); exact BK237.out)) : P := h
theorem q90x23_ {P : Prop} (h : P := by rw [hw]; exact (by (with_reducible repeat (first | refine blk_drewN ?_ _ | refine blk_drew ?_ | refine blk_alloc ?_ _ | refine blk_far ?_ NB235_237.out _)); (with_reducible repeat (first | refine blk_drewN ?_ _ | refine blk_drew ?_ | refine blk_alloc ?_ _)); exact BK235.out)) : P := h
theorem q90x24_ {P : Prop} (h : P := by rw [hw]; exact (by (with_reducible repeat (first | refine blk_drewN ?_ _ | refine blk_drew ?_ | refine blk_alloc ?_ _ | refine blk_far ?_ NB236_237.out _)); (with_reducible repeat (first | refine blk_drewN ?_ _ | refine blk_drew ?_ | refine blk_alloc ?_ _)); exact BK236.out)) : P := h
theorem q90x25_ {P : Prop} (h : P := by rw [hw]; exact (by (with_reducible repeat (first | refine blk_drewN ?_ _ | refine blk_drew ?_ | refine blk_alloc ?_ _ | refine blk_far ?_ NB240_237.out _)); (with_reducible repeat (first | refine blk_drewN ?_ _ | refine blk_drew ?_ | refine blk_alloc ?_ _)); exact BK240.out)) : P := h
theorem q90x26_ {P : Prop} (h : P := by (with_reducible repeat (first | refine blk_drewN ?_ _ | refine blk_drew ?_ | refine blk_alloc ?_ _ | refine blk_far ?_ NB235_0.out _)); (with_reducible repeat (first | refine blk_drewN ?_ _ | refine blk_drew ?_ | refine blk_alloc ?_ _)); exact BK235.out) : P := h
theorem q90x27_ {P : Prop} (h : P := by (with_reducible repeat (first | refine blk_drewN ?_ _ | refine blk_drew ?_ | refine blk_alloc ?_ _ | refine blk_far ?_ NB236_0.out _)); (with_reducible repeat (first | refine blk_drewN ?_ _ | refine blk_drew ?_ | refine blk_alloc ?_ _)); exact BK236.out) : P := h
theorem q90x28_ {P : Prop} (h : P := by (with_reducible repeat (first | refine blk_drewN ?_ _ | refine blk_drew ?_ | refine blk_alloc ?_ _ | refine blk_far ?_ NB237_0.out _)); (with_reducible repeat (first | refine blk_drewN ?_ _ | refine blk_drew ?_ | refine blk_alloc ?_ _)); exact BK237.out) : P := h
theorem q90x29_ {P : Prop} (h : P := by (with_reducible repeat (first | refine blk_drewN ?_ _ | refine blk_drew ?_ | refine blk_alloc ?_ _ | refine blk_far ?_ NB240_0.out _)); (with_reducible repeat (first | refine blk_drewN ?_ _ | refine blk_drew ?_ | refine blk_alloc ?_ _)); exact BK240.out) : P := h
theorem q90x30_ {P : Prop} (h : P := by repeat (first | (with_reducible first | exact HB.out | apply below_alloc | apply pw_below_drewN | apply below_drew1 | refine below_set ?_ (IsS79.ge HI0.out) | refine below_set ?_ GE235.out | refine below_set ?_ GE236.out) | exact HB.out)) : P := h
theorem q90x31_ {P : Prop} (h : P := by repeat (first | (with_reducible first | exact HI0.out | apply IsS79.alloc | apply IsS79.drewN | apply IsS79.drew | apply IsS79.set_0 | refine IsS79.far ?_ NB0_235.out _ | refine IsS79.far ?_ NB0_236.out _) | exact HI0.out)) : P := h
theorem q90x32_ {P : Prop} (h : P := by repeat (first | (with_reducible first | exact HB.out | apply below_alloc | apply pw_below_drewN | apply below_drew1 | refine below_set ?_ (IsS79.ge HI0.out) | refine below_set ?_ GE235.out) | exact HB.out)) : P := h
theorem q90x33_ {P : Prop} (h : P := by rw [hg]; exact (keep_size (w := w) (g := g) (row := none) q90x14_)) : P := h
theorem q90x34_ {P : Prop} (h : P := by rw [hg]; exact (keep_size (w := w) (g := g) (row := none) q90x11_)) : P := h
theorem q90x35_ {P : Prop} (h : P := by rw [hg]; exact (keep_size (w := w) (g := g) (row := none) q90x8_)) : P := h
theorem q90x36_ {P : Prop} (h : P := by rw [hg]; exact (keep_size (w := w) (g := g) (row := none) q90x2_)) : P := h
theorem q90x37_ {P : Prop} (h : P := by repeat (first | (with_reducible first | exact HI0.out | apply IsS79.alloc | apply IsS79.drewN | apply IsS79.drew | apply IsS79.set_0 | refine IsS79.far ?_ NB0_235.out _) | exact HI0.out)) : P := h
theorem q90x38_ {P : Prop} (h : P := by rw [hg]; exact Nat.ne_of_lt (blk_lt (g := gb237) (o := .cells #[.bool false, .int .u32 0, .int .u32 0, .int .u32 0, .int .u32 0, .int .u32 0, .int .u32 0] 25 (0, 0)) q90x9_)) : P := h
theorem q90x39_ {P : Prop} (h : P := by rw [hg]; exact Nat.ne_of_gt (blk_lt (g := gb237) (o := .cells #[.bool false, .int .u32 0, .int .u32 0, .int .u32 0, .int .u32 0, .int .u32 0, .int .u32 0] 25 (0, 0)) q90x9_)) : P := h
theorem q90x40_ {P : Prop} (h : P := by repeat (first | (with_reducible first | exact HB.out | apply below_alloc | apply pw_below_drewN | apply below_drew1 | refine below_set ?_ (IsS79.ge HI0.out)) | exact HB.out)) : P := h
/-! ### impl_calc_mul: function 90 -/
def impl_calc_mul.f (k : Nat) (s0_0 : Bool) (a1 : S24) (a2 : S24) : Option (S24 × Bool) := (wun a1).bind fun x => (wun a2).bind fun y => some (wenc (Wide.fitZ (x * y)), s0_0 || Wide.ovM (x * y).natAbs)
theorem impl_calc_mul.mono : ∀ a0 a1 a2 k, LeO (impl_calc_mul.f k a0 a1 a2) (impl_calc_mul.f (k + 1) a0 a1 a2) := by
 intros
 exact LeO.refl _
theorem impl_calc_mul.calls (k : Nat) (g : Nat) (s0_0 : Bool) (a1 : S24) (a2 : S24) (r1 : S24) (r2 : Bool) (w0 w : World) (hI : IsS79 w0 w g s0_0) (hB : Below w0.heap.size w0 w) (h : impl_calc_mul.f k s0_0 a1 a2 = some (r1, r2)) :
  Calls Try.prog 90 #[.pointer (some ⟨g, 0, none⟩), .agg #[.bool a1.f0, .int .u32 a1.f1.f0, .int .u32 a1.f1.f1, .int .u32 a1.f1.f2, .int .u32 a1.f1.f3, .int .u32 a1.f1.f4, .int .u32 a1.f1.f5], .agg #[.bool a2.f0, .int .u32 a2.f1.f0, .int .u32 a2.f1.f1, .int .u32 a2.f1.f2, .int .u32 a2.f1.f3, .int .u32 a2.f1.f4, .int .u32 a2.f1.f5]] w fun e w' => e = .returned (.agg #[.bool r1.f0, .int .u32 r1.f1.f0, .int .u32 r1.f1.f1, .int .u32 r1.f1.f2, .int .u32 r1.f1.f3, .int .u32 r1.f1.f4, .int .u32 r1.f1.f5]) ∧ IsS79 w0 w' g r2 ∧ Below w0.heap.size w0 w' ∧ KeepBut w w' g none := by
 obtain ⟨x, y, rfl, rfl, hx, hy, e⟩ := wun2 h
 obtain ⟨rfl, rfl⟩ := Prod.mk.inj (Option.some.inj e)
 refine (Wide.iMulV w g s0_0 x y hx hy hI.1).mono ?_
 rintro e w' ⟨rfl, hb⟩
 have hi := IsS79.set_0 hI (s0_0 || Wide.ovM (x * y).natAbs)
 have hs : (w.setCell ⟨g, 0, none⟩ (.bool (s0_0 || Wide.ovM (x * y).natAbs))).heap.size = w.heap.size := Wide.setCell_size _ _ _
 have hb' : Below (w.setCell ⟨g, 0, none⟩ (.bool (s0_0 || Wide.ovM (x * y).natAbs))).heap.size (w.setCell ⟨g, 0, none⟩ (.bool (s0_0 || Wide.ovM (x * y).natAbs))) w' := by rw [hs]; exact hb
 exact ⟨rfl, IsS79.below hi hb', below_then (hB.setCell (IsS79.ge hI) _) (by rw [hs]; exact hB.size) hb', ((KeepBut.refl w g none).set_ 0 _).trans (KeepBut.of_below hb' g none) (.inl rfl)⟩


/-! ### impl_rootConvergent: function 49, by hand -/
open Go.Proofs.Ytbomadebdekjjaa.Wide in
def rcR (a0 : Int) (l1 : List Int) (a2 : Int) : Nat → Int → Int → Int → Int → Int → Bool → Option (S24 × S24 × Int)
  | 0, _, _, _, _, _, _ => none
  | k + 1, i, p, q, p0, q0, ov => if i ≤ a2 ∧ ov = false then (impl_rootTerm.f a0 l1 i).bind fun a => if -9223372036854775808 ≤ a ∧ a < 9223372036854775808 then
      rcR a0 l1 a2 k (wrap64 (i + 1)) (Wide.addZ (Wide.fitZ (a * p)) p0) (Wide.addZ (Wide.fitZ (a * q)) q0) p q (((ov || Wide.ovM (a * p).natAbs) || Wide.ovM (Wide.fitZ (a * p) + p0).natAbs) || Wide.ovM (a * q).natAbs || Wide.ovM (Wide.fitZ (a * q) + q0).natAbs)
      else none
    else if ov = true then some (wenc 0, wenc 0, 3) else some (wenc p, wenc q, 0)
def impl_rootConvergent.f (k : Nat) (a0 : Int) (l1 : List Int) (a2 : Int) : Option (S24 × S24 × Int) := rcR a0 l1 a2 k 0 1 0 0 1 false
theorem rcR_mono (a0 : Int) (l1 : List Int) (a2 : Int) : ∀ (k : Nat) (i p q p0 q0 : Int) (ov : Bool), LeO (rcR a0 l1 a2 k i p q p0 q0 ov) (rcR a0 l1 a2 (k + 1) i p q p0 q0 ov)
  | 0, _, _, _, _, _, _ => LeO.none _
  | k + 1, i, p, q, p0, q0, ov => by
    rw [rcR, rcR]
    exact LeO.ite (LeO.bind (LeO.refl _) (fun a => LeO.ite (rcR_mono a0 l1 a2 k _ _ _ _ _ _) (LeO.none _))) (LeO.refl _)
theorem impl_rootConvergent.mono : ∀ a0 a1 a2 k, LeO (impl_rootConvergent.f k a0 a1 a2) (impl_rootConvergent.f (k + 1) a0 a1 a2) := fun _ _ _ k => rcR_mono _ _ _ k _ _ _ _ _ _
open Go.Proofs.Ytbomadebdekjjaa.Wide in
set_option maxHeartbeats 8000000 in
set_option maxRecDepth 100000 in
theorem impl_rootConvergent.calls (k : Nat) (a0 : Int) (A1 : Option Addr) (c1 : Nat) (l1 : List Int) (a2 : Int) (r1 r2 : S24) (r3 : Int) (w : World) (hr1 : Kd.C (Kd.int .i64) w A1 l1.length l1) (hc1 : l1.length ≤ c1) (h : impl_rootConvergent.f k a0 l1 a2 = some (r1, r2, r3)) :
    Calls Try.prog 49 #[.int .i64 a0, .slice A1 l1.length c1, .int .i64 a2] w fun e w' => e = .returned (.tuple #[.agg #[.bool r1.f0, .int .u32 r1.f1.f0, .int .u32 r1.f1.f1, .int .u32 r1.f1.f2, .int .u32 r1.f1.f3, .int .u32 r1.f1.f4, .int .u32 r1.f1.f5], .agg #[.bool r2.f0, .int .u32 r2.f1.f0, .int .u32 r2.f1.f1, .int .u32 r2.f1.f2, .int .u32 r2.f1.f3, .int .u32 r2.f1.f4, .int .u32 r2.f1.f5], .int .i64 r3]) ∧ Below w.heap.size w w' := by
  have HR := Aside0.mk hr1
  have HC := Aside0.mk hc1
  have H := Aside0.mk h
  have hu25 := Try.underlying25
  have hu79 := Try.underlying79
  clear hr1 hc1 h
  have HO := Aside0.mk (OB.start w)
  go_enter Try.func49, Try.ntmps49
  go_wp2_with (first | ((with_reducible refine gate_dst (N := 6) rfl ?_); refine box_event ?hg (N := 6) ?hd (cs := #[.bool false, .int .u32 0, .int .u32 0, .int .u32 0, .int .u32 0, .int .u32 0, .int .u32 0]) (t := 25) ?hr ?_; (case hd => rfl); (case hg => rfl); (case hr => first | (go_simp; done) | (go_simp; rfl)); intro g1 hg w1 hbox hb; replace HO := Aside0.mk (HO.out.box hg hbox hb); clear hg hbox hb) | ((with_reducible refine gate_dst (N := 7) rfl ?_); refine box_event ?hg (N := 7) ?hd (cs := #[.bool false, .int .u32 0, .int .u32 0, .int .u32 0, .int .u32 0, .int .u32 0, .int .u32 0]) (t := 25) ?hr ?_; (case hd => rfl); (case hg => rfl); (case hr => first | (go_simp; done) | (go_simp; rfl)); intro g2 hg w1 hbox hb; replace HO := Aside0.mk (HO.out.box hg hbox hb); clear hg hbox hb) | ((with_reducible refine gate_dst (N := 9) rfl ?_); refine box_event ?hg (N := 9) ?hd (cs := #[.bool false]) (t := 79) ?hr ?_; (case hd => rfl); (case hg => rfl); (case hr => first | (go_simp; done) | (go_simp; rfl)); intro g3 hg w1 hbox hb; replace HO := Aside0.mk (HO.out.box hg hbox hb); clear hg hbox hb; have fr0 := HO.out.fr 0 rfl 0; have k0 := HO.out.cell 0 rfl 0 rfl) | ((with_reducible refine gate_store (t := 79) (p := 9) rfl ?_); refine store_event (t := 79) (p := 9) (v := ?vo_1) (w1 := (World.setCell w1 ⟨g3, 0, none⟩ (.bool false))) ?hg ?ho ?hn ?hr ?_; (case ho => rfl); (case hg => rfl); (case hn => rfl); (case hr => first | (go_simp; done) | (go_simp; rfl)); intro w2 hw; replace HO := Aside0.mk (HO.out.seth 0 rfl 0 _ hw rfl); clear k0 fr0; clear hw) | (go_at_call 88; (with_reducible refine (Wide.iOf _ 1 (by decide) (by decide)).mono ?_); rintro e w4 ⟨rfl, hb⟩; replace HO := Aside0.mk (HO.out.below hb); clear hb) | ((with_reducible refine gate_dst (N := 10) rfl ?_); refine box_event ?hg (N := 10) ?hd (cs := #[.bool false, .int .u32 0, .int .u32 0, .int .u32 0, .int .u32 0, .int .u32 0, .int .u32 0]) (t := 25) ?hr ?_; (case hd => rfl); (case hg => rfl); (case hr => first | (go_simp; done) | (go_simp; rfl)); intro g4 hg w1 hbox hb; replace HO := Aside0.mk (HO.out.box hg hbox hb); clear hg hbox hb) | ((with_reducible refine gate_dst (N := 11) rfl ?_); refine box_event ?hg (N := 11) ?hd (cs := #[.bool false, .int .u32 0, .int .u32 0, .int .u32 0, .int .u32 0, .int .u32 0, .int .u32 0]) (t := 25) ?hr ?_; (case hd => rfl); (case hg => rfl); (case hr => first | (go_simp; done) | (go_simp; rfl)); intro g5 hg w1 hbox hb; replace HO := Aside0.mk (HO.out.box hg hbox hb); clear hg hbox hb) | ((with_reducible refine gate_dst (N := 12) rfl ?_); refine box_event ?hg (N := 12) ?hd (cs := #[.bool false, .int .u32 0, .int .u32 0, .int .u32 0, .int .u32 0, .int .u32 0, .int .u32 0]) (t := 25) ?hr ?_; (case hd => rfl); (case hg => rfl); (case hr => first | (go_simp; done) | (go_simp; rfl)); intro g6 hg w1 hbox hb; replace HO := Aside0.mk (HO.out.box hg hbox hb); clear hg hbox hb) | ((with_reducible refine gate_dst (N := 13) rfl ?_); refine box_event ?hg (N := 13) ?hd (cs := #[.bool false, .int .u32 0, .int .u32 0, .int .u32 0, .int .u32 0, .int .u32 0, .int .u32 0]) (t := 25) ?hr ?_; (case hd => rfl); (case hg => rfl); (case hr => first | (go_simp; done) | (go_simp; rfl)); intro g7 hg w5 hbox hb; replace HO := Aside0.mk (HO.out.box hg hbox hb); clear hg hbox hb) | ((with_reducible refine gate_store (t := 25) (p := 10) rfl ?_); refine store_event (t := 25) (p := 10) (v := ?vo_2) (w1 := (World.setCell (World.setCell (World.setCell (World.setCell (World.setCell (World.setCell (World.setCell w5 ⟨g4, 0, none⟩ (.bool (decide ((1 : Int) < 0)))) ⟨g4, 1, none⟩ (.int .u32 ((lb (1 : Int).natAbs 0 : Nat) : Int))) ⟨g4, 2, none⟩ (.int .u32 ((lb (1 : Int).natAbs 1 : Nat) : Int))) ⟨g4, 3, none⟩ (.int .u32 ((lb (1 : Int).natAbs 2 : Nat) : Int))) ⟨g4, 4, none⟩ (.int .u32 ((lb (1 : Int).natAbs 3 : Nat) : Int))) ⟨g4, 5, none⟩ (.int .u32 ((lb (1 : Int).natAbs 4 : Nat) : Int))) ⟨g4, 6, none⟩ (.int .u32 ((lb (1 : Int).natAbs 5 : Nat) : Int)))) ?hg ?ho ?hn ?hr ?_; (case ho => rfl); (case hg => rfl); (case hn => rfl); (case hr => (try simp only [Act.put, List.setIfInBounds_toArray, List.set_cons_zero, List.set_cons_succ]); exact run_put7_ rfl (show _ = Value.pointer (some ⟨g4, 0, none⟩) from by rfl) (show _ = Value.agg #[.bool (decide ((1 : Int) < 0)), .int .u32 ((lb (1 : Int).natAbs 0 : Nat) : Int), .int .u32 ((lb (1 : Int).natAbs 1 : Nat) : Int), .int .u32 ((lb (1 : Int).natAbs 2 : Nat) : Int), .int .u32 ((lb (1 : Int).natAbs 3 : Nat) : Int), .int .u32 ((lb (1 : Int).natAbs 4 : Nat) : Int), .int .u32 ((lb (1 : Int).natAbs 5 : Nat) : Int)] from by rfl) (HO.out.at 3 rfl) (by kernel_rfl) (by rfl)); intro w6 hw; replace HO := Aside0.mk (HO.out.put7 3 rfl hw rfl); clear hw) | ((with_reducible refine gate_store (t := 25) (p := 11) rfl ?_); refine store_event (t := 25) (p := 11) (v := ?vo_3) (w1 := (World.setCell (World.setCell (World.setCell (World.setCell (World.setCell (World.setCell (World.setCell w6 ⟨g5, 0, none⟩ (.bool false)) ⟨g5, 1, none⟩ (.int .u32 0)) ⟨g5, 2, none⟩ (.int .u32 0)) ⟨g5, 3, none⟩ (.int .u32 0)) ⟨g5, 4, none⟩ (.int .u32 0)) ⟨g5, 5, none⟩ (.int .u32 0)) ⟨g5, 6, none⟩ (.int .u32 0))) ?hg ?ho ?hn ?hr ?_; (case ho => rfl); (case hg => rfl); (case hn => rfl); (case hr => (try simp only [Act.put, List.setIfInBounds_toArray, List.set_cons_zero, List.set_cons_succ]); exact run_put7_ rfl (show _ = Value.pointer (some ⟨g5, 0, none⟩) from by rfl) (show _ = Value.agg #[.bool false, .int .u32 0, .int .u32 0, .int .u32 0, .int .u32 0, .int .u32 0, .int .u32 0] from by rfl) (HO.out.at 2 rfl) (by kernel_rfl) (by rfl)); intro w7 hw; replace HO := Aside0.mk (HO.out.put7 2 rfl hw rfl); clear hw) | ((with_reducible refine gate_store (t := 25) (p := 12) rfl ?_); refine store_event (t := 25) (p := 12) (v := ?vo_4) (w1 := (World.setCell (World.setCell (World.setCell (World.setCell (World.setCell (World.setCell (World.setCell w7 ⟨g6, 0, none⟩ (.bool false)) ⟨g6, 1, none⟩ (.int .u32 0)) ⟨g6, 2, none⟩ (.int .u32 0)) ⟨g6, 3, none⟩ (.int .u32 0)) ⟨g6, 4, none⟩ (.int .u32 0)) ⟨g6, 5, none⟩ (.int .u32 0)) ⟨g6, 6, none⟩ (.int .u32 0))) ?hg ?ho ?hn ?hr ?_; (case ho => rfl); (case hg => rfl); (case hn => rfl); (case hr => (try simp only [Act.put, List.setIfInBounds_toArray, List.set_cons_zero, List.set_cons_succ]); exact run_put7_ rfl (show _ = Value.pointer (some ⟨g6, 0, none⟩) from by rfl) (show _ = Value.agg #[.bool false, .int .u32 0, .int .u32 0, .int .u32 0, .int .u32 0, .int .u32 0, .int .u32 0] from by rfl) (HO.out.at 1 rfl) (by kernel_rfl) (by rfl)); intro w8 hw; replace HO := Aside0.mk (HO.out.put7 1 rfl hw rfl); clear hw) | ((with_reducible refine gate_store (t := 25) (p := 13) rfl ?_); refine store_event (t := 25) (p := 13) (v := ?vo_5) (w1 := (World.setCell (World.setCell (World.setCell (World.setCell (World.setCell (World.setCell (World.setCell w8 ⟨g7, 0, none⟩ (.bool (decide ((1 : Int) < 0)))) ⟨g7, 1, none⟩ (.int .u32 ((lb (1 : Int).natAbs 0 : Nat) : Int))) ⟨g7, 2, none⟩ (.int .u32 ((lb (1 : Int).natAbs 1 : Nat) : Int))) ⟨g7, 3, none⟩ (.int .u32 ((lb (1 : Int).natAbs 2 : Nat) : Int))) ⟨g7, 4, none⟩ (.int .u32 ((lb (1 : Int).natAbs 3 : Nat) : Int))) ⟨g7, 5, none⟩ (.int .u32 ((lb (1 : Int).natAbs 4 : Nat) : Int))) ⟨g7, 6, none⟩ (.int .u32 ((lb (1 : Int).natAbs 5 : Nat) : Int)))) ?hg ?ho ?hn ?hr ?_; (case ho => rfl); (case hg => rfl); (case hn => rfl); (case hr => (try simp only [Act.put, List.setIfInBounds_toArray, List.set_cons_zero, List.set_cons_succ]); exact run_put7_ rfl (show _ = Value.pointer (some ⟨g7, 0, none⟩) from by rfl) (show _ = Value.agg #[.bool (decide ((1 : Int) < 0)), .int .u32 ((lb (1 : Int).natAbs 0 : Nat) : Int), .int .u32 ((lb (1 : Int).natAbs 1 : Nat) : Int), .int .u32 ((lb (1 : Int).natAbs 2 : Nat) : Int), .int .u32 ((lb (1 : Int).natAbs 3 : Nat) : Int), .int .u32 ((lb (1 : Int).natAbs 4 : Nat) : Int), .int .u32 ((lb (1 : Int).natAbs 5 : Nat) : Int)] from by rfl) (HO.out.at 0 rfl) (by kernel_rfl) (by rfl)); intro w9 hw; replace HO := Aside0.mk (HO.out.put7 0 rfl hw rfl); clear hw))
  go_loopg [14] k (fun kq v14 w' => ∃ (i p q p0 q0 : Int) (ov : Bool), v14 = .int .i64 i ∧ Aside0 (rcR a0 l1 a2 kq i p q p0 q0 ov = some (r1, r2, r3)) ∧ Aside0 (kq ≤ k) ∧ Aside0 (p.natAbs < 4294967296 ^ 6 ∧ q.natAbs < 4294967296 ^ 6 ∧ p0.natAbs < 4294967296 ^ 6 ∧ q0.natAbs < 4294967296 ^ 6) ∧ Aside0 (OB w.heap.size w w' [(g7, WZ q0, 25), (g6, WZ p0, 25), (g5, WZ q, 25), (g4, WZ p, 25), (g3, #[.bool ov], 79), (g2, WZ 0, 25), (g1, WZ 0, 25)]))
  case atStart => exact ⟨0, 1, 0, 0, 1, false, rfl, H, ⟨Nat.le_refl _⟩, ⟨by decide⟩, ⟨HO.out⟩⟩
  case round =>
    clear HO H
    obtain ⟨i, p, q, p0, q0, ov, rfl, H, HK, HS, HO⟩ := hrel
    cases gk with
    | zero => exact absurd H.out (by simp [rcR])
    | succ k1 =>
    have h := H.out
    rw [rcR] at h
    by_cases c : i ≤ a2 ∧ ov = false
    · rw [if_pos c] at h
      obtain ⟨c1, rfl⟩ := c
      obtain ⟨a, ha, h⟩ := Option.bind_eq_some_iff.mp h
      have HT := Aside0.mk ha
      clear ha H
      by_cases ca : -9223372036854775808 ≤ a ∧ a < 9223372036854775808
      · rw [if_pos ca] at h
        have H := Aside0.mk h
        have CA := Aside0.mk ca
        have c2 : decide (i ≤ a2) = true := decide_eq_true c1
        have k3 : wr.cell? ⟨g3, 0, none⟩ = some (.bool false) := HO.out.cell 4 rfl 0 rfl
        clear h ca c1
        go_wp2_with (first | (go_at_call 79; (with_reducible refine (impl_rootTerm.calls a0 A1 c1 l1 i a _ ?s1 HC.out HT.out).mono ?_); (case s1 => exact Kd.C_below HR.out HO.out.bel); rintro e w4 ⟨rfl, ⟨nd, rfl⟩⟩; replace HO := Aside0.mk (HO.out.drewN nd)) | (go_at_call 88; (with_reducible refine (Wide.iOf _ a CA.out.1 CA.out.2).mono ?_); rintro e w4 ⟨rfl, hb⟩; replace HO := Aside0.mk (HO.out.below hb); clear hb) | ((with_reducible refine gate_dst (N := 15) rfl ?_); refine box_event ?hg (N := 15) ?hd (cs := #[.bool false, .int .u32 0, .int .u32 0, .int .u32 0, .int .u32 0, .int .u32 0, .int .u32 0]) (t := 25) ?hr ?_; (case hd => rfl); (case hg => rfl); (case hr => first | (go_simp; done) | (go_simp; rfl)); intro g8 hg w5 hbox hb; replace HO := Aside0.mk (HO.out.box hg hbox hb); clear hg hbox hb) | ((with_reducible refine gate_store (t := 25) (p := 15) rfl ?_); refine store_event (t := 25) (p := 15) (v := ?vo_8) (w1 := (World.setCell (World.setCell (World.setCell (World.setCell (World.setCell (World.setCell (World.setCell w5 ⟨g8, 0, none⟩ (.bool (decide (a < 0)))) ⟨g8, 1, none⟩ (.int .u32 ((lb a.natAbs 0 : Nat) : Int))) ⟨g8, 2, none⟩ (.int .u32 ((lb a.natAbs 1 : Nat) : Int))) ⟨g8, 3, none⟩ (.int .u32 ((lb a.natAbs 2 : Nat) : Int))) ⟨g8, 4, none⟩ (.int .u32 ((lb a.natAbs 3 : Nat) : Int))) ⟨g8, 5, none⟩ (.int .u32 ((lb a.natAbs 4 : Nat) : Int))) ⟨g8, 6, none⟩ (.int .u32 ((lb a.natAbs 5 : Nat) : Int)))) ?hg ?ho ?hn ?hr ?_; (case ho => rfl); (case hg => rfl); (case hn => rfl); (case hr => (try simp only [Act.put, List.setIfInBounds_toArray, List.set_cons_zero, List.set_cons_succ]); exact run_put7_ rfl (show _ = Value.pointer (some ⟨g8, 0, none⟩) from by rfl) (show _ = Value.agg #[.bool (decide (a < 0)), .int .u32 ((lb a.natAbs 0 : Nat) : Int), .int .u32 ((lb a.natAbs 1 : Nat) : Int), .int .u32 ((lb a.natAbs 2 : Nat) : Int), .int .u32 ((lb a.natAbs 3 : Nat) : Int), .int .u32 ((lb a.natAbs 4 : Nat) : Int), .int .u32 ((lb a.natAbs 5 : Nat) : Int)] from by rfl) (HO.out.at 0 rfl) (by kernel_rfl) (by rfl)); intro w6 hw; replace HO := Aside0.mk (HO.out.put7 0 rfl hw rfl); clear hw))
        replace HO := Aside0.mk HO.out.drew
        have HA := Aside0.mk (Wide.abs_small CA.out.1 CA.out.2)
        obtain ⟨X1, eX1⟩ : ∃ z, Wide.fitZ (a * p) = z := ⟨_, rfl⟩
        obtain ⟨X2, eX2⟩ : ∃ z, Wide.fitZ (a * q) = z := ⟨_, rfl⟩
        have HX1 : Aside0 (X1.natAbs < 4294967296 ^ 6) := ⟨eX1 ▸ Wide.fitZ_lt _⟩
        have HX2 : Aside0 (X2.natAbs < 4294967296 ^ 6) := ⟨eX2 ▸ Wide.fitZ_lt _⟩
        obtain ⟨P1, eP1⟩ : ∃ z, Wide.addZ X1 p0 = z := ⟨_, rfl⟩
        obtain ⟨Q1, eQ1⟩ : ∃ z, Wide.addZ X2 q0 = z := ⟨_, rfl⟩
        have HP1 : Aside0 (P1.natAbs < 4294967296 ^ 6) := ⟨eP1 ▸ Wide.addZ_lt _ _⟩
        have HQ1 : Aside0 (Q1.natAbs < 4294967296 ^ 6) := ⟨eQ1 ▸ Wide.addZ_lt _ _⟩
        obtain ⟨o1, h1⟩ : ∃ o, (false || Wide.ovM (a * p).natAbs) = o := ⟨_, rfl⟩
        obtain ⟨o2, h2⟩ : ∃ o, (o1 || Wide.ovM (X1 + p0).natAbs) = o := ⟨_, rfl⟩
        obtain ⟨o3, h3⟩ : ∃ o, (o2 || Wide.ovM (a * q).natAbs) = o := ⟨_, rfl⟩
        obtain ⟨o4, h4⟩ : ∃ o, (o3 || Wide.ovM (X2 + q0).natAbs) = o := ⟨_, rfl⟩
        have H2 : Aside0 (rcR a0 l1 a2 k1 (wrap64 (i + 1)) P1 Q1 p q o4 = some (r1, r2, r3)) := ⟨by rw [← h4, ← h3, ← h2, ← h1, ← eP1, ← eQ1, ← eX1, ← eX2]; exact H.out⟩
        have EX1 := Aside0.mk eX1
        have EX2 := Aside0.mk eX2
        have EP1 := Aside0.mk eP1
        have EQ1 := Aside0.mk eQ1
        have Oo1 := Aside0.mk h1
        have Oo2 := Aside0.mk h2
        have Oo3 := Aside0.mk h3
        have Oo4 := Aside0.mk h4
        clear H eX1 eX2 eP1 eQ1 h1 h2 h3 h4
        refine start_ (n := 16) (S := fun w' => w'.cell? ⟨g8, 0, none⟩ = some (.bool (decide (a < 0))) ∧ w'.cell? ⟨g8, 1, none⟩ = some (.int .u32 ((lb a.natAbs 0 : Nat) : Int)) ∧ w'.cell? ⟨g8, 2, none⟩ = some (.int .u32 ((lb a.natAbs 1 : Nat) : Int)) ∧ w'.cell? ⟨g8, 3, none⟩ = some (.int .u32 ((lb a.natAbs 2 : Nat) : Int)) ∧ w'.cell? ⟨g8, 4, none⟩ = some (.int .u32 ((lb a.natAbs 3 : Nat) : Int)) ∧ w'.cell? ⟨g8, 5, none⟩ = some (.int .u32 ((lb a.natAbs 4 : Nat) : Int)) ∧ w'.cell? ⟨g8, 6, none⟩ = some (.int .u32 ((lb a.natAbs 5 : Nat) : Int)) ∧ w'.cell? ⟨g4, 0, none⟩ = some (.bool (decide (p < 0))) ∧ w'.cell? ⟨g4, 1, none⟩ = some (.int .u32 ((lb p.natAbs 0 : Nat) : Int)) ∧ w'.cell? ⟨g4, 2, none⟩ = some (.int .u32 ((lb p.natAbs 1 : Nat) : Int)) ∧ w'.cell? ⟨g4, 3, none⟩ = some (.int .u32 ((lb p.natAbs 2 : Nat) : Int)) ∧ w'.cell? ⟨g4, 4, none⟩ = some (.int .u32 ((lb p.natAbs 3 : Nat) : Int)) ∧ w'.cell? ⟨g4, 5, none⟩ = some (.int .u32 ((lb p.natAbs 4 : Nat) : Int)) ∧ w'.cell? ⟨g4, 6, none⟩ = some (.int .u32 ((lb p.natAbs 5 : Nat) : Int)) ∧ w'.cell? ⟨g5, 0, none⟩ = some (.bool (decide (q < 0))) ∧ w'.cell? ⟨g5, 1, none⟩ = some (.int .u32 ((lb q.natAbs 0 : Nat) : Int)) ∧ w'.cell? ⟨g5, 2, none⟩ = some (.int .u32 ((lb q.natAbs 1 : Nat) : Int)) ∧ w'.cell? ⟨g5, 3, none⟩ = some (.int .u32 ((lb q.natAbs 2 : Nat) : Int)) ∧ w'.cell? ⟨g5, 4, none⟩ = some (.int .u32 ((lb q.natAbs 3 : Nat) : Int)) ∧ w'.cell? ⟨g5, 5, none⟩ = some (.int .u32 ((lb q.natAbs 4 : Nat) : Int)) ∧ w'.cell? ⟨g5, 6, none⟩ = some (.int .u32 ((lb q.natAbs 5 : Nat) : Int)) ∧ w'.cell? ⟨g6, 0, none⟩ = some (.bool (decide (p0 < 0))) ∧ w'.cell? ⟨g6, 1, none⟩ = some (.int .u32 ((lb p0.natAbs 0 : Nat) : Int)) ∧ w'.cell? ⟨g6, 2, none⟩ = some (.int .u32 ((lb p0.natAbs 1 : Nat) : Int)) ∧ w'.cell? ⟨g6, 3, none⟩ = some (.int .u32 ((lb p0.natAbs 2 : Nat) : Int)) ∧ w'.cell? ⟨g6, 4, none⟩ = some (.int .u32 ((lb p0.natAbs 3 : Nat) : Int)) ∧ w'.cell? ⟨g6, 5, none⟩ = some (.int .u32 ((lb p0.natAbs 4 : Nat) : Int)) ∧ w'.cell? ⟨g6, 6, none⟩ = some (.int .u32 ((lb p0.natAbs 5 : Nat) : Int)) ∧ w'.cell? ⟨g7, 0, none⟩ = some (.bool (decide (q0 < 0))) ∧ w'.cell? ⟨g7, 1, none⟩ = some (.int .u32 ((lb q0.natAbs 0 : Nat) : Int)) ∧ w'.cell? ⟨g7, 2, none⟩ = some (.int .u32 ((lb q0.natAbs 1 : Nat) : Int)) ∧ w'.cell? ⟨g7, 3, none⟩ = some (.int .u32 ((lb q0.natAbs 2 : Nat) : Int)) ∧ w'.cell? ⟨g7, 4, none⟩ = some (.int .u32 ((lb q0.natAbs 3 : Nat) : Int)) ∧ w'.cell? ⟨g7, 5, none⟩ = some (.int .u32 ((lb q0.natAbs 4 : Nat) : Int)) ∧ w'.cell? ⟨g7, 6, none⟩ = some (.int .u32 ((lb q0.natAbs 5 : Nat) : Int))) (ds := [12, 13, 14, 15]) #[false, false, false, false, false, false, false, false, false, false, false, false, false, false, false, false] (by kernel_rfl) rfl rfl ⟨HO.out.cell 0 rfl 0 rfl, HO.out.cell 0 rfl 1 rfl, HO.out.cell 0 rfl 2 rfl, HO.out.cell 0 rfl 3 rfl, HO.out.cell 0 rfl 4 rfl, HO.out.cell 0 rfl 5 rfl, HO.out.cell 0 rfl 6 rfl, HO.out.cell 4 rfl 0 rfl, HO.out.cell 4 rfl 1 rfl, HO.out.cell 4 rfl 2 rfl, HO.out.cell 4 rfl 3 rfl, HO.out.cell 4 rfl 4 rfl, HO.out.cell 4 rfl 5 rfl, HO.out.cell 4 rfl 6 rfl, HO.out.cell 3 rfl 0 rfl, HO.out.cell 3 rfl 1 rfl, HO.out.cell 3 rfl 2 rfl, HO.out.cell 3 rfl 3 rfl, HO.out.cell 3 rfl 4 rfl, HO.out.cell 3 rfl 5 rfl, HO.out.cell 3 rfl 6 rfl, HO.out.cell 2 rfl 0 rfl, HO.out.cell 2 rfl 1 rfl, HO.out.cell 2 rfl 2 rfl, HO.out.cell 2 rfl 3 rfl, HO.out.cell 2 rfl 4 rfl, HO.out.cell 2 rfl 5 rfl, HO.out.cell 2 rfl 6 rfl, HO.out.cell 1 rfl 0 rfl, HO.out.cell 1 rfl 1 rfl, HO.out.cell 1 rfl 2 rfl, HO.out.cell 1 rfl 3 rfl, HO.out.cell 1 rfl 4 rfl, HO.out.cell 1 rfl 5 rfl, HO.out.cell 1 rfl 6 rfl⟩ (fun hHeld => ?_)
        refine take_ (i := 0) (N := some 36) (v := ?_) (a' := ?_) #[true, false, false, false, false, false, false, false, false, false, false, false, false, false, false, false] rfl rfl (by kernel_rfl) (fun _ _ _ h => h) (Or.inl ⟨by rfl, ?_⟩) hHeld ?_ ?_
        rotate_left
        · rintro w' ⟨s0, s1, s2, s3, s4, s5, s6, s7, s8, s9, s10, s11, s12, s13, s14, s15, s16, s17, s18, s19, s20, s21, s22, s23, s24, s25, s26, s27, s28, s29, s30, s31, s32, s33, s34⟩
          go_simp
          with_reducible rfl
        rotate_left
        · simp only [Act.put, List.setIfInBounds_toArray, List.set_cons_zero, List.set_cons_succ, i64_w, i32_w]
          rfl
        refine take_ (i := 1) (N := some 37) (v := ?_) (a' := ?_) #[true, true, false, false, false, false, false, false, false, false, false, false, false, false, false, false] rfl rfl (by kernel_rfl) (fun _ _ _ h => h) (Or.inl ⟨by rfl, ?_⟩) hHeld ?_ ?_
        rotate_left
        · rintro w' ⟨s0, s1, s2, s3, s4, s5, s6, s7, s8, s9, s10, s11, s12, s13, s14, s15, s16, s17, s18, s19, s20, s21, s22, s23, s24, s25, s26, s27, s28, s29, s30, s31, s32, s33, s34⟩
          go_simp
          with_reducible rfl
        rotate_left
        · simp only [Act.put, List.setIfInBounds_toArray, List.set_cons_zero, List.set_cons_succ, i64_w, i32_w]
          rfl
        refine take_ (i := 3) (N := some 39) (v := ?_) (a' := ?_) #[true, true, false, true, false, false, false, false, false, false, false, false, false, false, false, false] rfl rfl (by kernel_rfl) (fun _ _ _ h => h) (Or.inl ⟨by rfl, ?_⟩) hHeld ?_ ?_
        rotate_left
        · rintro w' ⟨s0, s1, s2, s3, s4, s5, s6, s7, s8, s9, s10, s11, s12, s13, s14, s15, s16, s17, s18, s19, s20, s21, s22, s23, s24, s25, s26, s27, s28, s29, s30, s31, s32, s33, s34⟩
          go_simp
          with_reducible rfl
        rotate_left
        · simp only [Act.put, List.setIfInBounds_toArray, List.set_cons_zero, List.set_cons_succ, i64_w, i32_w]
          rfl
        refine take_ (i := 5) (N := some 41) (v := ?_) (a' := ?_) #[true, true, false, true, false, true, false, false, false, false, false, false, false, false, false, false] rfl rfl (by kernel_rfl) (fun _ _ _ h => h) (Or.inl ⟨by rfl, ?_⟩) hHeld ?_ ?_
        rotate_left
        · rintro w' ⟨s0, s1, s2, s3, s4, s5, s6, s7, s8, s9, s10, s11, s12, s13, s14, s15, s16, s17, s18, s19, s20, s21, s22, s23, s24, s25, s26, s27, s28, s29, s30, s31, s32, s33, s34⟩
          go_simp
          with_reducible rfl
        rotate_left
        · simp only [Act.put, List.setIfInBounds_toArray, List.set_cons_zero, List.set_cons_succ, i64_w, i32_w]
          rfl
        refine take_ (i := 6) (N := some 42) (v := ?_) (a' := ?_) #[true, true, false, true, false, true, true, false, false, false, false, false, false, false, false, false] rfl rfl (by kernel_rfl) (fun _ _ _ h => h) (Or.inl ⟨by rfl, ?_⟩) hHeld ?_ ?_
        rotate_left
        · rintro w' ⟨s0, s1, s2, s3, s4, s5, s6, s7, s8, s9, s10, s11, s12, s13, s14, s15, s16, s17, s18, s19, s20, s21, s22, s23, s24, s25, s26, s27, s28, s29, s30, s31, s32, s33, s34⟩
          go_simp
          with_reducible rfl
        rotate_left
        · simp only [Act.put, List.setIfInBounds_toArray, List.set_cons_zero, List.set_cons_succ, i64_w, i32_w]
          rfl
        refine take_ (i := 8) (N := some 44) (v := ?_) (a' := ?_) #[true, true, false, true, false, true, true, false, true, false, false, false, false, false, false, false] rfl rfl (by kernel_rfl) (fun _ _ _ h => h) (Or.inl ⟨by rfl, ?_⟩) hHeld ?_ ?_
        rotate_left
        · rintro w' ⟨s0, s1, s2, s3, s4, s5, s6, s7, s8, s9, s10, s11, s12, s13, s14, s15, s16, s17, s18, s19, s20, s21, s22, s23, s24, s25, s26, s27, s28, s29, s30, s31, s32, s33, s34⟩
          go_simp
          with_reducible rfl
        rotate_left
        · simp only [Act.put, List.setIfInBounds_toArray, List.set_cons_zero, List.set_cons_succ, i64_w, i32_w]
          rfl
        refine take_ (i := 10) (N := some 46) (v := ?_) (a' := ?_) #[true, true, false, true, false, true, true, false, true, false, true, false, false, false, false, false] rfl rfl (by kernel_rfl) (fun _ _ _ h => h) (Or.inl ⟨by rfl, ?_⟩) hHeld ?_ ?_
        rotate_left
        · rintro w' ⟨s0, s1, s2, s3, s4, s5, s6, s7, s8, s9, s10, s11, s12, s13, s14, s15, s16, s17, s18, s19, s20, s21, s22, s23, s24, s25, s26, s27, s28, s29, s30, s31, s32, s33, s34⟩
          go_simp
          with_reducible rfl
        rotate_left
        · simp only [Act.put, List.setIfInBounds_toArray, List.set_cons_zero, List.set_cons_succ, i64_w, i32_w]
          rfl
        refine take_ (i := 11) (N := some 47) (v := ?_) (a' := ?_) #[true, true, false, true, false, true, true, false, true, false, true, true, false, false, false, false] rfl rfl (by kernel_rfl) (fun _ _ _ h => h) (Or.inl ⟨by rfl, ?_⟩) hHeld ?_ ?_
        rotate_left
        · rintro w' ⟨s0, s1, s2, s3, s4, s5, s6, s7, s8, s9, s10, s11, s12, s13, s14, s15, s16, s17, s18, s19, s20, s21, s22, s23, s24, s25, s26, s27, s28, s29, s30, s31, s32, s33, s34⟩
          go_simp
          with_reducible rfl
        rotate_left
        · simp only [Act.put, List.setIfInBounds_toArray, List.set_cons_zero, List.set_cons_succ, i64_w, i32_w]
          rfl
        refine one_ (i := 2) (N := some 38) #[true, true, true, true, false, true, true, false, true, false, true, true, false, false, false, false] rfl rfl (by kernel_rfl) (by decide) (fun K hK => ?_)
        refine goes_ Try.func90 (by kernel_rfl) rfl #[.pointer (some ⟨g3, 0, none⟩), WV a, WV p] (by rfl) rfl rfl (by simp only [List.map_toArray, List.map_cons, List.map_nil]; rfl) ?_
        with_reducible refine (Wide.iMulE _ g3 false a p X1 o1 HA.out HS.out.1 (HO.out.cb 5 rfl) EX1.out Oo1.out).mono ?_
        rintro e w10 ⟨rfl, hb⟩
        refine ⟨_, rfl, ?_⟩
        replace HO := Aside0.mk (HO.out.calc 5 rfl o1 hb rfl)
        clear hb
        refine hK.out _ _ ⟨HO.out.cell 0 rfl 0 rfl, HO.out.cell 0 rfl 1 rfl, HO.out.cell 0 rfl 2 rfl, HO.out.cell 0 rfl 3 rfl, HO.out.cell 0 rfl 4 rfl, HO.out.cell 0 rfl 5 rfl, HO.out.cell 0 rfl 6 rfl, HO.out.cell 4 rfl 0 rfl, HO.out.cell 4 rfl 1 rfl, HO.out.cell 4 rfl 2 rfl, HO.out.cell 4 rfl 3 rfl, HO.out.cell 4 rfl 4 rfl, HO.out.cell 4 rfl 5 rfl, HO.out.cell 4 rfl 6 rfl, HO.out.cell 3 rfl 0 rfl, HO.out.cell 3 rfl 1 rfl, HO.out.cell 3 rfl 2 rfl, HO.out.cell 3 rfl 3 rfl, HO.out.cell 3 rfl 4 rfl, HO.out.cell 3 rfl 5 rfl, HO.out.cell 3 rfl 6 rfl, HO.out.cell 2 rfl 0 rfl, HO.out.cell 2 rfl 1 rfl, HO.out.cell 2 rfl 2 rfl, HO.out.cell 2 rfl 3 rfl, HO.out.cell 2 rfl 4 rfl, HO.out.cell 2 rfl 5 rfl, HO.out.cell 2 rfl 6 rfl, HO.out.cell 1 rfl 0 rfl, HO.out.cell 1 rfl 1 rfl, HO.out.cell 1 rfl 2 rfl, HO.out.cell 1 rfl 3 rfl, HO.out.cell 1 rfl 4 rfl, HO.out.cell 1 rfl 5 rfl, HO.out.cell 1 rfl 6 rfl⟩ (fun hHeld => ?_)
        clear hK K
        refine norm_ (a' := ?_) ?_ ?_
        rotate_left
        · show Act.put _ (some 38) _ = _
          simp only [Act.put, List.setIfInBounds_toArray, List.set_cons_zero, List.set_cons_succ, i64_w, i32_w]
          rfl
        refine one_ (i := 4) (N := some 40) #[true, true, true, true, true, true, true, false, true, false, true, true, false, false, false, false] rfl rfl (by kernel_rfl) (by decide) (fun K hK => ?_)
        refine goes_ Try.func89 (by kernel_rfl) rfl #[.pointer (some ⟨g3, 0, none⟩), WV X1, WV p0] (by rfl) rfl rfl (by simp only [List.map_toArray, List.map_cons, List.map_nil]; rfl) ?_
        with_reducible refine (Wide.iAddE _ g3 o1 X1 p0 P1 o2 HX1.out HS.out.2.2.1 (HO.out.cb 5 rfl) EP1.out Oo2.out).mono ?_
        rintro e w11 ⟨rfl, hb⟩
        refine ⟨_, rfl, ?_⟩
        replace HO := Aside0.mk (HO.out.calc 5 rfl o2 hb rfl)
        clear hb
        refine hK.out _ _ ⟨HO.out.cell 0 rfl 0 rfl, HO.out.cell 0 rfl 1 rfl, HO.out.cell 0 rfl 2 rfl, HO.out.cell 0 rfl 3 rfl, HO.out.cell 0 rfl 4 rfl, HO.out.cell 0 rfl 5 rfl, HO.out.cell 0 rfl 6 rfl, HO.out.cell 4 rfl 0 rfl, HO.out.cell 4 rfl 1 rfl, HO.out.cell 4 rfl 2 rfl, HO.out.cell 4 rfl 3 rfl, HO.out.cell 4 rfl 4 rfl, HO.out.cell 4 rfl 5 rfl, HO.out.cell 4 rfl 6 rfl, HO.out.cell 3 rfl 0 rfl, HO.out.cell 3 rfl 1 rfl, HO.out.cell 3 rfl 2 rfl, HO.out.cell 3 rfl 3 rfl, HO.out.cell 3 rfl 4 rfl, HO.out.cell 3 rfl 5 rfl, HO.out.cell 3 rfl 6 rfl, HO.out.cell 2 rfl 0 rfl, HO.out.cell 2 rfl 1 rfl, HO.out.cell 2 rfl 2 rfl, HO.out.cell 2 rfl 3 rfl, HO.out.cell 2 rfl 4 rfl, HO.out.cell 2 rfl 5 rfl, HO.out.cell 2 rfl 6 rfl, HO.out.cell 1 rfl 0 rfl, HO.out.cell 1 rfl 1 rfl, HO.out.cell 1 rfl 2 rfl, HO.out.cell 1 rfl 3 rfl, HO.out.cell 1 rfl 4 rfl, HO.out.cell 1 rfl 5 rfl, HO.out.cell 1 rfl 6 rfl⟩ (fun hHeld => ?_)
        clear hK K
        refine norm_ (a' := ?_) ?_ ?_
        rotate_left
        · show Act.put _ (some 40) _ = _
          simp only [Act.put, List.setIfInBounds_toArray, List.set_cons_zero, List.set_cons_succ, i64_w, i32_w]
          rfl
        refine one_ (i := 7) (N := some 43) #[true, true, true, true, true, true, true, true, true, false, true, true, false, false, false, false] rfl rfl (by kernel_rfl) (by decide) (fun K hK => ?_)
        refine goes_ Try.func90 (by kernel_rfl) rfl #[.pointer (some ⟨g3, 0, none⟩), WV a, WV q] (by rfl) rfl rfl (by simp only [List.map_toArray, List.map_cons, List.map_nil]; rfl) ?_
        with_reducible refine (Wide.iMulE _ g3 o2 a q X2 o3 HA.out HS.out.2.1 (HO.out.cb 5 rfl) EX2.out Oo3.out).mono ?_
        rintro e w12 ⟨rfl, hb⟩
        refine ⟨_, rfl, ?_⟩
        replace HO := Aside0.mk (HO.out.calc 5 rfl o3 hb rfl)
        clear hb
        refine hK.out _ _ ⟨HO.out.cell 0 rfl 0 rfl, HO.out.cell 0 rfl 1 rfl, HO.out.cell 0 rfl 2 rfl, HO.out.cell 0 rfl 3 rfl, HO.out.cell 0 rfl 4 rfl, HO.out.cell 0 rfl 5 rfl, HO.out.cell 0 rfl 6 rfl, HO.out.cell 4 rfl 0 rfl, HO.out.cell 4 rfl 1 rfl, HO.out.cell 4 rfl 2 rfl, HO.out.cell 4 rfl 3 rfl, HO.out.cell 4 rfl 4 rfl, HO.out.cell 4 rfl 5 rfl, HO.out.cell 4 rfl 6 rfl, HO.out.cell 3 rfl 0 rfl, HO.out.cell 3 rfl 1 rfl, HO.out.cell 3 rfl 2 rfl, HO.out.cell 3 rfl 3 rfl, HO.out.cell 3 rfl 4 rfl, HO.out.cell 3 rfl 5 rfl, HO.out.cell 3 rfl 6 rfl, HO.out.cell 2 rfl 0 rfl, HO.out.cell 2 rfl 1 rfl, HO.out.cell 2 rfl 2 rfl, HO.out.cell 2 rfl 3 rfl, HO.out.cell 2 rfl 4 rfl, HO.out.cell 2 rfl 5 rfl, HO.out.cell 2 rfl 6 rfl, HO.out.cell 1 rfl 0 rfl, HO.out.cell 1 rfl 1 rfl, HO.out.cell 1 rfl 2 rfl, HO.out.cell 1 rfl 3 rfl, HO.out.cell 1 rfl 4 rfl, HO.out.cell 1 rfl 5 rfl, HO.out.cell 1 rfl 6 rfl⟩ (fun hHeld => ?_)
        clear hK K
        refine norm_ (a' := ?_) ?_ ?_
        rotate_left
        · show Act.put _ (some 43) _ = _
          simp only [Act.put, List.setIfInBounds_toArray, List.set_cons_zero, List.set_cons_succ, i64_w, i32_w]
          rfl
        refine one_ (i := 9) (N := some 45) #[true, true, true, true, true, true, true, true, true, true, true, true, false, false, false, false] rfl rfl (by kernel_rfl) (by decide) (fun K hK => ?_)
        refine goes_ Try.func89 (by kernel_rfl) rfl #[.pointer (some ⟨g3, 0, none⟩), WV X2, WV q0] (by rfl) rfl rfl (by simp only [List.map_toArray, List.map_cons, List.map_nil]; rfl) ?_
        with_reducible refine (Wide.iAddE _ g3 o3 X2 q0 Q1 o4 HX2.out HS.out.2.2.2 (HO.out.cb 5 rfl) EQ1.out Oo4.out).mono ?_
        rintro e w13 ⟨rfl, hb⟩
        refine ⟨_, rfl, ?_⟩
        replace HO := Aside0.mk (HO.out.calc 5 rfl o4 hb rfl)
        clear hb
        refine hK.out _ _ ⟨HO.out.cell 0 rfl 0 rfl, HO.out.cell 0 rfl 1 rfl, HO.out.cell 0 rfl 2 rfl, HO.out.cell 0 rfl 3 rfl, HO.out.cell 0 rfl 4 rfl, HO.out.cell 0 rfl 5 rfl, HO.out.cell 0 rfl 6 rfl, HO.out.cell 4 rfl 0 rfl, HO.out.cell 4 rfl 1 rfl, HO.out.cell 4 rfl 2 rfl, HO.out.cell 4 rfl 3 rfl, HO.out.cell 4 rfl 4 rfl, HO.out.cell 4 rfl 5 rfl, HO.out.cell 4 rfl 6 rfl, HO.out.cell 3 rfl 0 rfl, HO.out.cell 3 rfl 1 rfl, HO.out.cell 3 rfl 2 rfl, HO.out.cell 3 rfl 3 rfl, HO.out.cell 3 rfl 4 rfl, HO.out.cell 3 rfl 5 rfl, HO.out.cell 3 rfl 6 rfl, HO.out.cell 2 rfl 0 rfl, HO.out.cell 2 rfl 1 rfl, HO.out.cell 2 rfl 2 rfl, HO.out.cell 2 rfl 3 rfl, HO.out.cell 2 rfl 4 rfl, HO.out.cell 2 rfl 5 rfl, HO.out.cell 2 rfl 6 rfl, HO.out.cell 1 rfl 0 rfl, HO.out.cell 1 rfl 1 rfl, HO.out.cell 1 rfl 2 rfl, HO.out.cell 1 rfl 3 rfl, HO.out.cell 1 rfl 4 rfl, HO.out.cell 1 rfl 5 rfl, HO.out.cell 1 rfl 6 rfl⟩ (fun hHeld => ?_)
        clear hK K
        refine norm_ (a' := ?_) ?_ ?_
        rotate_left
        · show Act.put _ (some 45) _ = _
          simp only [Act.put, List.setIfInBounds_toArray, List.set_cons_zero, List.set_cons_succ, i64_w, i32_w]
          rfl
        refine last_store_ (i := 12) (w1 := (World.setCell (World.setCell (World.setCell (World.setCell (World.setCell (World.setCell (World.setCell w13 ⟨g4, 0, none⟩ (.bool (decide (P1 < 0)))) ⟨g4, 1, none⟩ (.int .u32 ((lb P1.natAbs 0 : Nat) : Int))) ⟨g4, 2, none⟩ (.int .u32 ((lb P1.natAbs 1 : Nat) : Int))) ⟨g4, 3, none⟩ (.int .u32 ((lb P1.natAbs 2 : Nat) : Int))) ⟨g4, 4, none⟩ (.int .u32 ((lb P1.natAbs 3 : Nat) : Int))) ⟨g4, 5, none⟩ (.int .u32 ((lb P1.natAbs 4 : Nat) : Int))) ⟨g4, 6, none⟩ (.int .u32 ((lb P1.natAbs 5 : Nat) : Int)))) #[true, true, true, true, true, true, true, true, true, true, true, true, true, false, false, false] rfl rfl (by kernel_rfl) (by decide) (by rfl) (run_put7_ rfl (show _ = Value.pointer (some ⟨g4, 0, none⟩) from by rfl) (show _ = Value.agg #[.bool (decide (P1 < 0)), .int .u32 ((lb P1.natAbs 0 : Nat) : Int), .int .u32 ((lb P1.natAbs 1 : Nat) : Int), .int .u32 ((lb P1.natAbs 2 : Nat) : Int), .int .u32 ((lb P1.natAbs 3 : Nat) : Int), .int .u32 ((lb P1.natAbs 4 : Nat) : Int), .int .u32 ((lb P1.natAbs 5 : Nat) : Int)] from by rfl) (HO.out.at 4 rfl) (by kernel_rfl) (by rfl)) ?_
        generalize hw_ : (World.setCell (World.setCell (World.setCell (World.setCell (World.setCell (World.setCell (World.setCell w13 ⟨g4, 0, none⟩ (.bool (decide (P1 < 0)))) ⟨g4, 1, none⟩ (.int .u32 ((lb P1.natAbs 0 : Nat) : Int))) ⟨g4, 2, none⟩ (.int .u32 ((lb P1.natAbs 1 : Nat) : Int))) ⟨g4, 3, none⟩ (.int .u32 ((lb P1.natAbs 2 : Nat) : Int))) ⟨g4, 4, none⟩ (.int .u32 ((lb P1.natAbs 3 : Nat) : Int))) ⟨g4, 5, none⟩ (.int .u32 ((lb P1.natAbs 4 : Nat) : Int))) ⟨g4, 6, none⟩ (.int .u32 ((lb P1.natAbs 5 : Nat) : Int))) = w14
        replace HO := Aside0.mk (HO.out.put7 4 rfl hw_.symm rfl)
        clear hw_
        refine last_store_ (i := 13) (w1 := (World.setCell (World.setCell (World.setCell (World.setCell (World.setCell (World.setCell (World.setCell w14 ⟨g5, 0, none⟩ (.bool (decide (Q1 < 0)))) ⟨g5, 1, none⟩ (.int .u32 ((lb Q1.natAbs 0 : Nat) : Int))) ⟨g5, 2, none⟩ (.int .u32 ((lb Q1.natAbs 1 : Nat) : Int))) ⟨g5, 3, none⟩ (.int .u32 ((lb Q1.natAbs 2 : Nat) : Int))) ⟨g5, 4, none⟩ (.int .u32 ((lb Q1.natAbs 3 : Nat) : Int))) ⟨g5, 5, none⟩ (.int .u32 ((lb Q1.natAbs 4 : Nat) : Int))) ⟨g5, 6, none⟩ (.int .u32 ((lb Q1.natAbs 5 : Nat) : Int)))) #[true, true, true, true, true, true, true, true, true, true, true, true, true, true, false, false] rfl rfl (by kernel_rfl) (by decide) (by rfl) (run_put7_ rfl (show _ = Value.pointer (some ⟨g5, 0, none⟩) from by rfl) (show _ = Value.agg #[.bool (decide (Q1 < 0)), .int .u32 ((lb Q1.natAbs 0 : Nat) : Int), .int .u32 ((lb Q1.natAbs 1 : Nat) : Int), .int .u32 ((lb Q1.natAbs 2 : Nat) : Int), .int .u32 ((lb Q1.natAbs 3 : Nat) : Int), .int .u32 ((lb Q1.natAbs 4 : Nat) : Int), .int .u32 ((lb Q1.natAbs 5 : Nat) : Int)] from by rfl) (HO.out.at 3 rfl) (by kernel_rfl) (by rfl)) ?_
        generalize hw_ : (World.setCell (World.setCell (World.setCell (World.setCell (World.setCell (World.setCell (World.setCell w14 ⟨g5, 0, none⟩ (.bool (decide (Q1 < 0)))) ⟨g5, 1, none⟩ (.int .u32 ((lb Q1.natAbs 0 : Nat) : Int))) ⟨g5, 2, none⟩ (.int .u32 ((lb Q1.natAbs 1 : Nat) : Int))) ⟨g5, 3, none⟩ (.int .u32 ((lb Q1.natAbs 2 : Nat) : Int))) ⟨g5, 4, none⟩ (.int .u32 ((lb Q1.natAbs 3 : Nat) : Int))) ⟨g5, 5, none⟩ (.int .u32 ((lb Q1.natAbs 4 : Nat) : Int))) ⟨g5, 6, none⟩ (.int .u32 ((lb Q1.natAbs 5 : Nat) : Int))) = w15
        replace HO := Aside0.mk (HO.out.put7 3 rfl hw_.symm rfl)
        clear hw_
        refine last_store_ (i := 14) (w1 := (World.setCell (World.setCell (World.setCell (World.setCell (World.setCell (World.setCell (World.setCell w15 ⟨g6, 0, none⟩ (.bool (decide (p < 0)))) ⟨g6, 1, none⟩ (.int .u32 ((lb p.natAbs 0 : Nat) : Int))) ⟨g6, 2, none⟩ (.int .u32 ((lb p.natAbs 1 : Nat) : Int))) ⟨g6, 3, none⟩ (.int .u32 ((lb p.natAbs 2 : Nat) : Int))) ⟨g6, 4, none⟩ (.int .u32 ((lb p.natAbs 3 : Nat) : Int))) ⟨g6, 5, none⟩ (.int .u32 ((lb p.natAbs 4 : Nat) : Int))) ⟨g6, 6, none⟩ (.int .u32 ((lb p.natAbs 5 : Nat) : Int)))) #[true, true, true, true, true, true, true, true, true, true, true, true, true, true, true, false] rfl rfl (by kernel_rfl) (by decide) (by rfl) (run_put7_ rfl (show _ = Value.pointer (some ⟨g6, 0, none⟩) from by rfl) (show _ = Value.agg #[.bool (decide (p < 0)), .int .u32 ((lb p.natAbs 0 : Nat) : Int), .int .u32 ((lb p.natAbs 1 : Nat) : Int), .int .u32 ((lb p.natAbs 2 : Nat) : Int), .int .u32 ((lb p.natAbs 3 : Nat) : Int), .int .u32 ((lb p.natAbs 4 : Nat) : Int), .int .u32 ((lb p.natAbs 5 : Nat) : Int)] from by rfl) (HO.out.at 2 rfl) (by kernel_rfl) (by rfl)) ?_
        generalize hw_ : (World.setCell (World.setCell (World.setCell (World.setCell (World.setCell (World.setCell (World.setCell w15 ⟨g6, 0, none⟩ (.bool (decide (p < 0)))) ⟨g6, 1, none⟩ (.int .u32 ((lb p.natAbs 0 : Nat) : Int))) ⟨g6, 2, none⟩ (.int .u32 ((lb p.natAbs 1 : Nat) : Int))) ⟨g6, 3, none⟩ (.int .u32 ((lb p.natAbs 2 : Nat) : Int))) ⟨g6, 4, none⟩ (.int .u32 ((lb p.natAbs 3 : Nat) : Int))) ⟨g6, 5, none⟩ (.int .u32 ((lb p.natAbs 4 : Nat) : Int))) ⟨g6, 6, none⟩ (.int .u32 ((lb p.natAbs 5 : Nat) : Int))) = w16
        replace HO := Aside0.mk (HO.out.put7 2 rfl hw_.symm rfl)
        clear hw_
        refine last_store_ (i := 15) (w1 := (World.setCell (World.setCell (World.setCell (World.setCell (World.setCell (World.setCell (World.setCell w16 ⟨g7, 0, none⟩ (.bool (decide (q < 0)))) ⟨g7, 1, none⟩ (.int .u32 ((lb q.natAbs 0 : Nat) : Int))) ⟨g7, 2, none⟩ (.int .u32 ((lb q.natAbs 1 : Nat) : Int))) ⟨g7, 3, none⟩ (.int .u32 ((lb q.natAbs 2 : Nat) : Int))) ⟨g7, 4, none⟩ (.int .u32 ((lb q.natAbs 3 : Nat) : Int))) ⟨g7, 5, none⟩ (.int .u32 ((lb q.natAbs 4 : Nat) : Int))) ⟨g7, 6, none⟩ (.int .u32 ((lb q.natAbs 5 : Nat) : Int)))) #[true, true, true, true, true, true, true, true, true, true, true, true, true, true, true, true] rfl rfl (by kernel_rfl) (by decide) (by rfl) (run_put7_ rfl (show _ = Value.pointer (some ⟨g7, 0, none⟩) from by rfl) (show _ = Value.agg #[.bool (decide (q < 0)), .int .u32 ((lb q.natAbs 0 : Nat) : Int), .int .u32 ((lb q.natAbs 1 : Nat) : Int), .int .u32 ((lb q.natAbs 2 : Nat) : Int), .int .u32 ((lb q.natAbs 3 : Nat) : Int), .int .u32 ((lb q.natAbs 4 : Nat) : Int), .int .u32 ((lb q.natAbs 5 : Nat) : Int)] from by rfl) (HO.out.at 1 rfl) (by kernel_rfl) (by rfl)) ?_
        refine done_ (by kernel_rfl) ?_
        generalize hw_ : (World.setCell (World.setCell (World.setCell (World.setCell (World.setCell (World.setCell (World.setCell w16 ⟨g7, 0, none⟩ (.bool (decide (q < 0)))) ⟨g7, 1, none⟩ (.int .u32 ((lb q.natAbs 0 : Nat) : Int))) ⟨g7, 2, none⟩ (.int .u32 ((lb q.natAbs 1 : Nat) : Int))) ⟨g7, 3, none⟩ (.int .u32 ((lb q.natAbs 2 : Nat) : Int))) ⟨g7, 4, none⟩ (.int .u32 ((lb q.natAbs 3 : Nat) : Int))) ⟨g7, 5, none⟩ (.int .u32 ((lb q.natAbs 4 : Nat) : Int))) ⟨g7, 6, none⟩ (.int .u32 ((lb q.natAbs 5 : Nat) : Int))) = w17
        replace HO := Aside0.mk (HO.out.put7 1 rfl hw_.symm rfl)
        clear hw_
        go_wp2
        go_roundg k1
        case measure => omega
        case rel => exact ⟨wrap64 (i + 1), P1, Q1, p, q, o4, rfl, H2, ⟨by have := HK.out; omega⟩, ⟨HP1.out, HQ1.out, HS.out.1, HS.out.2.1⟩, ⟨HO.out.drop⟩⟩
      · rw [if_neg ca] at h
        exact absurd h (by simp)
    · rw [if_neg c] at h
      have k3 : wr.cell? ⟨g3, 0, none⟩ = some (.bool ov) := HO.out.cell 4 rfl 0 rfl
      cases ov
      · have c2 : decide (i ≤ a2) = false := decide_eq_false (fun e => c ⟨e, rfl⟩)
        rw [if_neg (by decide)] at h
        obtain ⟨rfl, h9⟩ := Prod.mk.inj (Option.some.inj h)
        obtain ⟨rfl, rfl⟩ := Prod.mk.inj h9
        clear c
        go_wp2
        replace HO := Aside0.mk HO.out.drew
        refine start_ (n := 5) (S := fun w' => w'.cell? ⟨g4, 0, none⟩ = some (.bool (decide (p < 0))) ∧ w'.cell? ⟨g4, 1, none⟩ = some (.int .u32 ((lb p.natAbs 0 : Nat) : Int)) ∧ w'.cell? ⟨g4, 2, none⟩ = some (.int .u32 ((lb p.natAbs 1 : Nat) : Int)) ∧ w'.cell? ⟨g4, 3, none⟩ = some (.int .u32 ((lb p.natAbs 2 : Nat) : Int)) ∧ w'.cell? ⟨g4, 4, none⟩ = some (.int .u32 ((lb p.natAbs 3 : Nat) : Int)) ∧ w'.cell? ⟨g4, 5, none⟩ = some (.int .u32 ((lb p.natAbs 4 : Nat) : Int)) ∧ w'.cell? ⟨g4, 6, none⟩ = some (.int .u32 ((lb p.natAbs 5 : Nat) : Int)) ∧ w'.cell? ⟨g5, 0, none⟩ = some (.bool (decide (q < 0))) ∧ w'.cell? ⟨g5, 1, none⟩ = some (.int .u32 ((lb q.natAbs 0 : Nat) : Int)) ∧ w'.cell? ⟨g5, 2, none⟩ = some (.int .u32 ((lb q.natAbs 1 : Nat) : Int)) ∧ w'.cell? ⟨g5, 3, none⟩ = some (.int .u32 ((lb q.natAbs 2 : Nat) : Int)) ∧ w'.cell? ⟨g5, 4, none⟩ = some (.int .u32 ((lb q.natAbs 3 : Nat) : Int)) ∧ w'.cell? ⟨g5, 5, none⟩ = some (.int .u32 ((lb q.natAbs 4 : Nat) : Int)) ∧ w'.cell? ⟨g5, 6, none⟩ = some (.int .u32 ((lb q.natAbs 5 : Nat) : Int))) (ds := [3]) #[false, false, false, false, false] (by kernel_rfl) rfl rfl ⟨HO.out.cell 3 rfl 0 rfl, HO.out.cell 3 rfl 1 rfl, HO.out.cell 3 rfl 2 rfl, HO.out.cell 3 rfl 3 rfl, HO.out.cell 3 rfl 4 rfl, HO.out.cell 3 rfl 5 rfl, HO.out.cell 3 rfl 6 rfl, HO.out.cell 2 rfl 0 rfl, HO.out.cell 2 rfl 1 rfl, HO.out.cell 2 rfl 2 rfl, HO.out.cell 2 rfl 3 rfl, HO.out.cell 2 rfl 4 rfl, HO.out.cell 2 rfl 5 rfl, HO.out.cell 2 rfl 6 rfl⟩ (fun hHeld => ?_)
        refine take_ (i := 0) (N := some 52) (v := ?_) (a' := ?_) #[true, false, false, false, false] rfl rfl (by kernel_rfl) (fun _ _ _ h => h) (Or.inl ⟨by rfl, ?_⟩) hHeld ?_ ?_
        rotate_left
        · rintro w' ⟨s0, s1, s2, s3, s4, s5, s6, s7, s8, s9, s10, s11, s12, s13⟩
          go_simp
          with_reducible rfl
        rotate_left
        · simp only [Act.put, List.setIfInBounds_toArray, List.set_cons_zero, List.set_cons_succ, i64_w, i32_w]
          rfl
        refine take_ (i := 1) (N := some 53) (v := ?_) (a' := ?_) #[true, true, false, false, false] rfl rfl (by kernel_rfl) (fun _ _ _ h => h) (Or.inl ⟨by rfl, ?_⟩) hHeld ?_ ?_
        rotate_left
        · rintro w' ⟨s0, s1, s2, s3, s4, s5, s6, s7, s8, s9, s10, s11, s12, s13⟩
          go_simp
          with_reducible rfl
        rotate_left
        · simp only [Act.put, List.setIfInBounds_toArray, List.set_cons_zero, List.set_cons_succ, i64_w, i32_w]
          rfl
        have HO2 := Aside0.mk (HO.out.put7 6 rfl (rfl : (World.setCell (World.setCell (World.setCell (World.setCell (World.setCell (World.setCell (World.setCell wr.drew ⟨g1, 0, none⟩ (.bool (decide (p < 0)))) ⟨g1, 1, none⟩ (.int .u32 ((lb p.natAbs 0 : Nat) : Int))) ⟨g1, 2, none⟩ (.int .u32 ((lb p.natAbs 1 : Nat) : Int))) ⟨g1, 3, none⟩ (.int .u32 ((lb p.natAbs 2 : Nat) : Int))) ⟨g1, 4, none⟩ (.int .u32 ((lb p.natAbs 3 : Nat) : Int))) ⟨g1, 5, none⟩ (.int .u32 ((lb p.natAbs 4 : Nat) : Int))) ⟨g1, 6, none⟩ (.int .u32 ((lb p.natAbs 5 : Nat) : Int))) = _) rfl)
        refine one_store_ (i := 2) (w1 := (World.setCell (World.setCell (World.setCell (World.setCell (World.setCell (World.setCell (World.setCell wr.drew ⟨g1, 0, none⟩ (.bool (decide (p < 0)))) ⟨g1, 1, none⟩ (.int .u32 ((lb p.natAbs 0 : Nat) : Int))) ⟨g1, 2, none⟩ (.int .u32 ((lb p.natAbs 1 : Nat) : Int))) ⟨g1, 3, none⟩ (.int .u32 ((lb p.natAbs 2 : Nat) : Int))) ⟨g1, 4, none⟩ (.int .u32 ((lb p.natAbs 3 : Nat) : Int))) ⟨g1, 5, none⟩ (.int .u32 ((lb p.natAbs 4 : Nat) : Int))) ⟨g1, 6, none⟩ (.int .u32 ((lb p.natAbs 5 : Nat) : Int)))) #[true, true, true, false, false] rfl rfl (by kernel_rfl) (by decide) (by rfl) (run_put7_ rfl (show _ = Value.pointer (some ⟨g1, 0, none⟩) from by rfl) (show _ = Value.agg #[.bool (decide (p < 0)), .int .u32 ((lb p.natAbs 0 : Nat) : Int), .int .u32 ((lb p.natAbs 1 : Nat) : Int), .int .u32 ((lb p.natAbs 2 : Nat) : Int), .int .u32 ((lb p.natAbs 3 : Nat) : Int), .int .u32 ((lb p.natAbs 4 : Nat) : Int), .int .u32 ((lb p.natAbs 5 : Nat) : Int)] from by rfl) (HO.out.at 6 rfl) (by kernel_rfl) (by rfl)) ⟨HO2.out.cell 3 rfl 0 rfl, HO2.out.cell 3 rfl 1 rfl, HO2.out.cell 3 rfl 2 rfl, HO2.out.cell 3 rfl 3 rfl, HO2.out.cell 3 rfl 4 rfl, HO2.out.cell 3 rfl 5 rfl, HO2.out.cell 3 rfl 6 rfl, HO2.out.cell 2 rfl 0 rfl, HO2.out.cell 2 rfl 1 rfl, HO2.out.cell 2 rfl 2 rfl, HO2.out.cell 2 rfl 3 rfl, HO2.out.cell 2 rfl 4 rfl, HO2.out.cell 2 rfl 5 rfl, HO2.out.cell 2 rfl 6 rfl⟩ (fun hHeld => ?_)
        refine last_store_ (i := 3) (w1 := (World.setCell (World.setCell (World.setCell (World.setCell (World.setCell (World.setCell (World.setCell (World.setCell (World.setCell (World.setCell (World.setCell (World.setCell (World.setCell (World.setCell wr.drew ⟨g1, 0, none⟩ (.bool (decide (p < 0)))) ⟨g1, 1, none⟩ (.int .u32 ((lb p.natAbs 0 : Nat) : Int))) ⟨g1, 2, none⟩ (.int .u32 ((lb p.natAbs 1 : Nat) : Int))) ⟨g1, 3, none⟩ (.int .u32 ((lb p.natAbs 2 : Nat) : Int))) ⟨g1, 4, none⟩ (.int .u32 ((lb p.natAbs 3 : Nat) : Int))) ⟨g1, 5, none⟩ (.int .u32 ((lb p.natAbs 4 : Nat) : Int))) ⟨g1, 6, none⟩ (.int .u32 ((lb p.natAbs 5 : Nat) : Int))) ⟨g2, 0, none⟩ (.bool (decide (q < 0)))) ⟨g2, 1, none⟩ (.int .u32 ((lb q.natAbs 0 : Nat) : Int))) ⟨g2, 2, none⟩ (.int .u32 ((lb q.natAbs 1 : Nat) : Int))) ⟨g2, 3, none⟩ (.int .u32 ((lb q.natAbs 2 : Nat) : Int))) ⟨g2, 4, none⟩ (.int .u32 ((lb q.natAbs 3 : Nat) : Int))) ⟨g2, 5, none⟩ (.int .u32 ((lb q.natAbs 4 : Nat) : Int))) ⟨g2, 6, none⟩ (.int .u32 ((lb q.natAbs 5 : Nat) : Int)))) #[true, true, true, true, false] rfl rfl (by kernel_rfl) (by decide) (by rfl) (run_put7_ rfl (show _ = Value.pointer (some ⟨g2, 0, none⟩) from by rfl) (show _ = Value.agg #[.bool (decide (q < 0)), .int .u32 ((lb q.natAbs 0 : Nat) : Int), .int .u32 ((lb q.natAbs 1 : Nat) : Int), .int .u32 ((lb q.natAbs 2 : Nat) : Int), .int .u32 ((lb q.natAbs 3 : Nat) : Int), .int .u32 ((lb q.natAbs 4 : Nat) : Int), .int .u32 ((lb q.natAbs 5 : Nat) : Int)] from by rfl) (HO2.out.at 5 rfl) (by kernel_rfl) (by rfl)) ?_
        refine pure_ (i := 4) (N := some 8) (v := ?_) (a' := ?_) #[true, true, true, true, true] rfl rfl (by kernel_rfl) (fun _ _ _ h => h) (Or.inl ⟨by rfl, ?_⟩) ?_ ?_
        rotate_left
        · intro w'
          go_simp
          with_reducible rfl
        rotate_left
        · simp only [Act.put, List.setIfInBounds_toArray, List.set_cons_zero, List.set_cons_succ, i64_w, i32_w]
          rfl
        refine done_ (by kernel_rfl) ?_
        generalize hw_ : (World.setCell (World.setCell (World.setCell (World.setCell (World.setCell (World.setCell (World.setCell (World.setCell (World.setCell (World.setCell (World.setCell (World.setCell (World.setCell (World.setCell wr.drew ⟨g1, 0, none⟩ (.bool (decide (p < 0)))) ⟨g1, 1, none⟩ (.int .u32 ((lb p.natAbs 0 : Nat) : Int))) ⟨g1, 2, none⟩ (.int .u32 ((lb p.natAbs 1 : Nat) : Int))) ⟨g1, 3, none⟩ (.int .u32 ((lb p.natAbs 2 : Nat) : Int))) ⟨g1, 4, none⟩ (.int .u32 ((lb p.natAbs 3 : Nat) : Int))) ⟨g1, 5, none⟩ (.int .u32 ((lb p.natAbs 4 : Nat) : Int))) ⟨g1, 6, none⟩ (.int .u32 ((lb p.natAbs 5 : Nat) : Int))) ⟨g2, 0, none⟩ (.bool (decide (q < 0)))) ⟨g2, 1, none⟩ (.int .u32 ((lb q.natAbs 0 : Nat) : Int))) ⟨g2, 2, none⟩ (.int .u32 ((lb q.natAbs 1 : Nat) : Int))) ⟨g2, 3, none⟩ (.int .u32 ((lb q.natAbs 2 : Nat) : Int))) ⟨g2, 4, none⟩ (.int .u32 ((lb q.natAbs 3 : Nat) : Int))) ⟨g2, 5, none⟩ (.int .u32 ((lb q.natAbs 4 : Nat) : Int))) ⟨g2, 6, none⟩ (.int .u32 ((lb q.natAbs 5 : Nat) : Int))) = w19
        replace HO := Aside0.mk (HO2.out.put7 5 rfl hw_.symm rfl)
        clear hw_
        go_wp2
        refine bodyPost_ret (results_list (rs := [.cell 6 25, .cell 7 25, .tmp 8]) rfl (by simp) (.cell g1 25 #[.bool (decide (p < 0)), .int .u32 ((lb p.natAbs 0 : Nat) : Int), .int .u32 ((lb p.natAbs 1 : Nat) : Int), .int .u32 ((lb p.natAbs 2 : Nat) : Int), .int .u32 ((lb p.natAbs 3 : Nat) : Int), .int .u32 ((lb p.natAbs 4 : Nat) : Int), .int .u32 ((lb p.natAbs 5 : Nat) : Int)] (0, 0) _ rfl (HO.out.at 6 rfl) Try.underlying25 rfl (by kernel_rfl) (.cell g2 25 #[.bool (decide (q < 0)), .int .u32 ((lb q.natAbs 0 : Nat) : Int), .int .u32 ((lb q.natAbs 1 : Nat) : Int), .int .u32 ((lb q.natAbs 2 : Nat) : Int), .int .u32 ((lb q.natAbs 3 : Nat) : Int), .int .u32 ((lb q.natAbs 4 : Nat) : Int), .int .u32 ((lb q.natAbs 5 : Nat) : Int)] (0, 0) _ rfl (HO.out.at 5 rfl) Try.underlying25 rfl (by kernel_rfl) (.tmp .nil)))) rfl ?_
        exact ⟨rfl, HO.out.bel⟩
      · rw [if_pos rfl] at h
        obtain ⟨rfl, h9⟩ := Prod.mk.inj (Option.some.inj h)
        obtain ⟨rfl, rfl⟩ := Prod.mk.inj h9
        by_cases c1 : i ≤ a2
        · have c2 : decide (i ≤ a2) = true := decide_eq_true c1
          go_wp2_with (first | ((with_reducible refine gate_store (t := 25) (p := 6) rfl ?_); refine store_event (t := 25) (p := 6) (v := ?vo_6) (w1 := (World.setCell (World.setCell (World.setCell (World.setCell (World.setCell (World.setCell (World.setCell wr ⟨g1, 0, none⟩ (.bool false)) ⟨g1, 1, none⟩ (.int .u32 0)) ⟨g1, 2, none⟩ (.int .u32 0)) ⟨g1, 3, none⟩ (.int .u32 0)) ⟨g1, 4, none⟩ (.int .u32 0)) ⟨g1, 5, none⟩ (.int .u32 0)) ⟨g1, 6, none⟩ (.int .u32 0))) ?hg ?ho ?hn ?hr ?_; (case ho => rfl); (case hg => rfl); (case hn => rfl); (case hr => (try simp only [Act.put, List.setIfInBounds_toArray, List.set_cons_zero, List.set_cons_succ]); exact run_put7_ rfl (show _ = Value.pointer (some ⟨g1, 0, none⟩) from by rfl) (show _ = Value.agg #[.bool false, .int .u32 0, .int .u32 0, .int .u32 0, .int .u32 0, .int .u32 0, .int .u32 0] from by rfl) (HO.out.at 6 rfl) (by kernel_rfl) (by rfl)); intro w18 hw; replace HO := Aside0.mk (HO.out.put7 6 rfl hw rfl); clear hw) | ((with_reducible refine gate_store (t := 25) (p := 7) rfl ?_); refine store_event (t := 25) (p := 7) (v := ?vo_7) (w1 := (World.setCell (World.setCell (World.setCell (World.setCell (World.setCell (World.setCell (World.setCell w18 ⟨g2, 0, none⟩ (.bool false)) ⟨g2, 1, none⟩ (.int .u32 0)) ⟨g2, 2, none⟩ (.int .u32 0)) ⟨g2, 3, none⟩ (.int .u32 0)) ⟨g2, 4, none⟩ (.int .u32 0)) ⟨g2, 5, none⟩ (.int .u32 0)) ⟨g2, 6, none⟩ (.int .u32 0))) ?hg ?ho ?hn ?hr ?_; (case ho => rfl); (case hg => rfl); (case hn => rfl); (case hr => (try simp only [Act.put, List.setIfInBounds_toArray, List.set_cons_zero, List.set_cons_succ]); exact run_put7_ rfl (show _ = Value.pointer (some ⟨g2, 0, none⟩) from by rfl) (show _ = Value.agg #[.bool false, .int .u32 0, .int .u32 0, .int .u32 0, .int .u32 0, .int .u32 0, .int .u32 0] from by rfl) (HO.out.at 5 rfl) (by kernel_rfl) (by rfl)); intro w19 hw; replace HO := Aside0.mk (HO.out.put7 5 rfl hw rfl); clear hw))
          refine bodyPost_ret (results_list (rs := [.cell 6 25, .cell 7 25, .tmp 8]) rfl (by simp) (.cell g1 25 #[.bool false, .int .u32 0, .int .u32 0, .int .u32 0, .int .u32 0, .int .u32 0, .int .u32 0] (0, 0) _ rfl (HO.out.at 6 rfl) Try.underlying25 rfl (by kernel_rfl) (.cell g2 25 #[.bool false, .int .u32 0, .int .u32 0, .int .u32 0, .int .u32 0, .int .u32 0, .int .u32 0] (0, 0) _ rfl (HO.out.at 5 rfl) Try.underlying25 rfl (by kernel_rfl) (.tmp .nil)))) rfl ?_
          exact ⟨rfl, HO.out.bel⟩
        · have c2 : decide (i ≤ a2) = false := decide_eq_false c1
          go_wp2_with (first | ((with_reducible refine gate_store (t := 25) (p := 6) rfl ?_); refine store_event (t := 25) (p := 6) (v := ?vo_6) (w1 := (World.setCell (World.setCell (World.setCell (World.setCell (World.setCell (World.setCell (World.setCell wr ⟨g1, 0, none⟩ (.bool false)) ⟨g1, 1, none⟩ (.int .u32 0)) ⟨g1, 2, none⟩ (.int .u32 0)) ⟨g1, 3, none⟩ (.int .u32 0)) ⟨g1, 4, none⟩ (.int .u32 0)) ⟨g1, 5, none⟩ (.int .u32 0)) ⟨g1, 6, none⟩ (.int .u32 0))) ?hg ?ho ?hn ?hr ?_; (case ho => rfl); (case hg => rfl); (case hn => rfl); (case hr => (try simp only [Act.put, List.setIfInBounds_toArray, List.set_cons_zero, List.set_cons_succ]); exact run_put7_ rfl (show _ = Value.pointer (some ⟨g1, 0, none⟩) from by rfl) (show _ = Value.agg #[.bool false, .int .u32 0, .int .u32 0, .int .u32 0, .int .u32 0, .int .u32 0, .int .u32 0] from by rfl) (HO.out.at 6 rfl) (by kernel_rfl) (by rfl)); intro w18 hw; replace HO := Aside0.mk (HO.out.put7 6 rfl hw rfl); clear hw) | ((with_reducible refine gate_store (t := 25) (p := 7) rfl ?_); refine store_event (t := 25) (p := 7) (v := ?vo_7) (w1 := (World.setCell (World.setCell (World.setCell (World.setCell (World.setCell (World.setCell (World.setCell w18 ⟨g2, 0, none⟩ (.bool false)) ⟨g2, 1, none⟩ (.int .u32 0)) ⟨g2, 2, none⟩ (.int .u32 0)) ⟨g2, 3, none⟩ (.int .u32 0)) ⟨g2, 4, none⟩ (.int .u32 0)) ⟨g2, 5, none⟩ (.int .u32 0)) ⟨g2, 6, none⟩ (.int .u32 0))) ?hg ?ho ?hn ?hr ?_; (case ho => rfl); (case hg => rfl); (case hn => rfl); (case hr => (try simp only [Act.put, List.setIfInBounds_toArray, List.set_cons_zero, List.set_cons_succ]); exact run_put7_ rfl (show _ = Value.pointer (some ⟨g2, 0, none⟩) from by rfl) (show _ = Value.agg #[.bool false, .int .u32 0, .int .u32 0, .int .u32 0, .int .u32 0, .int .u32 0, .int .u32 0] from by rfl) (HO.out.at 5 rfl) (by kernel_rfl) (by rfl)); intro w19 hw; replace HO := Aside0.mk (HO.out.put7 5 rfl hw rfl); clear hw))
          refine bodyPost_ret (results_list (rs := [.cell 6 25, .cell 7 25, .tmp 8]) rfl (by simp) (.cell g1 25 #[.bool false, .int .u32 0, .int .u32 0, .int .u32 0, .int .u32 0, .int .u32 0, .int .u32 0] (0, 0) _ rfl (HO.out.at 6 rfl) Try.underlying25 rfl (by kernel_rfl) (.cell g2 25 #[.bool false, .int .u32 0, .int .u32 0, .int .u32 0, .int .u32 0, .int .u32 0, .int .u32 0] (0, 0) _ rfl (HO.out.at 5 rfl) Try.underlying25 rfl (by kernel_rfl) (.tmp .nil)))) rfl ?_
          exact ⟨rfl, HO.out.bel⟩

set_option linter.defProp false
def aM12_ := @Aside0.mk
theorem q12x1_ {P : Prop} (h : P := by repeat (first | (with_reducible first | exact HB.out | apply below_alloc | apply pw_below_drewN | apply below_drew1 | refine below_set ?_ GE243.out | refine below_set ?_ GE244.out) | exact HB.out)) : P := h
theorem q12x2_ {P : Prop} (h : P := by (with_reducible repeat (first | refine blk_drewN ?_ _ | refine blk_drew ?_ | refine blk_alloc ?_ _)); exact BK243.out) : P := h
theorem q12x3_ {P : Prop} (h : P := by repeat (first | (with_reducible first | exact HB.out | apply below_alloc | apply pw_below_drewN | apply below_drew1 | refine below_set ?_ GE243.out) | exact HB.out)) : P := h
theorem q12x4_ {P : Prop} (h : P := by repeat (first | (with_reducible first | exact HB.out | apply below_alloc | apply pw_below_drewN | apply below_drew1) | exact HB.out)) : P := h
theorem q12x5_ {P : Prop} (h : P := by rw [hw]; exact (by (with_reducible repeat (first | refine blk_drewN ?_ _ | refine blk_drew ?_ | refine blk_alloc ?_ _)); refine puts7_ (.bool false) (.int .u32 0) (.int .u32 0) (.int .u32 0) (.int .u32 0) (.int .u32 0) (.int .u32 0) ?_; (with_reducible repeat (first | refine blk_drewN ?_ _ | refine blk_drew ?_ | refine blk_alloc ?_ _)); exact BK243.out)) : P := h
theorem q12x6_ {P : Prop} (h : P := by rw [hw]; exact (by (with_reducible repeat (first | refine blk_drewN ?_ _ | refine blk_drew ?_ | refine blk_alloc ?_ _)); refine puts7_ (.bool false) (.int .u32 0) (.int .u32 0) (.int .u32 0) (.int .u32 0) (.int .u32 0) (.int .u32 0) ?_; (with_reducible repeat (first | refine blk_drewN ?_ _ | refine blk_drew ?_ | refine blk_alloc ?_ _)); exact BK244.out)) : P := h
theorem q12x7_ {P : Prop} (h : P := by (with_reducible repeat (first | refine blk_drewN ?_ _ | refine blk_drew ?_ | refine blk_alloc ?_ _)); exact BK244.out) : P := h
theorem q12x8_ {P : Prop} (h : P := by (try simp only [List.map_toArray, List.map_cons, List.map_nil]); first | done | rfl | (simp only [List.length_drop, List.length_take]; rfl) | (simp only [List.drop_one]; done) | (simp only [List.drop_one]; rfl)) : P := h
theorem q12x9_ {P : Prop} (h : P := by rw [hw]; exact (by (with_reducible repeat (first | refine blk_drewN ?_ _ | refine blk_drew ?_ | refine blk_alloc ?_ _ | refine blk_far ?_ NB244_243.out _)); (with_reducible repeat (first | refine blk_drewN ?_ _ | refine blk_drew ?_ | refine blk_alloc ?_ _)); exact BK244.out)) : P := h
theorem q12x10_ {P : Prop} (h : P := by rw [hw]; exact (by (with_reducible repeat (first | refine blk_drewN ?_ _ | refine blk_drew ?_ | refine blk_alloc ?_ _ | refine blk_far ?_ NB243_244.out _)); (with_reducible repeat (first | refine blk_drewN ?_ _ | refine blk_drew ?_ | refine blk_alloc ?_ _)); exact BK243.out)) : P := h
theorem q12x11_ {P : Prop} (h : P := by rw [hw]; exact (by (with_reducible repeat (first | apply Kd.R_alloc | apply Kd.R_drewN | apply Kd.R_drew)); exact Kd.R_mono (Kd.R_far (p := ⟨gb243, 6, none⟩) (Kd.R_far (p := ⟨gb243, 5, none⟩) (Kd.R_far (p := ⟨gb243, 4, none⟩) (Kd.R_far (p := ⟨gb243, 3, none⟩) (Kd.R_far (p := ⟨gb243, 2, none⟩) (Kd.R_far (p := ⟨gb243, 1, none⟩) (Kd.R_far (p := ⟨gb243, 0, none⟩) (Kd.R_types HO249.out BK243.out (by decide)) (fun _ hk => hk.2) (.bool false)) (fun _ hk => hk.2) (.int .u32 0)) (fun _ hk => hk.2) (.int .u32 0)) (fun _ hk => hk.2) (.int .u32 0)) (fun _ hk => hk.2) (.int .u32 0)) (fun _ hk => hk.2) (.int .u32 0)) (fun _ hk => hk.2) (.int .u32 0)) (fun _ hk => trivial))) : P := h
theorem q12x12_ {P : Prop} (h : P := by rw [hw]; exact (by (with_reducible repeat (first | apply Kd.R_alloc | apply Kd.R_drewN | apply Kd.R_drew)); exact Kd.R_mono (Kd.R_far (p := ⟨gb244, 6, none⟩) (Kd.R_far (p := ⟨gb244, 5, none⟩) (Kd.R_far (p := ⟨gb244, 4, none⟩) (Kd.R_far (p := ⟨gb244, 3, none⟩) (Kd.R_far (p := ⟨gb244, 2, none⟩) (Kd.R_far (p := ⟨gb244, 1, none⟩) (Kd.R_far (p := ⟨gb244, 0, none⟩) (Kd.R_types HO249.out BK244.out (by decide)) (fun _ hk => hk.2) (.bool false)) (fun _ hk => hk.2) (.int .u32 0)) (fun _ hk => hk.2) (.int .u32 0)) (fun _ hk => hk.2) (.int .u32 0)) (fun _ hk => hk.2) (.int .u32 0)) (fun _ hk => hk.2) (.int .u32 0)) (fun _ hk => hk.2) (.int .u32 0)) (fun _ hk => trivial))) : P := h
theorem q12x13_ {P : Prop} (h : P := by rw [hg]; exact Nat.ne_of_lt (blk_lt (g := gb243) (o := .cells #[.bool false, .int .u32 0, .int .u32 0, .int .u32 0, .int .u32 0, .int .u32 0, .int .u32 0] 25 (0, 0)) q12x2_)) : P := h
theorem q12x14_ {P : Prop} (h : P := by rw [hg]; exact Nat.ne_of_gt (blk_lt (g := gb243) (o := .cells #[.bool false, .int .u32 0, .int .u32 0, .int .u32 0, .int .u32 0, .int .u32 0, .int .u32 0] 25 (0, 0)) q12x2_)) : P := h
theorem q12x15_ {P : Prop} (h : P := by rw [hg]; exact (below_size q12x4_)) : P := h
theorem q12x16_ {P : Prop} (h : P := by rw [hg]; exact (below_size q12x3_)) : P := h
/-! ### impl_UnitOf: function 12 -/
def impl_UnitOf.f (k : Nat) (a0 : Int) : Option (S24 × S24 × Int) := (impl_RootTerms.f k a0).bind fun bt245 => (if bt245.2.2 = 0 then (if (bt245.2.1.length : Int) = 0 then (some ((⟨false, (⟨0, 0, 0, 0, 0, 0⟩ : S23)⟩ : S24), (⟨false, (⟨0, 0, 0, 0, 0, 0⟩ : S23)⟩ : S24), 4)) else (if ((bt245.2.1.length : Int) % 2) = 1 then ((impl_rootConvergent.f k bt245.1 bt245.2.1 (wrap64 ((wrap64 (2 * (bt245.2.1.length : Int))) - 1))).bind fun bt250 => (some (bt250.1, bt250.2.1, bt250.2.2))) else ((impl_rootConvergent.f k bt245.1 bt245.2.1 (wrap64 ((bt245.2.1.length : Int) - 1))).bind fun bt253 => (some (bt253.1, bt253.2.1, bt253.2.2))))) else (some ((⟨false, (⟨0, 0, 0, 0, 0, 0⟩ : S23)⟩ : S24), (⟨false, (⟨0, 0, 0, 0, 0, 0⟩ : S23)⟩ : S24), bt245.2.2)))
theorem impl_UnitOf.mono : ∀ a0 k, LeO (impl_UnitOf.f k a0) (impl_UnitOf.f (k + 1) a0) := by
 intro a0 k
 unfold impl_UnitOf.f
 repeat' first
   | (with_reducible exact impl_RootTerms.mono _ _)
   | (with_reducible exact impl_rootConvergent.mono _ _ _ _)
   | (with_reducible exact LeO.refl _)
   | (with_reducible exact LeO.none _)
   | (with_reducible refine LeO.ite ?_ ?_)
   | (with_reducible refine LeO.bind ?_ (fun _ => ?_))
   | exact impl_RootTerms.mono _ _
   | exact impl_rootConvergent.mono _ _ _ _
   | exact LeO.none _
   | refine LeO.ite ?_ ?_
   | refine LeO.bind ?_ (fun _ => ?_)
set_option maxHeartbeats 8000000 in
set_option maxRecDepth 100000 in
theorem impl_UnitOf.calls (k : Nat) (a0 : Int) (r1 : S24) (r2 : S24) (r3 : Int) (w : World) (h : impl_UnitOf.f k a0 = some (r1, r2, r3)) :
  Calls Try.prog 12 #[.int .i64 a0] w fun e w' => e = .returned (.tuple #[.agg #[.bool r1.f0, .int .u32 r1.f1.f0, .int .u32 r1.f1.f1, .int .u32 r1.f1.f2, .int .u32 r1.f1.f3, .int .u32 r1.f1.f4, .int .u32 r1.f1.f5], .agg #[.bool r2.f0, .int .u32 r2.f1.f0, .int .u32 r2.f1.f1, .int .u32 r2.f1.f2, .int .u32 r2.f1.f3, .int .u32 r2.f1.f4, .int .u32 r2.f1.f5], .int .i64 r3]) ∧ Below w.heap.size w w' := by
 have hu25 := Try.underlying25
 have HB := aM12_ (Below.refl w.heap.size w)
 have H : ((impl_RootTerms.f k a0).bind fun bt245 => (if bt245.2.2 = 0 then (if (bt245.2.1.length : Int) = 0 then (some ((⟨false, (⟨0, 0, 0, 0, 0, 0⟩ : S23)⟩ : S24), (⟨false, (⟨0, 0, 0, 0, 0, 0⟩ : S23)⟩ : S24), 4)) else (if ((bt245.2.1.length : Int) % 2) = 1 then ((impl_rootConvergent.f k bt245.1 bt245.2.1 (wrap64 ((wrap64 (2 * (bt245.2.1.length : Int))) - 1))).bind fun bt250 => (some (bt250.1, bt250.2.1, bt250.2.2))) else ((impl_rootConvergent.f k bt245.1 bt245.2.1 (wrap64 ((bt245.2.1.length : Int) - 1))).bind fun bt253 => (some (bt253.1, bt253.2.1, bt253.2.2))))) else (some ((⟨false, (⟨0, 0, 0, 0, 0, 0⟩ : S23)⟩ : S24), (⟨false, (⟨0, 0, 0, 0, 0, 0⟩ : S23)⟩ : S24), bt245.2.2)))) = some (r1, r2, r3) := h
 clear h
 replace H := Option.bind_eq_some_iff.mp H
 obtain ⟨⟨t245, t246, t247⟩, A20, H⟩ := H
 replace H : (if t247 = 0 then (if (t246.length : Int) = 0 then (some ((⟨false, (⟨0, 0, 0, 0, 0, 0⟩ : S23)⟩ : S24), (⟨false, (⟨0, 0, 0, 0, 0, 0⟩ : S23)⟩ : S24), 4)) else (if ((t246.length : Int) % 2) = 1 then ((impl_rootConvergent.f k t245 t246 (wrap64 ((wrap64 (2 * (t246.length : Int))) - 1))).bind fun bt250 => (some (bt250.1, bt250.2.1, bt250.2.2))) else ((impl_rootConvergent.f k t245 t246 (wrap64 ((t246.length : Int) - 1))).bind fun bt253 => (some (bt253.1, bt253.2.1, bt253.2.2))))) else (some ((⟨false, (⟨0, 0, 0, 0, 0, 0⟩ : S23)⟩ : S24), (⟨false, (⟨0, 0, 0, 0, 0, 0⟩ : S23)⟩ : S24), t247))) = some (r1, r2, r3) := H
 have A2 := aM12_ A20
 clear A20
 by_cases c3 : t247 = 0
 rotate_left
 ·rw [if_neg c3] at H
  have c3b0 : (t247 == 0) = false := beq_eq_false_iff_ne.mpr c3
  have c3b1 : (t247 != 0) = true := bne_iff_ne.mpr c3
  simp only [Option.some.injEq, Prod.mk.injEq] at H
  obtain ⟨rfl, rfl, rfl⟩ := H
  go_enter Try.func12, Try.ntmps12
  go_wp2_with (first | ((with_reducible refine gate_dst (N := 2) rfl ?_); refine box_event ?hg (N := 2) ?hd (cs := #[.bool false, .int .u32 0, .int .u32 0, .int .u32 0, .int .u32 0, .int .u32 0, .int .u32 0]) (t := 25) ?hr ?_; (case hd => rfl); (case hg => rfl); (case hr => first | (go_simp; done) | (go_simp; rfl)); intro gb243 hg w37 hbox hb; have n0_ := aM12_ (below_step q12x4_ hb); have n1_ := aM12_ (hbox); have n2_ := aM12_ ((q12x15_ : w.heap.size ≤ gb243)); have n3_ := aM12_ ((q12x15_ : w.heap.size ≤ gb243)); clear HB; have HB := n0_; have BK243 := n1_; have GW243 := n2_; have GE243 := n3_; clear n0_ n1_ n2_ n3_; clear hb hbox hg) | ((with_reducible refine gate_dst (N := 3) rfl ?_); refine box_event ?hg (N := 3) ?hd (cs := #[.bool false, .int .u32 0, .int .u32 0, .int .u32 0, .int .u32 0, .int .u32 0, .int .u32 0]) (t := 25) ?hr ?_; (case hd => rfl); (case hg => rfl); (case hr => first | (go_simp; done) | (go_simp; rfl)); intro gb244 hg w38 hbox hb; have n0_ := aM12_ (blk_below (g := gb243) (o := .cells #[.bool false, .int .u32 0, .int .u32 0, .int .u32 0, .int .u32 0, .int .u32 0, .int .u32 0] 25 (0, 0)) q12x2_ hb); have n1_ := aM12_ (below_step q12x3_ hb); have n2_ := aM12_ (hbox); have n3_ := aM12_ ((q12x16_ : w.heap.size ≤ gb244)); have n4_ := aM12_ ((q12x16_ : w.heap.size ≤ gb244)); have n5_ := aM12_ ((q12x13_ : gb243 ≠ gb244)); have n6_ := aM12_ ((q12x14_ : gb244 ≠ gb243)); clear BK243 HB; have BK243 := n0_; have HB := n1_; have BK244 := n2_; have GW244 := n3_; have GE244 := n4_; have NB243_244 := n5_; have NB244_243 := n6_; clear n0_ n1_ n2_ n3_ n4_ n5_ n6_; clear hb hbox hg) | ((with_reducible refine gate_callee (f := 39) rfl ?_); refine goesL_ (some 11) rfl rfl Try.func39 (by kernel_rfl) rfl #[.int .i64 a0] rfl q12x8_ ?_; (with_reducible refine (impl_RootTerms.calls k a0 t245 t246 t247 _ A2.out).mono ?_); rintro e w39 ⟨v248, rfl, ho0, hb⟩; refine ⟨_, rfl, ?_⟩; have n0_ := aM12_ (Kd.R_lower ho0 (below_size q12x1_)); have n1_ := aM12_ (blk_below (g := gb243) (o := .cells #[.bool false, .int .u32 0, .int .u32 0, .int .u32 0, .int .u32 0, .int .u32 0, .int .u32 0] 25 (0, 0)) q12x2_ hb); have n2_ := aM12_ (blk_below (g := gb244) (o := .cells #[.bool false, .int .u32 0, .int .u32 0, .int .u32 0, .int .u32 0, .int .u32 0, .int .u32 0] 25 (0, 0)) q12x7_ hb); have n3_ := aM12_ (below_step q12x1_ hb); clear BK243 BK244 HB; have HO249 := n0_; have BK243 := n1_; have BK244 := n2_; have HB := n3_; clear n0_ n1_ n2_ n3_; (try clear hb); (try clear hb2); (try clear hk); (try clear hi); (try clear ho0); have hnb40 := NB243_244.out; have hnc40 := NB244_243.out; obtain ⟨hcz41_0, hcz41_1, hcz41_2, hcz41_3, hcz41_4, hcz41_5, hcz41_6⟩ := cells7_ (show w39.heap[gb243]? = some (.cells #[.bool false, .int .u32 0, .int .u32 0, .int .u32 0, .int .u32 0, .int .u32 0, .int .u32 0] 25 (0, 0)) from BK243.out); obtain ⟨hfz41_0, hfz41_1, hfz41_2, hfz41_3, hfz41_4, hfz41_5, hfz41_6⟩ := frozen7_ BK243.out) | ((with_reducible refine gate_store (t := 25) (p := 2) rfl ?_); refine store_event (t := 25) (p := 2) (v := ?vo_w42) (w1 := (World.setCell (World.setCell (World.setCell (World.setCell (World.setCell (World.setCell (World.setCell w39 ⟨gb243, 0, none⟩ (.bool false)) ⟨gb243, 1, none⟩ (.int .u32 0)) ⟨gb243, 2, none⟩ (.int .u32 0)) ⟨gb243, 3, none⟩ (.int .u32 0)) ⟨gb243, 4, none⟩ (.int .u32 0)) ⟨gb243, 5, none⟩ (.int .u32 0)) ⟨gb243, 6, none⟩ (.int .u32 0))) ?hg ?ho ?hn ?hr ?_; (case ho => rfl); (case hg => rfl); (case hn => rfl); (case hr => first | ((try simp only [Act.put, List.setIfInBounds_toArray, List.set_cons_zero, List.set_cons_succ]); exact run_put7_ rfl (show _ = Value.pointer (some ⟨gb243, 0, none⟩) from by rfl) (show _ = Value.agg #[.bool false, .int .u32 0, .int .u32 0, .int .u32 0, .int .u32 0, .int .u32 0, .int .u32 0] from by rfl) BK243.out (by kernel_rfl) (by rfl)) | (go_simp; done) | (go_simp; rfl)); intro w42 hw; have n0_ : Aside0 (Kd.R (Kd.int .i64) 2 w42 w.heap.size (fun _ => True) v248 t246) := ⟨q12x11_⟩; have n1_ : Aside0 (w42.heap[gb243]? = some (.cells #[.bool false, .int .u32 0, .int .u32 0, .int .u32 0, .int .u32 0, .int .u32 0, .int .u32 0] 25 (0, 0))) := ⟨q12x5_⟩; have n2_ : Aside0 (w42.heap[gb244]? = some (.cells #[.bool false, .int .u32 0, .int .u32 0, .int .u32 0, .int .u32 0, .int .u32 0, .int .u32 0] 25 (0, 0))) := ⟨q12x9_⟩; have n3_ : Aside0 (Below w.heap.size w w42) := ⟨(by rw [hw]; exact q12x1_)⟩; clear hw; clear HO249; clear BK243; clear BK244; clear HB; have HO249 := n0_; have BK243 := n1_; have BK244 := n2_; have HB := n3_; clear n0_ n1_ n2_ n3_; obtain ⟨hcz43_0, hcz43_1, hcz43_2, hcz43_3, hcz43_4, hcz43_5, hcz43_6⟩ := cells7_ (show w42.heap[gb244]? = some (.cells #[.bool false, .int .u32 0, .int .u32 0, .int .u32 0, .int .u32 0, .int .u32 0, .int .u32 0] 25 (0, 0)) from BK244.out); obtain ⟨hfz43_0, hfz43_1, hfz43_2, hfz43_3, hfz43_4, hfz43_5, hfz43_6⟩ := frozen7_ BK244.out) | ((with_reducible refine gate_store (t := 25) (p := 3) rfl ?_); refine store_event (t := 25) (p := 3) (v := ?vo_w44) (w1 := (World.setCell (World.setCell (World.setCell (World.setCell (World.setCell (World.setCell (World.setCell w42 ⟨gb244, 0, none⟩ (.bool false)) ⟨gb244, 1, none⟩ (.int .u32 0)) ⟨gb244, 2, none⟩ (.int .u32 0)) ⟨gb244, 3, none⟩ (.int .u32 0)) ⟨gb244, 4, none⟩ (.int .u32 0)) ⟨gb244, 5, none⟩ (.int .u32 0)) ⟨gb244, 6, none⟩ (.int .u32 0))) ?hg ?ho ?hn ?hr ?_; (case ho => rfl); (case hg => rfl); (case hn => rfl); (case hr => first | ((try simp only [Act.put, List.setIfInBounds_toArray, List.set_cons_zero, List.set_cons_succ]); exact run_put7_ rfl (show _ = Value.pointer (some ⟨gb244, 0, none⟩) from by rfl) (show _ = Value.agg #[.bool false, .int .u32 0, .int .u32 0, .int .u32 0, .int .u32 0, .int .u32 0, .int .u32 0] from by rfl) BK244.out (by kernel_rfl) (by rfl)) | (go_simp; done) | (go_simp; rfl)); intro w44 hw; have n0_ : Aside0 (Kd.R (Kd.int .i64) 2 w44 w.heap.size (fun _ => True) v248 t246) := ⟨q12x12_⟩; have n1_ : Aside0 (w44.heap[gb243]? = some (.cells #[.bool false, .int .u32 0, .int .u32 0, .int .u32 0, .int .u32 0, .int .u32 0, .int .u32 0] 25 (0, 0))) := ⟨q12x10_⟩; have n2_ : Aside0 (w44.heap[gb244]? = some (.cells #[.bool false, .int .u32 0, .int .u32 0, .int .u32 0, .int .u32 0, .int .u32 0, .int .u32 0] 25 (0, 0))) := ⟨q12x6_⟩; have n3_ : Aside0 (Below w.heap.size w w44) := ⟨(by rw [hw]; exact q12x1_)⟩; clear hw; clear HO249; clear BK243; clear BK244; clear HB; have HO249 := n0_; have BK243 := n1_; have BK244 := n2_; have HB := n3_; clear n0_ n1_ n2_ n3_))
  refine bodyPost_ret (results_list (rs := [.cell 2 25, .cell 3 25, .tmp 4]) rfl (by simp) (.cell gb243 25 #[.bool false, .int .u32 0, .int .u32 0, .int .u32 0, .int .u32 0, .int .u32 0, .int .u32 0] (0, 0) _ rfl q12x2_ Try.underlying25 rfl (by kernel_rfl) (.cell gb244 25 #[.bool false, .int .u32 0, .int .u32 0, .int .u32 0, .int .u32 0, .int .u32 0, .int .u32 0] (0, 0) _ rfl q12x7_ Try.underlying25 rfl (by kernel_rfl) (.tmp .nil)))) rfl ?_
  exact ⟨by first | rfl | (simp [errW_none, errW_some] <;> rfl) | (simp [*, errW_none, errW_some] <;> rfl), by repeat (first | (with_reducible first | exact HB.out | apply below_alloc | apply pw_below_drewN | apply below_drew1 | refine below_set ?_ GE243.out | refine below_set ?_ GE244.out) | exact HB.out)⟩

 rw [if_pos c3] at H
 have c3b0 : (t247 == 0) = true := beq_iff_eq.mpr c3
 have c3b1 : (t247 != 0) = false := bne_eq_false_iff_eq.mpr c3
 clear c3
 by_cases c4 : (t246.length : Int) = 0
 ·rw [if_pos c4] at H
  have c4b0 : ((t246.length : Int) == 0) = true := beq_iff_eq.mpr c4
  have c4b1 : ((t246.length : Int) != 0) = false := bne_eq_false_iff_eq.mpr c4
  clear c4
  simp only [Option.some.injEq, Prod.mk.injEq] at H
  obtain ⟨rfl, rfl, rfl⟩ := H
  go_enter Try.func12, Try.ntmps12
  go_wp2_with (first | ((with_reducible refine gate_dst (N := 2) rfl ?_); refine box_event ?hg (N := 2) ?hd (cs := #[.bool false, .int .u32 0, .int .u32 0, .int .u32 0, .int .u32 0, .int .u32 0, .int .u32 0]) (t := 25) ?hr ?_; (case hd => rfl); (case hg => rfl); (case hr => first | (go_simp; done) | (go_simp; rfl)); intro gb243 hg w5 hbox hb; have n0_ := aM12_ (below_step q12x4_ hb); have n1_ := aM12_ (hbox); have n2_ := aM12_ ((q12x15_ : w.heap.size ≤ gb243)); have n3_ := aM12_ ((q12x15_ : w.heap.size ≤ gb243)); clear HB; have HB := n0_; have BK243 := n1_; have GW243 := n2_; have GE243 := n3_; clear n0_ n1_ n2_ n3_; clear hb hbox hg) | ((with_reducible refine gate_dst (N := 3) rfl ?_); refine box_event ?hg (N := 3) ?hd (cs := #[.bool false, .int .u32 0, .int .u32 0, .int .u32 0, .int .u32 0, .int .u32 0, .int .u32 0]) (t := 25) ?hr ?_; (case hd => rfl); (case hg => rfl); (case hr => first | (go_simp; done) | (go_simp; rfl)); intro gb244 hg w6 hbox hb; have n0_ := aM12_ (blk_below (g := gb243) (o := .cells #[.bool false, .int .u32 0, .int .u32 0, .int .u32 0, .int .u32 0, .int .u32 0, .int .u32 0] 25 (0, 0)) q12x2_ hb); have n1_ := aM12_ (below_step q12x3_ hb); have n2_ := aM12_ (hbox); have n3_ := aM12_ ((q12x16_ : w.heap.size ≤ gb244)); have n4_ := aM12_ ((q12x16_ : w.heap.size ≤ gb244)); have n5_ := aM12_ ((q12x13_ : gb243 ≠ gb244)); have n6_ := aM12_ ((q12x14_ : gb244 ≠ gb243)); clear BK243 HB; have BK243 := n0_; have HB := n1_; have BK244 := n2_; have GW244 := n3_; have GE244 := n4_; have NB243_244 := n5_; have NB244_243 := n6_; clear n0_ n1_ n2_ n3_ n4_ n5_ n6_; clear hb hbox hg) | ((with_reducible refine gate_callee (f := 39) rfl ?_); refine goesL_ (some 11) rfl rfl Try.func39 (by kernel_rfl) rfl #[.int .i64 a0] rfl q12x8_ ?_; (with_reducible refine (impl_RootTerms.calls k a0 t245 t246 t247 _ A2.out).mono ?_); rintro e w7 ⟨v248, rfl, ho0, hb⟩; refine ⟨_, rfl, ?_⟩; have n0_ := aM12_ (Kd.R_lower ho0 (below_size q12x1_)); have n1_ := aM12_ (blk_below (g := gb243) (o := .cells #[.bool false, .int .u32 0, .int .u32 0, .int .u32 0, .int .u32 0, .int .u32 0, .int .u32 0] 25 (0, 0)) q12x2_ hb); have n2_ := aM12_ (blk_below (g := gb244) (o := .cells #[.bool false, .int .u32 0, .int .u32 0, .int .u32 0, .int .u32 0, .int .u32 0, .int .u32 0] 25 (0, 0)) q12x7_ hb); have n3_ := aM12_ (below_step q12x1_ hb); clear BK243 BK244 HB; have HO249 := n0_; have BK243 := n1_; have BK244 := n2_; have HB := n3_; clear n0_ n1_ n2_ n3_; (try clear hb); (try clear hb2); (try clear hk); (try clear hi); (try clear ho0); obtain ⟨Ao8, co8, eo8⟩ := Kd.R_slice HO249.out; subst eo8; have hnb9 := NB243_244.out; have hnc9 := NB244_243.out; obtain ⟨hcz10_0, hcz10_1, hcz10_2, hcz10_3, hcz10_4, hcz10_5, hcz10_6⟩ := cells7_ (show w7.heap[gb243]? = some (.cells #[.bool false, .int .u32 0, .int .u32 0, .int .u32 0, .int .u32 0, .int .u32 0, .int .u32 0] 25 (0, 0)) from BK243.out); obtain ⟨hfz10_0, hfz10_1, hfz10_2, hfz10_3, hfz10_4, hfz10_5, hfz10_6⟩ := frozen7_ BK243.out) | ((with_reducible refine gate_store (t := 25) (p := 2) rfl ?_); refine store_event (t := 25) (p := 2) (v := ?vo_w11) (w1 := (World.setCell (World.setCell (World.setCell (World.setCell (World.setCell (World.setCell (World.setCell w7 ⟨gb243, 0, none⟩ (.bool false)) ⟨gb243, 1, none⟩ (.int .u32 0)) ⟨gb243, 2, none⟩ (.int .u32 0)) ⟨gb243, 3, none⟩ (.int .u32 0)) ⟨gb243, 4, none⟩ (.int .u32 0)) ⟨gb243, 5, none⟩ (.int .u32 0)) ⟨gb243, 6, none⟩ (.int .u32 0))) ?hg ?ho ?hn ?hr ?_; (case ho => rfl); (case hg => rfl); (case hn => rfl); (case hr => first | ((try simp only [Act.put, List.setIfInBounds_toArray, List.set_cons_zero, List.set_cons_succ]); exact run_put7_ rfl (show _ = Value.pointer (some ⟨gb243, 0, none⟩) from by rfl) (show _ = Value.agg #[.bool false, .int .u32 0, .int .u32 0, .int .u32 0, .int .u32 0, .int .u32 0, .int .u32 0] from by rfl) BK243.out (by kernel_rfl) (by rfl)) | (go_simp; done) | (go_simp; rfl)); intro w11 hw; have n0_ : Aside0 (Kd.R (Kd.int .i64) 2 w11 w.heap.size (fun _ => True) (.slice Ao8 t246.length co8) t246) := ⟨q12x11_⟩; have n1_ : Aside0 (w11.heap[gb243]? = some (.cells #[.bool false, .int .u32 0, .int .u32 0, .int .u32 0, .int .u32 0, .int .u32 0, .int .u32 0] 25 (0, 0))) := ⟨q12x5_⟩; have n2_ : Aside0 (w11.heap[gb244]? = some (.cells #[.bool false, .int .u32 0, .int .u32 0, .int .u32 0, .int .u32 0, .int .u32 0, .int .u32 0] 25 (0, 0))) := ⟨q12x9_⟩; have n3_ : Aside0 (Below w.heap.size w w11) := ⟨(by rw [hw]; exact q12x1_)⟩; clear hw; clear HO249; clear BK243; clear BK244; clear HB; have HO249 := n0_; have BK243 := n1_; have BK244 := n2_; have HB := n3_; clear n0_ n1_ n2_ n3_; obtain ⟨hcz12_0, hcz12_1, hcz12_2, hcz12_3, hcz12_4, hcz12_5, hcz12_6⟩ := cells7_ (show w11.heap[gb244]? = some (.cells #[.bool false, .int .u32 0, .int .u32 0, .int .u32 0, .int .u32 0, .int .u32 0, .int .u32 0] 25 (0, 0)) from BK244.out); obtain ⟨hfz12_0, hfz12_1, hfz12_2, hfz12_3, hfz12_4, hfz12_5, hfz12_6⟩ := frozen7_ BK244.out) | ((with_reducible refine gate_store (t := 25) (p := 3) rfl ?_); refine store_event (t := 25) (p := 3) (v := ?vo_w13) (w1 := (World.setCell (World.setCell (World.setCell (World.setCell (World.setCell (World.setCell (World.setCell w11 ⟨gb244, 0, none⟩ (.bool false)) ⟨gb244, 1, none⟩ (.int .u32 0)) ⟨gb244, 2, none⟩ (.int .u32 0)) ⟨gb244, 3, none⟩ (.int .u32 0)) ⟨gb244, 4, none⟩ (.int .u32 0)) ⟨gb244, 5, none⟩ (.int .u32 0)) ⟨gb244, 6, none⟩ (.int .u32 0))) ?hg ?ho ?hn ?hr ?_; (case ho => rfl); (case hg => rfl); (case hn => rfl); (case hr => first | ((try simp only [Act.put, List.setIfInBounds_toArray, List.set_cons_zero, List.set_cons_succ]); exact run_put7_ rfl (show _ = Value.pointer (some ⟨gb244, 0, none⟩) from by rfl) (show _ = Value.agg #[.bool false, .int .u32 0, .int .u32 0, .int .u32 0, .int .u32 0, .int .u32 0, .int .u32 0] from by rfl) BK244.out (by kernel_rfl) (by rfl)) | (go_simp; done) | (go_simp; rfl)); intro w13 hw; have n0_ : Aside0 (Kd.R (Kd.int .i64) 2 w13 w.heap.size (fun _ => True) (.slice Ao8 t246.length co8) t246) := ⟨q12x12_⟩; have n1_ : Aside0 (w13.heap[gb243]? = some (.cells #[.bool false, .int .u32 0, .int .u32 0, .int .u32 0, .int .u32 0, .int .u32 0, .int .u32 0] 25 (0, 0))) := ⟨q12x10_⟩; have n2_ : Aside0 (w13.heap[gb244]? = some (.cells #[.bool false, .int .u32 0, .int .u32 0, .int .u32 0, .int .u32 0, .int .u32 0, .int .u32 0] 25 (0, 0))) := ⟨q12x6_⟩; have n3_ : Aside0 (Below w.heap.size w w13) := ⟨(by rw [hw]; exact q12x1_)⟩; clear hw; clear HO249; clear BK243; clear BK244; clear HB; have HO249 := n0_; have BK243 := n1_; have BK244 := n2_; have HB := n3_; clear n0_ n1_ n2_ n3_))
  refine bodyPost_ret (results_list (rs := [.cell 2 25, .cell 3 25, .tmp 4]) rfl (by simp) (.cell gb243 25 #[.bool false, .int .u32 0, .int .u32 0, .int .u32 0, .int .u32 0, .int .u32 0, .int .u32 0] (0, 0) _ rfl q12x2_ Try.underlying25 rfl (by kernel_rfl) (.cell gb244 25 #[.bool false, .int .u32 0, .int .u32 0, .int .u32 0, .int .u32 0, .int .u32 0, .int .u32 0] (0, 0) _ rfl q12x7_ Try.underlying25 rfl (by kernel_rfl) (.tmp .nil)))) rfl ?_
  exact ⟨by first | rfl | (simp [errW_none, errW_some] <;> rfl) | (simp [*, errW_none, errW_some] <;> rfl), by repeat (first | (with_reducible first | exact HB.out | apply below_alloc | apply pw_below_drewN | apply below_drew1 | refine below_set ?_ GE243.out | refine below_set ?_ GE244.out) | exact HB.out)⟩
 rw [if_neg c4] at H
 have c4b0 : ((t246.length : Int) == 0) = false := beq_eq_false_iff_ne.mpr c4
 have c4b1 : ((t246.length : Int) != 0) = true := bne_iff_ne.mpr c4
 have c4b2 : ¬ (t246 = []) := fun h_ => c4 (by rw [h_]; rfl)
 by_cases c14 : ((t246.length : Int) % 2) = 1
 ·rw [if_pos c14] at H
  have c14b0 : (((t246.length : Int) % 2) == 1) = true := beq_iff_eq.mpr c14
  have c14b1 : (((t246.length : Int) % 2) != 1) = false := bne_eq_false_iff_eq.mpr c14
  (try (have c14b0t : ((Int.tmod (t246.length : Int) 2) == 1) = true := by rw [Int.tmod_eq_emod_of_nonneg (by omega)]; exact c14b0))
  (try (have c14b1t : ((Int.tmod (t246.length : Int) 2) != 1) = false := by rw [Int.tmod_eq_emod_of_nonneg (by omega)]; exact c14b1))
  clear c14
  replace H := Option.bind_eq_some_iff.mp H
  obtain ⟨⟨t250, t251, t252⟩, A150, H⟩ := H
  replace H : (some (t250, t251, t252)) = some (r1, r2, r3) := H
  have A15 := aM12_ A150
  clear A150
  simp only [Option.some.injEq, Prod.mk.injEq] at H
  obtain ⟨rfl, rfl, rfl⟩ := H
  go_enter Try.func12, Try.ntmps12
  go_wp2_with (first | ((with_reducible refine gate_dst (N := 2) rfl ?_); refine box_event ?hg (N := 2) ?hd (cs := #[.bool false, .int .u32 0, .int .u32 0, .int .u32 0, .int .u32 0, .int .u32 0, .int .u32 0]) (t := 25) ?hr ?_; (case hd => rfl); (case hg => rfl); (case hr => first | (go_simp; done) | (go_simp; rfl)); intro gb243 hg w16 hbox hb; have n0_ := aM12_ (below_step q12x4_ hb); have n1_ := aM12_ (hbox); have n2_ := aM12_ ((q12x15_ : w.heap.size ≤ gb243)); have n3_ := aM12_ ((q12x15_ : w.heap.size ≤ gb243)); clear HB; have HB := n0_; have BK243 := n1_; have GW243 := n2_; have GE243 := n3_; clear n0_ n1_ n2_ n3_; clear hb hbox hg) | ((with_reducible refine gate_dst (N := 3) rfl ?_); refine box_event ?hg (N := 3) ?hd (cs := #[.bool false, .int .u32 0, .int .u32 0, .int .u32 0, .int .u32 0, .int .u32 0, .int .u32 0]) (t := 25) ?hr ?_; (case hd => rfl); (case hg => rfl); (case hr => first | (go_simp; done) | (go_simp; rfl)); intro gb244 hg w17 hbox hb; have n0_ := aM12_ (blk_below (g := gb243) (o := .cells #[.bool false, .int .u32 0, .int .u32 0, .int .u32 0, .int .u32 0, .int .u32 0, .int .u32 0] 25 (0, 0)) q12x2_ hb); have n1_ := aM12_ (below_step q12x3_ hb); have n2_ := aM12_ (hbox); have n3_ := aM12_ ((q12x16_ : w.heap.size ≤ gb244)); have n4_ := aM12_ ((q12x16_ : w.heap.size ≤ gb244)); have n5_ := aM12_ ((q12x13_ : gb243 ≠ gb244)); have n6_ := aM12_ ((q12x14_ : gb244 ≠ gb243)); clear BK243 HB; have BK243 := n0_; have HB := n1_; have BK244 := n2_; have GW244 := n3_; have GE244 := n4_; have NB243_244 := n5_; have NB244_243 := n6_; clear n0_ n1_ n2_ n3_ n4_ n5_ n6_; clear hb hbox hg) | ((with_reducible refine gate_callee (f := 39) rfl ?_); refine goesL_ (some 11) rfl rfl Try.func39 (by kernel_rfl) rfl #[.int .i64 a0] rfl q12x8_ ?_; (with_reducible refine (impl_RootTerms.calls k a0 t245 t246 t247 _ A2.out).mono ?_); rintro e w18 ⟨v248, rfl, ho0, hb⟩; refine ⟨_, rfl, ?_⟩; have n0_ := aM12_ (Kd.R_lower ho0 (below_size q12x1_)); have n1_ := aM12_ (blk_below (g := gb243) (o := .cells #[.bool false, .int .u32 0, .int .u32 0, .int .u32 0, .int .u32 0, .int .u32 0, .int .u32 0] 25 (0, 0)) q12x2_ hb); have n2_ := aM12_ (blk_below (g := gb244) (o := .cells #[.bool false, .int .u32 0, .int .u32 0, .int .u32 0, .int .u32 0, .int .u32 0, .int .u32 0] 25 (0, 0)) q12x7_ hb); have n3_ := aM12_ (below_step q12x1_ hb); clear BK243 BK244 HB; have HO249 := n0_; have BK243 := n1_; have BK244 := n2_; have HB := n3_; clear n0_ n1_ n2_ n3_; (try clear hb); (try clear hb2); (try clear hk); (try clear hi); (try clear ho0); obtain ⟨Ao19, co19, eo19⟩ := Kd.R_slice HO249.out; subst eo19) | ((with_reducible refine gate_callee (f := 49) rfl ?_); refine goesL_ (some 39) rfl rfl Try.func49 (by kernel_rfl) rfl #[.int .i64 t245, .slice Ao19 t246.length co19, .int .i64 (wrap64 ((wrap64 (2 * (t246.length : Int))) - 1))] rfl q12x8_ ?_; (with_reducible refine (impl_rootConvergent.calls k t245 _ _ t246 (wrap64 ((wrap64 (2 * (t246.length : Int))) - 1)) t250 t251 t252 _ ?side1 ?side2 A15.out).mono ?_); (case side1 => repeat (first | exact (Kd.R_reads' HO249.out).2.2 | (with_reducible refine Kd.C_alloc ?_ _) | (with_reducible refine Kd.C_drewN ?_ _) | (with_reducible refine Kd.C_drew ?_))); (case side2 => exact (Kd.R_reads' HO249.out).2.1); rintro e w20 ⟨rfl, hb⟩; refine ⟨_, rfl, ?_⟩; have n0_ := aM12_ (Kd.R_below (by (with_reducible repeat (first | apply Kd.R_alloc | apply Kd.R_drewN | apply Kd.R_drew)); exact HO249.out) hb); have n1_ := aM12_ (blk_below (g := gb243) (o := .cells #[.bool false, .int .u32 0, .int .u32 0, .int .u32 0, .int .u32 0, .int .u32 0, .int .u32 0] 25 (0, 0)) q12x2_ hb); have n2_ := aM12_ (blk_below (g := gb244) (o := .cells #[.bool false, .int .u32 0, .int .u32 0, .int .u32 0, .int .u32 0, .int .u32 0, .int .u32 0] 25 (0, 0)) q12x7_ hb); have n3_ := aM12_ (below_step q12x1_ hb); clear HO249 BK243 BK244 HB; have HO249 := n0_; have BK243 := n1_; have BK244 := n2_; have HB := n3_; clear n0_ n1_ n2_ n3_; (try clear hb); (try clear hb2); (try clear hk); (try clear hi); have hnb21 := NB243_244.out; have hnc21 := NB244_243.out; obtain ⟨hcz22_0, hcz22_1, hcz22_2, hcz22_3, hcz22_4, hcz22_5, hcz22_6⟩ := cells7_ (show w20.heap[gb243]? = some (.cells #[.bool false, .int .u32 0, .int .u32 0, .int .u32 0, .int .u32 0, .int .u32 0, .int .u32 0] 25 (0, 0)) from BK243.out); obtain ⟨hfz22_0, hfz22_1, hfz22_2, hfz22_3, hfz22_4, hfz22_5, hfz22_6⟩ := frozen7_ BK243.out) | ((with_reducible refine gate_store (t := 25) (p := 2) rfl ?_); refine store_event (t := 25) (p := 2) (v := ?vo_w23) (w1 := (World.setCell (World.setCell (World.setCell (World.setCell (World.setCell (World.setCell (World.setCell w20 ⟨gb243, 0, none⟩ (.bool t250.f0)) ⟨gb243, 1, none⟩ (.int .u32 t250.f1.f0)) ⟨gb243, 2, none⟩ (.int .u32 t250.f1.f1)) ⟨gb243, 3, none⟩ (.int .u32 t250.f1.f2)) ⟨gb243, 4, none⟩ (.int .u32 t250.f1.f3)) ⟨gb243, 5, none⟩ (.int .u32 t250.f1.f4)) ⟨gb243, 6, none⟩ (.int .u32 t250.f1.f5))) ?hg ?ho ?hn ?hr ?_; (case ho => rfl); (case hg => rfl); (case hn => rfl); (case hr => first | ((try simp only [Act.put, List.setIfInBounds_toArray, List.set_cons_zero, List.set_cons_succ]); exact run_put7_ rfl (show _ = Value.pointer (some ⟨gb243, 0, none⟩) from by rfl) (show _ = Value.agg #[.bool t250.f0, .int .u32 t250.f1.f0, .int .u32 t250.f1.f1, .int .u32 t250.f1.f2, .int .u32 t250.f1.f3, .int .u32 t250.f1.f4, .int .u32 t250.f1.f5] from by rfl) BK243.out (by kernel_rfl) (by rfl)) | (go_simp; done) | (go_simp; rfl)); intro w23 hw; have n0_ : Aside0 (Kd.R (Kd.int .i64) 2 w23 w.heap.size (fun _ => True) (.slice Ao19 t246.length co19) t246) := ⟨(by rw [hw]; exact (by (with_reducible repeat (first | apply Kd.R_alloc | apply Kd.R_drewN | apply Kd.R_drew)); exact Kd.R_mono (Kd.R_far (p := ⟨gb243, 6, none⟩) (Kd.R_far (p := ⟨gb243, 5, none⟩) (Kd.R_far (p := ⟨gb243, 4, none⟩) (Kd.R_far (p := ⟨gb243, 3, none⟩) (Kd.R_far (p := ⟨gb243, 2, none⟩) (Kd.R_far (p := ⟨gb243, 1, none⟩) (Kd.R_far (p := ⟨gb243, 0, none⟩) (Kd.R_types HO249.out BK243.out (by decide)) (fun _ hk => hk.2) (.bool t250.f0)) (fun _ hk => hk.2) (.int .u32 t250.f1.f0)) (fun _ hk => hk.2) (.int .u32 t250.f1.f1)) (fun _ hk => hk.2) (.int .u32 t250.f1.f2)) (fun _ hk => hk.2) (.int .u32 t250.f1.f3)) (fun _ hk => hk.2) (.int .u32 t250.f1.f4)) (fun _ hk => hk.2) (.int .u32 t250.f1.f5)) (fun _ hk => trivial)))⟩; have n1_ : Aside0 (w23.heap[gb243]? = some (.cells #[.bool t250.f0, .int .u32 t250.f1.f0, .int .u32 t250.f1.f1, .int .u32 t250.f1.f2, .int .u32 t250.f1.f3, .int .u32 t250.f1.f4, .int .u32 t250.f1.f5] 25 (0, 0))) := ⟨q12x5_⟩; have n2_ : Aside0 (w23.heap[gb244]? = some (.cells #[.bool false, .int .u32 0, .int .u32 0, .int .u32 0, .int .u32 0, .int .u32 0, .int .u32 0] 25 (0, 0))) := ⟨q12x9_⟩; have n3_ : Aside0 (Below w.heap.size w w23) := ⟨(by rw [hw]; exact q12x1_)⟩; clear hw; clear HO249; clear BK243; clear BK244; clear HB; have HO249 := n0_; have BK243 := n1_; have BK244 := n2_; have HB := n3_; clear n0_ n1_ n2_ n3_; obtain ⟨hcz24_0, hcz24_1, hcz24_2, hcz24_3, hcz24_4, hcz24_5, hcz24_6⟩ := cells7_ (show w23.heap[gb244]? = some (.cells #[.bool false, .int .u32 0, .int .u32 0, .int .u32 0, .int .u32 0, .int .u32 0, .int .u32 0] 25 (0, 0)) from BK244.out); obtain ⟨hfz24_0, hfz24_1, hfz24_2, hfz24_3, hfz24_4, hfz24_5, hfz24_6⟩ := frozen7_ BK244.out) | ((with_reducible refine gate_store (t := 25) (p := 3) rfl ?_); refine store_event (t := 25) (p := 3) (v := ?vo_w25) (w1 := (World.setCell (World.setCell (World.setCell (World.setCell (World.setCell (World.setCell (World.setCell w23 ⟨gb244, 0, none⟩ (.bool t251.f0)) ⟨gb244, 1, none⟩ (.int .u32 t251.f1.f0)) ⟨gb244, 2, none⟩ (.int .u32 t251.f1.f1)) ⟨gb244, 3, none⟩ (.int .u32 t251.f1.f2)) ⟨gb244, 4, none⟩ (.int .u32 t251.f1.f3)) ⟨gb244, 5, none⟩ (.int .u32 t251.f1.f4)) ⟨gb244, 6, none⟩ (.int .u32 t251.f1.f5))) ?hg ?ho ?hn ?hr ?_; (case ho => rfl); (case hg => rfl); (case hn => rfl); (case hr => first | ((try simp only [Act.put, List.setIfInBounds_toArray, List.set_cons_zero, List.set_cons_succ]); exact run_put7_ rfl (show _ = Value.pointer (some ⟨gb244, 0, none⟩) from by rfl) (show _ = Value.agg #[.bool t251.f0, .int .u32 t251.f1.f0, .int .u32 t251.f1.f1, .int .u32 t251.f1.f2, .int .u32 t251.f1.f3, .int .u32 t251.f1.f4, .int .u32 t251.f1.f5] from by rfl) BK244.out (by kernel_rfl) (by rfl)) | (go_simp; done) | (go_simp; rfl)); intro w25 hw; have n0_ : Aside0 (Kd.R (Kd.int .i64) 2 w25 w.heap.size (fun _ => True) (.slice Ao19 t246.length co19) t246) := ⟨(by rw [hw]; exact (by (with_reducible repeat (first | apply Kd.R_alloc | apply Kd.R_drewN | apply Kd.R_drew)); exact Kd.R_mono (Kd.R_far (p := ⟨gb244, 6, none⟩) (Kd.R_far (p := ⟨gb244, 5, none⟩) (Kd.R_far (p := ⟨gb244, 4, none⟩) (Kd.R_far (p := ⟨gb244, 3, none⟩) (Kd.R_far (p := ⟨gb244, 2, none⟩) (Kd.R_far (p := ⟨gb244, 1, none⟩) (Kd.R_far (p := ⟨gb244, 0, none⟩) (Kd.R_types HO249.out BK244.out (by decide)) (fun _ hk => hk.2) (.bool t251.f0)) (fun _ hk => hk.2) (.int .u32 t251.f1.f0)) (fun _ hk => hk.2) (.int .u32 t251.f1.f1)) (fun _ hk => hk.2) (.int .u32 t251.f1.f2)) (fun _ hk => hk.2) (.int .u32 t251.f1.f3)) (fun _ hk => hk.2) (.int .u32 t251.f1.f4)) (fun _ hk => hk.2) (.int .u32 t251.f1.f5)) (fun _ hk => trivial)))⟩; have n1_ : Aside0 (w25.heap[gb243]? = some (.cells #[.bool t250.f0, .int .u32 t250.f1.f0, .int .u32 t250.f1.f1, .int .u32 t250.f1.f2, .int .u32 t250.f1.f3, .int .u32 t250.f1.f4, .int .u32 t250.f1.f5] 25 (0, 0))) := ⟨q12x10_⟩; have n2_ : Aside0 (w25.heap[gb244]? = some (.cells #[.bool t251.f0, .int .u32 t251.f1.f0, .int .u32 t251.f1.f1, .int .u32 t251.f1.f2, .int .u32 t251.f1.f3, .int .u32 t251.f1.f4, .int .u32 t251.f1.f5] 25 (0, 0))) := ⟨q12x6_⟩; have n3_ : Aside0 (Below w.heap.size w w25) := ⟨(by rw [hw]; exact q12x1_)⟩; clear hw; clear HO249; clear BK243; clear BK244; clear HB; have HO249 := n0_; have BK243 := n1_; have BK244 := n2_; have HB := n3_; clear n0_ n1_ n2_ n3_))
  refine bodyPost_ret (results_list (rs := [.cell 2 25, .cell 3 25, .tmp 4]) rfl (by simp) (.cell gb243 25 #[.bool t250.f0, .int .u32 t250.f1.f0, .int .u32 t250.f1.f1, .int .u32 t250.f1.f2, .int .u32 t250.f1.f3, .int .u32 t250.f1.f4, .int .u32 t250.f1.f5] (0, 0) _ rfl q12x2_ Try.underlying25 rfl (by kernel_rfl) (.cell gb244 25 #[.bool t251.f0, .int .u32 t251.f1.f0, .int .u32 t251.f1.f1, .int .u32 t251.f1.f2, .int .u32 t251.f1.f3, .int .u32 t251.f1.f4, .int .u32 t251.f1.f5] (0, 0) _ rfl q12x7_ Try.underlying25 rfl (by kernel_rfl) (.tmp .nil)))) rfl ?_
  exact ⟨by first | rfl | (simp [errW_none, errW_some] <;> rfl) | (simp [*, errW_none, errW_some] <;> rfl), by repeat (first | (with_reducible first | exact HB.out | apply below_alloc | apply pw_below_drewN | apply below_drew1 | refine below_set ?_ GE243.out | refine below_set ?_ GE244.out) | exact HB.out)⟩
 rw [if_neg c14] at H
 have c14b0 : (((t246.length : Int) % 2) == 1) = false := beq_eq_false_iff_ne.mpr c14
 have c14b1 : (((t246.length : Int) % 2) != 1) = true := bne_iff_ne.mpr c14
 (try (have c14b0t : ((Int.tmod (t246.length : Int) 2) == 1) = false := by rw [Int.tmod_eq_emod_of_nonneg (by omega)]; exact c14b0))
 (try (have c14b1t : ((Int.tmod (t246.length : Int) 2) != 1) = true := by rw [Int.tmod_eq_emod_of_nonneg (by omega)]; exact c14b1))
 replace H := Option.bind_eq_some_iff.mp H
 obtain ⟨⟨t253, t254, t255⟩, A260, H⟩ := H
 replace H : (some (t253, t254, t255)) = some (r1, r2, r3) := H
 have A26 := aM12_ A260
 clear A260
 simp only [Option.some.injEq, Prod.mk.injEq] at H
 obtain ⟨rfl, rfl, rfl⟩ := H
 go_enter Try.func12, Try.ntmps12
 go_wp2_with (first | ((with_reducible refine gate_dst (N := 2) rfl ?_); refine box_event ?hg (N := 2) ?hd (cs := #[.bool false, .int .u32 0, .int .u32 0, .int .u32 0, .int .u32 0, .int .u32 0, .int .u32 0]) (t := 25) ?hr ?_; (case hd => rfl); (case hg => rfl); (case hr => first | (go_simp; done) | (go_simp; rfl)); intro gb243 hg w27 hbox hb; have n0_ := aM12_ (below_step q12x4_ hb); have n1_ := aM12_ (hbox); have n2_ := aM12_ ((q12x15_ : w.heap.size ≤ gb243)); have n3_ := aM12_ ((q12x15_ : w.heap.size ≤ gb243)); clear HB; have HB := n0_; have BK243 := n1_; have GW243 := n2_; have GE243 := n3_; clear n0_ n1_ n2_ n3_; clear hb hbox hg) | ((with_reducible refine gate_dst (N := 3) rfl ?_); refine box_event ?hg (N := 3) ?hd (cs := #[.bool false, .int .u32 0, .int .u32 0, .int .u32 0, .int .u32 0, .int .u32 0, .int .u32 0]) (t := 25) ?hr ?_; (case hd => rfl); (case hg => rfl); (case hr => first | (go_simp; done) | (go_simp; rfl)); intro gb244 hg w28 hbox hb; have n0_ := aM12_ (blk_below (g := gb243) (o := .cells #[.bool false, .int .u32 0, .int .u32 0, .int .u32 0, .int .u32 0, .int .u32 0, .int .u32 0] 25 (0, 0)) q12x2_ hb); have n1_ := aM12_ (below_step q12x3_ hb); have n2_ := aM12_ (hbox); have n3_ := aM12_ ((q12x16_ : w.heap.size ≤ gb244)); have n4_ := aM12_ ((q12x16_ : w.heap.size ≤ gb244)); have n5_ := aM12_ ((q12x13_ : gb243 ≠ gb244)); have n6_ := aM12_ ((q12x14_ : gb244 ≠ gb243)); clear BK243 HB; have BK243 := n0_; have HB := n1_; have BK244 := n2_; have GW244 := n3_; have GE244 := n4_; have NB243_244 := n5_; have NB244_243 := n6_; clear n0_ n1_ n2_ n3_ n4_ n5_ n6_; clear hb hbox hg) | ((with_reducible refine gate_callee (f := 39) rfl ?_); refine goesL_ (some 11) rfl rfl Try.func39 (by kernel_rfl) rfl #[.int .i64 a0] rfl q12x8_ ?_; (with_reducible refine (impl_RootTerms.calls k a0 t245 t246 t247 _ A2.out).mono ?_); rintro e w29 ⟨v248, rfl, ho0, hb⟩; refine ⟨_, rfl, ?_⟩; have n0_ := aM12_ (Kd.R_lower ho0 (below_size q12x1_)); have n1_ := aM12_ (blk_below (g := gb243) (o := .cells #[.bool false, .int .u32 0, .int .u32 0, .int .u32 0, .int .u32 0, .int .u32 0, .int .u32 0] 25 (0, 0)) q12x2_ hb); have n2_ := aM12_ (blk_below (g := gb244) (o := .cells #[.bool false, .int .u32 0, .int .u32 0, .int .u32 0, .int .u32 0, .int .u32 0, .int .u32 0] 25 (0, 0)) q12x7_ hb); have n3_ := aM12_ (below_step q12x1_ hb); clear BK243 BK244 HB; have HO249 := n0_; have BK243 := n1_; have BK244 := n2_; have HB := n3_; clear n0_ n1_ n2_ n3_; (try clear hb); (try clear hb2); (try clear hk); (try clear hi); (try clear ho0); obtain ⟨Ao30, co30, eo30⟩ := Kd.R_slice HO249.out; subst eo30) | ((with_reducible refine gate_callee (f := 49) rfl ?_); refine goesL_ (some 39) rfl rfl Try.func49 (by kernel_rfl) rfl #[.int .i64 t245, .slice Ao30 t246.length co30, .int .i64 (wrap64 ((t246.length : Int) - 1))] rfl q12x8_ ?_; (with_reducible refine (impl_rootConvergent.calls k t245 _ _ t246 (wrap64 ((t246.length : Int) - 1)) t253 t254 t255 _ ?side1 ?side2 A26.out).mono ?_); (case side1 => repeat (first | exact (Kd.R_reads' HO249.out).2.2 | (with_reducible refine Kd.C_alloc ?_ _) | (with_reducible refine Kd.C_drewN ?_ _) | (with_reducible refine Kd.C_drew ?_))); (case side2 => exact (Kd.R_reads' HO249.out).2.1); rintro e w31 ⟨rfl, hb⟩; refine ⟨_, rfl, ?_⟩; have n0_ := aM12_ (Kd.R_below (by (with_reducible repeat (first | apply Kd.R_alloc | apply Kd.R_drewN | apply Kd.R_drew)); exact HO249.out) hb); have n1_ := aM12_ (blk_below (g := gb243) (o := .cells #[.bool false, .int .u32 0, .int .u32 0, .int .u32 0, .int .u32 0, .int .u32 0, .int .u32 0] 25 (0, 0)) q12x2_ hb); have n2_ := aM12_ (blk_below (g := gb244) (o := .cells #[.bool false, .int .u32 0, .int .u32 0, .int .u32 0, .int .u32 0, .int .u32 0, .int .u32 0] 25 (0, 0)) q12x7_ hb); have n3_ := aM12_ (below_step q12x1_ hb); clear HO249 BK243 BK244 HB; have HO249 := n0_; have BK243 := n1_; have BK244 := n2_; have HB := n3_; clear n0_ n1_ n2_ n3_; (try clear hb); (try clear hb2); (try clear hk); (try clear hi); have hnb32 := NB243_244.out; have hnc32 := NB244_243.out; obtain ⟨hcz33_0, hcz33_1, hcz33_2, hcz33_3, hcz33_4, hcz33_5, hcz33_6⟩ := cells7_ (show w31.heap[gb243]? = some (.cells #[.bool false, .int .u32 0, .int .u32 0, .int .u32 0, .int .u32 0, .int .u32 0, .int .u32 0] 25 (0, 0)) from BK243.out); obtain ⟨hfz33_0, hfz33_1, hfz33_2, hfz33_3, hfz33_4, hfz33_5, hfz33_6⟩ := frozen7_ BK243.out) | ((with_reducible refine gate_store (t := 25) (p := 2) rfl ?_); refine store_event (t := 25) (p := 2) (v := ?vo_w34) (w1 := (World.setCell (World.setCell (World.setCell (World.setCell (World.setCell (World.setCell (World.setCell w31 ⟨gb243, 0, none⟩ (.bool t253.f0)) ⟨gb243, 1, none⟩ (.int .u32 t253.f1.f0)) ⟨gb243, 2, none⟩ (.int .u32 t253.f1.f1)) ⟨gb243, 3, none⟩ (.int .u32 t253.f1.f2)) ⟨gb243, 4, none⟩ (.int .u32 t253.f1.f3)) ⟨gb243, 5, none⟩ (.int .u32 t253.f1.f4)) ⟨gb243, 6, none⟩ (.int .u32 t253.f1.f5))) ?hg ?ho ?hn ?hr ?_; (case ho => rfl); (case hg => rfl); (case hn => rfl); (case hr => first | ((try simp only [Act.put, List.setIfInBounds_toArray, List.set_cons_zero, List.set_cons_succ]); exact run_put7_ rfl (show _ = Value.pointer (some ⟨gb243, 0, none⟩) from by rfl) (show _ = Value.agg #[.bool t253.f0, .int .u32 t253.f1.f0, .int .u32 t253.f1.f1, .int .u32 t253.f1.f2, .int .u32 t253.f1.f3, .int .u32 t253.f1.f4, .int .u32 t253.f1.f5] from by rfl) BK243.out (by kernel_rfl) (by rfl)) | (go_simp; done) | (go_simp; rfl)); intro w34 hw; have n0_ : Aside0 (Kd.R (Kd.int .i64) 2 w34 w.heap.size (fun _ => True) (.slice Ao30 t246.length co30) t246) := ⟨(by rw [hw]; exact (by (with_reducible repeat (first | apply Kd.R_alloc | apply Kd.R_drewN | apply Kd.R_drew)); exact Kd.R_mono (Kd.R_far (p := ⟨gb243, 6, none⟩) (Kd.R_far (p := ⟨gb243, 5, none⟩) (Kd.R_far (p := ⟨gb243, 4, none⟩) (Kd.R_far (p := ⟨gb243, 3, none⟩) (Kd.R_far (p := ⟨gb243, 2, none⟩) (Kd.R_far (p := ⟨gb243, 1, none⟩) (Kd.R_far (p := ⟨gb243, 0, none⟩) (Kd.R_types HO249.out BK243.out (by decide)) (fun _ hk => hk.2) (.bool t253.f0)) (fun _ hk => hk.2) (.int .u32 t253.f1.f0)) (fun _ hk => hk.2) (.int .u32 t253.f1.f1)) (fun _ hk => hk.2) (.int .u32 t253.f1.f2)) (fun _ hk => hk.2) (.int .u32 t253.f1.f3)) (fun _ hk => hk.2) (.int .u32 t253.f1.f4)) (fun _ hk => hk.2) (.int .u32 t253.f1.f5)) (fun _ hk => trivial)))⟩; have n1_ : Aside0 (w34.heap[gb243]? = some (.cells #[.bool t253.f0, .int .u32 t253.f1.f0, .int .u32 t253.f1.f1, .int .u32 t253.f1.f2, .int .u32 t253.f1.f3, .int .u32 t253.f1.f4, .int .u32 t253.f1.f5] 25 (0, 0))) := ⟨q12x5_⟩; have n2_ : Aside0 (w34.heap[gb244]? = some (.cells #[.bool false, .int .u32 0, .int .u32 0, .int .u32 0, .int .u32 0, .int .u32 0, .int .u32 0] 25 (0, 0))) := ⟨q12x9_⟩; have n3_ : Aside0 (Below w.heap.size w w34) := ⟨(by rw [hw]; exact q12x1_)⟩; clear hw; clear HO249; clear BK243; clear BK244; clear HB; have HO249 := n0_; have BK243 := n1_; have BK244 := n2_; have HB := n3_; clear n0_ n1_ n2_ n3_; obtain ⟨hcz35_0, hcz35_1, hcz35_2, hcz35_3, hcz35_4, hcz35_5, hcz35_6⟩ := cells7_ (show w34.heap[gb244]? = some (.cells #[.bool false, .int .u32 0, .int .u32 0, .int .u32 0, .int .u32 0, .int .u32 0, .int .u32 0] 25 (0, 0)) from BK244.out); obtain ⟨hfz35_0, hfz35_1, hfz35_2, hfz35_3, hfz35_4, hfz35_5, hfz35_6⟩ := frozen7_ BK244.out) | ((with_reducible refine gate_store (t := 25) (p := 3) rfl ?_); refine store_event (t := 25) (p := 3) (v := ?vo_w36) (w1 := (World.setCell (World.setCell (World.setCell (World.setCell (World.setCell (World.setCell (World.setCell w34 ⟨gb244, 0, none⟩ (.bool t254.f0)) ⟨gb244, 1, none⟩ (.int .u32 t254.f1.f0)) ⟨gb244, 2, none⟩ (.int .u32 t254.f1.f1)) ⟨gb244, 3, none⟩ (.int .u32 t254.f1.f2)) ⟨gb244, 4, none⟩ (.int .u32 t254.f1.f3)) ⟨gb244, 5, none⟩ (.int .u32 t254.f1.f4)) ⟨gb244, 6, none⟩ (.int .u32 t254.f1.f5))) ?hg ?ho ?hn ?hr ?_; (case ho => rfl); (case hg => rfl); (case hn => rfl); (case hr => first | ((try simp only [Act.put, List.setIfInBounds_toArray, List.set_cons_zero, List.set_cons_succ]); exact run_put7_ rfl (show _ = Value.pointer (some ⟨gb244, 0, none⟩) from by rfl) (show _ = Value.agg #[.bool t254.f0, .int .u32 t254.f1.f0, .int .u32 t254.f1.f1, .int .u32 t254.f1.f2, .int .u32 t254.f1.f3, .int .u32 t254.f1.f4, .int .u32 t254.f1.f5] from by rfl) BK244.out (by kernel_rfl) (by rfl)) | (go_simp; done) | (go_simp; rfl)); intro w36 hw; have n0_ : Aside0 (Kd.R (Kd.int .i64) 2 w36 w.heap.size (fun _ => True) (.slice Ao30 t246.length co30) t246) := ⟨(by rw [hw]; exact (by (with_reducible repeat (first | apply Kd.R_alloc | apply Kd.R_drewN | apply Kd.R_drew)); exact Kd.R_mono (Kd.R_far (p := ⟨gb244, 6, none⟩) (Kd.R_far (p := ⟨gb244, 5, none⟩) (Kd.R_far (p := ⟨gb244, 4, none⟩) (Kd.R_far (p := ⟨gb244, 3, none⟩) (Kd.R_far (p := ⟨gb244, 2, none⟩) (Kd.R_far (p := ⟨gb244, 1, none⟩) (Kd.R_far (p := ⟨gb244, 0, none⟩) (Kd.R_types HO249.out BK244.out (by decide)) (fun _ hk => hk.2) (.bool t254.f0)) (fun _ hk => hk.2) (.int .u32 t254.f1.f0)) (fun _ hk => hk.2) (.int .u32 t254.f1.f1)) (fun _ hk => hk.2) (.int .u32 t254.f1.f2)) (fun _ hk => hk.2) (.int .u32 t254.f1.f3)) (fun _ hk => hk.2) (.int .u32 t254.f1.f4)) (fun _ hk => hk.2) (.int .u32 t254.f1.f5)) (fun _ hk => trivial)))⟩; have n1_ : Aside0 (w36.heap[gb243]? = some (.cells #[.bool t253.f0, .int .u32 t253.f1.f0, .int .u32 t253.f1.f1, .int .u32 t253.f1.f2, .int .u32 t253.f1.f3, .int .u32 t253.f1.f4, .int .u32 t253.f1.f5] 25 (0, 0))) := ⟨q12x10_⟩; have n2_ : Aside0 (w36.heap[gb244]? = some (.cells #[.bool t254.f0, .int .u32 t254.f1.f0, .int .u32 t254.f1.f1, .int .u32 t254.f1.f2, .int .u32 t254.f1.f3, .int .u32 t254.f1.f4, .int .u32 t254.f1.f5] 25 (0, 0))) := ⟨q12x6_⟩; have n3_ : Aside0 (Below w.heap.size w w36) := ⟨(by rw [hw]; exact q12x1_)⟩; clear hw; clear HO249; clear BK243; clear BK244; clear HB; have HO249 := n0_; have BK243 := n1_; have BK244 := n2_; have HB := n3_; clear n0_ n1_ n2_ n3_))
 refine bodyPost_ret (results_list (rs := [.cell 2 25, .cell 3 25, .tmp 4]) rfl (by simp) (.cell gb243 25 #[.bool t253.f0, .int .u32 t253.f1.f0, .int .u32 t253.f1.f1, .int .u32 t253.f1.f2, .int .u32 t253.f1.f3, .int .u32 t253.f1.f4, .int .u32 t253.f1.f5] (0, 0) _ rfl q12x2_ Try.underlying25 rfl (by kernel_rfl) (.cell gb244 25 #[.bool t254.f0, .int .u32 t254.f1.f0, .int .u32 t254.f1.f1, .int .u32 t254.f1.f2, .int .u32 t254.f1.f3, .int .u32 t254.f1.f4, .int .u32 t254.f1.f5] (0, 0) _ rfl q12x7_ Try.underlying25 rfl (by kernel_rfl) (.tmp .nil)))) rfl ?_
 exact ⟨by first | rfl | (simp [errW_none, errW_some] <;> rfl) | (simp [*, errW_none, errW_some] <;> rfl), by repeat (first | (with_reducible first | exact HB.out | apply below_alloc | apply pw_below_drewN | apply below_drew1 | refine below_set ?_ GE243.out | refine below_set ?_ GE244.out) | exact HB.out)⟩
end Go.Proofs.Ytbomadebdekjjaa.MFnRoots
