/- Functions of the program as Lean functions, and the proof that the code comes to what they say. Written by a program of this session (myprint.py). -/
import Derived.Test.YtdnkpfmcpalojaaMFnExactRootTermAtx0
namespace Go.Proofs.Ytdnkpfmcpalojaa.MFnExactRootTermAt
open Go.RowKit Go.Proofs.Ytdnkpfmcpalojaa.MOpen Go.Proofs.YtdnkpfmcpalojaaW.PrintWords Go.Proofs.YtdnkpfmcpalojaaW.PrintLast Go.Proofs.YtdnkpfmcpalojaaW.PrintMore
attribute [local go_sem] max2_int min2_int max_two min_two max_three min_three max_four min_four   -- for this text's walks alone
set_option linter.unusedVariables false
set_option linter.unusedSimpArgs false

/-! ### spec_l00In: function 76 -/
def spec_l00In.f (a0 : Int) (a1 : Int) (a2 : Int) : Option (Bool) := if a0 ≥ a1 then (some (decide (a0 ≤ a2))) else (some false)
set_option maxHeartbeats 8000000 in
set_option maxRecDepth 100000 in
theorem spec_l00In.calls (a0 : Int) (a1 : Int) (a2 : Int) (r : Bool) (w : World) (h : spec_l00In.f a0 a1 a2 = some r) :
    Calls Try.prog 76 #[.int .i64 a0, .int .i64 a1, .int .i64 a2] w fun e w' => e = .returned (.bool r) ∧ Drawn0 w w' := by
  have H : (if a0 ≥ a1 then (some (decide (a0 ≤ a2))) else (some false)) = some r := h
  clear h
  by_cases c4 : a0 ≥ a1
  · rw [if_pos c4] at H
    have c4b0 : decide (a1 ≤ a0) = true := decide_eq_true c4
    clear c4
    obtain rfl := Option.some.inj H
    go_enter Try.func76, Try.ntmps76
    go_wp2
    go_ret
    exact ⟨by first | rfl | (simp; done) | (simp [*]; done), by repeat (first | exact Drawn0.refl _ | apply Drawn0.step)⟩
  · rw [if_neg c4] at H
    have c4b0 : decide (a1 ≤ a0) = false := decide_eq_false c4
    clear c4
    obtain rfl := Option.some.inj H
    go_enter Try.func76, Try.ntmps76
    go_wp2
    go_ret
    exact ⟨by first | rfl | (simp; done) | (simp [*]; done), by repeat (first | exact Drawn0.refl _ | apply Drawn0.step)⟩

/-! ### spec_l04Root: function 94 -/
def spec_l04Root.l0 : Nat → Int → Int → Option (Int)
  | 0, _, _ => none
  | k + 1, x0, x3 => if (wrap64 ((wrap64 (x3 + 1)) * (wrap64 (x3 + 1)))) ≤ x0 then (spec_l04Root.l0 k x0 (wrap64 (x3 + 1))) else (some x3)
def spec_l04Root.f (k : Nat) (a0 : Int) : Option (Int) := spec_l04Root.l0 k a0 0
theorem spec_l04Root.mono_l : ∀ k, (∀ y0 y1, LeO (spec_l04Root.l0 k y0 y1) (spec_l04Root.l0 (k + 1) y0 y1))
  | 0 => fun _ _ r h => by simp [spec_l04Root.l0] at h
  | k + 1 => by
    have ih0 := spec_l04Root.mono_l k
    · intro y0 y1
      unfold spec_l04Root.l0
      repeat' first
      | (with_reducible exact ih0 _ _)
      | (with_reducible exact LeO.refl _)
      | (with_reducible exact LeO.none _)
      | (with_reducible refine LeO.ite ?_ ?_)
      | (with_reducible refine LeO.bind ?_ (fun _ => ?_))
      | exact ih0 _ _
      | exact LeO.none _
      | refine LeO.ite ?_ ?_
      | refine LeO.bind ?_ (fun _ => ?_)
theorem spec_l04Root.mono : ∀ a0 k, LeO (spec_l04Root.f k a0) (spec_l04Root.f (k + 1) a0) := by
  intro a0 k
  have ih0 := spec_l04Root.mono_l k
  unfold spec_l04Root.f
  repeat' first
      | (with_reducible exact ih0 _ _)
      | (with_reducible exact LeO.refl _)
      | (with_reducible exact LeO.none _)
      | (with_reducible refine LeO.ite ?_ ?_)
      | (with_reducible refine LeO.bind ?_ (fun _ => ?_))
      | exact ih0 _ _
      | exact LeO.none _
      | refine LeO.ite ?_ ?_
      | refine LeO.bind ?_ (fun _ => ?_)
set_option maxHeartbeats 8000000 in
set_option maxRecDepth 100000 in
theorem spec_l04Root.calls (k : Nat) (a0 : Int) (r : Int) (w : World) (h : spec_l04Root.f k a0 = some r) :
    Calls Try.prog 94 #[.int .i64 a0] w fun e w' => e = .returned (.int .i64 r) ∧ Drawn0 w w' := by
  have H : (spec_l04Root.l0 k a0 0) = some r := h
  clear h
  have H' := Aside0.mk H
  clear H
  go_enter Try.func94, Try.ntmps94
  go_wp2
  go_loopg [3] k (fun kq v3 w' => ∃ (x3_1 : Int), v3 = .int .i64 x3_1 ∧ Aside0 (spec_l04Root.l0 kq a0 x3_1 = some r) ∧ Aside0 (kq ≤ k) ∧ Drawn0 w w')
  case atStart => exact ⟨(0), (by first | rfl | (simp; done) | (simp [*]; done)), H', ⟨Nat.le_refl _⟩, by repeat (first | exact Drawn0.refl _ | apply Drawn0.step)⟩
  case round =>
    clear H'
    obtain ⟨x3_1, rfl, HA, HK1, ⟨m1, rfl⟩⟩ := hrel
    cases gk with
    | zero => exact absurd HA.out (by simp [spec_l04Root.l0])
    | succ k1 =>
      have H := HA.out
      clear HA
      simp only [spec_l04Root.l0] at H
      by_cases c2 : (wrap64 ((wrap64 (x3_1 + 1)) * (wrap64 (x3_1 + 1)))) ≤ a0
      · rw [if_pos c2] at H
        have c2b0 : decide ((wrap64 ((wrap64 (x3_1 + 1)) * (wrap64 (x3_1 + 1)))) ≤ a0) = true := decide_eq_true c2
        clear c2
        have H' := Aside0.mk H
        clear H
        go_wp2
        go_roundg k1
        case measure => have := HK1.out; omega
        case rel => exact ⟨(wrap64 (x3_1 + 1)), (by first | rfl | (simp; done) | (simp [*]; done)), H', ⟨by have := HK1.out; omega⟩, by repeat (first | exact Drawn0.refl _ | apply Drawn0.step)⟩
      · rw [if_neg c2] at H
        have c2b0 : decide ((wrap64 ((wrap64 (x3_1 + 1)) * (wrap64 (x3_1 + 1)))) ≤ a0) = false := decide_eq_false c2
        clear c2
        obtain rfl := Option.some.inj H
        go_wp2
        go_ret
        exact ⟨by first | rfl | (simp; done) | (simp [*]; done), by repeat (first | exact Drawn0.refl _ | apply Drawn0.step)⟩

/-! ### spec_l04Period: function 77 -/
def spec_l04Period.l0 : Nat → Int → Int → List Int → Int → Int → Int → Option (Int × List Int × Int)
  | 0, _, _, _, _, _, _ => none
  | k + 1, x0, x5, x6, x7, x8, x9 => if x9 = (wrap64 (2 * x5)) then (some (x5, x6, 0)) else (if x8 = 0 then (none) else (if (wrap64 (Int.tdiv (wrap64 (x0 - (wrap64 ((wrap64 ((wrap64 (x8 * x9)) - x7)) * (wrap64 ((wrap64 (x8 * x9)) - x7)))))) x8)) = 0 then (none) else (if (x6.length : Int) = 3000 then (some (0, (([] : List Int)), 3)) else (if x6.length < 17592186044416 then (spec_l04Period.l0 k x0 x5 (x6 ++ [wrap64 (Int.tdiv (wrap64 (x5 + (wrap64 ((wrap64 (x8 * x9)) - x7)))) (wrap64 (Int.tdiv (wrap64 (x0 - (wrap64 ((wrap64 ((wrap64 (x8 * x9)) - x7)) * (wrap64 ((wrap64 (x8 * x9)) - x7)))))) x8)))]) (wrap64 ((wrap64 (x8 * x9)) - x7)) (wrap64 (Int.tdiv (wrap64 (x0 - (wrap64 ((wrap64 ((wrap64 (x8 * x9)) - x7)) * (wrap64 ((wrap64 (x8 * x9)) - x7)))))) x8)) (wrap64 (Int.tdiv (wrap64 (x5 + (wrap64 ((wrap64 (x8 * x9)) - x7)))) (wrap64 (Int.tdiv (wrap64 (x0 - (wrap64 ((wrap64 ((wrap64 (x8 * x9)) - x7)) * (wrap64 ((wrap64 (x8 * x9)) - x7)))))) x8))))) else (none)))))
def spec_l04Period.f (k : Nat) (a0 : Int) : Option (Int × List Int × Int) := (spec_l00In.f a0 0 1000000).bind fun t101 => (if t101 = true then ((spec_l04Root.f k a0).bind fun t105 => ((some (([] : List Int) : List Int)).bind fun y106 => (if (wrap64 (t105 * t105)) = a0 then (some (t105, y106, 0)) else (spec_l04Period.l0 k a0 t105 y106 0 1 t105)))) else (some (0, (([] : List Int)), 2)))
theorem spec_l04Period.mono_l : ∀ k, (∀ y0 y1 y2 y3 y4 y5, LeO (spec_l04Period.l0 k y0 y1 y2 y3 y4 y5) (spec_l04Period.l0 (k + 1) y0 y1 y2 y3 y4 y5))
  | 0 => fun _ _ _ _ _ _ r h => by simp [spec_l04Period.l0] at h
  | k + 1 => by
    have ih0 := spec_l04Period.mono_l k
    · intro y0 y1 y2 y3 y4 y5
      unfold spec_l04Period.l0
      repeat' first
      | (with_reducible exact ih0 _ _ _ _ _ _)
      | (with_reducible exact spec_l04Root.mono _ _)
      | (with_reducible exact LeO.refl _)
      | (with_reducible exact LeO.none _)
      | (with_reducible refine LeO.ite ?_ ?_)
      | (with_reducible refine LeO.bind ?_ (fun _ => ?_))
      | exact ih0 _ _ _ _ _ _
      | exact spec_l04Root.mono _ _
      | exact LeO.none _
      | refine LeO.ite ?_ ?_
      | refine LeO.bind ?_ (fun _ => ?_)
theorem spec_l04Period.mono : ∀ a0 k, LeO (spec_l04Period.f k a0) (spec_l04Period.f (k + 1) a0) := by
  intro a0 k
  have ih0 := spec_l04Period.mono_l k
  unfold spec_l04Period.f
  repeat' first
      | (with_reducible exact ih0 _ _ _ _ _ _)
      | (with_reducible exact spec_l04Root.mono _ _)
      | (with_reducible exact LeO.refl _)
      | (with_reducible exact LeO.none _)
      | (with_reducible refine LeO.ite ?_ ?_)
      | (with_reducible refine LeO.bind ?_ (fun _ => ?_))
      | exact ih0 _ _ _ _ _ _
      | exact spec_l04Root.mono _ _
      | exact LeO.none _
      | refine LeO.ite ?_ ?_
      | refine LeO.bind ?_ (fun _ => ?_)
set_option maxHeartbeats 8000000 in
set_option maxRecDepth 100000 in
theorem spec_l04Period.calls (k : Nat) (a0 : Int) (r1 : Int) (r2 : List Int) (r3 : Int) (w : World) (h : spec_l04Period.f k a0 = some (r1, r2, r3)) :
    Calls Try.prog 77 #[.int .i64 a0] w fun e w' => ∃ v1_ : Value, e = .returned (.tuple #[.int .i64 r1, v1_, .int .i64 r3]) ∧ Kd.R (Kd.int .i64) 2 w' w.heap.size (fun _ => True) v1_ r2 ∧ Below w.heap.size w w' := by
  have HB := Aside0.mk (Below.refl w.heap.size w)
  have H : ((spec_l00In.f a0 0 1000000).bind fun t101 => (if t101 = true then ((spec_l04Root.f k a0).bind fun t105 => ((some (([] : List Int) : List Int)).bind fun y106 => (if (wrap64 (t105 * t105)) = a0 then (some (t105, y106, 0)) else (spec_l04Period.l0 k a0 t105 y106 0 1 t105)))) else (some (0, (([] : List Int)), 2)))) = some (r1, r2, r3) := h
  clear h
  replace H := Option.bind_eq_some_iff.mp H
  obtain ⟨t101, A20, H⟩ := H
  replace H : (if t101 = true then ((spec_l04Root.f k a0).bind fun t105 => ((some (([] : List Int) : List Int)).bind fun y106 => (if (wrap64 (t105 * t105)) = a0 then (some (t105, y106, 0)) else (spec_l04Period.l0 k a0 t105 y106 0 1 t105)))) else (some (0, (([] : List Int)), 2))) = some (r1, r2, r3) := H
  have A2 := Aside0.mk A20
  clear A20
  by_cases c3 : t101 = true
  · subst c3
    have H1 : ((spec_l04Root.f k a0).bind fun t105 => ((some (([] : List Int) : List Int)).bind fun y106 => (if (wrap64 (t105 * t105)) = a0 then (some (t105, y106, 0)) else (spec_l04Period.l0 k a0 t105 y106 0 1 t105)))) = some (r1, r2, r3) := by rw [if_pos rfl] at H; exact H
    clear H
    have H := H1
    clear H1
    replace H := Option.bind_eq_some_iff.mp H
    obtain ⟨t105, A40, H⟩ := H
    replace H : ((some (([] : List Int) : List Int)).bind fun y106 => (if (wrap64 (t105 * t105)) = a0 then (some (t105, y106, 0)) else (spec_l04Period.l0 k a0 t105 y106 0 1 t105))) = some (r1, r2, r3) := H
    have A4 := Aside0.mk A40
    clear A40
    obtain ⟨y106, hy106⟩ : ∃ y_ : List Int, y_ = (([] : List Int)) := ⟨_, rfl⟩
    replace H : (if (wrap64 (t105 * t105)) = a0 then (some (t105, y106, 0)) else (spec_l04Period.l0 k a0 t105 y106 0 1 t105)) = some (r1, r2, r3) := by first | (rw [hy106]; with_reducible exact H) | (have H2_ := (Option.bind_some _ _).symm.trans H; rw [hy106]; with_reducible exact H2_) | (have H2_ := (Option.bind_some _ _).symm.trans H; with_reducible exact H2_) | with_reducible exact H | (rw [hy106]; exact H) | exact H
    have Ny106 := Aside0.mk hy106
    clear hy106
    by_cases c5 : (wrap64 (t105 * t105)) = a0
    · rw [if_pos c5] at H
      have c5b0 : ((wrap64 (t105 * t105)) == a0) = true := beq_iff_eq.mpr c5
      have c5b1 : ((wrap64 (t105 * t105)) != a0) = false := bne_eq_false_iff_eq.mpr c5
      clear c5
      simp only [Option.some.injEq, Prod.mk.injEq] at H
      obtain ⟨rfl, rfl, rfl⟩ := H
      go_enter Try.func77, Try.ntmps77
      go_wp2_with (first | ((with_reducible refine gate_callee (f := 76) rfl ?_); refine goesL_ (some 11) rfl rfl Try.func76 (by kernel_rfl) rfl #[.int .i64 a0, .int .i64 0, .int .i64 1000000] rfl (by (try simp only [List.map_toArray, List.map_cons, List.map_nil]); first | done | rfl | (simp only [List.length_drop, List.length_take]; rfl)) ?_; (with_reducible refine (spec_l00In.calls a0 0 1000000 true _ A2.out).mono ?_); rintro e w' ⟨rfl, ⟨nd, rfl⟩⟩; refine ⟨_, rfl, ?_⟩) | ((with_reducible refine gate_callee (f := 94) rfl ?_); refine goesL_ (some 15) rfl rfl Try.func94 (by kernel_rfl) rfl #[.int .i64 a0] rfl (by (try simp only [List.map_toArray, List.map_cons, List.map_nil]); first | done | rfl | (simp only [List.length_drop, List.length_take]; rfl)) ?_; (with_reducible refine (spec_l04Root.calls k a0 t105 _ A4.out).mono ?_); rintro e w' ⟨rfl, ⟨nd, rfl⟩⟩; refine ⟨_, rfl, ?_⟩) | ((with_reducible refine gate_dst (N := 16) rfl ?_); refine Kd.R_lit (Kd.int .i64) _ 2 ?hg (N := 16) ?hd (xs := ([] : List Int)) (inner := []) (ok := fun _ => True) (okp := fun _ => True) ?hr ?hp (fun _ hk => hk) trivial (Below.refl _ _) (Nat.le_refl _) (by simp) ?_; (case hd => rfl); (case hg => rfl); (case hr => first | (go_simp; done) | (go_simp; rfl)); (case hp => exact (Reps.none _ _)); intro v107 w6 ho7 hb hg_ hnew_; clear hg_ hnew_; (first | rw [← Ny106.out] at ho7 | (simp only [Int.reduceToNat] at ho7; rw [← Ny106.out] at ho7)); have n0_ := Aside0.mk (Kd.R_lower ho7 (below_size (by repeat (first | (with_reducible first | exact HB.out | apply below_alloc | apply pw_below_drewN | apply below_drew1) | exact HB.out)))); have n1_ := Aside0.mk (below_step (by repeat (first | (with_reducible first | exact HB.out | apply below_alloc | apply pw_below_drewN | apply below_drew1) | exact HB.out)) hb); clear HB; have HO108 := n0_; have HB := n1_; clear n0_ n1_; clear hb ho7))
      go_ret3
      exact ⟨_, by first | rfl | (simp [errW_none, errW_some] <;> rfl) | (simp [*, errW_none, errW_some] <;> rfl), by (with_reducible repeat (first | apply Kd.R_alloc | apply Kd.R_drewN | apply Kd.R_drew)); exact HO108.out, by repeat (first | (with_reducible first | exact HB.out | apply below_alloc | apply pw_below_drewN | apply below_drew1) | exact HB.out)⟩
    · rw [if_neg c5] at H
      have c5b0 : ((wrap64 (t105 * t105)) == a0) = false := beq_eq_false_iff_ne.mpr c5
      have c5b1 : ((wrap64 (t105 * t105)) != a0) = true := bne_iff_ne.mpr c5
      have H' := Aside0.mk H
      clear H
      go_enter Try.func77, Try.ntmps77
      go_wp2_with (first | ((with_reducible refine gate_callee (f := 76) rfl ?_); refine goesL_ (some 11) rfl rfl Try.func76 (by kernel_rfl) rfl #[.int .i64 a0, .int .i64 0, .int .i64 1000000] rfl (by (try simp only [List.map_toArray, List.map_cons, List.map_nil]); first | done | rfl | (simp only [List.length_drop, List.length_take]; rfl)) ?_; (with_reducible refine (spec_l00In.calls a0 0 1000000 true _ A2.out).mono ?_); rintro e w' ⟨rfl, ⟨nd, rfl⟩⟩; refine ⟨_, rfl, ?_⟩) | ((with_reducible refine gate_callee (f := 94) rfl ?_); refine goesL_ (some 15) rfl rfl Try.func94 (by kernel_rfl) rfl #[.int .i64 a0] rfl (by (try simp only [List.map_toArray, List.map_cons, List.map_nil]); first | done | rfl | (simp only [List.length_drop, List.length_take]; rfl)) ?_; (with_reducible refine (spec_l04Root.calls k a0 t105 _ A4.out).mono ?_); rintro e w' ⟨rfl, ⟨nd, rfl⟩⟩; refine ⟨_, rfl, ?_⟩) | ((with_reducible refine gate_dst (N := 16) rfl ?_); refine Kd.R_lit (Kd.int .i64) _ 2 ?hg (N := 16) ?hd (xs := ([] : List Int)) (inner := []) (ok := fun _ => True) (okp := fun _ => True) ?hr ?hp (fun _ hk => hk) trivial (Below.refl _ _) (Nat.le_refl _) (by simp) ?_; (case hd => rfl); (case hg => rfl); (case hr => first | (go_simp; done) | (go_simp; rfl)); (case hp => exact (Reps.none _ _)); intro v107 w8 ho9 hb hg_ hnew_; clear hg_ hnew_; (first | rw [← Ny106.out] at ho9 | (simp only [Int.reduceToNat] at ho9; rw [← Ny106.out] at ho9)); have n0_ := Aside0.mk (Kd.R_lower ho9 (below_size (by repeat (first | (with_reducible first | exact HB.out | apply below_alloc | apply pw_below_drewN | apply below_drew1) | exact HB.out)))); have n1_ := Aside0.mk (below_step (by repeat (first | (with_reducible first | exact HB.out | apply below_alloc | apply pw_below_drewN | apply below_drew1) | exact HB.out)) hb); clear HB; have HO108 := n0_; have HB := n1_; clear n0_ n1_; clear hb ho9))
      go_loopg [6, 7, 8, 9] k (fun kq v6 v7 v8 v9 w' => ∃ (x6_1 : List Int) (x7_1 : Int) (x8_1 : Int) (x9_1 : Int), v7 = .int .i64 x7_1 ∧ v8 = .int .i64 x8_1 ∧ v9 = .int .i64 x9_1 ∧ Aside0 (spec_l04Period.l0 kq a0 t105 x6_1 x7_1 x8_1 x9_1 = some (r1, r2, r3)) ∧ Aside0 (kq ≤ k) ∧ Aside0 (Kd.R (Kd.int .i64) 2 w' w.heap.size (fun _ => True) v6 x6_1) ∧ Aside0 (Below w.heap.size w w'))
      case atStart => exact ⟨(y106), (0), (1), (t105), (by first | rfl | (simp; done) | (simp [*]; done)), (by first | rfl | (simp; done) | (simp [*]; done)), (by first | rfl | (simp; done) | (simp [*]; done)), H', ⟨Nat.le_refl _⟩, ⟨by (with_reducible repeat (first | apply Kd.R_alloc | apply Kd.R_drewN | apply Kd.R_drew)); exact HO108.out⟩, ⟨by repeat (first | (with_reducible first | exact HB.out | apply below_alloc | apply pw_below_drewN | apply below_drew1) | exact HB.out)⟩⟩
      case round =>
        clear H'
        try clear p2
        try clear c3
        try clear c5
        try clear c5b0
        try clear c5b1
        try clear p6
        try clear c7
        try clear c9
        obtain ⟨x6_1, x7_1, x8_1, x9_1, rfl, rfl, rfl, HA, HK1, HO_6, HB⟩ := hrel
        cases gk with
        | zero => exact absurd HA.out (by simp [spec_l04Period.l0])
        | succ k1 =>
          have H := HA.out
          clear HA
          simp only [spec_l04Period.l0] at H
          by_cases c10 : x9_1 = (wrap64 (2 * t105))
          · rw [if_pos c10] at H
            have c10b0 : (x9_1 == (wrap64 (2 * t105))) = true := beq_iff_eq.mpr c10
            have c10b1 : (x9_1 != (wrap64 (2 * t105))) = false := bne_eq_false_iff_eq.mpr c10
            clear c10
            simp only [Option.some.injEq, Prod.mk.injEq] at H
            obtain ⟨rfl, rfl, rfl⟩ := H
            go_wp2
            go_ret3
            exact ⟨_, by first | rfl | (simp [errW_none, errW_some] <;> rfl) | (simp [*, errW_none, errW_some] <;> rfl), by (with_reducible repeat (first | apply Kd.R_alloc | apply Kd.R_drewN | apply Kd.R_drew)); exact HO_6.out, by repeat (first | (with_reducible first | exact HB.out | apply below_alloc | apply pw_below_drewN | apply below_drew1) | exact HB.out)⟩
          · rw [if_neg c10] at H
            have c10b0 : (x9_1 == (wrap64 (2 * t105))) = false := beq_eq_false_iff_ne.mpr c10
            have c10b1 : (x9_1 != (wrap64 (2 * t105))) = true := bne_iff_ne.mpr c10
            by_cases c11 : x8_1 = 0
            · rw [if_pos c11] at H
              exact absurd H (by simp)
            · rw [if_neg c11] at H
              have c11b0 : (x8_1 == 0) = false := beq_eq_false_iff_ne.mpr c11
              have c11b1 : (x8_1 != 0) = true := bne_iff_ne.mpr c11
              by_cases c12 : (wrap64 (Int.tdiv (wrap64 (a0 - (wrap64 ((wrap64 ((wrap64 (x8_1 * x9_1)) - x7_1)) * (wrap64 ((wrap64 (x8_1 * x9_1)) - x7_1)))))) x8_1)) = 0
              · rw [if_pos c12] at H
                exact absurd H (by simp)
              · rw [if_neg c12] at H
                have c12b0 : ((wrap64 (Int.tdiv (wrap64 (a0 - (wrap64 ((wrap64 ((wrap64 (x8_1 * x9_1)) - x7_1)) * (wrap64 ((wrap64 (x8_1 * x9_1)) - x7_1)))))) x8_1)) == 0) = false := beq_eq_false_iff_ne.mpr c12
                have c12b1 : ((wrap64 (Int.tdiv (wrap64 (a0 - (wrap64 ((wrap64 ((wrap64 (x8_1 * x9_1)) - x7_1)) * (wrap64 ((wrap64 (x8_1 * x9_1)) - x7_1)))))) x8_1)) != 0) = true := bne_iff_ne.mpr c12
                by_cases c13 : (x6_1.length : Int) = 3000
                · rw [if_pos c13] at H
                  have c13b0 : ((x6_1.length : Int) == 3000) = true := beq_iff_eq.mpr c13
                  have c13b1 : ((x6_1.length : Int) != 3000) = false := bne_eq_false_iff_eq.mpr c13
                  clear c13
                  obtain ⟨y109, hy109⟩ : ∃ y_ : List Int, y_ = (([] : List Int)) := ⟨_, rfl⟩
                  replace H : (some (0, y109, 3)) = some (r1, r2, r3) := by first | (rw [hy109]; with_reducible exact H) | (have H2_ := (Option.bind_some _ _).symm.trans H; rw [hy109]; with_reducible exact H2_) | (have H2_ := (Option.bind_some _ _).symm.trans H; with_reducible exact H2_) | with_reducible exact H | (rw [hy109]; exact H) | exact H
                  have Ny109 := Aside0.mk hy109
                  clear hy109
                  simp only [Option.some.injEq, Prod.mk.injEq] at H
                  obtain ⟨rfl, rfl, rfl⟩ := H
                  obtain ⟨Ao14, co14, eo14⟩ := Kd.R_slice HO_6.out
                  subst eo14
                  go_wp2_with (first | ((with_reducible refine gate_dst (N := 49) rfl ?_); refine Kd.R_lit (Kd.int .i64) _ 2 ?hg (N := 49) ?hd (xs := ([] : List Int)) (inner := []) (ok := fun _ => True) (okp := fun _ => True) ?hr ?hp (fun _ hk => hk) trivial (Below.refl _ _) (Nat.le_refl _) (by simp) ?_; (case hd => rfl); (case hg => rfl); (case hr => first | (go_simp; done) | (go_simp; rfl)); (case hp => exact (Reps.none _ _)); intro v110 w15 ho16 hb hg_ hnew_; clear hg_ hnew_; (first | rw [← Ny109.out] at ho16 | (simp only [Int.reduceToNat] at ho16; rw [← Ny109.out] at ho16)); have n0_ := Aside0.mk (Kd.R_elder' (by (with_reducible repeat (first | apply Kd.R_alloc | apply Kd.R_drewN | apply Kd.R_drew)); exact HO_6.out) (Kd.R_base ho16) hb); have n1_ := Aside0.mk (Kd.R_lower (Kd.R_new' ho16 (Kd.R_lt (by (with_reducible repeat (first | apply Kd.R_alloc | apply Kd.R_drewN | apply Kd.R_drew)); exact HO_6.out))) (below_size (by repeat (first | (with_reducible first | exact HB.out | apply below_alloc | apply pw_below_drewN | apply below_drew1) | exact HB.out)))); have n2_ := Aside0.mk (below_step (by repeat (first | (with_reducible first | exact HB.out | apply below_alloc | apply pw_below_drewN | apply below_drew1) | exact HB.out)) hb); clear HO_6; clear HB; have HO_6 := n0_; have HO111 := n1_; have HB := n2_; clear n0_ n1_ n2_; clear hb ho16))
                  go_ret3
                  exact ⟨_, by first | rfl | (simp [errW_none, errW_some] <;> rfl) | (simp [*, errW_none, errW_some] <;> rfl), by (with_reducible repeat (first | apply Kd.R_alloc | apply Kd.R_drewN | apply Kd.R_drew)); exact Kd.R_mono HO111.out (fun _ hk => trivial), by repeat (first | (with_reducible first | exact HB.out | apply below_alloc | apply pw_below_drewN | apply below_drew1) | exact HB.out)⟩
                · rw [if_neg c13] at H
                  have c13b0 : ((x6_1.length : Int) == 3000) = false := beq_eq_false_iff_ne.mpr c13
                  have c13b1 : ((x6_1.length : Int) != 3000) = true := bne_iff_ne.mpr c13
                  by_cases c17 : x6_1.length < 17592186044416
                  · rw [if_pos c17] at H
                    have LMc17 := Aside0.mk c17
                    clear c17
                    obtain ⟨y112, hy112⟩ : ∃ y_ : List Int, y_ = (x6_1 ++ [wrap64 (Int.tdiv (wrap64 (t105 + (wrap64 ((wrap64 (x8_1 * x9_1)) - x7_1)))) (wrap64 (Int.tdiv (wrap64 (a0 - (wrap64 ((wrap64 ((wrap64 (x8_1 * x9_1)) - x7_1)) * (wrap64 ((wrap64 (x8_1 * x9_1)) - x7_1)))))) x8_1)))]) := ⟨_, rfl⟩
                    replace H : (spec_l04Period.l0 k1 a0 t105 y112 (wrap64 ((wrap64 (x8_1 * x9_1)) - x7_1)) (wrap64 (Int.tdiv (wrap64 (a0 - (wrap64 ((wrap64 ((wrap64 (x8_1 * x9_1)) - x7_1)) * (wrap64 ((wrap64 (x8_1 * x9_1)) - x7_1)))))) x8_1)) (wrap64 (Int.tdiv (wrap64 (t105 + (wrap64 ((wrap64 (x8_1 * x9_1)) - x7_1)))) (wrap64 (Int.tdiv (wrap64 (a0 - (wrap64 ((wrap64 ((wrap64 (x8_1 * x9_1)) - x7_1)) * (wrap64 ((wrap64 (x8_1 * x9_1)) - x7_1)))))) x8_1))))) = some (r1, r2, r3) := by first | (rw [hy112]; with_reducible exact H) | (have H2_ := (Option.bind_some _ _).symm.trans H; rw [hy112]; with_reducible exact H2_) | (have H2_ := (Option.bind_some _ _).symm.trans H; with_reducible exact H2_) | with_reducible exact H | (rw [hy112]; exact H) | exact H
                    have Ny112 := Aside0.mk hy112
                    clear hy112
                    have H' := Aside0.mk H
                    clear H
                    obtain ⟨Ao18, co18, eo18⟩ := Kd.R_slice HO_6.out
                    subst eo18
                    go_wp2_with (first | ((with_reducible refine gate_builtin (b := .append) (xs := #[.tmp 50, .tmp 52]) rfl ?_); at_builtin; refine Kd.R_append (Kd.int .i64) (w0 := w) w.heap.size rfl (.tmp 50) (.tmp 52) 22 2 (.int .i64 0) 8 rfl Try.underlying22 info2 rfl (by decide) (by omega) (.slice Ao18 x6_1.length co18) x6_1 (wrap64 (Int.tdiv (wrap64 (t105 + (wrap64 ((wrap64 (x8_1 * x9_1)) - x7_1)))) (wrap64 (Int.tdiv (wrap64 (a0 - (wrap64 ((wrap64 ((wrap64 (x8_1 * x9_1)) - x7_1)) * (wrap64 ((wrap64 (x8_1 * x9_1)) - x7_1)))))) x8_1)))) [.int .i64 (wrap64 (Int.tdiv (wrap64 (t105 + (wrap64 ((wrap64 (x8_1 * x9_1)) - x7_1)))) (wrap64 (Int.tdiv (wrap64 (a0 - (wrap64 ((wrap64 ((wrap64 (x8_1 * x9_1)) - x7_1)) * (wrap64 ((wrap64 (x8_1 * x9_1)) - x7_1)))))) x8_1))))] (fun _ => True) (fun _ => False) rfl rfl ?aP (fun _ hk => hk.elim) ?aF ?aO ?aB ?aS ?aL ?_; (case aP => exact rfl); (case aB => exact (by repeat (first | (with_reducible first | exact HB.out | apply below_alloc | apply pw_below_drewN | apply below_drew1) | exact HB.out))); (case aF => exact (fun _ _ => trivial)); (case aO => exact (by (with_reducible repeat (first | apply Kd.R_alloc | apply Kd.R_drewN | apply Kd.R_drew)); exact HO_6.out)); (case aS => exact (below_size (by repeat (first | (with_reducible first | exact HB.out | apply below_alloc | apply pw_below_drewN | apply below_drew1) | exact HB.out)))); (case aL => have := LMc17.out; omega); intro v113 w19 ho hb hg hat; rw [← Ny112.out] at ho; have n0_ := Aside0.mk (hb); have n1_ := Aside0.mk (ho); clear HB; clear HO_6; have HB := n0_; have HO114 := n1_; clear n0_ n1_; clear ho hb hg hat))
                    go_roundg k1
                    case measure => have := HK1.out; omega
                    case rel => exact ⟨(y112), (wrap64 ((wrap64 (x8_1 * x9_1)) - x7_1)), (wrap64 (Int.tdiv (wrap64 (a0 - (wrap64 ((wrap64 ((wrap64 (x8_1 * x9_1)) - x7_1)) * (wrap64 ((wrap64 (x8_1 * x9_1)) - x7_1)))))) x8_1)), (wrap64 (Int.tdiv (wrap64 (t105 + (wrap64 ((wrap64 (x8_1 * x9_1)) - x7_1)))) (wrap64 (Int.tdiv (wrap64 (a0 - (wrap64 ((wrap64 ((wrap64 (x8_1 * x9_1)) - x7_1)) * (wrap64 ((wrap64 (x8_1 * x9_1)) - x7_1)))))) x8_1)))), (by first | rfl | (simp; done) | (simp [*]; done)), (by first | rfl | (simp; done) | (simp [*]; done)), (by first | rfl | (simp; done) | (simp [*]; done)), H', ⟨by have := HK1.out; omega⟩, ⟨by (with_reducible repeat (first | apply Kd.R_alloc | apply Kd.R_drewN | apply Kd.R_drew)); exact HO114.out⟩, ⟨by repeat (first | (with_reducible first | exact HB.out | apply below_alloc | apply pw_below_drewN | apply below_drew1) | exact HB.out)⟩⟩
                  · rw [if_neg c17] at H
                    exact absurd H (by simp)
  · replace c3 := Bool.eq_false_iff.mpr c3
    subst c3
    have H1 : (some (0, (([] : List Int)), 2)) = some (r1, r2, r3) := by rw [if_neg (show ¬ (false = true) by decide)] at H; exact H
    clear H
    have H := H1
    clear H1
    obtain ⟨y102, hy102⟩ : ∃ y_ : List Int, y_ = (([] : List Int)) := ⟨_, rfl⟩
    replace H : (some (0, y102, 2)) = some (r1, r2, r3) := by first | (rw [hy102]; with_reducible exact H) | (have H2_ := (Option.bind_some _ _).symm.trans H; rw [hy102]; with_reducible exact H2_) | (have H2_ := (Option.bind_some _ _).symm.trans H; with_reducible exact H2_) | with_reducible exact H | (rw [hy102]; exact H) | exact H
    have Ny102 := Aside0.mk hy102
    clear hy102
    simp only [Option.some.injEq, Prod.mk.injEq] at H
    obtain ⟨rfl, rfl, rfl⟩ := H
    go_enter Try.func77, Try.ntmps77
    go_wp2_with (first | ((with_reducible refine gate_callee (f := 76) rfl ?_); refine goesL_ (some 11) rfl rfl Try.func76 (by kernel_rfl) rfl #[.int .i64 a0, .int .i64 0, .int .i64 1000000] rfl (by (try simp only [List.map_toArray, List.map_cons, List.map_nil]); first | done | rfl | (simp only [List.length_drop, List.length_take]; rfl)) ?_; (with_reducible refine (spec_l00In.calls a0 0 1000000 false _ A2.out).mono ?_); rintro e w' ⟨rfl, ⟨nd, rfl⟩⟩; refine ⟨_, rfl, ?_⟩) | ((with_reducible refine gate_dst (N := 13) rfl ?_); refine Kd.R_lit (Kd.int .i64) _ 2 ?hg (N := 13) ?hd (xs := ([] : List Int)) (inner := []) (ok := fun _ => True) (okp := fun _ => True) ?hr ?hp (fun _ hk => hk) trivial (Below.refl _ _) (Nat.le_refl _) (by simp) ?_; (case hd => rfl); (case hg => rfl); (case hr => first | (go_simp; done) | (go_simp; rfl)); (case hp => exact (Reps.none _ _)); intro v103 w20 ho21 hb hg_ hnew_; clear hg_ hnew_; (first | rw [← Ny102.out] at ho21 | (simp only [Int.reduceToNat] at ho21; rw [← Ny102.out] at ho21)); have n0_ := Aside0.mk (Kd.R_lower ho21 (below_size (by repeat (first | (with_reducible first | exact HB.out | apply below_alloc | apply pw_below_drewN | apply below_drew1) | exact HB.out)))); have n1_ := Aside0.mk (below_step (by repeat (first | (with_reducible first | exact HB.out | apply below_alloc | apply pw_below_drewN | apply below_drew1) | exact HB.out)) hb); clear HB; have HO104 := n0_; have HB := n1_; clear n0_ n1_; clear hb ho21))
    go_ret3
    exact ⟨_, by first | rfl | (simp [errW_none, errW_some] <;> rfl) | (simp [*, errW_none, errW_some] <;> rfl), by (with_reducible repeat (first | apply Kd.R_alloc | apply Kd.R_drewN | apply Kd.R_drew)); exact HO104.out, by repeat (first | (with_reducible first | exact HB.out | apply below_alloc | apply pw_below_drewN | apply below_drew1) | exact HB.out)⟩

/-! ### spec_l04Index: function 50 -/
def spec_l04Index.j0 : Nat → Int → Int → Bool → Option (Int × List Int × Int)
  | 0, _, _, _ => none
  | k + 1, x0, x1, x20 => if x20 = true then (some (0, (([] : List Int)), 2)) else ((spec_l04Period.f k x0).bind fun bt120 => (if bt120.2.2 = 0 then (if (bt120.2.1.length : Int) = 0 then (if x1 > 0 then (some (bt120.1, bt120.2.1, 6)) else (some (bt120.1, bt120.2.1, bt120.2.2))) else (some (bt120.1, bt120.2.1, bt120.2.2))) else (some (bt120.1, bt120.2.1, bt120.2.2))))
def spec_l04Index.f (k : Nat) (a0 : Int) (a1 : Int) (a2 : Int) : Option (Int × List Int × Int) := (spec_l00In.f a0 0 1000000).bind fun t115 => (if t115 = true then ((spec_l00In.f a1 0 a2).bind fun t116 => (spec_l04Index.j0 k a0 a1 (!t116))) else (spec_l04Index.j0 k a0 a1 true))
theorem spec_l04Index.mono_l : ∀ k, (∀ y0 y1 y2, LeO (spec_l04Index.j0 k y0 y1 y2) (spec_l04Index.j0 (k + 1) y0 y1 y2))
  | 0 => fun _ _ _ r h => by simp [spec_l04Index.j0] at h
  | k + 1 => by
    have ih0 := spec_l04Index.mono_l k
    · intro y0 y1 y2
      unfold spec_l04Index.j0
      repeat' first
      | (with_reducible exact ih0 _ _ _)
      | (with_reducible exact spec_l04Period.mono _ _)
      | (with_reducible exact LeO.refl _)
      | (with_reducible exact LeO.none _)
      | (with_reducible refine LeO.ite ?_ ?_)
      | (with_reducible refine LeO.bind ?_ (fun _ => ?_))
      | exact ih0 _ _ _
      | exact spec_l04Period.mono _ _
      | exact LeO.none _
      | refine LeO.ite ?_ ?_
      | refine LeO.bind ?_ (fun _ => ?_)
theorem spec_l04Index.mono : ∀ a0 a1 a2 k, LeO (spec_l04Index.f k a0 a1 a2) (spec_l04Index.f (k + 1) a0 a1 a2) := by
  intro a0 a1 a2 k
  have ih0 := spec_l04Index.mono_l k
  unfold spec_l04Index.f
  repeat' first
      | (with_reducible exact ih0 _ _ _)
      | (with_reducible exact spec_l04Period.mono _ _)
      | (with_reducible exact LeO.refl _)
      | (with_reducible exact LeO.none _)
      | (with_reducible refine LeO.ite ?_ ?_)
      | (with_reducible refine LeO.bind ?_ (fun _ => ?_))
      | exact ih0 _ _ _
      | exact spec_l04Period.mono _ _
      | exact LeO.none _
      | refine LeO.ite ?_ ?_
      | refine LeO.bind ?_ (fun _ => ?_)
set_option maxHeartbeats 8000000 in
set_option maxRecDepth 100000 in
theorem spec_l04Index.calls (k : Nat) (a0 : Int) (a1 : Int) (a2 : Int) (r1 : Int) (r2 : List Int) (r3 : Int) (w : World) (h : spec_l04Index.f k a0 a1 a2 = some (r1, r2, r3)) :
    Calls Try.prog 50 #[.int .i64 a0, .int .i64 a1, .int .i64 a2] w fun e w' => ∃ v1_ : Value, e = .returned (.tuple #[.int .i64 r1, v1_, .int .i64 r3]) ∧ Kd.R (Kd.int .i64) 2 w' w.heap.size (fun _ => True) v1_ r2 ∧ Below w.heap.size w w' := by
  have HB := Aside0.mk (Below.refl w.heap.size w)
  have H : ((spec_l00In.f a0 0 1000000).bind fun t115 => (if t115 = true then ((spec_l00In.f a1 0 a2).bind fun t116 => (spec_l04Index.j0 k a0 a1 (!t116))) else (spec_l04Index.j0 k a0 a1 true))) = some (r1, r2, r3) := h
  clear h
  have HC4 := Aside0.mk H
  clear H
  go_enter Try.func50, Try.ntmps50
  go_upto_region 1 with (fail)
  go_cut [20] (fun v20 wc => ∃ (kq : Nat) (x20_3 : Bool), v20 = .bool x20_3 ∧ Aside0 (spec_l04Index.j0 kq a0 a1 x20_3 = some (r1, r2, r3)) ∧ Aside0 (kq ≤ k) ∧ Aside0 (Below w.heap.size w wc))
  case first =>
    have H := HC4.out
    clear HC4
    replace H := Option.bind_eq_some_iff.mp H
    obtain ⟨t115, A50, H⟩ := H
    replace H : (if t115 = true then ((spec_l00In.f a1 0 a2).bind fun t116 => (spec_l04Index.j0 k a0 a1 (!t116))) else (spec_l04Index.j0 k a0 a1 true)) = some (r1, r2, r3) := H
    have A5 := Aside0.mk A50
    clear A50
    by_cases c6 : t115 = true
    · subst c6
      have H1 : ((spec_l00In.f a1 0 a2).bind fun t116 => (spec_l04Index.j0 k a0 a1 (!t116))) = some (r1, r2, r3) := by rw [if_pos rfl] at H; exact H
      clear H
      have H := H1
      clear H1
      replace H := Option.bind_eq_some_iff.mp H
      obtain ⟨t116, A70, H⟩ := H
      replace H : (spec_l04Index.j0 k a0 a1 (!t116)) = some (r1, r2, r3) := H
      have A7 := Aside0.mk A70
      clear A70
      have H' := Aside0.mk H
      clear H
      go_wp2_with (first | ((with_reducible refine gate_callee (f := 76) rfl ?_); refine goesL_ (some 13) rfl rfl Try.func76 (by kernel_rfl) rfl #[.int .i64 a0, .int .i64 0, .int .i64 1000000] rfl (by (try simp only [List.map_toArray, List.map_cons, List.map_nil]); first | done | rfl | (simp only [List.length_drop, List.length_take]; rfl)) ?_; (with_reducible refine (spec_l00In.calls a0 0 1000000 true _ A5.out).mono ?_); rintro e w' ⟨rfl, ⟨nd, rfl⟩⟩; refine ⟨_, rfl, ?_⟩) | (go_at_call 76; (with_reducible refine (spec_l00In.calls a1 0 a2 t116 _ A7.out).mono ?_); rintro e w' ⟨rfl, ⟨nd, rfl⟩⟩))
      go_meet
      case rel => exact ⟨_, (!t116), (by first | rfl | (simp; done) | (simp [*]; done)), H', ⟨by first | omega | exact Nat.le_refl _⟩, ⟨by repeat (first | (with_reducible first | exact HB.out | apply below_alloc | apply pw_below_drewN | apply below_drew1) | exact HB.out)⟩⟩
    · replace c6 := Bool.eq_false_iff.mpr c6
      subst c6
      have H1 : (spec_l04Index.j0 k a0 a1 true) = some (r1, r2, r3) := by rw [if_neg (show ¬ (false = true) by decide)] at H; exact H
      clear H
      have H := H1
      clear H1
      have H' := Aside0.mk H
      clear H
      go_wp2_with (first | ((with_reducible refine gate_callee (f := 76) rfl ?_); refine goesL_ (some 13) rfl rfl Try.func76 (by kernel_rfl) rfl #[.int .i64 a0, .int .i64 0, .int .i64 1000000] rfl (by (try simp only [List.map_toArray, List.map_cons, List.map_nil]); first | done | rfl | (simp only [List.length_drop, List.length_take]; rfl)) ?_; (with_reducible refine (spec_l00In.calls a0 0 1000000 false _ A5.out).mono ?_); rintro e w' ⟨rfl, ⟨nd, rfl⟩⟩; refine ⟨_, rfl, ?_⟩))
      go_meet
      case rel => exact ⟨_, (true), (by first | rfl | (simp; done) | (simp [*]; done)), H', ⟨by first | omega | exact Nat.le_refl _⟩, ⟨by repeat (first | (with_reducible first | exact HB.out | apply below_alloc | apply pw_below_drewN | apply below_drew1) | exact HB.out)⟩⟩
  case rest =>
    clear HC4
    try clear p2
    try clear c5
    try clear c6
    try clear c7
    obtain ⟨kq, x20_3, rfl, HA, HJ3, HB⟩ := hcut
    cases kq with
    | zero => exact absurd HA.out (by simp [spec_l04Index.j0])
    | succ kj3 =>
      have H := HA.out
      clear HA
      simp only [spec_l04Index.j0] at H
      by_cases c8 : x20_3 = true
      · subst c8
        have H1 : (some (0, (([] : List Int)), 2)) = some (r1, r2, r3) := by rw [if_pos rfl] at H; exact H
        clear H
        have H := H1
        clear H1
        obtain ⟨y117, hy117⟩ : ∃ y_ : List Int, y_ = (([] : List Int)) := ⟨_, rfl⟩
        replace H : (some (0, y117, 2)) = some (r1, r2, r3) := by first | (rw [hy117]; with_reducible exact H) | (have H2_ := (Option.bind_some _ _).symm.trans H; rw [hy117]; with_reducible exact H2_) | (have H2_ := (Option.bind_some _ _).symm.trans H; with_reducible exact H2_) | with_reducible exact H | (rw [hy117]; exact H) | exact H
        have Ny117 := Aside0.mk hy117
        clear hy117
        simp only [Option.some.injEq, Prod.mk.injEq] at H
        obtain ⟨rfl, rfl, rfl⟩ := H
        go_wp2_with (first | ((with_reducible refine gate_dst (N := 21) rfl ?_); (try (refine gate_guard (by rfl) ?_; dsimp only)); refine Kd.R_lit (Kd.int .i64) _ 2 ?hg (N := 21) ?hd (xs := ([] : List Int)) (inner := []) (ok := fun _ => True) (okp := fun _ => True) ?hr ?hp (fun _ hk => hk) trivial (Below.refl _ _) (Nat.le_refl _) (by simp) ?_; (case hd => rfl); (case hg => rfl); (case hr => first | (go_simp; done) | (go_simp; rfl)); (case hp => exact (Reps.none _ _)); intro v118 w9 ho10 hb hg_ hnew_; clear hg_ hnew_; (first | rw [← Ny117.out] at ho10 | (simp only [Int.reduceToNat] at ho10; rw [← Ny117.out] at ho10)); have n0_ := Aside0.mk (Kd.R_lower ho10 (below_size (by repeat (first | (with_reducible first | exact HB.out | apply below_alloc | apply pw_below_drewN | apply below_drew1) | exact HB.out)))); have n1_ := Aside0.mk (below_step (by repeat (first | (with_reducible first | exact HB.out | apply below_alloc | apply pw_below_drewN | apply below_drew1) | exact HB.out)) hb); clear HB; have HO119 := n0_; have HB := n1_; clear n0_ n1_; clear hb ho10))
        go_ret3
        exact ⟨_, by first | rfl | (simp [errW_none, errW_some] <;> rfl) | (simp [*, errW_none, errW_some] <;> rfl), by (with_reducible repeat (first | apply Kd.R_alloc | apply Kd.R_drewN | apply Kd.R_drew)); exact HO119.out, by repeat (first | (with_reducible first | exact HB.out | apply below_alloc | apply pw_below_drewN | apply below_drew1) | exact HB.out)⟩
      · replace c8 := Bool.eq_false_iff.mpr c8
        subst c8
        have H1 : ((spec_l04Period.f kj3 a0).bind fun bt120 => (if bt120.2.2 = 0 then (if (bt120.2.1.length : Int) = 0 then (if a1 > 0 then (some (bt120.1, bt120.2.1, 6)) else (some (bt120.1, bt120.2.1, bt120.2.2))) else (some (bt120.1, bt120.2.1, bt120.2.2))) else (some (bt120.1, bt120.2.1, bt120.2.2)))) = some (r1, r2, r3) := by rw [if_neg (show ¬ (false = true) by decide)] at H; exact H
        clear H
        have H := H1
        clear H1
        replace H := Option.bind_eq_some_iff.mp H
        obtain ⟨⟨t120, t121, t122⟩, A110, H⟩ := H
        replace H : (if t122 = 0 then (if (t121.length : Int) = 0 then (if a1 > 0 then (some (t120, t121, 6)) else (some (t120, t121, t122))) else (some (t120, t121, t122))) else (some (t120, t121, t122))) = some (r1, r2, r3) := H
        have A11 := Aside0.mk A110
        clear A110
        by_cases c12 : t122 = 0
        · rw [if_pos c12] at H
          have c12b0 : (t122 == 0) = true := beq_iff_eq.mpr c12
          have c12b1 : (t122 != 0) = false := bne_eq_false_iff_eq.mpr c12
          clear c12
          by_cases c13 : (t121.length : Int) = 0
          · rw [if_pos c13] at H
            have c13b0 : ((t121.length : Int) == 0) = true := beq_iff_eq.mpr c13
            have c13b1 : ((t121.length : Int) != 0) = false := bne_eq_false_iff_eq.mpr c13
            clear c13
            by_cases c14 : a1 > 0
            · rw [if_pos c14] at H
              have c14b0 : decide (0 < a1) = true := decide_eq_true c14
              clear c14
              simp only [Option.some.injEq, Prod.mk.injEq] at H
              obtain ⟨rfl, rfl, rfl⟩ := H
              go_wp2_with (first | ((with_reducible refine gate_callee (f := 77) rfl ?_); refine goesL_ (some 24) rfl rfl Try.func77 (by kernel_rfl) rfl #[.int .i64 a0] rfl (by (try simp only [List.map_toArray, List.map_cons, List.map_nil]); first | done | rfl | (simp only [List.length_drop, List.length_take]; rfl)) ?_; (with_reducible refine (spec_l04Period.calls kj3 a0 t120 t121 t122 _ A11.out).mono ?_); rintro e w15 ⟨v123, rfl, ho0, hb⟩; refine ⟨_, rfl, ?_⟩; have n0_ := Aside0.mk (Kd.R_lower ho0 (below_size (by repeat (first | (with_reducible first | exact HB.out | apply below_alloc | apply pw_below_drewN | apply below_drew1) | exact HB.out)))); have n1_ := Aside0.mk (below_step (by repeat (first | (with_reducible first | exact HB.out | apply below_alloc | apply pw_below_drewN | apply below_drew1) | exact HB.out)) hb); clear HB; have HO124 := n0_; have HB := n1_; clear n0_ n1_; (try clear hb); (try clear hb2); (try clear hk); (try clear hi); (try clear ho0); obtain ⟨Ao16, co16, eo16⟩ := Kd.R_slice HO124.out; subst eo16))
              go_ret3
              exact ⟨_, by first | rfl | (simp [errW_none, errW_some] <;> rfl) | (simp [*, errW_none, errW_some] <;> rfl), by (with_reducible repeat (first | apply Kd.R_alloc | apply Kd.R_drewN | apply Kd.R_drew)); exact HO124.out, by repeat (first | (with_reducible first | exact HB.out | apply below_alloc | apply pw_below_drewN | apply below_drew1) | exact HB.out)⟩
            · rw [if_neg c14] at H
              have c14b0 : decide (0 < a1) = false := decide_eq_false c14
              clear c14
              simp only [Option.some.injEq, Prod.mk.injEq] at H
              obtain ⟨rfl, rfl, rfl⟩ := H
              go_wp2_with (first | ((with_reducible refine gate_callee (f := 77) rfl ?_); refine goesL_ (some 24) rfl rfl Try.func77 (by kernel_rfl) rfl #[.int .i64 a0] rfl (by (try simp only [List.map_toArray, List.map_cons, List.map_nil]); first | done | rfl | (simp only [List.length_drop, List.length_take]; rfl)) ?_; (with_reducible refine (spec_l04Period.calls kj3 a0 t120 t121 t122 _ A11.out).mono ?_); rintro e w17 ⟨v123, rfl, ho0, hb⟩; refine ⟨_, rfl, ?_⟩; have n0_ := Aside0.mk (Kd.R_lower ho0 (below_size (by repeat (first | (with_reducible first | exact HB.out | apply below_alloc | apply pw_below_drewN | apply below_drew1) | exact HB.out)))); have n1_ := Aside0.mk (below_step (by repeat (first | (with_reducible first | exact HB.out | apply below_alloc | apply pw_below_drewN | apply below_drew1) | exact HB.out)) hb); clear HB; have HO124 := n0_; have HB := n1_; clear n0_ n1_; (try clear hb); (try clear hb2); (try clear hk); (try clear hi); (try clear ho0); obtain ⟨Ao18, co18, eo18⟩ := Kd.R_slice HO124.out; subst eo18))
              go_ret3
              exact ⟨_, by first | rfl | (simp [errW_none, errW_some] <;> rfl) | (simp [*, errW_none, errW_some] <;> rfl), by (with_reducible repeat (first | apply Kd.R_alloc | apply Kd.R_drewN | apply Kd.R_drew)); exact HO124.out, by repeat (first | (with_reducible first | exact HB.out | apply below_alloc | apply pw_below_drewN | apply below_drew1) | exact HB.out)⟩
          · rw [if_neg c13] at H
            have c13b0 : ((t121.length : Int) == 0) = false := beq_eq_false_iff_ne.mpr c13
            have c13b1 : ((t121.length : Int) != 0) = true := bne_iff_ne.mpr c13
            have c13b2 : ¬ (t121 = []) := fun h_ => c13 (by rw [h_]; rfl)
            simp only [Option.some.injEq, Prod.mk.injEq] at H
            obtain ⟨rfl, rfl, rfl⟩ := H
            go_wp2_with (first | ((with_reducible refine gate_callee (f := 77) rfl ?_); refine goesL_ (some 24) rfl rfl Try.func77 (by kernel_rfl) rfl #[.int .i64 a0] rfl (by (try simp only [List.map_toArray, List.map_cons, List.map_nil]); first | done | rfl | (simp only [List.length_drop, List.length_take]; rfl)) ?_; (with_reducible refine (spec_l04Period.calls kj3 a0 t120 t121 t122 _ A11.out).mono ?_); rintro e w19 ⟨v123, rfl, ho0, hb⟩; refine ⟨_, rfl, ?_⟩; have n0_ := Aside0.mk (Kd.R_lower ho0 (below_size (by repeat (first | (with_reducible first | exact HB.out | apply below_alloc | apply pw_below_drewN | apply below_drew1) | exact HB.out)))); have n1_ := Aside0.mk (below_step (by repeat (first | (with_reducible first | exact HB.out | apply below_alloc | apply pw_below_drewN | apply below_drew1) | exact HB.out)) hb); clear HB; have HO124 := n0_; have HB := n1_; clear n0_ n1_; (try clear hb); (try clear hb2); (try clear hk); (try clear hi); (try clear ho0); obtain ⟨Ao20, co20, eo20⟩ := Kd.R_slice HO124.out; subst eo20))
            go_ret3
            exact ⟨_, by first | rfl | (simp [errW_none, errW_some] <;> rfl) | (simp [*, errW_none, errW_some] <;> rfl), by (with_reducible repeat (first | apply Kd.R_alloc | apply Kd.R_drewN | apply Kd.R_drew)); exact HO124.out, by repeat (first | (with_reducible first | exact HB.out | apply below_alloc | apply pw_below_drewN | apply below_drew1) | exact HB.out)⟩
        · rw [if_neg c12] at H
          have c12b0 : (t122 == 0) = false := beq_eq_false_iff_ne.mpr c12
          have c12b1 : (t122 != 0) = true := bne_iff_ne.mpr c12
          simp only [Option.some.injEq, Prod.mk.injEq] at H
          obtain ⟨rfl, rfl, rfl⟩ := H
          go_wp2_with (first | ((with_reducible refine gate_callee (f := 77) rfl ?_); refine goesL_ (some 24) rfl rfl Try.func77 (by kernel_rfl) rfl #[.int .i64 a0] rfl (by (try simp only [List.map_toArray, List.map_cons, List.map_nil]); first | done | rfl | (simp only [List.length_drop, List.length_take]; rfl)) ?_; (with_reducible refine (spec_l04Period.calls kj3 a0 t120 t121 t122 _ A11.out).mono ?_); rintro e w21 ⟨v123, rfl, ho0, hb⟩; refine ⟨_, rfl, ?_⟩; have n0_ := Aside0.mk (Kd.R_lower ho0 (below_size (by repeat (first | (with_reducible first | exact HB.out | apply below_alloc | apply pw_below_drewN | apply below_drew1) | exact HB.out)))); have n1_ := Aside0.mk (below_step (by repeat (first | (with_reducible first | exact HB.out | apply below_alloc | apply pw_below_drewN | apply below_drew1) | exact HB.out)) hb); clear HB; have HO124 := n0_; have HB := n1_; clear n0_ n1_; (try clear hb); (try clear hb2); (try clear hk); (try clear hi); (try clear ho0)))
          go_ret3
          exact ⟨_, by first | rfl | (simp [errW_none, errW_some] <;> rfl) | (simp [*, errW_none, errW_some] <;> rfl), by (with_reducible repeat (first | apply Kd.R_alloc | apply Kd.R_drewN | apply Kd.R_drew)); exact HO124.out, by repeat (first | (with_reducible first | exact HB.out | apply below_alloc | apply pw_below_drewN | apply below_drew1) | exact HB.out)⟩

/-! ### spec_l04RootAt: function 51 -/
def spec_l04RootAt.f (a0 : Int) (l1 : List Int) (a2 : Int) : Option (Int) := if a2 = 0 then (some a0) else (if (l1.length : Int) = 0 then (none) else (if 0 ≤ (Int.tmod (wrap64 (a2 - 1)) (l1.length : Int)) then (if (Int.tmod (wrap64 (a2 - 1)) (l1.length : Int)) < (l1.length : Int) then (some (rd l1 (Int.tmod (wrap64 (a2 - 1)) (l1.length : Int)))) else (none)) else (none)))
set_option maxHeartbeats 8000000 in
set_option maxRecDepth 100000 in
theorem spec_l04RootAt.calls (a0 : Int) (A1 : Option Addr) (c1 : Nat) (l1 : List Int) (a2 : Int) (r : Int) (w : World) (hr1 : Kd.C (Kd.int .i64) w A1 l1.length l1) (hc1 : l1.length ≤ c1) (h : spec_l04RootAt.f a0 l1 a2 = some r) :
    Calls Try.prog 51 #[.int .i64 a0, .slice A1 l1.length c1, .int .i64 a2] w fun e w' => e = .returned (.int .i64 r) ∧ Drawn0 w w' := by
  have HR1 := Aside0.mk hr1
  have HC1 := Aside0.mk hc1
  clear hr1 hc1
  have H : (if a2 = 0 then (some a0) else (if (l1.length : Int) = 0 then (none) else (if 0 ≤ (Int.tmod (wrap64 (a2 - 1)) (l1.length : Int)) then (if (Int.tmod (wrap64 (a2 - 1)) (l1.length : Int)) < (l1.length : Int) then (some (rd l1 (Int.tmod (wrap64 (a2 - 1)) (l1.length : Int)))) else (none)) else (none)))) = some r := h
  clear h
  by_cases c4 : a2 = 0
  · rw [if_pos c4] at H
    have c4b0 : (a2 == 0) = true := beq_iff_eq.mpr c4
    have c4b1 : (a2 != 0) = false := bne_eq_false_iff_eq.mpr c4
    clear c4
    obtain rfl := Option.some.inj H
    go_enter Try.func51, Try.ntmps51
    go_wp2
    go_ret
    exact ⟨by first | rfl | (simp; done) | (simp [*]; done), by repeat (first | exact Drawn0.refl _ | apply Drawn0.step)⟩
  · rw [if_neg c4] at H
    have c4b0 : (a2 == 0) = false := beq_eq_false_iff_ne.mpr c4
    have c4b1 : (a2 != 0) = true := bne_iff_ne.mpr c4
    by_cases c5 : (l1.length : Int) = 0
    · rw [if_pos c5] at H
      exact absurd H (by simp)
    · rw [if_neg c5] at H
      have c5b0 : ((l1.length : Int) == 0) = false := beq_eq_false_iff_ne.mpr c5
      have c5b1 : ((l1.length : Int) != 0) = true := bne_iff_ne.mpr c5
      have c5b2 : ¬ (l1 = []) := fun h_ => c5 (by rw [h_]; rfl)
      obtain ⟨ji6, hji6⟩ : ∃ j_ : Int, (Int.tmod (wrap64 (a2 - 1)) (l1.length : Int)) = j_ := ⟨_, rfl⟩
      replace H : (if 0 ≤ (ji6) then (if (ji6) < (l1.length : Int) then (some (rd l1 (ji6))) else (none)) else (none)) = some r := by first | (rw [hji6] at H; exact H) | (simp only [hji6] at H ⊢; exact H)
      by_cases c7 : 0 ≤ (ji6)
      · rw [if_pos c7] at H
        have c7b0 : decide (0 ≤ (ji6)) = true := decide_eq_true c7
        clear c7
        by_cases c8 : (ji6) < (l1.length : Int)
        · rw [if_pos c8] at H
          have c8b0 : decide ((ji6) < (l1.length : Int)) = true := decide_eq_true c8
          clear c8
          obtain rfl := Option.some.inj H
          have p125 : 0 ≤ ((ji6) : Int) := of_decide_eq_true (by first | (with_reducible assumption) | assumption)
          have q125 : (ji6) < (l1.length : Int) := of_decide_eq_true (by first | (with_reducible assumption) | assumption)
          obtain ⟨ad125, e125, hx125_0⟩ := Kd.at_int HR1.out (ji6) p125 q125
          cases e125
          replace p125 := eq_true p125
          replace q125 := eq_true q125
          go_enter Try.func51, Try.ntmps51
          go_wp2
          go_ret
          exact ⟨by first | rfl | (simp; done) | (simp only [← hji6] <;> (first | rfl | simp)) | (simp [*]; done), by repeat (first | exact Drawn0.refl _ | apply Drawn0.step)⟩
        · rw [if_neg c8] at H
          exact absurd H (by simp)
      · rw [if_neg c7] at H
        exact absurd H (by simp)

/-! ### spec_RootTermAt: function 17 -/
def spec_RootTermAt.f (k : Nat) (a0 : Int) (a1 : Int) : Option (Int × Int) := (spec_l04Index.f k a0 a1 1000000000).bind fun bt126 => (if bt126.2.2 = 0 then ((spec_l04RootAt.f bt126.1 bt126.2.1 a1).bind fun t131 => (some (t131, 0))) else (some (0, bt126.2.2)))
theorem spec_RootTermAt.mono : ∀ a0 a1 k, LeO (spec_RootTermAt.f k a0 a1) (spec_RootTermAt.f (k + 1) a0 a1) := by
  intro a0 a1 k
  unfold spec_RootTermAt.f
  repeat' first
      | (with_reducible exact spec_l04Index.mono _ _ _ _)
      | (with_reducible exact LeO.refl _)
      | (with_reducible exact LeO.none _)
      | (with_reducible refine LeO.ite ?_ ?_)
      | (with_reducible refine LeO.bind ?_ (fun _ => ?_))
      | exact spec_l04Index.mono _ _ _ _
      | exact LeO.none _
      | refine LeO.ite ?_ ?_
      | refine LeO.bind ?_ (fun _ => ?_)
set_option maxHeartbeats 8000000 in
set_option maxRecDepth 100000 in
theorem spec_RootTermAt.calls (k : Nat) (a0 : Int) (a1 : Int) (r1 : Int) (r2 : Int) (w : World) (h : spec_RootTermAt.f k a0 a1 = some (r1, r2)) :
    Calls Try.prog 17 #[.int .i64 a0, .int .i64 a1] w fun e w' => e = .returned (.tuple #[.int .i64 r1, .int .i64 r2]) ∧ Below w.heap.size w w' := by
  have HB := Aside0.mk (Below.refl w.heap.size w)
  have H : ((spec_l04Index.f k a0 a1 1000000000).bind fun bt126 => (if bt126.2.2 = 0 then ((spec_l04RootAt.f bt126.1 bt126.2.1 a1).bind fun t131 => (some (t131, 0))) else (some (0, bt126.2.2)))) = some (r1, r2) := h
  clear h
  replace H := Option.bind_eq_some_iff.mp H
  obtain ⟨⟨t126, t127, t128⟩, A30, H⟩ := H
  replace H : (if t128 = 0 then ((spec_l04RootAt.f t126 t127 a1).bind fun t131 => (some (t131, 0))) else (some (0, t128))) = some (r1, r2) := H
  have A3 := Aside0.mk A30
  clear A30
  by_cases c4 : t128 = 0
  · rw [if_pos c4] at H
    have c4b0 : (t128 == 0) = true := beq_iff_eq.mpr c4
    have c4b1 : (t128 != 0) = false := bne_eq_false_iff_eq.mpr c4
    clear c4
    replace H := Option.bind_eq_some_iff.mp H
    obtain ⟨t131, A50, H⟩ := H
    replace H : (some (t131, 0)) = some (r1, r2) := H
    have A5 := Aside0.mk A50
    clear A50
    simp only [Option.some.injEq, Prod.mk.injEq] at H
    obtain ⟨rfl, rfl⟩ := H
    go_enter Try.func17, Try.ntmps17
    go_wp2_with (first | ((with_reducible refine gate_callee (f := 50) rfl ?_); refine goesL_ (some 12) rfl rfl Try.func50 (by kernel_rfl) rfl #[.int .i64 a0, .int .i64 a1, .int .i64 1000000000] rfl (by (try simp only [List.map_toArray, List.map_cons, List.map_nil]); first | done | rfl | (simp only [List.length_drop, List.length_take]; rfl)) ?_; (with_reducible refine (spec_l04Index.calls k a0 a1 1000000000 t126 t127 t128 _ A3.out).mono ?_); rintro e w6 ⟨v129, rfl, ho0, hb⟩; refine ⟨_, rfl, ?_⟩; have n0_ := Aside0.mk (Kd.R_lower ho0 (below_size (by repeat (first | (with_reducible first | exact HB.out | apply below_alloc | apply pw_below_drewN | apply below_drew1) | exact HB.out)))); have n1_ := Aside0.mk (below_step (by repeat (first | (with_reducible first | exact HB.out | apply below_alloc | apply pw_below_drewN | apply below_drew1) | exact HB.out)) hb); clear HB; have HO130 := n0_; have HB := n1_; clear n0_ n1_; (try clear hb); (try clear hb2); (try clear hk); (try clear hi); (try clear ho0); obtain ⟨Ao7, co7, eo7⟩ := Kd.R_slice HO130.out; subst eo7) | ((with_reducible refine gate_callee (f := 51) rfl ?_); refine goesL_ (some 22) rfl rfl Try.func51 (by kernel_rfl) rfl #[.int .i64 t126, .slice Ao7 t127.length co7, .int .i64 a1] rfl (by (try simp only [List.map_toArray, List.map_cons, List.map_nil]); first | done | rfl | (simp only [List.length_drop, List.length_take]; rfl)) ?_; (with_reducible refine (spec_l04RootAt.calls t126 _ _ t127 a1 t131 _ ?side1 ?side2 A5.out).mono ?_); (case side1 => repeat (first | exact (Kd.R_reads' HO130.out).2.2 | (with_reducible refine Kd.C_alloc ?_ _) | (with_reducible refine Kd.C_drewN ?_ _) | (with_reducible refine Kd.C_drew ?_))); (case side2 => exact (Kd.R_reads' HO130.out).2.1); rintro e w' ⟨rfl, ⟨nd, rfl⟩⟩; refine ⟨_, rfl, ?_⟩))
    go_ret2
    exact ⟨by first | rfl | (simp [errW_none, errW_some] <;> rfl) | (simp [*, errW_none, errW_some] <;> rfl), by repeat (first | (with_reducible first | exact HB.out | apply below_alloc | apply pw_below_drewN | apply below_drew1) | exact HB.out)⟩
  · rw [if_neg c4] at H
    have c4b0 : (t128 == 0) = false := beq_eq_false_iff_ne.mpr c4
    have c4b1 : (t128 != 0) = true := bne_iff_ne.mpr c4
    simp only [Option.some.injEq, Prod.mk.injEq] at H
    obtain ⟨rfl, rfl⟩ := H
    go_enter Try.func17, Try.ntmps17
    go_wp2_with (first | ((with_reducible refine gate_callee (f := 50) rfl ?_); refine goesL_ (some 12) rfl rfl Try.func50 (by kernel_rfl) rfl #[.int .i64 a0, .int .i64 a1, .int .i64 1000000000] rfl (by (try simp only [List.map_toArray, List.map_cons, List.map_nil]); first | done | rfl | (simp only [List.length_drop, List.length_take]; rfl)) ?_; (with_reducible refine (spec_l04Index.calls k a0 a1 1000000000 t126 t127 t128 _ A3.out).mono ?_); rintro e w8 ⟨v129, rfl, ho0, hb⟩; refine ⟨_, rfl, ?_⟩; have n0_ := Aside0.mk (Kd.R_lower ho0 (below_size (by repeat (first | (with_reducible first | exact HB.out | apply below_alloc | apply pw_below_drewN | apply below_drew1) | exact HB.out)))); have n1_ := Aside0.mk (below_step (by repeat (first | (with_reducible first | exact HB.out | apply below_alloc | apply pw_below_drewN | apply below_drew1) | exact HB.out)) hb); clear HB; have HO130 := n0_; have HB := n1_; clear n0_ n1_; (try clear hb); (try clear hb2); (try clear hk); (try clear hi); (try clear ho0)))
    go_ret2
    exact ⟨by first | rfl | (simp [errW_none, errW_some] <;> rfl) | (simp [*, errW_none, errW_some] <;> rfl), by repeat (first | (with_reducible first | exact HB.out | apply below_alloc | apply pw_below_drewN | apply below_drew1) | exact HB.out)⟩

/-! ### impl_within: function 61 -/
def impl_within.f (a0 : Int) (a1 : Int) (a2 : Int) : Option (Bool) := if a0 ≥ a1 then (some (decide (a0 ≤ a2))) else (some false)
set_option maxHeartbeats 8000000 in
set_option maxRecDepth 100000 in
theorem impl_within.calls (a0 : Int) (a1 : Int) (a2 : Int) (r : Bool) (w : World) (h : impl_within.f a0 a1 a2 = some r) :
    Calls Try.prog 61 #[.int .i64 a0, .int .i64 a1, .int .i64 a2] w fun e w' => e = .returned (.bool r) ∧ Drawn0 w w' := by
  have H : (if a0 ≥ a1 then (some (decide (a0 ≤ a2))) else (some false)) = some r := h
  clear h
  by_cases c4 : a0 ≥ a1
  · rw [if_pos c4] at H
    have c4b0 : decide (a1 ≤ a0) = true := decide_eq_true c4
    clear c4
    obtain rfl := Option.some.inj H
    go_enter Try.func61, Try.ntmps61
    go_wp2
    go_ret
    exact ⟨by first | rfl | (simp; done) | (simp [*]; done), by repeat (first | exact Drawn0.refl _ | apply Drawn0.step)⟩
  · rw [if_neg c4] at H
    have c4b0 : decide (a1 ≤ a0) = false := decide_eq_false c4
    clear c4
    obtain rfl := Option.some.inj H
    go_enter Try.func61, Try.ntmps61
    go_wp2
    go_ret
    exact ⟨by first | rfl | (simp; done) | (simp [*]; done), by repeat (first | exact Drawn0.refl _ | apply Drawn0.step)⟩

/-! ### impl_squareRoot: function 95 -/
def impl_squareRoot.l0 : Nat → Int → Int → Option (Int)
  | 0, _, _ => none
  | k + 1, x0, x3 => if (wrap64 ((wrap64 (x3 + 1)) * (wrap64 (x3 + 1)))) ≤ x0 then (impl_squareRoot.l0 k x0 (wrap64 (x3 + 1))) else (some x3)
def impl_squareRoot.f (k : Nat) (a0 : Int) : Option (Int) := impl_squareRoot.l0 k a0 0
theorem impl_squareRoot.mono_l : ∀ k, (∀ y0 y1, LeO (impl_squareRoot.l0 k y0 y1) (impl_squareRoot.l0 (k + 1) y0 y1))
  | 0 => fun _ _ r h => by simp [impl_squareRoot.l0] at h
  | k + 1 => by
    have ih0 := impl_squareRoot.mono_l k
    · intro y0 y1
      unfold impl_squareRoot.l0
      repeat' first
      | (with_reducible exact ih0 _ _)
      | (with_reducible exact LeO.refl _)
      | (with_reducible exact LeO.none _)
      | (with_reducible refine LeO.ite ?_ ?_)
      | (with_reducible refine LeO.bind ?_ (fun _ => ?_))
      | exact ih0 _ _
      | exact LeO.none _
      | refine LeO.ite ?_ ?_
      | refine LeO.bind ?_ (fun _ => ?_)
theorem impl_squareRoot.mono : ∀ a0 k, LeO (impl_squareRoot.f k a0) (impl_squareRoot.f (k + 1) a0) := by
  intro a0 k
  have ih0 := impl_squareRoot.mono_l k
  unfold impl_squareRoot.f
  repeat' first
      | (with_reducible exact ih0 _ _)
      | (with_reducible exact LeO.refl _)
      | (with_reducible exact LeO.none _)
      | (with_reducible refine LeO.ite ?_ ?_)
      | (with_reducible refine LeO.bind ?_ (fun _ => ?_))
      | exact ih0 _ _
      | exact LeO.none _
      | refine LeO.ite ?_ ?_
      | refine LeO.bind ?_ (fun _ => ?_)
set_option maxHeartbeats 8000000 in
set_option maxRecDepth 100000 in
theorem impl_squareRoot.calls (k : Nat) (a0 : Int) (r : Int) (w : World) (h : impl_squareRoot.f k a0 = some r) :
    Calls Try.prog 95 #[.int .i64 a0] w fun e w' => e = .returned (.int .i64 r) ∧ Drawn0 w w' := by
  have H : (impl_squareRoot.l0 k a0 0) = some r := h
  clear h
  have H' := Aside0.mk H
  clear H
  go_enter Try.func95, Try.ntmps95
  go_wp2
  go_loopg [3] k (fun kq v3 w' => ∃ (x3_1 : Int), v3 = .int .i64 x3_1 ∧ Aside0 (impl_squareRoot.l0 kq a0 x3_1 = some r) ∧ Aside0 (kq ≤ k) ∧ Drawn0 w w')
  case atStart => exact ⟨(0), (by first | rfl | (simp; done) | (simp [*]; done)), H', ⟨Nat.le_refl _⟩, by repeat (first | exact Drawn0.refl _ | apply Drawn0.step)⟩
  case round =>
    clear H'
    obtain ⟨x3_1, rfl, HA, HK1, ⟨m1, rfl⟩⟩ := hrel
    cases gk with
    | zero => exact absurd HA.out (by simp [impl_squareRoot.l0])
    | succ k1 =>
      have H := HA.out
      clear HA
      simp only [impl_squareRoot.l0] at H
      by_cases c2 : (wrap64 ((wrap64 (x3_1 + 1)) * (wrap64 (x3_1 + 1)))) ≤ a0
      · rw [if_pos c2] at H
        have c2b0 : decide ((wrap64 ((wrap64 (x3_1 + 1)) * (wrap64 (x3_1 + 1)))) ≤ a0) = true := decide_eq_true c2
        clear c2
        have H' := Aside0.mk H
        clear H
        go_wp2
        go_roundg k1
        case measure => have := HK1.out; omega
        case rel => exact ⟨(wrap64 (x3_1 + 1)), (by first | rfl | (simp; done) | (simp [*]; done)), H', ⟨by have := HK1.out; omega⟩, by repeat (first | exact Drawn0.refl _ | apply Drawn0.step)⟩
      · rw [if_neg c2] at H
        have c2b0 : decide ((wrap64 ((wrap64 (x3_1 + 1)) * (wrap64 (x3_1 + 1)))) ≤ a0) = false := decide_eq_false c2
        clear c2
        obtain rfl := Option.some.inj H
        go_wp2
        go_ret
        exact ⟨by first | rfl | (simp; done) | (simp [*]; done), by repeat (first | exact Drawn0.refl _ | apply Drawn0.step)⟩

/-! ### impl_RootTerms: function 78 -/
def impl_RootTerms.l0 : Nat → Int → Int → List Int → Int → Int → Int → Option (Int × List Int × Int)
  | 0, _, _, _, _, _, _ => none
  | k + 1, x0, x5, x6, x7, x8, x9 => if x9 = (wrap64 (2 * x5)) then (some (x5, x6, 0)) else (if x8 = 0 then (none) else (if (wrap64 (Int.tdiv (wrap64 (x0 - (wrap64 ((wrap64 ((wrap64 (x8 * x9)) - x7)) * (wrap64 ((wrap64 (x8 * x9)) - x7)))))) x8)) = 0 then (none) else (if (x6.length : Int) = 3000 then (some (0, ([] : List Int), 3)) else (if x6.length < 17592186044416 then (impl_RootTerms.l0 k x0 x5 (x6 ++ [wrap64 (Int.tdiv (wrap64 (x5 + (wrap64 ((wrap64 (x8 * x9)) - x7)))) (wrap64 (Int.tdiv (wrap64 (x0 - (wrap64 ((wrap64 ((wrap64 (x8 * x9)) - x7)) * (wrap64 ((wrap64 (x8 * x9)) - x7)))))) x8)))]) (wrap64 ((wrap64 (x8 * x9)) - x7)) (wrap64 (Int.tdiv (wrap64 (x0 - (wrap64 ((wrap64 ((wrap64 (x8 * x9)) - x7)) * (wrap64 ((wrap64 (x8 * x9)) - x7)))))) x8)) (wrap64 (Int.tdiv (wrap64 (x5 + (wrap64 ((wrap64 (x8 * x9)) - x7)))) (wrap64 (Int.tdiv (wrap64 (x0 - (wrap64 ((wrap64 ((wrap64 (x8 * x9)) - x7)) * (wrap64 ((wrap64 (x8 * x9)) - x7)))))) x8))))) else (none)))))
def impl_RootTerms.f (k : Nat) (a0 : Int) : Option (Int × List Int × Int) := (impl_within.f a0 0 1000000).bind fun t132 => (if t132 = true then ((impl_squareRoot.f k a0).bind fun t133 => (if (wrap64 (t133 * t133)) = a0 then (some (t133, ([] : List Int), 0)) else (impl_RootTerms.l0 k a0 t133 (([] : List Int)) 0 1 t133))) else (some (0, ([] : List Int), 2)))
theorem impl_RootTerms.mono_l : ∀ k, (∀ y0 y1 y2 y3 y4 y5, LeO (impl_RootTerms.l0 k y0 y1 y2 y3 y4 y5) (impl_RootTerms.l0 (k + 1) y0 y1 y2 y3 y4 y5))
  | 0 => fun _ _ _ _ _ _ r h => by simp [impl_RootTerms.l0] at h
  | k + 1 => by
    have ih0 := impl_RootTerms.mono_l k
    · intro y0 y1 y2 y3 y4 y5
      unfold impl_RootTerms.l0
      repeat' first
      | (with_reducible exact ih0 _ _ _ _ _ _)
      | (with_reducible exact impl_squareRoot.mono _ _)
      | (with_reducible exact LeO.refl _)
      | (with_reducible exact LeO.none _)
      | (with_reducible refine LeO.ite ?_ ?_)
      | (with_reducible refine LeO.bind ?_ (fun _ => ?_))
      | exact ih0 _ _ _ _ _ _
      | exact impl_squareRoot.mono _ _
      | exact LeO.none _
      | refine LeO.ite ?_ ?_
      | refine LeO.bind ?_ (fun _ => ?_)
theorem impl_RootTerms.mono : ∀ a0 k, LeO (impl_RootTerms.f k a0) (impl_RootTerms.f (k + 1) a0) := by
  intro a0 k
  have ih0 := impl_RootTerms.mono_l k
  unfold impl_RootTerms.f
  repeat' first
      | (with_reducible exact ih0 _ _ _ _ _ _)
      | (with_reducible exact impl_squareRoot.mono _ _)
      | (with_reducible exact LeO.refl _)
      | (with_reducible exact LeO.none _)
      | (with_reducible refine LeO.ite ?_ ?_)
      | (with_reducible refine LeO.bind ?_ (fun _ => ?_))
      | exact ih0 _ _ _ _ _ _
      | exact impl_squareRoot.mono _ _
      | exact LeO.none _
      | refine LeO.ite ?_ ?_
      | refine LeO.bind ?_ (fun _ => ?_)
set_option maxHeartbeats 8000000 in
set_option maxRecDepth 100000 in
theorem impl_RootTerms.calls (k : Nat) (a0 : Int) (r1 : Int) (r2 : List Int) (r3 : Int) (w : World) (h : impl_RootTerms.f k a0 = some (r1, r2, r3)) :
    Calls Try.prog 78 #[.int .i64 a0] w fun e w' => ∃ v1_ : Value, e = .returned (.tuple #[.int .i64 r1, v1_, .int .i64 r3]) ∧ Kd.R (Kd.int .i64) 2 w' w.heap.size (fun _ => True) v1_ r2 ∧ Below w.heap.size w w' := by
  have HB := Aside0.mk (Below.refl w.heap.size w)
  have H : ((impl_within.f a0 0 1000000).bind fun t132 => (if t132 = true then ((impl_squareRoot.f k a0).bind fun t133 => (if (wrap64 (t133 * t133)) = a0 then (some (t133, ([] : List Int), 0)) else (impl_RootTerms.l0 k a0 t133 (([] : List Int)) 0 1 t133))) else (some (0, ([] : List Int), 2)))) = some (r1, r2, r3) := h
  clear h
  replace H := Option.bind_eq_some_iff.mp H
  obtain ⟨t132, A20, H⟩ := H
  replace H : (if t132 = true then ((impl_squareRoot.f k a0).bind fun t133 => (if (wrap64 (t133 * t133)) = a0 then (some (t133, ([] : List Int), 0)) else (impl_RootTerms.l0 k a0 t133 (([] : List Int)) 0 1 t133))) else (some (0, ([] : List Int), 2))) = some (r1, r2, r3) := H
  have A2 := Aside0.mk A20
  clear A20
  by_cases c3 : t132 = true
  · subst c3
    have H1 : ((impl_squareRoot.f k a0).bind fun t133 => (if (wrap64 (t133 * t133)) = a0 then (some (t133, ([] : List Int), 0)) else (impl_RootTerms.l0 k a0 t133 (([] : List Int)) 0 1 t133))) = some (r1, r2, r3) := by rw [if_pos rfl] at H; exact H
    clear H
    have H := H1
    clear H1
    replace H := Option.bind_eq_some_iff.mp H
    obtain ⟨t133, A40, H⟩ := H
    replace H : (if (wrap64 (t133 * t133)) = a0 then (some (t133, ([] : List Int), 0)) else (impl_RootTerms.l0 k a0 t133 (([] : List Int)) 0 1 t133)) = some (r1, r2, r3) := H
    have A4 := Aside0.mk A40
    clear A40
    by_cases c5 : (wrap64 (t133 * t133)) = a0
    · rw [if_pos c5] at H
      have c5b0 : ((wrap64 (t133 * t133)) == a0) = true := beq_iff_eq.mpr c5
      have c5b1 : ((wrap64 (t133 * t133)) != a0) = false := bne_eq_false_iff_eq.mpr c5
      clear c5
      simp only [Option.some.injEq, Prod.mk.injEq] at H
      obtain ⟨rfl, rfl, rfl⟩ := H
      go_enter Try.func78, Try.ntmps78
      go_wp2_with (first | ((with_reducible refine gate_callee (f := 61) rfl ?_); refine goesL_ (some 11) rfl rfl Try.func61 (by kernel_rfl) rfl #[.int .i64 a0, .int .i64 0, .int .i64 1000000] rfl (by (try simp only [List.map_toArray, List.map_cons, List.map_nil]); first | done | rfl | (simp only [List.length_drop, List.length_take]; rfl)) ?_; (with_reducible refine (impl_within.calls a0 0 1000000 true _ A2.out).mono ?_); rintro e w' ⟨rfl, ⟨nd, rfl⟩⟩; refine ⟨_, rfl, ?_⟩) | ((with_reducible refine gate_callee (f := 95) rfl ?_); refine goesL_ (some 14) rfl rfl Try.func95 (by kernel_rfl) rfl #[.int .i64 a0] rfl (by (try simp only [List.map_toArray, List.map_cons, List.map_nil]); first | done | rfl | (simp only [List.length_drop, List.length_take]; rfl)) ?_; (with_reducible refine (impl_squareRoot.calls k a0 t133 _ A4.out).mono ?_); rintro e w' ⟨rfl, ⟨nd, rfl⟩⟩; refine ⟨_, rfl, ?_⟩))
      go_ret3
      exact ⟨_, by first | rfl | (simp [errW_none, errW_some] <;> rfl) | (simp [*, errW_none, errW_some] <;> rfl), by first | exact Kd.R_nil _ _ _ _ _ | exact Kd.N_nil _ _ _ _ _ | exact Kd.V_nil _ _ _ _ _ | exact Kd.Q_nil _ _ _ _ _ | exact Kd.S_nil _ _ _ _ _, by repeat (first | (with_reducible first | exact HB.out | apply below_alloc | apply pw_below_drewN | apply below_drew1) | exact HB.out)⟩
    · rw [if_neg c5] at H
      have c5b0 : ((wrap64 (t133 * t133)) == a0) = false := beq_eq_false_iff_ne.mpr c5
      have c5b1 : ((wrap64 (t133 * t133)) != a0) = true := bne_iff_ne.mpr c5
      obtain ⟨y134, hy134⟩ : ∃ y_ : List Int, y_ = (([] : List Int)) := ⟨_, rfl⟩
      replace H : (impl_RootTerms.l0 k a0 t133 y134 0 1 t133) = some (r1, r2, r3) := by first | (rw [hy134]; with_reducible exact H) | (have H2_ := (Option.bind_some _ _).symm.trans H; rw [hy134]; with_reducible exact H2_) | (have H2_ := (Option.bind_some _ _).symm.trans H; with_reducible exact H2_) | with_reducible exact H | (rw [hy134]; exact H) | exact H
      have Ny134 := Aside0.mk hy134
      clear hy134
      have H' := Aside0.mk H
      clear H
      go_enter Try.func78, Try.ntmps78
      go_wp2_with (first | ((with_reducible refine gate_callee (f := 61) rfl ?_); refine goesL_ (some 11) rfl rfl Try.func61 (by kernel_rfl) rfl #[.int .i64 a0, .int .i64 0, .int .i64 1000000] rfl (by (try simp only [List.map_toArray, List.map_cons, List.map_nil]); first | done | rfl | (simp only [List.length_drop, List.length_take]; rfl)) ?_; (with_reducible refine (impl_within.calls a0 0 1000000 true _ A2.out).mono ?_); rintro e w' ⟨rfl, ⟨nd, rfl⟩⟩; refine ⟨_, rfl, ?_⟩) | ((with_reducible refine gate_callee (f := 95) rfl ?_); refine goesL_ (some 14) rfl rfl Try.func95 (by kernel_rfl) rfl #[.int .i64 a0] rfl (by (try simp only [List.map_toArray, List.map_cons, List.map_nil]); first | done | rfl | (simp only [List.length_drop, List.length_take]; rfl)) ?_; (with_reducible refine (impl_squareRoot.calls k a0 t133 _ A4.out).mono ?_); rintro e w' ⟨rfl, ⟨nd, rfl⟩⟩; refine ⟨_, rfl, ?_⟩) | ((with_reducible refine gate_dst (N := 21) rfl ?_); refine Kd.R_lit (Kd.int .i64) _ 2 ?hg (N := 21) ?hd (xs := ([] : List Int)) (inner := []) (ok := fun _ => True) (okp := fun _ => True) ?hr ?hp (fun _ hk => hk) trivial (Below.refl _ _) (Nat.le_refl _) (by simp) ?_; (case hd => rfl); (case hg => rfl); (case hr => first | (go_simp; done) | (go_simp; rfl)); (case hp => exact (Reps.none _ _)); intro v135 w6 ho7 hb hg_ hnew_; clear hg_ hnew_; (first | rw [← Ny134.out] at ho7 | (simp only [Int.reduceToNat] at ho7; rw [← Ny134.out] at ho7)); have n0_ := Aside0.mk (Kd.R_lower ho7 (below_size (by repeat (first | (with_reducible first | exact HB.out | apply below_alloc | apply pw_below_drewN | apply below_drew1) | exact HB.out)))); have n1_ := Aside0.mk (below_step (by repeat (first | (with_reducible first | exact HB.out | apply below_alloc | apply pw_below_drewN | apply below_drew1) | exact HB.out)) hb); clear HB; have HO136 := n0_; have HB := n1_; clear n0_ n1_; clear hb ho7))
      go_loopg [6, 7, 8, 9] k (fun kq v6 v7 v8 v9 w' => ∃ (x6_1 : List Int) (x7_1 : Int) (x8_1 : Int) (x9_1 : Int), v7 = .int .i64 x7_1 ∧ v8 = .int .i64 x8_1 ∧ v9 = .int .i64 x9_1 ∧ Aside0 (impl_RootTerms.l0 kq a0 t133 x6_1 x7_1 x8_1 x9_1 = some (r1, r2, r3)) ∧ Aside0 (kq ≤ k) ∧ Aside0 (Kd.R (Kd.int .i64) 2 w' w.heap.size (fun _ => True) v6 x6_1) ∧ Aside0 (Below w.heap.size w w'))
      case atStart => exact ⟨(y134), (0), (1), (t133), (by first | rfl | (simp; done) | (simp [*]; done)), (by first | rfl | (simp; done) | (simp [*]; done)), (by first | rfl | (simp; done) | (simp [*]; done)), H', ⟨Nat.le_refl _⟩, ⟨by (with_reducible repeat (first | apply Kd.R_alloc | apply Kd.R_drewN | apply Kd.R_drew)); exact HO136.out⟩, ⟨by repeat (first | (with_reducible first | exact HB.out | apply below_alloc | apply pw_below_drewN | apply below_drew1) | exact HB.out)⟩⟩
      case round =>
        clear H'
        try clear p2
        try clear c3
        try clear c5
        try clear c5b0
        try clear c5b1
        try clear c6
        try clear p6
        try clear c7
        obtain ⟨x6_1, x7_1, x8_1, x9_1, rfl, rfl, rfl, HA, HK1, HO_6, HB⟩ := hrel
        cases gk with
        | zero => exact absurd HA.out (by simp [impl_RootTerms.l0])
        | succ k1 =>
          have H := HA.out
          clear HA
          simp only [impl_RootTerms.l0] at H
          by_cases c8 : x9_1 = (wrap64 (2 * t133))
          · rw [if_pos c8] at H
            have c8b0 : (x9_1 == (wrap64 (2 * t133))) = true := beq_iff_eq.mpr c8
            have c8b1 : (x9_1 != (wrap64 (2 * t133))) = false := bne_eq_false_iff_eq.mpr c8
            clear c8
            simp only [Option.some.injEq, Prod.mk.injEq] at H
            obtain ⟨rfl, rfl, rfl⟩ := H
            go_wp2
            go_ret3
            exact ⟨_, by first | rfl | (simp [errW_none, errW_some] <;> rfl) | (simp [*, errW_none, errW_some] <;> rfl), by (with_reducible repeat (first | apply Kd.R_alloc | apply Kd.R_drewN | apply Kd.R_drew)); exact HO_6.out, by repeat (first | (with_reducible first | exact HB.out | apply below_alloc | apply pw_below_drewN | apply below_drew1) | exact HB.out)⟩
          · rw [if_neg c8] at H
            have c8b0 : (x9_1 == (wrap64 (2 * t133))) = false := beq_eq_false_iff_ne.mpr c8
            have c8b1 : (x9_1 != (wrap64 (2 * t133))) = true := bne_iff_ne.mpr c8
            by_cases c9 : x8_1 = 0
            · rw [if_pos c9] at H
              exact absurd H (by simp)
            · rw [if_neg c9] at H
              have c9b0 : (x8_1 == 0) = false := beq_eq_false_iff_ne.mpr c9
              have c9b1 : (x8_1 != 0) = true := bne_iff_ne.mpr c9
              by_cases c10 : (wrap64 (Int.tdiv (wrap64 (a0 - (wrap64 ((wrap64 ((wrap64 (x8_1 * x9_1)) - x7_1)) * (wrap64 ((wrap64 (x8_1 * x9_1)) - x7_1)))))) x8_1)) = 0
              · rw [if_pos c10] at H
                exact absurd H (by simp)
              · rw [if_neg c10] at H
                have c10b0 : ((wrap64 (Int.tdiv (wrap64 (a0 - (wrap64 ((wrap64 ((wrap64 (x8_1 * x9_1)) - x7_1)) * (wrap64 ((wrap64 (x8_1 * x9_1)) - x7_1)))))) x8_1)) == 0) = false := beq_eq_false_iff_ne.mpr c10
                have c10b1 : ((wrap64 (Int.tdiv (wrap64 (a0 - (wrap64 ((wrap64 ((wrap64 (x8_1 * x9_1)) - x7_1)) * (wrap64 ((wrap64 (x8_1 * x9_1)) - x7_1)))))) x8_1)) != 0) = true := bne_iff_ne.mpr c10
                by_cases c11 : (x6_1.length : Int) = 3000
                · rw [if_pos c11] at H
                  have c11b0 : ((x6_1.length : Int) == 3000) = true := beq_iff_eq.mpr c11
                  have c11b1 : ((x6_1.length : Int) != 3000) = false := bne_eq_false_iff_eq.mpr c11
                  clear c11
                  simp only [Option.some.injEq, Prod.mk.injEq] at H
                  obtain ⟨rfl, rfl, rfl⟩ := H
                  obtain ⟨Ao12, co12, eo12⟩ := Kd.R_slice HO_6.out
                  subst eo12
                  go_wp2
                  go_ret3
                  exact ⟨_, by first | rfl | (simp [errW_none, errW_some] <;> rfl) | (simp [*, errW_none, errW_some] <;> rfl), by first | exact Kd.R_nil _ _ _ _ _ | exact Kd.N_nil _ _ _ _ _ | exact Kd.V_nil _ _ _ _ _ | exact Kd.Q_nil _ _ _ _ _ | exact Kd.S_nil _ _ _ _ _, by repeat (first | (with_reducible first | exact HB.out | apply below_alloc | apply pw_below_drewN | apply below_drew1) | exact HB.out)⟩
                · rw [if_neg c11] at H
                  have c11b0 : ((x6_1.length : Int) == 3000) = false := beq_eq_false_iff_ne.mpr c11
                  have c11b1 : ((x6_1.length : Int) != 3000) = true := bne_iff_ne.mpr c11
                  by_cases c13 : x6_1.length < 17592186044416
                  · rw [if_pos c13] at H
                    have LMc13 := Aside0.mk c13
                    clear c13
                    obtain ⟨y137, hy137⟩ : ∃ y_ : List Int, y_ = (x6_1 ++ [wrap64 (Int.tdiv (wrap64 (t133 + (wrap64 ((wrap64 (x8_1 * x9_1)) - x7_1)))) (wrap64 (Int.tdiv (wrap64 (a0 - (wrap64 ((wrap64 ((wrap64 (x8_1 * x9_1)) - x7_1)) * (wrap64 ((wrap64 (x8_1 * x9_1)) - x7_1)))))) x8_1)))]) := ⟨_, rfl⟩
                    replace H : (impl_RootTerms.l0 k1 a0 t133 y137 (wrap64 ((wrap64 (x8_1 * x9_1)) - x7_1)) (wrap64 (Int.tdiv (wrap64 (a0 - (wrap64 ((wrap64 ((wrap64 (x8_1 * x9_1)) - x7_1)) * (wrap64 ((wrap64 (x8_1 * x9_1)) - x7_1)))))) x8_1)) (wrap64 (Int.tdiv (wrap64 (t133 + (wrap64 ((wrap64 (x8_1 * x9_1)) - x7_1)))) (wrap64 (Int.tdiv (wrap64 (a0 - (wrap64 ((wrap64 ((wrap64 (x8_1 * x9_1)) - x7_1)) * (wrap64 ((wrap64 (x8_1 * x9_1)) - x7_1)))))) x8_1))))) = some (r1, r2, r3) := by first | (rw [hy137]; with_reducible exact H) | (have H2_ := (Option.bind_some _ _).symm.trans H; rw [hy137]; with_reducible exact H2_) | (have H2_ := (Option.bind_some _ _).symm.trans H; with_reducible exact H2_) | with_reducible exact H | (rw [hy137]; exact H) | exact H
                    have Ny137 := Aside0.mk hy137
                    clear hy137
                    have H' := Aside0.mk H
                    clear H
                    obtain ⟨Ao14, co14, eo14⟩ := Kd.R_slice HO_6.out
                    subst eo14
                    go_wp2_with (first | ((with_reducible refine gate_builtin (b := .append) (xs := #[.tmp 47, .tmp 49]) rfl ?_); at_builtin; refine Kd.R_append (Kd.int .i64) (w0 := w) w.heap.size rfl (.tmp 47) (.tmp 49) 22 2 (.int .i64 0) 8 rfl Try.underlying22 info2 rfl (by decide) (by omega) (.slice Ao14 x6_1.length co14) x6_1 (wrap64 (Int.tdiv (wrap64 (t133 + (wrap64 ((wrap64 (x8_1 * x9_1)) - x7_1)))) (wrap64 (Int.tdiv (wrap64 (a0 - (wrap64 ((wrap64 ((wrap64 (x8_1 * x9_1)) - x7_1)) * (wrap64 ((wrap64 (x8_1 * x9_1)) - x7_1)))))) x8_1)))) [.int .i64 (wrap64 (Int.tdiv (wrap64 (t133 + (wrap64 ((wrap64 (x8_1 * x9_1)) - x7_1)))) (wrap64 (Int.tdiv (wrap64 (a0 - (wrap64 ((wrap64 ((wrap64 (x8_1 * x9_1)) - x7_1)) * (wrap64 ((wrap64 (x8_1 * x9_1)) - x7_1)))))) x8_1))))] (fun _ => True) (fun _ => False) rfl rfl ?aP (fun _ hk => hk.elim) ?aF ?aO ?aB ?aS ?aL ?_; (case aP => exact rfl); (case aB => exact (by repeat (first | (with_reducible first | exact HB.out | apply below_alloc | apply pw_below_drewN | apply below_drew1) | exact HB.out))); (case aF => exact (fun _ _ => trivial)); (case aO => exact (by (with_reducible repeat (first | apply Kd.R_alloc | apply Kd.R_drewN | apply Kd.R_drew)); exact HO_6.out)); (case aS => exact (below_size (by repeat (first | (with_reducible first | exact HB.out | apply below_alloc | apply pw_below_drewN | apply below_drew1) | exact HB.out)))); (case aL => have := LMc13.out; omega); intro v138 w15 ho hb hg hat; rw [← Ny137.out] at ho; have n0_ := Aside0.mk (hb); have n1_ := Aside0.mk (ho); clear HB; clear HO_6; have HB := n0_; have HO139 := n1_; clear n0_ n1_; clear ho hb hg hat))
                    go_roundg k1
                    case measure => have := HK1.out; omega
                    case rel => exact ⟨(y137), (wrap64 ((wrap64 (x8_1 * x9_1)) - x7_1)), (wrap64 (Int.tdiv (wrap64 (a0 - (wrap64 ((wrap64 ((wrap64 (x8_1 * x9_1)) - x7_1)) * (wrap64 ((wrap64 (x8_1 * x9_1)) - x7_1)))))) x8_1)), (wrap64 (Int.tdiv (wrap64 (t133 + (wrap64 ((wrap64 (x8_1 * x9_1)) - x7_1)))) (wrap64 (Int.tdiv (wrap64 (a0 - (wrap64 ((wrap64 ((wrap64 (x8_1 * x9_1)) - x7_1)) * (wrap64 ((wrap64 (x8_1 * x9_1)) - x7_1)))))) x8_1)))), (by first | rfl | (simp; done) | (simp [*]; done)), (by first | rfl | (simp; done) | (simp [*]; done)), (by first | rfl | (simp; done) | (simp [*]; done)), H', ⟨by have := HK1.out; omega⟩, ⟨by (with_reducible repeat (first | apply Kd.R_alloc | apply Kd.R_drewN | apply Kd.R_drew)); exact HO139.out⟩, ⟨by repeat (first | (with_reducible first | exact HB.out | apply below_alloc | apply pw_below_drewN | apply below_drew1) | exact HB.out)⟩⟩
                  · rw [if_neg c13] at H
                    exact absurd H (by simp)
  · replace c3 := Bool.eq_false_iff.mpr c3
    subst c3
    have H1 : (some (0, ([] : List Int), 2)) = some (r1, r2, r3) := by rw [if_neg (show ¬ (false = true) by decide)] at H; exact H
    clear H
    have H := H1
    clear H1
    simp only [Option.some.injEq, Prod.mk.injEq] at H
    obtain ⟨rfl, rfl, rfl⟩ := H
    go_enter Try.func78, Try.ntmps78
    go_wp2_with (first | ((with_reducible refine gate_callee (f := 61) rfl ?_); refine goesL_ (some 11) rfl rfl Try.func61 (by kernel_rfl) rfl #[.int .i64 a0, .int .i64 0, .int .i64 1000000] rfl (by (try simp only [List.map_toArray, List.map_cons, List.map_nil]); first | done | rfl | (simp only [List.length_drop, List.length_take]; rfl)) ?_; (with_reducible refine (impl_within.calls a0 0 1000000 false _ A2.out).mono ?_); rintro e w' ⟨rfl, ⟨nd, rfl⟩⟩; refine ⟨_, rfl, ?_⟩))
    go_ret3
    exact ⟨_, by first | rfl | (simp [errW_none, errW_some] <;> rfl) | (simp [*, errW_none, errW_some] <;> rfl), by first | exact Kd.R_nil _ _ _ _ _ | exact Kd.N_nil _ _ _ _ _ | exact Kd.V_nil _ _ _ _ _ | exact Kd.Q_nil _ _ _ _ _ | exact Kd.S_nil _ _ _ _ _, by repeat (first | (with_reducible first | exact HB.out | apply below_alloc | apply pw_below_drewN | apply below_drew1) | exact HB.out)⟩

end Go.Proofs.Ytdnkpfmcpalojaa.MFnExactRootTermAt
