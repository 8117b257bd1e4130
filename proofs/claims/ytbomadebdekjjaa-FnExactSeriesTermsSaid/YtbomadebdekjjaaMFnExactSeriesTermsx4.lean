/- Functions of the program as Lean functions, and the proof that the code comes to what they say. Written by a program of this session (myprint.py). -/
import Derived.Test.YtbomadebdekjjaaMFnExactSeriesTermsx0
import Derived.Test.YtbomadebdekjjaaMFnExactSeriesTermsx3
namespace Go.Proofs.Ytbomadebdekjjaa.MFnExactSeriesTerms
open Go.RowKit Go.Proofs.Ytbomadebdekjjaa.MOpen Go.Proofs.YtbomadebdekjjaaW.PrintWords Go.Proofs.YtbomadebdekjjaaW.PrintLast Go.Proofs.YtbomadebdekjjaaW.PrintMore
attribute [local go_sem] max2_int min2_int max_two min_two max_three min_three max_four min_four   -- for this text's walks alone
set_option linter.unusedVariables false
set_option linter.unusedSimpArgs false

attribute [local go_sem high] eqA126
/-! ### spec_l00In: function 86 -/
def spec_l00In.f (a0 : Int) (a1 : Int) (a2 : Int) : Option (Bool) := if a0 ≥ a1 then (some (decide (a0 ≤ a2))) else (some false)
set_option maxHeartbeats 8000000 in
set_option maxRecDepth 100000 in
theorem spec_l00In.calls (a0 : Int) (a1 : Int) (a2 : Int) (r : Bool) (w : World) (h : spec_l00In.f a0 a1 a2 = some r) :
    Calls Try.prog 86 #[.int .i64 a0, .int .i64 a1, .int .i64 a2] w fun e w' => e = .returned (.bool r) ∧ Drawn0 w w' := by
  have H : (if a0 ≥ a1 then (some (decide (a0 ≤ a2))) else (some false)) = some r := h
  clear h
  by_cases c4 : a0 ≥ a1
  · rw [if_pos c4] at H
    have c4b0 : decide (a1 ≤ a0) = true := decide_eq_true c4
    clear c4
    obtain rfl := Option.some.inj H
    go_enter Try.func86, Try.ntmps86
    go_wp2
    go_ret
    exact ⟨by first | rfl | (simp; done) | (simp [*]; done), by repeat (first | exact Drawn0.refl _ | apply Drawn0.step)⟩
  · rw [if_neg c4] at H
    have c4b0 : decide (a1 ≤ a0) = false := decide_eq_false c4
    clear c4
    obtain rfl := Option.some.inj H
    go_enter Try.func86, Try.ntmps86
    go_wp2
    go_ret
    exact ⟨by first | rfl | (simp; done) | (simp [*]; done), by repeat (first | exact Drawn0.refl _ | apply Drawn0.step)⟩

/-! ### spec_l02Places: function 91 -/
def spec_l02Places.f (a0 : Int) : Option (Bool) := (spec_l00In.f a0 0 64).bind fun t101 => (some t101)
set_option maxHeartbeats 8000000 in
set_option maxRecDepth 100000 in
theorem spec_l02Places.calls (a0 : Int) (r : Bool) (w : World) (h : spec_l02Places.f a0 = some r) :
    Calls Try.prog 91 #[.int .i64 a0] w fun e w' => e = .returned (.bool r) ∧ Drawn0 w w' := by
  have H : ((spec_l00In.f a0 0 64).bind fun t101 => (some t101)) = some r := h
  clear h
  replace H := Option.bind_eq_some_iff.mp H
  obtain ⟨t101, A20, H⟩ := H
  replace H : (some t101) = some r := H
  have A2 := Aside0.mk A20
  clear A20
  obtain rfl := Option.some.inj H
  go_enter Try.func91, Try.ntmps91
  go_wp2_with (first | ((with_reducible refine gate_callee (f := 86) rfl ?_); refine goesL_ (some 4) rfl rfl Try.func86 (by kernel_rfl) rfl #[.int .i64 a0, .int .i64 0, .int .i64 64] rfl (by (try simp only [List.map_toArray, List.map_cons, List.map_nil]); first | done | rfl | (simp only [List.length_drop, List.length_take]; rfl) | (simp only [List.drop_one]; done) | (simp only [List.drop_one]; rfl)) ?_; (with_reducible refine (spec_l00In.calls a0 0 64 t101 _ A2.out).mono ?_); rintro e w' ⟨rfl, ⟨nd, rfl⟩⟩; refine ⟨_, rfl, ?_⟩))
  go_ret
  exact ⟨by first | rfl | (simp; done) | (simp [*]; done), by repeat (first | exact Drawn0.refl _ | apply Drawn0.step)⟩

/-! ### spec_l05Series: function 96 -/
def spec_l05Series.f (a0 : S40) : Option (Bool) := (spec_l00In.f a0.f1 2 1000).bind fun t102 => (if t102 = true then ((spec_l00In.f a0.f0 1 (wrap64 (Int.tdiv a0.f1 2))).bind fun t103 => (if t103 = true then ((spec_l00In.f a0.f2 1 1000).bind fun t104 => (if t104 = true then ((spec_l00In.f a0.f3 0 1000).bind fun t105 => (some t105)) else (some false))) else (some false))) else (some false))
set_option maxHeartbeats 8000000 in
set_option maxRecDepth 100000 in
theorem spec_l05Series.calls (B0_ O0_ : Nat) (a0 : S40) (r : Bool) (w : World) (hq0_ : w.cell? ⟨B0_, O0_, none⟩ = some (.int .i64 a0.f0) ∧ w.cell? ⟨B0_, O0_ + 1, none⟩ = some (.int .i64 a0.f1) ∧ w.cell? ⟨B0_, O0_ + 2, none⟩ = some (.int .i64 a0.f2) ∧ w.cell? ⟨B0_, O0_ + 3, none⟩ = some (.int .i64 a0.f3) ∧ w.cell? ⟨B0_, O0_ + 4, none⟩ = some (.bool a0.f4)) (h : spec_l05Series.f a0 = some r) :
    Calls Try.prog 96 #[.pointer (some ⟨B0_, O0_, none⟩)] w fun e w' => e = .returned (.bool r) ∧ Drawn0 w w' := by
  have HQ0_ := Aside0.mk hq0_
  clear hq0_
  have H : ((spec_l00In.f a0.f1 2 1000).bind fun t102 => (if t102 = true then ((spec_l00In.f a0.f0 1 (wrap64 (Int.tdiv a0.f1 2))).bind fun t103 => (if t103 = true then ((spec_l00In.f a0.f2 1 1000).bind fun t104 => (if t104 = true then ((spec_l00In.f a0.f3 0 1000).bind fun t105 => (some t105)) else (some false))) else (some false))) else (some false))) = some r := h
  clear h
  replace H := Option.bind_eq_some_iff.mp H
  obtain ⟨t102, A20, H⟩ := H
  replace H : (if t102 = true then ((spec_l00In.f a0.f0 1 (wrap64 (Int.tdiv a0.f1 2))).bind fun t103 => (if t103 = true then ((spec_l00In.f a0.f2 1 1000).bind fun t104 => (if t104 = true then ((spec_l00In.f a0.f3 0 1000).bind fun t105 => (some t105)) else (some false))) else (some false))) else (some false)) = some r := H
  have A2 := Aside0.mk A20
  clear A20
  by_cases c3 : t102 = true
  · subst c3
    have H1 : ((spec_l00In.f a0.f0 1 (wrap64 (Int.tdiv a0.f1 2))).bind fun t103 => (if t103 = true then ((spec_l00In.f a0.f2 1 1000).bind fun t104 => (if t104 = true then ((spec_l00In.f a0.f3 0 1000).bind fun t105 => (some t105)) else (some false))) else (some false))) = some r := by rw [if_pos rfl] at H; exact H
    clear H
    have H := H1
    clear H1
    replace H := Option.bind_eq_some_iff.mp H
    obtain ⟨t103, A40, H⟩ := H
    replace H : (if t103 = true then ((spec_l00In.f a0.f2 1 1000).bind fun t104 => (if t104 = true then ((spec_l00In.f a0.f3 0 1000).bind fun t105 => (some t105)) else (some false))) else (some false)) = some r := H
    have A4 := Aside0.mk A40
    clear A40
    by_cases c5 : t103 = true
    · subst c5
      have H1 : ((spec_l00In.f a0.f2 1 1000).bind fun t104 => (if t104 = true then ((spec_l00In.f a0.f3 0 1000).bind fun t105 => (some t105)) else (some false))) = some r := by rw [if_pos rfl] at H; exact H
      clear H
      have H := H1
      clear H1
      replace H := Option.bind_eq_some_iff.mp H
      obtain ⟨t104, A60, H⟩ := H
      replace H : (if t104 = true then ((spec_l00In.f a0.f3 0 1000).bind fun t105 => (some t105)) else (some false)) = some r := H
      have A6 := Aside0.mk A60
      clear A60
      by_cases c7 : t104 = true
      · subst c7
        have H1 : ((spec_l00In.f a0.f3 0 1000).bind fun t105 => (some t105)) = some r := by rw [if_pos rfl] at H; exact H
        clear H
        have H := H1
        clear H1
        replace H := Option.bind_eq_some_iff.mp H
        obtain ⟨t105, A80, H⟩ := H
        replace H : (some t105) = some r := H
        have A8 := Aside0.mk A80
        clear A80
        obtain rfl := Option.some.inj H
        obtain ⟨hxr9_0, hxr9_1, hxr9_2, hxr9_3, hxr9_4⟩ := HQ0_.out
        go_enter Try.func96, Try.ntmps96
        go_wp2_with (first | (go_at_call 86; (with_reducible refine (spec_l00In.calls a0.f1 2 1000 true _ A2.out).mono ?_); rintro e w' ⟨rfl, ⟨nd, rfl⟩⟩; (try first | exact ⟨rfl, _, World.drewN_drewN _ _ _⟩ | exact ⟨rfl, _, Eq.trans (World.drewN_drewN _ _ _) (congrArg (World.drewN _) (Nat.add_assoc _ _ _))⟩)) | (go_at_call 86; (with_reducible refine (spec_l00In.calls a0.f0 1 (wrap64 (Int.tdiv a0.f1 2)) true _ A4.out).mono ?_); rintro e w' ⟨rfl, ⟨nd, rfl⟩⟩; (try first | exact ⟨rfl, _, World.drewN_drewN _ _ _⟩ | exact ⟨rfl, _, Eq.trans (World.drewN_drewN _ _ _) (congrArg (World.drewN _) (Nat.add_assoc _ _ _))⟩)) | (go_at_call 86; (with_reducible refine (spec_l00In.calls a0.f2 1 1000 true _ A6.out).mono ?_); rintro e w' ⟨rfl, ⟨nd, rfl⟩⟩; (try first | exact ⟨rfl, _, World.drewN_drewN _ _ _⟩ | exact ⟨rfl, _, Eq.trans (World.drewN_drewN _ _ _) (congrArg (World.drewN _) (Nat.add_assoc _ _ _))⟩)) | (go_at_call 86; (with_reducible refine (spec_l00In.calls a0.f3 0 1000 t105 _ A8.out).mono ?_); rintro e w' ⟨rfl, ⟨nd, rfl⟩⟩; (try first | exact ⟨rfl, _, World.drewN_drewN _ _ _⟩ | exact ⟨rfl, _, Eq.trans (World.drewN_drewN _ _ _) (congrArg (World.drewN _) (Nat.add_assoc _ _ _))⟩)) | go_quiet (first | (go_at_call 86; (with_reducible refine (spec_l00In.calls a0.f1 2 1000 true _ A2.out).mono ?_); rintro e w' ⟨rfl, ⟨nd, rfl⟩⟩; (try first | exact ⟨rfl, _, World.drewN_drewN _ _ _⟩ | exact ⟨rfl, _, Eq.trans (World.drewN_drewN _ _ _) (congrArg (World.drewN _) (Nat.add_assoc _ _ _))⟩)) | (go_at_call 86; (with_reducible refine (spec_l00In.calls a0.f0 1 (wrap64 (Int.tdiv a0.f1 2)) true _ A4.out).mono ?_); rintro e w' ⟨rfl, ⟨nd, rfl⟩⟩; (try first | exact ⟨rfl, _, World.drewN_drewN _ _ _⟩ | exact ⟨rfl, _, Eq.trans (World.drewN_drewN _ _ _) (congrArg (World.drewN _) (Nat.add_assoc _ _ _))⟩)) | (go_at_call 86; (with_reducible refine (spec_l00In.calls a0.f2 1 1000 true _ A6.out).mono ?_); rintro e w' ⟨rfl, ⟨nd, rfl⟩⟩; (try first | exact ⟨rfl, _, World.drewN_drewN _ _ _⟩ | exact ⟨rfl, _, Eq.trans (World.drewN_drewN _ _ _) (congrArg (World.drewN _) (Nat.add_assoc _ _ _))⟩)) | (go_at_call 86; (with_reducible refine (spec_l00In.calls a0.f3 0 1000 t105 _ A8.out).mono ?_); rintro e w' ⟨rfl, ⟨nd, rfl⟩⟩; (try first | exact ⟨rfl, _, World.drewN_drewN _ _ _⟩ | exact ⟨rfl, _, Eq.trans (World.drewN_drewN _ _ _) (congrArg (World.drewN _) (Nat.add_assoc _ _ _))⟩))))
        go_ret
        exact ⟨by first | rfl | (simp; done) | (simp [*]; done), by repeat (first | exact Drawn0.refl _ | apply Drawn0.step)⟩
      · replace c7 := Bool.eq_false_iff.mpr c7
        subst c7
        have H1 : (some false) = some r := by rw [if_neg (show ¬ (false = true) by decide)] at H; exact H
        clear H
        have H := H1
        clear H1
        obtain rfl := Option.some.inj H
        obtain ⟨hxr10_0, hxr10_1, hxr10_2, hxr10_3, hxr10_4⟩ := HQ0_.out
        go_enter Try.func96, Try.ntmps96
        go_wp2_with (first | (go_at_call 86; (with_reducible refine (spec_l00In.calls a0.f1 2 1000 true _ A2.out).mono ?_); rintro e w' ⟨rfl, ⟨nd, rfl⟩⟩; (try first | exact ⟨rfl, _, World.drewN_drewN _ _ _⟩ | exact ⟨rfl, _, Eq.trans (World.drewN_drewN _ _ _) (congrArg (World.drewN _) (Nat.add_assoc _ _ _))⟩)) | (go_at_call 86; (with_reducible refine (spec_l00In.calls a0.f0 1 (wrap64 (Int.tdiv a0.f1 2)) true _ A4.out).mono ?_); rintro e w' ⟨rfl, ⟨nd, rfl⟩⟩; (try first | exact ⟨rfl, _, World.drewN_drewN _ _ _⟩ | exact ⟨rfl, _, Eq.trans (World.drewN_drewN _ _ _) (congrArg (World.drewN _) (Nat.add_assoc _ _ _))⟩)) | (go_at_call 86; (with_reducible refine (spec_l00In.calls a0.f2 1 1000 false _ A6.out).mono ?_); rintro e w' ⟨rfl, ⟨nd, rfl⟩⟩; (try first | exact ⟨rfl, _, World.drewN_drewN _ _ _⟩ | exact ⟨rfl, _, Eq.trans (World.drewN_drewN _ _ _) (congrArg (World.drewN _) (Nat.add_assoc _ _ _))⟩)) | go_quiet (first | (go_at_call 86; (with_reducible refine (spec_l00In.calls a0.f1 2 1000 true _ A2.out).mono ?_); rintro e w' ⟨rfl, ⟨nd, rfl⟩⟩; (try first | exact ⟨rfl, _, World.drewN_drewN _ _ _⟩ | exact ⟨rfl, _, Eq.trans (World.drewN_drewN _ _ _) (congrArg (World.drewN _) (Nat.add_assoc _ _ _))⟩)) | (go_at_call 86; (with_reducible refine (spec_l00In.calls a0.f0 1 (wrap64 (Int.tdiv a0.f1 2)) true _ A4.out).mono ?_); rintro e w' ⟨rfl, ⟨nd, rfl⟩⟩; (try first | exact ⟨rfl, _, World.drewN_drewN _ _ _⟩ | exact ⟨rfl, _, Eq.trans (World.drewN_drewN _ _ _) (congrArg (World.drewN _) (Nat.add_assoc _ _ _))⟩)) | (go_at_call 86; (with_reducible refine (spec_l00In.calls a0.f2 1 1000 false _ A6.out).mono ?_); rintro e w' ⟨rfl, ⟨nd, rfl⟩⟩; (try first | exact ⟨rfl, _, World.drewN_drewN _ _ _⟩ | exact ⟨rfl, _, Eq.trans (World.drewN_drewN _ _ _) (congrArg (World.drewN _) (Nat.add_assoc _ _ _))⟩))))
        go_ret
        exact ⟨by first | rfl | (simp; done) | (simp [*]; done), by repeat (first | exact Drawn0.refl _ | apply Drawn0.step)⟩
    · replace c5 := Bool.eq_false_iff.mpr c5
      subst c5
      have H1 : (some false) = some r := by rw [if_neg (show ¬ (false = true) by decide)] at H; exact H
      clear H
      have H := H1
      clear H1
      obtain rfl := Option.some.inj H
      obtain ⟨hxr11_0, hxr11_1, hxr11_2, hxr11_3, hxr11_4⟩ := HQ0_.out
      go_enter Try.func96, Try.ntmps96
      go_wp2_with (first | (go_at_call 86; (with_reducible refine (spec_l00In.calls a0.f1 2 1000 true _ A2.out).mono ?_); rintro e w' ⟨rfl, ⟨nd, rfl⟩⟩; (try first | exact ⟨rfl, _, World.drewN_drewN _ _ _⟩ | exact ⟨rfl, _, Eq.trans (World.drewN_drewN _ _ _) (congrArg (World.drewN _) (Nat.add_assoc _ _ _))⟩)) | (go_at_call 86; (with_reducible refine (spec_l00In.calls a0.f0 1 (wrap64 (Int.tdiv a0.f1 2)) false _ A4.out).mono ?_); rintro e w' ⟨rfl, ⟨nd, rfl⟩⟩; (try first | exact ⟨rfl, _, World.drewN_drewN _ _ _⟩ | exact ⟨rfl, _, Eq.trans (World.drewN_drewN _ _ _) (congrArg (World.drewN _) (Nat.add_assoc _ _ _))⟩)) | go_quiet (first | (go_at_call 86; (with_reducible refine (spec_l00In.calls a0.f1 2 1000 true _ A2.out).mono ?_); rintro e w' ⟨rfl, ⟨nd, rfl⟩⟩; (try first | exact ⟨rfl, _, World.drewN_drewN _ _ _⟩ | exact ⟨rfl, _, Eq.trans (World.drewN_drewN _ _ _) (congrArg (World.drewN _) (Nat.add_assoc _ _ _))⟩)) | (go_at_call 86; (with_reducible refine (spec_l00In.calls a0.f0 1 (wrap64 (Int.tdiv a0.f1 2)) false _ A4.out).mono ?_); rintro e w' ⟨rfl, ⟨nd, rfl⟩⟩; (try first | exact ⟨rfl, _, World.drewN_drewN _ _ _⟩ | exact ⟨rfl, _, Eq.trans (World.drewN_drewN _ _ _) (congrArg (World.drewN _) (Nat.add_assoc _ _ _))⟩))))
      go_ret
      exact ⟨by first | rfl | (simp; done) | (simp [*]; done), by repeat (first | exact Drawn0.refl _ | apply Drawn0.step)⟩
  · replace c3 := Bool.eq_false_iff.mpr c3
    subst c3
    have H1 : (some false) = some r := by rw [if_neg (show ¬ (false = true) by decide)] at H; exact H
    clear H
    have H := H1
    clear H1
    obtain rfl := Option.some.inj H
    obtain ⟨hxr12_0, hxr12_1, hxr12_2, hxr12_3, hxr12_4⟩ := HQ0_.out
    go_enter Try.func96, Try.ntmps96
    go_wp2_with (first | (go_at_call 86; (with_reducible refine (spec_l00In.calls a0.f1 2 1000 false _ A2.out).mono ?_); rintro e w' ⟨rfl, ⟨nd, rfl⟩⟩; (try first | exact ⟨rfl, _, World.drewN_drewN _ _ _⟩ | exact ⟨rfl, _, Eq.trans (World.drewN_drewN _ _ _) (congrArg (World.drewN _) (Nat.add_assoc _ _ _))⟩)) | go_quiet (first | (go_at_call 86; (with_reducible refine (spec_l00In.calls a0.f1 2 1000 false _ A2.out).mono ?_); rintro e w' ⟨rfl, ⟨nd, rfl⟩⟩; (try first | exact ⟨rfl, _, World.drewN_drewN _ _ _⟩ | exact ⟨rfl, _, Eq.trans (World.drewN_drewN _ _ _) (congrArg (World.drewN _) (Nat.add_assoc _ _ _))⟩))))
    go_ret
    exact ⟨by first | rfl | (simp; done) | (simp [*]; done), by repeat (first | exact Drawn0.refl _ | apply Drawn0.step)⟩

/-! ### spec_l05Limited: function 63 -/
def spec_l05Limited.f (a0 : S40) (a1 : Int) : Option (Int) := (spec_l05Series.f a0).bind fun t106 => (if t106 = true then ((spec_l02Places.f a1).bind fun t107 => (if t107 = true then (some 0) else (some 2))) else (some 1))
set_option maxHeartbeats 8000000 in
set_option maxRecDepth 100000 in
theorem spec_l05Limited.calls (B0_ O0_ : Nat) (a0 : S40) (a1 : Int) (r : Int) (w : World) (hq0_ : w.cell? ⟨B0_, O0_, none⟩ = some (.int .i64 a0.f0) ∧ w.cell? ⟨B0_, O0_ + 1, none⟩ = some (.int .i64 a0.f1) ∧ w.cell? ⟨B0_, O0_ + 2, none⟩ = some (.int .i64 a0.f2) ∧ w.cell? ⟨B0_, O0_ + 3, none⟩ = some (.int .i64 a0.f3) ∧ w.cell? ⟨B0_, O0_ + 4, none⟩ = some (.bool a0.f4)) (h : spec_l05Limited.f a0 a1 = some r) :
    Calls Try.prog 63 #[.pointer (some ⟨B0_, O0_, none⟩), .int .i64 a1] w fun e w' => e = .returned (.int .i64 r) ∧ Drawn0 w w' := by
  have HQ0_ := Aside0.mk hq0_
  clear hq0_
  have H : ((spec_l05Series.f a0).bind fun t106 => (if t106 = true then ((spec_l02Places.f a1).bind fun t107 => (if t107 = true then (some 0) else (some 2))) else (some 1))) = some r := h
  clear h
  replace H := Option.bind_eq_some_iff.mp H
  obtain ⟨t106, A30, H⟩ := H
  replace H : (if t106 = true then ((spec_l02Places.f a1).bind fun t107 => (if t107 = true then (some 0) else (some 2))) else (some 1)) = some r := H
  have A3 := Aside0.mk A30
  clear A30
  by_cases c4 : t106 = true
  · subst c4
    have H1 : ((spec_l02Places.f a1).bind fun t107 => (if t107 = true then (some 0) else (some 2))) = some r := by rw [if_pos rfl] at H; exact H
    clear H
    have H := H1
    clear H1
    replace H := Option.bind_eq_some_iff.mp H
    obtain ⟨t107, A50, H⟩ := H
    replace H : (if t107 = true then (some 0) else (some 2)) = some r := H
    have A5 := Aside0.mk A50
    clear A50
    by_cases c6 : t107 = true
    · subst c6
      have H1 : (some 0) = some r := by rw [if_pos rfl] at H; exact H
      clear H
      have H := H1
      clear H1
      obtain rfl := Option.some.inj H
      go_enter Try.func63, Try.ntmps63
      go_wp2_with (first | ((with_reducible refine gate_callee (f := 96) rfl ?_); refine goesL_ (some 6) rfl rfl Try.func96 (by kernel_rfl) rfl #[.pointer (some ⟨B0_, O0_, none⟩)] rfl (by (try simp only [List.map_toArray, List.map_cons, List.map_nil]); first | done | rfl | (simp only [List.length_drop, List.length_take]; rfl) | (simp only [List.drop_one]; done) | (simp only [List.drop_one]; rfl)) ?_; (with_reducible refine (spec_l05Series.calls B0_ O0_ a0 true _ ?side1 A3.out).mono ?_); (case side1 => obtain ⟨hz0_, hz1_, hz2_, hz3_, hz4_⟩ := HQ0_.out; exact ⟨hz0_, hz1_, hz2_, hz3_, hz4_⟩); rintro e w' ⟨rfl, ⟨nd, rfl⟩⟩; refine ⟨_, rfl, ?_⟩) | ((with_reducible refine gate_callee (f := 91) rfl ?_); refine goesL_ (some 9) rfl rfl Try.func91 (by kernel_rfl) rfl #[.int .i64 a1] rfl (by (try simp only [List.map_toArray, List.map_cons, List.map_nil]); first | done | rfl | (simp only [List.length_drop, List.length_take]; rfl) | (simp only [List.drop_one]; done) | (simp only [List.drop_one]; rfl)) ?_; (with_reducible refine (spec_l02Places.calls a1 true _ A5.out).mono ?_); rintro e w' ⟨rfl, ⟨nd, rfl⟩⟩; refine ⟨_, rfl, ?_⟩))
      go_ret
      exact ⟨by first | rfl | (simp; done) | (simp [*]; done), by repeat (first | exact Drawn0.refl _ | apply Drawn0.step)⟩
    · replace c6 := Bool.eq_false_iff.mpr c6
      subst c6
      have H1 : (some 2) = some r := by rw [if_neg (show ¬ (false = true) by decide)] at H; exact H
      clear H
      have H := H1
      clear H1
      obtain rfl := Option.some.inj H
      go_enter Try.func63, Try.ntmps63
      go_wp2_with (first | ((with_reducible refine gate_callee (f := 96) rfl ?_); refine goesL_ (some 6) rfl rfl Try.func96 (by kernel_rfl) rfl #[.pointer (some ⟨B0_, O0_, none⟩)] rfl (by (try simp only [List.map_toArray, List.map_cons, List.map_nil]); first | done | rfl | (simp only [List.length_drop, List.length_take]; rfl) | (simp only [List.drop_one]; done) | (simp only [List.drop_one]; rfl)) ?_; (with_reducible refine (spec_l05Series.calls B0_ O0_ a0 true _ ?side1 A3.out).mono ?_); (case side1 => obtain ⟨hz0_, hz1_, hz2_, hz3_, hz4_⟩ := HQ0_.out; exact ⟨hz0_, hz1_, hz2_, hz3_, hz4_⟩); rintro e w' ⟨rfl, ⟨nd, rfl⟩⟩; refine ⟨_, rfl, ?_⟩) | ((with_reducible refine gate_callee (f := 91) rfl ?_); refine goesL_ (some 9) rfl rfl Try.func91 (by kernel_rfl) rfl #[.int .i64 a1] rfl (by (try simp only [List.map_toArray, List.map_cons, List.map_nil]); first | done | rfl | (simp only [List.length_drop, List.length_take]; rfl) | (simp only [List.drop_one]; done) | (simp only [List.drop_one]; rfl)) ?_; (with_reducible refine (spec_l02Places.calls a1 false _ A5.out).mono ?_); rintro e w' ⟨rfl, ⟨nd, rfl⟩⟩; refine ⟨_, rfl, ?_⟩))
      go_ret
      exact ⟨by first | rfl | (simp; done) | (simp [*]; done), by repeat (first | exact Drawn0.refl _ | apply Drawn0.step)⟩
  · replace c4 := Bool.eq_false_iff.mpr c4
    subst c4
    have H1 : (some 1) = some r := by rw [if_neg (show ¬ (false = true) by decide)] at H; exact H
    clear H
    have H := H1
    clear H1
    obtain rfl := Option.some.inj H
    go_enter Try.func63, Try.ntmps63
    go_wp2_with (first | ((with_reducible refine gate_callee (f := 96) rfl ?_); refine goesL_ (some 6) rfl rfl Try.func96 (by kernel_rfl) rfl #[.pointer (some ⟨B0_, O0_, none⟩)] rfl (by (try simp only [List.map_toArray, List.map_cons, List.map_nil]); first | done | rfl | (simp only [List.length_drop, List.length_take]; rfl) | (simp only [List.drop_one]; done) | (simp only [List.drop_one]; rfl)) ?_; (with_reducible refine (spec_l05Series.calls B0_ O0_ a0 false _ ?side1 A3.out).mono ?_); (case side1 => obtain ⟨hz0_, hz1_, hz2_, hz3_, hz4_⟩ := HQ0_.out; exact ⟨hz0_, hz1_, hz2_, hz3_, hz4_⟩); rintro e w' ⟨rfl, ⟨nd, rfl⟩⟩; refine ⟨_, rfl, ?_⟩))
    go_ret
    exact ⟨by first | rfl | (simp; done) | (simp [*]; done), by repeat (first | exact Drawn0.refl _ | apply Drawn0.step)⟩

/-! ### spec_l01Zero: function 124 -/
def spec_l01Zero.f (a0 : S23) : Option (Bool) := some (a0.f0 == 0 && (a0.f1 == 0 && (a0.f2 == 0 && (a0.f3 == 0 && (a0.f4 == 0 && (a0.f5 == 0))))))
set_option maxHeartbeats 8000000 in
set_option maxRecDepth 100000 in
theorem spec_l01Zero.calls (B0_ O0_ : Nat) (a0 : S23) (r : Bool) (w : World) (hq0_ : w.cell? ⟨B0_, O0_, none⟩ = some (.int .u32 a0.f0) ∧ w.cell? ⟨B0_, O0_ + 1, none⟩ = some (.int .u32 a0.f1) ∧ w.cell? ⟨B0_, O0_ + 2, none⟩ = some (.int .u32 a0.f2) ∧ w.cell? ⟨B0_, O0_ + 3, none⟩ = some (.int .u32 a0.f3) ∧ w.cell? ⟨B0_, O0_ + 4, none⟩ = some (.int .u32 a0.f4) ∧ w.cell? ⟨B0_, O0_ + 5, none⟩ = some (.int .u32 a0.f5)) (h : spec_l01Zero.f a0 = some r) :
    Calls Try.prog 124 #[.pointer (some ⟨B0_, O0_, none⟩)] w fun e w' => e = .returned (.bool r) ∧ Drawn0 w w' := by
  have hu126 := Try.underlying126
  have HQ0_ := Aside0.mk hq0_
  clear hq0_
  have H : (some (a0.f0 == 0 && (a0.f1 == 0 && (a0.f2 == 0 && (a0.f3 == 0 && (a0.f4 == 0 && (a0.f5 == 0))))))) = some r := h
  clear h
  obtain rfl := Option.some.inj H
  obtain ⟨hxr2_0, hxr2_1, hxr2_2, hxr2_3, hxr2_4, hxr2_5⟩ := HQ0_.out
  go_enter Try.func124, Try.ntmps124
  go_wp2
  go_ret
  exact ⟨by first | rfl | (simp; done) | (simp [*]; done), by repeat (first | exact Drawn0.refl _ | apply Drawn0.step)⟩

set_option linter.defProp false

theorem q112x1_ {P : Prop} (h : P := by (with_reducible repeat (first | refine blk_drewN ?_ _ | refine blk_drew ?_ | refine blk_alloc ?_ _)); exact BK108.out) : P := h
theorem q112x2_ {P : Prop} (h : P := by repeat (first | (with_reducible first | exact HB.out | apply below_alloc | apply pw_below_drewN | apply below_drew1 | refine below_set ?_ GE108.out) | exact HB.out)) : P := h
theorem q112x3_ {P : Prop} (h : P := by repeat (first | (with_reducible first | exact HB.out | apply below_alloc | apply pw_below_drewN | apply below_drew1) | exact HB.out)) : P := h
theorem q112x4_ {P : Prop} (h : P := by (with_reducible repeat (first | refine blk_drewN ?_ _ | refine blk_drew ?_ | refine blk_alloc ?_ _)); refine puts7_ (.bool false) (.int .u32 0) (.int .u32 0) (.int .u32 0) (.int .u32 0) (.int .u32 0) (.int .u32 0) ?_; (with_reducible repeat (first | refine blk_drewN ?_ _ | refine blk_drew ?_ | refine blk_alloc ?_ _)); exact BK109.out) : P := h
theorem q112x5_ {P : Prop} (h : P := by rw [hg]; exact Nat.ne_of_lt (blk_lt (g := gb108) (o := .cells #[.int .u32 a1.f0, .int .u32 a1.f1, .int .u32 a1.f2, .int .u32 a1.f3, .int .u32 a1.f4, .int .u32 a1.f5] 126 (0, 0)) q112x1_)) : P := h
theorem q112x6_ {P : Prop} (h : P := by rw [hg]; exact Nat.ne_of_gt (blk_lt (g := gb108) (o := .cells #[.int .u32 a1.f0, .int .u32 a1.f1, .int .u32 a1.f2, .int .u32 a1.f3, .int .u32 a1.f4, .int .u32 a1.f5] 126 (0, 0)) q112x1_)) : P := h
theorem q112x7_ {P : Prop} (h : P := by intro w'; go_simp; with_reducible rfl) : P := h
theorem q112x8_ {P : Prop} (h : P := by simp only [Act.put, List.setIfInBounds_toArray, List.set_cons_zero, List.set_cons_succ, i64_w, i32_w]; rfl) : P := h
def wlm (m : Nat) : S23 := ⟨((Wide.lb m 0 : Nat) : Int), ((Wide.lb m 1 : Nat) : Int), ((Wide.lb m 2 : Nat) : Int), ((Wide.lb m 3 : Nat) : Int), ((Wide.lb m 4 : Nat) : Int), ((Wide.lb m 5 : Nat) : Int)⟩
/-- A number as its sign and limbs; and the number read back (none where it is no such thing). -/
def wenc (z : Int) : S24 := ⟨decide (z < 0), wlm z.natAbs⟩
def wval (s : S24) : Int := if s.f0 = true then -(s.f1.f0 + 4294967296 * (s.f1.f1 + 4294967296 * (s.f1.f2 + 4294967296 * (s.f1.f3 + 4294967296 * (s.f1.f4 + 4294967296 * s.f1.f5))))) else s.f1.f0 + 4294967296 * (s.f1.f1 + 4294967296 * (s.f1.f2 + 4294967296 * (s.f1.f3 + 4294967296 * (s.f1.f4 + 4294967296 * s.f1.f5))))
def mval (s : S23) : Nat := (s.f0 + 4294967296 * (s.f1 + 4294967296 * (s.f2 + 4294967296 * (s.f3 + 4294967296 * (s.f4 + 4294967296 * s.f5))))).toNat
def mun (s : S23) : Option Nat := if (s.f0 = (wlm (mval s)).f0 ∧ s.f1 = (wlm (mval s)).f1 ∧ s.f2 = (wlm (mval s)).f2 ∧ s.f3 = (wlm (mval s)).f3 ∧ s.f4 = (wlm (mval s)).f4 ∧ s.f5 = (wlm (mval s)).f5) ∧ mval s < 4294967296 ^ 6 then some (mval s) else none
theorem mag_ext {s r : S23} (h : s.f0 = r.f0 ∧ s.f1 = r.f1 ∧ s.f2 = r.f2 ∧ s.f3 = r.f3 ∧ s.f4 = r.f4 ∧ s.f5 = r.f5) : s = r := by
  obtain ⟨b, c, d, e, f, g⟩ := s
  obtain ⟨b', c', d', e', f', g'⟩ := r
  obtain ⟨rfl, rfl, rfl, rfl, rfl, rfl⟩ := h
  rfl
theorem mun_some {s : S23} {x : Nat} (h : mun s = some x) : s = wlm x ∧ x < 4294967296 ^ 6 := by
  unfold mun at h
  split at h
  · rename_i c
    obtain rfl := Option.some.inj h
    exact ⟨mag_ext c.1, c.2⟩
  · exact absurd h (by simp)
def wun (s : S24) : Option Int := if (s.f0 = (wenc (wval s)).f0 ∧ s.f1.f0 = (wenc (wval s)).f1.f0 ∧ s.f1.f1 = (wenc (wval s)).f1.f1 ∧ s.f1.f2 = (wenc (wval s)).f1.f2 ∧ s.f1.f3 = (wenc (wval s)).f1.f3 ∧ s.f1.f4 = (wenc (wval s)).f1.f4 ∧ s.f1.f5 = (wenc (wval s)).f1.f5) ∧ (wval s).natAbs < 4294967296 ^ 6 then some (wval s) else none
theorem wide_ext {s r : S24} (h : s.f0 = r.f0 ∧ s.f1.f0 = r.f1.f0 ∧ s.f1.f1 = r.f1.f1 ∧ s.f1.f2 = r.f1.f2 ∧ s.f1.f3 = r.f1.f3 ∧ s.f1.f4 = r.f1.f4 ∧ s.f1.f5 = r.f1.f5) : s = r := by
  obtain ⟨a, ⟨b, c, d, e, f, g⟩⟩ := s
  obtain ⟨a', ⟨b', c', d', e', f', g'⟩⟩ := r
  obtain ⟨rfl, rfl, rfl, rfl, rfl, rfl, rfl⟩ := h
  rfl
theorem wun_some {s : S24} {x : Int} (h : wun s = some x) : s = wenc x ∧ x.natAbs < 4294967296 ^ 6 := by
  unfold wun at h
  split at h
  · rename_i c
    obtain rfl := Option.some.inj h
    exact ⟨wide_ext c.1, c.2⟩
  · exact absurd h (by simp)
theorem wun2 {α : Type} {a b : S24} {f : Int → Int → Option α} {r : α} (h : ((wun a).bind fun x => (wun b).bind fun y => f x y) = some r) : ∃ x y, a = wenc x ∧ b = wenc y ∧ x.natAbs < 4294967296 ^ 6 ∧ y.natAbs < 4294967296 ^ 6 ∧ f x y = some r := by
  obtain ⟨x, hx, h⟩ := Option.bind_eq_some_iff.mp h
  obtain ⟨y, hy, h⟩ := Option.bind_eq_some_iff.mp h
  exact ⟨x, y, (wun_some hx).1, (wun_some hy).1, (wun_some hx).2, (wun_some hy).2, h⟩
/-! ### spec_l01Made: function 112 -/
def spec_l01Made.f (a0 : Bool) (a1 : S23) : Option (S24) := (mun a1).bind fun m => some ⟨a0 && !(Wide.zN m), wlm m⟩
theorem spec_l01Made.calls (a0 : Bool) (a1 : S23) (r : S24) (w : World) (h : spec_l01Made.f a0 a1 = some r) :
  Calls Try.prog 112 #[.bool a0, .agg #[.int .u32 a1.f0, .int .u32 a1.f1, .int .u32 a1.f2, .int .u32 a1.f3, .int .u32 a1.f4, .int .u32 a1.f5]] w fun e w' => e = .returned (.agg #[.bool r.f0, .int .u32 r.f1.f0, .int .u32 r.f1.f1, .int .u32 r.f1.f2, .int .u32 r.f1.f3, .int .u32 r.f1.f4, .int .u32 r.f1.f5]) ∧ Below w.heap.size w w' := by
 obtain ⟨m, hm, e⟩ := Option.bind_eq_some_iff.mp h
 obtain ⟨rfl, hx⟩ := mun_some hm
 obtain rfl := Option.some.inj e
 exact Wide.sMade w a0 m hx


set_option linter.defProp false
def kA82_ := @blk_alloc
def kN82_ := @blk_drewN
def kD82_ := @blk_drew
def bS82_ := @below_set
def aM82_ := @Aside0.mk
def kC82_ := @blk_cell
theorem q82x1_ {P : Prop} (h : P := by repeat (first | (with_reducible first | exact HB.out | apply below_alloc | apply pw_below_drewN | apply below_drew1 | refine bS82_ ?_ GE111.out | refine bS82_ ?_ GE112.out | refine bS82_ ?_ GE113.out | refine bS82_ ?_ GE114.out | refine bS82_ ?_ GE120.out) | exact HB.out)) : P := h
theorem q82x2_ {P : Prop} (h : P := by (with_reducible repeat (first | refine kN82_ ?_ _ | refine kD82_ ?_ | refine kA82_ ?_ _)); exact BK111.out) : P := h
theorem q82x3_ {P : Prop} (h : P := by first | (with_reducible assumption) | assumption) : P := h
theorem q82x4_ {P : Prop} (h : P := by repeat (first | (with_reducible first | exact HB.out | apply below_alloc | apply pw_below_drewN | apply below_drew1 | refine bS82_ ?_ GE111.out | refine bS82_ ?_ GE112.out | refine bS82_ ?_ GE113.out | refine bS82_ ?_ GE114.out) | exact HB.out)) : P := h
theorem q82x5_ {P : Prop} (h : P := by (rcases (show x12_2 = 0 ∨ x12_2 = 1 ∨ x12_2 = 2 ∨ x12_2 = 3 ∨ x12_2 = 4 ∨ x12_2 = 5 from (by have h_ := HP122.out; omega)) with rfl | rfl | rfl | rfl | rfl | rfl <;> first | exact (kC82_ BK120.out 0).trans rfl | exact (kC82_ BK120.out 1).trans rfl | exact (kC82_ BK120.out 2).trans rfl | exact (kC82_ BK120.out 3).trans rfl | exact (kC82_ BK120.out 4).trans rfl | exact (kC82_ BK120.out 5).trans rfl)) : P := h
theorem q82x6_ {P : Prop} (h : P := by (with_reducible repeat (first | refine kN82_ ?_ _ | refine kD82_ ?_ | refine kA82_ ?_ _)); exact BK112.out) : P := h
theorem q82x7_ {P : Prop} (h : P := by (with_reducible repeat (first | refine kN82_ ?_ _ | refine kD82_ ?_ | refine kA82_ ?_ _)); exact BK113.out) : P := h
theorem q82x8_ {P : Prop} (h : P := by (rcases (show (ji30) = 0 ∨ (ji30) = 1 ∨ (ji30) = 2 ∨ (ji30) = 3 ∨ (ji30) = 4 ∨ (ji30) = 5 ∨ (ji30) = 6 ∨ (ji30) = 7 ∨ (ji30) = 8 ∨ (ji30) = 9 ∨ (ji30) = 10 ∨ (ji30) = 11 from (by have h_ := HP119.out; omega)) with rfl | rfl | rfl | rfl | rfl | rfl | rfl | rfl | rfl | rfl | rfl | rfl <;> first | exact (kC82_ BK114.out 0).trans rfl | exact (kC82_ BK114.out 1).trans rfl | exact (kC82_ BK114.out 2).trans rfl | exact (kC82_ BK114.out 3).trans rfl | exact (kC82_ BK114.out 4).trans rfl | exact (kC82_ BK114.out 5).trans rfl | exact (kC82_ BK114.out 6).trans rfl | exact (kC82_ BK114.out 7).trans rfl | exact (kC82_ BK114.out 8).trans rfl | exact (kC82_ BK114.out 9).trans rfl | exact (kC82_ BK114.out 10).trans rfl | exact (kC82_ BK114.out 11).trans rfl)) : P := h
theorem q82x9_ {P : Prop} (h : P := by (rcases (show (ji17) = 0 ∨ (ji17) = 1 ∨ (ji17) = 2 ∨ (ji17) = 3 ∨ (ji17) = 4 ∨ (ji17) = 5 ∨ (ji17) = 6 ∨ (ji17) = 7 ∨ (ji17) = 8 ∨ (ji17) = 9 ∨ (ji17) = 10 ∨ (ji17) = 11 from (by have h_ := HP118.out; omega)) with rfl | rfl | rfl | rfl | rfl | rfl | rfl | rfl | rfl | rfl | rfl | rfl <;> first | exact (kC82_ BK114.out 0).trans rfl | exact (kC82_ BK114.out 1).trans rfl | exact (kC82_ BK114.out 2).trans rfl | exact (kC82_ BK114.out 3).trans rfl | exact (kC82_ BK114.out 4).trans rfl | exact (kC82_ BK114.out 5).trans rfl | exact (kC82_ BK114.out 6).trans rfl | exact (kC82_ BK114.out 7).trans rfl | exact (kC82_ BK114.out 8).trans rfl | exact (kC82_ BK114.out 9).trans rfl | exact (kC82_ BK114.out 10).trans rfl | exact (kC82_ BK114.out 11).trans rfl)) : P := h
theorem q82x10_ {P : Prop} (h : P := by (rcases (show (ji48) = 0 ∨ (ji48) = 1 ∨ (ji48) = 2 ∨ (ji48) = 3 ∨ (ji48) = 4 ∨ (ji48) = 5 ∨ (ji48) = 6 ∨ (ji48) = 7 ∨ (ji48) = 8 ∨ (ji48) = 9 ∨ (ji48) = 10 ∨ (ji48) = 11 from (by have h_ := HP123.out; omega)) with rfl | rfl | rfl | rfl | rfl | rfl | rfl | rfl | rfl | rfl | rfl | rfl <;> first | exact (kC82_ BK114.out 0).trans rfl | exact (kC82_ BK114.out 1).trans rfl | exact (kC82_ BK114.out 2).trans rfl | exact (kC82_ BK114.out 3).trans rfl | exact (kC82_ BK114.out 4).trans rfl | exact (kC82_ BK114.out 5).trans rfl | exact (kC82_ BK114.out 6).trans rfl | exact (kC82_ BK114.out 7).trans rfl | exact (kC82_ BK114.out 8).trans rfl | exact (kC82_ BK114.out 9).trans rfl | exact (kC82_ BK114.out 10).trans rfl | exact (kC82_ BK114.out 11).trans rfl)) : P := h
theorem q82x11_ {P : Prop} (h : P := by (rcases (show x12_2 = 0 ∨ x12_2 = 1 ∨ x12_2 = 2 ∨ x12_2 = 3 ∨ x12_2 = 4 ∨ x12_2 = 5 ∨ x12_2 = 6 ∨ x12_2 = 7 ∨ x12_2 = 8 ∨ x12_2 = 9 ∨ x12_2 = 10 ∨ x12_2 = 11 from (by have h_ := HP121.out; omega)) with rfl | rfl | rfl | rfl | rfl | rfl | rfl | rfl | rfl | rfl | rfl | rfl <;> first | exact (kC82_ BK114.out 0).trans rfl | exact (kC82_ BK114.out 1).trans rfl | exact (kC82_ BK114.out 2).trans rfl | exact (kC82_ BK114.out 3).trans rfl | exact (kC82_ BK114.out 4).trans rfl | exact (kC82_ BK114.out 5).trans rfl | exact (kC82_ BK114.out 6).trans rfl | exact (kC82_ BK114.out 7).trans rfl | exact (kC82_ BK114.out 8).trans rfl | exact (kC82_ BK114.out 9).trans rfl | exact (kC82_ BK114.out 10).trans rfl | exact (kC82_ BK114.out 11).trans rfl)) : P := h
theorem q82x12_ {P : Prop} (h : P := by rw [hg]; exact Nat.ne_of_lt (blk_lt (g := gb111) (o := .cells #[.bool a0.f0, .int .u32 a0.f1.f0, .int .u32 a0.f1.f1, .int .u32 a0.f1.f2, .int .u32 a0.f1.f3, .int .u32 a0.f1.f4, .int .u32 a0.f1.f5] 25 (0, 0)) q82x2_)) : P := h
theorem q82x13_ {P : Prop} (h : P := by rw [hg]; exact Nat.ne_of_gt (blk_lt (g := gb111) (o := .cells #[.bool a0.f0, .int .u32 a0.f1.f0, .int .u32 a0.f1.f1, .int .u32 a0.f1.f2, .int .u32 a0.f1.f3, .int .u32 a0.f1.f4, .int .u32 a0.f1.f5] 25 (0, 0)) q82x2_)) : P := h
theorem q82x14_ {P : Prop} (h : P := by rw [hw]; exact (by (with_reducible repeat (first | refine kN82_ ?_ _ | refine kD82_ ?_ | refine kA82_ ?_ _)); refine blk_put (cs := #[.int .u32 x121000_2.f0, .int .u32 x121000_2.f1, .int .u32 x121000_2.f2, .int .u32 x121000_2.f3, .int .u32 x121000_2.f4, .int .u32 x121000_2.f5]) ?_ ((x12_2 : Int).toNat) _ (by rcases (show x12_2 = 0 ∨ x12_2 = 1 ∨ x12_2 = 2 ∨ x12_2 = 3 ∨ x12_2 = 4 ∨ x12_2 = 5 from (by have h_ := HP122.out; omega)) with rfl | rfl | rfl | rfl | rfl | rfl <;> rfl); (with_reducible repeat (first | refine kN82_ ?_ _ | refine kD82_ ?_ | refine kA82_ ?_ _)); exact BK120.out)) : P := h
theorem q82x15_ {P : Prop} (h : P := by rw [hw]; exact (by (with_reducible repeat (first | refine kN82_ ?_ _ | refine kD82_ ?_ | refine kA82_ ?_ _ | refine blk_far ?_ NB111_114.out _)); (with_reducible repeat (first | refine kN82_ ?_ _ | refine kD82_ ?_ | refine kA82_ ?_ _)); exact BK111.out)) : P := h
theorem q82x16_ {P : Prop} (h : P := by rw [hw]; exact (by (with_reducible repeat (first | refine kN82_ ?_ _ | refine kD82_ ?_ | refine kA82_ ?_ _ | refine blk_far ?_ NB112_114.out _)); (with_reducible repeat (first | refine kN82_ ?_ _ | refine kD82_ ?_ | refine kA82_ ?_ _)); exact BK112.out)) : P := h
theorem q82x17_ {P : Prop} (h : P := by rw [hw]; exact (by (with_reducible repeat (first | refine kN82_ ?_ _ | refine kD82_ ?_ | refine kA82_ ?_ _ | refine blk_far ?_ NB113_114.out _)); (with_reducible repeat (first | refine kN82_ ?_ _ | refine kD82_ ?_ | refine kA82_ ?_ _)); exact BK113.out)) : P := h
theorem q82x18_ {P : Prop} (h : P := by rw [hw]; exact (by (with_reducible repeat (first | refine kN82_ ?_ _ | refine kD82_ ?_ | refine kA82_ ?_ _ | refine blk_far ?_ NB111_120.out _)); (with_reducible repeat (first | refine kN82_ ?_ _ | refine kD82_ ?_ | refine kA82_ ?_ _)); exact BK111.out)) : P := h
theorem q82x19_ {P : Prop} (h : P := by rw [hw]; exact (by (with_reducible repeat (first | refine kN82_ ?_ _ | refine kD82_ ?_ | refine kA82_ ?_ _ | refine blk_far ?_ NB112_120.out _)); (with_reducible repeat (first | refine kN82_ ?_ _ | refine kD82_ ?_ | refine kA82_ ?_ _)); exact BK112.out)) : P := h
theorem q82x20_ {P : Prop} (h : P := by rw [hw]; exact (by (with_reducible repeat (first | refine kN82_ ?_ _ | refine kD82_ ?_ | refine kA82_ ?_ _ | refine blk_far ?_ NB113_120.out _)); (with_reducible repeat (first | refine kN82_ ?_ _ | refine kD82_ ?_ | refine kA82_ ?_ _)); exact BK113.out)) : P := h
theorem q82x21_ {P : Prop} (h : P := by rw [hw]; exact (by (with_reducible repeat (first | refine kN82_ ?_ _ | refine kD82_ ?_ | refine kA82_ ?_ _ | refine blk_far ?_ NB114_120.out _)); (with_reducible repeat (first | refine kN82_ ?_ _ | refine kD82_ ?_ | refine kA82_ ?_ _)); exact BK114.out)) : P := h
theorem q82x22_ {P : Prop} (h : P := by repeat (first | (with_reducible first | exact HB.out | apply below_alloc | apply pw_below_drewN | apply below_drew1 | refine bS82_ ?_ GE111.out | refine bS82_ ?_ GE112.out | refine bS82_ ?_ GE113.out) | exact HB.out)) : P := h
theorem q82x23_ {P : Prop} (h : P := by rw [hw]; exact (by (with_reducible repeat (first | refine kN82_ ?_ _ | refine kD82_ ?_ | refine kA82_ ?_ _)); refine puts7_ (.bool x114000_2.f0) (.int .u32 x114000_2.f1.f0) (.int .u32 x114000_2.f1.f1) (.int .u32 x114000_2.f1.f2) (.int .u32 x114000_2.f1.f3) (.int .u32 x114000_2.f1.f4) (.int .u32 x114000_2.f1.f5) ?_; (with_reducible repeat (first | refine kN82_ ?_ _ | refine kD82_ ?_ | refine kA82_ ?_ _)); exact BK113.out)) : P := h
theorem q82x24_ {P : Prop} (h : P := by rw [hg]; exact Nat.ne_of_lt (blk_lt (g := gb112) (o := .cells #[.bool a1.f0, .int .u32 a1.f1.f0, .int .u32 a1.f1.f1, .int .u32 a1.f1.f2, .int .u32 a1.f1.f3, .int .u32 a1.f1.f4, .int .u32 a1.f1.f5] 25 (0, 0)) q82x6_)) : P := h
theorem q82x25_ {P : Prop} (h : P := by rw [hg]; exact Nat.ne_of_gt (blk_lt (g := gb112) (o := .cells #[.bool a1.f0, .int .u32 a1.f1.f0, .int .u32 a1.f1.f1, .int .u32 a1.f1.f2, .int .u32 a1.f1.f3, .int .u32 a1.f1.f4, .int .u32 a1.f1.f5] 25 (0, 0)) q82x6_)) : P := h
theorem q82x26_ {P : Prop} (h : P := by repeat (first | (with_reducible first | exact HB.out | apply below_alloc | apply pw_below_drewN | apply below_drew1 | refine bS82_ ?_ GE111.out | refine bS82_ ?_ GE112.out) | exact HB.out)) : P := h
theorem q82x27_ {P : Prop} (h : P := by (with_reducible repeat (first | refine kN82_ ?_ _ | refine kD82_ ?_ | refine kA82_ ?_ _)); exact BK114.out) : P := h
theorem q82x28_ {P : Prop} (h : P := by repeat (first | (with_reducible first | exact HB.out | apply below_alloc | apply pw_below_drewN | apply below_drew1 | refine bS82_ ?_ GE111.out) | exact HB.out)) : P := h
theorem q82x29_ {P : Prop} (h : P := by rw [hw]; exact (by (with_reducible repeat (first | refine kN82_ ?_ _ | refine kD82_ ?_ | refine kA82_ ?_ _ | refine blk_far ?_ NB111_113.out _)); (with_reducible repeat (first | refine kN82_ ?_ _ | refine kD82_ ?_ | refine kA82_ ?_ _)); exact BK111.out)) : P := h
theorem q82x30_ {P : Prop} (h : P := by rw [hw]; exact (by (with_reducible repeat (first | refine kN82_ ?_ _ | refine kD82_ ?_ | refine kA82_ ?_ _ | refine blk_far ?_ NB112_113.out _)); (with_reducible repeat (first | refine kN82_ ?_ _ | refine kD82_ ?_ | refine kA82_ ?_ _)); exact BK112.out)) : P := h
theorem q82x31_ {P : Prop} (h : P := by rw [hw]; exact (by (with_reducible repeat (first | refine kN82_ ?_ _ | refine kD82_ ?_ | refine kA82_ ?_ _ | refine blk_far ?_ NB114_113.out _)); (with_reducible repeat (first | refine kN82_ ?_ _ | refine kD82_ ?_ | refine kA82_ ?_ _)); exact BK114.out)) : P := h
theorem q82x32_ {P : Prop} (h : P := by rw [hw]; exact (by (with_reducible repeat (first | refine kN82_ ?_ _ | refine kD82_ ?_ | refine kA82_ ?_ _ | refine blk_far ?_ NB120_113.out _)); (with_reducible repeat (first | refine kN82_ ?_ _ | refine kD82_ ?_ | refine kA82_ ?_ _)); exact BK120.out)) : P := h
theorem q82x33_ {P : Prop} (h : P := by first | rfl | (simp; done) | (simp [*]; done)) : P := h
theorem q82x34_ {P : Prop} (h : P := by repeat (first | (with_reducible first | exact HB.out | apply below_alloc | apply pw_below_drewN | apply below_drew1) | exact HB.out)) : P := h
theorem q82x35_ {P : Prop} (h : P := by rw [hg]; exact Nat.ne_of_lt (blk_lt (g := gb113) (o := .cells #[.bool false, .int .u32 0, .int .u32 0, .int .u32 0, .int .u32 0, .int .u32 0, .int .u32 0] 25 (0, 0)) q82x7_)) : P := h
theorem q82x36_ {P : Prop} (h : P := by rw [hg]; exact Nat.ne_of_gt (blk_lt (g := gb113) (o := .cells #[.bool false, .int .u32 0, .int .u32 0, .int .u32 0, .int .u32 0, .int .u32 0, .int .u32 0] 25 (0, 0)) q82x7_)) : P := h
/-! ### spec_l01Mul: function 82 -/
def spec_l01Mul.f (k : Nat) (a0 : S24) (a1 : S24) : Option (S24 × Int) := (wun a0).bind fun x => (wun a1).bind fun y => some (wenc (Wide.fitZ (x * y)), Wide.fitC (x * y).natAbs)
theorem spec_l01Mul.mono : ∀ a0 a1 k, LeO (spec_l01Mul.f k a0 a1) (spec_l01Mul.f (k + 1) a0 a1) := by
 intros
 exact LeO.refl _
theorem spec_l01Mul.calls (k : Nat) (a0 : S24) (a1 : S24) (r1 : S24) (r2 : Int) (w : World) (h : spec_l01Mul.f k a0 a1 = some (r1, r2)) :
  Calls Try.prog 82 #[.agg #[.bool a0.f0, .int .u32 a0.f1.f0, .int .u32 a0.f1.f1, .int .u32 a0.f1.f2, .int .u32 a0.f1.f3, .int .u32 a0.f1.f4, .int .u32 a0.f1.f5], .agg #[.bool a1.f0, .int .u32 a1.f1.f0, .int .u32 a1.f1.f1, .int .u32 a1.f1.f2, .int .u32 a1.f1.f3, .int .u32 a1.f1.f4, .int .u32 a1.f1.f5]] w fun e w' => e = .returned (.tuple #[.agg #[.bool r1.f0, .int .u32 r1.f1.f0, .int .u32 r1.f1.f1, .int .u32 r1.f1.f2, .int .u32 r1.f1.f3, .int .u32 r1.f1.f4, .int .u32 r1.f1.f5], .int .i64 r2]) ∧ Below w.heap.size w w' := by
 obtain ⟨x, y, rfl, rfl, hx, hy, e⟩ := wun2 h
 obtain ⟨rfl, rfl⟩ := Prod.mk.inj (Option.some.inj e)
 exact Wide.sMulV w x y hx hy


set_option linter.defProp false
def aM83_ := @Aside0.mk
theorem q83x1_ {P : Prop} (h : P := by (with_reducible repeat (first | refine blk_drewN ?_ _ | refine blk_drew ?_ | refine blk_alloc ?_ _)); exact BK125.out) : P := h
theorem q83x2_ {P : Prop} (h : P := by repeat (first | (with_reducible first | exact HB.out | apply below_alloc | apply pw_below_drewN | apply below_drew1 | refine below_set ?_ GE125.out) | exact HB.out)) : P := h
theorem q83x3_ {P : Prop} (h : P := by repeat (first | (with_reducible first | exact HB.out | apply below_alloc | apply pw_below_drewN | apply below_drew1 | refine below_set ?_ GE125.out | refine below_set ?_ GE126.out) | exact HB.out)) : P := h
theorem q83x4_ {P : Prop} (h : P := by repeat (first | (with_reducible first | exact HB.out | apply below_alloc | apply pw_below_drewN | apply below_drew1 | refine below_set ?_ GE125.out | refine below_set ?_ GE128.out) | exact HB.out)) : P := h
theorem q83x5_ {P : Prop} (h : P := by repeat (first | (with_reducible first | exact HB.out | apply below_alloc | apply pw_below_drewN | apply below_drew1) | exact HB.out)) : P := h
theorem q83x6_ {P : Prop} (h : P := by rw [hw]; exact (by (with_reducible repeat (first | refine blk_drewN ?_ _ | refine blk_drew ?_ | refine blk_alloc ?_ _ | refine blk_far ?_ NB125_126.out _)); (with_reducible repeat (first | refine blk_drewN ?_ _ | refine blk_drew ?_ | refine blk_alloc ?_ _)); exact BK125.out)) : P := h
theorem q83x7_ {P : Prop} (h : P := by rw [hw]; exact (by (with_reducible repeat (first | refine blk_drewN ?_ _ | refine blk_drew ?_ | refine blk_alloc ?_ _ | refine blk_far ?_ NB125_128.out _)); (with_reducible repeat (first | refine blk_drewN ?_ _ | refine blk_drew ?_ | refine blk_alloc ?_ _)); exact BK125.out)) : P := h
theorem q83x8_ {P : Prop} (h : P := by rw [hw]; exact (by (with_reducible repeat (first | refine blk_drewN ?_ _ | refine blk_drew ?_ | refine blk_alloc ?_ _)); refine puts7_ (.bool false) (.int .u32 0) (.int .u32 0) (.int .u32 0) (.int .u32 0) (.int .u32 0) (.int .u32 0) ?_; (with_reducible repeat (first | refine blk_drewN ?_ _ | refine blk_drew ?_ | refine blk_alloc ?_ _)); exact BK125.out)) : P := h
theorem q83x9_ {P : Prop} (h : P := by (try simp only [List.map_toArray, List.map_cons, List.map_nil]); first | done | rfl | (simp only [List.length_drop, List.length_take]; rfl) | (simp only [List.drop_one]; done) | (simp only [List.drop_one]; rfl)) : P := h
theorem q83x10_ {P : Prop} (h : P := by rw [hg]; exact Nat.ne_of_lt (blk_lt (g := gb125) (o := .cells #[.bool false, .int .u32 0, .int .u32 0, .int .u32 0, .int .u32 0, .int .u32 0, .int .u32 0] 25 (0, 0)) q83x1_)) : P := h
theorem q83x11_ {P : Prop} (h : P := by rw [hg]; exact Nat.ne_of_gt (blk_lt (g := gb125) (o := .cells #[.bool false, .int .u32 0, .int .u32 0, .int .u32 0, .int .u32 0, .int .u32 0, .int .u32 0] 25 (0, 0)) q83x1_)) : P := h
/-! ### spec_l01Of: function 83 -/
def spec_l01Of.f (a0 : Int) : Option (S24) := if -9223372036854775808 ≤ a0 ∧ a0 < 9223372036854775808 then some (wenc a0) else none
theorem spec_l01Of.calls (a0 : Int) (r : S24) (w : World) (h : spec_l01Of.f a0 = some r) :
  Calls Try.prog 83 #[.int .i64 a0] w fun e w' => e = .returned (.agg #[.bool r.f0, .int .u32 r.f1.f0, .int .u32 r.f1.f1, .int .u32 r.f1.f2, .int .u32 r.f1.f3, .int .u32 r.f1.f4, .int .u32 r.f1.f5]) ∧ Below w.heap.size w w' := by
 unfold spec_l01Of.f at h
 split at h
 · rename_i c
   obtain rfl := Option.some.inj h
   exact Wide.sOf w a0 c.1 c.2
 · exact absurd h (by simp)





set_option linter.defProp false
def kA84_ := @blk_alloc
def kN84_ := @blk_drewN
def kD84_ := @blk_drew
def bS84_ := @below_set
def aM84_ := @Aside0.mk
def kB84_ := @blk_below
def kC84_ := @blk_cell
theorem q84x1_ {P : Prop} (h : P := by (with_reducible repeat (first | refine kN84_ ?_ _ | refine kD84_ ?_ | refine kA84_ ?_ _)); exact BK145.out) : P := h
theorem q84x2_ {P : Prop} (h : P := by (with_reducible repeat (first | refine kN84_ ?_ _ | refine kD84_ ?_ | refine kA84_ ?_ _)); exact BK148.out) : P := h
theorem q84x3_ {P : Prop} (h : P := by (with_reducible repeat (first | refine kN84_ ?_ _ | refine kD84_ ?_ | refine kA84_ ?_ _)); exact BK146.out) : P := h
theorem q84x4_ {P : Prop} (h : P := by (with_reducible repeat (first | refine kN84_ ?_ _ | refine kD84_ ?_ | refine kA84_ ?_ _)); exact BK149.out) : P := h
theorem q84x5_ {P : Prop} (h : P := by repeat (first | (with_reducible first | exact HB.out | apply below_alloc | apply pw_below_drewN | apply below_drew1 | refine bS84_ ?_ GE145.out | refine bS84_ ?_ GE146.out | refine bS84_ ?_ GE147.out | refine bS84_ ?_ GE148.out | refine bS84_ ?_ GE149.out) | exact HB.out)) : P := h
theorem q84x6_ {P : Prop} (h : P := by (with_reducible repeat (first | refine kN84_ ?_ _ | refine kD84_ ?_ | refine kA84_ ?_ _)); exact BK147.out) : P := h
theorem q84x7_ {P : Prop} (h : P := by repeat (first | (with_reducible first | exact HB.out | apply below_alloc | apply pw_below_drewN | apply below_drew1 | refine bS84_ ?_ GE145.out | refine bS84_ ?_ GE146.out | refine bS84_ ?_ GE147.out | refine bS84_ ?_ GE148.out) | exact HB.out)) : P := h
theorem q84x8_ {P : Prop} (h : P := by rw [hg]; exact Nat.ne_of_lt (blk_lt (g := gb145) (o := .cells #[.bool a0.f0, .int .u32 a0.f1.f0, .int .u32 a0.f1.f1, .int .u32 a0.f1.f2, .int .u32 a0.f1.f3, .int .u32 a0.f1.f4, .int .u32 a0.f1.f5] 25 (0, 0)) q84x1_)) : P := h
theorem q84x9_ {P : Prop} (h : P := by rw [hg]; exact Nat.ne_of_gt (blk_lt (g := gb145) (o := .cells #[.bool a0.f0, .int .u32 a0.f1.f0, .int .u32 a0.f1.f1, .int .u32 a0.f1.f2, .int .u32 a0.f1.f3, .int .u32 a0.f1.f4, .int .u32 a0.f1.f5] 25 (0, 0)) q84x1_)) : P := h
theorem q84x10_ {P : Prop} (h : P := by rw [hg]; exact Nat.ne_of_lt (blk_lt (g := gb146) (o := .cells #[.bool a1.f0, .int .u32 a1.f1.f0, .int .u32 a1.f1.f1, .int .u32 a1.f1.f2, .int .u32 a1.f1.f3, .int .u32 a1.f1.f4, .int .u32 a1.f1.f5] 25 (0, 0)) q84x3_)) : P := h
theorem q84x11_ {P : Prop} (h : P := by rw [hg]; exact Nat.ne_of_gt (blk_lt (g := gb146) (o := .cells #[.bool a1.f0, .int .u32 a1.f1.f0, .int .u32 a1.f1.f1, .int .u32 a1.f1.f2, .int .u32 a1.f1.f3, .int .u32 a1.f1.f4, .int .u32 a1.f1.f5] 25 (0, 0)) q84x3_)) : P := h
theorem q84x12_ {P : Prop} (h : P := by repeat (first | (with_reducible first | exact HB.out | apply below_alloc | apply pw_below_drewN | apply below_drew1 | refine bS84_ ?_ GE145.out | refine bS84_ ?_ GE146.out | refine bS84_ ?_ GE147.out) | exact HB.out)) : P := h
theorem q84x13_ {P : Prop} (h : P := by repeat (first | (with_reducible first | exact HB.out | apply below_alloc | apply pw_below_drewN | apply below_drew1 | refine bS84_ ?_ GE145.out | refine bS84_ ?_ GE146.out) | exact HB.out)) : P := h
theorem q84x14_ {P : Prop} (h : P := by repeat (first | (with_reducible first | exact HB.out | apply below_alloc | apply pw_below_drewN | apply below_drew1 | refine bS84_ ?_ GE145.out) | exact HB.out)) : P := h
theorem q84x15_ {P : Prop} (h : P := by (try simp only [List.map_toArray, List.map_cons, List.map_nil]); first | done | rfl | (simp only [List.length_drop, List.length_take]; rfl) | (simp only [List.drop_one]; done) | (simp only [List.drop_one]; rfl)) : P := h
theorem q84x16_ {P : Prop} (h : P := by rw [hg]; exact Nat.ne_of_lt (blk_lt (g := gb147) (o := .cells #[.bool false, .int .u32 0, .int .u32 0, .int .u32 0, .int .u32 0, .int .u32 0, .int .u32 0] 25 (0, 0)) q84x6_)) : P := h
theorem q84x17_ {P : Prop} (h : P := by rw [hg]; exact Nat.ne_of_gt (blk_lt (g := gb147) (o := .cells #[.bool false, .int .u32 0, .int .u32 0, .int .u32 0, .int .u32 0, .int .u32 0, .int .u32 0] 25 (0, 0)) q84x6_)) : P := h
theorem q84x18_ {P : Prop} (h : P := by repeat (first | (with_reducible first | exact HB.out | apply below_alloc | apply pw_below_drewN | apply below_drew1) | exact HB.out)) : P := h
theorem q84x19_ {P : Prop} (h : P := by repeat (first | (with_reducible first | exact HB.out | apply below_alloc | apply pw_below_drewN | apply below_drew1 | refine bS84_ ?_ GE145.out | refine bS84_ ?_ GE146.out | refine bS84_ ?_ GE147.out | refine bS84_ ?_ GE148.out | refine bS84_ ?_ GE149.out | refine bS84_ ?_ GE152.out) | exact HB.out)) : P := h
theorem q84x20_ {P : Prop} (h : P := by rw [hg]; exact Nat.ne_of_lt (blk_lt (g := gb148) (o := .cells #[.int .u32 a0.f1.f0, .int .u32 a0.f1.f1, .int .u32 a0.f1.f2, .int .u32 a0.f1.f3, .int .u32 a0.f1.f4, .int .u32 a0.f1.f5] 126 (0, 0)) q84x2_)) : P := h
theorem q84x21_ {P : Prop} (h : P := by rw [hg]; exact Nat.ne_of_gt (blk_lt (g := gb148) (o := .cells #[.int .u32 a0.f1.f0, .int .u32 a0.f1.f1, .int .u32 a0.f1.f2, .int .u32 a0.f1.f3, .int .u32 a0.f1.f4, .int .u32 a0.f1.f5] 126 (0, 0)) q84x2_)) : P := h
theorem q84x22_ {P : Prop} (h : P := by rw [hw]; exact (by (with_reducible repeat (first | refine kN84_ ?_ _ | refine kD84_ ?_ | refine kA84_ ?_ _)); refine puts6_ (.int .u32 0) (.int .u32 0) (.int .u32 0) (.int .u32 0) (.int .u32 0) (.int .u32 0) ?_; (with_reducible repeat (first | refine kN84_ ?_ _ | refine kD84_ ?_ | refine kA84_ ?_ _)); exact BK148.out)) : P := h
theorem q84x23_ {P : Prop} (h : P := by rw [hw]; exact (by (with_reducible repeat (first | refine kN84_ ?_ _ | refine kD84_ ?_ | refine kA84_ ?_ _)); refine puts6_ (.int .u32 0) (.int .u32 0) (.int .u32 0) (.int .u32 0) (.int .u32 0) (.int .u32 0) ?_; (with_reducible repeat (first | refine kN84_ ?_ _ | refine kD84_ ?_ | refine kA84_ ?_ _)); exact BK149.out)) : P := h
theorem q84x24_ {P : Prop} (h : P := by (with_reducible repeat (first | refine kN84_ ?_ _ | refine kD84_ ?_ | refine kA84_ ?_ _)); refine puts7_ (.bool false) (.int .u32 0) (.int .u32 0) (.int .u32 0) (.int .u32 0) (.int .u32 0) (.int .u32 0) ?_; (with_reducible repeat (first | refine kN84_ ?_ _ | refine kD84_ ?_ | refine kA84_ ?_ _)); exact BK147.out) : P := h
theorem q84x25_ {P : Prop} (h : P := by rw [hw]; exact (by (with_reducible repeat (first | refine kN84_ ?_ _ | refine kD84_ ?_ | refine kA84_ ?_ _ | refine blk_far ?_ NB145_148.out _)); (with_reducible repeat (first | refine kN84_ ?_ _ | refine kD84_ ?_ | refine kA84_ ?_ _)); exact BK145.out)) : P := h
theorem q84x26_ {P : Prop} (h : P := by rw [hw]; exact (by (with_reducible repeat (first | refine kN84_ ?_ _ | refine kD84_ ?_ | refine kA84_ ?_ _ | refine blk_far ?_ NB146_148.out _)); (with_reducible repeat (first | refine kN84_ ?_ _ | refine kD84_ ?_ | refine kA84_ ?_ _)); exact BK146.out)) : P := h
theorem q84x27_ {P : Prop} (h : P := by rw [hw]; exact (by (with_reducible repeat (first | refine kN84_ ?_ _ | refine kD84_ ?_ | refine kA84_ ?_ _ | refine blk_far ?_ NB147_148.out _)); (with_reducible repeat (first | refine kN84_ ?_ _ | refine kD84_ ?_ | refine kA84_ ?_ _)); exact BK147.out)) : P := h
theorem q84x28_ {P : Prop} (h : P := by rw [hw]; exact (by (with_reducible repeat (first | refine kN84_ ?_ _ | refine kD84_ ?_ | refine kA84_ ?_ _ | refine blk_far ?_ NB145_149.out _)); (with_reducible repeat (first | refine kN84_ ?_ _ | refine kD84_ ?_ | refine kA84_ ?_ _)); exact BK145.out)) : P := h
theorem q84x29_ {P : Prop} (h : P := by rw [hw]; exact (by (with_reducible repeat (first | refine kN84_ ?_ _ | refine kD84_ ?_ | refine kA84_ ?_ _ | refine blk_far ?_ NB146_149.out _)); (with_reducible repeat (first | refine kN84_ ?_ _ | refine kD84_ ?_ | refine kA84_ ?_ _)); exact BK146.out)) : P := h
theorem q84x30_ {P : Prop} (h : P := by rw [hw]; exact (by (with_reducible repeat (first | refine kN84_ ?_ _ | refine kD84_ ?_ | refine kA84_ ?_ _ | refine blk_far ?_ NB147_149.out _)); (with_reducible repeat (first | refine kN84_ ?_ _ | refine kD84_ ?_ | refine kA84_ ?_ _)); exact BK147.out)) : P := h
theorem q84x31_ {P : Prop} (h : P := by rw [hw]; exact (by (with_reducible repeat (first | refine kN84_ ?_ _ | refine kD84_ ?_ | refine kA84_ ?_ _ | refine blk_far ?_ NB148_149.out _)); (with_reducible repeat (first | refine kN84_ ?_ _ | refine kD84_ ?_ | refine kA84_ ?_ _)); exact BK148.out)) : P := h
theorem q84x32_ {P : Prop} (h : P := by rw [hw]; exact (by (with_reducible repeat (first | refine kN84_ ?_ _ | refine kD84_ ?_ | refine kA84_ ?_ _)); refine puts6_ (.int .u32 0) (.int .u32 0) (.int .u32 0) (.int .u32 0) (.int .u32 0) (.int .u32 0) ?_; (with_reducible repeat (first | refine kN84_ ?_ _ | refine kD84_ ?_ | refine kA84_ ?_ _)); exact BK152.out)) : P := h
theorem q84x33_ {P : Prop} (h : P := by rw [hw]; exact (by (with_reducible repeat (first | refine kN84_ ?_ _ | refine kD84_ ?_ | refine kA84_ ?_ _ | refine blk_far ?_ NB145_152.out _)); (with_reducible repeat (first | refine kN84_ ?_ _ | refine kD84_ ?_ | refine kA84_ ?_ _)); exact BK145.out)) : P := h
theorem q84x34_ {P : Prop} (h : P := by rw [hw]; exact (by (with_reducible repeat (first | refine kN84_ ?_ _ | refine kD84_ ?_ | refine kA84_ ?_ _ | refine blk_far ?_ NB146_152.out _)); (with_reducible repeat (first | refine kN84_ ?_ _ | refine kD84_ ?_ | refine kA84_ ?_ _)); exact BK146.out)) : P := h
theorem q84x35_ {P : Prop} (h : P := by rw [hw]; exact (by (with_reducible repeat (first | refine kN84_ ?_ _ | refine kD84_ ?_ | refine kA84_ ?_ _ | refine blk_far ?_ NB147_152.out _)); (with_reducible repeat (first | refine kN84_ ?_ _ | refine kD84_ ?_ | refine kA84_ ?_ _)); exact BK147.out)) : P := h
theorem q84x36_ {P : Prop} (h : P := by rw [hw]; exact (by (with_reducible repeat (first | refine kN84_ ?_ _ | refine kD84_ ?_ | refine kA84_ ?_ _ | refine blk_far ?_ NB148_152.out _)); (with_reducible repeat (first | refine kN84_ ?_ _ | refine kD84_ ?_ | refine kA84_ ?_ _)); exact BK148.out)) : P := h
theorem q84x37_ {P : Prop} (h : P := by rw [hw]; exact (by (with_reducible repeat (first | refine kN84_ ?_ _ | refine kD84_ ?_ | refine kA84_ ?_ _ | refine blk_far ?_ NB149_152.out _)); (with_reducible repeat (first | refine kN84_ ?_ _ | refine kD84_ ?_ | refine kA84_ ?_ _)); exact BK149.out)) : P := h
theorem q84x38_ {P : Prop} (h : P := by rw [hw]; exact (by (with_reducible repeat (first | refine kN84_ ?_ _ | refine kD84_ ?_ | refine kA84_ ?_ _ | refine blk_far ?_ NB145_147.out _)); (with_reducible repeat (first | refine kN84_ ?_ _ | refine kD84_ ?_ | refine kA84_ ?_ _)); exact BK145.out)) : P := h
theorem q84x39_ {P : Prop} (h : P := by rw [hw]; exact (by (with_reducible repeat (first | refine kN84_ ?_ _ | refine kD84_ ?_ | refine kA84_ ?_ _ | refine blk_far ?_ NB146_147.out _)); (with_reducible repeat (first | refine kN84_ ?_ _ | refine kD84_ ?_ | refine kA84_ ?_ _)); exact BK146.out)) : P := h
theorem q84x40_ {P : Prop} (h : P := by rw [hw]; exact (by (with_reducible repeat (first | refine kN84_ ?_ _ | refine kD84_ ?_ | refine kA84_ ?_ _ | refine blk_far ?_ NB148_147.out _)); (with_reducible repeat (first | refine kN84_ ?_ _ | refine kD84_ ?_ | refine kA84_ ?_ _)); exact BK148.out)) : P := h
theorem q84x41_ {P : Prop} (h : P := by rw [hw]; exact (by (with_reducible repeat (first | refine kN84_ ?_ _ | refine kD84_ ?_ | refine kA84_ ?_ _ | refine blk_far ?_ NB149_147.out _)); (with_reducible repeat (first | refine kN84_ ?_ _ | refine kD84_ ?_ | refine kA84_ ?_ _)); exact BK149.out)) : P := h
theorem q84x42_ {P : Prop} (h : P := by rw [hw]; exact (by (with_reducible repeat (first | refine kN84_ ?_ _ | refine kD84_ ?_ | refine kA84_ ?_ _ | refine blk_far ?_ NB152_147.out _)); (with_reducible repeat (first | refine kN84_ ?_ _ | refine kD84_ ?_ | refine kA84_ ?_ _)); exact BK152.out)) : P := h
theorem q84x43_ {P : Prop} (h : P := by rw [hg]; exact (below_size q84x18_)) : P := h
theorem q84x44_ {P : Prop} (h : P := by rw [hg]; exact (below_size q84x14_)) : P := h
theorem q84x45_ {P : Prop} (h : P := by rw [hg]; exact (below_size q84x13_)) : P := h
theorem q84x46_ {P : Prop} (h : P := by rw [hg]; exact (below_size q84x12_)) : P := h
theorem q84x47_ {P : Prop} (h : P := by rw [hg]; exact (below_size q84x7_)) : P := h
theorem q84x48_ {P : Prop} (h : P := by rw [hg]; exact Nat.ne_of_lt (blk_lt (g := gb149) (o := .cells #[.int .u32 a1.f1.f0, .int .u32 a1.f1.f1, .int .u32 a1.f1.f2, .int .u32 a1.f1.f3, .int .u32 a1.f1.f4, .int .u32 a1.f1.f5] 126 (0, 0)) q84x4_)) : P := h
theorem q84x49_ {P : Prop} (h : P := by rw [hg]; exact Nat.ne_of_gt (blk_lt (g := gb149) (o := .cells #[.int .u32 a1.f1.f0, .int .u32 a1.f1.f1, .int .u32 a1.f1.f2, .int .u32 a1.f1.f3, .int .u32 a1.f1.f4, .int .u32 a1.f1.f5] 126 (0, 0)) q84x4_)) : P := h
theorem q84x50_ {P : Prop} (h : P := by simp only [Act.put, List.setIfInBounds_toArray, List.set_cons_zero, List.set_cons_succ, i64_w, i32_w]; rfl) : P := h
/-! ### spec_l01Add: function 84 -/
def spec_l01Add.f (k : Nat) (a0 : S24) (a1 : S24) : Option (S24 × Int) := (wun a0).bind fun x => (wun a1).bind fun y => some (wenc (Wide.fitZ (x + y)), Wide.fitC (x + y).natAbs)
theorem spec_l01Add.mono : ∀ a0 a1 k, LeO (spec_l01Add.f k a0 a1) (spec_l01Add.f (k + 1) a0 a1) := by
 intros
 exact LeO.refl _
theorem spec_l01Add.calls (k : Nat) (a0 : S24) (a1 : S24) (r1 : S24) (r2 : Int) (w : World) (h : spec_l01Add.f k a0 a1 = some (r1, r2)) :
  Calls Try.prog 84 #[.agg #[.bool a0.f0, .int .u32 a0.f1.f0, .int .u32 a0.f1.f1, .int .u32 a0.f1.f2, .int .u32 a0.f1.f3, .int .u32 a0.f1.f4, .int .u32 a0.f1.f5], .agg #[.bool a1.f0, .int .u32 a1.f1.f0, .int .u32 a1.f1.f1, .int .u32 a1.f1.f2, .int .u32 a1.f1.f3, .int .u32 a1.f1.f4, .int .u32 a1.f1.f5]] w fun e w' => e = .returned (.tuple #[.agg #[.bool r1.f0, .int .u32 r1.f1.f0, .int .u32 r1.f1.f1, .int .u32 r1.f1.f2, .int .u32 r1.f1.f3, .int .u32 r1.f1.f4, .int .u32 r1.f1.f5], .int .i64 r2]) ∧ Below w.heap.size w w' := by
 obtain ⟨x, y, rfl, rfl, hx, hy, e⟩ := wun2 h
 obtain ⟨rfl, rfl⟩ := Prod.mk.inj (Option.some.inj e)
 exact Wide.sAddV w x y hx hy


/-! ### spec_l01Neg: function 85 -/
def spec_l01Neg.f (a0 : S24) : Option (S24) := (spec_l01Made.f (!a0.f0) a0.f1).bind fun t161 => (some t161)
set_option maxHeartbeats 8000000 in
set_option maxRecDepth 100000 in
theorem spec_l01Neg.calls (a0 : S24) (r : S24) (w : World) (h : spec_l01Neg.f a0 = some r) :
    Calls Try.prog 85 #[.agg #[.bool a0.f0, .int .u32 a0.f1.f0, .int .u32 a0.f1.f1, .int .u32 a0.f1.f2, .int .u32 a0.f1.f3, .int .u32 a0.f1.f4, .int .u32 a0.f1.f5]] w fun e w' => e = .returned (.agg #[.bool r.f0, .int .u32 r.f1.f0, .int .u32 r.f1.f1, .int .u32 r.f1.f2, .int .u32 r.f1.f3, .int .u32 r.f1.f4, .int .u32 r.f1.f5]) ∧ Below w.heap.size w w' := by
  have hu25 := Try.underlying25
  have hu23 := Try.underlying23
  have HB := Aside0.mk (Below.refl w.heap.size w)
  have H : ((spec_l01Made.f (!a0.f0) a0.f1).bind fun t161 => (some t161)) = some r := h
  clear h
  replace H := Option.bind_eq_some_iff.mp H
  obtain ⟨t161, A20, H⟩ := H
  replace H : (some t161) = some r := H
  have A2 := Aside0.mk A20
  clear A20
  obtain rfl := Option.some.inj H
  go_enter Try.func85, Try.ntmps85
  go_wp2_with (first | ((with_reducible refine gate_dst (N := 1) rfl ?_); refine box_event ?hg (N := 1) ?hd (cs := #[.bool a0.f0, .int .u32 a0.f1.f0, .int .u32 a0.f1.f1, .int .u32 a0.f1.f2, .int .u32 a0.f1.f3, .int .u32 a0.f1.f4, .int .u32 a0.f1.f5]) (t := 25) ?hr ?_; (case hd => rfl); (case hg => rfl); (case hr => first | (go_simp; done) | (go_simp; rfl)); intro gb159 hg w3 hbox hb; have n0_ := Aside0.mk (below_step (by repeat (first | (with_reducible first | exact HB.out | apply below_alloc | apply pw_below_drewN | apply below_drew1) | exact HB.out)) hb); have n1_ := Aside0.mk (hbox); have n2_ := Aside0.mk ((by rw [hg]; exact (below_size (by repeat (first | (with_reducible first | exact HB.out | apply below_alloc | apply pw_below_drewN | apply below_drew1) | exact HB.out))) : w.heap.size ≤ gb159)); have n3_ := Aside0.mk ((by rw [hg]; exact (below_size (by repeat (first | (with_reducible first | exact HB.out | apply below_alloc | apply pw_below_drewN | apply below_drew1) | exact HB.out))) : w.heap.size ≤ gb159)); clear HB; have HB := n0_; have BK159 := n1_; have GW159 := n2_; have GE159 := n3_; clear n0_ n1_ n2_ n3_; clear hb hbox hg) | ((with_reducible refine gate_dst (N := 2) rfl ?_); refine box_event ?hg (N := 2) ?hd (cs := #[.bool false, .int .u32 0, .int .u32 0, .int .u32 0, .int .u32 0, .int .u32 0, .int .u32 0]) (t := 25) ?hr ?_; (case hd => rfl); (case hg => rfl); (case hr => first | (go_simp; done) | (go_simp; rfl)); intro gb160 hg w4 hbox hb; have n0_ := Aside0.mk (blk_below (g := gb159) (o := .cells #[.bool a0.f0, .int .u32 a0.f1.f0, .int .u32 a0.f1.f1, .int .u32 a0.f1.f2, .int .u32 a0.f1.f3, .int .u32 a0.f1.f4, .int .u32 a0.f1.f5] 25 (0, 0)) (by (with_reducible repeat (first | refine blk_drewN ?_ _ | refine blk_drew ?_ | refine blk_alloc ?_ _)); exact BK159.out) hb); have n1_ := Aside0.mk (below_step (by repeat (first | (with_reducible first | exact HB.out | apply below_alloc | apply pw_below_drewN | apply below_drew1 | refine below_set ?_ GE159.out) | exact HB.out)) hb); have n2_ := Aside0.mk (hbox); have n3_ := Aside0.mk ((by rw [hg]; exact (below_size (by repeat (first | (with_reducible first | exact HB.out | apply below_alloc | apply pw_below_drewN | apply below_drew1 | refine below_set ?_ GE159.out) | exact HB.out))) : w.heap.size ≤ gb160)); have n4_ := Aside0.mk ((by rw [hg]; exact (below_size (by repeat (first | (with_reducible first | exact HB.out | apply below_alloc | apply pw_below_drewN | apply below_drew1 | refine below_set ?_ GE159.out) | exact HB.out))) : w.heap.size ≤ gb160)); have n5_ := Aside0.mk ((by rw [hg]; exact Nat.ne_of_lt (blk_lt (g := gb159) (o := .cells #[.bool a0.f0, .int .u32 a0.f1.f0, .int .u32 a0.f1.f1, .int .u32 a0.f1.f2, .int .u32 a0.f1.f3, .int .u32 a0.f1.f4, .int .u32 a0.f1.f5] 25 (0, 0)) (by (with_reducible repeat (first | refine blk_drewN ?_ _ | refine blk_drew ?_ | refine blk_alloc ?_ _)); exact BK159.out)) : gb159 ≠ gb160)); have n6_ := Aside0.mk ((by rw [hg]; exact Nat.ne_of_gt (blk_lt (g := gb159) (o := .cells #[.bool a0.f0, .int .u32 a0.f1.f0, .int .u32 a0.f1.f1, .int .u32 a0.f1.f2, .int .u32 a0.f1.f3, .int .u32 a0.f1.f4, .int .u32 a0.f1.f5] 25 (0, 0)) (by (with_reducible repeat (first | refine blk_drewN ?_ _ | refine blk_drew ?_ | refine blk_alloc ?_ _)); exact BK159.out)) : gb160 ≠ gb159)); clear BK159 HB; have BK159 := n0_; have HB := n1_; have BK160 := n2_; have GW160 := n3_; have GE160 := n4_; have NB159_160 := n5_; have NB160_159 := n6_; clear n0_ n1_ n2_ n3_ n4_ n5_ n6_; clear hb hbox hg; have hnb5 := NB159_160.out; have hnc5 := NB160_159.out; obtain ⟨hcz6_0, hcz6_1, hcz6_2, hcz6_3, hcz6_4, hcz6_5, hcz6_6⟩ := cells7_ (show w4.heap[gb159]? = some (.cells #[.bool a0.f0, .int .u32 a0.f1.f0, .int .u32 a0.f1.f1, .int .u32 a0.f1.f2, .int .u32 a0.f1.f3, .int .u32 a0.f1.f4, .int .u32 a0.f1.f5] 25 (0, 0)) from BK159.out); obtain ⟨hfz6_0, hfz6_1, hfz6_2, hfz6_3, hfz6_4, hfz6_5, hfz6_6⟩ := frozen7_ BK159.out) | ((with_reducible refine gate_callee (f := 112) rfl ?_); refine goesL_ (some 8) rfl rfl Try.func112 (by kernel_rfl) rfl #[.bool (!a0.f0), .agg #[.int .u32 a0.f1.f0, .int .u32 a0.f1.f1, .int .u32 a0.f1.f2, .int .u32 a0.f1.f3, .int .u32 a0.f1.f4, .int .u32 a0.f1.f5]] rfl (by (try simp only [List.map_toArray, List.map_cons, List.map_nil]); first | done | rfl | (simp only [List.length_drop, List.length_take]; rfl) | (simp only [List.drop_one]; done) | (simp only [List.drop_one]; rfl)) ?_; (with_reducible refine (spec_l01Made.calls (!a0.f0) a0.f1 t161 _ A2.out).mono ?_); rintro e w7 ⟨rfl, hb⟩; refine ⟨_, rfl, ?_⟩; have n0_ := Aside0.mk (blk_below (g := gb159) (o := .cells #[.bool a0.f0, .int .u32 a0.f1.f0, .int .u32 a0.f1.f1, .int .u32 a0.f1.f2, .int .u32 a0.f1.f3, .int .u32 a0.f1.f4, .int .u32 a0.f1.f5] 25 (0, 0)) (by (with_reducible repeat (first | refine blk_drewN ?_ _ | refine blk_drew ?_ | refine blk_alloc ?_ _)); exact BK159.out) hb); have n1_ := Aside0.mk (blk_below (g := gb160) (o := .cells #[.bool false, .int .u32 0, .int .u32 0, .int .u32 0, .int .u32 0, .int .u32 0, .int .u32 0] 25 (0, 0)) (by (with_reducible repeat (first | refine blk_drewN ?_ _ | refine blk_drew ?_ | refine blk_alloc ?_ _)); exact BK160.out) hb); have n2_ := Aside0.mk (below_step (by repeat (first | (with_reducible first | exact HB.out | apply below_alloc | apply pw_below_drewN | apply below_drew1 | refine below_set ?_ GE159.out | refine below_set ?_ GE160.out) | exact HB.out)) hb); clear BK159 BK160 HB; have BK159 := n0_; have BK160 := n1_; have HB := n2_; clear n0_ n1_ n2_; (try clear hb); (try clear hb2); (try clear hk); (try clear hi); obtain ⟨hcz8_0, hcz8_1, hcz8_2, hcz8_3, hcz8_4, hcz8_5, hcz8_6⟩ := cells7_ (show w7.heap[gb160]? = some (.cells #[.bool false, .int .u32 0, .int .u32 0, .int .u32 0, .int .u32 0, .int .u32 0, .int .u32 0] 25 (0, 0)) from BK160.out); obtain ⟨hfz8_0, hfz8_1, hfz8_2, hfz8_3, hfz8_4, hfz8_5, hfz8_6⟩ := frozen7_ BK160.out))
  refine bodyPost_ret (results_cell_row rfl _ _ gb160 25 #[.bool t161.f0, .int .u32 t161.f1.f0, .int .u32 t161.f1.f1, .int .u32 t161.f1.f2, .int .u32 t161.f1.f3, .int .u32 t161.f1.f4, .int .u32 t161.f1.f5] (0, 0) _ rfl (by (with_reducible repeat (first | refine blk_drewN ?_ _ | refine blk_drew ?_ | refine blk_alloc ?_ _)); refine puts7_ (.bool false) (.int .u32 0) (.int .u32 0) (.int .u32 0) (.int .u32 0) (.int .u32 0) (.int .u32 0) ?_; (with_reducible repeat (first | refine blk_drewN ?_ _ | refine blk_drew ?_ | refine blk_alloc ?_ _)); exact BK160.out) Try.underlying25 rfl (by kernel_rfl)) rfl ?_
  exact ⟨by first | rfl | (simp [errW_none, errW_some] <;> rfl) | (simp [*, errW_none, errW_some] <;> rfl), by repeat (first | (with_reducible first | exact HB.out | apply below_alloc | apply pw_below_drewN | apply below_drew1 | refine below_set ?_ GE159.out | refine below_set ?_ GE160.out) | exact HB.out)⟩

/-! ### spec_l01Bits: function 131 -/
mutual
def spec_l01Bits.l0 : Nat → Int → S23 → Option (Int)
  | 0, _, _ => none
  | k + 1, x3, x1000 => if x3 ≥ 0 then (if 0 ≤ x3 then (if x3 < 6 then (if (rd [x1000.f0, x1000.f1, x1000.f2, x1000.f3, x1000.f4, x1000.f5] x3) = 0 then (spec_l01Bits.l0 k (wrap64 (x3 - 1)) x1000) else (spec_l01Bits.l1 k x3 0 (rd [x1000.f0, x1000.f1, x1000.f2, x1000.f3, x1000.f4, x1000.f5] x3))) else (none)) else (none)) else (some 0)
def spec_l01Bits.l1 : Nat → Int → Int → Int → Option (Int)
  | 0, _, _, _ => none
  | k + 1, x3, x4, x5 => if x5 > 0 then (spec_l01Bits.l1 k x3 (wrap64 (x4 + 1)) (x5 / 2)) else (some (wrap64 ((wrap64 (32 * x3)) + x4)))
end
def spec_l01Bits.f (k : Nat) (a0 : S23) : Option (Int) := spec_l01Bits.l0 k 5 a0
theorem spec_l01Bits.mono_l : ∀ k, (∀ y0 y1, LeO (spec_l01Bits.l0 k y0 y1) (spec_l01Bits.l0 (k + 1) y0 y1)) ∧ (∀ y0 y1 y2, LeO (spec_l01Bits.l1 k y0 y1 y2) (spec_l01Bits.l1 (k + 1) y0 y1 y2))
  | 0 => ⟨fun _ _ r h => by simp [spec_l01Bits.l0] at h, fun _ _ _ r h => by simp [spec_l01Bits.l1] at h⟩
  | k + 1 => by
    obtain ⟨ih0, ih1⟩ := spec_l01Bits.mono_l k
    refine ⟨?_, ?_⟩
    · intro y0 y1
      unfold spec_l01Bits.l0
      repeat' first
      | (with_reducible exact ih0 _ _)
      | (with_reducible exact ih1 _ _ _)
      | (with_reducible exact LeO.refl _)
      | (with_reducible exact LeO.none _)
      | (with_reducible refine LeO.ite ?_ ?_)
      | (with_reducible refine LeO.bind ?_ (fun _ => ?_))
      | exact ih0 _ _
      | exact ih1 _ _ _
      | exact LeO.none _
      | refine LeO.ite ?_ ?_
      | refine LeO.bind ?_ (fun _ => ?_)
    · intro y0 y1 y2
      unfold spec_l01Bits.l1
      repeat' first
      | (with_reducible exact ih0 _ _)
      | (with_reducible exact ih1 _ _ _)
      | (with_reducible exact LeO.refl _)
      | (with_reducible exact LeO.none _)
      | (with_reducible refine LeO.ite ?_ ?_)
      | (with_reducible refine LeO.bind ?_ (fun _ => ?_))
      | exact ih0 _ _
      | exact ih1 _ _ _
      | exact LeO.none _
      | refine LeO.ite ?_ ?_
      | refine LeO.bind ?_ (fun _ => ?_)
theorem spec_l01Bits.mono : ∀ a0 k, LeO (spec_l01Bits.f k a0) (spec_l01Bits.f (k + 1) a0) := by
  intro a0 k
  obtain ⟨ih0, ih1⟩ := spec_l01Bits.mono_l k
  unfold spec_l01Bits.f
  repeat' first
      | (with_reducible exact ih0 _ _)
      | (with_reducible exact ih1 _ _ _)
      | (with_reducible exact LeO.refl _)
      | (with_reducible exact LeO.none _)
      | (with_reducible refine LeO.ite ?_ ?_)
      | (with_reducible refine LeO.bind ?_ (fun _ => ?_))
      | exact ih0 _ _
      | exact ih1 _ _ _
      | exact LeO.none _
      | refine LeO.ite ?_ ?_
      | refine LeO.bind ?_ (fun _ => ?_)
set_option maxHeartbeats 8000000 in
set_option maxRecDepth 100000 in
theorem spec_l01Bits.calls (k : Nat) (B0_ O0_ : Nat) (a0 : S23) (r : Int) (w : World) (hq0_ : w.cell? ⟨B0_, O0_, none⟩ = some (.int .u32 a0.f0) ∧ w.cell? ⟨B0_, O0_ + 1, none⟩ = some (.int .u32 a0.f1) ∧ w.cell? ⟨B0_, O0_ + 2, none⟩ = some (.int .u32 a0.f2) ∧ w.cell? ⟨B0_, O0_ + 3, none⟩ = some (.int .u32 a0.f3) ∧ w.cell? ⟨B0_, O0_ + 4, none⟩ = some (.int .u32 a0.f4) ∧ w.cell? ⟨B0_, O0_ + 5, none⟩ = some (.int .u32 a0.f5)) (h : spec_l01Bits.f k a0 = some r) :
    Calls Try.prog 131 #[.pointer (some ⟨B0_, O0_, none⟩)] w fun e w' => e = .returned (.int .i64 r) ∧ Drawn0 w w' := by
  have HQ0_ := Aside0.mk hq0_
  clear hq0_
  have H : (spec_l01Bits.l0 k 5 a0) = some r := h
  clear h
  have H' := Aside0.mk H
  clear H
  go_enter Try.func131, Try.ntmps131
  go_wp2
  go_loopg [3] k (fun kq v3 w' => ∃ (x3_1 : Int), v3 = .int .i64 x3_1 ∧ Aside0 (spec_l01Bits.l0 kq x3_1 a0 = some r) ∧ Aside0 (kq ≤ k) ∧ Drawn0 w w')
  case atStart => exact ⟨(5), (by first | rfl | (simp; done) | (simp [*]; done)), H', ⟨Nat.le_refl _⟩, by repeat (first | exact Drawn0.refl _ | apply Drawn0.step)⟩
  case round =>
    clear H'
    try clear c1
    obtain ⟨x3_1, rfl, HA, HK1, ⟨m1, rfl⟩⟩ := hrel
    cases gk with
    | zero => exact absurd HA.out (by simp [spec_l01Bits.l0])
    | succ k1 =>
      have H := HA.out
      clear HA
      simp only [spec_l01Bits.l0] at H
      by_cases c2 : x3_1 ≥ 0
      · rw [if_pos c2] at H
        have c2b0 : decide (0 ≤ x3_1) = true := decide_eq_true c2
        clear c2
        have c3 : 0 ≤ x3_1 := of_decide_eq_true c2b0
        rw [if_pos c3] at H
        clear c3
        by_cases c4 : x3_1 < 6
        · rw [if_pos c4] at H
          have c4b0 : decide (x3_1 < 6) = true := decide_eq_true c4
          clear c4
          by_cases c5 : (rd [a0.f0, a0.f1, a0.f2, a0.f3, a0.f4, a0.f5] x3_1) = 0
          · rw [if_pos c5] at H
            have c5b0 : ((rd [a0.f0, a0.f1, a0.f2, a0.f3, a0.f4, a0.f5] x3_1) == 0) = true := beq_iff_eq.mpr c5
            have c5b1 : ((rd [a0.f0, a0.f1, a0.f2, a0.f3, a0.f4, a0.f5] x3_1) != 0) = false := bne_eq_false_iff_eq.mpr c5
            clear c5
            have H' := Aside0.mk H
            clear H
            obtain ⟨hxr6_0, hxr6_1, hxr6_2, hxr6_3, hxr6_4, hxr6_5⟩ := HQ0_.out
            have HP162 := Aside0.mk (show 0 ≤ (x3_1 : Int) ∧ (x3_1 : Int) < 6 from ⟨of_decide_eq_true (by first | (with_reducible assumption) | assumption), of_decide_eq_true (by first | (with_reducible assumption) | assumption)⟩)
            have hx162_0 : w.cell? ⟨B0_, O0_ + (x3_1 : Int).toNat, none⟩ = some (.int .u32 (rd [a0.f0, a0.f1, a0.f2, a0.f3, a0.f4, a0.f5] x3_1)) := (by (obtain ⟨hz0_, hz1_, hz2_, hz3_, hz4_, hz5_⟩ := HQ0_.out; rcases (show x3_1 = 0 ∨ x3_1 = 1 ∨ x3_1 = 2 ∨ x3_1 = 3 ∨ x3_1 = 4 ∨ x3_1 = 5 from (by have h_ := HP162.out; omega)) with rfl | rfl | rfl | rfl | rfl | rfl <;> first | exact hz0_ | exact hz1_ | exact hz2_ | exact hz3_ | exact hz4_ | exact hz5_))
            have hx162_1 : w.cell? ((⟨B0_, O0_, none⟩ : Addr).add (x3_1 : Int).toNat) = some (.int .u32 (rd [a0.f0, a0.f1, a0.f2, a0.f3, a0.f4, a0.f5] x3_1)) := (congrArg _ (add_off _ _ _)).trans hx162_0
            have hpz162 := eq_true HP162.out.1
            have hpy162 := eq_true HP162.out.2
            go_wp2
            go_roundg k1
            case measure => have := HK1.out; omega
            case rel => exact ⟨(wrap64 (x3_1 - 1)), (by first | rfl | (simp; done) | (simp [*]; done)), H', ⟨by have := HK1.out; omega⟩, by repeat (first | exact Drawn0.refl _ | apply Drawn0.step)⟩
          · rw [if_neg c5] at H
            have c5b0 : ((rd [a0.f0, a0.f1, a0.f2, a0.f3, a0.f4, a0.f5] x3_1) == 0) = false := beq_eq_false_iff_ne.mpr c5
            have c5b1 : ((rd [a0.f0, a0.f1, a0.f2, a0.f3, a0.f4, a0.f5] x3_1) != 0) = true := bne_iff_ne.mpr c5
            have H' := Aside0.mk H
            clear H
            obtain ⟨hxr7_0, hxr7_1, hxr7_2, hxr7_3, hxr7_4, hxr7_5⟩ := HQ0_.out
            have HP162 := Aside0.mk (show 0 ≤ (x3_1 : Int) ∧ (x3_1 : Int) < 6 from ⟨of_decide_eq_true (by first | (with_reducible assumption) | assumption), of_decide_eq_true (by first | (with_reducible assumption) | assumption)⟩)
            have hx162_0 : w.cell? ⟨B0_, O0_ + (x3_1 : Int).toNat, none⟩ = some (.int .u32 (rd [a0.f0, a0.f1, a0.f2, a0.f3, a0.f4, a0.f5] x3_1)) := (by (obtain ⟨hz0_, hz1_, hz2_, hz3_, hz4_, hz5_⟩ := HQ0_.out; rcases (show x3_1 = 0 ∨ x3_1 = 1 ∨ x3_1 = 2 ∨ x3_1 = 3 ∨ x3_1 = 4 ∨ x3_1 = 5 from (by have h_ := HP162.out; omega)) with rfl | rfl | rfl | rfl | rfl | rfl <;> first | exact hz0_ | exact hz1_ | exact hz2_ | exact hz3_ | exact hz4_ | exact hz5_))
            have hx162_1 : w.cell? ((⟨B0_, O0_, none⟩ : Addr).add (x3_1 : Int).toNat) = some (.int .u32 (rd [a0.f0, a0.f1, a0.f2, a0.f3, a0.f4, a0.f5] x3_1)) := (congrArg _ (add_off _ _ _)).trans hx162_0
            have hpz162 := eq_true HP162.out.1
            have hpy162 := eq_true HP162.out.2
            have HP163 := Aside0.mk (show 0 ≤ (x3_1 : Int) ∧ (x3_1 : Int) < 6 from ⟨of_decide_eq_true (by first | (with_reducible assumption) | assumption), of_decide_eq_true (by first | (with_reducible assumption) | assumption)⟩)
            have hx163_0 : w.cell? ⟨B0_, O0_ + (x3_1 : Int).toNat, none⟩ = some (.int .u32 (rd [a0.f0, a0.f1, a0.f2, a0.f3, a0.f4, a0.f5] x3_1)) := (by (obtain ⟨hz0_, hz1_, hz2_, hz3_, hz4_, hz5_⟩ := HQ0_.out; rcases (show x3_1 = 0 ∨ x3_1 = 1 ∨ x3_1 = 2 ∨ x3_1 = 3 ∨ x3_1 = 4 ∨ x3_1 = 5 from (by have h_ := HP163.out; omega)) with rfl | rfl | rfl | rfl | rfl | rfl <;> first | exact hz0_ | exact hz1_ | exact hz2_ | exact hz3_ | exact hz4_ | exact hz5_))
            have hx163_1 : w.cell? ((⟨B0_, O0_, none⟩ : Addr).add (x3_1 : Int).toNat) = some (.int .u32 (rd [a0.f0, a0.f1, a0.f2, a0.f3, a0.f4, a0.f5] x3_1)) := (congrArg _ (add_off _ _ _)).trans hx163_0
            have hpz163 := eq_true HP163.out.1
            have hpy163 := eq_true HP163.out.2
            go_wp2
            go_loopg [4, 5] k1 (fun kq v4 v5 w' => ∃ (x4_2 : Int) (x5_2 : Int), v4 = .int .i64 x4_2 ∧ v5 = .int .u32 x5_2 ∧ Aside0 (spec_l01Bits.l1 kq x3_1 x4_2 x5_2 = some r) ∧ Aside0 (kq ≤ k1) ∧ Drawn0 w w')
            case atStart => exact ⟨(0), ((rd [a0.f0, a0.f1, a0.f2, a0.f3, a0.f4, a0.f5] x3_1)), (by first | rfl | (simp; done) | (simp [*]; done)), (by first | rfl | (simp; done) | (simp [*]; done)), H', ⟨Nat.le_refl _⟩, by repeat (first | exact Drawn0.refl _ | apply Drawn0.step)⟩
            case round =>
              clear H'
              try clear c1
              try clear hx1
              try clear c2
              try clear c2b0
              try clear p2
              try clear c3
              try clear c4
              try clear c4b0
              try clear c5
              try clear c5b0
              try clear c5b1
              try clear p6
              try clear hx162_0
              try clear hx162_1
              try clear hx163_0
              try clear hx163_1
              obtain ⟨x4_2, x5_2, rfl, rfl, HA, HK2, ⟨m2, rfl⟩⟩ := hrel
              cases gk with
              | zero => exact absurd HA.out (by simp [spec_l01Bits.l1])
              | succ k2 =>
                have H := HA.out
                clear HA
                simp only [spec_l01Bits.l1] at H
                by_cases c8 : x5_2 > 0
                · rw [if_pos c8] at H
                  have c8b0 : decide (0 < x5_2) = true := decide_eq_true c8
                  clear c8
                  have H' := Aside0.mk H
                  clear H
                  go_wp2
                  go_roundg k2
                  case measure => have := HK1.out; have := HK2.out; omega
                  case rel => exact ⟨(wrap64 (x4_2 + 1)), (x5_2 / 2), (by first | rfl | (simp; done) | (simp [*]; done)), (by first | rfl | (simp; done) | (simp [*]; done)), H', ⟨by have := HK1.out; have := HK2.out; omega⟩, by repeat (first | exact Drawn0.refl _ | apply Drawn0.step)⟩
                · rw [if_neg c8] at H
                  have c8b0 : decide (0 < x5_2) = false := decide_eq_false c8
                  clear c8
                  obtain rfl := Option.some.inj H
                  go_wp2
                  go_ret
                  exact ⟨by first | rfl | (simp; done) | (simp [*]; done), by repeat (first | exact Drawn0.refl _ | apply Drawn0.step)⟩
        · rw [if_neg c4] at H
          exact absurd H (by simp)
      · rw [if_neg c2] at H
        have c2b0 : decide (0 ≤ x3_1) = false := decide_eq_false c2
        clear c2
        obtain rfl := Option.some.inj H
        go_wp2
        go_ret
        exact ⟨by first | rfl | (simp; done) | (simp [*]; done), by repeat (first | exact Drawn0.refl _ | apply Drawn0.step)⟩

set_option linter.defProp false
def bS122_ := @below_set
theorem q122x1_ {P : Prop} (h : P := by repeat (first | (with_reducible first | exact HB.out | apply below_alloc | apply pw_below_drewN | apply below_drew1 | refine bS122_ ?_ GE164.out) | exact HB.out)) : P := h
theorem q122x2_ {P : Prop} (h : P := by (obtain ⟨hz0_, hz1_, hz2_, hz3_, hz4_, hz5_⟩ := HQ0_.out; replace hz0_ := ((show Below w.heap.size w wr from by repeat (first | (with_reducible first | exact HB.out | apply below_alloc | apply pw_below_drewN | apply below_drew1 | refine bS122_ ?_ GE164.out | refine bS122_ ?_ GE167.out) | exact HB.out)).cell (World.block_lt_of_cell? w _ hz0_)).trans hz0_; replace hz1_ := ((show Below w.heap.size w wr from by repeat (first | (with_reducible first | exact HB.out | apply below_alloc | apply pw_below_drewN | apply below_drew1 | refine bS122_ ?_ GE164.out | refine bS122_ ?_ GE167.out) | exact HB.out)).cell (World.block_lt_of_cell? w _ hz1_)).trans hz1_; replace hz2_ := ((show Below w.heap.size w wr from by repeat (first | (with_reducible first | exact HB.out | apply below_alloc | apply pw_below_drewN | apply below_drew1 | refine bS122_ ?_ GE164.out | refine bS122_ ?_ GE167.out) | exact HB.out)).cell (World.block_lt_of_cell? w _ hz2_)).trans hz2_; replace hz3_ := ((show Below w.heap.size w wr from by repeat (first | (with_reducible first | exact HB.out | apply below_alloc | apply pw_below_drewN | apply below_drew1 | refine bS122_ ?_ GE164.out | refine bS122_ ?_ GE167.out) | exact HB.out)).cell (World.block_lt_of_cell? w _ hz3_)).trans hz3_; replace hz4_ := ((show Below w.heap.size w wr from by repeat (first | (with_reducible first | exact HB.out | apply below_alloc | apply pw_below_drewN | apply below_drew1 | refine bS122_ ?_ GE164.out | refine bS122_ ?_ GE167.out) | exact HB.out)).cell (World.block_lt_of_cell? w _ hz4_)).trans hz4_; replace hz5_ := ((show Below w.heap.size w wr from by repeat (first | (with_reducible first | exact HB.out | apply below_alloc | apply pw_below_drewN | apply below_drew1 | refine bS122_ ?_ GE164.out | refine bS122_ ?_ GE167.out) | exact HB.out)).cell (World.block_lt_of_cell? w _ hz5_)).trans hz5_; rcases (show x7_2 = 0 ∨ x7_2 = 1 ∨ x7_2 = 2 ∨ x7_2 = 3 ∨ x7_2 = 4 ∨ x7_2 = 5 from (by have h_ := HP168.out; omega)) with rfl | rfl | rfl | rfl | rfl | rfl <;> first | exact hz0_ | exact hz1_ | exact hz2_ | exact hz3_ | exact hz4_ | exact hz5_)) : P := h
theorem q122x3_ {P : Prop} (h : P := by rw [hw]; exact (by repeat (first | (with_reducible first | exact HB.out | apply below_alloc | apply pw_below_drewN | apply below_drew1 | refine bS122_ ?_ GE164.out | refine bS122_ ?_ GE167.out) | exact HB.out))) : P := h
theorem q122x4_ {P : Prop} (h : P := by rw [hw]; exact (by (with_reducible repeat (first | refine blk_drewN ?_ _ | refine blk_drew ?_ | refine blk_alloc ?_ _ | refine blk_far ?_ NB164_167.out _)); (with_reducible repeat (first | refine blk_drewN ?_ _ | refine blk_drew ?_ | refine blk_alloc ?_ _)); exact BK164.out)) : P := h
theorem q122x5_ {P : Prop} (h : P := by first | (with_reducible assumption) | assumption) : P := h
theorem q122x6_ {P : Prop} (h : P := by rw [hw]; exact (by (with_reducible repeat (first | refine blk_drewN ?_ _ | refine blk_drew ?_ | refine blk_alloc ?_ _)); refine puts6_ (.int .u32 0) (.int .u32 0) (.int .u32 0) (.int .u32 0) (.int .u32 0) (.int .u32 0) ?_; (with_reducible repeat (first | refine blk_drewN ?_ _ | refine blk_drew ?_ | refine blk_alloc ?_ _)); exact BK164.out)) : P := h
theorem q122x7_ {P : Prop} (h : P := by rw [hw]; exact (by (with_reducible repeat (first | refine blk_drewN ?_ _ | refine blk_drew ?_ | refine blk_alloc ?_ _)); refine blk_put (cs := #[.int .u32 x168000_2.f0, .int .u32 x168000_2.f1, .int .u32 x168000_2.f2, .int .u32 x168000_2.f3, .int .u32 x168000_2.f4, .int .u32 x168000_2.f5]) ?_ (((ji25) : Int).toNat) _ (by rcases (show (ji25) = 0 ∨ (ji25) = 1 ∨ (ji25) = 2 ∨ (ji25) = 3 ∨ (ji25) = 4 ∨ (ji25) = 5 from (by have h_ := HP170.out; omega)) with rfl | rfl | rfl | rfl | rfl | rfl <;> rfl); (with_reducible repeat (first | refine blk_drewN ?_ _ | refine blk_drew ?_ | refine blk_alloc ?_ _)); exact BK167.out)) : P := h
theorem q122x8_ {P : Prop} (h : P := by (with_reducible repeat (first | refine blk_drewN ?_ _ | refine blk_drew ?_ | refine blk_alloc ?_ _)); exact BK164.out) : P := h
theorem q122x9_ {P : Prop} (h : P := by (rcases (show (ji25) = 0 ∨ (ji25) = 1 ∨ (ji25) = 2 ∨ (ji25) = 3 ∨ (ji25) = 4 ∨ (ji25) = 5 from (by have h_ := HP169.out; omega)) with rfl | rfl | rfl | rfl | rfl | rfl <;> first | exact (blk_cell BK167.out 0).trans rfl | exact (blk_cell BK167.out 1).trans rfl | exact (blk_cell BK167.out 2).trans rfl | exact (blk_cell BK167.out 3).trans rfl | exact (blk_cell BK167.out 4).trans rfl | exact (blk_cell BK167.out 5).trans rfl)) : P := h
theorem q122x10_ {P : Prop} (h : P := by (rcases (show (ji25) = 0 ∨ (ji25) = 1 ∨ (ji25) = 2 ∨ (ji25) = 3 ∨ (ji25) = 4 ∨ (ji25) = 5 from (by have h_ := HP170.out; omega)) with rfl | rfl | rfl | rfl | rfl | rfl <;> first | exact (blk_cell BK167.out 0).trans rfl | exact (blk_cell BK167.out 1).trans rfl | exact (blk_cell BK167.out 2).trans rfl | exact (blk_cell BK167.out 3).trans rfl | exact (blk_cell BK167.out 4).trans rfl | exact (blk_cell BK167.out 5).trans rfl)) : P := h
theorem q122x11_ {P : Prop} (h : P := by rw [hw]; exact (by (with_reducible repeat (first | refine blk_drewN ?_ _ | refine blk_drew ?_ | refine blk_alloc ?_ _ | refine blk_far ?_ NB167_164.out _)); (with_reducible repeat (first | refine blk_drewN ?_ _ | refine blk_drew ?_ | refine blk_alloc ?_ _)); exact BK167.out)) : P := h
theorem q122x12_ {P : Prop} (h : P := by repeat (first | (with_reducible first | exact HB.out | apply below_alloc | apply pw_below_drewN | apply below_drew1) | exact HB.out)) : P := h
theorem q122x13_ {P : Prop} (h : P := by (try simp only [List.map_toArray, List.map_cons, List.map_nil]); first | done | rfl | (simp only [List.length_drop, List.length_take]; rfl) | (simp only [List.drop_one]; done) | (simp only [List.drop_one]; rfl)) : P := h
theorem q122x14_ {P : Prop} (h : P := by first | rfl | (simp; done) | (simp [*]; done)) : P := h
/-! ### spec_l01UpMag: function 122, by hand -/
theorem wrapId_ {n : Int} (h0 : -9223372036854775808 ≤ n) (h1 : n ≤ 9223372036854775807) : wrap64 n = n := by
  unfold wrap64; omega
/-- How many bits a size has. -/
def BL (m s : Nat) : Prop := (m = 0 → s = 0) ∧ (m ≠ 0 → 1 ≤ s ∧ 2 ^ (s - 1) ≤ m ∧ m < 2 ^ s)
theorem rd_wlm (m i : Nat) (h : i < 6) : rd [(wlm m).f0, (wlm m).f1, (wlm m).f2, (wlm m).f3, (wlm m).f4, (wlm m).f5] (i : Int) = ((Wide.lb m i : Nat) : Int) := by
  rcases (by omega : i = 0 ∨ i = 1 ∨ i = 2 ∨ i = 3 ∨ i = 4 ∨ i = 5) with rfl | rfl | rfl | rfl | rfl | rfl <;> rfl
theorem BL_half {v l : Nat} (h0 : v ≠ 0) (h : BL (v / 2) l) : BL v (l + 1) := by
  refine ⟨fun z => absurd z h0, fun _ => ⟨by omega, ?_, ?_⟩⟩
  · by_cases c : v / 2 = 0
    · rw [h.1 c]; simp; omega
    · obtain ⟨a, b, d⟩ := h.2 c
      have e : 2 ^ (l + 1 - 1) = 2 ^ (l - 1) * 2 := by rw [← Nat.pow_succ]; congr 1; omega
      rw [e]; omega
  · by_cases c : v / 2 = 0
    · rw [h.1 c]; simp; omega
    · obtain ⟨a, b, d⟩ := h.2 c
      rw [Nat.pow_succ]; omega
theorem bits_low (n : Nat) (hn : n ≤ 6) : ∀ (t v c : Nat), v < 2 ^ t → t ≤ 32 → c + t ≤ 64 → ∃ l, BL v l ∧ l ≤ t ∧ Ev (fun k => spec_l01Bits.l1 k (n : Int) (c : Int) (v : Int)) (((32 * n + c + l : Nat)) : Int) := by
  intro t
  induction t with
  | zero =>
    intro v c hv ht hc
    obtain rfl : v = 0 := by simpa using hv
    refine ⟨0, ⟨fun _ => rfl, fun z => absurd rfl z⟩, Nat.le_refl _, Ev.step (fun k => by rw [spec_l01Bits.l1]) (Ev.congr (fun k => if_neg (by decide)) ?_)⟩
    rw [wrapId_ (n := 32 * (n : Int)) (by omega) (by omega), wrapId_ (by omega) (by omega)]
    exact Ev.congr (fun k => by rw [show (32 * (n : Int) + (c : Int)) = ((32 * n + c + 0 : Nat) : Int) by omega]) (Ev.now _)
  | succ t ih =>
    intro v c hv ht hc
    by_cases h0 : v = 0
    · subst h0
      refine ⟨0, ⟨fun _ => rfl, fun z => absurd rfl z⟩, Nat.zero_le _, Ev.step (fun k => by rw [spec_l01Bits.l1]) (Ev.congr (fun k => if_neg (by decide)) ?_)⟩
      rw [wrapId_ (n := 32 * (n : Int)) (by omega) (by omega), wrapId_ (by omega) (by omega)]
      exact Ev.congr (fun k => by rw [show (32 * (n : Int) + (c : Int)) = ((32 * n + c + 0 : Nat) : Int) by omega]) (Ev.now _)
    · obtain ⟨l, h1, h2, h3⟩ := ih (v / 2) (c + 1) (by rw [Nat.pow_succ] at hv; omega) (by omega) (by omega)
      refine ⟨l + 1, BL_half h0 h1, by omega, Ev.step (fun k => by rw [spec_l01Bits.l1]) (Ev.congr (fun k => if_pos (by omega)) ?_)⟩
      have e1 : wrap64 ((c : Int) + 1) = ((c + 1 : Nat) : Int) := by rw [wrapId_ (by omega) (by omega)]; omega
      have e2 : (v : Int) / 2 = ((v / 2 : Nat) : Int) := by omega
      rw [e1, e2, show 32 * n + c + (l + 1) = 32 * n + (c + 1) + l by omega]
      exact h3
theorem BL_top {m n l : Nat} (hm : m < 4294967296 ^ (n + 1)) (h0 : m / 4294967296 ^ n ≠ 0) (h : BL (m / 4294967296 ^ n) l) : BL m (32 * n + l) := by
  obtain ⟨a, b, c⟩ := h.2 h0
  have e : (4294967296 : Nat) ^ n = 2 ^ (32 * n) := by rw [Nat.pow_mul]
  have hp : 0 < 2 ^ (32 * n) := Nat.pow_pos (by decide)
  rw [e] at b c h0
  refine ⟨fun z => absurd (by rw [z]; exact Nat.zero_div _) h0, fun _ => ⟨by omega, ?_, ?_⟩⟩
  · rw [show 32 * n + l - 1 = (l - 1) + 32 * n by omega, Nat.pow_add]
    exact (Nat.le_div_iff_mul_le hp).1 b
  · rw [Nat.add_comm, Nat.pow_add]
    exact (Nat.div_lt_iff_lt_mul hp).1 c
theorem specBits_ev : ∀ (n m : Nat), n ≤ 6 → m < 4294967296 ^ n → ∃ s, BL m s ∧ s ≤ 32 * n ∧ Ev (fun k => spec_l01Bits.l0 k ((n : Int) - 1) (wlm m)) (s : Int) := by
  intro n
  induction n with
  | zero =>
    intro m hn hm
    obtain rfl : m = 0 := by simpa using hm
    exact ⟨0, ⟨fun _ => rfl, fun z => absurd rfl z⟩, Nat.le_refl _, Ev.step (fun k => by rw [spec_l01Bits.l0]) (Ev.congr (fun k => (if_neg (show ¬ ((((0 : Nat) : Int) - 1) ≥ 0) by decide)).trans (show some (0 : Int) = some ((0 : Nat) : Int) from rfl)) (Ev.now _))⟩
  | succ n ih =>
    intro m hn hm
    have hv : Wide.lb m n = m / 4294967296 ^ n := by
      unfold Wide.lb
      exact Nat.mod_eq_of_lt ((Nat.div_lt_iff_lt_mul (Wide.bpos n)).2 (by rw [Nat.mul_comm, ← Nat.pow_succ]; exact hm))
    have e0 : ((n + 1 : Nat) : Int) - 1 = (n : Int) := by omega
    have step : ∀ r : Int, Ev (fun k => if ((Wide.lb m n : Nat) : Int) = 0 then spec_l01Bits.l0 k ((n : Int) - 1) (wlm m) else spec_l01Bits.l1 k (n : Int) 0 ((Wide.lb m n : Nat) : Int)) r → Ev (fun k => spec_l01Bits.l0 k (((n + 1 : Nat) : Int) - 1) (wlm m)) r := by
      intro r h
      rw [e0]
      refine Ev.step (fun k => by rw [spec_l01Bits.l0, rd_wlm m n (by omega), wrapId_ (n := (n : Int) - 1) (by omega) (by omega)]) (Ev.congr (fun k => if_pos (by omega)) (Ev.congr (fun k => if_pos (by omega)) (Ev.congr (fun k => if_pos (by omega)) h)))
    by_cases h0 : Wide.lb m n = 0
    · have hm2 : m < 4294967296 ^ n := by
        rw [hv] at h0
        exact (Nat.div_eq_zero_iff_lt (Wide.bpos n)).1 h0
      obtain ⟨s, h1, h2, h3⟩ := ih m (by omega) hm2
      exact ⟨s, h1, by omega, step _ (Ev.congr (fun k => if_pos (by omega)) h3)⟩
    · obtain ⟨l, h1, h2, h3⟩ := bits_low n (by omega) 32 (Wide.lb m n) 0 (Wide.lb_lt m n) (by omega) (by omega)
      rw [hv] at h0 h1
      exact ⟨32 * n + l, BL_top hm h0 h1, by omega, step _ (Ev.congr (fun k => if_neg (by rw [hv]; omega)) h3)⟩
/-- A size times a power of two fits where its bits and the power come to no more than all limbs. -/
theorem BL_fit {m s b : Nat} (h : BL m s) : (192 < s + b ∧ ¬ m = 0) ↔ ¬ m * 2 ^ b < 4294967296 ^ 6 := by
  have e : (4294967296 : Nat) ^ 6 = 2 ^ 192 := by decide
  rw [e]
  by_cases h0 : m = 0
  · rw [h0, Nat.zero_mul]
    exact ⟨fun z => absurd rfl z.2, fun z => absurd (Nat.pow_pos (by decide)) z⟩
  · obtain ⟨a, c, d⟩ := h.2 h0
    constructor
    · intro z hlt
      have h1 : 2 ^ (s - 1) * 2 ^ b ≤ m * 2 ^ b := Nat.mul_le_mul_right _ c
      rw [← Nat.pow_add] at h1
      have h2 : 2 ^ 192 ≤ 2 ^ (s - 1 + b) := Nat.pow_le_pow_right (by decide) (by omega)
      omega
    · intro z
      refine ⟨?_, h0⟩
      by_cases q : 192 < s + b
      · exact q
      · exfalso
        apply z
        have h1 : m * 2 ^ b < 2 ^ s * 2 ^ b := Nat.mul_lt_mul_of_pos_right d (Nat.pow_pos (by decide))
        rw [← Nat.pow_add] at h1
        exact Nat.lt_of_lt_of_le h1 (Nat.pow_le_pow_right (by decide) (by omega))
theorem bits_ok : Wide.BitsOk := fun m hm => by
  obtain ⟨s, hs1, hs2, K, hs3⟩ := specBits_ev 6 m (by decide) hm
  refine ⟨s, ⟨by omega, ?_⟩, fun W B O hP => ?_⟩
  · by_cases z : m = 0
    · rw [z]; exact Nat.pow_pos (by decide)
    · exact (hs1.2 z).2.2
  · refine (spec_l01Bits.calls K B O (wlm m) s W ⟨hP 0 (by decide), hP 1 (by decide), hP 2 (by decide), hP 3 (by decide), hP 4 (by decide), hP 5 (by decide)⟩ (hs3 K (Nat.le_refl _))).mono ?_
    rintro e w' ⟨rfl, ⟨nd, rfl⟩⟩
    exact ⟨rfl, pw_below_drewN (Below.refl _ _) nd⟩
def spec_l01UpMag.f (k : Nat) (a0 : S23) (a1 : Int) : Option (S23 × Bool) := (mun a0).bind fun m => if 0 ≤ a1 ∧ a1 < 192 then (if m * 2 ^ a1.toNat < 4294967296 ^ 6 then some (wlm (m * 2 ^ a1.toNat), true) else some (wlm 0, false)) else none
theorem spec_l01UpMag.mono : ∀ a0 a1 k, LeO (spec_l01UpMag.f k a0 a1) (spec_l01UpMag.f (k + 1) a0 a1) := fun _ _ _ => LeO.refl _
theorem spec_l01UpMag.calls (k : Nat) (B0_ O0_ : Nat) (a0 : S23) (a1 : Int) (r1 : S23) (r2 : Bool) (w : World) (hq0_ : w.cell? ⟨B0_, O0_, none⟩ = some (.int .u32 a0.f0) ∧ w.cell? ⟨B0_, O0_ + 1, none⟩ = some (.int .u32 a0.f1) ∧ w.cell? ⟨B0_, O0_ + 2, none⟩ = some (.int .u32 a0.f2) ∧ w.cell? ⟨B0_, O0_ + 3, none⟩ = some (.int .u32 a0.f3) ∧ w.cell? ⟨B0_, O0_ + 4, none⟩ = some (.int .u32 a0.f4) ∧ w.cell? ⟨B0_, O0_ + 5, none⟩ = some (.int .u32 a0.f5)) (h : spec_l01UpMag.f k a0 a1 = some (r1, r2)) :
  Calls Try.prog 122 #[.pointer (some ⟨B0_, O0_, none⟩), .int .i64 a1] w fun e w' => e = .returned (.tuple #[.agg #[.int .u32 r1.f0, .int .u32 r1.f1, .int .u32 r1.f2, .int .u32 r1.f3, .int .u32 r1.f4, .int .u32 r1.f5], .bool r2]) ∧ Below w.heap.size w w' := by
  unfold spec_l01UpMag.f at h
  obtain ⟨m, hm, h2⟩ := Option.bind_eq_some_iff.mp h
  clear h
  obtain ⟨rfl, hx⟩ := mun_some hm
  have h := h2
  clear h2
  by_cases c : 0 ≤ a1 ∧ a1 < 192
  · rw [if_pos c] at h
    obtain ⟨b, rfl⟩ : ∃ b : Nat, a1 = (b : Int) := ⟨a1.toNat, by omega⟩
    rw [Int.toNat_natCast] at h
    obtain ⟨s, hs1, hs2, K, hs3⟩ := specBits_ev 6 m (by decide) hx
    have hP : Wide.P6 w B0_ O0_ m := by
      intro j hj
      rcases (by omega : j = 0 ∨ j = 1 ∨ j = 2 ∨ j = 3 ∨ j = 4 ∨ j = 5) with rfl | rfl | rfl | rfl | rfl | rfl
      · exact hq0_.1
      · exact hq0_.2.1
      · exact hq0_.2.2.1
      · exact hq0_.2.2.2.1
      · exact hq0_.2.2.2.2.1
      · exact hq0_.2.2.2.2.2
    refine (Wide.sUp w B0_ O0_ m b s hP hx (by omega) ⟨by omega, by omega⟩ (fun W hb => ?_)).mono ?_
    · have q := hP.below hb
      refine (spec_l01Bits.calls K B0_ O0_ (wlm m) s W ⟨q 0 (by decide), q 1 (by decide), q 2 (by decide), q 3 (by decide), q 4 (by decide), q 5 (by decide)⟩ (hs3 K (Nat.le_refl _))).mono ?_
      rintro e w' ⟨rfl, ⟨nd, rfl⟩⟩
      exact ⟨rfl, pw_below_drewN (Below.refl _ _) nd⟩
    · rintro e w' ⟨rfl, hb⟩
      refine ⟨?_, hb⟩
      have hf := BL_fit (b := b) hs1
      unfold Wide.upR
      by_cases z : m * 2 ^ b < 4294967296 ^ 6
      · rw [if_pos z] at h
        obtain ⟨rfl, rfl⟩ := Prod.mk.inj (Option.some.inj h)
        rw [if_neg (fun e => hf.1 ⟨by omega, e.2⟩ z)]
        rfl
      · rw [if_neg z] at h
        obtain ⟨rfl, rfl⟩ := Prod.mk.inj (Option.some.inj h)
        have y := hf.2 z
        rw [if_pos ⟨by omega, y.2⟩]
        rfl
  · rw [if_neg c] at h
    exact absurd h (by simp)

set_option linter.defProp false
def aM97_ := @Aside0.mk
theorem q97x1_ {P : Prop} (h : P := by (with_reducible repeat (first | refine blk_drewN ?_ _ | refine blk_drew ?_ | refine blk_alloc ?_ _)); exact BK173.out) : P := h
theorem q97x2_ {P : Prop} (h : P := by (with_reducible repeat (first | refine blk_drewN ?_ _ | refine blk_drew ?_ | refine blk_alloc ?_ _)); exact BK175.out) : P := h
theorem q97x3_ {P : Prop} (h : P := by repeat (first | (with_reducible first | exact HB.out | apply below_alloc | apply pw_below_drewN | apply below_drew1 | refine below_set ?_ GE173.out | refine below_set ?_ GE174.out | refine below_set ?_ GE175.out) | exact HB.out)) : P := h
theorem q97x4_ {P : Prop} (h : P := by (with_reducible repeat (first | refine blk_drewN ?_ _ | refine blk_drew ?_ | refine blk_alloc ?_ _)); exact BK174.out) : P := h
theorem q97x5_ {P : Prop} (h : P := by rw [hg]; exact Nat.ne_of_lt (blk_lt (g := gb173) (o := .cells #[.bool a0.f0, .int .u32 a0.f1.f0, .int .u32 a0.f1.f1, .int .u32 a0.f1.f2, .int .u32 a0.f1.f3, .int .u32 a0.f1.f4, .int .u32 a0.f1.f5] 25 (0, 0)) q97x1_)) : P := h
theorem q97x6_ {P : Prop} (h : P := by rw [hg]; exact Nat.ne_of_gt (blk_lt (g := gb173) (o := .cells #[.bool a0.f0, .int .u32 a0.f1.f0, .int .u32 a0.f1.f1, .int .u32 a0.f1.f2, .int .u32 a0.f1.f3, .int .u32 a0.f1.f4, .int .u32 a0.f1.f5] 25 (0, 0)) q97x1_)) : P := h
theorem q97x7_ {P : Prop} (h : P := by repeat (first | (with_reducible first | exact HB.out | apply below_alloc | apply pw_below_drewN | apply below_drew1 | refine below_set ?_ GE173.out | refine below_set ?_ GE174.out | refine below_set ?_ GE175.out | refine below_set ?_ GE178.out) | exact HB.out)) : P := h
theorem q97x8_ {P : Prop} (h : P := by repeat (first | (with_reducible first | exact HB.out | apply below_alloc | apply pw_below_drewN | apply below_drew1 | refine below_set ?_ GE173.out | refine below_set ?_ GE174.out) | exact HB.out)) : P := h
theorem q97x9_ {P : Prop} (h : P := by repeat (first | (with_reducible first | exact HB.out | apply below_alloc | apply pw_below_drewN | apply below_drew1 | refine below_set ?_ GE173.out) | exact HB.out)) : P := h
theorem q97x10_ {P : Prop} (h : P := by repeat (first | (with_reducible first | exact HB.out | apply below_alloc | apply pw_below_drewN | apply below_drew1) | exact HB.out)) : P := h
theorem q97x11_ {P : Prop} (h : P := by rw [hg]; exact Nat.ne_of_lt (blk_lt (g := gb174) (o := .cells #[.bool false, .int .u32 0, .int .u32 0, .int .u32 0, .int .u32 0, .int .u32 0, .int .u32 0] 25 (0, 0)) q97x4_)) : P := h
theorem q97x12_ {P : Prop} (h : P := by rw [hg]; exact Nat.ne_of_gt (blk_lt (g := gb174) (o := .cells #[.bool false, .int .u32 0, .int .u32 0, .int .u32 0, .int .u32 0, .int .u32 0, .int .u32 0] 25 (0, 0)) q97x4_)) : P := h
theorem q97x13_ {P : Prop} (h : P := by (try simp only [List.map_toArray, List.map_cons, List.map_nil]); first | done | rfl | (simp only [List.length_drop, List.length_take]; rfl) | (simp only [List.drop_one]; done) | (simp only [List.drop_one]; rfl)) : P := h
theorem q97x14_ {P : Prop} (h : P := by rw [hw]; exact (by (with_reducible repeat (first | refine blk_drewN ?_ _ | refine blk_drew ?_ | refine blk_alloc ?_ _)); refine puts7_ (.bool false) (.int .u32 0) (.int .u32 0) (.int .u32 0) (.int .u32 0) (.int .u32 0) (.int .u32 0) ?_; (with_reducible repeat (first | refine blk_drewN ?_ _ | refine blk_drew ?_ | refine blk_alloc ?_ _)); exact BK174.out)) : P := h
theorem q97x15_ {P : Prop} (h : P := by rw [hw]; exact (by (with_reducible repeat (first | refine blk_drewN ?_ _ | refine blk_drew ?_ | refine blk_alloc ?_ _)); refine puts6_ (.int .u32 0) (.int .u32 0) (.int .u32 0) (.int .u32 0) (.int .u32 0) (.int .u32 0) ?_; (with_reducible repeat (first | refine blk_drewN ?_ _ | refine blk_drew ?_ | refine blk_alloc ?_ _)); exact BK175.out)) : P := h
theorem q97x16_ {P : Prop} (h : P := by rw [hw]; exact (by (with_reducible repeat (first | refine blk_drewN ?_ _ | refine blk_drew ?_ | refine blk_alloc ?_ _)); refine puts6_ (.int .u32 0) (.int .u32 0) (.int .u32 0) (.int .u32 0) (.int .u32 0) (.int .u32 0) ?_; (with_reducible repeat (first | refine blk_drewN ?_ _ | refine blk_drew ?_ | refine blk_alloc ?_ _)); exact BK178.out)) : P := h
theorem q97x17_ {P : Prop} (h : P := by rw [hw]; exact (by (with_reducible repeat (first | refine blk_drewN ?_ _ | refine blk_drew ?_ | refine blk_alloc ?_ _ | refine blk_far ?_ NB173_175.out _)); (with_reducible repeat (first | refine blk_drewN ?_ _ | refine blk_drew ?_ | refine blk_alloc ?_ _)); exact BK173.out)) : P := h
theorem q97x18_ {P : Prop} (h : P := by rw [hw]; exact (by (with_reducible repeat (first | refine blk_drewN ?_ _ | refine blk_drew ?_ | refine blk_alloc ?_ _ | refine blk_far ?_ NB174_175.out _)); (with_reducible repeat (first | refine blk_drewN ?_ _ | refine blk_drew ?_ | refine blk_alloc ?_ _)); exact BK174.out)) : P := h
theorem q97x19_ {P : Prop} (h : P := by rw [hw]; exact (by (with_reducible repeat (first | refine blk_drewN ?_ _ | refine blk_drew ?_ | refine blk_alloc ?_ _ | refine blk_far ?_ NB173_178.out _)); (with_reducible repeat (first | refine blk_drewN ?_ _ | refine blk_drew ?_ | refine blk_alloc ?_ _)); exact BK173.out)) : P := h
theorem q97x20_ {P : Prop} (h : P := by rw [hw]; exact (by (with_reducible repeat (first | refine blk_drewN ?_ _ | refine blk_drew ?_ | refine blk_alloc ?_ _ | refine blk_far ?_ NB174_178.out _)); (with_reducible repeat (first | refine blk_drewN ?_ _ | refine blk_drew ?_ | refine blk_alloc ?_ _)); exact BK174.out)) : P := h
theorem q97x21_ {P : Prop} (h : P := by rw [hw]; exact (by (with_reducible repeat (first | refine blk_drewN ?_ _ | refine blk_drew ?_ | refine blk_alloc ?_ _ | refine blk_far ?_ NB175_178.out _)); (with_reducible repeat (first | refine blk_drewN ?_ _ | refine blk_drew ?_ | refine blk_alloc ?_ _)); exact BK175.out)) : P := h
theorem q97x22_ {P : Prop} (h : P := by rw [hw]; exact (by (with_reducible repeat (first | refine blk_drewN ?_ _ | refine blk_drew ?_ | refine blk_alloc ?_ _ | refine blk_far ?_ NB173_174.out _)); (with_reducible repeat (first | refine blk_drewN ?_ _ | refine blk_drew ?_ | refine blk_alloc ?_ _)); exact BK173.out)) : P := h
theorem q97x23_ {P : Prop} (h : P := by rw [hw]; exact (by (with_reducible repeat (first | refine blk_drewN ?_ _ | refine blk_drew ?_ | refine blk_alloc ?_ _ | refine blk_far ?_ NB175_174.out _)); (with_reducible repeat (first | refine blk_drewN ?_ _ | refine blk_drew ?_ | refine blk_alloc ?_ _)); exact BK175.out)) : P := h
theorem q97x24_ {P : Prop} (h : P := by rw [hw]; exact (by (with_reducible repeat (first | refine blk_drewN ?_ _ | refine blk_drew ?_ | refine blk_alloc ?_ _ | refine blk_far ?_ NB178_174.out _)); (with_reducible repeat (first | refine blk_drewN ?_ _ | refine blk_drew ?_ | refine blk_alloc ?_ _)); exact BK178.out)) : P := h
theorem q97x25_ {P : Prop} (h : P := by rw [hg]; exact Nat.ne_of_lt (blk_lt (g := gb175) (o := .cells #[.int .u32 a0.f1.f0, .int .u32 a0.f1.f1, .int .u32 a0.f1.f2, .int .u32 a0.f1.f3, .int .u32 a0.f1.f4, .int .u32 a0.f1.f5] 126 (0, 0)) q97x2_)) : P := h
theorem q97x26_ {P : Prop} (h : P := by rw [hg]; exact Nat.ne_of_gt (blk_lt (g := gb175) (o := .cells #[.int .u32 a0.f1.f0, .int .u32 a0.f1.f1, .int .u32 a0.f1.f2, .int .u32 a0.f1.f3, .int .u32 a0.f1.f4, .int .u32 a0.f1.f5] 126 (0, 0)) q97x2_)) : P := h
/-! ### spec_l01Up: function 97 -/
def spec_l01Up.f (k : Nat) (a0 : S24) (a1 : Int) : Option (S24 × Int) := (spec_l01UpMag.f k a0.f1 a1).bind fun bt176 => (if bt176.2 = true then ((spec_l01Made.f a0.f0 bt176.1).bind fun t179 => (some (t179, 0))) else (some ((⟨false, (⟨0, 0, 0, 0, 0, 0⟩ : S23)⟩ : S24), 3)))
theorem spec_l01Up.mono : ∀ a0 a1 k, LeO (spec_l01Up.f k a0 a1) (spec_l01Up.f (k + 1) a0 a1) := by
 intro a0 a1 k
 unfold spec_l01Up.f
 repeat' first
   | (with_reducible exact spec_l01UpMag.mono _ _ _)
   | (with_reducible exact LeO.refl _)
   | (with_reducible exact LeO.none _)
   | (with_reducible refine LeO.ite ?_ ?_)
   | (with_reducible refine LeO.bind ?_ (fun _ => ?_))
   | exact spec_l01UpMag.mono _ _ _
   | exact LeO.none _
   | refine LeO.ite ?_ ?_
   | refine LeO.bind ?_ (fun _ => ?_)
set_option maxHeartbeats 8000000 in
set_option maxRecDepth 100000 in
theorem spec_l01Up.calls (k : Nat) (a0 : S24) (a1 : Int) (r1 : S24) (r2 : Int) (w : World) (h : spec_l01Up.f k a0 a1 = some (r1, r2)) :
  Calls Try.prog 97 #[.agg #[.bool a0.f0, .int .u32 a0.f1.f0, .int .u32 a0.f1.f1, .int .u32 a0.f1.f2, .int .u32 a0.f1.f3, .int .u32 a0.f1.f4, .int .u32 a0.f1.f5], .int .i64 a1] w fun e w' => e = .returned (.tuple #[.agg #[.bool r1.f0, .int .u32 r1.f1.f0, .int .u32 r1.f1.f1, .int .u32 r1.f1.f2, .int .u32 r1.f1.f3, .int .u32 r1.f1.f4, .int .u32 r1.f1.f5], .int .i64 r2]) ∧ Below w.heap.size w w' := by
 have hu25 := Try.underlying25
 have hu23 := Try.underlying23
 have hu126 := Try.underlying126
 have HB := aM97_ (Below.refl w.heap.size w)
 have H : ((spec_l01UpMag.f k a0.f1 a1).bind fun bt176 => (if bt176.2 = true then ((spec_l01Made.f a0.f0 bt176.1).bind fun t179 => (some (t179, 0))) else (some ((⟨false, (⟨0, 0, 0, 0, 0, 0⟩ : S23)⟩ : S24), 3)))) = some (r1, r2) := h
 clear h
 replace H := Option.bind_eq_some_iff.mp H
 obtain ⟨⟨t176, t177⟩, A30, H⟩ := H
 replace H : (if t177 = true then ((spec_l01Made.f a0.f0 t176).bind fun t179 => (some (t179, 0))) else (some ((⟨false, (⟨0, 0, 0, 0, 0, 0⟩ : S23)⟩ : S24), 3))) = some (r1, r2) := H
 have A3 := aM97_ A30
 clear A30
 by_cases c4 : t177 = true
 rotate_left
 ·replace c4 := Bool.eq_false_iff.mpr c4
  subst c4
  have H1 : (some ((⟨false, (⟨0, 0, 0, 0, 0, 0⟩ : S23)⟩ : S24), 3)) = some (r1, r2) := by rw [if_neg (show ¬ (false = true) by decide)] at H; exact H
  clear H
  have H := H1
  clear H1
  simp only [Option.some.injEq, Prod.mk.injEq] at H
  obtain ⟨rfl, rfl⟩ := H
  go_enter Try.func97, Try.ntmps97
  go_wp2_with (first | ((with_reducible refine gate_dst (N := 2) rfl ?_); refine box_event ?hg (N := 2) ?hd (cs := #[.bool a0.f0, .int .u32 a0.f1.f0, .int .u32 a0.f1.f1, .int .u32 a0.f1.f2, .int .u32 a0.f1.f3, .int .u32 a0.f1.f4, .int .u32 a0.f1.f5]) (t := 25) ?hr ?_; (case hd => rfl); (case hg => rfl); (case hr => first | (go_simp; done) | (go_simp; rfl)); intro gb173 hg w27 hbox hb; have n0_ := aM97_ (below_step q97x10_ hb); have n1_ := aM97_ (hbox); have n2_ := aM97_ ((by rw [hg]; exact (below_size q97x10_) : w.heap.size ≤ gb173)); have n3_ := aM97_ ((by rw [hg]; exact (below_size q97x10_) : w.heap.size ≤ gb173)); clear HB; have HB := n0_; have BK173 := n1_; have GW173 := n2_; have GE173 := n3_; clear n0_ n1_ n2_ n3_; clear hb hbox hg) | ((with_reducible refine gate_dst (N := 4) rfl ?_); refine box_event ?hg (N := 4) ?hd (cs := #[.bool false, .int .u32 0, .int .u32 0, .int .u32 0, .int .u32 0, .int .u32 0, .int .u32 0]) (t := 25) ?hr ?_; (case hd => rfl); (case hg => rfl); (case hr => first | (go_simp; done) | (go_simp; rfl)); intro gb174 hg w28 hbox hb; have n0_ := aM97_ (blk_below (g := gb173) (o := .cells #[.bool a0.f0, .int .u32 a0.f1.f0, .int .u32 a0.f1.f1, .int .u32 a0.f1.f2, .int .u32 a0.f1.f3, .int .u32 a0.f1.f4, .int .u32 a0.f1.f5] 25 (0, 0)) q97x1_ hb); have n1_ := aM97_ (below_step q97x9_ hb); have n2_ := aM97_ (hbox); have n3_ := aM97_ ((by rw [hg]; exact (below_size q97x9_) : w.heap.size ≤ gb174)); have n4_ := aM97_ ((by rw [hg]; exact (below_size q97x9_) : w.heap.size ≤ gb174)); have n5_ := aM97_ ((q97x5_ : gb173 ≠ gb174)); have n6_ := aM97_ ((q97x6_ : gb174 ≠ gb173)); clear BK173 HB; have BK173 := n0_; have HB := n1_; have BK174 := n2_; have GW174 := n3_; have GE174 := n4_; have NB173_174 := n5_; have NB174_173 := n6_; clear n0_ n1_ n2_ n3_ n4_ n5_ n6_; clear hb hbox hg; have hnb29 := NB173_174.out; have hnc29 := NB174_173.out; obtain ⟨hcz30_0, hcz30_1, hcz30_2, hcz30_3, hcz30_4, hcz30_5, hcz30_6⟩ := cells7_ (show w28.heap[gb173]? = some (.cells #[.bool a0.f0, .int .u32 a0.f1.f0, .int .u32 a0.f1.f1, .int .u32 a0.f1.f2, .int .u32 a0.f1.f3, .int .u32 a0.f1.f4, .int .u32 a0.f1.f5] 25 (0, 0)) from BK173.out); obtain ⟨hfz30_0, hfz30_1, hfz30_2, hfz30_3, hfz30_4, hfz30_5, hfz30_6⟩ := frozen7_ BK173.out) | ((with_reducible refine gate_dst (N := 6) rfl ?_); refine box_event ?hg (N := 6) ?hd (cs := #[.int .u32 0, .int .u32 0, .int .u32 0, .int .u32 0, .int .u32 0, .int .u32 0]) (t := 126) ?hr ?_; (case hd => rfl); (case hg => rfl); (case hr => first | (go_simp; done) | (go_simp; rfl)); intro gb175 hg w31 hbox hb; have n0_ := aM97_ (blk_below (g := gb173) (o := .cells #[.bool a0.f0, .int .u32 a0.f1.f0, .int .u32 a0.f1.f1, .int .u32 a0.f1.f2, .int .u32 a0.f1.f3, .int .u32 a0.f1.f4, .int .u32 a0.f1.f5] 25 (0, 0)) q97x1_ hb); have n1_ := aM97_ (blk_below (g := gb174) (o := .cells #[.bool false, .int .u32 0, .int .u32 0, .int .u32 0, .int .u32 0, .int .u32 0, .int .u32 0] 25 (0, 0)) q97x4_ hb); have n2_ := aM97_ (below_step q97x8_ hb); have n3_ := aM97_ (hbox); have n4_ := aM97_ ((by rw [hg]; exact (below_size q97x8_) : w.heap.size ≤ gb175)); have n5_ := aM97_ ((by rw [hg]; exact (below_size q97x8_) : w.heap.size ≤ gb175)); have n6_ := aM97_ ((q97x5_ : gb173 ≠ gb175)); have n7_ := aM97_ ((q97x6_ : gb175 ≠ gb173)); have n8_ := aM97_ ((q97x11_ : gb174 ≠ gb175)); have n9_ := aM97_ ((q97x12_ : gb175 ≠ gb174)); clear BK173 BK174 HB; have BK173 := n0_; have BK174 := n1_; have HB := n2_; have BK175 := n3_; have GW175 := n4_; have GE175 := n5_; have NB173_175 := n6_; have NB175_173 := n7_; have NB174_175 := n8_; have NB175_174 := n9_; clear n0_ n1_ n2_ n3_ n4_ n5_ n6_ n7_ n8_ n9_; clear hb hbox hg; have hnb32 := NB175_173.out; have hnc32 := NB173_175.out; have hnb33 := NB175_174.out; have hnc33 := NB174_175.out; obtain ⟨hcz34_0, hcz34_1, hcz34_2, hcz34_3, hcz34_4, hcz34_5⟩ := cells6_ (show w31.heap[gb175]? = some (.cells #[.int .u32 0, .int .u32 0, .int .u32 0, .int .u32 0, .int .u32 0, .int .u32 0] 126 (0, 0)) from BK175.out); obtain ⟨hfz34_0, hfz34_1, hfz34_2, hfz34_3, hfz34_4, hfz34_5⟩ := frozen6_ BK175.out) | ((with_reducible refine gate_store (t := 126) (p := 6) rfl ?_); refine store_event (t := 126) (p := 6) (v := ?vo_w35) (w1 := (World.setCell (World.setCell (World.setCell (World.setCell (World.setCell (World.setCell w31 ⟨gb175, 0, none⟩ (.int .u32 a0.f1.f0)) ⟨gb175, 1, none⟩ (.int .u32 a0.f1.f1)) ⟨gb175, 2, none⟩ (.int .u32 a0.f1.f2)) ⟨gb175, 3, none⟩ (.int .u32 a0.f1.f3)) ⟨gb175, 4, none⟩ (.int .u32 a0.f1.f4)) ⟨gb175, 5, none⟩ (.int .u32 a0.f1.f5))) ?hg ?ho ?hn ?hr ?_; (case ho => rfl); (case hg => rfl); (case hn => rfl); (case hr => first | ((try simp only [Act.put, List.setIfInBounds_toArray, List.set_cons_zero, List.set_cons_succ]); exact run_put6_ rfl (show _ = Value.pointer (some ⟨gb175, 0, none⟩) from by rfl) (show _ = Value.agg #[.int .u32 a0.f1.f0, .int .u32 a0.f1.f1, .int .u32 a0.f1.f2, .int .u32 a0.f1.f3, .int .u32 a0.f1.f4, .int .u32 a0.f1.f5] from by rfl) BK175.out (by kernel_rfl) (by rfl)) | (go_simp; done) | (go_simp; rfl)); intro w35 hw; have n0_ : Aside0 (w35.heap[gb173]? = some (.cells #[.bool a0.f0, .int .u32 a0.f1.f0, .int .u32 a0.f1.f1, .int .u32 a0.f1.f2, .int .u32 a0.f1.f3, .int .u32 a0.f1.f4, .int .u32 a0.f1.f5] 25 (0, 0))) := ⟨q97x17_⟩; have n1_ : Aside0 (w35.heap[gb174]? = some (.cells #[.bool false, .int .u32 0, .int .u32 0, .int .u32 0, .int .u32 0, .int .u32 0, .int .u32 0] 25 (0, 0))) := ⟨q97x18_⟩; have n2_ : Aside0 (w35.heap[gb175]? = some (.cells #[.int .u32 a0.f1.f0, .int .u32 a0.f1.f1, .int .u32 a0.f1.f2, .int .u32 a0.f1.f3, .int .u32 a0.f1.f4, .int .u32 a0.f1.f5] 126 (0, 0))) := ⟨q97x15_⟩; have n3_ : Aside0 (Below w.heap.size w w35) := ⟨(by rw [hw]; exact q97x3_)⟩; clear hw; clear BK173; clear BK174; clear BK175; clear HB; have BK173 := n0_; have BK174 := n1_; have BK175 := n2_; have HB := n3_; clear n0_ n1_ n2_ n3_) | ((with_reducible refine gate_callee (f := 122) rfl ?_); refine goesL_ (some 13) rfl rfl Try.func122 (by kernel_rfl) rfl #[.pointer (some ⟨gb175, 0, none⟩), .int .i64 a1] rfl q97x13_ ?_; (with_reducible refine (spec_l01UpMag.calls k gb175 0 a0.f1 a1 t176 false _ ?side1 A3.out).mono ?_); (case side1 => exact ⟨(blk_cell (g := gb175) (t := 126) (cs := #[.int .u32 a0.f1.f0, .int .u32 a0.f1.f1, .int .u32 a0.f1.f2, .int .u32 a0.f1.f3, .int .u32 a0.f1.f4, .int .u32 a0.f1.f5]) q97x2_ 0).trans rfl, (blk_cell (g := gb175) (t := 126) (cs := #[.int .u32 a0.f1.f0, .int .u32 a0.f1.f1, .int .u32 a0.f1.f2, .int .u32 a0.f1.f3, .int .u32 a0.f1.f4, .int .u32 a0.f1.f5]) q97x2_ 1).trans rfl, (blk_cell (g := gb175) (t := 126) (cs := #[.int .u32 a0.f1.f0, .int .u32 a0.f1.f1, .int .u32 a0.f1.f2, .int .u32 a0.f1.f3, .int .u32 a0.f1.f4, .int .u32 a0.f1.f5]) q97x2_ 2).trans rfl, (blk_cell (g := gb175) (t := 126) (cs := #[.int .u32 a0.f1.f0, .int .u32 a0.f1.f1, .int .u32 a0.f1.f2, .int .u32 a0.f1.f3, .int .u32 a0.f1.f4, .int .u32 a0.f1.f5]) q97x2_ 3).trans rfl, (blk_cell (g := gb175) (t := 126) (cs := #[.int .u32 a0.f1.f0, .int .u32 a0.f1.f1, .int .u32 a0.f1.f2, .int .u32 a0.f1.f3, .int .u32 a0.f1.f4, .int .u32 a0.f1.f5]) q97x2_ 4).trans rfl, (blk_cell (g := gb175) (t := 126) (cs := #[.int .u32 a0.f1.f0, .int .u32 a0.f1.f1, .int .u32 a0.f1.f2, .int .u32 a0.f1.f3, .int .u32 a0.f1.f4, .int .u32 a0.f1.f5]) q97x2_ 5).trans rfl⟩); rintro e w36 ⟨rfl, hb⟩; refine ⟨_, rfl, ?_⟩; have n0_ := aM97_ (blk_below (g := gb173) (o := .cells #[.bool a0.f0, .int .u32 a0.f1.f0, .int .u32 a0.f1.f1, .int .u32 a0.f1.f2, .int .u32 a0.f1.f3, .int .u32 a0.f1.f4, .int .u32 a0.f1.f5] 25 (0, 0)) q97x1_ hb); have n1_ := aM97_ (blk_below (g := gb174) (o := .cells #[.bool false, .int .u32 0, .int .u32 0, .int .u32 0, .int .u32 0, .int .u32 0, .int .u32 0] 25 (0, 0)) q97x4_ hb); have n2_ := aM97_ (blk_below (g := gb175) (o := .cells #[.int .u32 a0.f1.f0, .int .u32 a0.f1.f1, .int .u32 a0.f1.f2, .int .u32 a0.f1.f3, .int .u32 a0.f1.f4, .int .u32 a0.f1.f5] 126 (0, 0)) q97x2_ hb); have n3_ := aM97_ (below_step q97x3_ hb); clear BK173 BK174 BK175 HB; have BK173 := n0_; have BK174 := n1_; have BK175 := n2_; have HB := n3_; clear n0_ n1_ n2_ n3_; (try clear hb); (try clear hb2); (try clear hk); (try clear hi)) | ((with_reducible refine gate_dst (N := 7) rfl ?_); refine box_event ?hg (N := 7) ?hd (cs := #[.int .u32 0, .int .u32 0, .int .u32 0, .int .u32 0, .int .u32 0, .int .u32 0]) (t := 126) ?hr ?_; (case hd => rfl); (case hg => rfl); (case hr => first | (go_simp; done) | (go_simp; rfl)); intro gb178 hg w37 hbox hb; have n0_ := aM97_ (blk_below (g := gb173) (o := .cells #[.bool a0.f0, .int .u32 a0.f1.f0, .int .u32 a0.f1.f1, .int .u32 a0.f1.f2, .int .u32 a0.f1.f3, .int .u32 a0.f1.f4, .int .u32 a0.f1.f5] 25 (0, 0)) q97x1_ hb); have n1_ := aM97_ (blk_below (g := gb174) (o := .cells #[.bool false, .int .u32 0, .int .u32 0, .int .u32 0, .int .u32 0, .int .u32 0, .int .u32 0] 25 (0, 0)) q97x4_ hb); have n2_ := aM97_ (blk_below (g := gb175) (o := .cells #[.int .u32 a0.f1.f0, .int .u32 a0.f1.f1, .int .u32 a0.f1.f2, .int .u32 a0.f1.f3, .int .u32 a0.f1.f4, .int .u32 a0.f1.f5] 126 (0, 0)) q97x2_ hb); have n3_ := aM97_ (below_step q97x3_ hb); have n4_ := aM97_ (hbox); have n5_ := aM97_ ((by rw [hg]; exact (below_size q97x3_) : w.heap.size ≤ gb178)); have n6_ := aM97_ ((by rw [hg]; exact (below_size q97x3_) : w.heap.size ≤ gb178)); have n7_ := aM97_ ((q97x5_ : gb173 ≠ gb178)); have n8_ := aM97_ ((q97x6_ : gb178 ≠ gb173)); have n9_ := aM97_ ((q97x11_ : gb174 ≠ gb178)); have n10_ := aM97_ ((q97x12_ : gb178 ≠ gb174)); have n11_ := aM97_ ((q97x25_ : gb175 ≠ gb178)); have n12_ := aM97_ ((q97x26_ : gb178 ≠ gb175)); clear BK173 BK174 BK175 HB; have BK173 := n0_; have BK174 := n1_; have BK175 := n2_; have HB := n3_; have BK178 := n4_; have GW178 := n5_; have GE178 := n6_; have NB173_178 := n7_; have NB178_173 := n8_; have NB174_178 := n9_; have NB178_174 := n10_; have NB175_178 := n11_; have NB178_175 := n12_; clear n0_ n1_ n2_ n3_ n4_ n5_ n6_ n7_ n8_ n9_ n10_ n11_ n12_; clear hb hbox hg; have hnb38 := NB178_173.out; have hnc38 := NB173_178.out; have hnb39 := NB178_174.out; have hnc39 := NB174_178.out; have hnb40 := NB178_175.out; have hnc40 := NB175_178.out; obtain ⟨hcz41_0, hcz41_1, hcz41_2, hcz41_3, hcz41_4, hcz41_5⟩ := cells6_ (show w37.heap[gb178]? = some (.cells #[.int .u32 0, .int .u32 0, .int .u32 0, .int .u32 0, .int .u32 0, .int .u32 0] 126 (0, 0)) from BK178.out); obtain ⟨hfz41_0, hfz41_1, hfz41_2, hfz41_3, hfz41_4, hfz41_5⟩ := frozen6_ BK178.out) | ((with_reducible refine gate_store (t := 126) (p := 7) rfl ?_); refine store_event (t := 126) (p := 7) (v := ?vo_w42) (w1 := (World.setCell (World.setCell (World.setCell (World.setCell (World.setCell (World.setCell w37 ⟨gb178, 0, none⟩ (.int .u32 t176.f0)) ⟨gb178, 1, none⟩ (.int .u32 t176.f1)) ⟨gb178, 2, none⟩ (.int .u32 t176.f2)) ⟨gb178, 3, none⟩ (.int .u32 t176.f3)) ⟨gb178, 4, none⟩ (.int .u32 t176.f4)) ⟨gb178, 5, none⟩ (.int .u32 t176.f5))) ?hg ?ho ?hn ?hr ?_; (case ho => rfl); (case hg => rfl); (case hn => rfl); (case hr => first | ((try simp only [Act.put, List.setIfInBounds_toArray, List.set_cons_zero, List.set_cons_succ]); exact run_put6_ rfl (show _ = Value.pointer (some ⟨gb178, 0, none⟩) from by rfl) (show _ = Value.agg #[.int .u32 t176.f0, .int .u32 t176.f1, .int .u32 t176.f2, .int .u32 t176.f3, .int .u32 t176.f4, .int .u32 t176.f5] from by rfl) BK178.out (by kernel_rfl) (by rfl)) | (go_simp; done) | (go_simp; rfl)); intro w42 hw; have n0_ : Aside0 (w42.heap[gb173]? = some (.cells #[.bool a0.f0, .int .u32 a0.f1.f0, .int .u32 a0.f1.f1, .int .u32 a0.f1.f2, .int .u32 a0.f1.f3, .int .u32 a0.f1.f4, .int .u32 a0.f1.f5] 25 (0, 0))) := ⟨q97x19_⟩; have n1_ : Aside0 (w42.heap[gb174]? = some (.cells #[.bool false, .int .u32 0, .int .u32 0, .int .u32 0, .int .u32 0, .int .u32 0, .int .u32 0] 25 (0, 0))) := ⟨q97x20_⟩; have n2_ : Aside0 (w42.heap[gb175]? = some (.cells #[.int .u32 a0.f1.f0, .int .u32 a0.f1.f1, .int .u32 a0.f1.f2, .int .u32 a0.f1.f3, .int .u32 a0.f1.f4, .int .u32 a0.f1.f5] 126 (0, 0))) := ⟨q97x21_⟩; have n3_ : Aside0 (w42.heap[gb178]? = some (.cells #[.int .u32 t176.f0, .int .u32 t176.f1, .int .u32 t176.f2, .int .u32 t176.f3, .int .u32 t176.f4, .int .u32 t176.f5] 126 (0, 0))) := ⟨q97x16_⟩; have n4_ : Aside0 (Below w.heap.size w w42) := ⟨(by rw [hw]; exact q97x7_)⟩; clear hw; clear BK173; clear BK174; clear BK175; clear BK178; clear HB; have BK173 := n0_; have BK174 := n1_; have BK175 := n2_; have BK178 := n3_; have HB := n4_; clear n0_ n1_ n2_ n3_ n4_; obtain ⟨hcz43_0, hcz43_1, hcz43_2, hcz43_3, hcz43_4, hcz43_5, hcz43_6⟩ := cells7_ (show w42.heap[gb174]? = some (.cells #[.bool false, .int .u32 0, .int .u32 0, .int .u32 0, .int .u32 0, .int .u32 0, .int .u32 0] 25 (0, 0)) from BK174.out); obtain ⟨hfz43_0, hfz43_1, hfz43_2, hfz43_3, hfz43_4, hfz43_5, hfz43_6⟩ := frozen7_ BK174.out) | ((with_reducible refine gate_store (t := 25) (p := 4) rfl ?_); refine store_event (t := 25) (p := 4) (v := ?vo_w44) (w1 := (World.setCell (World.setCell (World.setCell (World.setCell (World.setCell (World.setCell (World.setCell w42 ⟨gb174, 0, none⟩ (.bool false)) ⟨gb174, 1, none⟩ (.int .u32 0)) ⟨gb174, 2, none⟩ (.int .u32 0)) ⟨gb174, 3, none⟩ (.int .u32 0)) ⟨gb174, 4, none⟩ (.int .u32 0)) ⟨gb174, 5, none⟩ (.int .u32 0)) ⟨gb174, 6, none⟩ (.int .u32 0))) ?hg ?ho ?hn ?hr ?_; (case ho => rfl); (case hg => rfl); (case hn => rfl); (case hr => first | ((try simp only [Act.put, List.setIfInBounds_toArray, List.set_cons_zero, List.set_cons_succ]); exact run_put7_ rfl (show _ = Value.pointer (some ⟨gb174, 0, none⟩) from by rfl) (show _ = Value.agg #[.bool false, .int .u32 0, .int .u32 0, .int .u32 0, .int .u32 0, .int .u32 0, .int .u32 0] from by rfl) BK174.out (by kernel_rfl) (by rfl)) | (go_simp; done) | (go_simp; rfl)); intro w44 hw; have n0_ : Aside0 (w44.heap[gb173]? = some (.cells #[.bool a0.f0, .int .u32 a0.f1.f0, .int .u32 a0.f1.f1, .int .u32 a0.f1.f2, .int .u32 a0.f1.f3, .int .u32 a0.f1.f4, .int .u32 a0.f1.f5] 25 (0, 0))) := ⟨q97x22_⟩; have n1_ : Aside0 (w44.heap[gb174]? = some (.cells #[.bool false, .int .u32 0, .int .u32 0, .int .u32 0, .int .u32 0, .int .u32 0, .int .u32 0] 25 (0, 0))) := ⟨q97x14_⟩; have n2_ : Aside0 (w44.heap[gb175]? = some (.cells #[.int .u32 a0.f1.f0, .int .u32 a0.f1.f1, .int .u32 a0.f1.f2, .int .u32 a0.f1.f3, .int .u32 a0.f1.f4, .int .u32 a0.f1.f5] 126 (0, 0))) := ⟨q97x23_⟩; have n3_ : Aside0 (w44.heap[gb178]? = some (.cells #[.int .u32 t176.f0, .int .u32 t176.f1, .int .u32 t176.f2, .int .u32 t176.f3, .int .u32 t176.f4, .int .u32 t176.f5] 126 (0, 0))) := ⟨q97x24_⟩; have n4_ : Aside0 (Below w.heap.size w w44) := ⟨(by rw [hw]; exact q97x7_)⟩; clear hw; clear BK173; clear BK174; clear BK175; clear BK178; clear HB; have BK173 := n0_; have BK174 := n1_; have BK175 := n2_; have BK178 := n3_; have HB := n4_; clear n0_ n1_ n2_ n3_ n4_))
  refine bodyPost_ret (results_ct rfl _ _ gb174 25 #[.bool false, .int .u32 0, .int .u32 0, .int .u32 0, .int .u32 0, .int .u32 0, .int .u32 0] (0, 0) _ rfl q97x4_ Try.underlying25 rfl (by kernel_rfl)) rfl ?_
  exact ⟨by first | rfl | (simp [errW_none, errW_some] <;> rfl) | (simp [*, errW_none, errW_some] <;> rfl), by repeat (first | (with_reducible first | exact HB.out | apply below_alloc | apply pw_below_drewN | apply below_drew1 | refine below_set ?_ GE173.out | refine below_set ?_ GE174.out | refine below_set ?_ GE175.out | refine below_set ?_ GE178.out) | exact HB.out)⟩

 subst c4
 have H1 : ((spec_l01Made.f a0.f0 t176).bind fun t179 => (some (t179, 0))) = some (r1, r2) := by rw [if_pos rfl] at H; exact H
 clear H
 have H := H1
 clear H1
 replace H := Option.bind_eq_some_iff.mp H
 obtain ⟨t179, A50, H⟩ := H
 replace H : (some (t179, 0)) = some (r1, r2) := H
 have A5 := aM97_ A50
 clear A50
 simp only [Option.some.injEq, Prod.mk.injEq] at H
 obtain ⟨rfl, rfl⟩ := H
 go_enter Try.func97, Try.ntmps97
 go_wp2_with (first | ((with_reducible refine gate_dst (N := 2) rfl ?_); refine box_event ?hg (N := 2) ?hd (cs := #[.bool a0.f0, .int .u32 a0.f1.f0, .int .u32 a0.f1.f1, .int .u32 a0.f1.f2, .int .u32 a0.f1.f3, .int .u32 a0.f1.f4, .int .u32 a0.f1.f5]) (t := 25) ?hr ?_; (case hd => rfl); (case hg => rfl); (case hr => first | (go_simp; done) | (go_simp; rfl)); intro gb173 hg w6 hbox hb; have n0_ := aM97_ (below_step q97x10_ hb); have n1_ := aM97_ (hbox); have n2_ := aM97_ ((by rw [hg]; exact (below_size q97x10_) : w.heap.size ≤ gb173)); have n3_ := aM97_ ((by rw [hg]; exact (below_size q97x10_) : w.heap.size ≤ gb173)); clear HB; have HB := n0_; have BK173 := n1_; have GW173 := n2_; have GE173 := n3_; clear n0_ n1_ n2_ n3_; clear hb hbox hg) | ((with_reducible refine gate_dst (N := 4) rfl ?_); refine box_event ?hg (N := 4) ?hd (cs := #[.bool false, .int .u32 0, .int .u32 0, .int .u32 0, .int .u32 0, .int .u32 0, .int .u32 0]) (t := 25) ?hr ?_; (case hd => rfl); (case hg => rfl); (case hr => first | (go_simp; done) | (go_simp; rfl)); intro gb174 hg w7 hbox hb; have n0_ := aM97_ (blk_below (g := gb173) (o := .cells #[.bool a0.f0, .int .u32 a0.f1.f0, .int .u32 a0.f1.f1, .int .u32 a0.f1.f2, .int .u32 a0.f1.f3, .int .u32 a0.f1.f4, .int .u32 a0.f1.f5] 25 (0, 0)) q97x1_ hb); have n1_ := aM97_ (below_step q97x9_ hb); have n2_ := aM97_ (hbox); have n3_ := aM97_ ((by rw [hg]; exact (below_size q97x9_) : w.heap.size ≤ gb174)); have n4_ := aM97_ ((by rw [hg]; exact (below_size q97x9_) : w.heap.size ≤ gb174)); have n5_ := aM97_ ((q97x5_ : gb173 ≠ gb174)); have n6_ := aM97_ ((q97x6_ : gb174 ≠ gb173)); clear BK173 HB; have BK173 := n0_; have HB := n1_; have BK174 := n2_; have GW174 := n3_; have GE174 := n4_; have NB173_174 := n5_; have NB174_173 := n6_; clear n0_ n1_ n2_ n3_ n4_ n5_ n6_; clear hb hbox hg; have hnb8 := NB173_174.out; have hnc8 := NB174_173.out; obtain ⟨hcz9_0, hcz9_1, hcz9_2, hcz9_3, hcz9_4, hcz9_5, hcz9_6⟩ := cells7_ (show w7.heap[gb173]? = some (.cells #[.bool a0.f0, .int .u32 a0.f1.f0, .int .u32 a0.f1.f1, .int .u32 a0.f1.f2, .int .u32 a0.f1.f3, .int .u32 a0.f1.f4, .int .u32 a0.f1.f5] 25 (0, 0)) from BK173.out); obtain ⟨hfz9_0, hfz9_1, hfz9_2, hfz9_3, hfz9_4, hfz9_5, hfz9_6⟩ := frozen7_ BK173.out) | ((with_reducible refine gate_dst (N := 6) rfl ?_); refine box_event ?hg (N := 6) ?hd (cs := #[.int .u32 0, .int .u32 0, .int .u32 0, .int .u32 0, .int .u32 0, .int .u32 0]) (t := 126) ?hr ?_; (case hd => rfl); (case hg => rfl); (case hr => first | (go_simp; done) | (go_simp; rfl)); intro gb175 hg w10 hbox hb; have n0_ := aM97_ (blk_below (g := gb173) (o := .cells #[.bool a0.f0, .int .u32 a0.f1.f0, .int .u32 a0.f1.f1, .int .u32 a0.f1.f2, .int .u32 a0.f1.f3, .int .u32 a0.f1.f4, .int .u32 a0.f1.f5] 25 (0, 0)) q97x1_ hb); have n1_ := aM97_ (blk_below (g := gb174) (o := .cells #[.bool false, .int .u32 0, .int .u32 0, .int .u32 0, .int .u32 0, .int .u32 0, .int .u32 0] 25 (0, 0)) q97x4_ hb); have n2_ := aM97_ (below_step q97x8_ hb); have n3_ := aM97_ (hbox); have n4_ := aM97_ ((by rw [hg]; exact (below_size q97x8_) : w.heap.size ≤ gb175)); have n5_ := aM97_ ((by rw [hg]; exact (below_size q97x8_) : w.heap.size ≤ gb175)); have n6_ := aM97_ ((q97x5_ : gb173 ≠ gb175)); have n7_ := aM97_ ((q97x6_ : gb175 ≠ gb173)); have n8_ := aM97_ ((q97x11_ : gb174 ≠ gb175)); have n9_ := aM97_ ((q97x12_ : gb175 ≠ gb174)); clear BK173 BK174 HB; have BK173 := n0_; have BK174 := n1_; have HB := n2_; have BK175 := n3_; have GW175 := n4_; have GE175 := n5_; have NB173_175 := n6_; have NB175_173 := n7_; have NB174_175 := n8_; have NB175_174 := n9_; clear n0_ n1_ n2_ n3_ n4_ n5_ n6_ n7_ n8_ n9_; clear hb hbox hg; have hnb11 := NB175_173.out; have hnc11 := NB173_175.out; have hnb12 := NB175_174.out; have hnc12 := NB174_175.out; obtain ⟨hcz13_0, hcz13_1, hcz13_2, hcz13_3, hcz13_4, hcz13_5⟩ := cells6_ (show w10.heap[gb175]? = some (.cells #[.int .u32 0, .int .u32 0, .int .u32 0, .int .u32 0, .int .u32 0, .int .u32 0] 126 (0, 0)) from BK175.out); obtain ⟨hfz13_0, hfz13_1, hfz13_2, hfz13_3, hfz13_4, hfz13_5⟩ := frozen6_ BK175.out) | ((with_reducible refine gate_store (t := 126) (p := 6) rfl ?_); refine store_event (t := 126) (p := 6) (v := ?vo_w14) (w1 := (World.setCell (World.setCell (World.setCell (World.setCell (World.setCell (World.setCell w10 ⟨gb175, 0, none⟩ (.int .u32 a0.f1.f0)) ⟨gb175, 1, none⟩ (.int .u32 a0.f1.f1)) ⟨gb175, 2, none⟩ (.int .u32 a0.f1.f2)) ⟨gb175, 3, none⟩ (.int .u32 a0.f1.f3)) ⟨gb175, 4, none⟩ (.int .u32 a0.f1.f4)) ⟨gb175, 5, none⟩ (.int .u32 a0.f1.f5))) ?hg ?ho ?hn ?hr ?_; (case ho => rfl); (case hg => rfl); (case hn => rfl); (case hr => first | ((try simp only [Act.put, List.setIfInBounds_toArray, List.set_cons_zero, List.set_cons_succ]); exact run_put6_ rfl (show _ = Value.pointer (some ⟨gb175, 0, none⟩) from by rfl) (show _ = Value.agg #[.int .u32 a0.f1.f0, .int .u32 a0.f1.f1, .int .u32 a0.f1.f2, .int .u32 a0.f1.f3, .int .u32 a0.f1.f4, .int .u32 a0.f1.f5] from by rfl) BK175.out (by kernel_rfl) (by rfl)) | (go_simp; done) | (go_simp; rfl)); intro w14 hw; have n0_ : Aside0 (w14.heap[gb173]? = some (.cells #[.bool a0.f0, .int .u32 a0.f1.f0, .int .u32 a0.f1.f1, .int .u32 a0.f1.f2, .int .u32 a0.f1.f3, .int .u32 a0.f1.f4, .int .u32 a0.f1.f5] 25 (0, 0))) := ⟨q97x17_⟩; have n1_ : Aside0 (w14.heap[gb174]? = some (.cells #[.bool false, .int .u32 0, .int .u32 0, .int .u32 0, .int .u32 0, .int .u32 0, .int .u32 0] 25 (0, 0))) := ⟨q97x18_⟩; have n2_ : Aside0 (w14.heap[gb175]? = some (.cells #[.int .u32 a0.f1.f0, .int .u32 a0.f1.f1, .int .u32 a0.f1.f2, .int .u32 a0.f1.f3, .int .u32 a0.f1.f4, .int .u32 a0.f1.f5] 126 (0, 0))) := ⟨q97x15_⟩; have n3_ : Aside0 (Below w.heap.size w w14) := ⟨(by rw [hw]; exact q97x3_)⟩; clear hw; clear BK173; clear BK174; clear BK175; clear HB; have BK173 := n0_; have BK174 := n1_; have BK175 := n2_; have HB := n3_; clear n0_ n1_ n2_ n3_) | ((with_reducible refine gate_callee (f := 122) rfl ?_); refine goesL_ (some 13) rfl rfl Try.func122 (by kernel_rfl) rfl #[.pointer (some ⟨gb175, 0, none⟩), .int .i64 a1] rfl q97x13_ ?_; (with_reducible refine (spec_l01UpMag.calls k gb175 0 a0.f1 a1 t176 true _ ?side1 A3.out).mono ?_); (case side1 => exact ⟨(blk_cell (g := gb175) (t := 126) (cs := #[.int .u32 a0.f1.f0, .int .u32 a0.f1.f1, .int .u32 a0.f1.f2, .int .u32 a0.f1.f3, .int .u32 a0.f1.f4, .int .u32 a0.f1.f5]) q97x2_ 0).trans rfl, (blk_cell (g := gb175) (t := 126) (cs := #[.int .u32 a0.f1.f0, .int .u32 a0.f1.f1, .int .u32 a0.f1.f2, .int .u32 a0.f1.f3, .int .u32 a0.f1.f4, .int .u32 a0.f1.f5]) q97x2_ 1).trans rfl, (blk_cell (g := gb175) (t := 126) (cs := #[.int .u32 a0.f1.f0, .int .u32 a0.f1.f1, .int .u32 a0.f1.f2, .int .u32 a0.f1.f3, .int .u32 a0.f1.f4, .int .u32 a0.f1.f5]) q97x2_ 2).trans rfl, (blk_cell (g := gb175) (t := 126) (cs := #[.int .u32 a0.f1.f0, .int .u32 a0.f1.f1, .int .u32 a0.f1.f2, .int .u32 a0.f1.f3, .int .u32 a0.f1.f4, .int .u32 a0.f1.f5]) q97x2_ 3).trans rfl, (blk_cell (g := gb175) (t := 126) (cs := #[.int .u32 a0.f1.f0, .int .u32 a0.f1.f1, .int .u32 a0.f1.f2, .int .u32 a0.f1.f3, .int .u32 a0.f1.f4, .int .u32 a0.f1.f5]) q97x2_ 4).trans rfl, (blk_cell (g := gb175) (t := 126) (cs := #[.int .u32 a0.f1.f0, .int .u32 a0.f1.f1, .int .u32 a0.f1.f2, .int .u32 a0.f1.f3, .int .u32 a0.f1.f4, .int .u32 a0.f1.f5]) q97x2_ 5).trans rfl⟩); rintro e w15 ⟨rfl, hb⟩; refine ⟨_, rfl, ?_⟩; have n0_ := aM97_ (blk_below (g := gb173) (o := .cells #[.bool a0.f0, .int .u32 a0.f1.f0, .int .u32 a0.f1.f1, .int .u32 a0.f1.f2, .int .u32 a0.f1.f3, .int .u32 a0.f1.f4, .int .u32 a0.f1.f5] 25 (0, 0)) q97x1_ hb); have n1_ := aM97_ (blk_below (g := gb174) (o := .cells #[.bool false, .int .u32 0, .int .u32 0, .int .u32 0, .int .u32 0, .int .u32 0, .int .u32 0] 25 (0, 0)) q97x4_ hb); have n2_ := aM97_ (blk_below (g := gb175) (o := .cells #[.int .u32 a0.f1.f0, .int .u32 a0.f1.f1, .int .u32 a0.f1.f2, .int .u32 a0.f1.f3, .int .u32 a0.f1.f4, .int .u32 a0.f1.f5] 126 (0, 0)) q97x2_ hb); have n3_ := aM97_ (below_step q97x3_ hb); clear BK173 BK174 BK175 HB; have BK173 := n0_; have BK174 := n1_; have BK175 := n2_; have HB := n3_; clear n0_ n1_ n2_ n3_; (try clear hb); (try clear hb2); (try clear hk); (try clear hi)) | ((with_reducible refine gate_dst (N := 7) rfl ?_); refine box_event ?hg (N := 7) ?hd (cs := #[.int .u32 0, .int .u32 0, .int .u32 0, .int .u32 0, .int .u32 0, .int .u32 0]) (t := 126) ?hr ?_; (case hd => rfl); (case hg => rfl); (case hr => first | (go_simp; done) | (go_simp; rfl)); intro gb178 hg w16 hbox hb; have n0_ := aM97_ (blk_below (g := gb173) (o := .cells #[.bool a0.f0, .int .u32 a0.f1.f0, .int .u32 a0.f1.f1, .int .u32 a0.f1.f2, .int .u32 a0.f1.f3, .int .u32 a0.f1.f4, .int .u32 a0.f1.f5] 25 (0, 0)) q97x1_ hb); have n1_ := aM97_ (blk_below (g := gb174) (o := .cells #[.bool false, .int .u32 0, .int .u32 0, .int .u32 0, .int .u32 0, .int .u32 0, .int .u32 0] 25 (0, 0)) q97x4_ hb); have n2_ := aM97_ (blk_below (g := gb175) (o := .cells #[.int .u32 a0.f1.f0, .int .u32 a0.f1.f1, .int .u32 a0.f1.f2, .int .u32 a0.f1.f3, .int .u32 a0.f1.f4, .int .u32 a0.f1.f5] 126 (0, 0)) q97x2_ hb); have n3_ := aM97_ (below_step q97x3_ hb); have n4_ := aM97_ (hbox); have n5_ := aM97_ ((by rw [hg]; exact (below_size q97x3_) : w.heap.size ≤ gb178)); have n6_ := aM97_ ((by rw [hg]; exact (below_size q97x3_) : w.heap.size ≤ gb178)); have n7_ := aM97_ ((q97x5_ : gb173 ≠ gb178)); have n8_ := aM97_ ((q97x6_ : gb178 ≠ gb173)); have n9_ := aM97_ ((q97x11_ : gb174 ≠ gb178)); have n10_ := aM97_ ((q97x12_ : gb178 ≠ gb174)); have n11_ := aM97_ ((q97x25_ : gb175 ≠ gb178)); have n12_ := aM97_ ((q97x26_ : gb178 ≠ gb175)); clear BK173 BK174 BK175 HB; have BK173 := n0_; have BK174 := n1_; have BK175 := n2_; have HB := n3_; have BK178 := n4_; have GW178 := n5_; have GE178 := n6_; have NB173_178 := n7_; have NB178_173 := n8_; have NB174_178 := n9_; have NB178_174 := n10_; have NB175_178 := n11_; have NB178_175 := n12_; clear n0_ n1_ n2_ n3_ n4_ n5_ n6_ n7_ n8_ n9_ n10_ n11_ n12_; clear hb hbox hg; have hnb17 := NB178_173.out; have hnc17 := NB173_178.out; have hnb18 := NB178_174.out; have hnc18 := NB174_178.out; have hnb19 := NB178_175.out; have hnc19 := NB175_178.out; obtain ⟨hcz20_0, hcz20_1, hcz20_2, hcz20_3, hcz20_4, hcz20_5⟩ := cells6_ (show w16.heap[gb178]? = some (.cells #[.int .u32 0, .int .u32 0, .int .u32 0, .int .u32 0, .int .u32 0, .int .u32 0] 126 (0, 0)) from BK178.out); obtain ⟨hfz20_0, hfz20_1, hfz20_2, hfz20_3, hfz20_4, hfz20_5⟩ := frozen6_ BK178.out) | ((with_reducible refine gate_store (t := 126) (p := 7) rfl ?_); refine store_event (t := 126) (p := 7) (v := ?vo_w21) (w1 := (World.setCell (World.setCell (World.setCell (World.setCell (World.setCell (World.setCell w16 ⟨gb178, 0, none⟩ (.int .u32 t176.f0)) ⟨gb178, 1, none⟩ (.int .u32 t176.f1)) ⟨gb178, 2, none⟩ (.int .u32 t176.f2)) ⟨gb178, 3, none⟩ (.int .u32 t176.f3)) ⟨gb178, 4, none⟩ (.int .u32 t176.f4)) ⟨gb178, 5, none⟩ (.int .u32 t176.f5))) ?hg ?ho ?hn ?hr ?_; (case ho => rfl); (case hg => rfl); (case hn => rfl); (case hr => first | ((try simp only [Act.put, List.setIfInBounds_toArray, List.set_cons_zero, List.set_cons_succ]); exact run_put6_ rfl (show _ = Value.pointer (some ⟨gb178, 0, none⟩) from by rfl) (show _ = Value.agg #[.int .u32 t176.f0, .int .u32 t176.f1, .int .u32 t176.f2, .int .u32 t176.f3, .int .u32 t176.f4, .int .u32 t176.f5] from by rfl) BK178.out (by kernel_rfl) (by rfl)) | (go_simp; done) | (go_simp; rfl)); intro w21 hw; have n0_ : Aside0 (w21.heap[gb173]? = some (.cells #[.bool a0.f0, .int .u32 a0.f1.f0, .int .u32 a0.f1.f1, .int .u32 a0.f1.f2, .int .u32 a0.f1.f3, .int .u32 a0.f1.f4, .int .u32 a0.f1.f5] 25 (0, 0))) := ⟨q97x19_⟩; have n1_ : Aside0 (w21.heap[gb174]? = some (.cells #[.bool false, .int .u32 0, .int .u32 0, .int .u32 0, .int .u32 0, .int .u32 0, .int .u32 0] 25 (0, 0))) := ⟨q97x20_⟩; have n2_ : Aside0 (w21.heap[gb175]? = some (.cells #[.int .u32 a0.f1.f0, .int .u32 a0.f1.f1, .int .u32 a0.f1.f2, .int .u32 a0.f1.f3, .int .u32 a0.f1.f4, .int .u32 a0.f1.f5] 126 (0, 0))) := ⟨q97x21_⟩; have n3_ : Aside0 (w21.heap[gb178]? = some (.cells #[.int .u32 t176.f0, .int .u32 t176.f1, .int .u32 t176.f2, .int .u32 t176.f3, .int .u32 t176.f4, .int .u32 t176.f5] 126 (0, 0))) := ⟨q97x16_⟩; have n4_ : Aside0 (Below w.heap.size w w21) := ⟨(by rw [hw]; exact q97x7_)⟩; clear hw; clear BK173; clear BK174; clear BK175; clear BK178; clear HB; have BK173 := n0_; have BK174 := n1_; have BK175 := n2_; have BK178 := n3_; have HB := n4_; clear n0_ n1_ n2_ n3_ n4_; obtain ⟨hcz22_0, hcz22_1, hcz22_2, hcz22_3, hcz22_4, hcz22_5, hcz22_6⟩ := cells7_ (show w21.heap[gb173]? = some (.cells #[.bool a0.f0, .int .u32 a0.f1.f0, .int .u32 a0.f1.f1, .int .u32 a0.f1.f2, .int .u32 a0.f1.f3, .int .u32 a0.f1.f4, .int .u32 a0.f1.f5] 25 (0, 0)) from BK173.out); obtain ⟨hfz22_0, hfz22_1, hfz22_2, hfz22_3, hfz22_4, hfz22_5, hfz22_6⟩ := frozen7_ BK173.out; obtain ⟨hcz23_0, hcz23_1, hcz23_2, hcz23_3, hcz23_4, hcz23_5⟩ := cells6_ (show w21.heap[gb178]? = some (.cells #[.int .u32 t176.f0, .int .u32 t176.f1, .int .u32 t176.f2, .int .u32 t176.f3, .int .u32 t176.f4, .int .u32 t176.f5] 126 (0, 0)) from BK178.out); obtain ⟨hfz23_0, hfz23_1, hfz23_2, hfz23_3, hfz23_4, hfz23_5⟩ := frozen6_ BK178.out) | ((with_reducible refine gate_callee (f := 112) rfl ?_); refine goesL_ (some 22) rfl rfl Try.func112 (by kernel_rfl) rfl #[.bool a0.f0, .agg #[.int .u32 t176.f0, .int .u32 t176.f1, .int .u32 t176.f2, .int .u32 t176.f3, .int .u32 t176.f4, .int .u32 t176.f5]] rfl q97x13_ ?_; (with_reducible refine (spec_l01Made.calls a0.f0 t176 t179 _ A5.out).mono ?_); rintro e w24 ⟨rfl, hb⟩; refine ⟨_, rfl, ?_⟩; have n0_ := aM97_ (blk_below (g := gb173) (o := .cells #[.bool a0.f0, .int .u32 a0.f1.f0, .int .u32 a0.f1.f1, .int .u32 a0.f1.f2, .int .u32 a0.f1.f3, .int .u32 a0.f1.f4, .int .u32 a0.f1.f5] 25 (0, 0)) q97x1_ hb); have n1_ := aM97_ (blk_below (g := gb174) (o := .cells #[.bool false, .int .u32 0, .int .u32 0, .int .u32 0, .int .u32 0, .int .u32 0, .int .u32 0] 25 (0, 0)) q97x4_ hb); have n2_ := aM97_ (blk_below (g := gb175) (o := .cells #[.int .u32 a0.f1.f0, .int .u32 a0.f1.f1, .int .u32 a0.f1.f2, .int .u32 a0.f1.f3, .int .u32 a0.f1.f4, .int .u32 a0.f1.f5] 126 (0, 0)) q97x2_ hb); have n3_ := aM97_ (blk_below (g := gb178) (o := .cells #[.int .u32 t176.f0, .int .u32 t176.f1, .int .u32 t176.f2, .int .u32 t176.f3, .int .u32 t176.f4, .int .u32 t176.f5] 126 (0, 0)) (by (with_reducible repeat (first | refine blk_drewN ?_ _ | refine blk_drew ?_ | refine blk_alloc ?_ _)); exact BK178.out) hb); have n4_ := aM97_ (below_step q97x7_ hb); clear BK173 BK174 BK175 BK178 HB; have BK173 := n0_; have BK174 := n1_; have BK175 := n2_; have BK178 := n3_; have HB := n4_; clear n0_ n1_ n2_ n3_ n4_; (try clear hb); (try clear hb2); (try clear hk); (try clear hi); obtain ⟨hcz25_0, hcz25_1, hcz25_2, hcz25_3, hcz25_4, hcz25_5, hcz25_6⟩ := cells7_ (show w24.heap[gb174]? = some (.cells #[.bool false, .int .u32 0, .int .u32 0, .int .u32 0, .int .u32 0, .int .u32 0, .int .u32 0] 25 (0, 0)) from BK174.out); obtain ⟨hfz25_0, hfz25_1, hfz25_2, hfz25_3, hfz25_4, hfz25_5, hfz25_6⟩ := frozen7_ BK174.out) | ((with_reducible refine gate_store (t := 25) (p := 4) rfl ?_); refine store_event (t := 25) (p := 4) (v := ?vo_w26) (w1 := (World.setCell (World.setCell (World.setCell (World.setCell (World.setCell (World.setCell (World.setCell w24 ⟨gb174, 0, none⟩ (.bool t179.f0)) ⟨gb174, 1, none⟩ (.int .u32 t179.f1.f0)) ⟨gb174, 2, none⟩ (.int .u32 t179.f1.f1)) ⟨gb174, 3, none⟩ (.int .u32 t179.f1.f2)) ⟨gb174, 4, none⟩ (.int .u32 t179.f1.f3)) ⟨gb174, 5, none⟩ (.int .u32 t179.f1.f4)) ⟨gb174, 6, none⟩ (.int .u32 t179.f1.f5))) ?hg ?ho ?hn ?hr ?_; (case ho => rfl); (case hg => rfl); (case hn => rfl); (case hr => first | ((try simp only [Act.put, List.setIfInBounds_toArray, List.set_cons_zero, List.set_cons_succ]); exact run_put7_ rfl (show _ = Value.pointer (some ⟨gb174, 0, none⟩) from by rfl) (show _ = Value.agg #[.bool t179.f0, .int .u32 t179.f1.f0, .int .u32 t179.f1.f1, .int .u32 t179.f1.f2, .int .u32 t179.f1.f3, .int .u32 t179.f1.f4, .int .u32 t179.f1.f5] from by rfl) BK174.out (by kernel_rfl) (by rfl)) | (go_simp; done) | (go_simp; rfl)); intro w26 hw; have n0_ : Aside0 (w26.heap[gb173]? = some (.cells #[.bool a0.f0, .int .u32 a0.f1.f0, .int .u32 a0.f1.f1, .int .u32 a0.f1.f2, .int .u32 a0.f1.f3, .int .u32 a0.f1.f4, .int .u32 a0.f1.f5] 25 (0, 0))) := ⟨q97x22_⟩; have n1_ : Aside0 (w26.heap[gb174]? = some (.cells #[.bool t179.f0, .int .u32 t179.f1.f0, .int .u32 t179.f1.f1, .int .u32 t179.f1.f2, .int .u32 t179.f1.f3, .int .u32 t179.f1.f4, .int .u32 t179.f1.f5] 25 (0, 0))) := ⟨q97x14_⟩; have n2_ : Aside0 (w26.heap[gb175]? = some (.cells #[.int .u32 a0.f1.f0, .int .u32 a0.f1.f1, .int .u32 a0.f1.f2, .int .u32 a0.f1.f3, .int .u32 a0.f1.f4, .int .u32 a0.f1.f5] 126 (0, 0))) := ⟨q97x23_⟩; have n3_ : Aside0 (w26.heap[gb178]? = some (.cells #[.int .u32 t176.f0, .int .u32 t176.f1, .int .u32 t176.f2, .int .u32 t176.f3, .int .u32 t176.f4, .int .u32 t176.f5] 126 (0, 0))) := ⟨q97x24_⟩; have n4_ : Aside0 (Below w.heap.size w w26) := ⟨(by rw [hw]; exact q97x7_)⟩; clear hw; clear BK173; clear BK174; clear BK175; clear BK178; clear HB; have BK173 := n0_; have BK174 := n1_; have BK175 := n2_; have BK178 := n3_; have HB := n4_; clear n0_ n1_ n2_ n3_ n4_))
 refine bodyPost_ret (results_ct rfl _ _ gb174 25 #[.bool t179.f0, .int .u32 t179.f1.f0, .int .u32 t179.f1.f1, .int .u32 t179.f1.f2, .int .u32 t179.f1.f3, .int .u32 t179.f1.f4, .int .u32 t179.f1.f5] (0, 0) _ rfl q97x4_ Try.underlying25 rfl (by kernel_rfl)) rfl ?_
 exact ⟨by first | rfl | (simp [errW_none, errW_some] <;> rfl) | (simp [*, errW_none, errW_some] <;> rfl), by repeat (first | (with_reducible first | exact HB.out | apply below_alloc | apply pw_below_drewN | apply below_drew1 | refine below_set ?_ GE173.out | refine below_set ?_ GE174.out | refine below_set ?_ GE175.out | refine below_set ?_ GE178.out) | exact HB.out)⟩
end Go.Proofs.Ytbomadebdekjjaa.MFnExactSeriesTerms
