/- Functions of the program as Lean functions, and the proof that the code comes to what they say. Written by a program of this session (myprint.py). -/
import Derived.Test.YtgldplkbacfacaaMFnExactPairMovesx0
import Derived.Test.YtgldplkbacfacaaMFnExactPairMovesx1
namespace Go.Proofs.Ytgldplkbacfacaa.MFnExactPairMoves
open Go.RowKit Go.Proofs.Ytgldplkbacfacaa.MOpen Go.Proofs.YtgldplkbacfacaaW.PrintWords Go.Proofs.YtgldplkbacfacaaW.PrintLast Go.Proofs.YtgldplkbacfacaaW.PrintMore
attribute [local go_sem] max2_int min2_int max_two min_two max_three min_three max_four min_four   -- for this text's walks alone
set_option linter.unusedVariables false
set_option linter.unusedSimpArgs false

/-! ### spec_l04Work_end: function 55 -/
def spec_l04Work_end.f (k : Nat) (l0_0 : List (S52)) (l0_1 : List Int) (a0_2 : Bool) : Option (Int) := if a0_2 = true then (if (l0_1.length : Int) = 0 then (some 4) else ((spec_l04Terms.f k l0_1).bind fun t122 => (if t122 = true then (some 0) else (some 3)))) else (some 3)
theorem spec_l04Work_end.mono : ∀ a0 a1 a2 k, LeO (spec_l04Work_end.f k a0 a1 a2) (spec_l04Work_end.f (k + 1) a0 a1 a2) := by
  intro a0 a1 a2 k
  unfold spec_l04Work_end.f
  repeat' first
      | (with_reducible exact spec_l04Terms.mono _ _)
      | (with_reducible exact LeO.refl _)
      | (with_reducible exact LeO.none _)
      | (with_reducible refine LeO.ite ?_ ?_)
      | (with_reducible refine LeO.bind ?_ (fun _ => ?_))
      | exact spec_l04Terms.mono _ _
      | exact LeO.none _
      | refine LeO.ite ?_ ?_
      | refine LeO.bind ?_ (fun _ => ?_)
set_option maxHeartbeats 8000000 in
set_option maxRecDepth 100000 in
theorem spec_l04Work_end.calls (k : Nat) (B0_ O0_ : Nat) (A0_0 : Option Addr) (c0_0 : Nat) (l0_0 : List (S52)) (A0_1 : Option Addr) (c0_1 : Nat) (l0_1 : List Int) (a0_2 : Bool) (r : Int) (w : World) (hr0_0 : Kd.C k52 w A0_0 l0_0.length l0_0) (hc0_0 : l0_0.length ≤ c0_0) (hr0_1 : Kd.C (Kd.int .i64) w A0_1 l0_1.length l0_1) (hc0_1 : l0_1.length ≤ c0_1) (hq0_ : w.cell? ⟨B0_, O0_, none⟩ = some (.slice A0_0 l0_0.length c0_0) ∧ w.cell? ⟨B0_, O0_ + 1, none⟩ = some (.slice A0_1 l0_1.length c0_1) ∧ w.cell? ⟨B0_, O0_ + 2, none⟩ = some (.bool a0_2)) (h : spec_l04Work_end.f k l0_0 l0_1 a0_2 = some r) :
    Calls Try.prog 55 #[.pointer (some ⟨B0_, O0_, none⟩)] w fun e w' => e = .returned (.int .i64 r) ∧ Drawn0 w w' := by
  have HR0_0 := Aside0.mk hr0_0
  have HC0_0 := Aside0.mk hc0_0
  clear hr0_0 hc0_0
  have HR0_1 := Aside0.mk hr0_1
  have HC0_1 := Aside0.mk hc0_1
  clear hr0_1 hc0_1
  have HQ0_ := Aside0.mk hq0_
  clear hq0_
  have H : (if a0_2 = true then (if (l0_1.length : Int) = 0 then (some 4) else ((spec_l04Terms.f k l0_1).bind fun t122 => (if t122 = true then (some 0) else (some 3)))) else (some 3)) = some r := h
  clear h
  by_cases c2 : a0_2 = true
  · subst c2
    have H1 : (if (l0_1.length : Int) = 0 then (some 4) else ((spec_l04Terms.f k l0_1).bind fun t122 => (if t122 = true then (some 0) else (some 3)))) = some r := by rw [if_pos rfl] at H; exact H
    clear H
    have H := H1
    clear H1
    by_cases c3 : (l0_1.length : Int) = 0
    · rw [if_pos c3] at H
      have c3b0 : ((l0_1.length : Int) == 0) = true := beq_iff_eq.mpr c3
      have c3b1 : ((l0_1.length : Int) != 0) = false := bne_eq_false_iff_eq.mpr c3
      clear c3
      obtain rfl := Option.some.inj H
      obtain ⟨hxr4_0, hxr4_1, hxr4_2⟩ := HQ0_.out
      go_enter Try.func55, Try.ntmps55
      go_wp2
      go_ret
      exact ⟨by first | rfl | (simp; done) | (simp [*]; done), by repeat (first | exact Drawn0.refl _ | apply Drawn0.step)⟩
    · rw [if_neg c3] at H
      have c3b0 : ((l0_1.length : Int) == 0) = false := beq_eq_false_iff_ne.mpr c3
      have c3b1 : ((l0_1.length : Int) != 0) = true := bne_iff_ne.mpr c3
      have c3b2 : ¬ (l0_1 = []) := fun h_ => c3 (by rw [h_]; rfl)
      replace H := Option.bind_eq_some_iff.mp H
      obtain ⟨t122, A50, H⟩ := H
      replace H : (if t122 = true then (some 0) else (some 3)) = some r := H
      have A5 := Aside0.mk A50
      clear A50
      by_cases c6 : t122 = true
      · subst c6
        have H1 : (some 0) = some r := by rw [if_pos rfl] at H; exact H
        clear H
        have H := H1
        clear H1
        obtain rfl := Option.some.inj H
        obtain ⟨hxr7_0, hxr7_1, hxr7_2⟩ := HQ0_.out
        go_enter Try.func55, Try.ntmps55
        go_wp2_with (first | ((with_reducible refine gate_callee (f := 50) rfl ?_); refine goesL_ (some 18) rfl rfl Try.func50 (by kernel_rfl) rfl #[.slice A0_1 l0_1.length c0_1] rfl (by (try simp only [List.map_toArray, List.map_cons, List.map_nil]); first | done | rfl | (simp only [List.length_drop, List.length_take]; rfl) | (simp only [List.drop_one]; done) | (simp only [List.drop_one]; rfl)) ?_; (with_reducible refine (spec_l04Terms.calls k _ _ l0_1 true _ ?side1 ?side2 A5.out).mono ?_); (case side1 => repeat (first | exact HR0_1.out | (with_reducible refine Kd.C_alloc ?_ _) | (with_reducible refine Kd.C_drewN ?_ _) | (with_reducible refine Kd.C_drew ?_))); (case side2 => exact HC0_1.out); rintro e w' ⟨rfl, ⟨nd, rfl⟩⟩; refine ⟨_, rfl, ?_⟩))
        go_ret
        exact ⟨by first | rfl | (simp; done) | (simp [*]; done), by repeat (first | exact Drawn0.refl _ | apply Drawn0.step)⟩
      · replace c6 := Bool.eq_false_iff.mpr c6
        subst c6
        have H1 : (some 3) = some r := by rw [if_neg (show ¬ (false = true) by decide)] at H; exact H
        clear H
        have H := H1
        clear H1
        obtain rfl := Option.some.inj H
        obtain ⟨hxr8_0, hxr8_1, hxr8_2⟩ := HQ0_.out
        go_enter Try.func55, Try.ntmps55
        go_wp2_with (first | ((with_reducible refine gate_callee (f := 50) rfl ?_); refine goesL_ (some 18) rfl rfl Try.func50 (by kernel_rfl) rfl #[.slice A0_1 l0_1.length c0_1] rfl (by (try simp only [List.map_toArray, List.map_cons, List.map_nil]); first | done | rfl | (simp only [List.length_drop, List.length_take]; rfl) | (simp only [List.drop_one]; done) | (simp only [List.drop_one]; rfl)) ?_; (with_reducible refine (spec_l04Terms.calls k _ _ l0_1 false _ ?side1 ?side2 A5.out).mono ?_); (case side1 => repeat (first | exact HR0_1.out | (with_reducible refine Kd.C_alloc ?_ _) | (with_reducible refine Kd.C_drewN ?_ _) | (with_reducible refine Kd.C_drew ?_))); (case side2 => exact HC0_1.out); rintro e w' ⟨rfl, ⟨nd, rfl⟩⟩; refine ⟨_, rfl, ?_⟩))
        go_ret
        exact ⟨by first | rfl | (simp; done) | (simp [*]; done), by repeat (first | exact Drawn0.refl _ | apply Drawn0.step)⟩
  · replace c2 := Bool.eq_false_iff.mpr c2
    subst c2
    have H1 : (some 3) = some r := by rw [if_neg (show ¬ (false = true) by decide)] at H; exact H
    clear H
    have H := H1
    clear H1
    obtain rfl := Option.some.inj H
    obtain ⟨hxr9_0, hxr9_1, hxr9_2⟩ := HQ0_.out
    go_enter Try.func55, Try.ntmps55
    go_wp2
    go_ret
    exact ⟨by first | rfl | (simp; done) | (simp [*]; done), by repeat (first | exact Drawn0.refl _ | apply Drawn0.step)⟩

-- NOT PRINTED: function 39 (spec_l04Answer)

/-! ### spec_l04Floor: function 77 -/
def spec_l04Floor.f (a0 : Int) (a1 : Int) : Option (Int) := if a1 = 0 then (none) else (if (Int.tmod a0 a1) = 0 then (some (wrap64 (Int.tdiv a0 a1))) else (if ((decide (a0 < 0)) != (decide (a1 < 0))) = true then (some (wrap64 ((wrap64 (Int.tdiv a0 a1)) - 1))) else (some (wrap64 (Int.tdiv a0 a1)))))
set_option maxHeartbeats 8000000 in
set_option maxRecDepth 100000 in
theorem spec_l04Floor.calls (a0 : Int) (a1 : Int) (r : Int) (w : World) (h : spec_l04Floor.f a0 a1 = some r) :
    Calls Try.prog 77 #[.int .i64 a0, .int .i64 a1] w fun e w' => e = .returned (.int .i64 r) ∧ Drawn0 w w' := by
  have H : (if a1 = 0 then (none) else (if (Int.tmod a0 a1) = 0 then (some (wrap64 (Int.tdiv a0 a1))) else (if ((decide (a0 < 0)) != (decide (a1 < 0))) = true then (some (wrap64 ((wrap64 (Int.tdiv a0 a1)) - 1))) else (some (wrap64 (Int.tdiv a0 a1)))))) = some r := h
  clear h
  by_cases c3 : a1 = 0
  · rw [if_pos c3] at H
    exact absurd H (by simp)
  · rw [if_neg c3] at H
    have c3b0 : (a1 == 0) = false := beq_eq_false_iff_ne.mpr c3
    have c3b1 : (a1 != 0) = true := bne_iff_ne.mpr c3
    by_cases c4 : (Int.tmod a0 a1) = 0
    · rw [if_pos c4] at H
      have c4b0 : ((Int.tmod a0 a1) == 0) = true := beq_iff_eq.mpr c4
      have c4b1 : ((Int.tmod a0 a1) != 0) = false := bne_eq_false_iff_eq.mpr c4
      clear c4
      obtain rfl := Option.some.inj H
      go_enter Try.func77, Try.ntmps77
      go_wp2
      go_ret
      exact ⟨by first | rfl | (simp; done) | (simp [*]; done), by repeat (first | exact Drawn0.refl _ | apply Drawn0.step)⟩
    · rw [if_neg c4] at H
      have c4b0 : ((Int.tmod a0 a1) == 0) = false := beq_eq_false_iff_ne.mpr c4
      have c4b1 : ((Int.tmod a0 a1) != 0) = true := bne_iff_ne.mpr c4
      by_cases c5 : ((decide (a0 < 0)) != (decide (a1 < 0))) = true
      · rw [if_pos c5] at H
        have c5b0 : ((decide (a0 < 0)) != (decide (a1 < 0))) = true := c5
        (try (have c5b1 : decide ((decide (a0 < 0)) = (decide (a1 < 0))) = false := by simpa using c5))
        (try (have c5b2 : ((decide (a0 < 0)) == (decide (a1 < 0))) = false := by simpa using c5))
        (try (have c5b3 : ¬ ((decide (a0 < 0)) = (decide (a1 < 0))) := by simpa using c5))
        clear c5
        obtain rfl := Option.some.inj H
        go_enter Try.func77, Try.ntmps77
        go_wp2
        go_ret
        exact ⟨by first | rfl | (simp; done) | (simp [*]; done), by repeat (first | exact Drawn0.refl _ | apply Drawn0.step)⟩
      · rw [if_neg c5] at H
        have c5b0 : ((decide (a0 < 0)) != (decide (a1 < 0))) = false := by simpa using c5
        (try (have c5b1 : decide ((decide (a0 < 0)) = (decide (a1 < 0))) = true := by simpa using c5))
        (try (have c5b2 : ((decide (a0 < 0)) == (decide (a1 < 0))) = true := by simpa using c5))
        clear c5
        obtain rfl := Option.some.inj H
        go_enter Try.func77, Try.ntmps77
        go_wp2
        go_ret
        exact ⟨by first | rfl | (simp; done) | (simp [*]; done), by repeat (first | exact Drawn0.refl _ | apply Drawn0.step)⟩

/-! ### spec_l04Alike: function 56 -/
mutual
def spec_l04Alike.l0 : Nat → List Int → List Int → Int → Option (Int × Bool)
  | 0, _, _, _ => none
  | k + 1, x0, x1, x6 => if x6 < (x1.length : Int) then (if 0 ≤ x6 then (if (rd x1 x6) = 0 then (some (0, false)) else (if 0 < (x1.length : Int) then (if ((decide ((rd x1 x6) > 0)) != (decide ((rd x1 0) > 0))) = true then (some (0, false)) else (spec_l04Alike.l0 k x0 x1 (wrap64 (x6 + 1)))) else (none))) else (none)) else (if 0 < (x0.length : Int) then (if 0 < (x1.length : Int) then ((spec_l04Floor.f (rd x0 0) (rd x1 0)).bind fun t128 => (spec_l04Alike.l1 k x0 x1 t128 1)) else (none)) else (none))
def spec_l04Alike.l1 : Nat → List Int → List Int → Int → Int → Option (Int × Bool)
  | 0, _, _, _, _ => none
  | k + 1, x0, x1, x7, x8 => if x8 < (x1.length : Int) then (if 0 ≤ x8 then (if x8 < (x0.length : Int) then ((spec_l04Floor.f (rd x0 x8) (rd x1 x8)).bind fun t131 => (if t131 = x7 then (spec_l04Alike.l1 k x0 x1 x7 (wrap64 (x8 + 1))) else (some (0, false)))) else (none)) else (none)) else (some (x7, true))
end
def spec_l04Alike.f (k : Nat) (l0 : List Int) (l1 : List Int) : Option (Int × Bool) := spec_l04Alike.l0 k l0 l1 0
theorem spec_l04Alike.mono_l : ∀ k, (∀ y0 y1 y2, LeO (spec_l04Alike.l0 k y0 y1 y2) (spec_l04Alike.l0 (k + 1) y0 y1 y2)) ∧ (∀ y0 y1 y2 y3, LeO (spec_l04Alike.l1 k y0 y1 y2 y3) (spec_l04Alike.l1 (k + 1) y0 y1 y2 y3))
  | 0 => ⟨fun _ _ _ r h => by simp [spec_l04Alike.l0] at h, fun _ _ _ _ r h => by simp [spec_l04Alike.l1] at h⟩
  | k + 1 => by
    obtain ⟨ih0, ih1⟩ := spec_l04Alike.mono_l k
    refine ⟨?_, ?_⟩
    · intro y0 y1 y2
      unfold spec_l04Alike.l0
      repeat' first
      | (with_reducible exact ih0 _ _ _)
      | (with_reducible exact ih1 _ _ _ _)
      | (with_reducible exact LeO.refl _)
      | (with_reducible exact LeO.none _)
      | (with_reducible refine LeO.ite ?_ ?_)
      | (with_reducible refine LeO.bind ?_ (fun _ => ?_))
      | exact ih0 _ _ _
      | exact ih1 _ _ _ _
      | exact LeO.none _
      | refine LeO.ite ?_ ?_
      | refine LeO.bind ?_ (fun _ => ?_)
    · intro y0 y1 y2 y3
      unfold spec_l04Alike.l1
      repeat' first
      | (with_reducible exact ih0 _ _ _)
      | (with_reducible exact ih1 _ _ _ _)
      | (with_reducible exact LeO.refl _)
      | (with_reducible exact LeO.none _)
      | (with_reducible refine LeO.ite ?_ ?_)
      | (with_reducible refine LeO.bind ?_ (fun _ => ?_))
      | exact ih0 _ _ _
      | exact ih1 _ _ _ _
      | exact LeO.none _
      | refine LeO.ite ?_ ?_
      | refine LeO.bind ?_ (fun _ => ?_)
theorem spec_l04Alike.mono : ∀ a0 a1 k, LeO (spec_l04Alike.f k a0 a1) (spec_l04Alike.f (k + 1) a0 a1) := by
  intro a0 a1 k
  obtain ⟨ih0, ih1⟩ := spec_l04Alike.mono_l k
  unfold spec_l04Alike.f
  repeat' first
      | (with_reducible exact ih0 _ _ _)
      | (with_reducible exact ih1 _ _ _ _)
      | (with_reducible exact LeO.refl _)
      | (with_reducible exact LeO.none _)
      | (with_reducible refine LeO.ite ?_ ?_)
      | (with_reducible refine LeO.bind ?_ (fun _ => ?_))
      | exact ih0 _ _ _
      | exact ih1 _ _ _ _
      | exact LeO.none _
      | refine LeO.ite ?_ ?_
      | refine LeO.bind ?_ (fun _ => ?_)
set_option maxHeartbeats 8000000 in
set_option maxRecDepth 100000 in
theorem spec_l04Alike.calls (k : Nat) (A0 : Option Addr) (c0 : Nat) (l0 : List Int) (A1 : Option Addr) (c1 : Nat) (l1 : List Int) (r1 : Int) (r2 : Bool) (w : World) (hr0 : Kd.C (Kd.int .i64) w A0 l0.length l0) (hc0 : l0.length ≤ c0) (hr1 : Kd.C (Kd.int .i64) w A1 l1.length l1) (hc1 : l1.length ≤ c1) (h : spec_l04Alike.f k l0 l1 = some (r1, r2)) :
    Calls Try.prog 56 #[.slice A0 l0.length c0, .slice A1 l1.length c1] w fun e w' => e = .returned (.tuple #[.int .i64 r1, .bool r2]) ∧ Drawn0 w w' := by
  have HR0 := Aside0.mk hr0
  have HC0 := Aside0.mk hc0
  clear hr0 hc0
  have HR1 := Aside0.mk hr1
  have HC1 := Aside0.mk hc1
  clear hr1 hc1
  have H : (spec_l04Alike.l0 k l0 l1 0) = some (r1, r2) := h
  clear h
  have H' := Aside0.mk H
  clear H
  go_enter Try.func56, Try.ntmps56
  go_wp2
  repeat (go_quiet (fail); try go_wp2)
  go_loopg [6] k (fun kq v6 w' => ∃ (x6_1 : Int), v6 = .int .i64 x6_1 ∧ Aside0 (spec_l04Alike.l0 kq l0 l1 x6_1 = some (r1, r2)) ∧ Aside0 (kq ≤ k) ∧ Drawn0 w w')
  case atStart => exact ⟨(0), (by first | rfl | (simp; done) | (simp [*]; done)), H', ⟨Nat.le_refl _⟩, by repeat (first | exact Drawn0.refl _ | apply Drawn0.step)⟩
  case round =>
    clear H'
    try clear c1
    try clear p2
    obtain ⟨x6_1, rfl, HA, HK1, ⟨m1, rfl⟩⟩ := hrel
    cases gk with
    | zero => exact absurd HA.out (by simp [spec_l04Alike.l0])
    | succ k1 =>
      have H := HA.out
      clear HA
      simp only [spec_l04Alike.l0] at H
      by_cases c3 : x6_1 < (l1.length : Int)
      · rw [if_pos c3] at H
        have c3b0 : decide (x6_1 < (l1.length : Int)) = true := decide_eq_true c3
        clear c3
        by_cases c4 : 0 ≤ x6_1
        · rw [if_pos c4] at H
          have c4b0 : decide (0 ≤ x6_1) = true := decide_eq_true c4
          clear c4
          by_cases c5 : (rd l1 x6_1) = 0
          · rw [if_pos c5] at H
            have c5b0 : ((rd l1 x6_1) == 0) = true := beq_iff_eq.mpr c5
            have c5b1 : ((rd l1 x6_1) != 0) = false := bne_eq_false_iff_eq.mpr c5
            clear c5
            simp only [Option.some.injEq, Prod.mk.injEq] at H
            obtain ⟨rfl, rfl⟩ := H
            have p123 : 0 ≤ (x6_1 : Int) := of_decide_eq_true (by first | (with_reducible assumption) | assumption)
            have q123 : x6_1 < (l1.length : Int) := of_decide_eq_true (by first | (with_reducible assumption) | assumption)
            obtain ⟨ad123, e123, hx123_0⟩ := Kd.at_int HR1.out x6_1 p123 q123
            cases e123
            replace p123 := eq_true p123
            replace q123 := eq_true q123
            go_wp2
            repeat (go_quiet (fail); try go_wp2)
            go_ret2
            exact ⟨by first | rfl | (simp; done) | (simp [*]; done), by repeat (first | exact Drawn0.refl _ | apply Drawn0.step)⟩
          · rw [if_neg c5] at H
            have c5b0 : ((rd l1 x6_1) == 0) = false := beq_eq_false_iff_ne.mpr c5
            have c5b1 : ((rd l1 x6_1) != 0) = true := bne_iff_ne.mpr c5
            by_cases c6 : 0 < (l1.length : Int)
            · rw [if_pos c6] at H
              have c6b0 : decide (0 < (l1.length : Int)) = true := decide_eq_true c6
              have c6b1 : decide (0 < l1.length) = true := decide_eq_true (by omega)
              clear c6
              by_cases c7 : ((decide ((rd l1 x6_1) > 0)) != (decide ((rd l1 0) > 0))) = true
              · rw [if_pos c7] at H
                have c7b0 : ((decide ((rd l1 x6_1) > 0)) != (decide ((rd l1 0) > 0))) = true := c7
                (try (have c7b1 : decide ((decide ((rd l1 x6_1) > 0)) = (decide ((rd l1 0) > 0))) = false := by simpa using c7))
                (try (have c7b2 : ((decide ((rd l1 x6_1) > 0)) == (decide ((rd l1 0) > 0))) = false := by simpa using c7))
                (try (have c7b3 : ¬ ((decide ((rd l1 x6_1) > 0)) = (decide ((rd l1 0) > 0))) := by simpa using c7))
                clear c7
                simp only [Option.some.injEq, Prod.mk.injEq] at H
                obtain ⟨rfl, rfl⟩ := H
                have p123 : 0 ≤ (x6_1 : Int) := of_decide_eq_true (by first | (with_reducible assumption) | assumption)
                have q123 : x6_1 < (l1.length : Int) := of_decide_eq_true (by first | (with_reducible assumption) | assumption)
                obtain ⟨ad123, e123, hx123_0⟩ := Kd.at_int HR1.out x6_1 p123 q123
                cases e123
                replace p123 := eq_true p123
                replace q123 := eq_true q123
                have p124 : 0 ≤ (x6_1 : Int) := of_decide_eq_true (by first | (with_reducible assumption) | assumption)
                have q124 : x6_1 < (l1.length : Int) := of_decide_eq_true (by first | (with_reducible assumption) | assumption)
                obtain ⟨ad124, e124, hx124_0⟩ := Kd.at_int HR1.out x6_1 p124 q124
                obtain rfl : ad123 = ad124 := (by injection e124)
                replace p124 := eq_true p124
                replace q124 := eq_true q124
                have p125 : 0 ≤ (0 : Int) := (by omega)
                have q125 : 0 < (l1.length : Int) := of_decide_eq_true (by first | (with_reducible assumption) | assumption)
                obtain ⟨ad125, e125, hx125_0⟩ := Kd.at_int HR1.out 0 p125 q125
                obtain rfl : ad123 = ad125 := (by injection e125)
                have qi125 : (0 < l1.length) = True := eq_true (by omega)
                (try rw [show ((0 : Int)).toNat = 0 from rfl] at hx125_0)
                (try rw [Addr.add_zero'] at hx125_0)
                replace p125 := eq_true p125
                replace q125 := eq_true q125
                go_wp2
                repeat (go_quiet (fail); try go_wp2)
                go_ret2
                exact ⟨by first | rfl | (simp; done) | (simp [*]; done), by repeat (first | exact Drawn0.refl _ | apply Drawn0.step)⟩
              · rw [if_neg c7] at H
                have c7b0 : ((decide ((rd l1 x6_1) > 0)) != (decide ((rd l1 0) > 0))) = false := by simpa using c7
                (try (have c7b1 : decide ((decide ((rd l1 x6_1) > 0)) = (decide ((rd l1 0) > 0))) = true := by simpa using c7))
                (try (have c7b2 : ((decide ((rd l1 x6_1) > 0)) == (decide ((rd l1 0) > 0))) = true := by simpa using c7))
                clear c7
                have H' := Aside0.mk H
                clear H
                have p123 : 0 ≤ (x6_1 : Int) := of_decide_eq_true (by first | (with_reducible assumption) | assumption)
                have q123 : x6_1 < (l1.length : Int) := of_decide_eq_true (by first | (with_reducible assumption) | assumption)
                obtain ⟨ad123, e123, hx123_0⟩ := Kd.at_int HR1.out x6_1 p123 q123
                cases e123
                replace p123 := eq_true p123
                replace q123 := eq_true q123
                have p124 : 0 ≤ (x6_1 : Int) := of_decide_eq_true (by first | (with_reducible assumption) | assumption)
                have q124 : x6_1 < (l1.length : Int) := of_decide_eq_true (by first | (with_reducible assumption) | assumption)
                obtain ⟨ad124, e124, hx124_0⟩ := Kd.at_int HR1.out x6_1 p124 q124
                obtain rfl : ad123 = ad124 := (by injection e124)
                replace p124 := eq_true p124
                replace q124 := eq_true q124
                have p125 : 0 ≤ (0 : Int) := (by omega)
                have q125 : 0 < (l1.length : Int) := of_decide_eq_true (by first | (with_reducible assumption) | assumption)
                obtain ⟨ad125, e125, hx125_0⟩ := Kd.at_int HR1.out 0 p125 q125
                obtain rfl : ad123 = ad125 := (by injection e125)
                have qi125 : (0 < l1.length) = True := eq_true (by omega)
                (try rw [show ((0 : Int)).toNat = 0 from rfl] at hx125_0)
                (try rw [Addr.add_zero'] at hx125_0)
                replace p125 := eq_true p125
                replace q125 := eq_true q125
                go_wp2
                repeat (go_quiet (fail); try go_wp2)
                go_roundg k1
                case measure => have := HK1.out; omega
                case rel => exact ⟨(wrap64 (x6_1 + 1)), (by first | rfl | (simp; done) | (simp [*]; done)), H', ⟨by have := HK1.out; omega⟩, by repeat (first | exact Drawn0.refl _ | apply Drawn0.step)⟩
            · rw [if_neg c6] at H
              exact absurd H (by simp)
        · rw [if_neg c4] at H
          exact absurd H (by simp)
      · rw [if_neg c3] at H
        have c3b0 : decide (x6_1 < (l1.length : Int)) = false := decide_eq_false c3
        clear c3
        by_cases c8 : 0 < (l0.length : Int)
        · rw [if_pos c8] at H
          have c8b0 : decide (0 < (l0.length : Int)) = true := decide_eq_true c8
          have c8b1 : decide (0 < l0.length) = true := decide_eq_true (by omega)
          clear c8
          by_cases c9 : 0 < (l1.length : Int)
          · rw [if_pos c9] at H
            have c9b0 : decide (0 < (l1.length : Int)) = true := decide_eq_true c9
            have c9b1 : decide (0 < l1.length) = true := decide_eq_true (by omega)
            clear c9
            replace H := Option.bind_eq_some_iff.mp H
            obtain ⟨t128, A100, H⟩ := H
            replace H : (spec_l04Alike.l1 k1 l0 l1 t128 1) = some (r1, r2) := H
            have A10 := Aside0.mk A100
            clear A100
            have H' := Aside0.mk H
            clear H
            have p126 : 0 ≤ (0 : Int) := (by omega)
            have q126 : 0 < (l0.length : Int) := of_decide_eq_true (by first | (with_reducible assumption) | assumption)
            obtain ⟨ad126, e126, hx126_0⟩ := Kd.at_int HR0.out 0 p126 q126
            cases e126
            have qi126 : (0 < l0.length) = True := eq_true (by omega)
            (try rw [show ((0 : Int)).toNat = 0 from rfl] at hx126_0)
            (try rw [Addr.add_zero'] at hx126_0)
            replace p126 := eq_true p126
            replace q126 := eq_true q126
            have p127 : 0 ≤ (0 : Int) := (by omega)
            have q127 : 0 < (l1.length : Int) := of_decide_eq_true (by first | (with_reducible assumption) | assumption)
            obtain ⟨ad127, e127, hx127_0⟩ := Kd.at_int HR1.out 0 p127 q127
            cases e127
            have qi127 : (0 < l1.length) = True := eq_true (by omega)
            (try rw [show ((0 : Int)).toNat = 0 from rfl] at hx127_0)
            (try rw [Addr.add_zero'] at hx127_0)
            replace p127 := eq_true p127
            replace q127 := eq_true q127
            go_wp2_with (first | (go_at_call 77; (with_reducible refine (spec_l04Floor.calls (rd l0 0) (rd l1 0) t128 _ A10.out).mono ?_); rintro e w' ⟨rfl, ⟨nd, rfl⟩⟩; (try first | exact ⟨rfl, _, World.drewN_drewN _ _ _⟩ | exact ⟨rfl, _, Eq.trans (World.drewN_drewN _ _ _) (congrArg (World.drewN _) (Nat.add_assoc _ _ _))⟩)))
            repeat (go_quiet (first | (go_at_call 77; (with_reducible refine (spec_l04Floor.calls (rd l0 0) (rd l1 0) t128 _ A10.out).mono ?_); rintro e w' ⟨rfl, ⟨nd, rfl⟩⟩; (try first | exact ⟨rfl, _, World.drewN_drewN _ _ _⟩ | exact ⟨rfl, _, Eq.trans (World.drewN_drewN _ _ _) (congrArg (World.drewN _) (Nat.add_assoc _ _ _))⟩))); try go_wp2_with (first | (go_at_call 77; (with_reducible refine (spec_l04Floor.calls (rd l0 0) (rd l1 0) t128 _ A10.out).mono ?_); rintro e w' ⟨rfl, ⟨nd, rfl⟩⟩; (try first | exact ⟨rfl, _, World.drewN_drewN _ _ _⟩ | exact ⟨rfl, _, Eq.trans (World.drewN_drewN _ _ _) (congrArg (World.drewN _) (Nat.add_assoc _ _ _))⟩))))
            go_loopg [8] k1 (fun kq v8 w' => ∃ (x8_2 : Int), v8 = .int .i64 x8_2 ∧ Aside0 (spec_l04Alike.l1 kq l0 l1 t128 x8_2 = some (r1, r2)) ∧ Aside0 (kq ≤ k1) ∧ Drawn0 w w')
            case atStart => exact ⟨(1), (by first | rfl | (simp; done) | (simp [*]; done)), H', ⟨Nat.le_refl _⟩, by repeat (first | exact Drawn0.refl _ | apply Drawn0.step)⟩
            case round =>
              clear H'
              try clear c1
              try clear p1
              try clear q1
              try clear hx1
              try clear qi1
              try clear p2
              try clear c3
              try clear c3b0
              try clear c4
              try clear c4b0
              try clear c5
              try clear c5b0
              try clear c5b1
              try clear c6
              try clear c6b0
              try clear c6b1
              try clear p6
              try clear c7
              try clear c7b0
              try clear c7b1
              try clear c7b2
              try clear c8
              try clear c8b0
              try clear c8b1
              try clear c9
              try clear c9b0
              try clear c9b1
              try clear hx123_0
              try clear hx124_0
              try clear hx125_0
              try clear hx126_0
              try clear hx127_0
              try clear p123
              try clear p124
              try clear p125
              try clear p126
              try clear p127
              try clear p2
              try clear q123
              try clear q124
              try clear q125
              try clear q126
              try clear q127
              obtain ⟨x8_2, rfl, HA, HK2, ⟨m2, rfl⟩⟩ := hrel
              cases gk with
              | zero => exact absurd HA.out (by simp [spec_l04Alike.l1])
              | succ k2 =>
                have H := HA.out
                clear HA
                simp only [spec_l04Alike.l1] at H
                by_cases c11 : x8_2 < (l1.length : Int)
                · rw [if_pos c11] at H
                  have c11b0 : decide (x8_2 < (l1.length : Int)) = true := decide_eq_true c11
                  clear c11
                  by_cases c12 : 0 ≤ x8_2
                  · rw [if_pos c12] at H
                    have c12b0 : decide (0 ≤ x8_2) = true := decide_eq_true c12
                    clear c12
                    by_cases c13 : x8_2 < (l0.length : Int)
                    · rw [if_pos c13] at H
                      have c13b0 : decide (x8_2 < (l0.length : Int)) = true := decide_eq_true c13
                      clear c13
                      replace H := Option.bind_eq_some_iff.mp H
                      obtain ⟨t131, A140, H⟩ := H
                      replace H : (if t131 = t128 then (spec_l04Alike.l1 k2 l0 l1 t128 (wrap64 (x8_2 + 1))) else (some (0, false))) = some (r1, r2) := H
                      have A14 := Aside0.mk A140
                      clear A140
                      by_cases c15 : t131 = t128
                      · rw [if_pos c15] at H
                        have c15b0 : (t131 == t128) = true := beq_iff_eq.mpr c15
                        have c15b1 : (t131 != t128) = false := bne_eq_false_iff_eq.mpr c15
                        clear c15
                        have H' := Aside0.mk H
                        clear H
                        have p129 : 0 ≤ (x8_2 : Int) := of_decide_eq_true (by first | (with_reducible assumption) | assumption)
                        have q129 : x8_2 < (l0.length : Int) := of_decide_eq_true (by first | (with_reducible assumption) | assumption)
                        obtain ⟨ad129, e129, hx129_0⟩ := Kd.at_int HR0.out x8_2 p129 q129
                        obtain rfl : ad126 = ad129 := (by injection e129)
                        replace p129 := eq_true p129
                        replace q129 := eq_true q129
                        have p130 : 0 ≤ (x8_2 : Int) := of_decide_eq_true (by first | (with_reducible assumption) | assumption)
                        have q130 : x8_2 < (l1.length : Int) := of_decide_eq_true (by first | (with_reducible assumption) | assumption)
                        obtain ⟨ad130, e130, hx130_0⟩ := Kd.at_int HR1.out x8_2 p130 q130
                        obtain rfl : ad127 = ad130 := (by injection e130)
                        replace p130 := eq_true p130
                        replace q130 := eq_true q130
                        go_wp2_with (first | (go_at_call 77; (with_reducible refine (spec_l04Floor.calls (rd l0 x8_2) (rd l1 x8_2) t131 _ A14.out).mono ?_); rintro e w' ⟨rfl, ⟨nd, rfl⟩⟩; (try first | exact ⟨rfl, _, World.drewN_drewN _ _ _⟩ | exact ⟨rfl, _, Eq.trans (World.drewN_drewN _ _ _) (congrArg (World.drewN _) (Nat.add_assoc _ _ _))⟩)))
                        repeat (go_quiet (first | (go_at_call 77; (with_reducible refine (spec_l04Floor.calls (rd l0 x8_2) (rd l1 x8_2) t131 _ A14.out).mono ?_); rintro e w' ⟨rfl, ⟨nd, rfl⟩⟩; (try first | exact ⟨rfl, _, World.drewN_drewN _ _ _⟩ | exact ⟨rfl, _, Eq.trans (World.drewN_drewN _ _ _) (congrArg (World.drewN _) (Nat.add_assoc _ _ _))⟩))); try go_wp2_with (first | (go_at_call 77; (with_reducible refine (spec_l04Floor.calls (rd l0 x8_2) (rd l1 x8_2) t131 _ A14.out).mono ?_); rintro e w' ⟨rfl, ⟨nd, rfl⟩⟩; (try first | exact ⟨rfl, _, World.drewN_drewN _ _ _⟩ | exact ⟨rfl, _, Eq.trans (World.drewN_drewN _ _ _) (congrArg (World.drewN _) (Nat.add_assoc _ _ _))⟩))))
                        go_roundg k2
                        case measure => have := HK1.out; have := HK2.out; omega
                        case rel => exact ⟨(wrap64 (x8_2 + 1)), (by first | rfl | (simp; done) | (simp [*]; done)), H', ⟨by have := HK1.out; have := HK2.out; omega⟩, by repeat (first | exact Drawn0.refl _ | apply Drawn0.step)⟩
                      · rw [if_neg c15] at H
                        have c15b0 : (t131 == t128) = false := beq_eq_false_iff_ne.mpr c15
                        have c15b1 : (t131 != t128) = true := bne_iff_ne.mpr c15
                        simp only [Option.some.injEq, Prod.mk.injEq] at H
                        obtain ⟨rfl, rfl⟩ := H
                        have p129 : 0 ≤ (x8_2 : Int) := of_decide_eq_true (by first | (with_reducible assumption) | assumption)
                        have q129 : x8_2 < (l0.length : Int) := of_decide_eq_true (by first | (with_reducible assumption) | assumption)
                        obtain ⟨ad129, e129, hx129_0⟩ := Kd.at_int HR0.out x8_2 p129 q129
                        obtain rfl : ad126 = ad129 := (by injection e129)
                        replace p129 := eq_true p129
                        replace q129 := eq_true q129
                        have p130 : 0 ≤ (x8_2 : Int) := of_decide_eq_true (by first | (with_reducible assumption) | assumption)
                        have q130 : x8_2 < (l1.length : Int) := of_decide_eq_true (by first | (with_reducible assumption) | assumption)
                        obtain ⟨ad130, e130, hx130_0⟩ := Kd.at_int HR1.out x8_2 p130 q130
                        obtain rfl : ad127 = ad130 := (by injection e130)
                        replace p130 := eq_true p130
                        replace q130 := eq_true q130
                        go_wp2_with (first | (go_at_call 77; (with_reducible refine (spec_l04Floor.calls (rd l0 x8_2) (rd l1 x8_2) t131 _ A14.out).mono ?_); rintro e w' ⟨rfl, ⟨nd, rfl⟩⟩; (try first | exact ⟨rfl, _, World.drewN_drewN _ _ _⟩ | exact ⟨rfl, _, Eq.trans (World.drewN_drewN _ _ _) (congrArg (World.drewN _) (Nat.add_assoc _ _ _))⟩)))
                        repeat (go_quiet (first | (go_at_call 77; (with_reducible refine (spec_l04Floor.calls (rd l0 x8_2) (rd l1 x8_2) t131 _ A14.out).mono ?_); rintro e w' ⟨rfl, ⟨nd, rfl⟩⟩; (try first | exact ⟨rfl, _, World.drewN_drewN _ _ _⟩ | exact ⟨rfl, _, Eq.trans (World.drewN_drewN _ _ _) (congrArg (World.drewN _) (Nat.add_assoc _ _ _))⟩))); try go_wp2_with (first | (go_at_call 77; (with_reducible refine (spec_l04Floor.calls (rd l0 x8_2) (rd l1 x8_2) t131 _ A14.out).mono ?_); rintro e w' ⟨rfl, ⟨nd, rfl⟩⟩; (try first | exact ⟨rfl, _, World.drewN_drewN _ _ _⟩ | exact ⟨rfl, _, Eq.trans (World.drewN_drewN _ _ _) (congrArg (World.drewN _) (Nat.add_assoc _ _ _))⟩))))
                        go_ret2
                        exact ⟨by first | rfl | (simp; done) | (simp [*]; done), by repeat (first | exact Drawn0.refl _ | apply Drawn0.step)⟩
                    · rw [if_neg c13] at H
                      exact absurd H (by simp)
                  · rw [if_neg c12] at H
                    exact absurd H (by simp)
                · rw [if_neg c11] at H
                  have c11b0 : decide (x8_2 < (l1.length : Int)) = false := decide_eq_false c11
                  clear c11
                  simp only [Option.some.injEq, Prod.mk.injEq] at H
                  obtain ⟨rfl, rfl⟩ := H
                  go_wp2
                  repeat (go_quiet (fail); try go_wp2)
                  go_ret2
                  exact ⟨by first | rfl | (simp; done) | (simp [*]; done), by repeat (first | exact Drawn0.refl _ | apply Drawn0.step)⟩
          · rw [if_neg c9] at H
            exact absurd H (by simp)
        · rw [if_neg c8] at H
          exact absurd H (by simp)

-- NOT PRINTED: function 57 (spec_l04Work_give)

/-! ### spec_l04Cell: function 78 -/
def spec_l04Cell.f (a0 : Int) (a1 : Int) (a2 : Int) : Option (Int × Bool) := if a1 = 0 then ((spec_l03Size.f (wrap64 ((wrap64 (a0 * a1)) + a2))).bind fun t132 => (some (wrap64 ((wrap64 (a0 * a1)) + a2), decide (t132 ≤ 1000000000000000)))) else ((spec_l03Size.f a0).bind fun t133 => ((spec_l03Size.f a1).bind fun t134 => (if t134 = 0 then (none) else (if t133 > (wrap64 (Int.tdiv (2000000000000000 : Int) t134)) then (some (0, false)) else ((spec_l03Size.f (wrap64 ((wrap64 (a0 * a1)) + a2))).bind fun t135 => (some (wrap64 ((wrap64 (a0 * a1)) + a2), decide (t135 ≤ 1000000000000000))))))))
set_option maxHeartbeats 8000000 in
set_option maxRecDepth 100000 in
theorem spec_l04Cell.calls (a0 : Int) (a1 : Int) (a2 : Int) (r1 : Int) (r2 : Bool) (w : World) (h : spec_l04Cell.f a0 a1 a2 = some (r1, r2)) :
    Calls Try.prog 78 #[.int .i64 a0, .int .i64 a1, .int .i64 a2] w fun e w' => e = .returned (.tuple #[.int .i64 r1, .bool r2]) ∧ Drawn0 w w' := by
  have H : (if a1 = 0 then ((spec_l03Size.f (wrap64 ((wrap64 (a0 * a1)) + a2))).bind fun t132 => (some (wrap64 ((wrap64 (a0 * a1)) + a2), decide (t132 ≤ 1000000000000000)))) else ((spec_l03Size.f a0).bind fun t133 => ((spec_l03Size.f a1).bind fun t134 => (if t134 = 0 then (none) else (if t133 > (wrap64 (Int.tdiv (2000000000000000 : Int) t134)) then (some (0, false)) else ((spec_l03Size.f (wrap64 ((wrap64 (a0 * a1)) + a2))).bind fun t135 => (some (wrap64 ((wrap64 (a0 * a1)) + a2), decide (t135 ≤ 1000000000000000))))))))) = some (r1, r2) := h
  clear h
  by_cases c4 : a1 = 0
  · rw [if_pos c4] at H
    have c4b0 : (a1 == 0) = true := beq_iff_eq.mpr c4
    have c4b1 : (a1 != 0) = false := bne_eq_false_iff_eq.mpr c4
    clear c4
    replace H := Option.bind_eq_some_iff.mp H
    obtain ⟨t132, A50, H⟩ := H
    replace H : (some (wrap64 ((wrap64 (a0 * a1)) + a2), decide (t132 ≤ 1000000000000000))) = some (r1, r2) := H
    have A5 := Aside0.mk A50
    clear A50
    simp only [Option.some.injEq, Prod.mk.injEq] at H
    obtain ⟨rfl, rfl⟩ := H
    go_enter Try.func78, Try.ntmps78
    go_wp2_with (first | ((with_reducible refine gate_callee (f := 73) rfl ?_); refine goesL_ (some 26) rfl rfl Try.func73 (by kernel_rfl) rfl #[.int .i64 (wrap64 ((wrap64 (a0 * a1)) + a2))] rfl (by (try simp only [List.map_toArray, List.map_cons, List.map_nil]); first | done | rfl | (simp only [List.length_drop, List.length_take]; rfl) | (simp only [List.drop_one]; done) | (simp only [List.drop_one]; rfl)) ?_; (with_reducible refine (spec_l03Size.calls (wrap64 ((wrap64 (a0 * a1)) + a2)) t132 _ A5.out).mono ?_); rintro e w' ⟨rfl, ⟨nd, rfl⟩⟩; refine ⟨_, rfl, ?_⟩))
    go_ret2
    exact ⟨by first | rfl | (simp; done) | (simp [*]; done), by repeat (first | exact Drawn0.refl _ | apply Drawn0.step)⟩
  · rw [if_neg c4] at H
    have c4b0 : (a1 == 0) = false := beq_eq_false_iff_ne.mpr c4
    have c4b1 : (a1 != 0) = true := bne_iff_ne.mpr c4
    replace H := Option.bind_eq_some_iff.mp H
    obtain ⟨t133, A60, H⟩ := H
    replace H : ((spec_l03Size.f a1).bind fun t134 => (if t134 = 0 then (none) else (if t133 > (wrap64 (Int.tdiv (2000000000000000 : Int) t134)) then (some (0, false)) else ((spec_l03Size.f (wrap64 ((wrap64 (a0 * a1)) + a2))).bind fun t135 => (some (wrap64 ((wrap64 (a0 * a1)) + a2), decide (t135 ≤ 1000000000000000))))))) = some (r1, r2) := H
    have A6 := Aside0.mk A60
    clear A60
    replace H := Option.bind_eq_some_iff.mp H
    obtain ⟨t134, A70, H⟩ := H
    replace H : (if t134 = 0 then (none) else (if t133 > (wrap64 (Int.tdiv (2000000000000000 : Int) t134)) then (some (0, false)) else ((spec_l03Size.f (wrap64 ((wrap64 (a0 * a1)) + a2))).bind fun t135 => (some (wrap64 ((wrap64 (a0 * a1)) + a2), decide (t135 ≤ 1000000000000000)))))) = some (r1, r2) := H
    have A7 := Aside0.mk A70
    clear A70
    by_cases c8 : t134 = 0
    · rw [if_pos c8] at H
      exact absurd H (by simp)
    · rw [if_neg c8] at H
      have c8b0 : (t134 == 0) = false := beq_eq_false_iff_ne.mpr c8
      have c8b1 : (t134 != 0) = true := bne_iff_ne.mpr c8
      by_cases c9 : t133 > (wrap64 (Int.tdiv (2000000000000000 : Int) t134))
      · rw [if_pos c9] at H
        have c9b0 : decide ((wrap64 (Int.tdiv (2000000000000000 : Int) t134)) < t133) = true := decide_eq_true c9
        clear c9
        simp only [Option.some.injEq, Prod.mk.injEq] at H
        obtain ⟨rfl, rfl⟩ := H
        go_enter Try.func78, Try.ntmps78
        go_wp2_with (first | (go_at_call 73; (with_reducible refine (spec_l03Size.calls a0 t133 _ A6.out).mono ?_); rintro e w' ⟨rfl, ⟨nd, rfl⟩⟩) | (go_at_call 73; (with_reducible refine (spec_l03Size.calls a1 t134 _ A7.out).mono ?_); rintro e w' ⟨rfl, ⟨nd, rfl⟩⟩))
        go_ret2
        exact ⟨by first | rfl | (simp; done) | (simp [*]; done), by repeat (first | exact Drawn0.refl _ | apply Drawn0.step)⟩
      · rw [if_neg c9] at H
        have c9b0 : decide ((wrap64 (Int.tdiv (2000000000000000 : Int) t134)) < t133) = false := decide_eq_false c9
        clear c9
        replace H := Option.bind_eq_some_iff.mp H
        obtain ⟨t135, A100, H⟩ := H
        replace H : (some (wrap64 ((wrap64 (a0 * a1)) + a2), decide (t135 ≤ 1000000000000000))) = some (r1, r2) := H
        have A10 := Aside0.mk A100
        clear A100
        simp only [Option.some.injEq, Prod.mk.injEq] at H
        obtain ⟨rfl, rfl⟩ := H
        go_enter Try.func78, Try.ntmps78
        go_wp2_with (first | (go_at_call 73; (with_reducible refine (spec_l03Size.calls a0 t133 _ A6.out).mono ?_); rintro e w' ⟨rfl, ⟨nd, rfl⟩⟩) | (go_at_call 73; (with_reducible refine (spec_l03Size.calls a1 t134 _ A7.out).mono ?_); rintro e w' ⟨rfl, ⟨nd, rfl⟩⟩) | ((with_reducible refine gate_callee (f := 73) rfl ?_); refine goesL_ (some 26) rfl rfl Try.func73 (by kernel_rfl) rfl #[.int .i64 (wrap64 ((wrap64 (a0 * a1)) + a2))] rfl (by (try simp only [List.map_toArray, List.map_cons, List.map_nil]); first | done | rfl | (simp only [List.length_drop, List.length_take]; rfl) | (simp only [List.drop_one]; done) | (simp only [List.drop_one]; rfl)) ?_; (with_reducible refine (spec_l03Size.calls (wrap64 ((wrap64 (a0 * a1)) + a2)) t135 _ A10.out).mono ?_); rintro e w' ⟨rfl, ⟨nd, rfl⟩⟩; refine ⟨_, rfl, ?_⟩))
        go_ret2
        exact ⟨by first | rfl | (simp; done) | (simp [*]; done), by repeat (first | exact Drawn0.refl _ | apply Drawn0.step)⟩

-- NOT PRINTED: function 58 (spec_l04Work_cell)

end Go.Proofs.Ytgldplkbacfacaa.MFnExactPairMoves
