/- Functions as Lean functions, with proofs. By a program of this session. -/
import Derived.Test.YtgldplkbacfacaaMFnEightsx0
import Derived.Test.YtgldplkbacfacaaMFnEightsx3
namespace Go.Proofs.Ytgldplkbacfacaa.MFnEights
open Go.RowKit Go.Proofs.Ytgldplkbacfacaa.MOpen Go.Proofs.YtgldplkbacfacaaW.PrintWords Go.Proofs.YtgldplkbacfacaaW.PrintLast Go.Proofs.YtgldplkbacfacaaW.PrintMore
attribute [local go_sem] max2_int min2_int max_two min_two max_three min_three max_four min_four
set_option linter.unusedVariables false
set_option linter.unusedSimpArgs false

set_option linter.defProp false

theorem q56x1_ {P : Prop} (h : P := by first | (with_reducible assumption) | assumption) : P := h
/-! ### spec_l04Alike: function 56 -/
mutual
def spec_l04Alike.l0 : Nat → List Int → List Int → Int → Option (Int × Bool)
 | 0, _, _, _ => none
 | k + 1, x0, x1, x6 => if x6 < (x1.length : Int) then (if 0 ≤ x6 then (if (rd x1 x6) = 0 then (some (0, false)) else (if 0 < (x1.length : Int) then (if ((decide ((rd x1 x6) > 0)) != (decide ((rd x1 0) > 0))) = true then (some (0, false)) else (spec_l04Alike.l0 k x0 x1 (wrap64 (x6 + 1)))) else (none))) else (none)) else (if 0 < (x0.length : Int) then (if 0 < (x1.length : Int) then ((spec_l04Floor.f (rd x0 0) (rd x1 0)).bind fun t118 => (spec_l04Alike.l1 k x0 x1 t118 1)) else (none)) else (none))
def spec_l04Alike.l1 : Nat → List Int → List Int → Int → Int → Option (Int × Bool)
 | 0, _, _, _, _ => none
 | k + 1, x0, x1, x7, x8 => if x8 < (x1.length : Int) then (if 0 ≤ x8 then (if x8 < (x0.length : Int) then ((spec_l04Floor.f (rd x0 x8) (rd x1 x8)).bind fun t121 => (if t121 = x7 then (spec_l04Alike.l1 k x0 x1 x7 (wrap64 (x8 + 1))) else (some (0, false)))) else (none)) else (none)) else (some (x7, true))
end
def spec_l04Alike.f (k : Nat) (l0 : List Int) (l1 : List Int) : Option (Int × Bool) := spec_l04Alike.l0 k l0 l1 0
theorem spec_l04Alike.mono_l : ∀ k, (∀ y0 y1 y2, LeO (spec_l04Alike.l0 k y0 y1 y2) (spec_l04Alike.l0 (k + 1) y0 y1 y2)) ∧ (∀ y0 y1 y2 y3, LeO (spec_l04Alike.l1 k y0 y1 y2 y3) (spec_l04Alike.l1 (k + 1) y0 y1 y2 y3))
 | 0 => ⟨fun _ _ _ r h => by simp [spec_l04Alike.l0] at h, fun _ _ _ _ r h => by simp [spec_l04Alike.l1] at h⟩
 | k + 1 => by
  obtain ⟨ih0, ih1⟩ := spec_l04Alike.mono_l k
  refine ⟨?_, ?_⟩
  ·intro y0 y1 y2
   unfold spec_l04Alike.l0
   repeat' first
   | (with_reducible exact ih0 _ _ _)
   | (with_reducible exact ih1 _ _ _ _)
   | (with_reducible exact LeO.refl _)
   | (with_reducible exact LeO.none _)
   | (with_reducible refine LeO.ite ?_ ?_)
   | (with_reducible refine LeO.bind ?_ (fun _ => ?_))
   | exact ih0 _ _ _
   | exact ih1 _ _ _ _
   | exact LeO.none _
   | refine LeO.ite ?_ ?_
   | refine LeO.bind ?_ (fun _ => ?_)
  intro y0 y1 y2 y3
  unfold spec_l04Alike.l1
  repeat' first
  | (with_reducible exact ih0 _ _ _)
  | (with_reducible exact ih1 _ _ _ _)
  | (with_reducible exact LeO.refl _)
  | (with_reducible exact LeO.none _)
  | (with_reducible refine LeO.ite ?_ ?_)
  | (with_reducible refine LeO.bind ?_ (fun _ => ?_))
  | exact ih0 _ _ _
  | exact ih1 _ _ _ _
  | exact LeO.none _
  | refine LeO.ite ?_ ?_
  | refine LeO.bind ?_ (fun _ => ?_)
theorem spec_l04Alike.mono : ∀ a0 a1 k, LeO (spec_l04Alike.f k a0 a1) (spec_l04Alike.f (k + 1) a0 a1) := by
 intro a0 a1 k
 obtain ⟨ih0, ih1⟩ := spec_l04Alike.mono_l k
 unfold spec_l04Alike.f
 repeat' first
   | (with_reducible exact ih0 _ _ _)
   | (with_reducible exact ih1 _ _ _ _)
   | (with_reducible exact LeO.refl _)
   | (with_reducible exact LeO.none _)
   | (with_reducible refine LeO.ite ?_ ?_)
   | (with_reducible refine LeO.bind ?_ (fun _ => ?_))
   | exact ih0 _ _ _
   | exact ih1 _ _ _ _
   | exact LeO.none _
   | refine LeO.ite ?_ ?_
   | refine LeO.bind ?_ (fun _ => ?_)
set_option maxHeartbeats 8000000 in
set_option maxRecDepth 100000 in
theorem spec_l04Alike.calls (k : Nat) (A0 : Option Addr) (c0 : Nat) (l0 : List Int) (A1 : Option Addr) (c1 : Nat) (l1 : List Int) (r1 : Int) (r2 : Bool) (w : World) (hr0 : Kd.C (Kd.int .i64) w A0 l0.length l0) (hc0 : l0.length ≤ c0) (hr1 : Kd.C (Kd.int .i64) w A1 l1.length l1) (hc1 : l1.length ≤ c1) (h : spec_l04Alike.f k l0 l1 = some (r1, r2)) :
  Calls Try.prog 56 #[.slice A0 l0.length c0, .slice A1 l1.length c1] w fun e w' => e = .returned (.tuple #[.int .i64 r1, .bool r2]) ∧ Drawn0 w w' := by
 have HR0 := Aside0.mk hr0
 have HC0 := Aside0.mk hc0
 clear hr0 hc0
 have HR1 := Aside0.mk hr1
 have HC1 := Aside0.mk hc1
 clear hr1 hc1
 have H : (spec_l04Alike.l0 k l0 l1 0) = some (r1, r2) := h
 clear h
 have H' := Aside0.mk H
 clear H
 go_enter Try.func56, Try.ntmps56
 go_wp2
 repeat (go_quiet (fail); try go_wp2)
 go_loopg [6] k (fun kq v6 w' => ∃ (x6_1 : Int), v6 = .int .i64 x6_1 ∧ Aside0 (spec_l04Alike.l0 kq l0 l1 x6_1 = some (r1, r2)) ∧ Aside0 (kq ≤ k) ∧ Drawn0 w w')
 case atStart => exact ⟨(0), (by first | rfl | (simp; done) | (simp [*]; done)), H', ⟨Nat.le_refl _⟩, by repeat (first | exact Drawn0.refl _ | apply Drawn0.step)⟩
 case round =>
  clear H'
  try clear c1
  try clear p2
  obtain ⟨x6_1, rfl, HA, HK1, ⟨m1, rfl⟩⟩ := hrel
  cases gk with
  | zero => exact absurd HA.out (by simp [spec_l04Alike.l0])
  | succ k1 =>
   have H := HA.out
   clear HA
   simp only [spec_l04Alike.l0] at H
   by_cases c3 : x6_1 < (l1.length : Int)
   ·rw [if_pos c3] at H
    have c3b0 : decide (x6_1 < (l1.length : Int)) = true := decide_eq_true c3
    clear c3
    by_cases c4 : 0 ≤ x6_1
    rotate_left
    ·rw [if_neg c4] at H
     exact absurd H (by simp)
    rw [if_pos c4] at H
    have c4b0 : decide (0 ≤ x6_1) = true := decide_eq_true c4
    clear c4
    by_cases c5 : (rd l1 x6_1) = 0
    ·rw [if_pos c5] at H
     have c5b0 : ((rd l1 x6_1) == 0) = true := beq_iff_eq.mpr c5
     have c5b1 : ((rd l1 x6_1) != 0) = false := bne_eq_false_iff_eq.mpr c5
     clear c5
     simp only [Option.some.injEq, Prod.mk.injEq] at H
     obtain ⟨rfl, rfl⟩ := H
     have p113 : 0 ≤ (x6_1 : Int) := of_decide_eq_true q56x1_
     have q113 : x6_1 < (l1.length : Int) := of_decide_eq_true q56x1_
     obtain ⟨ad113, e113, hx113_0⟩ := Kd.at_int HR1.out x6_1 p113 q113
     cases e113
     replace p113 := eq_true p113
     replace q113 := eq_true q113
     go_wp2
     repeat (go_quiet (fail); try go_wp2)
     go_ret2
     exact ⟨by first | rfl | (simp; done) | (simp [*]; done), by repeat (first | exact Drawn0.refl _ | apply Drawn0.step)⟩
    rw [if_neg c5] at H
    have c5b0 : ((rd l1 x6_1) == 0) = false := beq_eq_false_iff_ne.mpr c5
    have c5b1 : ((rd l1 x6_1) != 0) = true := bne_iff_ne.mpr c5
    by_cases c6 : 0 < (l1.length : Int)
    rotate_left
    ·rw [if_neg c6] at H
     exact absurd H (by simp)
    rw [if_pos c6] at H
    have c6b0 : decide (0 < (l1.length : Int)) = true := decide_eq_true c6
    have c6b1 : decide (0 < l1.length) = true := decide_eq_true (by omega)
    clear c6
    by_cases c7 : ((decide ((rd l1 x6_1) > 0)) != (decide ((rd l1 0) > 0))) = true
    ·rw [if_pos c7] at H
     have c7b0 : ((decide ((rd l1 x6_1) > 0)) != (decide ((rd l1 0) > 0))) = true := c7
     (try (have c7b1 : decide ((decide ((rd l1 x6_1) > 0)) = (decide ((rd l1 0) > 0))) = false := by simpa using c7))
     (try (have c7b2 : ((decide ((rd l1 x6_1) > 0)) == (decide ((rd l1 0) > 0))) = false := by simpa using c7))
     (try (have c7b3 : ¬ ((decide ((rd l1 x6_1) > 0)) = (decide ((rd l1 0) > 0))) := by simpa using c7))
     clear c7
     simp only [Option.some.injEq, Prod.mk.injEq] at H
     obtain ⟨rfl, rfl⟩ := H
     have p113 : 0 ≤ (x6_1 : Int) := of_decide_eq_true q56x1_
     have q113 : x6_1 < (l1.length : Int) := of_decide_eq_true q56x1_
     obtain ⟨ad113, e113, hx113_0⟩ := Kd.at_int HR1.out x6_1 p113 q113
     cases e113
     replace p113 := eq_true p113
     replace q113 := eq_true q113
     have p114 : 0 ≤ (x6_1 : Int) := of_decide_eq_true q56x1_
     have q114 : x6_1 < (l1.length : Int) := of_decide_eq_true q56x1_
     obtain ⟨ad114, e114, hx114_0⟩ := Kd.at_int HR1.out x6_1 p114 q114
     obtain rfl : ad113 = ad114 := (by injection e114)
     replace p114 := eq_true p114
     replace q114 := eq_true q114
     have p115 : 0 ≤ (0 : Int) := (by omega)
     have q115 : 0 < (l1.length : Int) := of_decide_eq_true q56x1_
     obtain ⟨ad115, e115, hx115_0⟩ := Kd.at_int HR1.out 0 p115 q115
     obtain rfl : ad113 = ad115 := (by injection e115)
     have qi115 : (0 < l1.length) = True := eq_true (by omega)
     (try rw [show ((0 : Int)).toNat = 0 from rfl] at hx115_0)
     (try rw [Addr.add_zero'] at hx115_0)
     replace p115 := eq_true p115
     replace q115 := eq_true q115
     go_wp2
     repeat (go_quiet (fail); try go_wp2)
     go_ret2
     exact ⟨by first | rfl | (simp; done) | (simp [*]; done), by repeat (first | exact Drawn0.refl _ | apply Drawn0.step)⟩
    rw [if_neg c7] at H
    have c7b0 : ((decide ((rd l1 x6_1) > 0)) != (decide ((rd l1 0) > 0))) = false := by simpa using c7
    (try (have c7b1 : decide ((decide ((rd l1 x6_1) > 0)) = (decide ((rd l1 0) > 0))) = true := by simpa using c7))
    (try (have c7b2 : ((decide ((rd l1 x6_1) > 0)) == (decide ((rd l1 0) > 0))) = true := by simpa using c7))
    clear c7
    have H' := Aside0.mk H
    clear H
    have p113 : 0 ≤ (x6_1 : Int) := of_decide_eq_true q56x1_
    have q113 : x6_1 < (l1.length : Int) := of_decide_eq_true q56x1_
    obtain ⟨ad113, e113, hx113_0⟩ := Kd.at_int HR1.out x6_1 p113 q113
    cases e113
    replace p113 := eq_true p113
    replace q113 := eq_true q113
    have p114 : 0 ≤ (x6_1 : Int) := of_decide_eq_true q56x1_
    have q114 : x6_1 < (l1.length : Int) := of_decide_eq_true q56x1_
    obtain ⟨ad114, e114, hx114_0⟩ := Kd.at_int HR1.out x6_1 p114 q114
    obtain rfl : ad113 = ad114 := (by injection e114)
    replace p114 := eq_true p114
    replace q114 := eq_true q114
    have p115 : 0 ≤ (0 : Int) := (by omega)
    have q115 : 0 < (l1.length : Int) := of_decide_eq_true q56x1_
    obtain ⟨ad115, e115, hx115_0⟩ := Kd.at_int HR1.out 0 p115 q115
    obtain rfl : ad113 = ad115 := (by injection e115)
    have qi115 : (0 < l1.length) = True := eq_true (by omega)
    (try rw [show ((0 : Int)).toNat = 0 from rfl] at hx115_0)
    (try rw [Addr.add_zero'] at hx115_0)
    replace p115 := eq_true p115
    replace q115 := eq_true q115
    go_wp2
    repeat (go_quiet (fail); try go_wp2)
    go_roundg k1
    case measure => have := HK1.out; omega
    case rel => exact ⟨(wrap64 (x6_1 + 1)), (by first | rfl | (simp; done) | (simp [*]; done)), H', ⟨by have := HK1.out; omega⟩, by repeat (first | exact Drawn0.refl _ | apply Drawn0.step)⟩
   rw [if_neg c3] at H
   have c3b0 : decide (x6_1 < (l1.length : Int)) = false := decide_eq_false c3
   clear c3
   by_cases c8 : 0 < (l0.length : Int)
   rotate_left
   ·rw [if_neg c8] at H
    exact absurd H (by simp)

   rw [if_pos c8] at H
   have c8b0 : decide (0 < (l0.length : Int)) = true := decide_eq_true c8
   have c8b1 : decide (0 < l0.length) = true := decide_eq_true (by omega)
   clear c8
   by_cases c9 : 0 < (l1.length : Int)
   rotate_left
   ·rw [if_neg c9] at H
    exact absurd H (by simp)
   rw [if_pos c9] at H
   have c9b0 : decide (0 < (l1.length : Int)) = true := decide_eq_true c9
   have c9b1 : decide (0 < l1.length) = true := decide_eq_true (by omega)
   clear c9
   replace H := Option.bind_eq_some_iff.mp H
   obtain ⟨t118, A100, H⟩ := H
   replace H : (spec_l04Alike.l1 k1 l0 l1 t118 1) = some (r1, r2) := H
   have A10 := Aside0.mk A100
   clear A100
   have H' := Aside0.mk H
   clear H
   have p116 : 0 ≤ (0 : Int) := (by omega)
   have q116 : 0 < (l0.length : Int) := of_decide_eq_true q56x1_
   obtain ⟨ad116, e116, hx116_0⟩ := Kd.at_int HR0.out 0 p116 q116
   cases e116
   have qi116 : (0 < l0.length) = True := eq_true (by omega)
   (try rw [show ((0 : Int)).toNat = 0 from rfl] at hx116_0)
   (try rw [Addr.add_zero'] at hx116_0)
   replace p116 := eq_true p116
   replace q116 := eq_true q116
   have p117 : 0 ≤ (0 : Int) := (by omega)
   have q117 : 0 < (l1.length : Int) := of_decide_eq_true q56x1_
   obtain ⟨ad117, e117, hx117_0⟩ := Kd.at_int HR1.out 0 p117 q117
   cases e117
   have qi117 : (0 < l1.length) = True := eq_true (by omega)
   (try rw [show ((0 : Int)).toNat = 0 from rfl] at hx117_0)
   (try rw [Addr.add_zero'] at hx117_0)
   replace p117 := eq_true p117
   replace q117 := eq_true q117
   go_wp2_with (first | (go_at_call 77; (with_reducible refine (spec_l04Floor.calls (rd l0 0) (rd l1 0) t118 _ A10.out).mono ?_); rintro e w' ⟨rfl, ⟨nd, rfl⟩⟩; (try first | exact ⟨rfl, _, World.drewN_drewN _ _ _⟩ | exact ⟨rfl, _, Eq.trans (World.drewN_drewN _ _ _) (congrArg (World.drewN _) (Nat.add_assoc _ _ _))⟩)) | go_quiet (first | (go_at_call 77; (with_reducible refine (spec_l04Floor.calls (rd l0 0) (rd l1 0) t118 _ A10.out).mono ?_); rintro e w' ⟨rfl, ⟨nd, rfl⟩⟩; (try first | exact ⟨rfl, _, World.drewN_drewN _ _ _⟩ | exact ⟨rfl, _, Eq.trans (World.drewN_drewN _ _ _) (congrArg (World.drewN _) (Nat.add_assoc _ _ _))⟩))))
   go_loopg [8] k1 (fun kq v8 w' => ∃ (x8_2 : Int), v8 = .int .i64 x8_2 ∧ Aside0 (spec_l04Alike.l1 kq l0 l1 t118 x8_2 = some (r1, r2)) ∧ Aside0 (kq ≤ k1) ∧ Drawn0 w w')
   case atStart => exact ⟨(1), (by first | rfl | (simp; done) | (simp [*]; done)), H', ⟨Nat.le_refl _⟩, by repeat (first | exact Drawn0.refl _ | apply Drawn0.step)⟩
   case round =>
    clear H'
    try clear c1
    try clear p1
    try clear q1
    try clear hx1
    try clear qi1
    try clear p2
    try clear c3
    try clear c3b0
    try clear c4
    try clear c4b0
    try clear c5
    try clear c5b0
    try clear c5b1
    try clear c6
    try clear c6b0
    try clear c6b1
    try clear p6
    try clear c7
    try clear c7b0
    try clear c7b1
    try clear c7b2
    try clear c8
    try clear c8b0
    try clear c8b1
    try clear c9
    try clear c9b0
    try clear c9b1
    try clear hx113_0
    try clear hx114_0
    try clear hx115_0
    try clear hx116_0
    try clear hx117_0
    try clear p113
    try clear p114
    try clear p115
    try clear p116
    try clear p117
    try clear p2
    try clear q113
    try clear q114
    try clear q115
    try clear q116
    try clear q117
    obtain ⟨x8_2, rfl, HA, HK2, ⟨m2, rfl⟩⟩ := hrel
    cases gk with
    | zero => exact absurd HA.out (by simp [spec_l04Alike.l1])
    | succ k2 =>
     have H := HA.out
     clear HA
     simp only [spec_l04Alike.l1] at H
     by_cases c11 : x8_2 < (l1.length : Int)
     rotate_left
     ·rw [if_neg c11] at H
      have c11b0 : decide (x8_2 < (l1.length : Int)) = false := decide_eq_false c11
      clear c11
      simp only [Option.some.injEq, Prod.mk.injEq] at H
      obtain ⟨rfl, rfl⟩ := H
      go_wp2
      repeat (go_quiet (fail); try go_wp2)
      go_ret2
      exact ⟨by first | rfl | (simp; done) | (simp [*]; done), by repeat (first | exact Drawn0.refl _ | apply Drawn0.step)⟩
     rw [if_pos c11] at H
     have c11b0 : decide (x8_2 < (l1.length : Int)) = true := decide_eq_true c11
     clear c11
     by_cases c12 : 0 ≤ x8_2
     rotate_left
     ·rw [if_neg c12] at H
      exact absurd H (by simp)
     rw [if_pos c12] at H
     have c12b0 : decide (0 ≤ x8_2) = true := decide_eq_true c12
     clear c12
     by_cases c13 : x8_2 < (l0.length : Int)
     rotate_left
     ·rw [if_neg c13] at H
      exact absurd H (by simp)
     rw [if_pos c13] at H
     have c13b0 : decide (x8_2 < (l0.length : Int)) = true := decide_eq_true c13
     clear c13
     replace H := Option.bind_eq_some_iff.mp H
     obtain ⟨t121, A140, H⟩ := H
     replace H : (if t121 = t118 then (spec_l04Alike.l1 k2 l0 l1 t118 (wrap64 (x8_2 + 1))) else (some (0, false))) = some (r1, r2) := H
     have A14 := Aside0.mk A140
     clear A140
     by_cases c15 : t121 = t118
     ·rw [if_pos c15] at H
      have c15b0 : (t121 == t118) = true := beq_iff_eq.mpr c15
      have c15b1 : (t121 != t118) = false := bne_eq_false_iff_eq.mpr c15
      clear c15
      have H' := Aside0.mk H
      clear H
      have p119 : 0 ≤ (x8_2 : Int) := of_decide_eq_true q56x1_
      have q119 : x8_2 < (l0.length : Int) := of_decide_eq_true q56x1_
      obtain ⟨ad119, e119, hx119_0⟩ := Kd.at_int HR0.out x8_2 p119 q119
      obtain rfl : ad116 = ad119 := (by injection e119)
      replace p119 := eq_true p119
      replace q119 := eq_true q119
      have p120 : 0 ≤ (x8_2 : Int) := of_decide_eq_true q56x1_
      have q120 : x8_2 < (l1.length : Int) := of_decide_eq_true q56x1_
      obtain ⟨ad120, e120, hx120_0⟩ := Kd.at_int HR1.out x8_2 p120 q120
      obtain rfl : ad117 = ad120 := (by injection e120)
      replace p120 := eq_true p120
      replace q120 := eq_true q120
      go_wp2_with (first | (go_at_call 77; (with_reducible refine (spec_l04Floor.calls (rd l0 x8_2) (rd l1 x8_2) t121 _ A14.out).mono ?_); rintro e w' ⟨rfl, ⟨nd, rfl⟩⟩; (try first | exact ⟨rfl, _, World.drewN_drewN _ _ _⟩ | exact ⟨rfl, _, Eq.trans (World.drewN_drewN _ _ _) (congrArg (World.drewN _) (Nat.add_assoc _ _ _))⟩)) | go_quiet (first | (go_at_call 77; (with_reducible refine (spec_l04Floor.calls (rd l0 x8_2) (rd l1 x8_2) t121 _ A14.out).mono ?_); rintro e w' ⟨rfl, ⟨nd, rfl⟩⟩; (try first | exact ⟨rfl, _, World.drewN_drewN _ _ _⟩ | exact ⟨rfl, _, Eq.trans (World.drewN_drewN _ _ _) (congrArg (World.drewN _) (Nat.add_assoc _ _ _))⟩))))
      go_roundg k2
      case measure => have := HK1.out; have := HK2.out; omega
      case rel => exact ⟨(wrap64 (x8_2 + 1)), (by first | rfl | (simp; done) | (simp [*]; done)), H', ⟨by have := HK1.out; have := HK2.out; omega⟩, by repeat (first | exact Drawn0.refl _ | apply Drawn0.step)⟩
     rw [if_neg c15] at H
     have c15b0 : (t121 == t118) = false := beq_eq_false_iff_ne.mpr c15
     have c15b1 : (t121 != t118) = true := bne_iff_ne.mpr c15
     simp only [Option.some.injEq, Prod.mk.injEq] at H
     obtain ⟨rfl, rfl⟩ := H
     have p119 : 0 ≤ (x8_2 : Int) := of_decide_eq_true q56x1_
     have q119 : x8_2 < (l0.length : Int) := of_decide_eq_true q56x1_
     obtain ⟨ad119, e119, hx119_0⟩ := Kd.at_int HR0.out x8_2 p119 q119
     obtain rfl : ad116 = ad119 := (by injection e119)
     replace p119 := eq_true p119
     replace q119 := eq_true q119
     have p120 : 0 ≤ (x8_2 : Int) := of_decide_eq_true q56x1_
     have q120 : x8_2 < (l1.length : Int) := of_decide_eq_true q56x1_
     obtain ⟨ad120, e120, hx120_0⟩ := Kd.at_int HR1.out x8_2 p120 q120
     obtain rfl : ad117 = ad120 := (by injection e120)
     replace p120 := eq_true p120
     replace q120 := eq_true q120
     go_wp2_with (first | (go_at_call 77; (with_reducible refine (spec_l04Floor.calls (rd l0 x8_2) (rd l1 x8_2) t121 _ A14.out).mono ?_); rintro e w' ⟨rfl, ⟨nd, rfl⟩⟩; (try first | exact ⟨rfl, _, World.drewN_drewN _ _ _⟩ | exact ⟨rfl, _, Eq.trans (World.drewN_drewN _ _ _) (congrArg (World.drewN _) (Nat.add_assoc _ _ _))⟩)) | go_quiet (first | (go_at_call 77; (with_reducible refine (spec_l04Floor.calls (rd l0 x8_2) (rd l1 x8_2) t121 _ A14.out).mono ?_); rintro e w' ⟨rfl, ⟨nd, rfl⟩⟩; (try first | exact ⟨rfl, _, World.drewN_drewN _ _ _⟩ | exact ⟨rfl, _, Eq.trans (World.drewN_drewN _ _ _) (congrArg (World.drewN _) (Nat.add_assoc _ _ _))⟩))))
     go_ret2
     exact ⟨by first | rfl | (simp; done) | (simp [*]; done), by repeat (first | exact Drawn0.refl _ | apply Drawn0.step)⟩
-- NOT PRINTED: function 57 (spec_l04Work_give)

/-! ### spec_l04Cell: function 78 -/
def spec_l04Cell.f (a0 : Int) (a1 : Int) (a2 : Int) : Option (Int × Bool) := if a1 = 0 then ((spec_l03Size.f (wrap64 ((wrap64 (a0 * a1)) + a2))).bind fun t122 => (some (wrap64 ((wrap64 (a0 * a1)) + a2), decide (t122 ≤ 1000000000000000)))) else ((spec_l03Size.f a0).bind fun t123 => ((spec_l03Size.f a1).bind fun t124 => (if t124 = 0 then (none) else (if t123 > (wrap64 (Int.tdiv (2000000000000000 : Int) t124)) then (some (0, false)) else ((spec_l03Size.f (wrap64 ((wrap64 (a0 * a1)) + a2))).bind fun t125 => (some (wrap64 ((wrap64 (a0 * a1)) + a2), decide (t125 ≤ 1000000000000000))))))))
set_option maxHeartbeats 8000000 in
set_option maxRecDepth 100000 in
theorem spec_l04Cell.calls (a0 : Int) (a1 : Int) (a2 : Int) (r1 : Int) (r2 : Bool) (w : World) (h : spec_l04Cell.f a0 a1 a2 = some (r1, r2)) :
    Calls Try.prog 78 #[.int .i64 a0, .int .i64 a1, .int .i64 a2] w fun e w' => e = .returned (.tuple #[.int .i64 r1, .bool r2]) ∧ Drawn0 w w' := by
  have H : (if a1 = 0 then ((spec_l03Size.f (wrap64 ((wrap64 (a0 * a1)) + a2))).bind fun t122 => (some (wrap64 ((wrap64 (a0 * a1)) + a2), decide (t122 ≤ 1000000000000000)))) else ((spec_l03Size.f a0).bind fun t123 => ((spec_l03Size.f a1).bind fun t124 => (if t124 = 0 then (none) else (if t123 > (wrap64 (Int.tdiv (2000000000000000 : Int) t124)) then (some (0, false)) else ((spec_l03Size.f (wrap64 ((wrap64 (a0 * a1)) + a2))).bind fun t125 => (some (wrap64 ((wrap64 (a0 * a1)) + a2), decide (t125 ≤ 1000000000000000))))))))) = some (r1, r2) := h
  clear h
  by_cases c4 : a1 = 0
  · rw [if_pos c4] at H
    have c4b0 : (a1 == 0) = true := beq_iff_eq.mpr c4
    have c4b1 : (a1 != 0) = false := bne_eq_false_iff_eq.mpr c4
    clear c4
    replace H := Option.bind_eq_some_iff.mp H
    obtain ⟨t122, A50, H⟩ := H
    replace H : (some (wrap64 ((wrap64 (a0 * a1)) + a2), decide (t122 ≤ 1000000000000000))) = some (r1, r2) := H
    have A5 := Aside0.mk A50
    clear A50
    simp only [Option.some.injEq, Prod.mk.injEq] at H
    obtain ⟨rfl, rfl⟩ := H
    go_enter Try.func78, Try.ntmps78
    go_wp2_with (first | ((with_reducible refine gate_callee (f := 73) rfl ?_); refine goesL_ (some 26) rfl rfl Try.func73 (by kernel_rfl) rfl #[.int .i64 (wrap64 ((wrap64 (a0 * a1)) + a2))] rfl (by (try simp only [List.map_toArray, List.map_cons, List.map_nil]); first | done | rfl | (simp only [List.length_drop, List.length_take]; rfl) | (simp only [List.drop_one]; done) | (simp only [List.drop_one]; rfl)) ?_; (with_reducible refine (spec_l03Size.calls (wrap64 ((wrap64 (a0 * a1)) + a2)) t122 _ A5.out).mono ?_); rintro e w' ⟨rfl, ⟨nd, rfl⟩⟩; refine ⟨_, rfl, ?_⟩))
    go_ret2
    exact ⟨by first | rfl | (simp; done) | (simp [*]; done), by repeat (first | exact Drawn0.refl _ | apply Drawn0.step)⟩
  · rw [if_neg c4] at H
    have c4b0 : (a1 == 0) = false := beq_eq_false_iff_ne.mpr c4
    have c4b1 : (a1 != 0) = true := bne_iff_ne.mpr c4
    replace H := Option.bind_eq_some_iff.mp H
    obtain ⟨t123, A60, H⟩ := H
    replace H : ((spec_l03Size.f a1).bind fun t124 => (if t124 = 0 then (none) else (if t123 > (wrap64 (Int.tdiv (2000000000000000 : Int) t124)) then (some (0, false)) else ((spec_l03Size.f (wrap64 ((wrap64 (a0 * a1)) + a2))).bind fun t125 => (some (wrap64 ((wrap64 (a0 * a1)) + a2), decide (t125 ≤ 1000000000000000))))))) = some (r1, r2) := H
    have A6 := Aside0.mk A60
    clear A60
    replace H := Option.bind_eq_some_iff.mp H
    obtain ⟨t124, A70, H⟩ := H
    replace H : (if t124 = 0 then (none) else (if t123 > (wrap64 (Int.tdiv (2000000000000000 : Int) t124)) then (some (0, false)) else ((spec_l03Size.f (wrap64 ((wrap64 (a0 * a1)) + a2))).bind fun t125 => (some (wrap64 ((wrap64 (a0 * a1)) + a2), decide (t125 ≤ 1000000000000000)))))) = some (r1, r2) := H
    have A7 := Aside0.mk A70
    clear A70
    by_cases c8 : t124 = 0
    · rw [if_pos c8] at H
      exact absurd H (by simp)
    · rw [if_neg c8] at H
      have c8b0 : (t124 == 0) = false := beq_eq_false_iff_ne.mpr c8
      have c8b1 : (t124 != 0) = true := bne_iff_ne.mpr c8
      by_cases c9 : t123 > (wrap64 (Int.tdiv (2000000000000000 : Int) t124))
      · rw [if_pos c9] at H
        have c9b0 : decide ((wrap64 (Int.tdiv (2000000000000000 : Int) t124)) < t123) = true := decide_eq_true c9
        clear c9
        simp only [Option.some.injEq, Prod.mk.injEq] at H
        obtain ⟨rfl, rfl⟩ := H
        go_enter Try.func78, Try.ntmps78
        go_wp2_with (first | (go_at_call 73; (with_reducible refine (spec_l03Size.calls a0 t123 _ A6.out).mono ?_); rintro e w' ⟨rfl, ⟨nd, rfl⟩⟩) | (go_at_call 73; (with_reducible refine (spec_l03Size.calls a1 t124 _ A7.out).mono ?_); rintro e w' ⟨rfl, ⟨nd, rfl⟩⟩))
        go_ret2
        exact ⟨by first | rfl | (simp; done) | (simp [*]; done), by repeat (first | exact Drawn0.refl _ | apply Drawn0.step)⟩
      · rw [if_neg c9] at H
        have c9b0 : decide ((wrap64 (Int.tdiv (2000000000000000 : Int) t124)) < t123) = false := decide_eq_false c9
        clear c9
        replace H := Option.bind_eq_some_iff.mp H
        obtain ⟨t125, A100, H⟩ := H
        replace H : (some (wrap64 ((wrap64 (a0 * a1)) + a2), decide (t125 ≤ 1000000000000000))) = some (r1, r2) := H
        have A10 := Aside0.mk A100
        clear A100
        simp only [Option.some.injEq, Prod.mk.injEq] at H
        obtain ⟨rfl, rfl⟩ := H
        go_enter Try.func78, Try.ntmps78
        go_wp2_with (first | (go_at_call 73; (with_reducible refine (spec_l03Size.calls a0 t123 _ A6.out).mono ?_); rintro e w' ⟨rfl, ⟨nd, rfl⟩⟩) | (go_at_call 73; (with_reducible refine (spec_l03Size.calls a1 t124 _ A7.out).mono ?_); rintro e w' ⟨rfl, ⟨nd, rfl⟩⟩) | ((with_reducible refine gate_callee (f := 73) rfl ?_); refine goesL_ (some 26) rfl rfl Try.func73 (by kernel_rfl) rfl #[.int .i64 (wrap64 ((wrap64 (a0 * a1)) + a2))] rfl (by (try simp only [List.map_toArray, List.map_cons, List.map_nil]); first | done | rfl | (simp only [List.length_drop, List.length_take]; rfl) | (simp only [List.drop_one]; done) | (simp only [List.drop_one]; rfl)) ?_; (with_reducible refine (spec_l03Size.calls (wrap64 ((wrap64 (a0 * a1)) + a2)) t125 _ A10.out).mono ?_); rintro e w' ⟨rfl, ⟨nd, rfl⟩⟩; refine ⟨_, rfl, ?_⟩))
        go_ret2
        exact ⟨by first | rfl | (simp; done) | (simp [*]; done), by repeat (first | exact Drawn0.refl _ | apply Drawn0.step)⟩

-- NOT PRINTED: function 58 (spec_l04Work_cell)

set_option linter.defProp false

theorem q63x1_ {P : Prop} (h : P := by intro w'; go_simp; with_reducible rfl) : P := h
theorem q63x2_ {P : Prop} (h : P := by simp only [Act.put, sa_, sz_, ss_, i64_w, i32_w]; rfl) : P := h
theorem q63x3_ {P : Prop} (h : P := by rintro w' ⟨s0, s1, s2, s3⟩; go_simp; with_reducible rfl) : P := h
/-! ### spec_l04Corners: function 63 -/
def spec_l04Corners.f (a0_0 : Int) (a0_1 : Int) (a0_2 : Int) (a0_3 : Int) : Option (List Int) := some (([a0_0, wrap64 (a0_0 + a0_1), wrap64 (a0_0 + a0_2), wrap64 ((wrap64 ((wrap64 (a0_0 + a0_1)) + a0_2)) + a0_3)] : List Int))
def spec_l04Corners.T1 : Bool × List (List Nat × List Nat) := (true, [([], []), ([0], [0]), ([1], [1]), ([2], [2]), ([], []), ([4], [4]), ([5], [5]), ([6], [6]), ([], []), ([8], [8]), ([9], [9]), ([10], [10]), ([7, 11], [7, 11]), ([], []), ([13], [13]), ([14], [14]), ([15], [15]), ([], []), ([17], [17]), ([18], [18]), ([19], [19]), ([16, 20], [16, 20]), ([], []), ([22], [22]), ([23], [23]), ([24], [24]), ([], []), ([26], [26]), ([27], [27]), ([28], [28]), ([25, 29], [25, 29]), ([], []), ([31], [31]), ([32], [32]), ([33], [33]), ([30, 34], [30, 34]), ([], []), ([36], [36]), ([37], [37]), ([38], [38]), ([35, 39], [35, 39]), ([3, 12, 21, 40], [3, 12, 21, 40]), ([41, 0, 1, 2, 3, 4, 5, 6, 7, 8, 9, 10, 11, 12, 13, 14, 15, 16, 17, 18, 19, 20, 21, 22, 23, 24, 25, 26, 27, 28, 29, 30, 31, 32, 33, 34, 35, 36, 37, 38, 39, 40, 41], [41])])
def spec_l04Corners.B1 : List Nat := [0, 1, 3, 7, 0, 16, 48, 112, 0, 256, 768, 1792, 4080, 0, 8192, 24576, 57344, 0, 131072, 393216, 917504, 2088960, 0, 4194304, 12582912, 29360128, 0, 67108864, 201326592, 469762048, 1069547520, 0, 2147483648, 6442450944, 15032385536, 34355544064, 0, 68719476736, 206158430208, 481036337152, 1099507433472, 2199023255551, 4398046511103]
theorem spec_l04Corners.tab1 : rtab .any (opsOf Try.f63 1) = spec_l04Corners.T1 := by kernel_rfl
theorem spec_l04Corners.bits1 : waitsOk spec_l04Corners.T1.2 spec_l04Corners.B1 = true := by kernel_rfl
set_option maxHeartbeats 8000000 in
set_option maxRecDepth 100000 in
theorem spec_l04Corners.calls (B0_ O0_ : Nat) (a0_0 : Int) (a0_1 : Int) (a0_2 : Int) (a0_3 : Int) (r : List Int) (w : World) (hq0_ : w.cell? ⟨B0_, O0_, none⟩ = some (.int .i64 a0_0) ∧ w.cell? ⟨B0_, O0_ + 1, none⟩ = some (.int .i64 a0_1) ∧ w.cell? ⟨B0_, O0_ + 2, none⟩ = some (.int .i64 a0_2) ∧ w.cell? ⟨B0_, O0_ + 3, none⟩ = some (.int .i64 a0_3)) (h : spec_l04Corners.f a0_0 a0_1 a0_2 a0_3 = some r) :
  Calls Try.prog 63 #[.pointer (some ⟨B0_, O0_, none⟩)] w fun e w' => ∃ v0_ : Value, e = .returned (v0_) ∧ Kd.R (Kd.int .i64) 2 w' w.heap.size (fun _ => True) v0_ r ∧ Below w.heap.size w w' := by
 have HQ0_ := Aside0.mk hq0_
 clear hq0_
 have HB := Aside0.mk (Below.refl w.heap.size w)
 have H : (some (([a0_0, wrap64 (a0_0 + a0_1), wrap64 (a0_0 + a0_2), wrap64 ((wrap64 ((wrap64 (a0_0 + a0_1)) + a0_2)) + a0_3)] : List Int))) = some r := h
 clear h
 obtain ⟨y126, hy126⟩ : ∃ y_ : List Int, y_ = (([a0_0, wrap64 (a0_0 + a0_1), wrap64 (a0_0 + a0_2), wrap64 ((wrap64 ((wrap64 (a0_0 + a0_1)) + a0_2)) + a0_3)] : List Int)) := ⟨_, rfl⟩
 replace H : (some y126) = some r := by first | (rw [hy126]; with_reducible exact H) | (have H2_ := (Option.bind_some _ _).symm.trans H; rw [hy126]; with_reducible exact H2_) | (have H2_ := (Option.bind_some _ _).symm.trans H; with_reducible exact H2_) | with_reducible exact H | (rw [hy126]; exact H) | exact H
 have Ny126 := Aside0.mk hy126
 clear hy126
 obtain rfl := Option.some.inj H
 go_enter Try.func63, Try.ntmps63
 try go_wp2
 have n0_ := Aside0.mk (below_drew1 HB.out)
 clear HB
 have HB := n0_
 clear n0_
 refine start_ (n := 43) (S := fun w' => w'.cell? ⟨B0_, O0_, none⟩ = some (.int .i64 a0_0) ∧ w'.cell? ⟨B0_, O0_ + 1, none⟩ = some (.int .i64 a0_1) ∧ w'.cell? ⟨B0_, O0_ + 2, none⟩ = some (.int .i64 a0_2) ∧ w'.cell? ⟨B0_, O0_ + 3, none⟩ = some (.int .i64 a0_3)) (ds := []) #[false, false, false, false, false, false, false, false, false, false, false, false, false, false, false, false, false, false, false, false, false, false, false, false, false, false, false, false, false, false, false, false, false, false, false, false, false, false, false, false, false, false, false] (by kernel_rfl) rfl rfl ⟨((HB.out.cell (World.block_lt_of_cell? w _ (HQ0_.out.1))).trans (HQ0_.out.1)), ((HB.out.cell (World.block_lt_of_cell? w _ (HQ0_.out.2.1))).trans (HQ0_.out.2.1)), ((HB.out.cell (World.block_lt_of_cell? w _ (HQ0_.out.2.2.1))).trans (HQ0_.out.2.2.1)), ((HB.out.cell (World.block_lt_of_cell? w _ (HQ0_.out.2.2.2))).trans (HQ0_.out.2.2.2))⟩ (fun hHeld => ?_); refine with_tabW spec_l04Corners.tab1 spec_l04Corners.bits1 (fun HT_ HW_ => ?_)
 generalize w.drew = w2 at HB hHeld ⊢
 refine pure_ (i := 0) (N := some 3) (v := ?_) (a' := ?_) #[true, false, false, false, false, false, false, false, false, false, false, false, false, false, false, false, false, false, false, false, false, false, false, false, false, false, false, false, false, false, false, false, false, false, false, false, false, false, false, false, false, false, false] rfl rfl (any_of HT_.out (by kernel_rfl)) (fun _ _ _ h => h) (Or.inl ⟨by rfl, ?_⟩) ?_ ?_
 rotate_left
 ·exact q63x1_
 rotate_left
 ·exact q63x2_
 refine pure_ (i := 1) (N := some 4) (v := ?_) (a' := ?_) #[true, true, false, false, false, false, false, false, false, false, false, false, false, false, false, false, false, false, false, false, false, false, false, false, false, false, false, false, false, false, false, false, false, false, false, false, false, false, false, false, false, false, false] rfl rfl (any_of HT_.out (by kernel_rfl)) (fun _ _ _ h => h) (Or.inl ⟨by rfl, ?_⟩) ?_ ?_
 rotate_left
 ·exact q63x1_
 rotate_left
 ·exact q63x2_
 refine pure_ (i := 2) (N := some 5) (v := ?_) (a' := ?_) #[true, true, true, false, false, false, false, false, false, false, false, false, false, false, false, false, false, false, false, false, false, false, false, false, false, false, false, false, false, false, false, false, false, false, false, false, false, false, false, false, false, false, false] rfl rfl (any_of HT_.out (by kernel_rfl)) (fun _ _ _ h => h) (Or.inl ⟨by rfl, ?_⟩) ?_ ?_
 rotate_left
 ·exact q63x1_
 rotate_left
 ·exact q63x2_
 refine pure_ (i := 4) (N := some 7) (v := ?_) (a' := ?_) #[true, true, true, false, true, false, false, false, false, false, false, false, false, false, false, false, false, false, false, false, false, false, false, false, false, false, false, false, false, false, false, false, false, false, false, false, false, false, false, false, false, false, false] rfl rfl (any_of HT_.out (by kernel_rfl)) (fun _ _ _ h => h) (Or.inl ⟨by rfl, ?_⟩) ?_ ?_
 rotate_left
 ·exact q63x1_
 rotate_left
 ·exact q63x2_
 refine pure_ (i := 5) (N := some 8) (v := ?_) (a' := ?_) #[true, true, true, false, true, true, false, false, false, false, false, false, false, false, false, false, false, false, false, false, false, false, false, false, false, false, false, false, false, false, false, false, false, false, false, false, false, false, false, false, false, false, false] rfl rfl (any_of HT_.out (by kernel_rfl)) (fun _ _ _ h => h) (Or.inl ⟨by rfl, ?_⟩) ?_ ?_
 rotate_left
 ·exact q63x1_
 rotate_left
 ·exact q63x2_
 refine pure_ (i := 6) (N := some 9) (v := ?_) (a' := ?_) #[true, true, true, false, true, true, true, false, false, false, false, false, false, false, false, false, false, false, false, false, false, false, false, false, false, false, false, false, false, false, false, false, false, false, false, false, false, false, false, false, false, false, false] rfl rfl (any_of HT_.out (by kernel_rfl)) (fun _ _ _ h => h) (Or.inl ⟨by rfl, ?_⟩) ?_ ?_
 rotate_left
 ·exact q63x1_
 rotate_left
 ·exact q63x2_
 refine pure_ (i := 8) (N := some 11) (v := ?_) (a' := ?_) #[true, true, true, false, true, true, true, false, true, false, false, false, false, false, false, false, false, false, false, false, false, false, false, false, false, false, false, false, false, false, false, false, false, false, false, false, false, false, false, false, false, false, false] rfl rfl (any_of HT_.out (by kernel_rfl)) (fun _ _ _ h => h) (Or.inl ⟨by rfl, ?_⟩) ?_ ?_
 rotate_left
 ·exact q63x1_
 rotate_left
 ·exact q63x2_
 refine pure_ (i := 9) (N := some 12) (v := ?_) (a' := ?_) #[true, true, true, false, true, true, true, false, true, true, false, false, false, false, false, false, false, false, false, false, false, false, false, false, false, false, false, false, false, false, false, false, false, false, false, false, false, false, false, false, false, false, false] rfl rfl (any_of HT_.out (by kernel_rfl)) (fun _ _ _ h => h) (Or.inl ⟨by rfl, ?_⟩) ?_ ?_
 rotate_left
 ·exact q63x1_
 rotate_left
 ·exact q63x2_
 refine pure_ (i := 10) (N := some 13) (v := ?_) (a' := ?_) #[true, true, true, false, true, true, true, false, true, true, true, false, false, false, false, false, false, false, false, false, false, false, false, false, false, false, false, false, false, false, false, false, false, false, false, false, false, false, false, false, false, false, false] rfl rfl (any_of HT_.out (by kernel_rfl)) (fun _ _ _ h => h) (Or.inl ⟨by rfl, ?_⟩) ?_ ?_
 rotate_left
 ·exact q63x1_
 rotate_left
 ·exact q63x2_
 refine pure_ (i := 13) (N := some 16) (v := ?_) (a' := ?_) #[true, true, true, false, true, true, true, false, true, true, true, false, false, true, false, false, false, false, false, false, false, false, false, false, false, false, false, false, false, false, false, false, false, false, false, false, false, false, false, false, false, false, false] rfl rfl (any_of HT_.out (by kernel_rfl)) (fun _ _ _ h => h) (Or.inl ⟨by rfl, ?_⟩) ?_ ?_
 rotate_left
 ·exact q63x1_
 rotate_left
 ·exact q63x2_
 refine pure_ (i := 14) (N := some 17) (v := ?_) (a' := ?_) #[true, true, true, false, true, true, true, false, true, true, true, false, false, true, true, false, false, false, false, false, false, false, false, false, false, false, false, false, false, false, false, false, false, false, false, false, false, false, false, false, false, false, false] rfl rfl (any_of HT_.out (by kernel_rfl)) (fun _ _ _ h => h) (Or.inl ⟨by rfl, ?_⟩) ?_ ?_
 rotate_left
 ·exact q63x1_
 rotate_left
 ·exact q63x2_
 refine pure_ (i := 15) (N := some 18) (v := ?_) (a' := ?_) #[true, true, true, false, true, true, true, false, true, true, true, false, false, true, true, true, false, false, false, false, false, false, false, false, false, false, false, false, false, false, false, false, false, false, false, false, false, false, false, false, false, false, false] rfl rfl (any_of HT_.out (by kernel_rfl)) (fun _ _ _ h => h) (Or.inl ⟨by rfl, ?_⟩) ?_ ?_
 rotate_left
 ·exact q63x1_
 rotate_left
 ·exact q63x2_
 refine pure_ (i := 17) (N := some 20) (v := ?_) (a' := ?_) #[true, true, true, false, true, true, true, false, true, true, true, false, false, true, true, true, false, true, false, false, false, false, false, false, false, false, false, false, false, false, false, false, false, false, false, false, false, false, false, false, false, false, false] rfl rfl (any_of HT_.out (by kernel_rfl)) (fun _ _ _ h => h) (Or.inl ⟨by rfl, ?_⟩) ?_ ?_
 rotate_left
 ·exact q63x1_
 rotate_left
 ·exact q63x2_
 refine pure_ (i := 18) (N := some 21) (v := ?_) (a' := ?_) #[true, true, true, false, true, true, true, false, true, true, true, false, false, true, true, true, false, true, true, false, false, false, false, false, false, false, false, false, false, false, false, false, false, false, false, false, false, false, false, false, false, false, false] rfl rfl (any_of HT_.out (by kernel_rfl)) (fun _ _ _ h => h) (Or.inl ⟨by rfl, ?_⟩) ?_ ?_
 rotate_left
 ·exact q63x1_
 rotate_left
 ·exact q63x2_
 refine pure_ (i := 19) (N := some 22) (v := ?_) (a' := ?_) #[true, true, true, false, true, true, true, false, true, true, true, false, false, true, true, true, false, true, true, true, false, false, false, false, false, false, false, false, false, false, false, false, false, false, false, false, false, false, false, false, false, false, false] rfl rfl (any_of HT_.out (by kernel_rfl)) (fun _ _ _ h => h) (Or.inl ⟨by rfl, ?_⟩) ?_ ?_
 rotate_left
 ·exact q63x1_
 rotate_left
 ·exact q63x2_
 refine pure_ (i := 22) (N := some 25) (v := ?_) (a' := ?_) #[true, true, true, false, true, true, true, false, true, true, true, false, false, true, true, true, false, true, true, true, false, false, true, false, false, false, false, false, false, false, false, false, false, false, false, false, false, false, false, false, false, false, false] rfl rfl (any_of HT_.out (by kernel_rfl)) (fun _ _ _ h => h) (Or.inl ⟨by rfl, ?_⟩) ?_ ?_
 rotate_left
 ·exact q63x1_
 rotate_left
 ·exact q63x2_
 refine pure_ (i := 23) (N := some 26) (v := ?_) (a' := ?_) #[true, true, true, false, true, true, true, false, true, true, true, false, false, true, true, true, false, true, true, true, false, false, true, true, false, false, false, false, false, false, false, false, false, false, false, false, false, false, false, false, false, false, false] rfl rfl (any_of HT_.out (by kernel_rfl)) (fun _ _ _ h => h) (Or.inl ⟨by rfl, ?_⟩) ?_ ?_
 rotate_left
 ·exact q63x1_
 rotate_left
 ·exact q63x2_
 refine pure_ (i := 24) (N := some 27) (v := ?_) (a' := ?_) #[true, true, true, false, true, true, true, false, true, true, true, false, false, true, true, true, false, true, true, true, false, false, true, true, true, false, false, false, false, false, false, false, false, false, false, false, false, false, false, false, false, false, false] rfl rfl (any_of HT_.out (by kernel_rfl)) (fun _ _ _ h => h) (Or.inl ⟨by rfl, ?_⟩) ?_ ?_
 rotate_left
 ·exact q63x1_
 rotate_left
 ·exact q63x2_
 refine pure_ (i := 26) (N := some 29) (v := ?_) (a' := ?_) #[true, true, true, false, true, true, true, false, true, true, true, false, false, true, true, true, false, true, true, true, false, false, true, true, true, false, true, false, false, false, false, false, false, false, false, false, false, false, false, false, false, false, false] rfl rfl (any_of HT_.out (by kernel_rfl)) (fun _ _ _ h => h) (Or.inl ⟨by rfl, ?_⟩) ?_ ?_
 rotate_left
 ·exact q63x1_
 rotate_left
 ·exact q63x2_
 refine pure_ (i := 27) (N := some 30) (v := ?_) (a' := ?_) #[true, true, true, false, true, true, true, false, true, true, true, false, false, true, true, true, false, true, true, true, false, false, true, true, true, false, true, true, false, false, false, false, false, false, false, false, false, false, false, false, false, false, false] rfl rfl (any_of HT_.out (by kernel_rfl)) (fun _ _ _ h => h) (Or.inl ⟨by rfl, ?_⟩) ?_ ?_
 rotate_left
 ·exact q63x1_
 rotate_left
 ·exact q63x2_
 refine pure_ (i := 28) (N := some 31) (v := ?_) (a' := ?_) #[true, true, true, false, true, true, true, false, true, true, true, false, false, true, true, true, false, true, true, true, false, false, true, true, true, false, true, true, true, false, false, false, false, false, false, false, false, false, false, false, false, false, false] rfl rfl (any_of HT_.out (by kernel_rfl)) (fun _ _ _ h => h) (Or.inl ⟨by rfl, ?_⟩) ?_ ?_
 rotate_left
 ·exact q63x1_
 rotate_left
 ·exact q63x2_
 refine pure_ (i := 31) (N := some 34) (v := ?_) (a' := ?_) #[true, true, true, false, true, true, true, false, true, true, true, false, false, true, true, true, false, true, true, true, false, false, true, true, true, false, true, true, true, false, false, true, false, false, false, false, false, false, false, false, false, false, false] rfl rfl (any_of HT_.out (by kernel_rfl)) (fun _ _ _ h => h) (Or.inl ⟨by rfl, ?_⟩) ?_ ?_
 rotate_left
 ·exact q63x1_
 rotate_left
 ·exact q63x2_
 refine pure_ (i := 32) (N := some 35) (v := ?_) (a' := ?_) #[true, true, true, false, true, true, true, false, true, true, true, false, false, true, true, true, false, true, true, true, false, false, true, true, true, false, true, true, true, false, false, true, true, false, false, false, false, false, false, false, false, false, false] rfl rfl (any_of HT_.out (by kernel_rfl)) (fun _ _ _ h => h) (Or.inl ⟨by rfl, ?_⟩) ?_ ?_
 rotate_left
 ·exact q63x1_
 rotate_left
 ·exact q63x2_
 refine pure_ (i := 33) (N := some 36) (v := ?_) (a' := ?_) #[true, true, true, false, true, true, true, false, true, true, true, false, false, true, true, true, false, true, true, true, false, false, true, true, true, false, true, true, true, false, false, true, true, true, false, false, false, false, false, false, false, false, false] rfl rfl (any_of HT_.out (by kernel_rfl)) (fun _ _ _ h => h) (Or.inl ⟨by rfl, ?_⟩) ?_ ?_
 rotate_left
 ·exact q63x1_
 rotate_left
 ·exact q63x2_
 refine pure_ (i := 36) (N := some 39) (v := ?_) (a' := ?_) #[true, true, true, false, true, true, true, false, true, true, true, false, false, true, true, true, false, true, true, true, false, false, true, true, true, false, true, true, true, false, false, true, true, true, false, false, true, false, false, false, false, false, false] rfl rfl (any_of HT_.out (by kernel_rfl)) (fun _ _ _ h => h) (Or.inl ⟨by rfl, ?_⟩) ?_ ?_
 rotate_left
 ·exact q63x1_
 rotate_left
 ·exact q63x2_
 refine pure_ (i := 37) (N := some 40) (v := ?_) (a' := ?_) #[true, true, true, false, true, true, true, false, true, true, true, false, false, true, true, true, false, true, true, true, false, false, true, true, true, false, true, true, true, false, false, true, true, true, false, false, true, true, false, false, false, false, false] rfl rfl (any_of HT_.out (by kernel_rfl)) (fun _ _ _ h => h) (Or.inl ⟨by rfl, ?_⟩) ?_ ?_
 rotate_left
 ·exact q63x1_
 rotate_left
 ·exact q63x2_
 refine pure_ (i := 38) (N := some 41) (v := ?_) (a' := ?_) #[true, true, true, false, true, true, true, false, true, true, true, false, false, true, true, true, false, true, true, true, false, false, true, true, true, false, true, true, true, false, false, true, true, true, false, false, true, true, true, false, false, false, false] rfl rfl (any_of HT_.out (by kernel_rfl)) (fun _ _ _ h => h) (Or.inl ⟨by rfl, ?_⟩) ?_ ?_
 rotate_left
 ·exact q63x1_
 rotate_left
 ·exact q63x2_
 refine take_ (i := 3) (N := some 6) (v := ?_) (a' := ?_) #[true, true, true, true, true, true, true, false, true, true, true, false, false, true, true, true, false, true, true, true, false, false, true, true, true, false, true, true, true, false, false, true, true, true, false, false, true, true, true, false, false, false, false] rfl rfl (take_ofW HT_.out HW_.out (by kernel_rfl)) (fun _ _ _ h => h) (Or.inl ⟨by rfl, ?_⟩) hHeld ?_ ?_
 rotate_left
 ·exact q63x3_
 rotate_left
 ·exact q63x2_
 refine take_ (i := 7) (N := some 10) (v := ?_) (a' := ?_) #[true, true, true, true, true, true, true, true, true, true, true, false, false, true, true, true, false, true, true, true, false, false, true, true, true, false, true, true, true, false, false, true, true, true, false, false, true, true, true, false, false, false, false] rfl rfl (take_ofW HT_.out HW_.out (by kernel_rfl)) (fun _ _ _ h => h) (Or.inl ⟨by rfl, ?_⟩) hHeld ?_ ?_
 rotate_left
 ·exact q63x3_
 rotate_left
 ·exact q63x2_
 refine take_ (i := 11) (N := some 14) (v := ?_) (a' := ?_) #[true, true, true, true, true, true, true, true, true, true, true, true, false, true, true, true, false, true, true, true, false, false, true, true, true, false, true, true, true, false, false, true, true, true, false, false, true, true, true, false, false, false, false] rfl rfl (take_ofW HT_.out HW_.out (by kernel_rfl)) (fun _ _ _ h => h) (Or.inl ⟨by rfl, ?_⟩) hHeld ?_ ?_
 rotate_left
 ·exact q63x3_
 rotate_left
 ·exact q63x2_
 refine pure_ (i := 12) (N := some 15) (v := ?_) (a' := ?_) #[true, true, true, true, true, true, true, true, true, true, true, true, true, true, true, true, false, true, true, true, false, false, true, true, true, false, true, true, true, false, false, true, true, true, false, false, true, true, true, false, false, false, false] rfl rfl (any_of HT_.out (by kernel_rfl)) (fun _ _ _ h => h) (Or.inl ⟨by rfl, ?_⟩) ?_ ?_
 rotate_left
 ·exact q63x1_
 rotate_left
 ·exact q63x2_
 refine take_ (i := 16) (N := some 19) (v := ?_) (a' := ?_) #[true, true, true, true, true, true, true, true, true, true, true, true, true, true, true, true, true, true, true, true, false, false, true, true, true, false, true, true, true, false, false, true, true, true, false, false, true, true, true, false, false, false, false] rfl rfl (take_ofW HT_.out HW_.out (by kernel_rfl)) (fun _ _ _ h => h) (Or.inl ⟨by rfl, ?_⟩) hHeld ?_ ?_
 rotate_left
 ·exact q63x3_
 rotate_left
 ·exact q63x2_
 refine take_ (i := 20) (N := some 23) (v := ?_) (a' := ?_) #[true, true, true, true, true, true, true, true, true, true, true, true, true, true, true, true, true, true, true, true, true, false, true, true, true, false, true, true, true, false, false, true, true, true, false, false, true, true, true, false, false, false, false] rfl rfl (take_ofW HT_.out HW_.out (by kernel_rfl)) (fun _ _ _ h => h) (Or.inl ⟨by rfl, ?_⟩) hHeld ?_ ?_
 rotate_left
 ·exact q63x3_
 rotate_left
 ·exact q63x2_
 refine pure_ (i := 21) (N := some 24) (v := ?_) (a' := ?_) #[true, true, true, true, true, true, true, true, true, true, true, true, true, true, true, true, true, true, true, true, true, true, true, true, true, false, true, true, true, false, false, true, true, true, false, false, true, true, true, false, false, false, false] rfl rfl (any_of HT_.out (by kernel_rfl)) (fun _ _ _ h => h) (Or.inl ⟨by rfl, ?_⟩) ?_ ?_
 rotate_left
 ·exact q63x1_
 rotate_left
 ·exact q63x2_
 refine take_ (i := 25) (N := some 28) (v := ?_) (a' := ?_) #[true, true, true, true, true, true, true, true, true, true, true, true, true, true, true, true, true, true, true, true, true, true, true, true, true, true, true, true, true, false, false, true, true, true, false, false, true, true, true, false, false, false, false] rfl rfl (take_ofW HT_.out HW_.out (by kernel_rfl)) (fun _ _ _ h => h) (Or.inl ⟨by rfl, ?_⟩) hHeld ?_ ?_
 rotate_left
 ·exact q63x3_
 rotate_left
 ·exact q63x2_
 refine take_ (i := 29) (N := some 32) (v := ?_) (a' := ?_) #[true, true, true, true, true, true, true, true, true, true, true, true, true, true, true, true, true, true, true, true, true, true, true, true, true, true, true, true, true, true, false, true, true, true, false, false, true, true, true, false, false, false, false] rfl rfl (take_ofW HT_.out HW_.out (by kernel_rfl)) (fun _ _ _ h => h) (Or.inl ⟨by rfl, ?_⟩) hHeld ?_ ?_
 rotate_left
 ·exact q63x3_
 rotate_left
 ·exact q63x2_
 refine pure_ (i := 30) (N := some 33) (v := ?_) (a' := ?_) #[true, true, true, true, true, true, true, true, true, true, true, true, true, true, true, true, true, true, true, true, true, true, true, true, true, true, true, true, true, true, true, true, true, true, false, false, true, true, true, false, false, false, false] rfl rfl (any_of HT_.out (by kernel_rfl)) (fun _ _ _ h => h) (Or.inl ⟨by rfl, ?_⟩) ?_ ?_
 rotate_left
 ·exact q63x1_
 rotate_left
 ·exact q63x2_
 refine take_ (i := 34) (N := some 37) (v := ?_) (a' := ?_) #[true, true, true, true, true, true, true, true, true, true, true, true, true, true, true, true, true, true, true, true, true, true, true, true, true, true, true, true, true, true, true, true, true, true, true, false, true, true, true, false, false, false, false] rfl rfl (take_ofW HT_.out HW_.out (by kernel_rfl)) (fun _ _ _ h => h) (Or.inl ⟨by rfl, ?_⟩) hHeld ?_ ?_
 rotate_left
 ·exact q63x3_
 rotate_left
 ·exact q63x2_
 refine pure_ (i := 35) (N := some 38) (v := ?_) (a' := ?_) #[true, true, true, true, true, true, true, true, true, true, true, true, true, true, true, true, true, true, true, true, true, true, true, true, true, true, true, true, true, true, true, true, true, true, true, true, true, true, true, false, false, false, false] rfl rfl (any_of HT_.out (by kernel_rfl)) (fun _ _ _ h => h) (Or.inl ⟨by rfl, ?_⟩) ?_ ?_
 rotate_left
 ·exact q63x1_
 rotate_left
 ·exact q63x2_
 refine take_ (i := 39) (N := some 42) (v := ?_) (a' := ?_) #[true, true, true, true, true, true, true, true, true, true, true, true, true, true, true, true, true, true, true, true, true, true, true, true, true, true, true, true, true, true, true, true, true, true, true, true, true, true, true, true, false, false, false] rfl rfl (take_ofW HT_.out HW_.out (by kernel_rfl)) (fun _ _ _ h => h) (Or.inl ⟨by rfl, ?_⟩) hHeld ?_ ?_
 rotate_left
 ·exact q63x3_
 rotate_left
 ·exact q63x2_
 refine pure_ (i := 40) (N := some 43) (v := ?_) (a' := ?_) #[true, true, true, true, true, true, true, true, true, true, true, true, true, true, true, true, true, true, true, true, true, true, true, true, true, true, true, true, true, true, true, true, true, true, true, true, true, true, true, true, true, false, false] rfl rfl (any_of HT_.out (by kernel_rfl)) (fun _ _ _ h => h) (Or.inl ⟨by rfl, ?_⟩) ?_ ?_
 rotate_left
 ·exact q63x1_
 rotate_left
 ·exact q63x2_
 refine one_ (i := 41) (N := some 44) #[true, true, true, true, true, true, true, true, true, true, true, true, true, true, true, true, true, true, true, true, true, true, true, true, true, true, true, true, true, true, true, true, true, true, true, true, true, true, true, true, true, true, false] rfl rfl (one_of HT_.out (by kernel_rfl)) (by decide) (fun K hK => ?_)
 refine Kd.R_lit_step (Kd.int .i64) _ 2 ?hg (N := 44) ?hd (xs := ([a0_0, wrap64 (a0_0 + a0_1), wrap64 (a0_0 + a0_2), wrap64 ((wrap64 ((wrap64 (a0_0 + a0_1)) + a0_2)) + a0_3)] : List Int)) (inner := [.int .i64 a0_0, .int .i64 (wrap64 (a0_0 + a0_1)), .int .i64 (wrap64 (a0_0 + a0_2)), .int .i64 (wrap64 ((wrap64 ((wrap64 (a0_0 + a0_1)) + a0_2)) + a0_3))]) (ok := fun _ => True) (okp := fun _ => True) ?hr ?hp (fun _ hk => hk) trivial (Below.refl _ _) (Nat.le_refl _) (by simp) ?_; (case hd => rfl); (case hg => rfl); (case hr => first | (go_simp; done) | (go_simp; rfl)); (case hp => exact (Reps.one (show Kd.M (Kd.int .i64) _ _ _ a0_0 [.int .i64 a0_0] from rfl) (Reps.one (show Kd.M (Kd.int .i64) _ _ _ (wrap64 (a0_0 + a0_1)) [.int .i64 (wrap64 (a0_0 + a0_1))] from rfl) (Reps.one (show Kd.M (Kd.int .i64) _ _ _ (wrap64 (a0_0 + a0_2)) [.int .i64 (wrap64 (a0_0 + a0_2))] from rfl) (Reps.one (show Kd.M (Kd.int .i64) _ _ _ (wrap64 ((wrap64 ((wrap64 (a0_0 + a0_1)) + a0_2)) + a0_3)) [.int .i64 (wrap64 ((wrap64 ((wrap64 (a0_0 + a0_1)) + a0_2)) + a0_3))] from rfl) (Reps.none _ _))))))
 intro v127 w3 ho4 hb hg_ hnew_
 clear hg_ hnew_
 (first | rw [← Ny126.out] at ho4 | (simp only [Int.reduceToNat] at ho4; rw [← Ny126.out] at ho4))
 have n0_ := Aside0.mk (Kd.R_lower ho4 (below_size (by repeat (first | (with_reducible first | exact HB.out | apply below_alloc | apply pw_below_drewN | apply below_drew1) | exact HB.out))))
 have n1_ := Aside0.mk (below_step (by repeat (first | (with_reducible first | exact HB.out | apply below_alloc | apply pw_below_drewN | apply below_drew1) | exact HB.out)) hb)
 clear HB
 have HO128 := n0_
 have HB := n1_
 clear n0_ n1_ hb ho4
 refine hK.out _ _ ⟨((HB.out.cell (World.block_lt_of_cell? w _ (HQ0_.out.1))).trans (HQ0_.out.1)), ((HB.out.cell (World.block_lt_of_cell? w _ (HQ0_.out.2.1))).trans (HQ0_.out.2.1)), ((HB.out.cell (World.block_lt_of_cell? w _ (HQ0_.out.2.2.1))).trans (HQ0_.out.2.2.1)), ((HB.out.cell (World.block_lt_of_cell? w _ (HQ0_.out.2.2.2))).trans (HQ0_.out.2.2.2))⟩ (fun hHeld => ?_)
 clear hK K
 refine norm_ (a' := ?_) ?_ ?_
 rotate_left
 ·show Act.put _ (some 44) _ = _
  simp only [Act.put, sa_, sz_, ss_, i64_w, i32_w]
  rfl
 refine pure_ (i := 42) (N := some 2) (v := ?_) (a' := ?_) #[true, true, true, true, true, true, true, true, true, true, true, true, true, true, true, true, true, true, true, true, true, true, true, true, true, true, true, true, true, true, true, true, true, true, true, true, true, true, true, true, true, true, true] rfl rfl (any_of HT_.out (by kernel_rfl)) (fun _ _ _ h => h) (Or.inl ⟨by rfl, ?_⟩) ?_ ?_
 rotate_left
 ·exact q63x1_
 rotate_left
 ·exact q63x2_
 refine done_ (done_of HT_.out (by kernel_rfl)) ?_
 try go_wp2
 go_ret
 exact ⟨_, by first | rfl | (simp [errW_none, errW_some] <;> rfl) | (simp [*, errW_none, errW_some] <;> rfl), by (with_reducible repeat (first | apply Kd.R_alloc | apply Kd.R_drewN | apply Kd.R_drew)); exact HO128.out, by repeat (first | (with_reducible first | exact HB.out | apply below_alloc | apply pw_below_drewN | apply below_drew1) | exact HB.out)⟩

end Go.Proofs.Ytgldplkbacfacaa.MFnEights
