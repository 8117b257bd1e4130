/- Functions of the program as Lean functions, and the proof that the code comes to what they say. Written by a program of this session (myprint.py). -/
import Derived.Test.YtgldplkbacfacaaMFnPairsx0
import Derived.Test.YtgldplkbacfacaaMFnPairsx3
namespace Go.Proofs.Ytgldplkbacfacaa.MFnPairs
open Go.RowKit Go.Proofs.Ytgldplkbacfacaa.MOpen Go.Proofs.YtgldplkbacfacaaW.PrintWords Go.Proofs.YtgldplkbacfacaaW.PrintLast Go.Proofs.YtgldplkbacfacaaW.PrintMore
attribute [local go_sem] max2_int min2_int max_two min_two max_three min_three max_four min_four   -- for this text's walks alone
set_option linter.unusedVariables false
set_option linter.unusedSimpArgs false

set_option linter.defProp false

theorem q56x1_ {P : Prop} (h : P := by first | (with_reducible assumption) | assumption) : P := h
/-! ### spec_l04Alike: function 56 -/
mutual
def spec_l04Alike.l0 : Nat → List Int → List Int → Int → Option (Int × Bool)
 | 0, _, _, _ => none
 | k + 1, x0, x1, x6 => if x6 < (x1.length : Int) then (if 0 ≤ x6 then (if (rd x1 x6) = 0 then (some (0, false)) else (if 0 < (x1.length : Int) then (if ((decide ((rd x1 x6) > 0)) != (decide ((rd x1 0) > 0))) = true then (some (0, false)) else (spec_l04Alike.l0 k x0 x1 (wrap64 (x6 + 1)))) else (none))) else (none)) else (if 0 < (x0.length : Int) then (if 0 < (x1.length : Int) then ((spec_l04Floor.f (rd x0 0) (rd x1 0)).bind fun t117 => (spec_l04Alike.l1 k x0 x1 t117 1)) else (none)) else (none))
def spec_l04Alike.l1 : Nat → List Int → List Int → Int → Int → Option (Int × Bool)
 | 0, _, _, _, _ => none
 | k + 1, x0, x1, x7, x8 => if x8 < (x1.length : Int) then (if 0 ≤ x8 then (if x8 < (x0.length : Int) then ((spec_l04Floor.f (rd x0 x8) (rd x1 x8)).bind fun t120 => (if t120 = x7 then (spec_l04Alike.l1 k x0 x1 x7 (wrap64 (x8 + 1))) else (some (0, false)))) else (none)) else (none)) else (some (x7, true))
end
def spec_l04Alike.f (k : Nat) (l0 : List Int) (l1 : List Int) : Option (Int × Bool) := spec_l04Alike.l0 k l0 l1 0
theorem spec_l04Alike.mono_l : ∀ k, (∀ y0 y1 y2, LeO (spec_l04Alike.l0 k y0 y1 y2) (spec_l04Alike.l0 (k + 1) y0 y1 y2)) ∧ (∀ y0 y1 y2 y3, LeO (spec_l04Alike.l1 k y0 y1 y2 y3) (spec_l04Alike.l1 (k + 1) y0 y1 y2 y3))
 | 0 => ⟨fun _ _ _ r h => by simp [spec_l04Alike.l0] at h, fun _ _ _ _ r h => by simp [spec_l04Alike.l1] at h⟩
 | k + 1 => by
  obtain ⟨ih0, ih1⟩ := spec_l04Alike.mono_l k
  refine ⟨?_, ?_⟩
  ·intro y0 y1 y2
   unfold spec_l04Alike.l0
   repeat' first
   | (with_reducible exact ih0 _ _ _)
   | (with_reducible exact ih1 _ _ _ _)
   | (with_reducible exact LeO.refl _)
   | (with_reducible exact LeO.none _)
   | (with_reducible refine LeO.ite ?_ ?_)
   | (with_reducible refine LeO.bind ?_ (fun _ => ?_))
   | exact ih0 _ _ _
   | exact ih1 _ _ _ _
   | exact LeO.none _
   | refine LeO.ite ?_ ?_
   | refine LeO.bind ?_ (fun _ => ?_)
  intro y0 y1 y2 y3
  unfold spec_l04Alike.l1
  repeat' first
  | (with_reducible exact ih0 _ _ _)
  | (with_reducible exact ih1 _ _ _ _)
  | (with_reducible exact LeO.refl _)
  | (with_reducible exact LeO.none _)
  | (with_reducible refine LeO.ite ?_ ?_)
  | (with_reducible refine LeO.bind ?_ (fun _ => ?_))
  | exact ih0 _ _ _
  | exact ih1 _ _ _ _
  | exact LeO.none _
  | refine LeO.ite ?_ ?_
  | refine LeO.bind ?_ (fun _ => ?_)
theorem spec_l04Alike.mono : ∀ a0 a1 k, LeO (spec_l04Alike.f k a0 a1) (spec_l04Alike.f (k + 1) a0 a1) := by
 intro a0 a1 k
 obtain ⟨ih0, ih1⟩ := spec_l04Alike.mono_l k
 unfold spec_l04Alike.f
 repeat' first
   | (with_reducible exact ih0 _ _ _)
   | (with_reducible exact ih1 _ _ _ _)
   | (with_reducible exact LeO.refl _)
   | (with_reducible exact LeO.none _)
   | (with_reducible refine LeO.ite ?_ ?_)
   | (with_reducible refine LeO.bind ?_ (fun _ => ?_))
   | exact ih0 _ _ _
   | exact ih1 _ _ _ _
   | exact LeO.none _
   | refine LeO.ite ?_ ?_
   | refine LeO.bind ?_ (fun _ => ?_)
set_option maxHeartbeats 8000000 in
set_option maxRecDepth 100000 in
theorem spec_l04Alike.calls (k : Nat) (A0 : Option Addr) (c0 : Nat) (l0 : List Int) (A1 : Option Addr) (c1 : Nat) (l1 : List Int) (r1 : Int) (r2 : Bool) (w : World) (hr0 : Kd.C (Kd.int .i64) w A0 l0.length l0) (hc0 : l0.length ≤ c0) (hr1 : Kd.C (Kd.int .i64) w A1 l1.length l1) (hc1 : l1.length ≤ c1) (h : spec_l04Alike.f k l0 l1 = some (r1, r2)) :
  Calls Try.prog 56 #[.slice A0 l0.length c0, .slice A1 l1.length c1] w fun e w' => e = .returned (.tuple #[.int .i64 r1, .bool r2]) ∧ Drawn0 w w' := by
 have HR0 := Aside0.mk hr0
 have HC0 := Aside0.mk hc0
 clear hr0 hc0
 have HR1 := Aside0.mk hr1
 have HC1 := Aside0.mk hc1
 clear hr1 hc1
 have H : (spec_l04Alike.l0 k l0 l1 0) = some (r1, r2) := h
 clear h
 have H' := Aside0.mk H
 clear H
 go_enter Try.func56, Try.ntmps56
 go_wp2
 repeat (go_quiet (fail); try go_wp2)
 go_loopg [6] k (fun kq v6 w' => ∃ (x6_1 : Int), v6 = .int .i64 x6_1 ∧ Aside0 (spec_l04Alike.l0 kq l0 l1 x6_1 = some (r1, r2)) ∧ Aside0 (kq ≤ k) ∧ Drawn0 w w')
 case atStart => exact ⟨(0), (by first | rfl | (simp; done) | (simp [*]; done)), H', ⟨Nat.le_refl _⟩, by repeat (first | exact Drawn0.refl _ | apply Drawn0.step)⟩
 case round =>
  clear H'
  try clear c1
  try clear p2
  obtain ⟨x6_1, rfl, HA, HK1, ⟨m1, rfl⟩⟩ := hrel
  cases gk with
  | zero => exact absurd HA.out (by simp [spec_l04Alike.l0])
  | succ k1 =>
   have H := HA.out
   clear HA
   simp only [spec_l04Alike.l0] at H
   by_cases c3 : x6_1 < (l1.length : Int)
   ·rw [if_pos c3] at H
    have c3b0 : decide (x6_1 < (l1.length : Int)) = true := decide_eq_true c3
    clear c3
    by_cases c4 : 0 ≤ x6_1
    rotate_left
    ·rw [if_neg c4] at H
     exact absurd H (by simp)
    rw [if_pos c4] at H
    have c4b0 : decide (0 ≤ x6_1) = true := decide_eq_true c4
    clear c4
    by_cases c5 : (rd l1 x6_1) = 0
    ·rw [if_pos c5] at H
     have c5b0 : ((rd l1 x6_1) == 0) = true := beq_iff_eq.mpr c5
     have c5b1 : ((rd l1 x6_1) != 0) = false := bne_eq_false_iff_eq.mpr c5
     clear c5
     simp only [Option.some.injEq, Prod.mk.injEq] at H
     obtain ⟨rfl, rfl⟩ := H
     have p112 : 0 ≤ (x6_1 : Int) := of_decide_eq_true q56x1_
     have q112 : x6_1 < (l1.length : Int) := of_decide_eq_true q56x1_
     obtain ⟨ad112, e112, hx112_0⟩ := Kd.at_int HR1.out x6_1 p112 q112
     cases e112
     replace p112 := eq_true p112
     replace q112 := eq_true q112
     go_wp2
     repeat (go_quiet (fail); try go_wp2)
     go_ret2
     exact ⟨by first | rfl | (simp; done) | (simp [*]; done), by repeat (first | exact Drawn0.refl _ | apply Drawn0.step)⟩
    rw [if_neg c5] at H
    have c5b0 : ((rd l1 x6_1) == 0) = false := beq_eq_false_iff_ne.mpr c5
    have c5b1 : ((rd l1 x6_1) != 0) = true := bne_iff_ne.mpr c5
    by_cases c6 : 0 < (l1.length : Int)
    rotate_left
    ·rw [if_neg c6] at H
     exact absurd H (by simp)
    rw [if_pos c6] at H
    have c6b0 : decide (0 < (l1.length : Int)) = true := decide_eq_true c6
    have c6b1 : decide (0 < l1.length) = true := decide_eq_true (by omega)
    clear c6
    by_cases c7 : ((decide ((rd l1 x6_1) > 0)) != (decide ((rd l1 0) > 0))) = true
    ·rw [if_pos c7] at H
     have c7b0 : ((decide ((rd l1 x6_1) > 0)) != (decide ((rd l1 0) > 0))) = true := c7
     (try (have c7b1 : decide ((decide ((rd l1 x6_1) > 0)) = (decide ((rd l1 0) > 0))) = false := by simpa using c7))
     (try (have c7b2 : ((decide ((rd l1 x6_1) > 0)) == (decide ((rd l1 0) > 0))) = false := by simpa using c7))
     (try (have c7b3 : ¬ ((decide ((rd l1 x6_1) > 0)) = (decide ((rd l1 0) > 0))) := by simpa using c7))
     clear c7
     simp only [Option.some.injEq, Prod.mk.injEq] at H
     obtain ⟨rfl, rfl⟩ := H
     have p112 : 0 ≤ (x6_1 : Int) := of_decide_eq_true q56x1_
     have q112 : x6_1 < (l1.length : Int) := of_decide_eq_true q56x1_
     obtain ⟨ad112, e112, hx112_0⟩ := Kd.at_int HR1.out x6_1 p112 q112
     cases e112
     replace p112 := eq_true p112
     replace q112 := eq_true q112
     have p113 : 0 ≤ (x6_1 : Int) := of_decide_eq_true q56x1_
     have q113 : x6_1 < (l1.length : Int) := of_decide_eq_true q56x1_
     obtain ⟨ad113, e113, hx113_0⟩ := Kd.at_int HR1.out x6_1 p113 q113
     obtain rfl : ad112 = ad113 := (by injection e113)
     replace p113 := eq_true p113
     replace q113 := eq_true q113
     have p114 : 0 ≤ (0 : Int) := (by omega)
     have q114 : 0 < (l1.length : Int) := of_decide_eq_true q56x1_
     obtain ⟨ad114, e114, hx114_0⟩ := Kd.at_int HR1.out 0 p114 q114
     obtain rfl : ad112 = ad114 := (by injection e114)
     have qi114 : (0 < l1.length) = True := eq_true (by omega)
     (try rw [show ((0 : Int)).toNat = 0 from rfl] at hx114_0)
     (try rw [Addr.add_zero'] at hx114_0)
     replace p114 := eq_true p114
     replace q114 := eq_true q114
     go_wp2
     repeat (go_quiet (fail); try go_wp2)
     go_ret2
     exact ⟨by first | rfl | (simp; done) | (simp [*]; done), by repeat (first | exact Drawn0.refl _ | apply Drawn0.step)⟩
    rw [if_neg c7] at H
    have c7b0 : ((decide ((rd l1 x6_1) > 0)) != (decide ((rd l1 0) > 0))) = false := by simpa using c7
    (try (have c7b1 : decide ((decide ((rd l1 x6_1) > 0)) = (decide ((rd l1 0) > 0))) = true := by simpa using c7))
    (try (have c7b2 : ((decide ((rd l1 x6_1) > 0)) == (decide ((rd l1 0) > 0))) = true := by simpa using c7))
    clear c7
    have H' := Aside0.mk H
    clear H
    have p112 : 0 ≤ (x6_1 : Int) := of_decide_eq_true q56x1_
    have q112 : x6_1 < (l1.length : Int) := of_decide_eq_true q56x1_
    obtain ⟨ad112, e112, hx112_0⟩ := Kd.at_int HR1.out x6_1 p112 q112
    cases e112
    replace p112 := eq_true p112
    replace q112 := eq_true q112
    have p113 : 0 ≤ (x6_1 : Int) := of_decide_eq_true q56x1_
    have q113 : x6_1 < (l1.length : Int) := of_decide_eq_true q56x1_
    obtain ⟨ad113, e113, hx113_0⟩ := Kd.at_int HR1.out x6_1 p113 q113
    obtain rfl : ad112 = ad113 := (by injection e113)
    replace p113 := eq_true p113
    replace q113 := eq_true q113
    have p114 : 0 ≤ (0 : Int) := (by omega)
    have q114 : 0 < (l1.length : Int) := of_decide_eq_true q56x1_
    obtain ⟨ad114, e114, hx114_0⟩ := Kd.at_int HR1.out 0 p114 q114
    obtain rfl : ad112 = ad114 := (by injection e114)
    have qi114 : (0 < l1.length) = True := eq_true (by omega)
    (try rw [show ((0 : Int)).toNat = 0 from rfl] at hx114_0)
    (try rw [Addr.add_zero'] at hx114_0)
    replace p114 := eq_true p114
    replace q114 := eq_true q114
    go_wp2
    repeat (go_quiet (fail); try go_wp2)
    go_roundg k1
    case measure => have := HK1.out; omega
    case rel => exact ⟨(wrap64 (x6_1 + 1)), (by first | rfl | (simp; done) | (simp [*]; done)), H', ⟨by have := HK1.out; omega⟩, by repeat (first | exact Drawn0.refl _ | apply Drawn0.step)⟩
   rw [if_neg c3] at H
   have c3b0 : decide (x6_1 < (l1.length : Int)) = false := decide_eq_false c3
   clear c3
   by_cases c8 : 0 < (l0.length : Int)
   rotate_left
   ·rw [if_neg c8] at H
    exact absurd H (by simp)

   rw [if_pos c8] at H
   have c8b0 : decide (0 < (l0.length : Int)) = true := decide_eq_true c8
   have c8b1 : decide (0 < l0.length) = true := decide_eq_true (by omega)
   clear c8
   by_cases c9 : 0 < (l1.length : Int)
   rotate_left
   ·rw [if_neg c9] at H
    exact absurd H (by simp)
   rw [if_pos c9] at H
   have c9b0 : decide (0 < (l1.length : Int)) = true := decide_eq_true c9
   have c9b1 : decide (0 < l1.length) = true := decide_eq_true (by omega)
   clear c9
   replace H := Option.bind_eq_some_iff.mp H
   obtain ⟨t117, A100, H⟩ := H
   replace H : (spec_l04Alike.l1 k1 l0 l1 t117 1) = some (r1, r2) := H
   have A10 := Aside0.mk A100
   clear A100
   have H' := Aside0.mk H
   clear H
   have p115 : 0 ≤ (0 : Int) := (by omega)
   have q115 : 0 < (l0.length : Int) := of_decide_eq_true q56x1_
   obtain ⟨ad115, e115, hx115_0⟩ := Kd.at_int HR0.out 0 p115 q115
   cases e115
   have qi115 : (0 < l0.length) = True := eq_true (by omega)
   (try rw [show ((0 : Int)).toNat = 0 from rfl] at hx115_0)
   (try rw [Addr.add_zero'] at hx115_0)
   replace p115 := eq_true p115
   replace q115 := eq_true q115
   have p116 : 0 ≤ (0 : Int) := (by omega)
   have q116 : 0 < (l1.length : Int) := of_decide_eq_true q56x1_
   obtain ⟨ad116, e116, hx116_0⟩ := Kd.at_int HR1.out 0 p116 q116
   cases e116
   have qi116 : (0 < l1.length) = True := eq_true (by omega)
   (try rw [show ((0 : Int)).toNat = 0 from rfl] at hx116_0)
   (try rw [Addr.add_zero'] at hx116_0)
   replace p116 := eq_true p116
   replace q116 := eq_true q116
   go_wp2_with (first | (go_at_call 77; (with_reducible refine (spec_l04Floor.calls (rd l0 0) (rd l1 0) t117 _ A10.out).mono ?_); rintro e w' ⟨rfl, ⟨nd, rfl⟩⟩; (try first | exact ⟨rfl, _, World.drewN_drewN _ _ _⟩ | exact ⟨rfl, _, Eq.trans (World.drewN_drewN _ _ _) (congrArg (World.drewN _) (Nat.add_assoc _ _ _))⟩)) | go_quiet (first | (go_at_call 77; (with_reducible refine (spec_l04Floor.calls (rd l0 0) (rd l1 0) t117 _ A10.out).mono ?_); rintro e w' ⟨rfl, ⟨nd, rfl⟩⟩; (try first | exact ⟨rfl, _, World.drewN_drewN _ _ _⟩ | exact ⟨rfl, _, Eq.trans (World.drewN_drewN _ _ _) (congrArg (World.drewN _) (Nat.add_assoc _ _ _))⟩))))
   go_loopg [8] k1 (fun kq v8 w' => ∃ (x8_2 : Int), v8 = .int .i64 x8_2 ∧ Aside0 (spec_l04Alike.l1 kq l0 l1 t117 x8_2 = some (r1, r2)) ∧ Aside0 (kq ≤ k1) ∧ Drawn0 w w')
   case atStart => exact ⟨(1), (by first | rfl | (simp; done) | (simp [*]; done)), H', ⟨Nat.le_refl _⟩, by repeat (first | exact Drawn0.refl _ | apply Drawn0.step)⟩
   case round =>
    clear H'
    try clear c1
    try clear p1
    try clear q1
    try clear hx1
    try clear qi1
    try clear p2
    try clear c3
    try clear c3b0
    try clear c4
    try clear c4b0
    try clear c5
    try clear c5b0
    try clear c5b1
    try clear c6
    try clear c6b0
    try clear c6b1
    try clear p6
    try clear c7
    try clear c7b0
    try clear c7b1
    try clear c7b2
    try clear c8
    try clear c8b0
    try clear c8b1
    try clear c9
    try clear c9b0
    try clear c9b1
    try clear hx112_0
    try clear hx113_0
    try clear hx114_0
    try clear hx115_0
    try clear hx116_0
    try clear p112
    try clear p113
    try clear p114
    try clear p115
    try clear p116
    try clear p2
    try clear q112
    try clear q113
    try clear q114
    try clear q115
    try clear q116
    obtain ⟨x8_2, rfl, HA, HK2, ⟨m2, rfl⟩⟩ := hrel
    cases gk with
    | zero => exact absurd HA.out (by simp [spec_l04Alike.l1])
    | succ k2 =>
     have H := HA.out
     clear HA
     simp only [spec_l04Alike.l1] at H
     by_cases c11 : x8_2 < (l1.length : Int)
     rotate_left
     ·rw [if_neg c11] at H
      have c11b0 : decide (x8_2 < (l1.length : Int)) = false := decide_eq_false c11
      clear c11
      simp only [Option.some.injEq, Prod.mk.injEq] at H
      obtain ⟨rfl, rfl⟩ := H
      go_wp2
      repeat (go_quiet (fail); try go_wp2)
      go_ret2
      exact ⟨by first | rfl | (simp; done) | (simp [*]; done), by repeat (first | exact Drawn0.refl _ | apply Drawn0.step)⟩
     rw [if_pos c11] at H
     have c11b0 : decide (x8_2 < (l1.length : Int)) = true := decide_eq_true c11
     clear c11
     by_cases c12 : 0 ≤ x8_2
     rotate_left
     ·rw [if_neg c12] at H
      exact absurd H (by simp)
     rw [if_pos c12] at H
     have c12b0 : decide (0 ≤ x8_2) = true := decide_eq_true c12
     clear c12
     by_cases c13 : x8_2 < (l0.length : Int)
     rotate_left
     ·rw [if_neg c13] at H
      exact absurd H (by simp)
     rw [if_pos c13] at H
     have c13b0 : decide (x8_2 < (l0.length : Int)) = true := decide_eq_true c13
     clear c13
     replace H := Option.bind_eq_some_iff.mp H
     obtain ⟨t120, A140, H⟩ := H
     replace H : (if t120 = t117 then (spec_l04Alike.l1 k2 l0 l1 t117 (wrap64 (x8_2 + 1))) else (some (0, false))) = some (r1, r2) := H
     have A14 := Aside0.mk A140
     clear A140
     by_cases c15 : t120 = t117
     ·rw [if_pos c15] at H
      have c15b0 : (t120 == t117) = true := beq_iff_eq.mpr c15
      have c15b1 : (t120 != t117) = false := bne_eq_false_iff_eq.mpr c15
      clear c15
      have H' := Aside0.mk H
      clear H
      have p118 : 0 ≤ (x8_2 : Int) := of_decide_eq_true q56x1_
      have q118 : x8_2 < (l0.length : Int) := of_decide_eq_true q56x1_
      obtain ⟨ad118, e118, hx118_0⟩ := Kd.at_int HR0.out x8_2 p118 q118
      obtain rfl : ad115 = ad118 := (by injection e118)
      replace p118 := eq_true p118
      replace q118 := eq_true q118
      have p119 : 0 ≤ (x8_2 : Int) := of_decide_eq_true q56x1_
      have q119 : x8_2 < (l1.length : Int) := of_decide_eq_true q56x1_
      obtain ⟨ad119, e119, hx119_0⟩ := Kd.at_int HR1.out x8_2 p119 q119
      obtain rfl : ad116 = ad119 := (by injection e119)
      replace p119 := eq_true p119
      replace q119 := eq_true q119
      go_wp2_with (first | (go_at_call 77; (with_reducible refine (spec_l04Floor.calls (rd l0 x8_2) (rd l1 x8_2) t120 _ A14.out).mono ?_); rintro e w' ⟨rfl, ⟨nd, rfl⟩⟩; (try first | exact ⟨rfl, _, World.drewN_drewN _ _ _⟩ | exact ⟨rfl, _, Eq.trans (World.drewN_drewN _ _ _) (congrArg (World.drewN _) (Nat.add_assoc _ _ _))⟩)) | go_quiet (first | (go_at_call 77; (with_reducible refine (spec_l04Floor.calls (rd l0 x8_2) (rd l1 x8_2) t120 _ A14.out).mono ?_); rintro e w' ⟨rfl, ⟨nd, rfl⟩⟩; (try first | exact ⟨rfl, _, World.drewN_drewN _ _ _⟩ | exact ⟨rfl, _, Eq.trans (World.drewN_drewN _ _ _) (congrArg (World.drewN _) (Nat.add_assoc _ _ _))⟩))))
      go_roundg k2
      case measure => have := HK1.out; have := HK2.out; omega
      case rel => exact ⟨(wrap64 (x8_2 + 1)), (by first | rfl | (simp; done) | (simp [*]; done)), H', ⟨by have := HK1.out; have := HK2.out; omega⟩, by repeat (first | exact Drawn0.refl _ | apply Drawn0.step)⟩
     rw [if_neg c15] at H
     have c15b0 : (t120 == t117) = false := beq_eq_false_iff_ne.mpr c15
     have c15b1 : (t120 != t117) = true := bne_iff_ne.mpr c15
     simp only [Option.some.injEq, Prod.mk.injEq] at H
     obtain ⟨rfl, rfl⟩ := H
     have p118 : 0 ≤ (x8_2 : Int) := of_decide_eq_true q56x1_
     have q118 : x8_2 < (l0.length : Int) := of_decide_eq_true q56x1_
     obtain ⟨ad118, e118, hx118_0⟩ := Kd.at_int HR0.out x8_2 p118 q118
     obtain rfl : ad115 = ad118 := (by injection e118)
     replace p118 := eq_true p118
     replace q118 := eq_true q118
     have p119 : 0 ≤ (x8_2 : Int) := of_decide_eq_true q56x1_
     have q119 : x8_2 < (l1.length : Int) := of_decide_eq_true q56x1_
     obtain ⟨ad119, e119, hx119_0⟩ := Kd.at_int HR1.out x8_2 p119 q119
     obtain rfl : ad116 = ad119 := (by injection e119)
     replace p119 := eq_true p119
     replace q119 := eq_true q119
     go_wp2_with (first | (go_at_call 77; (with_reducible refine (spec_l04Floor.calls (rd l0 x8_2) (rd l1 x8_2) t120 _ A14.out).mono ?_); rintro e w' ⟨rfl, ⟨nd, rfl⟩⟩; (try first | exact ⟨rfl, _, World.drewN_drewN _ _ _⟩ | exact ⟨rfl, _, Eq.trans (World.drewN_drewN _ _ _) (congrArg (World.drewN _) (Nat.add_assoc _ _ _))⟩)) | go_quiet (first | (go_at_call 77; (with_reducible refine (spec_l04Floor.calls (rd l0 x8_2) (rd l1 x8_2) t120 _ A14.out).mono ?_); rintro e w' ⟨rfl, ⟨nd, rfl⟩⟩; (try first | exact ⟨rfl, _, World.drewN_drewN _ _ _⟩ | exact ⟨rfl, _, Eq.trans (World.drewN_drewN _ _ _) (congrArg (World.drewN _) (Nat.add_assoc _ _ _))⟩))))
     go_ret2
     exact ⟨by first | rfl | (simp; done) | (simp [*]; done), by repeat (first | exact Drawn0.refl _ | apply Drawn0.step)⟩
-- NOT PRINTED: function 57 (spec_l04Work_give)

/-! ### spec_l04Cell: function 78 -/
def spec_l04Cell.f (a0 : Int) (a1 : Int) (a2 : Int) : Option (Int × Bool) := if a1 = 0 then ((spec_l03Size.f (wrap64 ((wrap64 (a0 * a1)) + a2))).bind fun t121 => (some (wrap64 ((wrap64 (a0 * a1)) + a2), decide (t121 ≤ 1000000000000000)))) else ((spec_l03Size.f a0).bind fun t122 => ((spec_l03Size.f a1).bind fun t123 => (if t123 = 0 then (none) else (if t122 > (wrap64 (Int.tdiv (2000000000000000 : Int) t123)) then (some (0, false)) else ((spec_l03Size.f (wrap64 ((wrap64 (a0 * a1)) + a2))).bind fun t124 => (some (wrap64 ((wrap64 (a0 * a1)) + a2), decide (t124 ≤ 1000000000000000))))))))
set_option maxHeartbeats 8000000 in
set_option maxRecDepth 100000 in
theorem spec_l04Cell.calls (a0 : Int) (a1 : Int) (a2 : Int) (r1 : Int) (r2 : Bool) (w : World) (h : spec_l04Cell.f a0 a1 a2 = some (r1, r2)) :
    Calls Try.prog 78 #[.int .i64 a0, .int .i64 a1, .int .i64 a2] w fun e w' => e = .returned (.tuple #[.int .i64 r1, .bool r2]) ∧ Drawn0 w w' := by
  have H : (if a1 = 0 then ((spec_l03Size.f (wrap64 ((wrap64 (a0 * a1)) + a2))).bind fun t121 => (some (wrap64 ((wrap64 (a0 * a1)) + a2), decide (t121 ≤ 1000000000000000)))) else ((spec_l03Size.f a0).bind fun t122 => ((spec_l03Size.f a1).bind fun t123 => (if t123 = 0 then (none) else (if t122 > (wrap64 (Int.tdiv (2000000000000000 : Int) t123)) then (some (0, false)) else ((spec_l03Size.f (wrap64 ((wrap64 (a0 * a1)) + a2))).bind fun t124 => (some (wrap64 ((wrap64 (a0 * a1)) + a2), decide (t124 ≤ 1000000000000000))))))))) = some (r1, r2) := h
  clear h
  by_cases c4 : a1 = 0
  · rw [if_pos c4] at H
    have c4b0 : (a1 == 0) = true := beq_iff_eq.mpr c4
    have c4b1 : (a1 != 0) = false := bne_eq_false_iff_eq.mpr c4
    clear c4
    replace H := Option.bind_eq_some_iff.mp H
    obtain ⟨t121, A50, H⟩ := H
    replace H : (some (wrap64 ((wrap64 (a0 * a1)) + a2), decide (t121 ≤ 1000000000000000))) = some (r1, r2) := H
    have A5 := Aside0.mk A50
    clear A50
    simp only [Option.some.injEq, Prod.mk.injEq] at H
    obtain ⟨rfl, rfl⟩ := H
    go_enter Try.func78, Try.ntmps78
    go_wp2_with (first | ((with_reducible refine gate_callee (f := 73) rfl ?_); refine goesL_ (some 26) rfl rfl Try.func73 (by kernel_rfl) rfl #[.int .i64 (wrap64 ((wrap64 (a0 * a1)) + a2))] rfl (by (try simp only [List.map_toArray, List.map_cons, List.map_nil]); first | done | rfl | (simp only [List.length_drop, List.length_take]; rfl) | (simp only [List.drop_one]; done) | (simp only [List.drop_one]; rfl)) ?_; (with_reducible refine (spec_l03Size.calls (wrap64 ((wrap64 (a0 * a1)) + a2)) t121 _ A5.out).mono ?_); rintro e w' ⟨rfl, ⟨nd, rfl⟩⟩; refine ⟨_, rfl, ?_⟩))
    go_ret2
    exact ⟨by first | rfl | (simp; done) | (simp [*]; done), by repeat (first | exact Drawn0.refl _ | apply Drawn0.step)⟩
  · rw [if_neg c4] at H
    have c4b0 : (a1 == 0) = false := beq_eq_false_iff_ne.mpr c4
    have c4b1 : (a1 != 0) = true := bne_iff_ne.mpr c4
    replace H := Option.bind_eq_some_iff.mp H
    obtain ⟨t122, A60, H⟩ := H
    replace H : ((spec_l03Size.f a1).bind fun t123 => (if t123 = 0 then (none) else (if t122 > (wrap64 (Int.tdiv (2000000000000000 : Int) t123)) then (some (0, false)) else ((spec_l03Size.f (wrap64 ((wrap64 (a0 * a1)) + a2))).bind fun t124 => (some (wrap64 ((wrap64 (a0 * a1)) + a2), decide (t124 ≤ 1000000000000000))))))) = some (r1, r2) := H
    have A6 := Aside0.mk A60
    clear A60
    replace H := Option.bind_eq_some_iff.mp H
    obtain ⟨t123, A70, H⟩ := H
    replace H : (if t123 = 0 then (none) else (if t122 > (wrap64 (Int.tdiv (2000000000000000 : Int) t123)) then (some (0, false)) else ((spec_l03Size.f (wrap64 ((wrap64 (a0 * a1)) + a2))).bind fun t124 => (some (wrap64 ((wrap64 (a0 * a1)) + a2), decide (t124 ≤ 1000000000000000)))))) = some (r1, r2) := H
    have A7 := Aside0.mk A70
    clear A70
    by_cases c8 : t123 = 0
    · rw [if_pos c8] at H
      exact absurd H (by simp)
    · rw [if_neg c8] at H
      have c8b0 : (t123 == 0) = false := beq_eq_false_iff_ne.mpr c8
      have c8b1 : (t123 != 0) = true := bne_iff_ne.mpr c8
      by_cases c9 : t122 > (wrap64 (Int.tdiv (2000000000000000 : Int) t123))
      · rw [if_pos c9] at H
        have c9b0 : decide ((wrap64 (Int.tdiv (2000000000000000 : Int) t123)) < t122) = true := decide_eq_true c9
        clear c9
        simp only [Option.some.injEq, Prod.mk.injEq] at H
        obtain ⟨rfl, rfl⟩ := H
        go_enter Try.func78, Try.ntmps78
        go_wp2_with (first | (go_at_call 73; (with_reducible refine (spec_l03Size.calls a0 t122 _ A6.out).mono ?_); rintro e w' ⟨rfl, ⟨nd, rfl⟩⟩) | (go_at_call 73; (with_reducible refine (spec_l03Size.calls a1 t123 _ A7.out).mono ?_); rintro e w' ⟨rfl, ⟨nd, rfl⟩⟩))
        go_ret2
        exact ⟨by first | rfl | (simp; done) | (simp [*]; done), by repeat (first | exact Drawn0.refl _ | apply Drawn0.step)⟩
      · rw [if_neg c9] at H
        have c9b0 : decide ((wrap64 (Int.tdiv (2000000000000000 : Int) t123)) < t122) = false := decide_eq_false c9
        clear c9
        replace H := Option.bind_eq_some_iff.mp H
        obtain ⟨t124, A100, H⟩ := H
        replace H : (some (wrap64 ((wrap64 (a0 * a1)) + a2), decide (t124 ≤ 1000000000000000))) = some (r1, r2) := H
        have A10 := Aside0.mk A100
        clear A100
        simp only [Option.some.injEq, Prod.mk.injEq] at H
        obtain ⟨rfl, rfl⟩ := H
        go_enter Try.func78, Try.ntmps78
        go_wp2_with (first | (go_at_call 73; (with_reducible refine (spec_l03Size.calls a0 t122 _ A6.out).mono ?_); rintro e w' ⟨rfl, ⟨nd, rfl⟩⟩) | (go_at_call 73; (with_reducible refine (spec_l03Size.calls a1 t123 _ A7.out).mono ?_); rintro e w' ⟨rfl, ⟨nd, rfl⟩⟩) | ((with_reducible refine gate_callee (f := 73) rfl ?_); refine goesL_ (some 26) rfl rfl Try.func73 (by kernel_rfl) rfl #[.int .i64 (wrap64 ((wrap64 (a0 * a1)) + a2))] rfl (by (try simp only [List.map_toArray, List.map_cons, List.map_nil]); first | done | rfl | (simp only [List.length_drop, List.length_take]; rfl) | (simp only [List.drop_one]; done) | (simp only [List.drop_one]; rfl)) ?_; (with_reducible refine (spec_l03Size.calls (wrap64 ((wrap64 (a0 * a1)) + a2)) t124 _ A10.out).mono ?_); rintro e w' ⟨rfl, ⟨nd, rfl⟩⟩; refine ⟨_, rfl, ?_⟩))
        go_ret2
        exact ⟨by first | rfl | (simp; done) | (simp [*]; done), by repeat (first | exact Drawn0.refl _ | apply Drawn0.step)⟩

-- NOT PRINTED: function 58 (spec_l04Work_cell)

end Go.Proofs.Ytgldplkbacfacaa.MFnPairs
