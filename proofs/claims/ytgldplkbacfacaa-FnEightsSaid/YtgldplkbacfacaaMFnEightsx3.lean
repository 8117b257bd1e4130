/- Functions as Lean functions, with proofs. By a program of this session. -/
import Derived.Test.YtgldplkbacfacaaMFnEightsx0
namespace Go.Proofs.Ytgldplkbacfacaa.MFnEights
open Go.RowKit Go.Proofs.Ytgldplkbacfacaa.MOpen Go.Proofs.YtgldplkbacfacaaW.PrintWords Go.Proofs.YtgldplkbacfacaaW.PrintLast Go.Proofs.YtgldplkbacfacaaW.PrintMore
attribute [local go_sem] max2_int min2_int max_two min_two max_three min_three max_four min_four
set_option linter.unusedVariables false
set_option linter.unusedSimpArgs false
set_option maxHeartbeats 32000000
set_option maxRecDepth 100000

/-! ### spec_l03Size: function 73 -/
def spec_l03Size.f (a0 : Int) : Option (Int) := if a0 < 0 then (some (wrap64 (-a0))) else (some a0)
theorem spec_l03Size.calls (a0 : Int) (r : Int) (w : World) (h : spec_l03Size.f a0 = some r) :
    Calls Try.prog 73 #[.int .i64 a0] w fun e w' => e = .returned (.int .i64 r) ∧ Drawn0 w w' := by
  have H : (if a0 < 0 then (some (wrap64 (-a0))) else (some a0)) = some r := h
  clear h
  by_cases c2 : a0 < 0
  · rw [if_pos c2] at H
    have c2b0 : decide (a0 < 0) = true := decide_eq_true c2
    clear c2
    obtain rfl := Option.some.inj H
    go_enter Try.func73, Try.ntmps73
    go_wp2
    go_ret
    exact ⟨by first | rfl | (simp; done) | (simp [*]; done), by repeat (first | exact Drawn0.refl _ | apply Drawn0.step)⟩
  · rw [if_neg c2] at H
    have c2b0 : decide (a0 < 0) = false := decide_eq_false c2
    clear c2
    obtain rfl := Option.some.inj H
    go_enter Try.func73, Try.ntmps73
    go_wp2
    go_ret
    exact ⟨by first | rfl | (simp; done) | (simp [*]; done), by repeat (first | exact Drawn0.refl _ | apply Drawn0.step)⟩

set_option linter.defProp false

theorem q50x1_ {P : Prop} (h : P := by first | (with_reducible assumption) | assumption) : P := h
theorem q50x2_ {P : Prop} (h : P := by (try simp only [List.map_toArray, List.map_cons, List.map_nil]); first | done | rfl | (simp only [List.length_drop, List.length_take]; rfl) | (simp only [List.drop_one]; done) | (simp only [List.drop_one]; rfl)) : P := h
theorem q50x3_ {P : Prop} (h : P := by first | rfl | (simp; done) | (simp [*]; done)) : P := h
/-! ### spec_l04Terms: function 50 -/
mutual
def spec_l04Terms.j0 : Nat → List Int → Int → Bool → Option (Bool)
 | 0, _, _, _ => none
 | k + 1, x0, x3, x12 => if x12 = true then (some false) else (spec_l04Terms.l0 k x0 x3 0)
def spec_l04Terms.l0 : Nat → List Int → Int → Int → Option (Bool)
 | 0, _, _, _ => none
 | k + 1, x0, x3, x4 => if x4 < x3 then (if 0 ≤ x4 then (if x4 < (x0.length : Int) then ((spec_l03Size.f (rd x0 x4)).bind fun t102 => (if t102 > 1000000000 then (some false) else (if (rd x0 x4) < (-1000000000) then (some false) else (if x4 > 0 then (if (rd x0 x4) < 1 then (some false) else (spec_l04Terms.l0 k x0 x3 (wrap64 (x4 + 1)))) else (spec_l04Terms.l0 k x0 x3 (wrap64 (x4 + 1))))))) else (none)) else (none)) else (if x3 = 1 then (some true) else (if 0 ≤ (wrap64 (x3 - 1)) then (if (wrap64 (x3 - 1)) < (x0.length : Int) then (some (decide ((rd x0 (wrap64 (x3 - 1))) ≥ 2))) else (none)) else (none)))
end
def spec_l04Terms.f (k : Nat) (l0 : List Int) : Option (Bool) := if (l0.length : Int) < 1 then (spec_l04Terms.j0 k l0 (l0.length : Int) true) else (spec_l04Terms.j0 k l0 (l0.length : Int) (decide ((l0.length : Int) > 40)))
theorem spec_l04Terms.mono_l : ∀ k, (∀ y0 y1 y2, LeO (spec_l04Terms.j0 k y0 y1 y2) (spec_l04Terms.j0 (k + 1) y0 y1 y2)) ∧ (∀ y0 y1 y2, LeO (spec_l04Terms.l0 k y0 y1 y2) (spec_l04Terms.l0 (k + 1) y0 y1 y2))
 | 0 => ⟨fun _ _ _ r h => by simp [spec_l04Terms.j0] at h, fun _ _ _ r h => by simp [spec_l04Terms.l0] at h⟩
 | k + 1 => by
  obtain ⟨ih0, ih1⟩ := spec_l04Terms.mono_l k
  refine ⟨?_, ?_⟩
  ·intro y0 y1 y2
   unfold spec_l04Terms.j0
   repeat' first
   | (with_reducible exact ih0 _ _ _)
   | (with_reducible exact ih1 _ _ _)
   | (with_reducible exact LeO.refl _)
   | (with_reducible exact LeO.none _)
   | (with_reducible refine LeO.ite ?_ ?_)
   | (with_reducible refine LeO.bind ?_ (fun _ => ?_))
   | exact ih0 _ _ _
   | exact ih1 _ _ _
   | exact LeO.none _
   | refine LeO.ite ?_ ?_
   | refine LeO.bind ?_ (fun _ => ?_)
  intro y0 y1 y2
  unfold spec_l04Terms.l0
  repeat' first
  | (with_reducible exact ih0 _ _ _)
  | (with_reducible exact ih1 _ _ _)
  | (with_reducible exact LeO.refl _)
  | (with_reducible exact LeO.none _)
  | (with_reducible refine LeO.ite ?_ ?_)
  | (with_reducible refine LeO.bind ?_ (fun _ => ?_))
  | exact ih0 _ _ _
  | exact ih1 _ _ _
  | exact LeO.none _
  | refine LeO.ite ?_ ?_
  | refine LeO.bind ?_ (fun _ => ?_)
theorem spec_l04Terms.mono : ∀ a0 k, LeO (spec_l04Terms.f k a0) (spec_l04Terms.f (k + 1) a0) := by
 intro a0 k
 obtain ⟨ih0, ih1⟩ := spec_l04Terms.mono_l k
 unfold spec_l04Terms.f
 repeat' first
   | (with_reducible exact ih0 _ _ _)
   | (with_reducible exact ih1 _ _ _)
   | (with_reducible exact LeO.refl _)
   | (with_reducible exact LeO.none _)
   | (with_reducible refine LeO.ite ?_ ?_)
   | (with_reducible refine LeO.bind ?_ (fun _ => ?_))
   | exact ih0 _ _ _
   | exact ih1 _ _ _
   | exact LeO.none _
   | refine LeO.ite ?_ ?_
   | refine LeO.bind ?_ (fun _ => ?_)
theorem spec_l04Terms.calls (k : Nat) (A0 : Option Addr) (c0 : Nat) (l0 : List Int) (r : Bool) (w : World) (hr0 : Kd.C (Kd.int .i64) w A0 l0.length l0) (hc0 : l0.length ≤ c0) (h : spec_l04Terms.f k l0 = some r) :
  Calls Try.prog 50 #[.slice A0 l0.length c0] w fun e w' => e = .returned (.bool r) ∧ Drawn0 w w' := by
 have HR0 := Aside0.mk hr0
 have HC0 := Aside0.mk hc0
 clear hr0 hc0
 have H : (if (l0.length : Int) < 1 then (spec_l04Terms.j0 k l0 (l0.length : Int) true) else (spec_l04Terms.j0 k l0 (l0.length : Int) (decide ((l0.length : Int) > 40)))) = some r := h
 clear h
 have HC2 := Aside0.mk H
 clear H
 go_enter Try.func50, Try.ntmps50
 go_upto_region 2 with (fail)
 go_cut [12] (fun v12 wc => ∃ (kq : Nat) (x12_1 : Bool), v12 = .bool x12_1 ∧ Aside0 (spec_l04Terms.j0 kq l0 (l0.length : Int) x12_1 = some r) ∧ Aside0 (kq ≤ k) ∧ Drawn0 w wc)
 case first =>
  have H := HC2.out
  clear HC2
  by_cases c3 : (l0.length : Int) < 1
  ·rw [if_pos c3] at H
   have c3b0 : decide ((l0.length : Int) < 1) = true := decide_eq_true c3
   have c3b1 : decide (l0.length < 1) = true := decide_eq_true (by omega)
   clear c3
   (first | rw [c3b0] | (simp only [i64_w, i32_w]; rw [c3b0]) | skip)
   have H' := Aside0.mk H
   clear H
   go_wp2
   go_meet
   case rel => exact ⟨_, (true), q50x3_, H', ⟨by first | omega | exact Nat.le_refl _⟩, by repeat (first | exact Drawn0.refl _ | apply Drawn0.step)⟩
  rw [if_neg c3] at H
  have c3b0 : decide ((l0.length : Int) < 1) = false := decide_eq_false c3
  have c3b1 : decide (l0.length < 1) = false := decide_eq_false (by omega)
  clear c3
  (first | rw [c3b0] | (simp only [i64_w, i32_w]; rw [c3b0]) | skip)
  have H' := Aside0.mk H
  clear H
  go_wp2
  go_meet
  case rel => exact ⟨_, (decide ((l0.length : Int) > 40)), q50x3_, H', ⟨by first | omega | exact Nat.le_refl _⟩, by repeat (first | exact Drawn0.refl _ | apply Drawn0.step)⟩
 case rest =>
  clear HC2
  try clear p2
  try clear c3
  try clear c3b0
  try clear c3b1
  obtain ⟨kq, x12_1, rfl, HA, HJ1, ⟨mc1, rfl⟩⟩ := hcut
  cases kq with
  | zero => exact absurd HA.out (by simp [spec_l04Terms.j0])
  | succ kj1 =>
   have H := HA.out
   clear HA
   simp only [spec_l04Terms.j0] at H
   by_cases c4 : x12_1 = true
   ·subst c4
    have H1 : (some false) = some r := by rw [if_pos rfl] at H; exact H
    clear H
    have H := H1
    clear H1
    obtain rfl := Option.some.inj H
    go_wp2
    go_ret
    exact ⟨by first | rfl | (simp; done) | (simp [*]; done), by repeat (first | exact Drawn0.refl _ | apply Drawn0.step)⟩
   replace c4 := Bool.eq_false_iff.mpr c4
   subst c4
   have H1 : (spec_l04Terms.l0 kj1 l0 (l0.length : Int) 0) = some r := by rw [if_neg (show ¬ (false = true) by decide)] at H; exact H
   clear H
   have H := H1
   clear H1
   have H' := Aside0.mk H
   clear H
   go_wp2
   go_loopg [4] kj1 (fun kq v4 w' => ∃ (x4_2 : Int), v4 = .int .i64 x4_2 ∧ Aside0 (spec_l04Terms.l0 kq l0 (l0.length : Int) x4_2 = some r) ∧ Aside0 (kq ≤ kj1) ∧ Drawn0 w w')
   case atStart => exact ⟨(0), q50x3_, H', ⟨Nat.le_refl _⟩, by repeat (first | exact Drawn0.refl _ | apply Drawn0.step)⟩
   case round =>
    clear H'
    try clear c1
    try clear p2
    try clear c3
    try clear c3b0
    try clear c3b1
    try clear c4
    try clear p2
    obtain ⟨x4_2, rfl, HA, HK2, ⟨m2, rfl⟩⟩ := hrel
    cases gk with
    | zero => exact absurd HA.out (by simp [spec_l04Terms.l0])
    | succ k2 =>
     have H := HA.out
     clear HA
     simp only [spec_l04Terms.l0] at H
     by_cases c5 : x4_2 < (l0.length : Int)
     rotate_left
     ·rw [if_neg c5] at H
      have c5b0 : decide (x4_2 < (l0.length : Int)) = false := decide_eq_false c5
      clear c5
      by_cases c13 : (l0.length : Int) = 1
      ·rw [if_pos c13] at H
       have c13b0 : ((l0.length : Int) == 1) = true := beq_iff_eq.mpr c13
       have c13b1 : ((l0.length : Int) != 1) = false := bne_eq_false_iff_eq.mpr c13
       clear c13
       obtain rfl := Option.some.inj H
       go_wp2
       go_ret
       exact ⟨by first | rfl | (simp; done) | (simp [*]; done), by repeat (first | exact Drawn0.refl _ | apply Drawn0.step)⟩
      rw [if_neg c13] at H
      have c13b0 : ((l0.length : Int) == 1) = false := beq_eq_false_iff_ne.mpr c13
      have c13b1 : ((l0.length : Int) != 1) = true := bne_iff_ne.mpr c13
      obtain ⟨ji14, hji14⟩ : ∃ j_ : Int, (wrap64 ((l0.length : Int) - 1)) = j_ := ⟨_, rfl⟩
      replace H : (if 0 ≤ (ji14) then (if (ji14) < (l0.length : Int) then (some (decide ((rd l0 (ji14)) ≥ 2))) else (none)) else (none)) = some r := by first | (rw [hji14] at H; exact H) | (simp only [hji14] at H ⊢; exact H)
      have hji14w : (IntKind.i64.wrap ((l0.length : Int) - 1)) = ji14 := (i64_w _).trans hji14
      by_cases c15 : 0 ≤ (ji14)
      rotate_left
      ·rw [if_neg c15] at H
       exact absurd H (by simp)

      rw [if_pos c15] at H
      have c15b0 : decide (0 ≤ (ji14)) = true := decide_eq_true c15
      clear c15
      by_cases c16 : (ji14) < (l0.length : Int)
      rotate_left
      ·rw [if_neg c16] at H
       exact absurd H (by simp)
      rw [if_pos c16] at H
      have c16b0 : decide ((ji14) < (l0.length : Int)) = true := decide_eq_true c16
      clear c16
      obtain rfl := Option.some.inj H
      have p105 : 0 ≤ ((ji14) : Int) := of_decide_eq_true q50x1_
      have q105 : (ji14) < (l0.length : Int) := of_decide_eq_true q50x1_
      obtain ⟨ad105, e105, hx105_0⟩ := Kd.at_int HR0.out (ji14) p105 q105
      cases e105
      replace p105 := eq_true p105
      replace q105 := eq_true q105
      go_wp2
      go_ret
      exact ⟨by first | rfl | (simp; done) | (simp only [← hji14] <;> (first | rfl | simp)) | (simp [*]; done), by repeat (first | exact Drawn0.refl _ | apply Drawn0.step)⟩
     rw [if_pos c5] at H
     have c5b0 : decide (x4_2 < (l0.length : Int)) = true := decide_eq_true c5
     clear c5
     by_cases c6 : 0 ≤ x4_2
     rotate_left
     ·rw [if_neg c6] at H
      exact absurd H (by simp)
     rw [if_pos c6] at H
     have c6b0 : decide (0 ≤ x4_2) = true := decide_eq_true c6
     clear c6
     have c7 : x4_2 < (l0.length : Int) := of_decide_eq_true c5b0
     rw [if_pos c7] at H
     clear c7
     replace H := Option.bind_eq_some_iff.mp H
     obtain ⟨t102, A80, H⟩ := H
     replace H : (if t102 > 1000000000 then (some false) else (if (rd l0 x4_2) < (-1000000000) then (some false) else (if x4_2 > 0 then (if (rd l0 x4_2) < 1 then (some false) else (spec_l04Terms.l0 k2 l0 (l0.length : Int) (wrap64 (x4_2 + 1)))) else (spec_l04Terms.l0 k2 l0 (l0.length : Int) (wrap64 (x4_2 + 1)))))) = some r := H
     have A8 := Aside0.mk A80
     clear A80
     by_cases c9 : t102 > 1000000000
     ·rw [if_pos c9] at H
      have c9b0 : decide (1000000000 < t102) = true := decide_eq_true c9
      clear c9
      obtain rfl := Option.some.inj H
      have p101 : 0 ≤ (x4_2 : Int) := of_decide_eq_true q50x1_
      have q101 : x4_2 < (l0.length : Int) := of_decide_eq_true q50x1_
      obtain ⟨ad101, e101, hx101_0⟩ := Kd.at_int HR0.out x4_2 p101 q101
      cases e101
      replace p101 := eq_true p101
      replace q101 := eq_true q101
      go_wp2_with (first | ((with_reducible refine gate_callee (f := 73) rfl ?_); refine goesL_ (some 22) rfl rfl Try.func73 (by kernel_rfl) rfl #[.int .i64 (rd l0 x4_2)] rfl q50x2_ ?_; (with_reducible refine (spec_l03Size.calls (rd l0 x4_2) t102 _ A8.out).mono ?_); rintro e w' ⟨rfl, ⟨nd, rfl⟩⟩; refine ⟨_, rfl, ?_⟩))
      go_ret
      exact ⟨by first | rfl | (simp; done) | (simp [*]; done), by repeat (first | exact Drawn0.refl _ | apply Drawn0.step)⟩
     rw [if_neg c9] at H
     have c9b0 : decide (1000000000 < t102) = false := decide_eq_false c9
     clear c9
     by_cases c10 : (rd l0 x4_2) < (-1000000000)
     ·rw [if_pos c10] at H
      have c10b0 : decide ((rd l0 x4_2) < (-1000000000)) = true := decide_eq_true c10
      clear c10
      obtain rfl := Option.some.inj H
      have p101 : 0 ≤ (x4_2 : Int) := of_decide_eq_true q50x1_
      have q101 : x4_2 < (l0.length : Int) := of_decide_eq_true q50x1_
      obtain ⟨ad101, e101, hx101_0⟩ := Kd.at_int HR0.out x4_2 p101 q101
      cases e101
      replace p101 := eq_true p101
      replace q101 := eq_true q101
      go_wp2_with (first | ((with_reducible refine gate_callee (f := 73) rfl ?_); refine goesL_ (some 22) rfl rfl Try.func73 (by kernel_rfl) rfl #[.int .i64 (rd l0 x4_2)] rfl q50x2_ ?_; (with_reducible refine (spec_l03Size.calls (rd l0 x4_2) t102 _ A8.out).mono ?_); rintro e w' ⟨rfl, ⟨nd, rfl⟩⟩; refine ⟨_, rfl, ?_⟩; have p103 : 0 ≤ (x4_2 : Int) := of_decide_eq_true q50x1_; have q103 : x4_2 < (l0.length : Int) := of_decide_eq_true q50x1_; obtain ⟨ad103, e103, hx103_0⟩ := Kd.at_int HR0.out x4_2 p103 q103; obtain rfl : ad101 = ad103 := (by injection e103); replace p103 := eq_true p103; replace q103 := eq_true q103))
      go_ret
      exact ⟨by first | rfl | (simp; done) | (simp [*]; done), by repeat (first | exact Drawn0.refl _ | apply Drawn0.step)⟩
     rw [if_neg c10] at H
     have c10b0 : decide ((rd l0 x4_2) < (-1000000000)) = false := decide_eq_false c10
     clear c10
     by_cases c11 : x4_2 > 0
     rotate_left
     ·rw [if_neg c11] at H
      have c11b0 : decide (0 < x4_2) = false := decide_eq_false c11
      clear c11
      have H' := Aside0.mk H
      clear H
      have p101 : 0 ≤ (x4_2 : Int) := of_decide_eq_true q50x1_
      have q101 : x4_2 < (l0.length : Int) := of_decide_eq_true q50x1_
      obtain ⟨ad101, e101, hx101_0⟩ := Kd.at_int HR0.out x4_2 p101 q101
      cases e101
      replace p101 := eq_true p101
      replace q101 := eq_true q101
      go_wp2_with (first | ((with_reducible refine gate_callee (f := 73) rfl ?_); refine goesL_ (some 22) rfl rfl Try.func73 (by kernel_rfl) rfl #[.int .i64 (rd l0 x4_2)] rfl q50x2_ ?_; (with_reducible refine (spec_l03Size.calls (rd l0 x4_2) t102 _ A8.out).mono ?_); rintro e w' ⟨rfl, ⟨nd, rfl⟩⟩; refine ⟨_, rfl, ?_⟩; have p103 : 0 ≤ (x4_2 : Int) := of_decide_eq_true q50x1_; have q103 : x4_2 < (l0.length : Int) := of_decide_eq_true q50x1_; obtain ⟨ad103, e103, hx103_0⟩ := Kd.at_int HR0.out x4_2 p103 q103; obtain rfl : ad101 = ad103 := (by injection e103); replace p103 := eq_true p103; replace q103 := eq_true q103))
      go_roundg k2
      case measure => have := HJ1.out; have := HK2.out; omega
      case rel => exact ⟨(wrap64 (x4_2 + 1)), q50x3_, H', ⟨by have := HJ1.out; have := HK2.out; omega⟩, by repeat (first | exact Drawn0.refl _ | apply Drawn0.step)⟩
     rw [if_pos c11] at H
     have c11b0 : decide (0 < x4_2) = true := decide_eq_true c11
     clear c11
     by_cases c12 : (rd l0 x4_2) < 1
     ·rw [if_pos c12] at H
      have c12b0 : decide ((rd l0 x4_2) < 1) = true := decide_eq_true c12
      clear c12
      obtain rfl := Option.some.inj H
      have p101 : 0 ≤ (x4_2 : Int) := of_decide_eq_true q50x1_
      have q101 : x4_2 < (l0.length : Int) := of_decide_eq_true q50x1_
      obtain ⟨ad101, e101, hx101_0⟩ := Kd.at_int HR0.out x4_2 p101 q101
      cases e101
      replace p101 := eq_true p101
      replace q101 := eq_true q101
      go_wp2_with (first | ((with_reducible refine gate_callee (f := 73) rfl ?_); refine goesL_ (some 22) rfl rfl Try.func73 (by kernel_rfl) rfl #[.int .i64 (rd l0 x4_2)] rfl q50x2_ ?_; (with_reducible refine (spec_l03Size.calls (rd l0 x4_2) t102 _ A8.out).mono ?_); rintro e w' ⟨rfl, ⟨nd, rfl⟩⟩; refine ⟨_, rfl, ?_⟩; have p103 : 0 ≤ (x4_2 : Int) := of_decide_eq_true q50x1_; have q103 : x4_2 < (l0.length : Int) := of_decide_eq_true q50x1_; obtain ⟨ad103, e103, hx103_0⟩ := Kd.at_int HR0.out x4_2 p103 q103; obtain rfl : ad101 = ad103 := (by injection e103); replace p103 := eq_true p103; replace q103 := eq_true q103; have p104 : 0 ≤ (x4_2 : Int) := of_decide_eq_true q50x1_; have q104 : x4_2 < (l0.length : Int) := of_decide_eq_true q50x1_; obtain ⟨ad104, e104, hx104_0⟩ := Kd.at_int HR0.out x4_2 p104 q104; obtain rfl : ad101 = ad104 := (by injection e104); replace p104 := eq_true p104; replace q104 := eq_true q104))
      go_ret
      exact ⟨by first | rfl | (simp; done) | (simp [*]; done), by repeat (first | exact Drawn0.refl _ | apply Drawn0.step)⟩
     rw [if_neg c12] at H
     have c12b0 : decide ((rd l0 x4_2) < 1) = false := decide_eq_false c12
     clear c12
     have H' := Aside0.mk H
     clear H
     have p101 : 0 ≤ (x4_2 : Int) := of_decide_eq_true q50x1_
     have q101 : x4_2 < (l0.length : Int) := of_decide_eq_true q50x1_
     obtain ⟨ad101, e101, hx101_0⟩ := Kd.at_int HR0.out x4_2 p101 q101
     cases e101
     replace p101 := eq_true p101
     replace q101 := eq_true q101
     go_wp2_with (first | ((with_reducible refine gate_callee (f := 73) rfl ?_); refine goesL_ (some 22) rfl rfl Try.func73 (by kernel_rfl) rfl #[.int .i64 (rd l0 x4_2)] rfl q50x2_ ?_; (with_reducible refine (spec_l03Size.calls (rd l0 x4_2) t102 _ A8.out).mono ?_); rintro e w' ⟨rfl, ⟨nd, rfl⟩⟩; refine ⟨_, rfl, ?_⟩; have p103 : 0 ≤ (x4_2 : Int) := of_decide_eq_true q50x1_; have q103 : x4_2 < (l0.length : Int) := of_decide_eq_true q50x1_; obtain ⟨ad103, e103, hx103_0⟩ := Kd.at_int HR0.out x4_2 p103 q103; obtain rfl : ad101 = ad103 := (by injection e103); replace p103 := eq_true p103; replace q103 := eq_true q103; have p104 : 0 ≤ (x4_2 : Int) := of_decide_eq_true q50x1_; have q104 : x4_2 < (l0.length : Int) := of_decide_eq_true q50x1_; obtain ⟨ad104, e104, hx104_0⟩ := Kd.at_int HR0.out x4_2 p104 q104; obtain rfl : ad101 = ad104 := (by injection e104); replace p104 := eq_true p104; replace q104 := eq_true q104))
     go_roundg k2
     case measure => have := HJ1.out; have := HK2.out; omega
     case rel => exact ⟨(wrap64 (x4_2 + 1)), q50x3_, H', ⟨by have := HJ1.out; have := HK2.out; omega⟩, by repeat (first | exact Drawn0.refl _ | apply Drawn0.step)⟩
/-! ### spec_l04Work_end: function 55 -/
def spec_l04Work_end.f (k : Nat) (l0_0 : List (S52)) (l0_1 : List Int) (a0_2 : Bool) : Option (Int) := if a0_2 = true then (if (l0_1.length : Int) = 0 then (some 4) else ((spec_l04Terms.f k l0_1).bind fun t106 => (if t106 = true then (some 0) else (some 3)))) else (some 3)
theorem spec_l04Work_end.mono : ∀ a0 a1 a2 k, LeO (spec_l04Work_end.f k a0 a1 a2) (spec_l04Work_end.f (k + 1) a0 a1 a2) := by
  intro a0 a1 a2 k
  unfold spec_l04Work_end.f
  repeat' first
      | (with_reducible exact spec_l04Terms.mono _ _)
      | (with_reducible exact LeO.refl _)
      | (with_reducible exact LeO.none _)
      | (with_reducible refine LeO.ite ?_ ?_)
      | (with_reducible refine LeO.bind ?_ (fun _ => ?_))
      | exact spec_l04Terms.mono _ _
      | exact LeO.none _
      | refine LeO.ite ?_ ?_
      | refine LeO.bind ?_ (fun _ => ?_)
theorem spec_l04Work_end.calls (k : Nat) (B0_ O0_ : Nat) (A0_0 : Option Addr) (c0_0 : Nat) (l0_0 : List (S52)) (A0_1 : Option Addr) (c0_1 : Nat) (l0_1 : List Int) (a0_2 : Bool) (r : Int) (w : World) (hr0_0 : Kd.C k52 w A0_0 l0_0.length l0_0) (hc0_0 : l0_0.length ≤ c0_0) (hr0_1 : Kd.C (Kd.int .i64) w A0_1 l0_1.length l0_1) (hc0_1 : l0_1.length ≤ c0_1) (hq0_ : w.cell? ⟨B0_, O0_, none⟩ = some (.slice A0_0 l0_0.length c0_0) ∧ w.cell? ⟨B0_, O0_ + 1, none⟩ = some (.slice A0_1 l0_1.length c0_1) ∧ w.cell? ⟨B0_, O0_ + 2, none⟩ = some (.bool a0_2)) (h : spec_l04Work_end.f k l0_0 l0_1 a0_2 = some r) :
    Calls Try.prog 55 #[.pointer (some ⟨B0_, O0_, none⟩)] w fun e w' => e = .returned (.int .i64 r) ∧ Drawn0 w w' := by
  have HR0_0 := Aside0.mk hr0_0
  have HC0_0 := Aside0.mk hc0_0
  clear hr0_0 hc0_0
  have HR0_1 := Aside0.mk hr0_1
  have HC0_1 := Aside0.mk hc0_1
  clear hr0_1 hc0_1
  have HQ0_ := Aside0.mk hq0_
  clear hq0_
  have H : (if a0_2 = true then (if (l0_1.length : Int) = 0 then (some 4) else ((spec_l04Terms.f k l0_1).bind fun t106 => (if t106 = true then (some 0) else (some 3)))) else (some 3)) = some r := h
  clear h
  by_cases c2 : a0_2 = true
  · subst c2
    have H1 : (if (l0_1.length : Int) = 0 then (some 4) else ((spec_l04Terms.f k l0_1).bind fun t106 => (if t106 = true then (some 0) else (some 3)))) = some r := by rw [if_pos rfl] at H; exact H
    clear H
    have H := H1
    clear H1
    by_cases c3 : (l0_1.length : Int) = 0
    · rw [if_pos c3] at H
      have c3b0 : ((l0_1.length : Int) == 0) = true := beq_iff_eq.mpr c3
      have c3b1 : ((l0_1.length : Int) != 0) = false := bne_eq_false_iff_eq.mpr c3
      clear c3
      obtain rfl := Option.some.inj H
      obtain ⟨hxr4_0, hxr4_1, hxr4_2⟩ := HQ0_.out
      go_enter Try.func55, Try.ntmps55
      go_wp2
      go_ret
      exact ⟨by first | rfl | (simp; done) | (simp [*]; done), by repeat (first | exact Drawn0.refl _ | apply Drawn0.step)⟩
    · rw [if_neg c3] at H
      have c3b0 : ((l0_1.length : Int) == 0) = false := beq_eq_false_iff_ne.mpr c3
      have c3b1 : ((l0_1.length : Int) != 0) = true := bne_iff_ne.mpr c3
      have c3b2 : ¬ (l0_1 = []) := fun h_ => c3 (by rw [h_]; rfl)
      replace H := Option.bind_eq_some_iff.mp H
      obtain ⟨t106, A50, H⟩ := H
      replace H : (if t106 = true then (some 0) else (some 3)) = some r := H
      have A5 := Aside0.mk A50
      clear A50
      by_cases c6 : t106 = true
      · subst c6
        have H1 : (some 0) = some r := by rw [if_pos rfl] at H; exact H
        clear H
        have H := H1
        clear H1
        obtain rfl := Option.some.inj H
        obtain ⟨hxr7_0, hxr7_1, hxr7_2⟩ := HQ0_.out
        go_enter Try.func55, Try.ntmps55
        go_wp2_with (first | ((with_reducible refine gate_callee (f := 50) rfl ?_); refine goesL_ (some 18) rfl rfl Try.func50 (by kernel_rfl) rfl #[.slice A0_1 l0_1.length c0_1] rfl (by (try simp only [List.map_toArray, List.map_cons, List.map_nil]); first | done | rfl | (simp only [List.length_drop, List.length_take]; rfl) | (simp only [List.drop_one]; done) | (simp only [List.drop_one]; rfl)) ?_; (with_reducible refine (spec_l04Terms.calls k _ _ l0_1 true _ ?side1 ?side2 A5.out).mono ?_); (case side1 => repeat (first | exact HR0_1.out | (with_reducible refine Kd.C_alloc ?_ _) | (with_reducible refine Kd.C_drewN ?_ _) | (with_reducible refine Kd.C_drew ?_))); (case side2 => exact HC0_1.out); rintro e w' ⟨rfl, ⟨nd, rfl⟩⟩; refine ⟨_, rfl, ?_⟩))
        go_ret
        exact ⟨by first | rfl | (simp; done) | (simp [*]; done), by repeat (first | exact Drawn0.refl _ | apply Drawn0.step)⟩
      · replace c6 := Bool.eq_false_iff.mpr c6
        subst c6
        have H1 : (some 3) = some r := by rw [if_neg (show ¬ (false = true) by decide)] at H; exact H
        clear H
        have H := H1
        clear H1
        obtain rfl := Option.some.inj H
        obtain ⟨hxr8_0, hxr8_1, hxr8_2⟩ := HQ0_.out
        go_enter Try.func55, Try.ntmps55
        go_wp2_with (first | ((with_reducible refine gate_callee (f := 50) rfl ?_); refine goesL_ (some 18) rfl rfl Try.func50 (by kernel_rfl) rfl #[.slice A0_1 l0_1.length c0_1] rfl (by (try simp only [List.map_toArray, List.map_cons, List.map_nil]); first | done | rfl | (simp only [List.length_drop, List.length_take]; rfl) | (simp only [List.drop_one]; done) | (simp only [List.drop_one]; rfl)) ?_; (with_reducible refine (spec_l04Terms.calls k _ _ l0_1 false _ ?side1 ?side2 A5.out).mono ?_); (case side1 => repeat (first | exact HR0_1.out | (with_reducible refine Kd.C_alloc ?_ _) | (with_reducible refine Kd.C_drewN ?_ _) | (with_reducible refine Kd.C_drew ?_))); (case side2 => exact HC0_1.out); rintro e w' ⟨rfl, ⟨nd, rfl⟩⟩; refine ⟨_, rfl, ?_⟩))
        go_ret
        exact ⟨by first | rfl | (simp; done) | (simp [*]; done), by repeat (first | exact Drawn0.refl _ | apply Drawn0.step)⟩
  · replace c2 := Bool.eq_false_iff.mpr c2
    subst c2
    have H1 : (some 3) = some r := by rw [if_neg (show ¬ (false = true) by decide)] at H; exact H
    clear H
    have H := H1
    clear H1
    obtain rfl := Option.some.inj H
    obtain ⟨hxr9_0, hxr9_1, hxr9_2⟩ := HQ0_.out
    go_enter Try.func55, Try.ntmps55
    go_wp2
    go_ret
    exact ⟨by first | rfl | (simp; done) | (simp [*]; done), by repeat (first | exact Drawn0.refl _ | apply Drawn0.step)⟩

-- NOT PRINTED: function 39 (spec_l04Answer)

/-! ### spec_l00In: function 54 -/
def spec_l00In.f (a0 : Int) (a1 : Int) (a2 : Int) : Option (Bool) := if a0 ≥ a1 then (some (decide (a0 ≤ a2))) else (some false)
theorem spec_l00In.calls (a0 : Int) (a1 : Int) (a2 : Int) (r : Bool) (w : World) (h : spec_l00In.f a0 a1 a2 = some r) :
    Calls Try.prog 54 #[.int .i64 a0, .int .i64 a1, .int .i64 a2] w fun e w' => e = .returned (.bool r) ∧ Drawn0 w w' := by
  have H : (if a0 ≥ a1 then (some (decide (a0 ≤ a2))) else (some false)) = some r := h
  clear h
  by_cases c4 : a0 ≥ a1
  · rw [if_pos c4] at H
    have c4b0 : decide (a1 ≤ a0) = true := decide_eq_true c4
    clear c4
    obtain rfl := Option.some.inj H
    go_enter Try.func54, Try.ntmps54
    go_wp2
    go_ret
    exact ⟨by first | rfl | (simp; done) | (simp [*]; done), by repeat (first | exact Drawn0.refl _ | apply Drawn0.step)⟩
  · rw [if_neg c4] at H
    have c4b0 : decide (a1 ≤ a0) = false := decide_eq_false c4
    clear c4
    obtain rfl := Option.some.inj H
    go_enter Try.func54, Try.ntmps54
    go_wp2
    go_ret
    exact ⟨by first | rfl | (simp; done) | (simp [*]; done), by repeat (first | exact Drawn0.refl _ | apply Drawn0.step)⟩

set_option linter.defProp false

theorem q43x1_ {P : Prop} (h : P := by (try simp only [List.map_toArray, List.map_cons, List.map_nil]); first | done | rfl | (simp only [List.length_drop, List.length_take]; rfl) | (simp only [List.drop_one]; done) | (simp only [List.drop_one]; rfl)) : P := h
theorem q43x2_ {P : Prop} (h : P := by (obtain ⟨hz0_, hz1_, hz2_, hz3_, hz4_, hz5_, hz6_, hz7_⟩ := HQ0_.out; rcases (show x7_2 = 0 ∨ x7_2 = 1 ∨ x7_2 = 2 ∨ x7_2 = 3 from (by have h_ := HP109.out; omega)) with rfl | rfl | rfl | rfl <;> first | exact hz0_ | exact hz1_ | exact hz2_ | exact hz3_)) : P := h
theorem q43x3_ {P : Prop} (h : P := by first | (with_reducible assumption) | assumption) : P := h
theorem q43x4_ {P : Prop} (h : P := by (obtain ⟨hz0_, hz1_, hz2_, hz3_, hz4_, hz5_, hz6_, hz7_⟩ := HQ0_.out; rcases (show x7_2 = 0 ∨ x7_2 = 1 ∨ x7_2 = 2 ∨ x7_2 = 3 from (by have h_ := HP111.out; omega)) with rfl | rfl | rfl | rfl <;> first | exact hz4_ | exact hz5_ | exact hz6_ | exact hz7_)) : P := h
/-! ### spec_l04EightGiven: function 43 -/
mutual
def spec_l04EightGiven.j0 : Nat → Bool → Int → Int → Int → Int → Int → Int → Int → Int → Option (Int)
 | 0, _, _, _, _, _, _, _, _, _ => none
 | k + 1, x15, x1000, x1001, x1002, x1003, x1004, x1005, x1006, x1007 => if x15 = true then (some 1) else (spec_l04EightGiven.l0 k 0 x1000 x1001 x1002 x1003 x1004 x1005 x1006 x1007)
def spec_l04EightGiven.l0 : Nat → Int → Int → Int → Int → Int → Int → Int → Int → Int → Option (Int)
 | 0, _, _, _, _, _, _, _, _, _ => none
 | k + 1, x7, x1000, x1001, x1002, x1003, x1004, x1005, x1006, x1007 => if x7 < 4 then (if 0 ≤ x7 then ((spec_l00In.f (rd [x1000, x1001, x1002, x1003] x7) (-1000000000) 1000000000).bind fun t110 => (if t110 = true then ((spec_l00In.f (rd [x1004, x1005, x1006, x1007] x7) (-1000000000) 1000000000).bind fun t112 => (if t112 = true then (spec_l04EightGiven.l0 k (wrap64 (x7 + 1)) x1000 x1001 x1002 x1003 x1004 x1005 x1006 x1007) else (some 2))) else (some 2))) else (none)) else (some 0)
end
def spec_l04EightGiven.f (k : Nat) (a0_0 : Int) (a0_1 : Int) (a0_2 : Int) (a0_3 : Int) (a0_4 : Int) (a0_5 : Int) (a0_6 : Int) (a0_7 : Int) (l1 : List Int) (l2 : List Int) : Option (Int) := (spec_l04Terms.f k l1).bind fun t107 => (if t107 = true then ((spec_l04Terms.f k l2).bind fun t108 => (spec_l04EightGiven.j0 k (!t108) a0_0 a0_1 a0_2 a0_3 a0_4 a0_5 a0_6 a0_7)) else (spec_l04EightGiven.j0 k true a0_0 a0_1 a0_2 a0_3 a0_4 a0_5 a0_6 a0_7))
theorem spec_l04EightGiven.mono_l : ∀ k, (∀ y0 y1 y2 y3 y4 y5 y6 y7 y8, LeO (spec_l04EightGiven.j0 k y0 y1 y2 y3 y4 y5 y6 y7 y8) (spec_l04EightGiven.j0 (k + 1) y0 y1 y2 y3 y4 y5 y6 y7 y8)) ∧ (∀ y0 y1 y2 y3 y4 y5 y6 y7 y8, LeO (spec_l04EightGiven.l0 k y0 y1 y2 y3 y4 y5 y6 y7 y8) (spec_l04EightGiven.l0 (k + 1) y0 y1 y2 y3 y4 y5 y6 y7 y8))
 | 0 => ⟨fun _ _ _ _ _ _ _ _ _ r h => by simp [spec_l04EightGiven.j0] at h, fun _ _ _ _ _ _ _ _ _ r h => by simp [spec_l04EightGiven.l0] at h⟩
 | k + 1 => by
  obtain ⟨ih0, ih1⟩ := spec_l04EightGiven.mono_l k
  refine ⟨?_, ?_⟩
  ·intro y0 y1 y2 y3 y4 y5 y6 y7 y8
   unfold spec_l04EightGiven.j0
   repeat' first
   | (with_reducible exact ih0 _ _ _ _ _ _ _ _ _)
   | (with_reducible exact ih1 _ _ _ _ _ _ _ _ _)
   | (with_reducible exact spec_l04Terms.mono _ _)
   | (with_reducible exact LeO.refl _)
   | (with_reducible exact LeO.none _)
   | (with_reducible refine LeO.ite ?_ ?_)
   | (with_reducible refine LeO.bind ?_ (fun _ => ?_))
   | exact ih0 _ _ _ _ _ _ _ _ _
   | exact ih1 _ _ _ _ _ _ _ _ _
   | exact spec_l04Terms.mono _ _
   | exact LeO.none _
   | refine LeO.ite ?_ ?_
   | refine LeO.bind ?_ (fun _ => ?_)
  intro y0 y1 y2 y3 y4 y5 y6 y7 y8
  unfold spec_l04EightGiven.l0
  repeat' first
  | (with_reducible exact ih0 _ _ _ _ _ _ _ _ _)
  | (with_reducible exact ih1 _ _ _ _ _ _ _ _ _)
  | (with_reducible exact spec_l04Terms.mono _ _)
  | (with_reducible exact LeO.refl _)
  | (with_reducible exact LeO.none _)
  | (with_reducible refine LeO.ite ?_ ?_)
  | (with_reducible refine LeO.bind ?_ (fun _ => ?_))
  | exact ih0 _ _ _ _ _ _ _ _ _
  | exact ih1 _ _ _ _ _ _ _ _ _
  | exact spec_l04Terms.mono _ _
  | exact LeO.none _
  | refine LeO.ite ?_ ?_
  | refine LeO.bind ?_ (fun _ => ?_)
theorem spec_l04EightGiven.mono : ∀ a0 a1 a2 a3 a4 a5 a6 a7 a8 a9 k, LeO (spec_l04EightGiven.f k a0 a1 a2 a3 a4 a5 a6 a7 a8 a9) (spec_l04EightGiven.f (k + 1) a0 a1 a2 a3 a4 a5 a6 a7 a8 a9) := by
 intro a0 a1 a2 a3 a4 a5 a6 a7 a8 a9 k
 obtain ⟨ih0, ih1⟩ := spec_l04EightGiven.mono_l k
 unfold spec_l04EightGiven.f
 repeat' first
   | (with_reducible exact ih0 _ _ _ _ _ _ _ _ _)
   | (with_reducible exact ih1 _ _ _ _ _ _ _ _ _)
   | (with_reducible exact spec_l04Terms.mono _ _)
   | (with_reducible exact LeO.refl _)
   | (with_reducible exact LeO.none _)
   | (with_reducible refine LeO.ite ?_ ?_)
   | (with_reducible refine LeO.bind ?_ (fun _ => ?_))
   | exact ih0 _ _ _ _ _ _ _ _ _
   | exact ih1 _ _ _ _ _ _ _ _ _
   | exact spec_l04Terms.mono _ _
   | exact LeO.none _
   | refine LeO.ite ?_ ?_
   | refine LeO.bind ?_ (fun _ => ?_)
theorem spec_l04EightGiven.calls (k : Nat) (B0_ O0_ : Nat) (a0_0 : Int) (a0_1 : Int) (a0_2 : Int) (a0_3 : Int) (a0_4 : Int) (a0_5 : Int) (a0_6 : Int) (a0_7 : Int) (A1 : Option Addr) (c1 : Nat) (l1 : List Int) (A2 : Option Addr) (c2 : Nat) (l2 : List Int) (r : Int) (w : World) (hr1 : Kd.C (Kd.int .i64) w A1 l1.length l1) (hc1 : l1.length ≤ c1) (hr2 : Kd.C (Kd.int .i64) w A2 l2.length l2) (hc2 : l2.length ≤ c2) (hq0_ : w.cell? ⟨B0_, O0_, none⟩ = some (.int .i64 a0_0) ∧ w.cell? ⟨B0_, O0_ + 1, none⟩ = some (.int .i64 a0_1) ∧ w.cell? ⟨B0_, O0_ + 2, none⟩ = some (.int .i64 a0_2) ∧ w.cell? ⟨B0_, O0_ + 3, none⟩ = some (.int .i64 a0_3) ∧ w.cell? ⟨B0_, O0_ + 4, none⟩ = some (.int .i64 a0_4) ∧ w.cell? ⟨B0_, O0_ + 5, none⟩ = some (.int .i64 a0_5) ∧ w.cell? ⟨B0_, O0_ + 6, none⟩ = some (.int .i64 a0_6) ∧ w.cell? ⟨B0_, O0_ + 7, none⟩ = some (.int .i64 a0_7)) (h : spec_l04EightGiven.f k a0_0 a0_1 a0_2 a0_3 a0_4 a0_5 a0_6 a0_7 l1 l2 = some r) :
  Calls Try.prog 43 #[.pointer (some ⟨B0_, O0_, none⟩), .slice A1 l1.length c1, .slice A2 l2.length c2] w fun e w' => e = .returned (.int .i64 r) ∧ Drawn0 w w' := by
 have HR1 := Aside0.mk hr1
 have HC1 := Aside0.mk hc1
 clear hr1 hc1
 have HR2 := Aside0.mk hr2
 have HC2 := Aside0.mk hc2
 clear hr2 hc2
 have HQ0_ := Aside0.mk hq0_
 clear hq0_
 have H : ((spec_l04Terms.f k l1).bind fun t107 => (if t107 = true then ((spec_l04Terms.f k l2).bind fun t108 => (spec_l04EightGiven.j0 k (!t108) a0_0 a0_1 a0_2 a0_3 a0_4 a0_5 a0_6 a0_7)) else (spec_l04EightGiven.j0 k true a0_0 a0_1 a0_2 a0_3 a0_4 a0_5 a0_6 a0_7))) = some r := h
 clear h
 have HC4 := Aside0.mk H
 clear H
 go_enter Try.func43, Try.ntmps43
 go_upto_region 1 with (fail)
 go_cut [15] (fun v15 wc => ∃ (kq : Nat) (x15_3 : Bool), v15 = .bool x15_3 ∧ Aside0 (spec_l04EightGiven.j0 kq x15_3 a0_0 a0_1 a0_2 a0_3 a0_4 a0_5 a0_6 a0_7 = some r) ∧ Aside0 (kq ≤ k) ∧ Drawn0 w wc)
 case first =>
  have H := HC4.out
  clear HC4
  replace H := Option.bind_eq_some_iff.mp H
  obtain ⟨t107, A50, H⟩ := H
  replace H : (if t107 = true then ((spec_l04Terms.f k l2).bind fun t108 => (spec_l04EightGiven.j0 k (!t108) a0_0 a0_1 a0_2 a0_3 a0_4 a0_5 a0_6 a0_7)) else (spec_l04EightGiven.j0 k true a0_0 a0_1 a0_2 a0_3 a0_4 a0_5 a0_6 a0_7)) = some r := H
  have A5 := Aside0.mk A50
  clear A50
  by_cases c6 : t107 = true
  rotate_left
  ·replace c6 := Bool.eq_false_iff.mpr c6
   subst c6
   have H1 : (spec_l04EightGiven.j0 k true a0_0 a0_1 a0_2 a0_3 a0_4 a0_5 a0_6 a0_7) = some r := by rw [if_neg (show ¬ (false = true) by decide)] at H; exact H
   clear H
   have H := H1
   clear H1
   have H' := Aside0.mk H
   clear H
   go_wp2_with (first | ((with_reducible refine gate_callee (f := 50) rfl ?_); refine goesL_ (some 9) rfl rfl Try.func50 (by kernel_rfl) rfl #[.slice A1 l1.length c1] rfl q43x1_ ?_; (with_reducible refine (spec_l04Terms.calls k _ _ l1 false _ ?side1 ?side2 A5.out).mono ?_); (case side1 => repeat (first | exact HR1.out | (with_reducible refine Kd.C_alloc ?_ _) | (with_reducible refine Kd.C_drewN ?_ _) | (with_reducible refine Kd.C_drew ?_))); (case side2 => exact HC1.out); rintro e w' ⟨rfl, ⟨nd, rfl⟩⟩; refine ⟨_, rfl, ?_⟩))
   go_meet
   case rel => exact ⟨_, (true), (by first | rfl | (simp; done) | (simp [*]; done)), H', ⟨by first | omega | exact Nat.le_refl _⟩, by repeat (first | exact Drawn0.refl _ | apply Drawn0.step)⟩
  subst c6
  have H1 : ((spec_l04Terms.f k l2).bind fun t108 => (spec_l04EightGiven.j0 k (!t108) a0_0 a0_1 a0_2 a0_3 a0_4 a0_5 a0_6 a0_7)) = some r := by rw [if_pos rfl] at H; exact H
  clear H
  have H := H1
  clear H1
  replace H := Option.bind_eq_some_iff.mp H
  obtain ⟨t108, A70, H⟩ := H
  replace H : (spec_l04EightGiven.j0 k (!t108) a0_0 a0_1 a0_2 a0_3 a0_4 a0_5 a0_6 a0_7) = some r := H
  have A7 := Aside0.mk A70
  clear A70
  have H' := Aside0.mk H
  clear H
  go_wp2_with (first | ((with_reducible refine gate_callee (f := 50) rfl ?_); refine goesL_ (some 9) rfl rfl Try.func50 (by kernel_rfl) rfl #[.slice A1 l1.length c1] rfl q43x1_ ?_; (with_reducible refine (spec_l04Terms.calls k _ _ l1 true _ ?side1 ?side2 A5.out).mono ?_); (case side1 => repeat (first | exact HR1.out | (with_reducible refine Kd.C_alloc ?_ _) | (with_reducible refine Kd.C_drewN ?_ _) | (with_reducible refine Kd.C_drew ?_))); (case side2 => exact HC1.out); rintro e w' ⟨rfl, ⟨nd, rfl⟩⟩; refine ⟨_, rfl, ?_⟩) | (go_at_call 50; (with_reducible refine (spec_l04Terms.calls k _ _ l2 t108 _ ?side1 ?side2 A7.out).mono ?_); (case side1 => repeat (first | exact HR2.out | (with_reducible refine Kd.C_alloc ?_ _) | (with_reducible refine Kd.C_drewN ?_ _) | (with_reducible refine Kd.C_drew ?_))); (case side2 => exact HC2.out); rintro e w' ⟨rfl, ⟨nd, rfl⟩⟩))
  go_meet
  case rel => exact ⟨_, (!t108), (by first | rfl | (simp; done) | (simp [*]; done)), H', ⟨by first | omega | exact Nat.le_refl _⟩, by repeat (first | exact Drawn0.refl _ | apply Drawn0.step)⟩
 case rest =>
  clear HC4
  try clear c1
  try clear c2
  try clear p2
  try clear c4
  try clear c5
  try clear c6
  obtain ⟨kq, x15_3, rfl, HA, HJ3, ⟨mc3, rfl⟩⟩ := hcut
  cases kq with
  | zero => exact absurd HA.out (by simp [spec_l04EightGiven.j0])
  | succ kj3 =>
   have H := HA.out
   clear HA
   simp only [spec_l04EightGiven.j0] at H
   by_cases c8 : x15_3 = true
   ·subst c8
    have H1 : (some 1) = some r := by rw [if_pos rfl] at H; exact H
    clear H
    have H := H1
    clear H1
    obtain rfl := Option.some.inj H
    go_wp2
    go_ret
    exact ⟨by first | rfl | (simp; done) | (simp [*]; done), by repeat (first | exact Drawn0.refl _ | apply Drawn0.step)⟩
   replace c8 := Bool.eq_false_iff.mpr c8
   subst c8
   have H1 : (spec_l04EightGiven.l0 kj3 0 a0_0 a0_1 a0_2 a0_3 a0_4 a0_5 a0_6 a0_7) = some r := by rw [if_neg (show ¬ (false = true) by decide)] at H; exact H
   clear H
   have H := H1
   clear H1
   have H' := Aside0.mk H
   clear H
   go_wp2
   go_loopg [7] kj3 (fun kq v7 w' => ∃ (x7_2 : Int), v7 = .int .i64 x7_2 ∧ Aside0 (spec_l04EightGiven.l0 kq x7_2 a0_0 a0_1 a0_2 a0_3 a0_4 a0_5 a0_6 a0_7 = some r) ∧ Aside0 (kq ≤ kj3) ∧ Drawn0 w w')
   case atStart => exact ⟨(0), (by first | rfl | (simp; done) | (simp [*]; done)), H', ⟨Nat.le_refl _⟩, by repeat (first | exact Drawn0.refl _ | apply Drawn0.step)⟩
   case round =>
    clear H'
    try clear c1
    try clear c2
    try clear p2
    try clear c3
    try clear c4
    try clear c5
    try clear c6
    try clear c8
    try clear p2
    obtain ⟨x7_2, rfl, HA, HK2, ⟨m2, rfl⟩⟩ := hrel
    cases gk with
    | zero => exact absurd HA.out (by simp [spec_l04EightGiven.l0])
    | succ k2 =>
     have H := HA.out
     clear HA
     simp only [spec_l04EightGiven.l0] at H
     by_cases c9 : x7_2 < 4
     rotate_left
     ·rw [if_neg c9] at H
      have c9b0 : decide (x7_2 < 4) = false := decide_eq_false c9
      clear c9
      obtain rfl := Option.some.inj H
      go_wp2
      go_ret
      exact ⟨by first | rfl | (simp; done) | (simp [*]; done), by repeat (first | exact Drawn0.refl _ | apply Drawn0.step)⟩

     rw [if_pos c9] at H
     have c9b0 : decide (x7_2 < 4) = true := decide_eq_true c9
     clear c9
     by_cases c10 : 0 ≤ x7_2
     rotate_left
     ·rw [if_neg c10] at H
      exact absurd H (by simp)
     rw [if_pos c10] at H
     have c10b0 : decide (0 ≤ x7_2) = true := decide_eq_true c10
     clear c10
     replace H := Option.bind_eq_some_iff.mp H
     obtain ⟨t110, A110, H⟩ := H
     replace H : (if t110 = true then ((spec_l00In.f (rd [a0_4, a0_5, a0_6, a0_7] x7_2) (-1000000000) 1000000000).bind fun t112 => (if t112 = true then (spec_l04EightGiven.l0 k2 (wrap64 (x7_2 + 1)) a0_0 a0_1 a0_2 a0_3 a0_4 a0_5 a0_6 a0_7) else (some 2))) else (some 2)) = some r := H
     have A11 := Aside0.mk A110
     clear A110
     by_cases c12 : t110 = true
     rotate_left
     ·replace c12 := Bool.eq_false_iff.mpr c12
      subst c12
      have H1 : (some 2) = some r := by rw [if_neg (show ¬ (false = true) by decide)] at H; exact H
      clear H
      have H := H1
      clear H1
      obtain rfl := Option.some.inj H
      obtain ⟨hxr17_0, hxr17_1, hxr17_2, hxr17_3, hxr17_4, hxr17_5, hxr17_6, hxr17_7⟩ := HQ0_.out
      have HP109 := Aside0.mk (show 0 ≤ (x7_2 : Int) ∧ (x7_2 : Int) < 4 from ⟨of_decide_eq_true q43x3_, of_decide_eq_true q43x3_⟩)
      have hx109_0 : w.cell? ⟨B0_, O0_ + (x7_2 : Int).toNat, none⟩ = some (.int .i64 (rd [a0_0, a0_1, a0_2, a0_3] x7_2)) := q43x2_
      have hx109_1 : w.cell? ((⟨B0_, O0_, none⟩ : Addr).add (x7_2 : Int).toNat) = some (.int .i64 (rd [a0_0, a0_1, a0_2, a0_3] x7_2)) := (congrArg _ (add_off _ _ _)).trans hx109_0
      have hpz109 := eq_true HP109.out.1
      have hpy109 := eq_true HP109.out.2
      go_wp2_with (first | ((with_reducible refine gate_callee (f := 54) rfl ?_); refine goesL_ (some 26) rfl rfl Try.func54 (by kernel_rfl) rfl #[.int .i64 (rd [a0_0, a0_1, a0_2, a0_3] x7_2), .int .i64 (-1000000000), .int .i64 1000000000] rfl q43x1_ ?_; (with_reducible refine (spec_l00In.calls (rd [a0_0, a0_1, a0_2, a0_3] x7_2) (-1000000000) 1000000000 false _ A11.out).mono ?_); rintro e w' ⟨rfl, ⟨nd, rfl⟩⟩; refine ⟨_, rfl, ?_⟩))
      go_ret
      exact ⟨by first | rfl | (simp; done) | (simp [*]; done), by repeat (first | exact Drawn0.refl _ | apply Drawn0.step)⟩
     subst c12
     have H1 : ((spec_l00In.f (rd [a0_4, a0_5, a0_6, a0_7] x7_2) (-1000000000) 1000000000).bind fun t112 => (if t112 = true then (spec_l04EightGiven.l0 k2 (wrap64 (x7_2 + 1)) a0_0 a0_1 a0_2 a0_3 a0_4 a0_5 a0_6 a0_7) else (some 2))) = some r := by rw [if_pos rfl] at H; exact H
     clear H
     have H := H1
     clear H1
     replace H := Option.bind_eq_some_iff.mp H
     obtain ⟨t112, A130, H⟩ := H
     replace H : (if t112 = true then (spec_l04EightGiven.l0 k2 (wrap64 (x7_2 + 1)) a0_0 a0_1 a0_2 a0_3 a0_4 a0_5 a0_6 a0_7) else (some 2)) = some r := H
     have A13 := Aside0.mk A130
     clear A130
     by_cases c14 : t112 = true
     ·subst c14
      have H1 : (spec_l04EightGiven.l0 k2 (wrap64 (x7_2 + 1)) a0_0 a0_1 a0_2 a0_3 a0_4 a0_5 a0_6 a0_7) = some r := by rw [if_pos rfl] at H; exact H
      clear H
      have H := H1
      clear H1
      have H' := Aside0.mk H
      clear H
      obtain ⟨hxr15_0, hxr15_1, hxr15_2, hxr15_3, hxr15_4, hxr15_5, hxr15_6, hxr15_7⟩ := HQ0_.out
      have HP109 := Aside0.mk (show 0 ≤ (x7_2 : Int) ∧ (x7_2 : Int) < 4 from ⟨of_decide_eq_true q43x3_, of_decide_eq_true q43x3_⟩)
      have hx109_0 : w.cell? ⟨B0_, O0_ + (x7_2 : Int).toNat, none⟩ = some (.int .i64 (rd [a0_0, a0_1, a0_2, a0_3] x7_2)) := q43x2_
      have hx109_1 : w.cell? ((⟨B0_, O0_, none⟩ : Addr).add (x7_2 : Int).toNat) = some (.int .i64 (rd [a0_0, a0_1, a0_2, a0_3] x7_2)) := (congrArg _ (add_off _ _ _)).trans hx109_0
      have hpz109 := eq_true HP109.out.1
      have hpy109 := eq_true HP109.out.2
      go_wp2_with (first | ((with_reducible refine gate_callee (f := 54) rfl ?_); refine goesL_ (some 26) rfl rfl Try.func54 (by kernel_rfl) rfl #[.int .i64 (rd [a0_0, a0_1, a0_2, a0_3] x7_2), .int .i64 (-1000000000), .int .i64 1000000000] rfl q43x1_ ?_; (with_reducible refine (spec_l00In.calls (rd [a0_0, a0_1, a0_2, a0_3] x7_2) (-1000000000) 1000000000 true _ A11.out).mono ?_); rintro e w' ⟨rfl, ⟨nd, rfl⟩⟩; refine ⟨_, rfl, ?_⟩; have HP111 := Aside0.mk (show 0 ≤ (x7_2 : Int) ∧ (x7_2 : Int) < 4 from ⟨of_decide_eq_true q43x3_, of_decide_eq_true q43x3_⟩); have hx111_0 : w.cell? ⟨B0_, O0_ + 4 + (x7_2 : Int).toNat, none⟩ = some (.int .i64 (rd [a0_4, a0_5, a0_6, a0_7] x7_2)) := q43x4_; have hx111_1 : w.cell? ((⟨B0_, O0_ + 4, none⟩ : Addr).add (x7_2 : Int).toNat) = some (.int .i64 (rd [a0_4, a0_5, a0_6, a0_7] x7_2)) := (congrArg _ (add_off _ _ _)).trans hx111_0; have hpz111 := eq_true HP111.out.1; have hpy111 := eq_true HP111.out.2) | (go_at_call 54; (with_reducible refine (spec_l00In.calls (rd [a0_4, a0_5, a0_6, a0_7] x7_2) (-1000000000) 1000000000 true _ A13.out).mono ?_); rintro e w' ⟨rfl, ⟨nd, rfl⟩⟩))
      go_roundg k2
      case measure => have := HJ3.out; have := HK2.out; omega
      case rel => exact ⟨(wrap64 (x7_2 + 1)), (by first | rfl | (simp; done) | (simp [*]; done)), H', ⟨by have := HJ3.out; have := HK2.out; omega⟩, by repeat (first | exact Drawn0.refl _ | apply Drawn0.step)⟩
     replace c14 := Bool.eq_false_iff.mpr c14
     subst c14
     have H1 : (some 2) = some r := by rw [if_neg (show ¬ (false = true) by decide)] at H; exact H
     clear H
     have H := H1
     clear H1
     obtain rfl := Option.some.inj H
     obtain ⟨hxr16_0, hxr16_1, hxr16_2, hxr16_3, hxr16_4, hxr16_5, hxr16_6, hxr16_7⟩ := HQ0_.out
     have HP109 := Aside0.mk (show 0 ≤ (x7_2 : Int) ∧ (x7_2 : Int) < 4 from ⟨of_decide_eq_true q43x3_, of_decide_eq_true q43x3_⟩)
     have hx109_0 : w.cell? ⟨B0_, O0_ + (x7_2 : Int).toNat, none⟩ = some (.int .i64 (rd [a0_0, a0_1, a0_2, a0_3] x7_2)) := q43x2_
     have hx109_1 : w.cell? ((⟨B0_, O0_, none⟩ : Addr).add (x7_2 : Int).toNat) = some (.int .i64 (rd [a0_0, a0_1, a0_2, a0_3] x7_2)) := (congrArg _ (add_off _ _ _)).trans hx109_0
     have hpz109 := eq_true HP109.out.1
     have hpy109 := eq_true HP109.out.2
     go_wp2_with (first | ((with_reducible refine gate_callee (f := 54) rfl ?_); refine goesL_ (some 26) rfl rfl Try.func54 (by kernel_rfl) rfl #[.int .i64 (rd [a0_0, a0_1, a0_2, a0_3] x7_2), .int .i64 (-1000000000), .int .i64 1000000000] rfl q43x1_ ?_; (with_reducible refine (spec_l00In.calls (rd [a0_0, a0_1, a0_2, a0_3] x7_2) (-1000000000) 1000000000 true _ A11.out).mono ?_); rintro e w' ⟨rfl, ⟨nd, rfl⟩⟩; refine ⟨_, rfl, ?_⟩; have HP111 := Aside0.mk (show 0 ≤ (x7_2 : Int) ∧ (x7_2 : Int) < 4 from ⟨of_decide_eq_true q43x3_, of_decide_eq_true q43x3_⟩); have hx111_0 : w.cell? ⟨B0_, O0_ + 4 + (x7_2 : Int).toNat, none⟩ = some (.int .i64 (rd [a0_4, a0_5, a0_6, a0_7] x7_2)) := q43x4_; have hx111_1 : w.cell? ((⟨B0_, O0_ + 4, none⟩ : Addr).add (x7_2 : Int).toNat) = some (.int .i64 (rd [a0_4, a0_5, a0_6, a0_7] x7_2)) := (congrArg _ (add_off _ _ _)).trans hx111_0; have hpz111 := eq_true HP111.out.1; have hpy111 := eq_true HP111.out.2) | (go_at_call 54; (with_reducible refine (spec_l00In.calls (rd [a0_4, a0_5, a0_6, a0_7] x7_2) (-1000000000) 1000000000 false _ A13.out).mono ?_); rintro e w' ⟨rfl, ⟨nd, rfl⟩⟩))
     go_ret
     exact ⟨by first | rfl | (simp; done) | (simp [*]; done), by repeat (first | exact Drawn0.refl _ | apply Drawn0.step)⟩
/-! ### spec_l04Floor: function 77 -/
def spec_l04Floor.f (a0 : Int) (a1 : Int) : Option (Int) := if a1 = 0 then (none) else (if (Int.tmod a0 a1) = 0 then (some (wrap64 (Int.tdiv a0 a1))) else (if ((decide (a0 < 0)) != (decide (a1 < 0))) = true then (some (wrap64 ((wrap64 (Int.tdiv a0 a1)) - 1))) else (some (wrap64 (Int.tdiv a0 a1)))))
theorem spec_l04Floor.calls (a0 : Int) (a1 : Int) (r : Int) (w : World) (h : spec_l04Floor.f a0 a1 = some r) :
    Calls Try.prog 77 #[.int .i64 a0, .int .i64 a1] w fun e w' => e = .returned (.int .i64 r) ∧ Drawn0 w w' := by
  have H : (if a1 = 0 then (none) else (if (Int.tmod a0 a1) = 0 then (some (wrap64 (Int.tdiv a0 a1))) else (if ((decide (a0 < 0)) != (decide (a1 < 0))) = true then (some (wrap64 ((wrap64 (Int.tdiv a0 a1)) - 1))) else (some (wrap64 (Int.tdiv a0 a1)))))) = some r := h
  clear h
  by_cases c3 : a1 = 0
  · rw [if_pos c3] at H
    exact absurd H (by simp)
  · rw [if_neg c3] at H
    have c3b0 : (a1 == 0) = false := beq_eq_false_iff_ne.mpr c3
    have c3b1 : (a1 != 0) = true := bne_iff_ne.mpr c3
    by_cases c4 : (Int.tmod a0 a1) = 0
    · rw [if_pos c4] at H
      have c4b0 : ((Int.tmod a0 a1) == 0) = true := beq_iff_eq.mpr c4
      have c4b1 : ((Int.tmod a0 a1) != 0) = false := bne_eq_false_iff_eq.mpr c4
      clear c4
      obtain rfl := Option.some.inj H
      go_enter Try.func77, Try.ntmps77
      go_wp2
      go_ret
      exact ⟨by first | rfl | (simp; done) | (simp [*]; done), by repeat (first | exact Drawn0.refl _ | apply Drawn0.step)⟩
    · rw [if_neg c4] at H
      have c4b0 : ((Int.tmod a0 a1) == 0) = false := beq_eq_false_iff_ne.mpr c4
      have c4b1 : ((Int.tmod a0 a1) != 0) = true := bne_iff_ne.mpr c4
      by_cases c5 : ((decide (a0 < 0)) != (decide (a1 < 0))) = true
      · rw [if_pos c5] at H
        have c5b0 : ((decide (a0 < 0)) != (decide (a1 < 0))) = true := c5
        (try (have c5b1 : decide ((decide (a0 < 0)) = (decide (a1 < 0))) = false := by simpa using c5))
        (try (have c5b2 : ((decide (a0 < 0)) == (decide (a1 < 0))) = false := by simpa using c5))
        (try (have c5b3 : ¬ ((decide (a0 < 0)) = (decide (a1 < 0))) := by simpa using c5))
        clear c5
        obtain rfl := Option.some.inj H
        go_enter Try.func77, Try.ntmps77
        go_wp2
        go_ret
        exact ⟨by first | rfl | (simp; done) | (simp [*]; done), by repeat (first | exact Drawn0.refl _ | apply Drawn0.step)⟩
      · rw [if_neg c5] at H
        have c5b0 : ((decide (a0 < 0)) != (decide (a1 < 0))) = false := by simpa using c5
        (try (have c5b1 : decide ((decide (a0 < 0)) = (decide (a1 < 0))) = true := by simpa using c5))
        (try (have c5b2 : ((decide (a0 < 0)) == (decide (a1 < 0))) = true := by simpa using c5))
        clear c5
        obtain rfl := Option.some.inj H
        go_enter Try.func77, Try.ntmps77
        go_wp2
        go_ret
        exact ⟨by first | rfl | (simp; done) | (simp [*]; done), by repeat (first | exact Drawn0.refl _ | apply Drawn0.step)⟩

end Go.Proofs.Ytgldplkbacfacaa.MFnEights
