/- Functions of the program as Lean functions, and the proof that the code comes to what they say. Written by a program of this session (myprint.py). -/
import Derived.Test.YtgldplkbacfacaaMFnExactEightTermsx0
import Derived.Test.YtgldplkbacfacaaMFnExactEightTermsx1
namespace Go.Proofs.Ytgldplkbacfacaa.MFnExactEightTerms
open Go.RowKit Go.Proofs.Ytgldplkbacfacaa.MOpen Go.Proofs.YtgldplkbacfacaaW.PrintWords Go.Proofs.YtgldplkbacfacaaW.PrintLast Go.Proofs.YtgldplkbacfacaaW.PrintMore
attribute [local go_sem] max2_int min2_int max_two min_two max_three min_three max_four min_four   -- for this text's walks alone
set_option linter.unusedVariables false
set_option linter.unusedSimpArgs false

/-! ### spec_l04Work_end: function 55 -/
def spec_l04Work_end.f (k : Nat) (l0_0 : List (S52)) (l0_1 : List Int) (a0_2 : Bool) : Option (Int) := if a0_2 = true then (if (l0_1.length : Int) = 0 then (some 4) else ((spec_l04Terms.f k l0_1).bind fun t115 => (if t115 = true then (some 0) else (some 3)))) else (some 3)
theorem spec_l04Work_end.mono : ∀ a0 a1 a2 k, LeO (spec_l04Work_end.f k a0 a1 a2) (spec_l04Work_end.f (k + 1) a0 a1 a2) := by
  intro a0 a1 a2 k
  unfold spec_l04Work_end.f
  repeat' first
      | (with_reducible exact spec_l04Terms.mono _ _)
      | (with_reducible exact LeO.refl _)
      | (with_reducible exact LeO.none _)
      | (with_reducible refine LeO.ite ?_ ?_)
      | (with_reducible refine LeO.bind ?_ (fun _ => ?_))
      | exact spec_l04Terms.mono _ _
      | exact LeO.none _
      | refine LeO.ite ?_ ?_
      | refine LeO.bind ?_ (fun _ => ?_)
set_option maxHeartbeats 8000000 in
set_option maxRecDepth 100000 in
theorem spec_l04Work_end.calls (k : Nat) (B0_ O0_ : Nat) (A0_0 : Option Addr) (c0_0 : Nat) (l0_0 : List (S52)) (A0_1 : Option Addr) (c0_1 : Nat) (l0_1 : List Int) (a0_2 : Bool) (r : Int) (w : World) (hr0_0 : Kd.C k52 w A0_0 l0_0.length l0_0) (hc0_0 : l0_0.length ≤ c0_0) (hr0_1 : Kd.C (Kd.int .i64) w A0_1 l0_1.length l0_1) (hc0_1 : l0_1.length ≤ c0_1) (hq0_ : w.cell? ⟨B0_, O0_, none⟩ = some (.slice A0_0 l0_0.length c0_0) ∧ w.cell? ⟨B0_, O0_ + 1, none⟩ = some (.slice A0_1 l0_1.length c0_1) ∧ w.cell? ⟨B0_, O0_ + 2, none⟩ = some (.bool a0_2)) (h : spec_l04Work_end.f k l0_0 l0_1 a0_2 = some r) :
    Calls Try.prog 55 #[.pointer (some ⟨B0_, O0_, none⟩)] w fun e w' => e = .returned (.int .i64 r) ∧ Drawn0 w w' := by
  have HR0_0 := Aside0.mk hr0_0
  have HC0_0 := Aside0.mk hc0_0
  clear hr0_0 hc0_0
  have HR0_1 := Aside0.mk hr0_1
  have HC0_1 := Aside0.mk hc0_1
  clear hr0_1 hc0_1
  have HQ0_ := Aside0.mk hq0_
  clear hq0_
  have H : (if a0_2 = true then (if (l0_1.length : Int) = 0 then (some 4) else ((spec_l04Terms.f k l0_1).bind fun t115 => (if t115 = true then (some 0) else (some 3)))) else (some 3)) = some r := h
  clear h
  by_cases c2 : a0_2 = true
  · subst c2
    have H1 : (if (l0_1.length : Int) = 0 then (some 4) else ((spec_l04Terms.f k l0_1).bind fun t115 => (if t115 = true then (some 0) else (some 3)))) = some r := by rw [if_pos rfl] at H; exact H
    clear H
    have H := H1
    clear H1
    by_cases c3 : (l0_1.length : Int) = 0
    · rw [if_pos c3] at H
      have c3b0 : ((l0_1.length : Int) == 0) = true := beq_iff_eq.mpr c3
      have c3b1 : ((l0_1.length : Int) != 0) = false := bne_eq_false_iff_eq.mpr c3
      clear c3
      obtain rfl := Option.some.inj H
      obtain ⟨hxr4_0, hxr4_1, hxr4_2⟩ := HQ0_.out
      go_enter Try.func55, Try.ntmps55
      go_wp2
      go_ret
      exact ⟨by first | rfl | (simp; done) | (simp [*]; done), by repeat (first | exact Drawn0.refl _ | apply Drawn0.step)⟩
    · rw [if_neg c3] at H
      have c3b0 : ((l0_1.length : Int) == 0) = false := beq_eq_false_iff_ne.mpr c3
      have c3b1 : ((l0_1.length : Int) != 0) = true := bne_iff_ne.mpr c3
      have c3b2 : ¬ (l0_1 = []) := fun h_ => c3 (by rw [h_]; rfl)
      replace H := Option.bind_eq_some_iff.mp H
      obtain ⟨t115, A50, H⟩ := H
      replace H : (if t115 = true then (some 0) else (some 3)) = some r := H
      have A5 := Aside0.mk A50
      clear A50
      by_cases c6 : t115 = true
      · subst c6
        have H1 : (some 0) = some r := by rw [if_pos rfl] at H; exact H
        clear H
        have H := H1
        clear H1
        obtain rfl := Option.some.inj H
        obtain ⟨hxr7_0, hxr7_1, hxr7_2⟩ := HQ0_.out
        go_enter Try.func55, Try.ntmps55
        go_wp2_with (first | ((with_reducible refine gate_callee (f := 50) rfl ?_); refine goesL_ (some 18) rfl rfl Try.func50 (by kernel_rfl) rfl #[.slice A0_1 l0_1.length c0_1] rfl (by (try simp only [List.map_toArray, List.map_cons, List.map_nil]); first | done | rfl | (simp only [List.length_drop, List.length_take]; rfl) | (simp only [List.drop_one]; done) | (simp only [List.drop_one]; rfl)) ?_; (with_reducible refine (spec_l04Terms.calls k _ _ l0_1 true _ ?side1 ?side2 A5.out).mono ?_); (case side1 => repeat (first | exact HR0_1.out | (with_reducible refine Kd.C_alloc ?_ _) | (with_reducible refine Kd.C_drewN ?_ _) | (with_reducible refine Kd.C_drew ?_))); (case side2 => exact HC0_1.out); rintro e w' ⟨rfl, ⟨nd, rfl⟩⟩; refine ⟨_, rfl, ?_⟩))
        go_ret
        exact ⟨by first | rfl | (simp; done) | (simp [*]; done), by repeat (first | exact Drawn0.refl _ | apply Drawn0.step)⟩
      · replace c6 := Bool.eq_false_iff.mpr c6
        subst c6
        have H1 : (some 3) = some r := by rw [if_neg (show ¬ (false = true) by decide)] at H; exact H
        clear H
        have H := H1
        clear H1
        obtain rfl := Option.some.inj H
        obtain ⟨hxr8_0, hxr8_1, hxr8_2⟩ := HQ0_.out
        go_enter Try.func55, Try.ntmps55
        go_wp2_with (first | ((with_reducible refine gate_callee (f := 50) rfl ?_); refine goesL_ (some 18) rfl rfl Try.func50 (by kernel_rfl) rfl #[.slice A0_1 l0_1.length c0_1] rfl (by (try simp only [List.map_toArray, List.map_cons, List.map_nil]); first | done | rfl | (simp only [List.length_drop, List.length_take]; rfl) | (simp only [List.drop_one]; done) | (simp only [List.drop_one]; rfl)) ?_; (with_reducible refine (spec_l04Terms.calls k _ _ l0_1 false _ ?side1 ?side2 A5.out).mono ?_); (case side1 => repeat (first | exact HR0_1.out | (with_reducible refine Kd.C_alloc ?_ _) | (with_reducible refine Kd.C_drewN ?_ _) | (with_reducible refine Kd.C_drew ?_))); (case side2 => exact HC0_1.out); rintro e w' ⟨rfl, ⟨nd, rfl⟩⟩; refine ⟨_, rfl, ?_⟩))
        go_ret
        exact ⟨by first | rfl | (simp; done) | (simp [*]; done), by repeat (first | exact Drawn0.refl _ | apply Drawn0.step)⟩
  · replace c2 := Bool.eq_false_iff.mpr c2
    subst c2
    have H1 : (some 3) = some r := by rw [if_neg (show ¬ (false = true) by decide)] at H; exact H
    clear H
    have H := H1
    clear H1
    obtain rfl := Option.some.inj H
    obtain ⟨hxr9_0, hxr9_1, hxr9_2⟩ := HQ0_.out
    go_enter Try.func55, Try.ntmps55
    go_wp2
    go_ret
    exact ⟨by first | rfl | (simp; done) | (simp [*]; done), by repeat (first | exact Drawn0.refl _ | apply Drawn0.step)⟩

-- NOT PRINTED: function 39 (spec_l04Answer)

/-! ### spec_l00In: function 54 -/
def spec_l00In.f (a0 : Int) (a1 : Int) (a2 : Int) : Option (Bool) := if a0 ≥ a1 then (some (decide (a0 ≤ a2))) else (some false)
set_option maxHeartbeats 8000000 in
set_option maxRecDepth 100000 in
theorem spec_l00In.calls (a0 : Int) (a1 : Int) (a2 : Int) (r : Bool) (w : World) (h : spec_l00In.f a0 a1 a2 = some r) :
    Calls Try.prog 54 #[.int .i64 a0, .int .i64 a1, .int .i64 a2] w fun e w' => e = .returned (.bool r) ∧ Drawn0 w w' := by
  have H : (if a0 ≥ a1 then (some (decide (a0 ≤ a2))) else (some false)) = some r := h
  clear h
  by_cases c4 : a0 ≥ a1
  · rw [if_pos c4] at H
    have c4b0 : decide (a1 ≤ a0) = true := decide_eq_true c4
    clear c4
    obtain rfl := Option.some.inj H
    go_enter Try.func54, Try.ntmps54
    go_wp2
    go_ret
    exact ⟨by first | rfl | (simp; done) | (simp [*]; done), by repeat (first | exact Drawn0.refl _ | apply Drawn0.step)⟩
  · rw [if_neg c4] at H
    have c4b0 : decide (a1 ≤ a0) = false := decide_eq_false c4
    clear c4
    obtain rfl := Option.some.inj H
    go_enter Try.func54, Try.ntmps54
    go_wp2
    go_ret
    exact ⟨by first | rfl | (simp; done) | (simp [*]; done), by repeat (first | exact Drawn0.refl _ | apply Drawn0.step)⟩

/-! ### spec_l04EightGiven: function 43 -/
mutual
def spec_l04EightGiven.j0 : Nat → Bool → Int → Int → Int → Int → Int → Int → Int → Int → Option (Int)
  | 0, _, _, _, _, _, _, _, _, _ => none
  | k + 1, x15, x1000, x1001, x1002, x1003, x1004, x1005, x1006, x1007 => if x15 = true then (some 1) else (spec_l04EightGiven.l0 k 0 x1000 x1001 x1002 x1003 x1004 x1005 x1006 x1007)
def spec_l04EightGiven.l0 : Nat → Int → Int → Int → Int → Int → Int → Int → Int → Int → Option (Int)
  | 0, _, _, _, _, _, _, _, _, _ => none
  | k + 1, x7, x1000, x1001, x1002, x1003, x1004, x1005, x1006, x1007 => if x7 < 4 then (if 0 ≤ x7 then ((spec_l00In.f (rd [x1000, x1001, x1002, x1003] x7) (-1000000000) 1000000000).bind fun t119 => (if t119 = true then ((spec_l00In.f (rd [x1004, x1005, x1006, x1007] x7) (-1000000000) 1000000000).bind fun t121 => (if t121 = true then (spec_l04EightGiven.l0 k (wrap64 (x7 + 1)) x1000 x1001 x1002 x1003 x1004 x1005 x1006 x1007) else (some 2))) else (some 2))) else (none)) else (some 0)
end
def spec_l04EightGiven.f (k : Nat) (a0_0 : Int) (a0_1 : Int) (a0_2 : Int) (a0_3 : Int) (a0_4 : Int) (a0_5 : Int) (a0_6 : Int) (a0_7 : Int) (l1 : List Int) (l2 : List Int) : Option (Int) := (spec_l04Terms.f k l1).bind fun t116 => (if t116 = true then ((spec_l04Terms.f k l2).bind fun t117 => (spec_l04EightGiven.j0 k (!t117) a0_0 a0_1 a0_2 a0_3 a0_4 a0_5 a0_6 a0_7)) else (spec_l04EightGiven.j0 k true a0_0 a0_1 a0_2 a0_3 a0_4 a0_5 a0_6 a0_7))
theorem spec_l04EightGiven.mono_l : ∀ k, (∀ y0 y1 y2 y3 y4 y5 y6 y7 y8, LeO (spec_l04EightGiven.j0 k y0 y1 y2 y3 y4 y5 y6 y7 y8) (spec_l04EightGiven.j0 (k + 1) y0 y1 y2 y3 y4 y5 y6 y7 y8)) ∧ (∀ y0 y1 y2 y3 y4 y5 y6 y7 y8, LeO (spec_l04EightGiven.l0 k y0 y1 y2 y3 y4 y5 y6 y7 y8) (spec_l04EightGiven.l0 (k + 1) y0 y1 y2 y3 y4 y5 y6 y7 y8))
  | 0 => ⟨fun _ _ _ _ _ _ _ _ _ r h => by simp [spec_l04EightGiven.j0] at h, fun _ _ _ _ _ _ _ _ _ r h => by simp [spec_l04EightGiven.l0] at h⟩
  | k + 1 => by
    obtain ⟨ih0, ih1⟩ := spec_l04EightGiven.mono_l k
    refine ⟨?_, ?_⟩
    · intro y0 y1 y2 y3 y4 y5 y6 y7 y8
      unfold spec_l04EightGiven.j0
      repeat' first
      | (with_reducible exact ih0 _ _ _ _ _ _ _ _ _)
      | (with_reducible exact ih1 _ _ _ _ _ _ _ _ _)
      | (with_reducible exact spec_l04Terms.mono _ _)
      | (with_reducible exact LeO.refl _)
      | (with_reducible exact LeO.none _)
      | (with_reducible refine LeO.ite ?_ ?_)
      | (with_reducible refine LeO.bind ?_ (fun _ => ?_))
      | exact ih0 _ _ _ _ _ _ _ _ _
      | exact ih1 _ _ _ _ _ _ _ _ _
      | exact spec_l04Terms.mono _ _
      | exact LeO.none _
      | refine LeO.ite ?_ ?_
      | refine LeO.bind ?_ (fun _ => ?_)
    · intro y0 y1 y2 y3 y4 y5 y6 y7 y8
      unfold spec_l04EightGiven.l0
      repeat' first
      | (with_reducible exact ih0 _ _ _ _ _ _ _ _ _)
      | (with_reducible exact ih1 _ _ _ _ _ _ _ _ _)
      | (with_reducible exact spec_l04Terms.mono _ _)
      | (with_reducible exact LeO.refl _)
      | (with_reducible exact LeO.none _)
      | (with_reducible refine LeO.ite ?_ ?_)
      | (with_reducible refine LeO.bind ?_ (fun _ => ?_))
      | exact ih0 _ _ _ _ _ _ _ _ _
      | exact ih1 _ _ _ _ _ _ _ _ _
      | exact spec_l04Terms.mono _ _
      | exact LeO.none _
      | refine LeO.ite ?_ ?_
      | refine LeO.bind ?_ (fun _ => ?_)
theorem spec_l04EightGiven.mono : ∀ a0 a1 a2 a3 a4 a5 a6 a7 a8 a9 k, LeO (spec_l04EightGiven.f k a0 a1 a2 a3 a4 a5 a6 a7 a8 a9) (spec_l04EightGiven.f (k + 1) a0 a1 a2 a3 a4 a5 a6 a7 a8 a9) := by
  intro a0 a1 a2 a3 a4 a5 a6 a7 a8 a9 k
  obtain ⟨ih0, ih1⟩ := spec_l04EightGiven.mono_l k
  unfold spec_l04EightGiven.f
  repeat' first
      | (with_reducible exact ih0 _ _ _ _ _ _ _ _ _)
      | (with_reducible exact ih1 _ _ _ _ _ _ _ _ _)
      | (with_reducible exact spec_l04Terms.mono _ _)
      | (with_reducible exact LeO.refl _)
      | (with_reducible exact LeO.none _)
      | (with_reducible refine LeO.ite ?_ ?_)
      | (with_reducible refine LeO.bind ?_ (fun _ => ?_))
      | exact ih0 _ _ _ _ _ _ _ _ _
      | exact ih1 _ _ _ _ _ _ _ _ _
      | exact spec_l04Terms.mono _ _
      | exact LeO.none _
      | refine LeO.ite ?_ ?_
      | refine LeO.bind ?_ (fun _ => ?_)
set_option maxHeartbeats 8000000 in
set_option maxRecDepth 100000 in
theorem spec_l04EightGiven.calls (k : Nat) (B0_ O0_ : Nat) (a0_0 : Int) (a0_1 : Int) (a0_2 : Int) (a0_3 : Int) (a0_4 : Int) (a0_5 : Int) (a0_6 : Int) (a0_7 : Int) (A1 : Option Addr) (c1 : Nat) (l1 : List Int) (A2 : Option Addr) (c2 : Nat) (l2 : List Int) (r : Int) (w : World) (hr1 : Kd.C (Kd.int .i64) w A1 l1.length l1) (hc1 : l1.length ≤ c1) (hr2 : Kd.C (Kd.int .i64) w A2 l2.length l2) (hc2 : l2.length ≤ c2) (hq0_ : w.cell? ⟨B0_, O0_, none⟩ = some (.int .i64 a0_0) ∧ w.cell? ⟨B0_, O0_ + 1, none⟩ = some (.int .i64 a0_1) ∧ w.cell? ⟨B0_, O0_ + 2, none⟩ = some (.int .i64 a0_2) ∧ w.cell? ⟨B0_, O0_ + 3, none⟩ = some (.int .i64 a0_3) ∧ w.cell? ⟨B0_, O0_ + 4, none⟩ = some (.int .i64 a0_4) ∧ w.cell? ⟨B0_, O0_ + 5, none⟩ = some (.int .i64 a0_5) ∧ w.cell? ⟨B0_, O0_ + 6, none⟩ = some (.int .i64 a0_6) ∧ w.cell? ⟨B0_, O0_ + 7, none⟩ = some (.int .i64 a0_7)) (h : spec_l04EightGiven.f k a0_0 a0_1 a0_2 a0_3 a0_4 a0_5 a0_6 a0_7 l1 l2 = some r) :
    Calls Try.prog 43 #[.pointer (some ⟨B0_, O0_, none⟩), .slice A1 l1.length c1, .slice A2 l2.length c2] w fun e w' => e = .returned (.int .i64 r) ∧ Drawn0 w w' := by
  have HR1 := Aside0.mk hr1
  have HC1 := Aside0.mk hc1
  clear hr1 hc1
  have HR2 := Aside0.mk hr2
  have HC2 := Aside0.mk hc2
  clear hr2 hc2
  have HQ0_ := Aside0.mk hq0_
  clear hq0_
  have H : ((spec_l04Terms.f k l1).bind fun t116 => (if t116 = true then ((spec_l04Terms.f k l2).bind fun t117 => (spec_l04EightGiven.j0 k (!t117) a0_0 a0_1 a0_2 a0_3 a0_4 a0_5 a0_6 a0_7)) else (spec_l04EightGiven.j0 k true a0_0 a0_1 a0_2 a0_3 a0_4 a0_5 a0_6 a0_7))) = some r := h
  clear h
  have HC4 := Aside0.mk H
  clear H
  go_enter Try.func43, Try.ntmps43
  go_upto_region 1 with (fail)
  go_cut [15] (fun v15 wc => ∃ (kq : Nat) (x15_3 : Bool), v15 = .bool x15_3 ∧ Aside0 (spec_l04EightGiven.j0 kq x15_3 a0_0 a0_1 a0_2 a0_3 a0_4 a0_5 a0_6 a0_7 = some r) ∧ Aside0 (kq ≤ k) ∧ Drawn0 w wc)
  case first =>
    have H := HC4.out
    clear HC4
    replace H := Option.bind_eq_some_iff.mp H
    obtain ⟨t116, A50, H⟩ := H
    replace H : (if t116 = true then ((spec_l04Terms.f k l2).bind fun t117 => (spec_l04EightGiven.j0 k (!t117) a0_0 a0_1 a0_2 a0_3 a0_4 a0_5 a0_6 a0_7)) else (spec_l04EightGiven.j0 k true a0_0 a0_1 a0_2 a0_3 a0_4 a0_5 a0_6 a0_7)) = some r := H
    have A5 := Aside0.mk A50
    clear A50
    by_cases c6 : t116 = true
    · subst c6
      have H1 : ((spec_l04Terms.f k l2).bind fun t117 => (spec_l04EightGiven.j0 k (!t117) a0_0 a0_1 a0_2 a0_3 a0_4 a0_5 a0_6 a0_7)) = some r := by rw [if_pos rfl] at H; exact H
      clear H
      have H := H1
      clear H1
      replace H := Option.bind_eq_some_iff.mp H
      obtain ⟨t117, A70, H⟩ := H
      replace H : (spec_l04EightGiven.j0 k (!t117) a0_0 a0_1 a0_2 a0_3 a0_4 a0_5 a0_6 a0_7) = some r := H
      have A7 := Aside0.mk A70
      clear A70
      have H' := Aside0.mk H
      clear H
      go_wp2_with (first | ((with_reducible refine gate_callee (f := 50) rfl ?_); refine goesL_ (some 9) rfl rfl Try.func50 (by kernel_rfl) rfl #[.slice A1 l1.length c1] rfl (by (try simp only [List.map_toArray, List.map_cons, List.map_nil]); first | done | rfl | (simp only [List.length_drop, List.length_take]; rfl) | (simp only [List.drop_one]; done) | (simp only [List.drop_one]; rfl)) ?_; (with_reducible refine (spec_l04Terms.calls k _ _ l1 true _ ?side1 ?side2 A5.out).mono ?_); (case side1 => repeat (first | exact HR1.out | (with_reducible refine Kd.C_alloc ?_ _) | (with_reducible refine Kd.C_drewN ?_ _) | (with_reducible refine Kd.C_drew ?_))); (case side2 => exact HC1.out); rintro e w' ⟨rfl, ⟨nd, rfl⟩⟩; refine ⟨_, rfl, ?_⟩) | (go_at_call 50; (with_reducible refine (spec_l04Terms.calls k _ _ l2 t117 _ ?side1 ?side2 A7.out).mono ?_); (case side1 => repeat (first | exact HR2.out | (with_reducible refine Kd.C_alloc ?_ _) | (with_reducible refine Kd.C_drewN ?_ _) | (with_reducible refine Kd.C_drew ?_))); (case side2 => exact HC2.out); rintro e w' ⟨rfl, ⟨nd, rfl⟩⟩))
      go_meet
      case rel => exact ⟨_, (!t117), (by first | rfl | (simp; done) | (simp [*]; done)), H', ⟨by first | omega | exact Nat.le_refl _⟩, by repeat (first | exact Drawn0.refl _ | apply Drawn0.step)⟩
    · replace c6 := Bool.eq_false_iff.mpr c6
      subst c6
      have H1 : (spec_l04EightGiven.j0 k true a0_0 a0_1 a0_2 a0_3 a0_4 a0_5 a0_6 a0_7) = some r := by rw [if_neg (show ¬ (false = true) by decide)] at H; exact H
      clear H
      have H := H1
      clear H1
      have H' := Aside0.mk H
      clear H
      go_wp2_with (first | ((with_reducible refine gate_callee (f := 50) rfl ?_); refine goesL_ (some 9) rfl rfl Try.func50 (by kernel_rfl) rfl #[.slice A1 l1.length c1] rfl (by (try simp only [List.map_toArray, List.map_cons, List.map_nil]); first | done | rfl | (simp only [List.length_drop, List.length_take]; rfl) | (simp only [List.drop_one]; done) | (simp only [List.drop_one]; rfl)) ?_; (with_reducible refine (spec_l04Terms.calls k _ _ l1 false _ ?side1 ?side2 A5.out).mono ?_); (case side1 => repeat (first | exact HR1.out | (with_reducible refine Kd.C_alloc ?_ _) | (with_reducible refine Kd.C_drewN ?_ _) | (with_reducible refine Kd.C_drew ?_))); (case side2 => exact HC1.out); rintro e w' ⟨rfl, ⟨nd, rfl⟩⟩; refine ⟨_, rfl, ?_⟩))
      go_meet
      case rel => exact ⟨_, (true), (by first | rfl | (simp; done) | (simp [*]; done)), H', ⟨by first | omega | exact Nat.le_refl _⟩, by repeat (first | exact Drawn0.refl _ | apply Drawn0.step)⟩
  case rest =>
    clear HC4
    try clear c1
    try clear c2
    try clear p2
    try clear c4
    try clear c5
    try clear c6
    obtain ⟨kq, x15_3, rfl, HA, HJ3, ⟨mc3, rfl⟩⟩ := hcut
    cases kq with
    | zero => exact absurd HA.out (by simp [spec_l04EightGiven.j0])
    | succ kj3 =>
      have H := HA.out
      clear HA
      simp only [spec_l04EightGiven.j0] at H
      by_cases c8 : x15_3 = true
      · subst c8
        have H1 : (some 1) = some r := by rw [if_pos rfl] at H; exact H
        clear H
        have H := H1
        clear H1
        obtain rfl := Option.some.inj H
        go_wp2
        go_ret
        exact ⟨by first | rfl | (simp; done) | (simp [*]; done), by repeat (first | exact Drawn0.refl _ | apply Drawn0.step)⟩
      · replace c8 := Bool.eq_false_iff.mpr c8
        subst c8
        have H1 : (spec_l04EightGiven.l0 kj3 0 a0_0 a0_1 a0_2 a0_3 a0_4 a0_5 a0_6 a0_7) = some r := by rw [if_neg (show ¬ (false = true) by decide)] at H; exact H
        clear H
        have H := H1
        clear H1
        have H' := Aside0.mk H
        clear H
        go_wp2
        go_loopg [7] kj3 (fun kq v7 w' => ∃ (x7_2 : Int), v7 = .int .i64 x7_2 ∧ Aside0 (spec_l04EightGiven.l0 kq x7_2 a0_0 a0_1 a0_2 a0_3 a0_4 a0_5 a0_6 a0_7 = some r) ∧ Aside0 (kq ≤ kj3) ∧ Drawn0 w w')
        case atStart => exact ⟨(0), (by first | rfl | (simp; done) | (simp [*]; done)), H', ⟨Nat.le_refl _⟩, by repeat (first | exact Drawn0.refl _ | apply Drawn0.step)⟩
        case round =>
          clear H'
          try clear c1
          try clear c2
          try clear p2
          try clear c3
          try clear c4
          try clear c5
          try clear c6
          try clear c8
          try clear p2
          obtain ⟨x7_2, rfl, HA, HK2, ⟨m2, rfl⟩⟩ := hrel
          cases gk with
          | zero => exact absurd HA.out (by simp [spec_l04EightGiven.l0])
          | succ k2 =>
            have H := HA.out
            clear HA
            simp only [spec_l04EightGiven.l0] at H
            by_cases c9 : x7_2 < 4
            · rw [if_pos c9] at H
              have c9b0 : decide (x7_2 < 4) = true := decide_eq_true c9
              clear c9
              by_cases c10 : 0 ≤ x7_2
              · rw [if_pos c10] at H
                have c10b0 : decide (0 ≤ x7_2) = true := decide_eq_true c10
                clear c10
                replace H := Option.bind_eq_some_iff.mp H
                obtain ⟨t119, A110, H⟩ := H
                replace H : (if t119 = true then ((spec_l00In.f (rd [a0_4, a0_5, a0_6, a0_7] x7_2) (-1000000000) 1000000000).bind fun t121 => (if t121 = true then (spec_l04EightGiven.l0 k2 (wrap64 (x7_2 + 1)) a0_0 a0_1 a0_2 a0_3 a0_4 a0_5 a0_6 a0_7) else (some 2))) else (some 2)) = some r := H
                have A11 := Aside0.mk A110
                clear A110
                by_cases c12 : t119 = true
                · subst c12
                  have H1 : ((spec_l00In.f (rd [a0_4, a0_5, a0_6, a0_7] x7_2) (-1000000000) 1000000000).bind fun t121 => (if t121 = true then (spec_l04EightGiven.l0 k2 (wrap64 (x7_2 + 1)) a0_0 a0_1 a0_2 a0_3 a0_4 a0_5 a0_6 a0_7) else (some 2))) = some r := by rw [if_pos rfl] at H; exact H
                  clear H
                  have H := H1
                  clear H1
                  replace H := Option.bind_eq_some_iff.mp H
                  obtain ⟨t121, A130, H⟩ := H
                  replace H : (if t121 = true then (spec_l04EightGiven.l0 k2 (wrap64 (x7_2 + 1)) a0_0 a0_1 a0_2 a0_3 a0_4 a0_5 a0_6 a0_7) else (some 2)) = some r := H
                  have A13 := Aside0.mk A130
                  clear A130
                  by_cases c14 : t121 = true
                  · subst c14
                    have H1 : (spec_l04EightGiven.l0 k2 (wrap64 (x7_2 + 1)) a0_0 a0_1 a0_2 a0_3 a0_4 a0_5 a0_6 a0_7) = some r := by rw [if_pos rfl] at H; exact H
                    clear H
                    have H := H1
                    clear H1
                    have H' := Aside0.mk H
                    clear H
                    obtain ⟨hxr15_0, hxr15_1, hxr15_2, hxr15_3, hxr15_4, hxr15_5, hxr15_6, hxr15_7⟩ := HQ0_.out
                    have HP118 := Aside0.mk (show 0 ≤ (x7_2 : Int) ∧ (x7_2 : Int) < 4 from ⟨of_decide_eq_true (by first | (with_reducible assumption) | assumption), of_decide_eq_true (by first | (with_reducible assumption) | assumption)⟩)
                    have hx118_0 : w.cell? ⟨B0_, O0_ + (x7_2 : Int).toNat, none⟩ = some (.int .i64 (rd [a0_0, a0_1, a0_2, a0_3] x7_2)) := (by (obtain ⟨hz0_, hz1_, hz2_, hz3_, hz4_, hz5_, hz6_, hz7_⟩ := HQ0_.out; rcases (show x7_2 = 0 ∨ x7_2 = 1 ∨ x7_2 = 2 ∨ x7_2 = 3 from (by have h_ := HP118.out; omega)) with rfl | rfl | rfl | rfl <;> first | exact hz0_ | exact hz1_ | exact hz2_ | exact hz3_))
                    have hx118_1 : w.cell? ((⟨B0_, O0_, none⟩ : Addr).add (x7_2 : Int).toNat) = some (.int .i64 (rd [a0_0, a0_1, a0_2, a0_3] x7_2)) := (congrArg _ (add_off _ _ _)).trans hx118_0
                    have hpz118 := eq_true HP118.out.1
                    have hpy118 := eq_true HP118.out.2
                    go_wp2_with (first | ((with_reducible refine gate_callee (f := 54) rfl ?_); refine goesL_ (some 26) rfl rfl Try.func54 (by kernel_rfl) rfl #[.int .i64 (rd [a0_0, a0_1, a0_2, a0_3] x7_2), .int .i64 (-1000000000), .int .i64 1000000000] rfl (by (try simp only [List.map_toArray, List.map_cons, List.map_nil]); first | done | rfl | (simp only [List.length_drop, List.length_take]; rfl) | (simp only [List.drop_one]; done) | (simp only [List.drop_one]; rfl)) ?_; (with_reducible refine (spec_l00In.calls (rd [a0_0, a0_1, a0_2, a0_3] x7_2) (-1000000000) 1000000000 true _ A11.out).mono ?_); rintro e w' ⟨rfl, ⟨nd, rfl⟩⟩; refine ⟨_, rfl, ?_⟩; have HP120 := Aside0.mk (show 0 ≤ (x7_2 : Int) ∧ (x7_2 : Int) < 4 from ⟨of_decide_eq_true (by first | (with_reducible assumption) | assumption), of_decide_eq_true (by first | (with_reducible assumption) | assumption)⟩); have hx120_0 : w.cell? ⟨B0_, O0_ + 4 + (x7_2 : Int).toNat, none⟩ = some (.int .i64 (rd [a0_4, a0_5, a0_6, a0_7] x7_2)) := (by (obtain ⟨hz0_, hz1_, hz2_, hz3_, hz4_, hz5_, hz6_, hz7_⟩ := HQ0_.out; rcases (show x7_2 = 0 ∨ x7_2 = 1 ∨ x7_2 = 2 ∨ x7_2 = 3 from (by have h_ := HP120.out; omega)) with rfl | rfl | rfl | rfl <;> first | exact hz4_ | exact hz5_ | exact hz6_ | exact hz7_)); have hx120_1 : w.cell? ((⟨B0_, O0_ + 4, none⟩ : Addr).add (x7_2 : Int).toNat) = some (.int .i64 (rd [a0_4, a0_5, a0_6, a0_7] x7_2)) := (congrArg _ (add_off _ _ _)).trans hx120_0; have hpz120 := eq_true HP120.out.1; have hpy120 := eq_true HP120.out.2) | (go_at_call 54; (with_reducible refine (spec_l00In.calls (rd [a0_4, a0_5, a0_6, a0_7] x7_2) (-1000000000) 1000000000 true _ A13.out).mono ?_); rintro e w' ⟨rfl, ⟨nd, rfl⟩⟩))
                    go_roundg k2
                    case measure => have := HJ3.out; have := HK2.out; omega
                    case rel => exact ⟨(wrap64 (x7_2 + 1)), (by first | rfl | (simp; done) | (simp [*]; done)), H', ⟨by have := HJ3.out; have := HK2.out; omega⟩, by repeat (first | exact Drawn0.refl _ | apply Drawn0.step)⟩
                  · replace c14 := Bool.eq_false_iff.mpr c14
                    subst c14
                    have H1 : (some 2) = some r := by rw [if_neg (show ¬ (false = true) by decide)] at H; exact H
                    clear H
                    have H := H1
                    clear H1
                    obtain rfl := Option.some.inj H
                    obtain ⟨hxr16_0, hxr16_1, hxr16_2, hxr16_3, hxr16_4, hxr16_5, hxr16_6, hxr16_7⟩ := HQ0_.out
                    have HP118 := Aside0.mk (show 0 ≤ (x7_2 : Int) ∧ (x7_2 : Int) < 4 from ⟨of_decide_eq_true (by first | (with_reducible assumption) | assumption), of_decide_eq_true (by first | (with_reducible assumption) | assumption)⟩)
                    have hx118_0 : w.cell? ⟨B0_, O0_ + (x7_2 : Int).toNat, none⟩ = some (.int .i64 (rd [a0_0, a0_1, a0_2, a0_3] x7_2)) := (by (obtain ⟨hz0_, hz1_, hz2_, hz3_, hz4_, hz5_, hz6_, hz7_⟩ := HQ0_.out; rcases (show x7_2 = 0 ∨ x7_2 = 1 ∨ x7_2 = 2 ∨ x7_2 = 3 from (by have h_ := HP118.out; omega)) with rfl | rfl | rfl | rfl <;> first | exact hz0_ | exact hz1_ | exact hz2_ | exact hz3_))
                    have hx118_1 : w.cell? ((⟨B0_, O0_, none⟩ : Addr).add (x7_2 : Int).toNat) = some (.int .i64 (rd [a0_0, a0_1, a0_2, a0_3] x7_2)) := (congrArg _ (add_off _ _ _)).trans hx118_0
                    have hpz118 := eq_true HP118.out.1
                    have hpy118 := eq_true HP118.out.2
                    go_wp2_with (first | ((with_reducible refine gate_callee (f := 54) rfl ?_); refine goesL_ (some 26) rfl rfl Try.func54 (by kernel_rfl) rfl #[.int .i64 (rd [a0_0, a0_1, a0_2, a0_3] x7_2), .int .i64 (-1000000000), .int .i64 1000000000] rfl (by (try simp only [List.map_toArray, List.map_cons, List.map_nil]); first | done | rfl | (simp only [List.length_drop, List.length_take]; rfl) | (simp only [List.drop_one]; done) | (simp only [List.drop_one]; rfl)) ?_; (with_reducible refine (spec_l00In.calls (rd [a0_0, a0_1, a0_2, a0_3] x7_2) (-1000000000) 1000000000 true _ A11.out).mono ?_); rintro e w' ⟨rfl, ⟨nd, rfl⟩⟩; refine ⟨_, rfl, ?_⟩; have HP120 := Aside0.mk (show 0 ≤ (x7_2 : Int) ∧ (x7_2 : Int) < 4 from ⟨of_decide_eq_true (by first | (with_reducible assumption) | assumption), of_decide_eq_true (by first | (with_reducible assumption) | assumption)⟩); have hx120_0 : w.cell? ⟨B0_, O0_ + 4 + (x7_2 : Int).toNat, none⟩ = some (.int .i64 (rd [a0_4, a0_5, a0_6, a0_7] x7_2)) := (by (obtain ⟨hz0_, hz1_, hz2_, hz3_, hz4_, hz5_, hz6_, hz7_⟩ := HQ0_.out; rcases (show x7_2 = 0 ∨ x7_2 = 1 ∨ x7_2 = 2 ∨ x7_2 = 3 from (by have h_ := HP120.out; omega)) with rfl | rfl | rfl | rfl <;> first | exact hz4_ | exact hz5_ | exact hz6_ | exact hz7_)); have hx120_1 : w.cell? ((⟨B0_, O0_ + 4, none⟩ : Addr).add (x7_2 : Int).toNat) = some (.int .i64 (rd [a0_4, a0_5, a0_6, a0_7] x7_2)) := (congrArg _ (add_off _ _ _)).trans hx120_0; have hpz120 := eq_true HP120.out.1; have hpy120 := eq_true HP120.out.2) | (go_at_call 54; (with_reducible refine (spec_l00In.calls (rd [a0_4, a0_5, a0_6, a0_7] x7_2) (-1000000000) 1000000000 false _ A13.out).mono ?_); rintro e w' ⟨rfl, ⟨nd, rfl⟩⟩))
                    go_ret
                    exact ⟨by first | rfl | (simp; done) | (simp [*]; done), by repeat (first | exact Drawn0.refl _ | apply Drawn0.step)⟩
                · replace c12 := Bool.eq_false_iff.mpr c12
                  subst c12
                  have H1 : (some 2) = some r := by rw [if_neg (show ¬ (false = true) by decide)] at H; exact H
                  clear H
                  have H := H1
                  clear H1
                  obtain rfl := Option.some.inj H
                  obtain ⟨hxr17_0, hxr17_1, hxr17_2, hxr17_3, hxr17_4, hxr17_5, hxr17_6, hxr17_7⟩ := HQ0_.out
                  have HP118 := Aside0.mk (show 0 ≤ (x7_2 : Int) ∧ (x7_2 : Int) < 4 from ⟨of_decide_eq_true (by first | (with_reducible assumption) | assumption), of_decide_eq_true (by first | (with_reducible assumption) | assumption)⟩)
                  have hx118_0 : w.cell? ⟨B0_, O0_ + (x7_2 : Int).toNat, none⟩ = some (.int .i64 (rd [a0_0, a0_1, a0_2, a0_3] x7_2)) := (by (obtain ⟨hz0_, hz1_, hz2_, hz3_, hz4_, hz5_, hz6_, hz7_⟩ := HQ0_.out; rcases (show x7_2 = 0 ∨ x7_2 = 1 ∨ x7_2 = 2 ∨ x7_2 = 3 from (by have h_ := HP118.out; omega)) with rfl | rfl | rfl | rfl <;> first | exact hz0_ | exact hz1_ | exact hz2_ | exact hz3_))
                  have hx118_1 : w.cell? ((⟨B0_, O0_, none⟩ : Addr).add (x7_2 : Int).toNat) = some (.int .i64 (rd [a0_0, a0_1, a0_2, a0_3] x7_2)) := (congrArg _ (add_off _ _ _)).trans hx118_0
                  have hpz118 := eq_true HP118.out.1
                  have hpy118 := eq_true HP118.out.2
                  go_wp2_with (first | ((with_reducible refine gate_callee (f := 54) rfl ?_); refine goesL_ (some 26) rfl rfl Try.func54 (by kernel_rfl) rfl #[.int .i64 (rd [a0_0, a0_1, a0_2, a0_3] x7_2), .int .i64 (-1000000000), .int .i64 1000000000] rfl (by (try simp only [List.map_toArray, List.map_cons, List.map_nil]); first | done | rfl | (simp only [List.length_drop, List.length_take]; rfl) | (simp only [List.drop_one]; done) | (simp only [List.drop_one]; rfl)) ?_; (with_reducible refine (spec_l00In.calls (rd [a0_0, a0_1, a0_2, a0_3] x7_2) (-1000000000) 1000000000 false _ A11.out).mono ?_); rintro e w' ⟨rfl, ⟨nd, rfl⟩⟩; refine ⟨_, rfl, ?_⟩))
                  go_ret
                  exact ⟨by first | rfl | (simp; done) | (simp [*]; done), by repeat (first | exact Drawn0.refl _ | apply Drawn0.step)⟩
              · rw [if_neg c10] at H
                exact absurd H (by simp)
            · rw [if_neg c9] at H
              have c9b0 : decide (x7_2 < 4) = false := decide_eq_false c9
              clear c9
              obtain rfl := Option.some.inj H
              go_wp2
              go_ret
              exact ⟨by first | rfl | (simp; done) | (simp [*]; done), by repeat (first | exact Drawn0.refl _ | apply Drawn0.step)⟩

/-! ### spec_l04Floor: function 77 -/
def spec_l04Floor.f (a0 : Int) (a1 : Int) : Option (Int) := if a1 = 0 then (none) else (if (Int.tmod a0 a1) = 0 then (some (wrap64 (Int.tdiv a0 a1))) else (if ((decide (a0 < 0)) != (decide (a1 < 0))) = true then (some (wrap64 ((wrap64 (Int.tdiv a0 a1)) - 1))) else (some (wrap64 (Int.tdiv a0 a1)))))
set_option maxHeartbeats 8000000 in
set_option maxRecDepth 100000 in
theorem spec_l04Floor.calls (a0 : Int) (a1 : Int) (r : Int) (w : World) (h : spec_l04Floor.f a0 a1 = some r) :
    Calls Try.prog 77 #[.int .i64 a0, .int .i64 a1] w fun e w' => e = .returned (.int .i64 r) ∧ Drawn0 w w' := by
  have H : (if a1 = 0 then (none) else (if (Int.tmod a0 a1) = 0 then (some (wrap64 (Int.tdiv a0 a1))) else (if ((decide (a0 < 0)) != (decide (a1 < 0))) = true then (some (wrap64 ((wrap64 (Int.tdiv a0 a1)) - 1))) else (some (wrap64 (Int.tdiv a0 a1)))))) = some r := h
  clear h
  by_cases c3 : a1 = 0
  · rw [if_pos c3] at H
    exact absurd H (by simp)
  · rw [if_neg c3] at H
    have c3b0 : (a1 == 0) = false := beq_eq_false_iff_ne.mpr c3
    have c3b1 : (a1 != 0) = true := bne_iff_ne.mpr c3
    by_cases c4 : (Int.tmod a0 a1) = 0
    · rw [if_pos c4] at H
      have c4b0 : ((Int.tmod a0 a1) == 0) = true := beq_iff_eq.mpr c4
      have c4b1 : ((Int.tmod a0 a1) != 0) = false := bne_eq_false_iff_eq.mpr c4
      clear c4
      obtain rfl := Option.some.inj H
      go_enter Try.func77, Try.ntmps77
      go_wp2
      go_ret
      exact ⟨by first | rfl | (simp; done) | (simp [*]; done), by repeat (first | exact Drawn0.refl _ | apply Drawn0.step)⟩
    · rw [if_neg c4] at H
      have c4b0 : ((Int.tmod a0 a1) == 0) = false := beq_eq_false_iff_ne.mpr c4
      have c4b1 : ((Int.tmod a0 a1) != 0) = true := bne_iff_ne.mpr c4
      by_cases c5 : ((decide (a0 < 0)) != (decide (a1 < 0))) = true
      · rw [if_pos c5] at H
        have c5b0 : ((decide (a0 < 0)) != (decide (a1 < 0))) = true := c5
        (try (have c5b1 : decide ((decide (a0 < 0)) = (decide (a1 < 0))) = false := by simpa using c5))
        (try (have c5b2 : ((decide (a0 < 0)) == (decide (a1 < 0))) = false := by simpa using c5))
        (try (have c5b3 : ¬ ((decide (a0 < 0)) = (decide (a1 < 0))) := by simpa using c5))
        clear c5
        obtain rfl := Option.some.inj H
        go_enter Try.func77, Try.ntmps77
        go_wp2
        go_ret
        exact ⟨by first | rfl | (simp; done) | (simp [*]; done), by repeat (first | exact Drawn0.refl _ | apply Drawn0.step)⟩
      · rw [if_neg c5] at H
        have c5b0 : ((decide (a0 < 0)) != (decide (a1 < 0))) = false := by simpa using c5
        (try (have c5b1 : decide ((decide (a0 < 0)) = (decide (a1 < 0))) = true := by simpa using c5))
        (try (have c5b2 : ((decide (a0 < 0)) == (decide (a1 < 0))) = true := by simpa using c5))
        clear c5
        obtain rfl := Option.some.inj H
        go_enter Try.func77, Try.ntmps77
        go_wp2
        go_ret
        exact ⟨by first | rfl | (simp; done) | (simp [*]; done), by repeat (first | exact Drawn0.refl _ | apply Drawn0.step)⟩

/-! ### spec_l04Alike: function 56 -/
mutual
def spec_l04Alike.l0 : Nat → List Int → List Int → Int → Option (Int × Bool)
  | 0, _, _, _ => none
  | k + 1, x0, x1, x6 => if x6 < (x1.length : Int) then (if 0 ≤ x6 then (if (rd x1 x6) = 0 then (some (0, false)) else (if 0 < (x1.length : Int) then (if ((decide ((rd x1 x6) > 0)) != (decide ((rd x1 0) > 0))) = true then (some (0, false)) else (spec_l04Alike.l0 k x0 x1 (wrap64 (x6 + 1)))) else (none))) else (none)) else (if 0 < (x0.length : Int) then (if 0 < (x1.length : Int) then ((spec_l04Floor.f (rd x0 0) (rd x1 0)).bind fun t127 => (spec_l04Alike.l1 k x0 x1 t127 1)) else (none)) else (none))
def spec_l04Alike.l1 : Nat → List Int → List Int → Int → Int → Option (Int × Bool)
  | 0, _, _, _, _ => none
  | k + 1, x0, x1, x7, x8 => if x8 < (x1.length : Int) then (if 0 ≤ x8 then (if x8 < (x0.length : Int) then ((spec_l04Floor.f (rd x0 x8) (rd x1 x8)).bind fun t130 => (if t130 = x7 then (spec_l04Alike.l1 k x0 x1 x7 (wrap64 (x8 + 1))) else (some (0, false)))) else (none)) else (none)) else (some (x7, true))
end
def spec_l04Alike.f (k : Nat) (l0 : List Int) (l1 : List Int) : Option (Int × Bool) := spec_l04Alike.l0 k l0 l1 0
theorem spec_l04Alike.mono_l : ∀ k, (∀ y0 y1 y2, LeO (spec_l04Alike.l0 k y0 y1 y2) (spec_l04Alike.l0 (k + 1) y0 y1 y2)) ∧ (∀ y0 y1 y2 y3, LeO (spec_l04Alike.l1 k y0 y1 y2 y3) (spec_l04Alike.l1 (k + 1) y0 y1 y2 y3))
  | 0 => ⟨fun _ _ _ r h => by simp [spec_l04Alike.l0] at h, fun _ _ _ _ r h => by simp [spec_l04Alike.l1] at h⟩
  | k + 1 => by
    obtain ⟨ih0, ih1⟩ := spec_l04Alike.mono_l k
    refine ⟨?_, ?_⟩
    · intro y0 y1 y2
      unfold spec_l04Alike.l0
      repeat' first
      | (with_reducible exact ih0 _ _ _)
      | (with_reducible exact ih1 _ _ _ _)
      | (with_reducible exact LeO.refl _)
      | (with_reducible exact LeO.none _)
      | (with_reducible refine LeO.ite ?_ ?_)
      | (with_reducible refine LeO.bind ?_ (fun _ => ?_))
      | exact ih0 _ _ _
      | exact ih1 _ _ _ _
      | exact LeO.none _
      | refine LeO.ite ?_ ?_
      | refine LeO.bind ?_ (fun _ => ?_)
    · intro y0 y1 y2 y3
      unfold spec_l04Alike.l1
      repeat' first
      | (with_reducible exact ih0 _ _ _)
      | (with_reducible exact ih1 _ _ _ _)
      | (with_reducible exact LeO.refl _)
      | (with_reducible exact LeO.none _)
      | (with_reducible refine LeO.ite ?_ ?_)
      | (with_reducible refine LeO.bind ?_ (fun _ => ?_))
      | exact ih0 _ _ _
      | exact ih1 _ _ _ _
      | exact LeO.none _
      | refine LeO.ite ?_ ?_
      | refine LeO.bind ?_ (fun _ => ?_)
theorem spec_l04Alike.mono : ∀ a0 a1 k, LeO (spec_l04Alike.f k a0 a1) (spec_l04Alike.f (k + 1) a0 a1) := by
  intro a0 a1 k
  obtain ⟨ih0, ih1⟩ := spec_l04Alike.mono_l k
  unfold spec_l04Alike.f
  repeat' first
      | (with_reducible exact ih0 _ _ _)
      | (with_reducible exact ih1 _ _ _ _)
      | (with_reducible exact LeO.refl _)
      | (with_reducible exact LeO.none _)
      | (with_reducible refine LeO.ite ?_ ?_)
      | (with_reducible refine LeO.bind ?_ (fun _ => ?_))
      | exact ih0 _ _ _
      | exact ih1 _ _ _ _
      | exact LeO.none _
      | refine LeO.ite ?_ ?_
      | refine LeO.bind ?_ (fun _ => ?_)
set_option maxHeartbeats 8000000 in
set_option maxRecDepth 100000 in
theorem spec_l04Alike.calls (k : Nat) (A0 : Option Addr) (c0 : Nat) (l0 : List Int) (A1 : Option Addr) (c1 : Nat) (l1 : List Int) (r1 : Int) (r2 : Bool) (w : World) (hr0 : Kd.C (Kd.int .i64) w A0 l0.length l0) (hc0 : l0.length ≤ c0) (hr1 : Kd.C (Kd.int .i64) w A1 l1.length l1) (hc1 : l1.length ≤ c1) (h : spec_l04Alike.f k l0 l1 = some (r1, r2)) :
    Calls Try.prog 56 #[.slice A0 l0.length c0, .slice A1 l1.length c1] w fun e w' => e = .returned (.tuple #[.int .i64 r1, .bool r2]) ∧ Drawn0 w w' := by
  have HR0 := Aside0.mk hr0
  have HC0 := Aside0.mk hc0
  clear hr0 hc0
  have HR1 := Aside0.mk hr1
  have HC1 := Aside0.mk hc1
  clear hr1 hc1
  have H : (spec_l04Alike.l0 k l0 l1 0) = some (r1, r2) := h
  clear h
  have H' := Aside0.mk H
  clear H
  go_enter Try.func56, Try.ntmps56
  go_wp2
  repeat (go_quiet (fail); try go_wp2)
  go_loopg [6] k (fun kq v6 w' => ∃ (x6_1 : Int), v6 = .int .i64 x6_1 ∧ Aside0 (spec_l04Alike.l0 kq l0 l1 x6_1 = some (r1, r2)) ∧ Aside0 (kq ≤ k) ∧ Drawn0 w w')
  case atStart => exact ⟨(0), (by first | rfl | (simp; done) | (simp [*]; done)), H', ⟨Nat.le_refl _⟩, by repeat (first | exact Drawn0.refl _ | apply Drawn0.step)⟩
  case round =>
    clear H'
    try clear c1
    try clear p2
    obtain ⟨x6_1, rfl, HA, HK1, ⟨m1, rfl⟩⟩ := hrel
    cases gk with
    | zero => exact absurd HA.out (by simp [spec_l04Alike.l0])
    | succ k1 =>
      have H := HA.out
      clear HA
      simp only [spec_l04Alike.l0] at H
      by_cases c3 : x6_1 < (l1.length : Int)
      · rw [if_pos c3] at H
        have c3b0 : decide (x6_1 < (l1.length : Int)) = true := decide_eq_true c3
        clear c3
        by_cases c4 : 0 ≤ x6_1
        · rw [if_pos c4] at H
          have c4b0 : decide (0 ≤ x6_1) = true := decide_eq_true c4
          clear c4
          by_cases c5 : (rd l1 x6_1) = 0
          · rw [if_pos c5] at H
            have c5b0 : ((rd l1 x6_1) == 0) = true := beq_iff_eq.mpr c5
            have c5b1 : ((rd l1 x6_1) != 0) = false := bne_eq_false_iff_eq.mpr c5
            clear c5
            simp only [Option.some.injEq, Prod.mk.injEq] at H
            obtain ⟨rfl, rfl⟩ := H
            have p122 : 0 ≤ (x6_1 : Int) := of_decide_eq_true (by first | (with_reducible assumption) | assumption)
            have q122 : x6_1 < (l1.length : Int) := of_decide_eq_true (by first | (with_reducible assumption) | assumption)
            obtain ⟨ad122, e122, hx122_0⟩ := Kd.at_int HR1.out x6_1 p122 q122
            cases e122
            replace p122 := eq_true p122
            replace q122 := eq_true q122
            go_wp2
            repeat (go_quiet (fail); try go_wp2)
            go_ret2
            exact ⟨by first | rfl | (simp; done) | (simp [*]; done), by repeat (first | exact Drawn0.refl _ | apply Drawn0.step)⟩
          · rw [if_neg c5] at H
            have c5b0 : ((rd l1 x6_1) == 0) = false := beq_eq_false_iff_ne.mpr c5
            have c5b1 : ((rd l1 x6_1) != 0) = true := bne_iff_ne.mpr c5
            by_cases c6 : 0 < (l1.length : Int)
            · rw [if_pos c6] at H
              have c6b0 : decide (0 < (l1.length : Int)) = true := decide_eq_true c6
              have c6b1 : decide (0 < l1.length) = true := decide_eq_true (by omega)
              clear c6
              by_cases c7 : ((decide ((rd l1 x6_1) > 0)) != (decide ((rd l1 0) > 0))) = true
              · rw [if_pos c7] at H
                have c7b0 : ((decide ((rd l1 x6_1) > 0)) != (decide ((rd l1 0) > 0))) = true := c7
                (try (have c7b1 : decide ((decide ((rd l1 x6_1) > 0)) = (decide ((rd l1 0) > 0))) = false := by simpa using c7))
                (try (have c7b2 : ((decide ((rd l1 x6_1) > 0)) == (decide ((rd l1 0) > 0))) = false := by simpa using c7))
                (try (have c7b3 : ¬ ((decide ((rd l1 x6_1) > 0)) = (decide ((rd l1 0) > 0))) := by simpa using c7))
                clear c7
                simp only [Option.some.injEq, Prod.mk.injEq] at H
                obtain ⟨rfl, rfl⟩ := H
                have p122 : 0 ≤ (x6_1 : Int) := of_decide_eq_true (by first | (with_reducible assumption) | assumption)
                have q122 : x6_1 < (l1.length : Int) := of_decide_eq_true (by first | (with_reducible assumption) | assumption)
                obtain ⟨ad122, e122, hx122_0⟩ := Kd.at_int HR1.out x6_1 p122 q122
                cases e122
                replace p122 := eq_true p122
                replace q122 := eq_true q122
                have p123 : 0 ≤ (x6_1 : Int) := of_decide_eq_true (by first | (with_reducible assumption) | assumption)
                have q123 : x6_1 < (l1.length : Int) := of_decide_eq_true (by first | (with_reducible assumption) | assumption)
                obtain ⟨ad123, e123, hx123_0⟩ := Kd.at_int HR1.out x6_1 p123 q123
                obtain rfl : ad122 = ad123 := (by injection e123)
                replace p123 := eq_true p123
                replace q123 := eq_true q123
                have p124 : 0 ≤ (0 : Int) := (by omega)
                have q124 : 0 < (l1.length : Int) := of_decide_eq_true (by first | (with_reducible assumption) | assumption)
                obtain ⟨ad124, e124, hx124_0⟩ := Kd.at_int HR1.out 0 p124 q124
                obtain rfl : ad122 = ad124 := (by injection e124)
                have qi124 : (0 < l1.length) = True := eq_true (by omega)
                (try rw [show ((0 : Int)).toNat = 0 from rfl] at hx124_0)
                (try rw [Addr.add_zero'] at hx124_0)
                replace p124 := eq_true p124
                replace q124 := eq_true q124
                go_wp2
                repeat (go_quiet (fail); try go_wp2)
                go_ret2
                exact ⟨by first | rfl | (simp; done) | (simp [*]; done), by repeat (first | exact Drawn0.refl _ | apply Drawn0.step)⟩
              · rw [if_neg c7] at H
                have c7b0 : ((decide ((rd l1 x6_1) > 0)) != (decide ((rd l1 0) > 0))) = false := by simpa using c7
                (try (have c7b1 : decide ((decide ((rd l1 x6_1) > 0)) = (decide ((rd l1 0) > 0))) = true := by simpa using c7))
                (try (have c7b2 : ((decide ((rd l1 x6_1) > 0)) == (decide ((rd l1 0) > 0))) = true := by simpa using c7))
                clear c7
                have H' := Aside0.mk H
                clear H
                have p122 : 0 ≤ (x6_1 : Int) := of_decide_eq_true (by first | (with_reducible assumption) | assumption)
                have q122 : x6_1 < (l1.length : Int) := of_decide_eq_true (by first | (with_reducible assumption) | assumption)
                obtain ⟨ad122, e122, hx122_0⟩ := Kd.at_int HR1.out x6_1 p122 q122
                cases e122
                replace p122 := eq_true p122
                replace q122 := eq_true q122
                have p123 : 0 ≤ (x6_1 : Int) := of_decide_eq_true (by first | (with_reducible assumption) | assumption)
                have q123 : x6_1 < (l1.length : Int) := of_decide_eq_true (by first | (with_reducible assumption) | assumption)
                obtain ⟨ad123, e123, hx123_0⟩ := Kd.at_int HR1.out x6_1 p123 q123
                obtain rfl : ad122 = ad123 := (by injection e123)
                replace p123 := eq_true p123
                replace q123 := eq_true q123
                have p124 : 0 ≤ (0 : Int) := (by omega)
                have q124 : 0 < (l1.length : Int) := of_decide_eq_true (by first | (with_reducible assumption) | assumption)
                obtain ⟨ad124, e124, hx124_0⟩ := Kd.at_int HR1.out 0 p124 q124
                obtain rfl : ad122 = ad124 := (by injection e124)
                have qi124 : (0 < l1.length) = True := eq_true (by omega)
                (try rw [show ((0 : Int)).toNat = 0 from rfl] at hx124_0)
                (try rw [Addr.add_zero'] at hx124_0)
                replace p124 := eq_true p124
                replace q124 := eq_true q124
                go_wp2
                repeat (go_quiet (fail); try go_wp2)
                go_roundg k1
                case measure => have := HK1.out; omega
                case rel => exact ⟨(wrap64 (x6_1 + 1)), (by first | rfl | (simp; done) | (simp [*]; done)), H', ⟨by have := HK1.out; omega⟩, by repeat (first | exact Drawn0.refl _ | apply Drawn0.step)⟩
            · rw [if_neg c6] at H
              exact absurd H (by simp)
        · rw [if_neg c4] at H
          exact absurd H (by simp)
      · rw [if_neg c3] at H
        have c3b0 : decide (x6_1 < (l1.length : Int)) = false := decide_eq_false c3
        clear c3
        by_cases c8 : 0 < (l0.length : Int)
        · rw [if_pos c8] at H
          have c8b0 : decide (0 < (l0.length : Int)) = true := decide_eq_true c8
          have c8b1 : decide (0 < l0.length) = true := decide_eq_true (by omega)
          clear c8
          by_cases c9 : 0 < (l1.length : Int)
          · rw [if_pos c9] at H
            have c9b0 : decide (0 < (l1.length : Int)) = true := decide_eq_true c9
            have c9b1 : decide (0 < l1.length) = true := decide_eq_true (by omega)
            clear c9
            replace H := Option.bind_eq_some_iff.mp H
            obtain ⟨t127, A100, H⟩ := H
            replace H : (spec_l04Alike.l1 k1 l0 l1 t127 1) = some (r1, r2) := H
            have A10 := Aside0.mk A100
            clear A100
            have H' := Aside0.mk H
            clear H
            have p125 : 0 ≤ (0 : Int) := (by omega)
            have q125 : 0 < (l0.length : Int) := of_decide_eq_true (by first | (with_reducible assumption) | assumption)
            obtain ⟨ad125, e125, hx125_0⟩ := Kd.at_int HR0.out 0 p125 q125
            cases e125
            have qi125 : (0 < l0.length) = True := eq_true (by omega)
            (try rw [show ((0 : Int)).toNat = 0 from rfl] at hx125_0)
            (try rw [Addr.add_zero'] at hx125_0)
            replace p125 := eq_true p125
            replace q125 := eq_true q125
            have p126 : 0 ≤ (0 : Int) := (by omega)
            have q126 : 0 < (l1.length : Int) := of_decide_eq_true (by first | (with_reducible assumption) | assumption)
            obtain ⟨ad126, e126, hx126_0⟩ := Kd.at_int HR1.out 0 p126 q126
            cases e126
            have qi126 : (0 < l1.length) = True := eq_true (by omega)
            (try rw [show ((0 : Int)).toNat = 0 from rfl] at hx126_0)
            (try rw [Addr.add_zero'] at hx126_0)
            replace p126 := eq_true p126
            replace q126 := eq_true q126
            go_wp2_with (first | (go_at_call 77; (with_reducible refine (spec_l04Floor.calls (rd l0 0) (rd l1 0) t127 _ A10.out).mono ?_); rintro e w' ⟨rfl, ⟨nd, rfl⟩⟩; (try first | exact ⟨rfl, _, World.drewN_drewN _ _ _⟩ | exact ⟨rfl, _, Eq.trans (World.drewN_drewN _ _ _) (congrArg (World.drewN _) (Nat.add_assoc _ _ _))⟩)))
            repeat (go_quiet (first | (go_at_call 77; (with_reducible refine (spec_l04Floor.calls (rd l0 0) (rd l1 0) t127 _ A10.out).mono ?_); rintro e w' ⟨rfl, ⟨nd, rfl⟩⟩; (try first | exact ⟨rfl, _, World.drewN_drewN _ _ _⟩ | exact ⟨rfl, _, Eq.trans (World.drewN_drewN _ _ _) (congrArg (World.drewN _) (Nat.add_assoc _ _ _))⟩))); try go_wp2_with (first | (go_at_call 77; (with_reducible refine (spec_l04Floor.calls (rd l0 0) (rd l1 0) t127 _ A10.out).mono ?_); rintro e w' ⟨rfl, ⟨nd, rfl⟩⟩; (try first | exact ⟨rfl, _, World.drewN_drewN _ _ _⟩ | exact ⟨rfl, _, Eq.trans (World.drewN_drewN _ _ _) (congrArg (World.drewN _) (Nat.add_assoc _ _ _))⟩))))
            go_loopg [8] k1 (fun kq v8 w' => ∃ (x8_2 : Int), v8 = .int .i64 x8_2 ∧ Aside0 (spec_l04Alike.l1 kq l0 l1 t127 x8_2 = some (r1, r2)) ∧ Aside0 (kq ≤ k1) ∧ Drawn0 w w')
            case atStart => exact ⟨(1), (by first | rfl | (simp; done) | (simp [*]; done)), H', ⟨Nat.le_refl _⟩, by repeat (first | exact Drawn0.refl _ | apply Drawn0.step)⟩
            case round =>
              clear H'
              try clear c1
              try clear p1
              try clear q1
              try clear hx1
              try clear qi1
              try clear p2
              try clear c3
              try clear c3b0
              try clear c4
              try clear c4b0
              try clear c5
              try clear c5b0
              try clear c5b1
              try clear c6
              try clear c6b0
              try clear c6b1
              try clear p6
              try clear c7
              try clear c7b0
              try clear c7b1
              try clear c7b2
              try clear c8
              try clear c8b0
              try clear c8b1
              try clear c9
              try clear c9b0
              try clear c9b1
              try clear hx122_0
              try clear hx123_0
              try clear hx124_0
              try clear hx125_0
              try clear hx126_0
              try clear p122
              try clear p123
              try clear p124
              try clear p125
              try clear p126
              try clear p2
              try clear q122
              try clear q123
              try clear q124
              try clear q125
              try clear q126
              obtain ⟨x8_2, rfl, HA, HK2, ⟨m2, rfl⟩⟩ := hrel
              cases gk with
              | zero => exact absurd HA.out (by simp [spec_l04Alike.l1])
              | succ k2 =>
                have H := HA.out
                clear HA
                simp only [spec_l04Alike.l1] at H
                by_cases c11 : x8_2 < (l1.length : Int)
                · rw [if_pos c11] at H
                  have c11b0 : decide (x8_2 < (l1.length : Int)) = true := decide_eq_true c11
                  clear c11
                  by_cases c12 : 0 ≤ x8_2
                  · rw [if_pos c12] at H
                    have c12b0 : decide (0 ≤ x8_2) = true := decide_eq_true c12
                    clear c12
                    by_cases c13 : x8_2 < (l0.length : Int)
                    · rw [if_pos c13] at H
                      have c13b0 : decide (x8_2 < (l0.length : Int)) = true := decide_eq_true c13
                      clear c13
                      replace H := Option.bind_eq_some_iff.mp H
                      obtain ⟨t130, A140, H⟩ := H
                      replace H : (if t130 = t127 then (spec_l04Alike.l1 k2 l0 l1 t127 (wrap64 (x8_2 + 1))) else (some (0, false))) = some (r1, r2) := H
                      have A14 := Aside0.mk A140
                      clear A140
                      by_cases c15 : t130 = t127
                      · rw [if_pos c15] at H
                        have c15b0 : (t130 == t127) = true := beq_iff_eq.mpr c15
                        have c15b1 : (t130 != t127) = false := bne_eq_false_iff_eq.mpr c15
                        clear c15
                        have H' := Aside0.mk H
                        clear H
                        have p128 : 0 ≤ (x8_2 : Int) := of_decide_eq_true (by first | (with_reducible assumption) | assumption)
                        have q128 : x8_2 < (l0.length : Int) := of_decide_eq_true (by first | (with_reducible assumption) | assumption)
                        obtain ⟨ad128, e128, hx128_0⟩ := Kd.at_int HR0.out x8_2 p128 q128
                        obtain rfl : ad125 = ad128 := (by injection e128)
                        replace p128 := eq_true p128
                        replace q128 := eq_true q128
                        have p129 : 0 ≤ (x8_2 : Int) := of_decide_eq_true (by first | (with_reducible assumption) | assumption)
                        have q129 : x8_2 < (l1.length : Int) := of_decide_eq_true (by first | (with_reducible assumption) | assumption)
                        obtain ⟨ad129, e129, hx129_0⟩ := Kd.at_int HR1.out x8_2 p129 q129
                        obtain rfl : ad126 = ad129 := (by injection e129)
                        replace p129 := eq_true p129
                        replace q129 := eq_true q129
                        go_wp2_with (first | (go_at_call 77; (with_reducible refine (spec_l04Floor.calls (rd l0 x8_2) (rd l1 x8_2) t130 _ A14.out).mono ?_); rintro e w' ⟨rfl, ⟨nd, rfl⟩⟩; (try first | exact ⟨rfl, _, World.drewN_drewN _ _ _⟩ | exact ⟨rfl, _, Eq.trans (World.drewN_drewN _ _ _) (congrArg (World.drewN _) (Nat.add_assoc _ _ _))⟩)))
                        repeat (go_quiet (first | (go_at_call 77; (with_reducible refine (spec_l04Floor.calls (rd l0 x8_2) (rd l1 x8_2) t130 _ A14.out).mono ?_); rintro e w' ⟨rfl, ⟨nd, rfl⟩⟩; (try first | exact ⟨rfl, _, World.drewN_drewN _ _ _⟩ | exact ⟨rfl, _, Eq.trans (World.drewN_drewN _ _ _) (congrArg (World.drewN _) (Nat.add_assoc _ _ _))⟩))); try go_wp2_with (first | (go_at_call 77; (with_reducible refine (spec_l04Floor.calls (rd l0 x8_2) (rd l1 x8_2) t130 _ A14.out).mono ?_); rintro e w' ⟨rfl, ⟨nd, rfl⟩⟩; (try first | exact ⟨rfl, _, World.drewN_drewN _ _ _⟩ | exact ⟨rfl, _, Eq.trans (World.drewN_drewN _ _ _) (congrArg (World.drewN _) (Nat.add_assoc _ _ _))⟩))))
                        go_roundg k2
                        case measure => have := HK1.out; have := HK2.out; omega
                        case rel => exact ⟨(wrap64 (x8_2 + 1)), (by first | rfl | (simp; done) | (simp [*]; done)), H', ⟨by have := HK1.out; have := HK2.out; omega⟩, by repeat (first | exact Drawn0.refl _ | apply Drawn0.step)⟩
                      · rw [if_neg c15] at H
                        have c15b0 : (t130 == t127) = false := beq_eq_false_iff_ne.mpr c15
                        have c15b1 : (t130 != t127) = true := bne_iff_ne.mpr c15
                        simp only [Option.some.injEq, Prod.mk.injEq] at H
                        obtain ⟨rfl, rfl⟩ := H
                        have p128 : 0 ≤ (x8_2 : Int) := of_decide_eq_true (by first | (with_reducible assumption) | assumption)
                        have q128 : x8_2 < (l0.length : Int) := of_decide_eq_true (by first | (with_reducible assumption) | assumption)
                        obtain ⟨ad128, e128, hx128_0⟩ := Kd.at_int HR0.out x8_2 p128 q128
                        obtain rfl : ad125 = ad128 := (by injection e128)
                        replace p128 := eq_true p128
                        replace q128 := eq_true q128
                        have p129 : 0 ≤ (x8_2 : Int) := of_decide_eq_true (by first | (with_reducible assumption) | assumption)
                        have q129 : x8_2 < (l1.length : Int) := of_decide_eq_true (by first | (with_reducible assumption) | assumption)
                        obtain ⟨ad129, e129, hx129_0⟩ := Kd.at_int HR1.out x8_2 p129 q129
                        obtain rfl : ad126 = ad129 := (by injection e129)
                        replace p129 := eq_true p129
                        replace q129 := eq_true q129
                        go_wp2_with (first | (go_at_call 77; (with_reducible refine (spec_l04Floor.calls (rd l0 x8_2) (rd l1 x8_2) t130 _ A14.out).mono ?_); rintro e w' ⟨rfl, ⟨nd, rfl⟩⟩; (try first | exact ⟨rfl, _, World.drewN_drewN _ _ _⟩ | exact ⟨rfl, _, Eq.trans (World.drewN_drewN _ _ _) (congrArg (World.drewN _) (Nat.add_assoc _ _ _))⟩)))
                        repeat (go_quiet (first | (go_at_call 77; (with_reducible refine (spec_l04Floor.calls (rd l0 x8_2) (rd l1 x8_2) t130 _ A14.out).mono ?_); rintro e w' ⟨rfl, ⟨nd, rfl⟩⟩; (try first | exact ⟨rfl, _, World.drewN_drewN _ _ _⟩ | exact ⟨rfl, _, Eq.trans (World.drewN_drewN _ _ _) (congrArg (World.drewN _) (Nat.add_assoc _ _ _))⟩))); try go_wp2_with (first | (go_at_call 77; (with_reducible refine (spec_l04Floor.calls (rd l0 x8_2) (rd l1 x8_2) t130 _ A14.out).mono ?_); rintro e w' ⟨rfl, ⟨nd, rfl⟩⟩; (try first | exact ⟨rfl, _, World.drewN_drewN _ _ _⟩ | exact ⟨rfl, _, Eq.trans (World.drewN_drewN _ _ _) (congrArg (World.drewN _) (Nat.add_assoc _ _ _))⟩))))
                        go_ret2
                        exact ⟨by first | rfl | (simp; done) | (simp [*]; done), by repeat (first | exact Drawn0.refl _ | apply Drawn0.step)⟩
                    · rw [if_neg c13] at H
                      exact absurd H (by simp)
                  · rw [if_neg c12] at H
                    exact absurd H (by simp)
                · rw [if_neg c11] at H
                  have c11b0 : decide (x8_2 < (l1.length : Int)) = false := decide_eq_false c11
                  clear c11
                  simp only [Option.some.injEq, Prod.mk.injEq] at H
                  obtain ⟨rfl, rfl⟩ := H
                  go_wp2
                  repeat (go_quiet (fail); try go_wp2)
                  go_ret2
                  exact ⟨by first | rfl | (simp; done) | (simp [*]; done), by repeat (first | exact Drawn0.refl _ | apply Drawn0.step)⟩
          · rw [if_neg c9] at H
            exact absurd H (by simp)
        · rw [if_neg c8] at H
          exact absurd H (by simp)

-- NOT PRINTED: function 57 (spec_l04Work_give)

/-! ### spec_l04Cell: function 78 -/
def spec_l04Cell.f (a0 : Int) (a1 : Int) (a2 : Int) : Option (Int × Bool) := if a1 = 0 then ((spec_l03Size.f (wrap64 ((wrap64 (a0 * a1)) + a2))).bind fun t131 => (some (wrap64 ((wrap64 (a0 * a1)) + a2), decide (t131 ≤ 1000000000000000)))) else ((spec_l03Size.f a0).bind fun t132 => ((spec_l03Size.f a1).bind fun t133 => (if t133 = 0 then (none) else (if t132 > (wrap64 (Int.tdiv (2000000000000000 : Int) t133)) then (some (0, false)) else ((spec_l03Size.f (wrap64 ((wrap64 (a0 * a1)) + a2))).bind fun t134 => (some (wrap64 ((wrap64 (a0 * a1)) + a2), decide (t134 ≤ 1000000000000000))))))))
set_option maxHeartbeats 8000000 in
set_option maxRecDepth 100000 in
theorem spec_l04Cell.calls (a0 : Int) (a1 : Int) (a2 : Int) (r1 : Int) (r2 : Bool) (w : World) (h : spec_l04Cell.f a0 a1 a2 = some (r1, r2)) :
    Calls Try.prog 78 #[.int .i64 a0, .int .i64 a1, .int .i64 a2] w fun e w' => e = .returned (.tuple #[.int .i64 r1, .bool r2]) ∧ Drawn0 w w' := by
  have H : (if a1 = 0 then ((spec_l03Size.f (wrap64 ((wrap64 (a0 * a1)) + a2))).bind fun t131 => (some (wrap64 ((wrap64 (a0 * a1)) + a2), decide (t131 ≤ 1000000000000000)))) else ((spec_l03Size.f a0).bind fun t132 => ((spec_l03Size.f a1).bind fun t133 => (if t133 = 0 then (none) else (if t132 > (wrap64 (Int.tdiv (2000000000000000 : Int) t133)) then (some (0, false)) else ((spec_l03Size.f (wrap64 ((wrap64 (a0 * a1)) + a2))).bind fun t134 => (some (wrap64 ((wrap64 (a0 * a1)) + a2), decide (t134 ≤ 1000000000000000))))))))) = some (r1, r2) := h
  clear h
  by_cases c4 : a1 = 0
  · rw [if_pos c4] at H
    have c4b0 : (a1 == 0) = true := beq_iff_eq.mpr c4
    have c4b1 : (a1 != 0) = false := bne_eq_false_iff_eq.mpr c4
    clear c4
    replace H := Option.bind_eq_some_iff.mp H
    obtain ⟨t131, A50, H⟩ := H
    replace H : (some (wrap64 ((wrap64 (a0 * a1)) + a2), decide (t131 ≤ 1000000000000000))) = some (r1, r2) := H
    have A5 := Aside0.mk A50
    clear A50
    simp only [Option.some.injEq, Prod.mk.injEq] at H
    obtain ⟨rfl, rfl⟩ := H
    go_enter Try.func78, Try.ntmps78
    go_wp2_with (first | ((with_reducible refine gate_callee (f := 73) rfl ?_); refine goesL_ (some 26) rfl rfl Try.func73 (by kernel_rfl) rfl #[.int .i64 (wrap64 ((wrap64 (a0 * a1)) + a2))] rfl (by (try simp only [List.map_toArray, List.map_cons, List.map_nil]); first | done | rfl | (simp only [List.length_drop, List.length_take]; rfl) | (simp only [List.drop_one]; done) | (simp only [List.drop_one]; rfl)) ?_; (with_reducible refine (spec_l03Size.calls (wrap64 ((wrap64 (a0 * a1)) + a2)) t131 _ A5.out).mono ?_); rintro e w' ⟨rfl, ⟨nd, rfl⟩⟩; refine ⟨_, rfl, ?_⟩))
    go_ret2
    exact ⟨by first | rfl | (simp; done) | (simp [*]; done), by repeat (first | exact Drawn0.refl _ | apply Drawn0.step)⟩
  · rw [if_neg c4] at H
    have c4b0 : (a1 == 0) = false := beq_eq_false_iff_ne.mpr c4
    have c4b1 : (a1 != 0) = true := bne_iff_ne.mpr c4
    replace H := Option.bind_eq_some_iff.mp H
    obtain ⟨t132, A60, H⟩ := H
    replace H : ((spec_l03Size.f a1).bind fun t133 => (if t133 = 0 then (none) else (if t132 > (wrap64 (Int.tdiv (2000000000000000 : Int) t133)) then (some (0, false)) else ((spec_l03Size.f (wrap64 ((wrap64 (a0 * a1)) + a2))).bind fun t134 => (some (wrap64 ((wrap64 (a0 * a1)) + a2), decide (t134 ≤ 1000000000000000))))))) = some (r1, r2) := H
    have A6 := Aside0.mk A60
    clear A60
    replace H := Option.bind_eq_some_iff.mp H
    obtain ⟨t133, A70, H⟩ := H
    replace H : (if t133 = 0 then (none) else (if t132 > (wrap64 (Int.tdiv (2000000000000000 : Int) t133)) then (some (0, false)) else ((spec_l03Size.f (wrap64 ((wrap64 (a0 * a1)) + a2))).bind fun t134 => (some (wrap64 ((wrap64 (a0 * a1)) + a2), decide (t134 ≤ 1000000000000000)))))) = some (r1, r2) := H
    have A7 := Aside0.mk A70
    clear A70
    by_cases c8 : t133 = 0
    · rw [if_pos c8] at H
      exact absurd H (by simp)
    · rw [if_neg c8] at H
      have c8b0 : (t133 == 0) = false := beq_eq_false_iff_ne.mpr c8
      have c8b1 : (t133 != 0) = true := bne_iff_ne.mpr c8
      by_cases c9 : t132 > (wrap64 (Int.tdiv (2000000000000000 : Int) t133))
      · rw [if_pos c9] at H
        have c9b0 : decide ((wrap64 (Int.tdiv (2000000000000000 : Int) t133)) < t132) = true := decide_eq_true c9
        clear c9
        simp only [Option.some.injEq, Prod.mk.injEq] at H
        obtain ⟨rfl, rfl⟩ := H
        go_enter Try.func78, Try.ntmps78
        go_wp2_with (first | (go_at_call 73; (with_reducible refine (spec_l03Size.calls a0 t132 _ A6.out).mono ?_); rintro e w' ⟨rfl, ⟨nd, rfl⟩⟩) | (go_at_call 73; (with_reducible refine (spec_l03Size.calls a1 t133 _ A7.out).mono ?_); rintro e w' ⟨rfl, ⟨nd, rfl⟩⟩))
        go_ret2
        exact ⟨by first | rfl | (simp; done) | (simp [*]; done), by repeat (first | exact Drawn0.refl _ | apply Drawn0.step)⟩
      · rw [if_neg c9] at H
        have c9b0 : decide ((wrap64 (Int.tdiv (2000000000000000 : Int) t133)) < t132) = false := decide_eq_false c9
        clear c9
        replace H := Option.bind_eq_some_iff.mp H
        obtain ⟨t134, A100, H⟩ := H
        replace H : (some (wrap64 ((wrap64 (a0 * a1)) + a2), decide (t134 ≤ 1000000000000000))) = some (r1, r2) := H
        have A10 := Aside0.mk A100
        clear A100
        simp only [Option.some.injEq, Prod.mk.injEq] at H
        obtain ⟨rfl, rfl⟩ := H
        go_enter Try.func78, Try.ntmps78
        go_wp2_with (first | (go_at_call 73; (with_reducible refine (spec_l03Size.calls a0 t132 _ A6.out).mono ?_); rintro e w' ⟨rfl, ⟨nd, rfl⟩⟩) | (go_at_call 73; (with_reducible refine (spec_l03Size.calls a1 t133 _ A7.out).mono ?_); rintro e w' ⟨rfl, ⟨nd, rfl⟩⟩) | ((with_reducible refine gate_callee (f := 73) rfl ?_); refine goesL_ (some 26) rfl rfl Try.func73 (by kernel_rfl) rfl #[.int .i64 (wrap64 ((wrap64 (a0 * a1)) + a2))] rfl (by (try simp only [List.map_toArray, List.map_cons, List.map_nil]); first | done | rfl | (simp only [List.length_drop, List.length_take]; rfl) | (simp only [List.drop_one]; done) | (simp only [List.drop_one]; rfl)) ?_; (with_reducible refine (spec_l03Size.calls (wrap64 ((wrap64 (a0 * a1)) + a2)) t134 _ A10.out).mono ?_); rintro e w' ⟨rfl, ⟨nd, rfl⟩⟩; refine ⟨_, rfl, ?_⟩))
        go_ret2
        exact ⟨by first | rfl | (simp; done) | (simp [*]; done), by repeat (first | exact Drawn0.refl _ | apply Drawn0.step)⟩

-- NOT PRINTED: function 58 (spec_l04Work_cell)

end Go.Proofs.Ytgldplkbacfacaa.MFnExactEightTerms
