/- Functions of the program as Lean functions, and the proof that the code comes to what they say. Written by a program of this session (myprint.py). -/
import Derived.Test.YtgldplkbacfacaaMFnExactEightMovesx0
import Derived.Test.YtgldplkbacfacaaMFnExactEightMovesx2
namespace Go.Proofs.Ytgldplkbacfacaa.MFnExactEightMoves
open Go.RowKit Go.Proofs.Ytgldplkbacfacaa.MOpen Go.Proofs.YtgldplkbacfacaaW.PrintWords Go.Proofs.YtgldplkbacfacaaW.PrintLast Go.Proofs.YtgldplkbacfacaaW.PrintMore
attribute [local go_sem] max2_int min2_int max_two min_two max_three min_three max_four min_four   -- for this text's walks alone
set_option linter.unusedVariables false
set_option linter.unusedSimpArgs false

/-! ### spec_l04EightGiven: function 43 -/
mutual
def spec_l04EightGiven.j0 : Nat → Bool → Int → Int → Int → Int → Int → Int → Int → Int → Option (Int)
  | 0, _, _, _, _, _, _, _, _, _ => none
  | k + 1, x15, x1000, x1001, x1002, x1003, x1004, x1005, x1006, x1007 => if x15 = true then (some 1) else (spec_l04EightGiven.l0 k 0 x1000 x1001 x1002 x1003 x1004 x1005 x1006 x1007)
def spec_l04EightGiven.l0 : Nat → Int → Int → Int → Int → Int → Int → Int → Int → Int → Option (Int)
  | 0, _, _, _, _, _, _, _, _, _ => none
  | k + 1, x7, x1000, x1001, x1002, x1003, x1004, x1005, x1006, x1007 => if x7 < 4 then (if 0 ≤ x7 then ((spec_l00In.f (rd [x1000, x1001, x1002, x1003] x7) (-1000000000) 1000000000).bind fun t143 => (if t143 = true then ((spec_l00In.f (rd [x1004, x1005, x1006, x1007] x7) (-1000000000) 1000000000).bind fun t145 => (if t145 = true then (spec_l04EightGiven.l0 k (wrap64 (x7 + 1)) x1000 x1001 x1002 x1003 x1004 x1005 x1006 x1007) else (some 2))) else (some 2))) else (none)) else (some 0)
end
def spec_l04EightGiven.f (k : Nat) (a0_0 : Int) (a0_1 : Int) (a0_2 : Int) (a0_3 : Int) (a0_4 : Int) (a0_5 : Int) (a0_6 : Int) (a0_7 : Int) (l1 : List Int) (l2 : List Int) : Option (Int) := (spec_l04Terms.f k l1).bind fun t140 => (if t140 = true then ((spec_l04Terms.f k l2).bind fun t141 => (spec_l04EightGiven.j0 k (!t141) a0_0 a0_1 a0_2 a0_3 a0_4 a0_5 a0_6 a0_7)) else (spec_l04EightGiven.j0 k true a0_0 a0_1 a0_2 a0_3 a0_4 a0_5 a0_6 a0_7))
theorem spec_l04EightGiven.mono_l : ∀ k, (∀ y0 y1 y2 y3 y4 y5 y6 y7 y8, LeO (spec_l04EightGiven.j0 k y0 y1 y2 y3 y4 y5 y6 y7 y8) (spec_l04EightGiven.j0 (k + 1) y0 y1 y2 y3 y4 y5 y6 y7 y8)) ∧ (∀ y0 y1 y2 y3 y4 y5 y6 y7 y8, LeO (spec_l04EightGiven.l0 k y0 y1 y2 y3 y4 y5 y6 y7 y8) (spec_l04EightGiven.l0 (k + 1) y0 y1 y2 y3 y4 y5 y6 y7 y8))
  | 0 => ⟨fun _ _ _ _ _ _ _ _ _ r h => by simp [spec_l04EightGiven.j0] at h, fun _ _ _ _ _ _ _ _ _ r h => by simp [spec_l04EightGiven.l0] at h⟩
  | k + 1 => by
    obtain ⟨ih0, ih1⟩ := spec_l04EightGiven.mono_l k
    refine ⟨?_, ?_⟩
    · intro y0 y1 y2 y3 y4 y5 y6 y7 y8
      unfold spec_l04EightGiven.j0
      repeat' first
      | (with_reducible exact ih0 _ _ _ _ _ _ _ _ _)
      | (with_reducible exact ih1 _ _ _ _ _ _ _ _ _)
      | (with_reducible exact spec_l04Terms.mono _ _)
      | (with_reducible exact LeO.refl _)
      | (with_reducible exact LeO.none _)
      | (with_reducible refine LeO.ite ?_ ?_)
      | (with_reducible refine LeO.bind ?_ (fun _ => ?_))
      | exact ih0 _ _ _ _ _ _ _ _ _
      | exact ih1 _ _ _ _ _ _ _ _ _
      | exact spec_l04Terms.mono _ _
      | exact LeO.none _
      | refine LeO.ite ?_ ?_
      | refine LeO.bind ?_ (fun _ => ?_)
    · intro y0 y1 y2 y3 y4 y5 y6 y7 y8
      unfold spec_l04EightGiven.l0
      repeat' first
      | (with_reducible exact ih0 _ _ _ _ _ _ _ _ _)
      | (with_reducible exact ih1 _ _ _ _ _ _ _ _ _)
      | (with_reducible exact spec_l04Terms.mono _ _)
      | (with_reducible exact LeO.refl _)
      | (with_reducible exact LeO.none _)
      | (with_reducible refine LeO.ite ?_ ?_)
      | (with_reducible refine LeO.bind ?_ (fun _ => ?_))
      | exact ih0 _ _ _ _ _ _ _ _ _
      | exact ih1 _ _ _ _ _ _ _ _ _
      | exact spec_l04Terms.mono _ _
      | exact LeO.none _
      | refine LeO.ite ?_ ?_
      | refine LeO.bind ?_ (fun _ => ?_)
theorem spec_l04EightGiven.mono : ∀ a0 a1 a2 a3 a4 a5 a6 a7 a8 a9 k, LeO (spec_l04EightGiven.f k a0 a1 a2 a3 a4 a5 a6 a7 a8 a9) (spec_l04EightGiven.f (k + 1) a0 a1 a2 a3 a4 a5 a6 a7 a8 a9) := by
  intro a0 a1 a2 a3 a4 a5 a6 a7 a8 a9 k
  obtain ⟨ih0, ih1⟩ := spec_l04EightGiven.mono_l k
  unfold spec_l04EightGiven.f
  repeat' first
      | (with_reducible exact ih0 _ _ _ _ _ _ _ _ _)
      | (with_reducible exact ih1 _ _ _ _ _ _ _ _ _)
      | (with_reducible exact spec_l04Terms.mono _ _)
      | (with_reducible exact LeO.refl _)
      | (with_reducible exact LeO.none _)
      | (with_reducible refine LeO.ite ?_ ?_)
      | (with_reducible refine LeO.bind ?_ (fun _ => ?_))
      | exact ih0 _ _ _ _ _ _ _ _ _
      | exact ih1 _ _ _ _ _ _ _ _ _
      | exact spec_l04Terms.mono _ _
      | exact LeO.none _
      | refine LeO.ite ?_ ?_
      | refine LeO.bind ?_ (fun _ => ?_)
set_option maxHeartbeats 8000000 in
set_option maxRecDepth 100000 in
theorem spec_l04EightGiven.calls (k : Nat) (B0_ O0_ : Nat) (a0_0 : Int) (a0_1 : Int) (a0_2 : Int) (a0_3 : Int) (a0_4 : Int) (a0_5 : Int) (a0_6 : Int) (a0_7 : Int) (A1 : Option Addr) (c1 : Nat) (l1 : List Int) (A2 : Option Addr) (c2 : Nat) (l2 : List Int) (r : Int) (w : World) (hr1 : Kd.C (Kd.int .i64) w A1 l1.length l1) (hc1 : l1.length ≤ c1) (hr2 : Kd.C (Kd.int .i64) w A2 l2.length l2) (hc2 : l2.length ≤ c2) (hq0_ : w.cell? ⟨B0_, O0_, none⟩ = some (.int .i64 a0_0) ∧ w.cell? ⟨B0_, O0_ + 1, none⟩ = some (.int .i64 a0_1) ∧ w.cell? ⟨B0_, O0_ + 2, none⟩ = some (.int .i64 a0_2) ∧ w.cell? ⟨B0_, O0_ + 3, none⟩ = some (.int .i64 a0_3) ∧ w.cell? ⟨B0_, O0_ + 4, none⟩ = some (.int .i64 a0_4) ∧ w.cell? ⟨B0_, O0_ + 5, none⟩ = some (.int .i64 a0_5) ∧ w.cell? ⟨B0_, O0_ + 6, none⟩ = some (.int .i64 a0_6) ∧ w.cell? ⟨B0_, O0_ + 7, none⟩ = some (.int .i64 a0_7)) (h : spec_l04EightGiven.f k a0_0 a0_1 a0_2 a0_3 a0_4 a0_5 a0_6 a0_7 l1 l2 = some r) :
    Calls Try.prog 43 #[.pointer (some ⟨B0_, O0_, none⟩), .slice A1 l1.length c1, .slice A2 l2.length c2] w fun e w' => e = .returned (.int .i64 r) ∧ Drawn0 w w' := by
  have HR1 := Aside0.mk hr1
  have HC1 := Aside0.mk hc1
  clear hr1 hc1
  have HR2 := Aside0.mk hr2
  have HC2 := Aside0.mk hc2
  clear hr2 hc2
  have HQ0_ := Aside0.mk hq0_
  clear hq0_
  have H : ((spec_l04Terms.f k l1).bind fun t140 => (if t140 = true then ((spec_l04Terms.f k l2).bind fun t141 => (spec_l04EightGiven.j0 k (!t141) a0_0 a0_1 a0_2 a0_3 a0_4 a0_5 a0_6 a0_7)) else (spec_l04EightGiven.j0 k true a0_0 a0_1 a0_2 a0_3 a0_4 a0_5 a0_6 a0_7))) = some r := h
  clear h
  have HC4 := Aside0.mk H
  clear H
  go_enter Try.func43, Try.ntmps43
  go_upto_region 1 with (fail)
  go_cut [15] (fun v15 wc => ∃ (kq : Nat) (x15_3 : Bool), v15 = .bool x15_3 ∧ Aside0 (spec_l04EightGiven.j0 kq x15_3 a0_0 a0_1 a0_2 a0_3 a0_4 a0_5 a0_6 a0_7 = some r) ∧ Aside0 (kq ≤ k) ∧ Drawn0 w wc)
  case first =>
    have H := HC4.out
    clear HC4
    replace H := Option.bind_eq_some_iff.mp H
    obtain ⟨t140, A50, H⟩ := H
    replace H : (if t140 = true then ((spec_l04Terms.f k l2).bind fun t141 => (spec_l04EightGiven.j0 k (!t141) a0_0 a0_1 a0_2 a0_3 a0_4 a0_5 a0_6 a0_7)) else (spec_l04EightGiven.j0 k true a0_0 a0_1 a0_2 a0_3 a0_4 a0_5 a0_6 a0_7)) = some r := H
    have A5 := Aside0.mk A50
    clear A50
    by_cases c6 : t140 = true
    · subst c6
      have H1 : ((spec_l04Terms.f k l2).bind fun t141 => (spec_l04EightGiven.j0 k (!t141) a0_0 a0_1 a0_2 a0_3 a0_4 a0_5 a0_6 a0_7)) = some r := by rw [if_pos rfl] at H; exact H
      clear H
      have H := H1
      clear H1
      replace H := Option.bind_eq_some_iff.mp H
      obtain ⟨t141, A70, H⟩ := H
      replace H : (spec_l04EightGiven.j0 k (!t141) a0_0 a0_1 a0_2 a0_3 a0_4 a0_5 a0_6 a0_7) = some r := H
      have A7 := Aside0.mk A70
      clear A70
      have H' := Aside0.mk H
      clear H
      go_wp2_with (first | ((with_reducible refine gate_callee (f := 50) rfl ?_); refine goesL_ (some 9) rfl rfl Try.func50 (by kernel_rfl) rfl #[.slice A1 l1.length c1] rfl (by (try simp only [List.map_toArray, List.map_cons, List.map_nil]); first | done | rfl | (simp only [List.length_drop, List.length_take]; rfl) | (simp only [List.drop_one]; done) | (simp only [List.drop_one]; rfl)) ?_; (with_reducible refine (spec_l04Terms.calls k _ _ l1 true _ ?side1 ?side2 A5.out).mono ?_); (case side1 => repeat (first | exact HR1.out | (with_reducible refine Kd.C_alloc ?_ _) | (with_reducible refine Kd.C_drewN ?_ _) | (with_reducible refine Kd.C_drew ?_))); (case side2 => exact HC1.out); rintro e w' ⟨rfl, ⟨nd, rfl⟩⟩; refine ⟨_, rfl, ?_⟩) | (go_at_call 50; (with_reducible refine (spec_l04Terms.calls k _ _ l2 t141 _ ?side1 ?side2 A7.out).mono ?_); (case side1 => repeat (first | exact HR2.out | (with_reducible refine Kd.C_alloc ?_ _) | (with_reducible refine Kd.C_drewN ?_ _) | (with_reducible refine Kd.C_drew ?_))); (case side2 => exact HC2.out); rintro e w' ⟨rfl, ⟨nd, rfl⟩⟩))
      go_meet
      case rel => exact ⟨_, (!t141), (by first | rfl | (simp; done) | (simp [*]; done)), H', ⟨by first | omega | exact Nat.le_refl _⟩, by repeat (first | exact Drawn0.refl _ | apply Drawn0.step)⟩
    · replace c6 := Bool.eq_false_iff.mpr c6
      subst c6
      have H1 : (spec_l04EightGiven.j0 k true a0_0 a0_1 a0_2 a0_3 a0_4 a0_5 a0_6 a0_7) = some r := by rw [if_neg (show ¬ (false = true) by decide)] at H; exact H
      clear H
      have H := H1
      clear H1
      have H' := Aside0.mk H
      clear H
      go_wp2_with (first | ((with_reducible refine gate_callee (f := 50) rfl ?_); refine goesL_ (some 9) rfl rfl Try.func50 (by kernel_rfl) rfl #[.slice A1 l1.length c1] rfl (by (try simp only [List.map_toArray, List.map_cons, List.map_nil]); first | done | rfl | (simp only [List.length_drop, List.length_take]; rfl) | (simp only [List.drop_one]; done) | (simp only [List.drop_one]; rfl)) ?_; (with_reducible refine (spec_l04Terms.calls k _ _ l1 false _ ?side1 ?side2 A5.out).mono ?_); (case side1 => repeat (first | exact HR1.out | (with_reducible refine Kd.C_alloc ?_ _) | (with_reducible refine Kd.C_drewN ?_ _) | (with_reducible refine Kd.C_drew ?_))); (case side2 => exact HC1.out); rintro e w' ⟨rfl, ⟨nd, rfl⟩⟩; refine ⟨_, rfl, ?_⟩))
      go_meet
      case rel => exact ⟨_, (true), (by first | rfl | (simp; done) | (simp [*]; done)), H', ⟨by first | omega | exact Nat.le_refl _⟩, by repeat (first | exact Drawn0.refl _ | apply Drawn0.step)⟩
  case rest =>
    clear HC4
    try clear c1
    try clear c2
    try clear p2
    try clear c4
    try clear c5
    try clear c6
    obtain ⟨kq, x15_3, rfl, HA, HJ3, ⟨mc3, rfl⟩⟩ := hcut
    cases kq with
    | zero => exact absurd HA.out (by simp [spec_l04EightGiven.j0])
    | succ kj3 =>
      have H := HA.out
      clear HA
      simp only [spec_l04EightGiven.j0] at H
      by_cases c8 : x15_3 = true
      · subst c8
        have H1 : (some 1) = some r := by rw [if_pos rfl] at H; exact H
        clear H
        have H := H1
        clear H1
        obtain rfl := Option.some.inj H
        go_wp2
        go_ret
        exact ⟨by first | rfl | (simp; done) | (simp [*]; done), by repeat (first | exact Drawn0.refl _ | apply Drawn0.step)⟩
      · replace c8 := Bool.eq_false_iff.mpr c8
        subst c8
        have H1 : (spec_l04EightGiven.l0 kj3 0 a0_0 a0_1 a0_2 a0_3 a0_4 a0_5 a0_6 a0_7) = some r := by rw [if_neg (show ¬ (false = true) by decide)] at H; exact H
        clear H
        have H := H1
        clear H1
        have H' := Aside0.mk H
        clear H
        go_wp2
        go_loopg [7] kj3 (fun kq v7 w' => ∃ (x7_2 : Int), v7 = .int .i64 x7_2 ∧ Aside0 (spec_l04EightGiven.l0 kq x7_2 a0_0 a0_1 a0_2 a0_3 a0_4 a0_5 a0_6 a0_7 = some r) ∧ Aside0 (kq ≤ kj3) ∧ Drawn0 w w')
        case atStart => exact ⟨(0), (by first | rfl | (simp; done) | (simp [*]; done)), H', ⟨Nat.le_refl _⟩, by repeat (first | exact Drawn0.refl _ | apply Drawn0.step)⟩
        case round =>
          clear H'
          try clear c1
          try clear c2
          try clear p2
          try clear c3
          try clear c4
          try clear c5
          try clear c6
          try clear c8
          try clear p2
          obtain ⟨x7_2, rfl, HA, HK2, ⟨m2, rfl⟩⟩ := hrel
          cases gk with
          | zero => exact absurd HA.out (by simp [spec_l04EightGiven.l0])
          | succ k2 =>
            have H := HA.out
            clear HA
            simp only [spec_l04EightGiven.l0] at H
            by_cases c9 : x7_2 < 4
            · rw [if_pos c9] at H
              have c9b0 : decide (x7_2 < 4) = true := decide_eq_true c9
              clear c9
              by_cases c10 : 0 ≤ x7_2
              · rw [if_pos c10] at H
                have c10b0 : decide (0 ≤ x7_2) = true := decide_eq_true c10
                clear c10
                replace H := Option.bind_eq_some_iff.mp H
                obtain ⟨t143, A110, H⟩ := H
                replace H : (if t143 = true then ((spec_l00In.f (rd [a0_4, a0_5, a0_6, a0_7] x7_2) (-1000000000) 1000000000).bind fun t145 => (if t145 = true then (spec_l04EightGiven.l0 k2 (wrap64 (x7_2 + 1)) a0_0 a0_1 a0_2 a0_3 a0_4 a0_5 a0_6 a0_7) else (some 2))) else (some 2)) = some r := H
                have A11 := Aside0.mk A110
                clear A110
                by_cases c12 : t143 = true
                · subst c12
                  have H1 : ((spec_l00In.f (rd [a0_4, a0_5, a0_6, a0_7] x7_2) (-1000000000) 1000000000).bind fun t145 => (if t145 = true then (spec_l04EightGiven.l0 k2 (wrap64 (x7_2 + 1)) a0_0 a0_1 a0_2 a0_3 a0_4 a0_5 a0_6 a0_7) else (some 2))) = some r := by rw [if_pos rfl] at H; exact H
                  clear H
                  have H := H1
                  clear H1
                  replace H := Option.bind_eq_some_iff.mp H
                  obtain ⟨t145, A130, H⟩ := H
                  replace H : (if t145 = true then (spec_l04EightGiven.l0 k2 (wrap64 (x7_2 + 1)) a0_0 a0_1 a0_2 a0_3 a0_4 a0_5 a0_6 a0_7) else (some 2)) = some r := H
                  have A13 := Aside0.mk A130
                  clear A130
                  by_cases c14 : t145 = true
                  · subst c14
                    have H1 : (spec_l04EightGiven.l0 k2 (wrap64 (x7_2 + 1)) a0_0 a0_1 a0_2 a0_3 a0_4 a0_5 a0_6 a0_7) = some r := by rw [if_pos rfl] at H; exact H
                    clear H
                    have H := H1
                    clear H1
                    have H' := Aside0.mk H
                    clear H
                    obtain ⟨hxr15_0, hxr15_1, hxr15_2, hxr15_3, hxr15_4, hxr15_5, hxr15_6, hxr15_7⟩ := HQ0_.out
                    have HP142 := Aside0.mk (show 0 ≤ (x7_2 : Int) ∧ (x7_2 : Int) < 4 from ⟨of_decide_eq_true (by first | (with_reducible assumption) | assumption), of_decide_eq_true (by first | (with_reducible assumption) | assumption)⟩)
                    have hx142_0 : w.cell? ⟨B0_, O0_ + (x7_2 : Int).toNat, none⟩ = some (.int .i64 (rd [a0_0, a0_1, a0_2, a0_3] x7_2)) := (by (obtain ⟨hz0_, hz1_, hz2_, hz3_, hz4_, hz5_, hz6_, hz7_⟩ := HQ0_.out; rcases (show x7_2 = 0 ∨ x7_2 = 1 ∨ x7_2 = 2 ∨ x7_2 = 3 from (by have h_ := HP142.out; omega)) with rfl | rfl | rfl | rfl <;> first | exact hz0_ | exact hz1_ | exact hz2_ | exact hz3_))
                    have hx142_1 : w.cell? ((⟨B0_, O0_, none⟩ : Addr).add (x7_2 : Int).toNat) = some (.int .i64 (rd [a0_0, a0_1, a0_2, a0_3] x7_2)) := (congrArg _ (add_off _ _ _)).trans hx142_0
                    have hpz142 := eq_true HP142.out.1
                    have hpy142 := eq_true HP142.out.2
                    go_wp2_with (first | ((with_reducible refine gate_callee (f := 54) rfl ?_); refine goesL_ (some 26) rfl rfl Try.func54 (by kernel_rfl) rfl #[.int .i64 (rd [a0_0, a0_1, a0_2, a0_3] x7_2), .int .i64 (-1000000000), .int .i64 1000000000] rfl (by (try simp only [List.map_toArray, List.map_cons, List.map_nil]); first | done | rfl | (simp only [List.length_drop, List.length_take]; rfl) | (simp only [List.drop_one]; done) | (simp only [List.drop_one]; rfl)) ?_; (with_reducible refine (spec_l00In.calls (rd [a0_0, a0_1, a0_2, a0_3] x7_2) (-1000000000) 1000000000 true _ A11.out).mono ?_); rintro e w' ⟨rfl, ⟨nd, rfl⟩⟩; refine ⟨_, rfl, ?_⟩; have HP144 := Aside0.mk (show 0 ≤ (x7_2 : Int) ∧ (x7_2 : Int) < 4 from ⟨of_decide_eq_true (by first | (with_reducible assumption) | assumption), of_decide_eq_true (by first | (with_reducible assumption) | assumption)⟩); have hx144_0 : w.cell? ⟨B0_, O0_ + 4 + (x7_2 : Int).toNat, none⟩ = some (.int .i64 (rd [a0_4, a0_5, a0_6, a0_7] x7_2)) := (by (obtain ⟨hz0_, hz1_, hz2_, hz3_, hz4_, hz5_, hz6_, hz7_⟩ := HQ0_.out; rcases (show x7_2 = 0 ∨ x7_2 = 1 ∨ x7_2 = 2 ∨ x7_2 = 3 from (by have h_ := HP144.out; omega)) with rfl | rfl | rfl | rfl <;> first | exact hz4_ | exact hz5_ | exact hz6_ | exact hz7_)); have hx144_1 : w.cell? ((⟨B0_, O0_ + 4, none⟩ : Addr).add (x7_2 : Int).toNat) = some (.int .i64 (rd [a0_4, a0_5, a0_6, a0_7] x7_2)) := (congrArg _ (add_off _ _ _)).trans hx144_0; have hpz144 := eq_true HP144.out.1; have hpy144 := eq_true HP144.out.2) | (go_at_call 54; (with_reducible refine (spec_l00In.calls (rd [a0_4, a0_5, a0_6, a0_7] x7_2) (-1000000000) 1000000000 true _ A13.out).mono ?_); rintro e w' ⟨rfl, ⟨nd, rfl⟩⟩))
                    go_roundg k2
                    case measure => have := HJ3.out; have := HK2.out; omega
                    case rel => exact ⟨(wrap64 (x7_2 + 1)), (by first | rfl | (simp; done) | (simp [*]; done)), H', ⟨by have := HJ3.out; have := HK2.out; omega⟩, by repeat (first | exact Drawn0.refl _ | apply Drawn0.step)⟩
                  · replace c14 := Bool.eq_false_iff.mpr c14
                    subst c14
                    have H1 : (some 2) = some r := by rw [if_neg (show ¬ (false = true) by decide)] at H; exact H
                    clear H
                    have H := H1
                    clear H1
                    obtain rfl := Option.some.inj H
                    obtain ⟨hxr16_0, hxr16_1, hxr16_2, hxr16_3, hxr16_4, hxr16_5, hxr16_6, hxr16_7⟩ := HQ0_.out
                    have HP142 := Aside0.mk (show 0 ≤ (x7_2 : Int) ∧ (x7_2 : Int) < 4 from ⟨of_decide_eq_true (by first | (with_reducible assumption) | assumption), of_decide_eq_true (by first | (with_reducible assumption) | assumption)⟩)
                    have hx142_0 : w.cell? ⟨B0_, O0_ + (x7_2 : Int).toNat, none⟩ = some (.int .i64 (rd [a0_0, a0_1, a0_2, a0_3] x7_2)) := (by (obtain ⟨hz0_, hz1_, hz2_, hz3_, hz4_, hz5_, hz6_, hz7_⟩ := HQ0_.out; rcases (show x7_2 = 0 ∨ x7_2 = 1 ∨ x7_2 = 2 ∨ x7_2 = 3 from (by have h_ := HP142.out; omega)) with rfl | rfl | rfl | rfl <;> first | exact hz0_ | exact hz1_ | exact hz2_ | exact hz3_))
                    have hx142_1 : w.cell? ((⟨B0_, O0_, none⟩ : Addr).add (x7_2 : Int).toNat) = some (.int .i64 (rd [a0_0, a0_1, a0_2, a0_3] x7_2)) := (congrArg _ (add_off _ _ _)).trans hx142_0
                    have hpz142 := eq_true HP142.out.1
                    have hpy142 := eq_true HP142.out.2
                    go_wp2_with (first | ((with_reducible refine gate_callee (f := 54) rfl ?_); refine goesL_ (some 26) rfl rfl Try.func54 (by kernel_rfl) rfl #[.int .i64 (rd [a0_0, a0_1, a0_2, a0_3] x7_2), .int .i64 (-1000000000), .int .i64 1000000000] rfl (by (try simp only [List.map_toArray, List.map_cons, List.map_nil]); first | done | rfl | (simp only [List.length_drop, List.length_take]; rfl) | (simp only [List.drop_one]; done) | (simp only [List.drop_one]; rfl)) ?_; (with_reducible refine (spec_l00In.calls (rd [a0_0, a0_1, a0_2, a0_3] x7_2) (-1000000000) 1000000000 true _ A11.out).mono ?_); rintro e w' ⟨rfl, ⟨nd, rfl⟩⟩; refine ⟨_, rfl, ?_⟩; have HP144 := Aside0.mk (show 0 ≤ (x7_2 : Int) ∧ (x7_2 : Int) < 4 from ⟨of_decide_eq_true (by first | (with_reducible assumption) | assumption), of_decide_eq_true (by first | (with_reducible assumption) | assumption)⟩); have hx144_0 : w.cell? ⟨B0_, O0_ + 4 + (x7_2 : Int).toNat, none⟩ = some (.int .i64 (rd [a0_4, a0_5, a0_6, a0_7] x7_2)) := (by (obtain ⟨hz0_, hz1_, hz2_, hz3_, hz4_, hz5_, hz6_, hz7_⟩ := HQ0_.out; rcases (show x7_2 = 0 ∨ x7_2 = 1 ∨ x7_2 = 2 ∨ x7_2 = 3 from (by have h_ := HP144.out; omega)) with rfl | rfl | rfl | rfl <;> first | exact hz4_ | exact hz5_ | exact hz6_ | exact hz7_)); have hx144_1 : w.cell? ((⟨B0_, O0_ + 4, none⟩ : Addr).add (x7_2 : Int).toNat) = some (.int .i64 (rd [a0_4, a0_5, a0_6, a0_7] x7_2)) := (congrArg _ (add_off _ _ _)).trans hx144_0; have hpz144 := eq_true HP144.out.1; have hpy144 := eq_true HP144.out.2) | (go_at_call 54; (with_reducible refine (spec_l00In.calls (rd [a0_4, a0_5, a0_6, a0_7] x7_2) (-1000000000) 1000000000 false _ A13.out).mono ?_); rintro e w' ⟨rfl, ⟨nd, rfl⟩⟩))
                    go_ret
                    exact ⟨by first | rfl | (simp; done) | (simp [*]; done), by repeat (first | exact Drawn0.refl _ | apply Drawn0.step)⟩
                · replace c12 := Bool.eq_false_iff.mpr c12
                  subst c12
                  have H1 : (some 2) = some r := by rw [if_neg (show ¬ (false = true) by decide)] at H; exact H
                  clear H
                  have H := H1
                  clear H1
                  obtain rfl := Option.some.inj H
                  obtain ⟨hxr17_0, hxr17_1, hxr17_2, hxr17_3, hxr17_4, hxr17_5, hxr17_6, hxr17_7⟩ := HQ0_.out
                  have HP142 := Aside0.mk (show 0 ≤ (x7_2 : Int) ∧ (x7_2 : Int) < 4 from ⟨of_decide_eq_true (by first | (with_reducible assumption) | assumption), of_decide_eq_true (by first | (with_reducible assumption) | assumption)⟩)
                  have hx142_0 : w.cell? ⟨B0_, O0_ + (x7_2 : Int).toNat, none⟩ = some (.int .i64 (rd [a0_0, a0_1, a0_2, a0_3] x7_2)) := (by (obtain ⟨hz0_, hz1_, hz2_, hz3_, hz4_, hz5_, hz6_, hz7_⟩ := HQ0_.out; rcases (show x7_2 = 0 ∨ x7_2 = 1 ∨ x7_2 = 2 ∨ x7_2 = 3 from (by have h_ := HP142.out; omega)) with rfl | rfl | rfl | rfl <;> first | exact hz0_ | exact hz1_ | exact hz2_ | exact hz3_))
                  have hx142_1 : w.cell? ((⟨B0_, O0_, none⟩ : Addr).add (x7_2 : Int).toNat) = some (.int .i64 (rd [a0_0, a0_1, a0_2, a0_3] x7_2)) := (congrArg _ (add_off _ _ _)).trans hx142_0
                  have hpz142 := eq_true HP142.out.1
                  have hpy142 := eq_true HP142.out.2
                  go_wp2_with (first | ((with_reducible refine gate_callee (f := 54) rfl ?_); refine goesL_ (some 26) rfl rfl Try.func54 (by kernel_rfl) rfl #[.int .i64 (rd [a0_0, a0_1, a0_2, a0_3] x7_2), .int .i64 (-1000000000), .int .i64 1000000000] rfl (by (try simp only [List.map_toArray, List.map_cons, List.map_nil]); first | done | rfl | (simp only [List.length_drop, List.length_take]; rfl) | (simp only [List.drop_one]; done) | (simp only [List.drop_one]; rfl)) ?_; (with_reducible refine (spec_l00In.calls (rd [a0_0, a0_1, a0_2, a0_3] x7_2) (-1000000000) 1000000000 false _ A11.out).mono ?_); rintro e w' ⟨rfl, ⟨nd, rfl⟩⟩; refine ⟨_, rfl, ?_⟩))
                  go_ret
                  exact ⟨by first | rfl | (simp; done) | (simp [*]; done), by repeat (first | exact Drawn0.refl _ | apply Drawn0.step)⟩
              · rw [if_neg c10] at H
                exact absurd H (by simp)
            · rw [if_neg c9] at H
              have c9b0 : decide (x7_2 < 4) = false := decide_eq_false c9
              clear c9
              obtain rfl := Option.some.inj H
              go_wp2
              go_ret
              exact ⟨by first | rfl | (simp; done) | (simp [*]; done), by repeat (first | exact Drawn0.refl _ | apply Drawn0.step)⟩

/-! ### spec_l04Floor: function 77 -/
def spec_l04Floor.f (a0 : Int) (a1 : Int) : Option (Int) := if a1 = 0 then (none) else (if (Int.tmod a0 a1) = 0 then (some (wrap64 (Int.tdiv a0 a1))) else (if ((decide (a0 < 0)) != (decide (a1 < 0))) = true then (some (wrap64 ((wrap64 (Int.tdiv a0 a1)) - 1))) else (some (wrap64 (Int.tdiv a0 a1)))))
set_option maxHeartbeats 8000000 in
set_option maxRecDepth 100000 in
theorem spec_l04Floor.calls (a0 : Int) (a1 : Int) (r : Int) (w : World) (h : spec_l04Floor.f a0 a1 = some r) :
    Calls Try.prog 77 #[.int .i64 a0, .int .i64 a1] w fun e w' => e = .returned (.int .i64 r) ∧ Drawn0 w w' := by
  have H : (if a1 = 0 then (none) else (if (Int.tmod a0 a1) = 0 then (some (wrap64 (Int.tdiv a0 a1))) else (if ((decide (a0 < 0)) != (decide (a1 < 0))) = true then (some (wrap64 ((wrap64 (Int.tdiv a0 a1)) - 1))) else (some (wrap64 (Int.tdiv a0 a1)))))) = some r := h
  clear h
  by_cases c3 : a1 = 0
  · rw [if_pos c3] at H
    exact absurd H (by simp)
  · rw [if_neg c3] at H
    have c3b0 : (a1 == 0) = false := beq_eq_false_iff_ne.mpr c3
    have c3b1 : (a1 != 0) = true := bne_iff_ne.mpr c3
    by_cases c4 : (Int.tmod a0 a1) = 0
    · rw [if_pos c4] at H
      have c4b0 : ((Int.tmod a0 a1) == 0) = true := beq_iff_eq.mpr c4
      have c4b1 : ((Int.tmod a0 a1) != 0) = false := bne_eq_false_iff_eq.mpr c4
      clear c4
      obtain rfl := Option.some.inj H
      go_enter Try.func77, Try.ntmps77
      go_wp2
      go_ret
      exact ⟨by first | rfl | (simp; done) | (simp [*]; done), by repeat (first | exact Drawn0.refl _ | apply Drawn0.step)⟩
    · rw [if_neg c4] at H
      have c4b0 : ((Int.tmod a0 a1) == 0) = false := beq_eq_false_iff_ne.mpr c4
      have c4b1 : ((Int.tmod a0 a1) != 0) = true := bne_iff_ne.mpr c4
      by_cases c5 : ((decide (a0 < 0)) != (decide (a1 < 0))) = true
      · rw [if_pos c5] at H
        have c5b0 : ((decide (a0 < 0)) != (decide (a1 < 0))) = true := c5
        (try (have c5b1 : decide ((decide (a0 < 0)) = (decide (a1 < 0))) = false := by simpa using c5))
        (try (have c5b2 : ((decide (a0 < 0)) == (decide (a1 < 0))) = false := by simpa using c5))
        (try (have c5b3 : ¬ ((decide (a0 < 0)) = (decide (a1 < 0))) := by simpa using c5))
        clear c5
        obtain rfl := Option.some.inj H
        go_enter Try.func77, Try.ntmps77
        go_wp2
        go_ret
        exact ⟨by first | rfl | (simp; done) | (simp [*]; done), by repeat (first | exact Drawn0.refl _ | apply Drawn0.step)⟩
      · rw [if_neg c5] at H
        have c5b0 : ((decide (a0 < 0)) != (decide (a1 < 0))) = false := by simpa using c5
        (try (have c5b1 : decide ((decide (a0 < 0)) = (decide (a1 < 0))) = true := by simpa using c5))
        (try (have c5b2 : ((decide (a0 < 0)) == (decide (a1 < 0))) = true := by simpa using c5))
        clear c5
        obtain rfl := Option.some.inj H
        go_enter Try.func77, Try.ntmps77
        go_wp2
        go_ret
        exact ⟨by first | rfl | (simp; done) | (simp [*]; done), by repeat (first | exact Drawn0.refl _ | apply Drawn0.step)⟩

/-! ### spec_l04Alike: function 56 -/
mutual
def spec_l04Alike.l0 : Nat → List Int → List Int → Int → Option (Int × Bool)
  | 0, _, _, _ => none
  | k + 1, x0, x1, x6 => if x6 < (x1.length : Int) then (if 0 ≤ x6 then (if (rd x1 x6) = 0 then (some (0, false)) else (if 0 < (x1.length : Int) then (if ((decide ((rd x1 x6) > 0)) != (decide ((rd x1 0) > 0))) = true then (some (0, false)) else (spec_l04Alike.l0 k x0 x1 (wrap64 (x6 + 1)))) else (none))) else (none)) else (if 0 < (x0.length : Int) then (if 0 < (x1.length : Int) then ((spec_l04Floor.f (rd x0 0) (rd x1 0)).bind fun t151 => (spec_l04Alike.l1 k x0 x1 t151 1)) else (none)) else (none))
def spec_l04Alike.l1 : Nat → List Int → List Int → Int → Int → Option (Int × Bool)
  | 0, _, _, _, _ => none
  | k + 1, x0, x1, x7, x8 => if x8 < (x1.length : Int) then (if 0 ≤ x8 then (if x8 < (x0.length : Int) then ((spec_l04Floor.f (rd x0 x8) (rd x1 x8)).bind fun t154 => (if t154 = x7 then (spec_l04Alike.l1 k x0 x1 x7 (wrap64 (x8 + 1))) else (some (0, false)))) else (none)) else (none)) else (some (x7, true))
end
def spec_l04Alike.f (k : Nat) (l0 : List Int) (l1 : List Int) : Option (Int × Bool) := spec_l04Alike.l0 k l0 l1 0
theorem spec_l04Alike.mono_l : ∀ k, (∀ y0 y1 y2, LeO (spec_l04Alike.l0 k y0 y1 y2) (spec_l04Alike.l0 (k + 1) y0 y1 y2)) ∧ (∀ y0 y1 y2 y3, LeO (spec_l04Alike.l1 k y0 y1 y2 y3) (spec_l04Alike.l1 (k + 1) y0 y1 y2 y3))
  | 0 => ⟨fun _ _ _ r h => by simp [spec_l04Alike.l0] at h, fun _ _ _ _ r h => by simp [spec_l04Alike.l1] at h⟩
  | k + 1 => by
    obtain ⟨ih0, ih1⟩ := spec_l04Alike.mono_l k
    refine ⟨?_, ?_⟩
    · intro y0 y1 y2
      unfold spec_l04Alike.l0
      repeat' first
      | (with_reducible exact ih0 _ _ _)
      | (with_reducible exact ih1 _ _ _ _)
      | (with_reducible exact LeO.refl _)
      | (with_reducible exact LeO.none _)
      | (with_reducible refine LeO.ite ?_ ?_)
      | (with_reducible refine LeO.bind ?_ (fun _ => ?_))
      | exact ih0 _ _ _
      | exact ih1 _ _ _ _
      | exact LeO.none _
      | refine LeO.ite ?_ ?_
      | refine LeO.bind ?_ (fun _ => ?_)
    · intro y0 y1 y2 y3
      unfold spec_l04Alike.l1
      repeat' first
      | (with_reducible exact ih0 _ _ _)
      | (with_reducible exact ih1 _ _ _ _)
      | (with_reducible exact LeO.refl _)
      | (with_reducible exact LeO.none _)
      | (with_reducible refine LeO.ite ?_ ?_)
      | (with_reducible refine LeO.bind ?_ (fun _ => ?_))
      | exact ih0 _ _ _
      | exact ih1 _ _ _ _
      | exact LeO.none _
      | refine LeO.ite ?_ ?_
      | refine LeO.bind ?_ (fun _ => ?_)
theorem spec_l04Alike.mono : ∀ a0 a1 k, LeO (spec_l04Alike.f k a0 a1) (spec_l04Alike.f (k + 1) a0 a1) := by
  intro a0 a1 k
  obtain ⟨ih0, ih1⟩ := spec_l04Alike.mono_l k
  unfold spec_l04Alike.f
  repeat' first
      | (with_reducible exact ih0 _ _ _)
      | (with_reducible exact ih1 _ _ _ _)
      | (with_reducible exact LeO.refl _)
      | (with_reducible exact LeO.none _)
      | (with_reducible refine LeO.ite ?_ ?_)
      | (with_reducible refine LeO.bind ?_ (fun _ => ?_))
      | exact ih0 _ _ _
      | exact ih1 _ _ _ _
      | exact LeO.none _
      | refine LeO.ite ?_ ?_
      | refine LeO.bind ?_ (fun _ => ?_)
set_option maxHeartbeats 8000000 in
set_option maxRecDepth 100000 in
theorem spec_l04Alike.calls (k : Nat) (A0 : Option Addr) (c0 : Nat) (l0 : List Int) (A1 : Option Addr) (c1 : Nat) (l1 : List Int) (r1 : Int) (r2 : Bool) (w : World) (hr0 : Kd.C (Kd.int .i64) w A0 l0.length l0) (hc0 : l0.length ≤ c0) (hr1 : Kd.C (Kd.int .i64) w A1 l1.length l1) (hc1 : l1.length ≤ c1) (h : spec_l04Alike.f k l0 l1 = some (r1, r2)) :
    Calls Try.prog 56 #[.slice A0 l0.length c0, .slice A1 l1.length c1] w fun e w' => e = .returned (.tuple #[.int .i64 r1, .bool r2]) ∧ Drawn0 w w' := by
  have HR0 := Aside0.mk hr0
  have HC0 := Aside0.mk hc0
  clear hr0 hc0
  have HR1 := Aside0.mk hr1
  have HC1 := Aside0.mk hc1
  clear hr1 hc1
  have H : (spec_l04Alike.l0 k l0 l1 0) = some (r1, r2) := h
  clear h
  have H' := Aside0.mk H
  clear H
  go_enter Try.func56, Try.ntmps56
  go_wp2
  repeat (go_quiet (fail); try go_wp2)
  go_loopg [6] k (fun kq v6 w' => ∃ (x6_1 : Int), v6 = .int .i64 x6_1 ∧ Aside0 (spec_l04Alike.l0 kq l0 l1 x6_1 = some (r1, r2)) ∧ Aside0 (kq ≤ k) ∧ Drawn0 w w')
  case atStart => exact ⟨(0), (by first | rfl | (simp; done) | (simp [*]; done)), H', ⟨Nat.le_refl _⟩, by repeat (first | exact Drawn0.refl _ | apply Drawn0.step)⟩
  case round =>
    clear H'
    try clear c1
    try clear p2
    obtain ⟨x6_1, rfl, HA, HK1, ⟨m1, rfl⟩⟩ := hrel
    cases gk with
    | zero => exact absurd HA.out (by simp [spec_l04Alike.l0])
    | succ k1 =>
      have H := HA.out
      clear HA
      simp only [spec_l04Alike.l0] at H
      by_cases c3 : x6_1 < (l1.length : Int)
      · rw [if_pos c3] at H
        have c3b0 : decide (x6_1 < (l1.length : Int)) = true := decide_eq_true c3
        clear c3
        by_cases c4 : 0 ≤ x6_1
        · rw [if_pos c4] at H
          have c4b0 : decide (0 ≤ x6_1) = true := decide_eq_true c4
          clear c4
          by_cases c5 : (rd l1 x6_1) = 0
          · rw [if_pos c5] at H
            have c5b0 : ((rd l1 x6_1) == 0) = true := beq_iff_eq.mpr c5
            have c5b1 : ((rd l1 x6_1) != 0) = false := bne_eq_false_iff_eq.mpr c5
            clear c5
            simp only [Option.some.injEq, Prod.mk.injEq] at H
            obtain ⟨rfl, rfl⟩ := H
            have p146 : 0 ≤ (x6_1 : Int) := of_decide_eq_true (by first | (with_reducible assumption) | assumption)
            have q146 : x6_1 < (l1.length : Int) := of_decide_eq_true (by first | (with_reducible assumption) | assumption)
            obtain ⟨ad146, e146, hx146_0⟩ := Kd.at_int HR1.out x6_1 p146 q146
            cases e146
            replace p146 := eq_true p146
            replace q146 := eq_true q146
            go_wp2
            repeat (go_quiet (fail); try go_wp2)
            go_ret2
            exact ⟨by first | rfl | (simp; done) | (simp [*]; done), by repeat (first | exact Drawn0.refl _ | apply Drawn0.step)⟩
          · rw [if_neg c5] at H
            have c5b0 : ((rd l1 x6_1) == 0) = false := beq_eq_false_iff_ne.mpr c5
            have c5b1 : ((rd l1 x6_1) != 0) = true := bne_iff_ne.mpr c5
            by_cases c6 : 0 < (l1.length : Int)
            · rw [if_pos c6] at H
              have c6b0 : decide (0 < (l1.length : Int)) = true := decide_eq_true c6
              have c6b1 : decide (0 < l1.length) = true := decide_eq_true (by omega)
              clear c6
              by_cases c7 : ((decide ((rd l1 x6_1) > 0)) != (decide ((rd l1 0) > 0))) = true
              · rw [if_pos c7] at H
                have c7b0 : ((decide ((rd l1 x6_1) > 0)) != (decide ((rd l1 0) > 0))) = true := c7
                (try (have c7b1 : decide ((decide ((rd l1 x6_1) > 0)) = (decide ((rd l1 0) > 0))) = false := by simpa using c7))
                (try (have c7b2 : ((decide ((rd l1 x6_1) > 0)) == (decide ((rd l1 0) > 0))) = false := by simpa using c7))
                (try (have c7b3 : ¬ ((decide ((rd l1 x6_1) > 0)) = (decide ((rd l1 0) > 0))) := by simpa using c7))
                clear c7
                simp only [Option.some.injEq, Prod.mk.injEq] at H
                obtain ⟨rfl, rfl⟩ := H
                have p146 : 0 ≤ (x6_1 : Int) := of_decide_eq_true (by first | (with_reducible assumption) | assumption)
                have q146 : x6_1 < (l1.length : Int) := of_decide_eq_true (by first | (with_reducible assumption) | assumption)
                obtain ⟨ad146, e146, hx146_0⟩ := Kd.at_int HR1.out x6_1 p146 q146
                cases e146
                replace p146 := eq_true p146
                replace q146 := eq_true q146
                have p147 : 0 ≤ (x6_1 : Int) := of_decide_eq_true (by first | (with_reducible assumption) | assumption)
                have q147 : x6_1 < (l1.length : Int) := of_decide_eq_true (by first | (with_reducible assumption) | assumption)
                obtain ⟨ad147, e147, hx147_0⟩ := Kd.at_int HR1.out x6_1 p147 q147
                obtain rfl : ad146 = ad147 := (by injection e147)
                replace p147 := eq_true p147
                replace q147 := eq_true q147
                have p148 : 0 ≤ (0 : Int) := (by omega)
                have q148 : 0 < (l1.length : Int) := of_decide_eq_true (by first | (with_reducible assumption) | assumption)
                obtain ⟨ad148, e148, hx148_0⟩ := Kd.at_int HR1.out 0 p148 q148
                obtain rfl : ad146 = ad148 := (by injection e148)
                have qi148 : (0 < l1.length) = True := eq_true (by omega)
                (try rw [show ((0 : Int)).toNat = 0 from rfl] at hx148_0)
                (try rw [Addr.add_zero'] at hx148_0)
                replace p148 := eq_true p148
                replace q148 := eq_true q148
                go_wp2
                repeat (go_quiet (fail); try go_wp2)
                go_ret2
                exact ⟨by first | rfl | (simp; done) | (simp [*]; done), by repeat (first | exact Drawn0.refl _ | apply Drawn0.step)⟩
              · rw [if_neg c7] at H
                have c7b0 : ((decide ((rd l1 x6_1) > 0)) != (decide ((rd l1 0) > 0))) = false := by simpa using c7
                (try (have c7b1 : decide ((decide ((rd l1 x6_1) > 0)) = (decide ((rd l1 0) > 0))) = true := by simpa using c7))
                (try (have c7b2 : ((decide ((rd l1 x6_1) > 0)) == (decide ((rd l1 0) > 0))) = true := by simpa using c7))
                clear c7
                have H' := Aside0.mk H
                clear H
                have p146 : 0 ≤ (x6_1 : Int) := of_decide_eq_true (by first | (with_reducible assumption) | assumption)
                have q146 : x6_1 < (l1.length : Int) := of_decide_eq_true (by first | (with_reducible assumption) | assumption)
                obtain ⟨ad146, e146, hx146_0⟩ := Kd.at_int HR1.out x6_1 p146 q146
                cases e146
                replace p146 := eq_true p146
                replace q146 := eq_true q146
                have p147 : 0 ≤ (x6_1 : Int) := of_decide_eq_true (by first | (with_reducible assumption) | assumption)
                have q147 : x6_1 < (l1.length : Int) := of_decide_eq_true (by first | (with_reducible assumption) | assumption)
                obtain ⟨ad147, e147, hx147_0⟩ := Kd.at_int HR1.out x6_1 p147 q147
                obtain rfl : ad146 = ad147 := (by injection e147)
                replace p147 := eq_true p147
                replace q147 := eq_true q147
                have p148 : 0 ≤ (0 : Int) := (by omega)
                have q148 : 0 < (l1.length : Int) := of_decide_eq_true (by first | (with_reducible assumption) | assumption)
                obtain ⟨ad148, e148, hx148_0⟩ := Kd.at_int HR1.out 0 p148 q148
                obtain rfl : ad146 = ad148 := (by injection e148)
                have qi148 : (0 < l1.length) = True := eq_true (by omega)
                (try rw [show ((0 : Int)).toNat = 0 from rfl] at hx148_0)
                (try rw [Addr.add_zero'] at hx148_0)
                replace p148 := eq_true p148
                replace q148 := eq_true q148
                go_wp2
                repeat (go_quiet (fail); try go_wp2)
                go_roundg k1
                case measure => have := HK1.out; omega
                case rel => exact ⟨(wrap64 (x6_1 + 1)), (by first | rfl | (simp; done) | (simp [*]; done)), H', ⟨by have := HK1.out; omega⟩, by repeat (first | exact Drawn0.refl _ | apply Drawn0.step)⟩
            · rw [if_neg c6] at H
              exact absurd H (by simp)
        · rw [if_neg c4] at H
          exact absurd H (by simp)
      · rw [if_neg c3] at H
        have c3b0 : decide (x6_1 < (l1.length : Int)) = false := decide_eq_false c3
        clear c3
        by_cases c8 : 0 < (l0.length : Int)
        · rw [if_pos c8] at H
          have c8b0 : decide (0 < (l0.length : Int)) = true := decide_eq_true c8
          have c8b1 : decide (0 < l0.length) = true := decide_eq_true (by omega)
          clear c8
          by_cases c9 : 0 < (l1.length : Int)
          · rw [if_pos c9] at H
            have c9b0 : decide (0 < (l1.length : Int)) = true := decide_eq_true c9
            have c9b1 : decide (0 < l1.length) = true := decide_eq_true (by omega)
            clear c9
            replace H := Option.bind_eq_some_iff.mp H
            obtain ⟨t151, A100, H⟩ := H
            replace H : (spec_l04Alike.l1 k1 l0 l1 t151 1) = some (r1, r2) := H
            have A10 := Aside0.mk A100
            clear A100
            have H' := Aside0.mk H
            clear H
            have p149 : 0 ≤ (0 : Int) := (by omega)
            have q149 : 0 < (l0.length : Int) := of_decide_eq_true (by first | (with_reducible assumption) | assumption)
            obtain ⟨ad149, e149, hx149_0⟩ := Kd.at_int HR0.out 0 p149 q149
            cases e149
            have qi149 : (0 < l0.length) = True := eq_true (by omega)
            (try rw [show ((0 : Int)).toNat = 0 from rfl] at hx149_0)
            (try rw [Addr.add_zero'] at hx149_0)
            replace p149 := eq_true p149
            replace q149 := eq_true q149
            have p150 : 0 ≤ (0 : Int) := (by omega)
            have q150 : 0 < (l1.length : Int) := of_decide_eq_true (by first | (with_reducible assumption) | assumption)
            obtain ⟨ad150, e150, hx150_0⟩ := Kd.at_int HR1.out 0 p150 q150
            cases e150
            have qi150 : (0 < l1.length) = True := eq_true (by omega)
            (try rw [show ((0 : Int)).toNat = 0 from rfl] at hx150_0)
            (try rw [Addr.add_zero'] at hx150_0)
            replace p150 := eq_true p150
            replace q150 := eq_true q150
            go_wp2_with (first | (go_at_call 77; (with_reducible refine (spec_l04Floor.calls (rd l0 0) (rd l1 0) t151 _ A10.out).mono ?_); rintro e w' ⟨rfl, ⟨nd, rfl⟩⟩; (try first | exact ⟨rfl, _, World.drewN_drewN _ _ _⟩ | exact ⟨rfl, _, Eq.trans (World.drewN_drewN _ _ _) (congrArg (World.drewN _) (Nat.add_assoc _ _ _))⟩)))
            repeat (go_quiet (first | (go_at_call 77; (with_reducible refine (spec_l04Floor.calls (rd l0 0) (rd l1 0) t151 _ A10.out).mono ?_); rintro e w' ⟨rfl, ⟨nd, rfl⟩⟩; (try first | exact ⟨rfl, _, World.drewN_drewN _ _ _⟩ | exact ⟨rfl, _, Eq.trans (World.drewN_drewN _ _ _) (congrArg (World.drewN _) (Nat.add_assoc _ _ _))⟩))); try go_wp2_with (first | (go_at_call 77; (with_reducible refine (spec_l04Floor.calls (rd l0 0) (rd l1 0) t151 _ A10.out).mono ?_); rintro e w' ⟨rfl, ⟨nd, rfl⟩⟩; (try first | exact ⟨rfl, _, World.drewN_drewN _ _ _⟩ | exact ⟨rfl, _, Eq.trans (World.drewN_drewN _ _ _) (congrArg (World.drewN _) (Nat.add_assoc _ _ _))⟩))))
            go_loopg [8] k1 (fun kq v8 w' => ∃ (x8_2 : Int), v8 = .int .i64 x8_2 ∧ Aside0 (spec_l04Alike.l1 kq l0 l1 t151 x8_2 = some (r1, r2)) ∧ Aside0 (kq ≤ k1) ∧ Drawn0 w w')
            case atStart => exact ⟨(1), (by first | rfl | (simp; done) | (simp [*]; done)), H', ⟨Nat.le_refl _⟩, by repeat (first | exact Drawn0.refl _ | apply Drawn0.step)⟩
            case round =>
              clear H'
              try clear c1
              try clear p1
              try clear q1
              try clear hx1
              try clear qi1
              try clear p2
              try clear c3
              try clear c3b0
              try clear c4
              try clear c4b0
              try clear c5
              try clear c5b0
              try clear c5b1
              try clear c6
              try clear c6b0
              try clear c6b1
              try clear p6
              try clear c7
              try clear c7b0
              try clear c7b1
              try clear c7b2
              try clear c8
              try clear c8b0
              try clear c8b1
              try clear c9
              try clear c9b0
              try clear c9b1
              try clear hx146_0
              try clear hx147_0
              try clear hx148_0
              try clear hx149_0
              try clear hx150_0
              try clear p146
              try clear p147
              try clear p148
              try clear p149
              try clear p150
              try clear p2
              try clear q146
              try clear q147
              try clear q148
              try clear q149
              try clear q150
              obtain ⟨x8_2, rfl, HA, HK2, ⟨m2, rfl⟩⟩ := hrel
              cases gk with
              | zero => exact absurd HA.out (by simp [spec_l04Alike.l1])
              | succ k2 =>
                have H := HA.out
                clear HA
                simp only [spec_l04Alike.l1] at H
                by_cases c11 : x8_2 < (l1.length : Int)
                · rw [if_pos c11] at H
                  have c11b0 : decide (x8_2 < (l1.length : Int)) = true := decide_eq_true c11
                  clear c11
                  by_cases c12 : 0 ≤ x8_2
                  · rw [if_pos c12] at H
                    have c12b0 : decide (0 ≤ x8_2) = true := decide_eq_true c12
                    clear c12
                    by_cases c13 : x8_2 < (l0.length : Int)
                    · rw [if_pos c13] at H
                      have c13b0 : decide (x8_2 < (l0.length : Int)) = true := decide_eq_true c13
                      clear c13
                      replace H := Option.bind_eq_some_iff.mp H
                      obtain ⟨t154, A140, H⟩ := H
                      replace H : (if t154 = t151 then (spec_l04Alike.l1 k2 l0 l1 t151 (wrap64 (x8_2 + 1))) else (some (0, false))) = some (r1, r2) := H
                      have A14 := Aside0.mk A140
                      clear A140
                      by_cases c15 : t154 = t151
                      · rw [if_pos c15] at H
                        have c15b0 : (t154 == t151) = true := beq_iff_eq.mpr c15
                        have c15b1 : (t154 != t151) = false := bne_eq_false_iff_eq.mpr c15
                        clear c15
                        have H' := Aside0.mk H
                        clear H
                        have p152 : 0 ≤ (x8_2 : Int) := of_decide_eq_true (by first | (with_reducible assumption) | assumption)
                        have q152 : x8_2 < (l0.length : Int) := of_decide_eq_true (by first | (with_reducible assumption) | assumption)
                        obtain ⟨ad152, e152, hx152_0⟩ := Kd.at_int HR0.out x8_2 p152 q152
                        obtain rfl : ad149 = ad152 := (by injection e152)
                        replace p152 := eq_true p152
                        replace q152 := eq_true q152
                        have p153 : 0 ≤ (x8_2 : Int) := of_decide_eq_true (by first | (with_reducible assumption) | assumption)
                        have q153 : x8_2 < (l1.length : Int) := of_decide_eq_true (by first | (with_reducible assumption) | assumption)
                        obtain ⟨ad153, e153, hx153_0⟩ := Kd.at_int HR1.out x8_2 p153 q153
                        obtain rfl : ad150 = ad153 := (by injection e153)
                        replace p153 := eq_true p153
                        replace q153 := eq_true q153
                        go_wp2_with (first | (go_at_call 77; (with_reducible refine (spec_l04Floor.calls (rd l0 x8_2) (rd l1 x8_2) t154 _ A14.out).mono ?_); rintro e w' ⟨rfl, ⟨nd, rfl⟩⟩; (try first | exact ⟨rfl, _, World.drewN_drewN _ _ _⟩ | exact ⟨rfl, _, Eq.trans (World.drewN_drewN _ _ _) (congrArg (World.drewN _) (Nat.add_assoc _ _ _))⟩)))
                        repeat (go_quiet (first | (go_at_call 77; (with_reducible refine (spec_l04Floor.calls (rd l0 x8_2) (rd l1 x8_2) t154 _ A14.out).mono ?_); rintro e w' ⟨rfl, ⟨nd, rfl⟩⟩; (try first | exact ⟨rfl, _, World.drewN_drewN _ _ _⟩ | exact ⟨rfl, _, Eq.trans (World.drewN_drewN _ _ _) (congrArg (World.drewN _) (Nat.add_assoc _ _ _))⟩))); try go_wp2_with (first | (go_at_call 77; (with_reducible refine (spec_l04Floor.calls (rd l0 x8_2) (rd l1 x8_2) t154 _ A14.out).mono ?_); rintro e w' ⟨rfl, ⟨nd, rfl⟩⟩; (try first | exact ⟨rfl, _, World.drewN_drewN _ _ _⟩ | exact ⟨rfl, _, Eq.trans (World.drewN_drewN _ _ _) (congrArg (World.drewN _) (Nat.add_assoc _ _ _))⟩))))
                        go_roundg k2
                        case measure => have := HK1.out; have := HK2.out; omega
                        case rel => exact ⟨(wrap64 (x8_2 + 1)), (by first | rfl | (simp; done) | (simp [*]; done)), H', ⟨by have := HK1.out; have := HK2.out; omega⟩, by repeat (first | exact Drawn0.refl _ | apply Drawn0.step)⟩
                      · rw [if_neg c15] at H
                        have c15b0 : (t154 == t151) = false := beq_eq_false_iff_ne.mpr c15
                        have c15b1 : (t154 != t151) = true := bne_iff_ne.mpr c15
                        simp only [Option.some.injEq, Prod.mk.injEq] at H
                        obtain ⟨rfl, rfl⟩ := H
                        have p152 : 0 ≤ (x8_2 : Int) := of_decide_eq_true (by first | (with_reducible assumption) | assumption)
                        have q152 : x8_2 < (l0.length : Int) := of_decide_eq_true (by first | (with_reducible assumption) | assumption)
                        obtain ⟨ad152, e152, hx152_0⟩ := Kd.at_int HR0.out x8_2 p152 q152
                        obtain rfl : ad149 = ad152 := (by injection e152)
                        replace p152 := eq_true p152
                        replace q152 := eq_true q152
                        have p153 : 0 ≤ (x8_2 : Int) := of_decide_eq_true (by first | (with_reducible assumption) | assumption)
                        have q153 : x8_2 < (l1.length : Int) := of_decide_eq_true (by first | (with_reducible assumption) | assumption)
                        obtain ⟨ad153, e153, hx153_0⟩ := Kd.at_int HR1.out x8_2 p153 q153
                        obtain rfl : ad150 = ad153 := (by injection e153)
                        replace p153 := eq_true p153
                        replace q153 := eq_true q153
                        go_wp2_with (first | (go_at_call 77; (with_reducible refine (spec_l04Floor.calls (rd l0 x8_2) (rd l1 x8_2) t154 _ A14.out).mono ?_); rintro e w' ⟨rfl, ⟨nd, rfl⟩⟩; (try first | exact ⟨rfl, _, World.drewN_drewN _ _ _⟩ | exact ⟨rfl, _, Eq.trans (World.drewN_drewN _ _ _) (congrArg (World.drewN _) (Nat.add_assoc _ _ _))⟩)))
                        repeat (go_quiet (first | (go_at_call 77; (with_reducible refine (spec_l04Floor.calls (rd l0 x8_2) (rd l1 x8_2) t154 _ A14.out).mono ?_); rintro e w' ⟨rfl, ⟨nd, rfl⟩⟩; (try first | exact ⟨rfl, _, World.drewN_drewN _ _ _⟩ | exact ⟨rfl, _, Eq.trans (World.drewN_drewN _ _ _) (congrArg (World.drewN _) (Nat.add_assoc _ _ _))⟩))); try go_wp2_with (first | (go_at_call 77; (with_reducible refine (spec_l04Floor.calls (rd l0 x8_2) (rd l1 x8_2) t154 _ A14.out).mono ?_); rintro e w' ⟨rfl, ⟨nd, rfl⟩⟩; (try first | exact ⟨rfl, _, World.drewN_drewN _ _ _⟩ | exact ⟨rfl, _, Eq.trans (World.drewN_drewN _ _ _) (congrArg (World.drewN _) (Nat.add_assoc _ _ _))⟩))))
                        go_ret2
                        exact ⟨by first | rfl | (simp; done) | (simp [*]; done), by repeat (first | exact Drawn0.refl _ | apply Drawn0.step)⟩
                    · rw [if_neg c13] at H
                      exact absurd H (by simp)
                  · rw [if_neg c12] at H
                    exact absurd H (by simp)
                · rw [if_neg c11] at H
                  have c11b0 : decide (x8_2 < (l1.length : Int)) = false := decide_eq_false c11
                  clear c11
                  simp only [Option.some.injEq, Prod.mk.injEq] at H
                  obtain ⟨rfl, rfl⟩ := H
                  go_wp2
                  repeat (go_quiet (fail); try go_wp2)
                  go_ret2
                  exact ⟨by first | rfl | (simp; done) | (simp [*]; done), by repeat (first | exact Drawn0.refl _ | apply Drawn0.step)⟩
          · rw [if_neg c9] at H
            exact absurd H (by simp)
        · rw [if_neg c8] at H
          exact absurd H (by simp)

-- NOT PRINTED: function 57 (spec_l04Work_give)

/-! ### spec_l04Cell: function 78 -/
def spec_l04Cell.f (a0 : Int) (a1 : Int) (a2 : Int) : Option (Int × Bool) := if a1 = 0 then ((spec_l03Size.f (wrap64 ((wrap64 (a0 * a1)) + a2))).bind fun t155 => (some (wrap64 ((wrap64 (a0 * a1)) + a2), decide (t155 ≤ 1000000000000000)))) else ((spec_l03Size.f a0).bind fun t156 => ((spec_l03Size.f a1).bind fun t157 => (if t157 = 0 then (none) else (if t156 > (wrap64 (Int.tdiv (2000000000000000 : Int) t157)) then (some (0, false)) else ((spec_l03Size.f (wrap64 ((wrap64 (a0 * a1)) + a2))).bind fun t158 => (some (wrap64 ((wrap64 (a0 * a1)) + a2), decide (t158 ≤ 1000000000000000))))))))
set_option maxHeartbeats 8000000 in
set_option maxRecDepth 100000 in
theorem spec_l04Cell.calls (a0 : Int) (a1 : Int) (a2 : Int) (r1 : Int) (r2 : Bool) (w : World) (h : spec_l04Cell.f a0 a1 a2 = some (r1, r2)) :
    Calls Try.prog 78 #[.int .i64 a0, .int .i64 a1, .int .i64 a2] w fun e w' => e = .returned (.tuple #[.int .i64 r1, .bool r2]) ∧ Drawn0 w w' := by
  have H : (if a1 = 0 then ((spec_l03Size.f (wrap64 ((wrap64 (a0 * a1)) + a2))).bind fun t155 => (some (wrap64 ((wrap64 (a0 * a1)) + a2), decide (t155 ≤ 1000000000000000)))) else ((spec_l03Size.f a0).bind fun t156 => ((spec_l03Size.f a1).bind fun t157 => (if t157 = 0 then (none) else (if t156 > (wrap64 (Int.tdiv (2000000000000000 : Int) t157)) then (some (0, false)) else ((spec_l03Size.f (wrap64 ((wrap64 (a0 * a1)) + a2))).bind fun t158 => (some (wrap64 ((wrap64 (a0 * a1)) + a2), decide (t158 ≤ 1000000000000000))))))))) = some (r1, r2) := h
  clear h
  by_cases c4 : a1 = 0
  · rw [if_pos c4] at H
    have c4b0 : (a1 == 0) = true := beq_iff_eq.mpr c4
    have c4b1 : (a1 != 0) = false := bne_eq_false_iff_eq.mpr c4
    clear c4
    replace H := Option.bind_eq_some_iff.mp H
    obtain ⟨t155, A50, H⟩ := H
    replace H : (some (wrap64 ((wrap64 (a0 * a1)) + a2), decide (t155 ≤ 1000000000000000))) = some (r1, r2) := H
    have A5 := Aside0.mk A50
    clear A50
    simp only [Option.some.injEq, Prod.mk.injEq] at H
    obtain ⟨rfl, rfl⟩ := H
    go_enter Try.func78, Try.ntmps78
    go_wp2_with (first | ((with_reducible refine gate_callee (f := 73) rfl ?_); refine goesL_ (some 26) rfl rfl Try.func73 (by kernel_rfl) rfl #[.int .i64 (wrap64 ((wrap64 (a0 * a1)) + a2))] rfl (by (try simp only [List.map_toArray, List.map_cons, List.map_nil]); first | done | rfl | (simp only [List.length_drop, List.length_take]; rfl) | (simp only [List.drop_one]; done) | (simp only [List.drop_one]; rfl)) ?_; (with_reducible refine (spec_l03Size.calls (wrap64 ((wrap64 (a0 * a1)) + a2)) t155 _ A5.out).mono ?_); rintro e w' ⟨rfl, ⟨nd, rfl⟩⟩; refine ⟨_, rfl, ?_⟩))
    go_ret2
    exact ⟨by first | rfl | (simp; done) | (simp [*]; done), by repeat (first | exact Drawn0.refl _ | apply Drawn0.step)⟩
  · rw [if_neg c4] at H
    have c4b0 : (a1 == 0) = false := beq_eq_false_iff_ne.mpr c4
    have c4b1 : (a1 != 0) = true := bne_iff_ne.mpr c4
    replace H := Option.bind_eq_some_iff.mp H
    obtain ⟨t156, A60, H⟩ := H
    replace H : ((spec_l03Size.f a1).bind fun t157 => (if t157 = 0 then (none) else (if t156 > (wrap64 (Int.tdiv (2000000000000000 : Int) t157)) then (some (0, false)) else ((spec_l03Size.f (wrap64 ((wrap64 (a0 * a1)) + a2))).bind fun t158 => (some (wrap64 ((wrap64 (a0 * a1)) + a2), decide (t158 ≤ 1000000000000000))))))) = some (r1, r2) := H
    have A6 := Aside0.mk A60
    clear A60
    replace H := Option.bind_eq_some_iff.mp H
    obtain ⟨t157, A70, H⟩ := H
    replace H : (if t157 = 0 then (none) else (if t156 > (wrap64 (Int.tdiv (2000000000000000 : Int) t157)) then (some (0, false)) else ((spec_l03Size.f (wrap64 ((wrap64 (a0 * a1)) + a2))).bind fun t158 => (some (wrap64 ((wrap64 (a0 * a1)) + a2), decide (t158 ≤ 1000000000000000)))))) = some (r1, r2) := H
    have A7 := Aside0.mk A70
    clear A70
    by_cases c8 : t157 = 0
    · rw [if_pos c8] at H
      exact absurd H (by simp)
    · rw [if_neg c8] at H
      have c8b0 : (t157 == 0) = false := beq_eq_false_iff_ne.mpr c8
      have c8b1 : (t157 != 0) = true := bne_iff_ne.mpr c8
      by_cases c9 : t156 > (wrap64 (Int.tdiv (2000000000000000 : Int) t157))
      · rw [if_pos c9] at H
        have c9b0 : decide ((wrap64 (Int.tdiv (2000000000000000 : Int) t157)) < t156) = true := decide_eq_true c9
        clear c9
        simp only [Option.some.injEq, Prod.mk.injEq] at H
        obtain ⟨rfl, rfl⟩ := H
        go_enter Try.func78, Try.ntmps78
        go_wp2_with (first | (go_at_call 73; (with_reducible refine (spec_l03Size.calls a0 t156 _ A6.out).mono ?_); rintro e w' ⟨rfl, ⟨nd, rfl⟩⟩) | (go_at_call 73; (with_reducible refine (spec_l03Size.calls a1 t157 _ A7.out).mono ?_); rintro e w' ⟨rfl, ⟨nd, rfl⟩⟩))
        go_ret2
        exact ⟨by first | rfl | (simp; done) | (simp [*]; done), by repeat (first | exact Drawn0.refl _ | apply Drawn0.step)⟩
      · rw [if_neg c9] at H
        have c9b0 : decide ((wrap64 (Int.tdiv (2000000000000000 : Int) t157)) < t156) = false := decide_eq_false c9
        clear c9
        replace H := Option.bind_eq_some_iff.mp H
        obtain ⟨t158, A100, H⟩ := H
        replace H : (some (wrap64 ((wrap64 (a0 * a1)) + a2), decide (t158 ≤ 1000000000000000))) = some (r1, r2) := H
        have A10 := Aside0.mk A100
        clear A100
        simp only [Option.some.injEq, Prod.mk.injEq] at H
        obtain ⟨rfl, rfl⟩ := H
        go_enter Try.func78, Try.ntmps78
        go_wp2_with (first | (go_at_call 73; (with_reducible refine (spec_l03Size.calls a0 t156 _ A6.out).mono ?_); rintro e w' ⟨rfl, ⟨nd, rfl⟩⟩) | (go_at_call 73; (with_reducible refine (spec_l03Size.calls a1 t157 _ A7.out).mono ?_); rintro e w' ⟨rfl, ⟨nd, rfl⟩⟩) | ((with_reducible refine gate_callee (f := 73) rfl ?_); refine goesL_ (some 26) rfl rfl Try.func73 (by kernel_rfl) rfl #[.int .i64 (wrap64 ((wrap64 (a0 * a1)) + a2))] rfl (by (try simp only [List.map_toArray, List.map_cons, List.map_nil]); first | done | rfl | (simp only [List.length_drop, List.length_take]; rfl) | (simp only [List.drop_one]; done) | (simp only [List.drop_one]; rfl)) ?_; (with_reducible refine (spec_l03Size.calls (wrap64 ((wrap64 (a0 * a1)) + a2)) t158 _ A10.out).mono ?_); rintro e w' ⟨rfl, ⟨nd, rfl⟩⟩; refine ⟨_, rfl, ?_⟩))
        go_ret2
        exact ⟨by first | rfl | (simp; done) | (simp [*]; done), by repeat (first | exact Drawn0.refl _ | apply Drawn0.step)⟩

-- NOT PRINTED: function 58 (spec_l04Work_cell)

end Go.Proofs.Ytgldplkbacfacaa.MFnExactEightMoves
