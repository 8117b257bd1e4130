/- Functions of the program as Lean functions, and the proof that the code comes to what they say. Written by a program of this session (myprint.py). -/
import Derived.Test.YtpijklhonoekbaaMFnExactValidPartx0
import Derived.Test.YtpijklhonoekbaaMFnExactValidPartx1
namespace Go.Proofs.Ytpijklhonoekbaa.MFnExactValidPart
open Go.RowKit Go.Proofs.Ytpijklhonoekbaa.MOpen Go.Proofs.YtpijklhonoekbaaW.PrintWords Go.Proofs.YtpijklhonoekbaaW.PrintLast Go.Proofs.YtpijklhonoekbaaW.PrintMore
attribute [local go_sem] max2_int min2_int max_two min_two max_three min_three max_four min_four   -- for this text's walks alone
set_option linter.unusedVariables false
set_option linter.unusedSimpArgs false

attribute [local go_sem high] eqA39
/-! ### spec_l01Ok: function 61 -/
def spec_l01Ok.f (a0_0 : Bool) (a0_1 : Int) (a0_2 : Int) (a0_3 : Int) (a0_4 : Int) (a0_5 : Int) (a0_6 : Int) : Option (Bool) := if a0_0 = true then (some (!(a0_1 == 0) || (!(a0_2 == 0) || (!(a0_3 == 0) || (!(a0_4 == 0) || (!(a0_5 == 0) || (!(a0_6 == 0)))))))) else (some true)
set_option maxHeartbeats 8000000 in
set_option maxRecDepth 100000 in
theorem spec_l01Ok.calls (B0_ O0_ : Nat) (a0_0 : Bool) (a0_1 : Int) (a0_2 : Int) (a0_3 : Int) (a0_4 : Int) (a0_5 : Int) (a0_6 : Int) (r : Bool) (w : World) (hq0_ : w.cell? ⟨B0_, O0_, none⟩ = some (.bool a0_0) ∧ w.cell? ⟨B0_, O0_ + 1, none⟩ = some (.int .u32 a0_1) ∧ w.cell? ⟨B0_, O0_ + 2, none⟩ = some (.int .u32 a0_2) ∧ w.cell? ⟨B0_, O0_ + 3, none⟩ = some (.int .u32 a0_3) ∧ w.cell? ⟨B0_, O0_ + 4, none⟩ = some (.int .u32 a0_4) ∧ w.cell? ⟨B0_, O0_ + 5, none⟩ = some (.int .u32 a0_5) ∧ w.cell? ⟨B0_, O0_ + 6, none⟩ = some (.int .u32 a0_6)) (h : spec_l01Ok.f a0_0 a0_1 a0_2 a0_3 a0_4 a0_5 a0_6 = some r) :
    Calls Try.prog 61 #[.pointer (some ⟨B0_, O0_, none⟩)] w fun e w' => e = .returned (.bool r) ∧ Drawn0 w w' := by
  have hu39 := Try.underlying39
  have HQ0_ := Aside0.mk hq0_
  clear hq0_
  have H : (if a0_0 = true then (some (!(a0_1 == 0) || (!(a0_2 == 0) || (!(a0_3 == 0) || (!(a0_4 == 0) || (!(a0_5 == 0) || (!(a0_6 == 0)))))))) else (some true)) = some r := h
  clear h
  by_cases c2 : a0_0 = true
  · subst c2
    have H1 : (some (!(a0_1 == 0) || (!(a0_2 == 0) || (!(a0_3 == 0) || (!(a0_4 == 0) || (!(a0_5 == 0) || (!(a0_6 == 0)))))))) = some r := by rw [if_pos rfl] at H; exact H
    clear H
    have H := H1
    clear H1
    obtain rfl := Option.some.inj H
    obtain ⟨hxr3_0, hxr3_1, hxr3_2, hxr3_3, hxr3_4, hxr3_5, hxr3_6⟩ := HQ0_.out
    go_enter Try.func61, Try.ntmps61
    go_wp2
    go_ret
    exact ⟨by first | rfl | (simp; done) | (simp [*]; done), by repeat (first | exact Drawn0.refl _ | apply Drawn0.step)⟩
  · replace c2 := Bool.eq_false_iff.mpr c2
    subst c2
    have H1 : (some true) = some r := by rw [if_neg (show ¬ (false = true) by decide)] at H; exact H
    clear H
    have H := H1
    clear H1
    obtain rfl := Option.some.inj H
    obtain ⟨hxr4_0, hxr4_1, hxr4_2, hxr4_3, hxr4_4, hxr4_5, hxr4_6⟩ := HQ0_.out
    go_enter Try.func61, Try.ntmps61
    go_wp2
    go_ret
    exact ⟨by first | rfl | (simp; done) | (simp [*]; done), by repeat (first | exact Drawn0.refl _ | apply Drawn0.step)⟩

/-! ### spec_l01Cmp: function 69 -/
def spec_l01Cmp.l0 : Nat → Int → Int → Int → Int → Int → Int → Int → Int → Int → Int → Int → Int → Int → Option (Int)
  | 0, _, _, _, _, _, _, _, _, _, _, _, _, _ => none
  | k + 1, x5, x1000, x1001, x1002, x1003, x1004, x1005, x2000, x2001, x2002, x2003, x2004, x2005 => if x5 ≥ 0 then (if 0 ≤ x5 then (if x5 < 6 then (if (rd [x1000, x1001, x1002, x1003, x1004, x1005] x5) < (rd [x2000, x2001, x2002, x2003, x2004, x2005] x5) then (some (-1)) else (if (rd [x1000, x1001, x1002, x1003, x1004, x1005] x5) > (rd [x2000, x2001, x2002, x2003, x2004, x2005] x5) then (some 1) else (spec_l01Cmp.l0 k (wrap64 (x5 - 1)) x1000 x1001 x1002 x1003 x1004 x1005 x2000 x2001 x2002 x2003 x2004 x2005))) else (none)) else (none)) else (some 0)
def spec_l01Cmp.f (k : Nat) (a0_0 : Int) (a0_1 : Int) (a0_2 : Int) (a0_3 : Int) (a0_4 : Int) (a0_5 : Int) (a1_0 : Int) (a1_1 : Int) (a1_2 : Int) (a1_3 : Int) (a1_4 : Int) (a1_5 : Int) : Option (Int) := spec_l01Cmp.l0 k 5 a0_0 a0_1 a0_2 a0_3 a0_4 a0_5 a1_0 a1_1 a1_2 a1_3 a1_4 a1_5
theorem spec_l01Cmp.mono_l : ∀ k, (∀ y0 y1 y2 y3 y4 y5 y6 y7 y8 y9 y10 y11 y12, LeO (spec_l01Cmp.l0 k y0 y1 y2 y3 y4 y5 y6 y7 y8 y9 y10 y11 y12) (spec_l01Cmp.l0 (k + 1) y0 y1 y2 y3 y4 y5 y6 y7 y8 y9 y10 y11 y12))
  | 0 => fun _ _ _ _ _ _ _ _ _ _ _ _ _ r h => by simp [spec_l01Cmp.l0] at h
  | k + 1 => by
    have ih0 := spec_l01Cmp.mono_l k
    · intro y0 y1 y2 y3 y4 y5 y6 y7 y8 y9 y10 y11 y12
      unfold spec_l01Cmp.l0
      repeat' first
      | (with_reducible exact ih0 _ _ _ _ _ _ _ _ _ _ _ _ _)
      | (with_reducible exact LeO.refl _)
      | (with_reducible exact LeO.none _)
      | (with_reducible refine LeO.ite ?_ ?_)
      | (with_reducible refine LeO.bind ?_ (fun _ => ?_))
      | exact ih0 _ _ _ _ _ _ _ _ _ _ _ _ _
      | exact LeO.none _
      | refine LeO.ite ?_ ?_
      | refine LeO.bind ?_ (fun _ => ?_)
theorem spec_l01Cmp.mono : ∀ a0 a1 a2 a3 a4 a5 a6 a7 a8 a9 a10 a11 k, LeO (spec_l01Cmp.f k a0 a1 a2 a3 a4 a5 a6 a7 a8 a9 a10 a11) (spec_l01Cmp.f (k + 1) a0 a1 a2 a3 a4 a5 a6 a7 a8 a9 a10 a11) := by
  intro a0 a1 a2 a3 a4 a5 a6 a7 a8 a9 a10 a11 k
  have ih0 := spec_l01Cmp.mono_l k
  unfold spec_l01Cmp.f
  repeat' first
      | (with_reducible exact ih0 _ _ _ _ _ _ _ _ _ _ _ _ _)
      | (with_reducible exact LeO.refl _)
      | (with_reducible exact LeO.none _)
      | (with_reducible refine LeO.ite ?_ ?_)
      | (with_reducible refine LeO.bind ?_ (fun _ => ?_))
      | exact ih0 _ _ _ _ _ _ _ _ _ _ _ _ _
      | exact LeO.none _
      | refine LeO.ite ?_ ?_
      | refine LeO.bind ?_ (fun _ => ?_)
set_option maxHeartbeats 8000000 in
set_option maxRecDepth 100000 in
theorem spec_l01Cmp.calls (k : Nat) (B0_ O0_ : Nat) (a0_0 : Int) (a0_1 : Int) (a0_2 : Int) (a0_3 : Int) (a0_4 : Int) (a0_5 : Int) (B1_ O1_ : Nat) (a1_0 : Int) (a1_1 : Int) (a1_2 : Int) (a1_3 : Int) (a1_4 : Int) (a1_5 : Int) (r : Int) (w : World) (hq0_ : w.cell? ⟨B0_, O0_, none⟩ = some (.int .u32 a0_0) ∧ w.cell? ⟨B0_, O0_ + 1, none⟩ = some (.int .u32 a0_1) ∧ w.cell? ⟨B0_, O0_ + 2, none⟩ = some (.int .u32 a0_2) ∧ w.cell? ⟨B0_, O0_ + 3, none⟩ = some (.int .u32 a0_3) ∧ w.cell? ⟨B0_, O0_ + 4, none⟩ = some (.int .u32 a0_4) ∧ w.cell? ⟨B0_, O0_ + 5, none⟩ = some (.int .u32 a0_5)) (hq1_ : w.cell? ⟨B1_, O1_, none⟩ = some (.int .u32 a1_0) ∧ w.cell? ⟨B1_, O1_ + 1, none⟩ = some (.int .u32 a1_1) ∧ w.cell? ⟨B1_, O1_ + 2, none⟩ = some (.int .u32 a1_2) ∧ w.cell? ⟨B1_, O1_ + 3, none⟩ = some (.int .u32 a1_3) ∧ w.cell? ⟨B1_, O1_ + 4, none⟩ = some (.int .u32 a1_4) ∧ w.cell? ⟨B1_, O1_ + 5, none⟩ = some (.int .u32 a1_5)) (h : spec_l01Cmp.f k a0_0 a0_1 a0_2 a0_3 a0_4 a0_5 a1_0 a1_1 a1_2 a1_3 a1_4 a1_5 = some r) :
    Calls Try.prog 69 #[.pointer (some ⟨B0_, O0_, none⟩), .pointer (some ⟨B1_, O1_, none⟩)] w fun e w' => e = .returned (.int .i64 r) ∧ Drawn0 w w' := by
  have HQ0_ := Aside0.mk hq0_
  clear hq0_
  have HQ1_ := Aside0.mk hq1_
  clear hq1_
  have H : (spec_l01Cmp.l0 k 5 a0_0 a0_1 a0_2 a0_3 a0_4 a0_5 a1_0 a1_1 a1_2 a1_3 a1_4 a1_5) = some r := h
  clear h
  have H' := Aside0.mk H
  clear H
  go_enter Try.func69, Try.ntmps69
  go_wp2
  repeat (go_quiet (fail); try go_wp2)
  go_loopg [5] k (fun kq v5 w' => ∃ (x5_1 : Int), v5 = .int .i64 x5_1 ∧ Aside0 (spec_l01Cmp.l0 kq x5_1 a0_0 a0_1 a0_2 a0_3 a0_4 a0_5 a1_0 a1_1 a1_2 a1_3 a1_4 a1_5 = some r) ∧ Aside0 (kq ≤ k) ∧ Drawn0 w w')
  case atStart => exact ⟨(5), (by first | rfl | (simp; done) | (simp [*]; done)), H', ⟨Nat.le_refl _⟩, by repeat (first | exact Drawn0.refl _ | apply Drawn0.step)⟩
  case round =>
    clear H'
    try clear q1
    try clear p2
    obtain ⟨x5_1, rfl, HA, HK1, ⟨m1, rfl⟩⟩ := hrel
    cases gk with
    | zero => exact absurd HA.out (by simp [spec_l01Cmp.l0])
    | succ k1 =>
      have H := HA.out
      clear HA
      simp only [spec_l01Cmp.l0] at H
      by_cases c3 : x5_1 ≥ 0
      · rw [if_pos c3] at H
        have c3b0 : decide (0 ≤ x5_1) = true := decide_eq_true c3
        clear c3
        by_cases c4 : 0 ≤ x5_1
        · rw [if_pos c4] at H
          have c4b0 : decide (0 ≤ x5_1) = true := decide_eq_true c4
          clear c4
          by_cases c5 : x5_1 < 6
          · rw [if_pos c5] at H
            have c5b0 : decide (x5_1 < 6) = true := decide_eq_true c5
            clear c5
            by_cases c6 : (rd [a0_0, a0_1, a0_2, a0_3, a0_4, a0_5] x5_1) < (rd [a1_0, a1_1, a1_2, a1_3, a1_4, a1_5] x5_1)
            · rw [if_pos c6] at H
              have c6b0 : decide ((rd [a0_0, a0_1, a0_2, a0_3, a0_4, a0_5] x5_1) < (rd [a1_0, a1_1, a1_2, a1_3, a1_4, a1_5] x5_1)) = true := decide_eq_true c6
              clear c6
              obtain rfl := Option.some.inj H
              obtain ⟨hxr7_0, hxr7_1, hxr7_2, hxr7_3, hxr7_4, hxr7_5⟩ := HQ0_.out
              have HP101 := Aside0.mk (show 0 ≤ (x5_1 : Int) ∧ (x5_1 : Int) < 6 from ⟨of_decide_eq_true (by first | (with_reducible assumption) | assumption), of_decide_eq_true (by first | (with_reducible assumption) | assumption)⟩)
              have hx101_0 : w.cell? ⟨B0_, O0_ + (x5_1 : Int).toNat, none⟩ = some (.int .u32 (rd [a0_0, a0_1, a0_2, a0_3, a0_4, a0_5] x5_1)) := by (obtain ⟨hz0_, hz1_, hz2_, hz3_, hz4_, hz5_⟩ := HQ0_.out; rcases (show x5_1 = 0 ∨ x5_1 = 1 ∨ x5_1 = 2 ∨ x5_1 = 3 ∨ x5_1 = 4 ∨ x5_1 = 5 from (by have h_ := HP101.out; omega)) with rfl | rfl | rfl | rfl | rfl | rfl <;> first | exact hz0_ | exact hz1_ | exact hz2_ | exact hz3_ | exact hz4_ | exact hz5_)
              have hx101_1 : w.cell? ((⟨B0_, O0_, none⟩ : Addr).add (x5_1 : Int).toNat) = some (.int .u32 (rd [a0_0, a0_1, a0_2, a0_3, a0_4, a0_5] x5_1)) := (congrArg _ (add_off _ _ _)).trans hx101_0
              have hpz101 := eq_true HP101.out.1
              have hpy101 := eq_true HP101.out.2
              obtain ⟨hxr8_0, hxr8_1, hxr8_2, hxr8_3, hxr8_4, hxr8_5⟩ := HQ1_.out
              have HP102 := Aside0.mk (show 0 ≤ (x5_1 : Int) ∧ (x5_1 : Int) < 6 from ⟨of_decide_eq_true (by first | (with_reducible assumption) | assumption), of_decide_eq_true (by first | (with_reducible assumption) | assumption)⟩)
              have hx102_0 : w.cell? ⟨B1_, O1_ + (x5_1 : Int).toNat, none⟩ = some (.int .u32 (rd [a1_0, a1_1, a1_2, a1_3, a1_4, a1_5] x5_1)) := by (obtain ⟨hz0_, hz1_, hz2_, hz3_, hz4_, hz5_⟩ := HQ1_.out; rcases (show x5_1 = 0 ∨ x5_1 = 1 ∨ x5_1 = 2 ∨ x5_1 = 3 ∨ x5_1 = 4 ∨ x5_1 = 5 from (by have h_ := HP102.out; omega)) with rfl | rfl | rfl | rfl | rfl | rfl <;> first | exact hz0_ | exact hz1_ | exact hz2_ | exact hz3_ | exact hz4_ | exact hz5_)
              have hx102_1 : w.cell? ((⟨B1_, O1_, none⟩ : Addr).add (x5_1 : Int).toNat) = some (.int .u32 (rd [a1_0, a1_1, a1_2, a1_3, a1_4, a1_5] x5_1)) := (congrArg _ (add_off _ _ _)).trans hx102_0
              have hpz102 := eq_true HP102.out.1
              have hpy102 := eq_true HP102.out.2
              go_wp2
              repeat (go_quiet (fail); try go_wp2)
              go_ret
              exact ⟨by first | rfl | (simp; done) | (simp [*]; done), by repeat (first | exact Drawn0.refl _ | apply Drawn0.step)⟩
            · rw [if_neg c6] at H
              have c6b0 : decide ((rd [a0_0, a0_1, a0_2, a0_3, a0_4, a0_5] x5_1) < (rd [a1_0, a1_1, a1_2, a1_3, a1_4, a1_5] x5_1)) = false := decide_eq_false c6
              clear c6
              by_cases c9 : (rd [a0_0, a0_1, a0_2, a0_3, a0_4, a0_5] x5_1) > (rd [a1_0, a1_1, a1_2, a1_3, a1_4, a1_5] x5_1)
              · rw [if_pos c9] at H
                have c9b0 : decide ((rd [a1_0, a1_1, a1_2, a1_3, a1_4, a1_5] x5_1) < (rd [a0_0, a0_1, a0_2, a0_3, a0_4, a0_5] x5_1)) = true := decide_eq_true c9
                clear c9
                obtain rfl := Option.some.inj H
                obtain ⟨hxr10_0, hxr10_1, hxr10_2, hxr10_3, hxr10_4, hxr10_5⟩ := HQ0_.out
                have HP101 := Aside0.mk (show 0 ≤ (x5_1 : Int) ∧ (x5_1 : Int) < 6 from ⟨of_decide_eq_true (by first | (with_reducible assumption) | assumption), of_decide_eq_true (by first | (with_reducible assumption) | assumption)⟩)
                have hx101_0 : w.cell? ⟨B0_, O0_ + (x5_1 : Int).toNat, none⟩ = some (.int .u32 (rd [a0_0, a0_1, a0_2, a0_3, a0_4, a0_5] x5_1)) := by (obtain ⟨hz0_, hz1_, hz2_, hz3_, hz4_, hz5_⟩ := HQ0_.out; rcases (show x5_1 = 0 ∨ x5_1 = 1 ∨ x5_1 = 2 ∨ x5_1 = 3 ∨ x5_1 = 4 ∨ x5_1 = 5 from (by have h_ := HP101.out; omega)) with rfl | rfl | rfl | rfl | rfl | rfl <;> first | exact hz0_ | exact hz1_ | exact hz2_ | exact hz3_ | exact hz4_ | exact hz5_)
                have hx101_1 : w.cell? ((⟨B0_, O0_, none⟩ : Addr).add (x5_1 : Int).toNat) = some (.int .u32 (rd [a0_0, a0_1, a0_2, a0_3, a0_4, a0_5] x5_1)) := (congrArg _ (add_off _ _ _)).trans hx101_0
                have hpz101 := eq_true HP101.out.1
                have hpy101 := eq_true HP101.out.2
                obtain ⟨hxr11_0, hxr11_1, hxr11_2, hxr11_3, hxr11_4, hxr11_5⟩ := HQ1_.out
                have HP102 := Aside0.mk (show 0 ≤ (x5_1 : Int) ∧ (x5_1 : Int) < 6 from ⟨of_decide_eq_true (by first | (with_reducible assumption) | assumption), of_decide_eq_true (by first | (with_reducible assumption) | assumption)⟩)
                have hx102_0 : w.cell? ⟨B1_, O1_ + (x5_1 : Int).toNat, none⟩ = some (.int .u32 (rd [a1_0, a1_1, a1_2, a1_3, a1_4, a1_5] x5_1)) := by (obtain ⟨hz0_, hz1_, hz2_, hz3_, hz4_, hz5_⟩ := HQ1_.out; rcases (show x5_1 = 0 ∨ x5_1 = 1 ∨ x5_1 = 2 ∨ x5_1 = 3 ∨ x5_1 = 4 ∨ x5_1 = 5 from (by have h_ := HP102.out; omega)) with rfl | rfl | rfl | rfl | rfl | rfl <;> first | exact hz0_ | exact hz1_ | exact hz2_ | exact hz3_ | exact hz4_ | exact hz5_)
                have hx102_1 : w.cell? ((⟨B1_, O1_, none⟩ : Addr).add (x5_1 : Int).toNat) = some (.int .u32 (rd [a1_0, a1_1, a1_2, a1_3, a1_4, a1_5] x5_1)) := (congrArg _ (add_off _ _ _)).trans hx102_0
                have hpz102 := eq_true HP102.out.1
                have hpy102 := eq_true HP102.out.2
                have HP103 := Aside0.mk (show 0 ≤ (x5_1 : Int) ∧ (x5_1 : Int) < 6 from ⟨of_decide_eq_true (by first | (with_reducible assumption) | assumption), of_decide_eq_true (by first | (with_reducible assumption) | assumption)⟩)
                have hx103_0 : w.cell? ⟨B0_, O0_ + (x5_1 : Int).toNat, none⟩ = some (.int .u32 (rd [a0_0, a0_1, a0_2, a0_3, a0_4, a0_5] x5_1)) := by (obtain ⟨hz0_, hz1_, hz2_, hz3_, hz4_, hz5_⟩ := HQ0_.out; rcases (show x5_1 = 0 ∨ x5_1 = 1 ∨ x5_1 = 2 ∨ x5_1 = 3 ∨ x5_1 = 4 ∨ x5_1 = 5 from (by have h_ := HP103.out; omega)) with rfl | rfl | rfl | rfl | rfl | rfl <;> first | exact hz0_ | exact hz1_ | exact hz2_ | exact hz3_ | exact hz4_ | exact hz5_)
                have hx103_1 : w.cell? ((⟨B0_, O0_, none⟩ : Addr).add (x5_1 : Int).toNat) = some (.int .u32 (rd [a0_0, a0_1, a0_2, a0_3, a0_4, a0_5] x5_1)) := (congrArg _ (add_off _ _ _)).trans hx103_0
                have hpz103 := eq_true HP103.out.1
                have hpy103 := eq_true HP103.out.2
                have HP104 := Aside0.mk (show 0 ≤ (x5_1 : Int) ∧ (x5_1 : Int) < 6 from ⟨of_decide_eq_true (by first | (with_reducible assumption) | assumption), of_decide_eq_true (by first | (with_reducible assumption) | assumption)⟩)
                have hx104_0 : w.cell? ⟨B1_, O1_ + (x5_1 : Int).toNat, none⟩ = some (.int .u32 (rd [a1_0, a1_1, a1_2, a1_3, a1_4, a1_5] x5_1)) := by (obtain ⟨hz0_, hz1_, hz2_, hz3_, hz4_, hz5_⟩ := HQ1_.out; rcases (show x5_1 = 0 ∨ x5_1 = 1 ∨ x5_1 = 2 ∨ x5_1 = 3 ∨ x5_1 = 4 ∨ x5_1 = 5 from (by have h_ := HP104.out; omega)) with rfl | rfl | rfl | rfl | rfl | rfl <;> first | exact hz0_ | exact hz1_ | exact hz2_ | exact hz3_ | exact hz4_ | exact hz5_)
                have hx104_1 : w.cell? ((⟨B1_, O1_, none⟩ : Addr).add (x5_1 : Int).toNat) = some (.int .u32 (rd [a1_0, a1_1, a1_2, a1_3, a1_4, a1_5] x5_1)) := (congrArg _ (add_off _ _ _)).trans hx104_0
                have hpz104 := eq_true HP104.out.1
                have hpy104 := eq_true HP104.out.2
                go_wp2
                repeat (go_quiet (fail); try go_wp2)
                go_ret
                exact ⟨by first | rfl | (simp; done) | (simp [*]; done), by repeat (first | exact Drawn0.refl _ | apply Drawn0.step)⟩
              · rw [if_neg c9] at H
                have c9b0 : decide ((rd [a1_0, a1_1, a1_2, a1_3, a1_4, a1_5] x5_1) < (rd [a0_0, a0_1, a0_2, a0_3, a0_4, a0_5] x5_1)) = false := decide_eq_false c9
                clear c9
                have H' := Aside0.mk H
                clear H
                obtain ⟨hxr12_0, hxr12_1, hxr12_2, hxr12_3, hxr12_4, hxr12_5⟩ := HQ0_.out
                have HP101 := Aside0.mk (show 0 ≤ (x5_1 : Int) ∧ (x5_1 : Int) < 6 from ⟨of_decide_eq_true (by first | (with_reducible assumption) | assumption), of_decide_eq_true (by first | (with_reducible assumption) | assumption)⟩)
                have hx101_0 : w.cell? ⟨B0_, O0_ + (x5_1 : Int).toNat, none⟩ = some (.int .u32 (rd [a0_0, a0_1, a0_2, a0_3, a0_4, a0_5] x5_1)) := by (obtain ⟨hz0_, hz1_, hz2_, hz3_, hz4_, hz5_⟩ := HQ0_.out; rcases (show x5_1 = 0 ∨ x5_1 = 1 ∨ x5_1 = 2 ∨ x5_1 = 3 ∨ x5_1 = 4 ∨ x5_1 = 5 from (by have h_ := HP101.out; omega)) with rfl | rfl | rfl | rfl | rfl | rfl <;> first | exact hz0_ | exact hz1_ | exact hz2_ | exact hz3_ | exact hz4_ | exact hz5_)
                have hx101_1 : w.cell? ((⟨B0_, O0_, none⟩ : Addr).add (x5_1 : Int).toNat) = some (.int .u32 (rd [a0_0, a0_1, a0_2, a0_3, a0_4, a0_5] x5_1)) := (congrArg _ (add_off _ _ _)).trans hx101_0
                have hpz101 := eq_true HP101.out.1
                have hpy101 := eq_true HP101.out.2
                obtain ⟨hxr13_0, hxr13_1, hxr13_2, hxr13_3, hxr13_4, hxr13_5⟩ := HQ1_.out
                have HP102 := Aside0.mk (show 0 ≤ (x5_1 : Int) ∧ (x5_1 : Int) < 6 from ⟨of_decide_eq_true (by first | (with_reducible assumption) | assumption), of_decide_eq_true (by first | (with_reducible assumption) | assumption)⟩)
                have hx102_0 : w.cell? ⟨B1_, O1_ + (x5_1 : Int).toNat, none⟩ = some (.int .u32 (rd [a1_0, a1_1, a1_2, a1_3, a1_4, a1_5] x5_1)) := by (obtain ⟨hz0_, hz1_, hz2_, hz3_, hz4_, hz5_⟩ := HQ1_.out; rcases (show x5_1 = 0 ∨ x5_1 = 1 ∨ x5_1 = 2 ∨ x5_1 = 3 ∨ x5_1 = 4 ∨ x5_1 = 5 from (by have h_ := HP102.out; omega)) with rfl | rfl | rfl | rfl | rfl | rfl <;> first | exact hz0_ | exact hz1_ | exact hz2_ | exact hz3_ | exact hz4_ | exact hz5_)
                have hx102_1 : w.cell? ((⟨B1_, O1_, none⟩ : Addr).add (x5_1 : Int).toNat) = some (.int .u32 (rd [a1_0, a1_1, a1_2, a1_3, a1_4, a1_5] x5_1)) := (congrArg _ (add_off _ _ _)).trans hx102_0
                have hpz102 := eq_true HP102.out.1
                have hpy102 := eq_true HP102.out.2
                have HP103 := Aside0.mk (show 0 ≤ (x5_1 : Int) ∧ (x5_1 : Int) < 6 from ⟨of_decide_eq_true (by first | (with_reducible assumption) | assumption), of_decide_eq_true (by first | (with_reducible assumption) | assumption)⟩)
                have hx103_0 : w.cell? ⟨B0_, O0_ + (x5_1 : Int).toNat, none⟩ = some (.int .u32 (rd [a0_0, a0_1, a0_2, a0_3, a0_4, a0_5] x5_1)) := by (obtain ⟨hz0_, hz1_, hz2_, hz3_, hz4_, hz5_⟩ := HQ0_.out; rcases (show x5_1 = 0 ∨ x5_1 = 1 ∨ x5_1 = 2 ∨ x5_1 = 3 ∨ x5_1 = 4 ∨ x5_1 = 5 from (by have h_ := HP103.out; omega)) with rfl | rfl | rfl | rfl | rfl | rfl <;> first | exact hz0_ | exact hz1_ | exact hz2_ | exact hz3_ | exact hz4_ | exact hz5_)
                have hx103_1 : w.cell? ((⟨B0_, O0_, none⟩ : Addr).add (x5_1 : Int).toNat) = some (.int .u32 (rd [a0_0, a0_1, a0_2, a0_3, a0_4, a0_5] x5_1)) := (congrArg _ (add_off _ _ _)).trans hx103_0
                have hpz103 := eq_true HP103.out.1
                have hpy103 := eq_true HP103.out.2
                have HP104 := Aside0.mk (show 0 ≤ (x5_1 : Int) ∧ (x5_1 : Int) < 6 from ⟨of_decide_eq_true (by first | (with_reducible assumption) | assumption), of_decide_eq_true (by first | (with_reducible assumption) | assumption)⟩)
                have hx104_0 : w.cell? ⟨B1_, O1_ + (x5_1 : Int).toNat, none⟩ = some (.int .u32 (rd [a1_0, a1_1, a1_2, a1_3, a1_4, a1_5] x5_1)) := by (obtain ⟨hz0_, hz1_, hz2_, hz3_, hz4_, hz5_⟩ := HQ1_.out; rcases (show x5_1 = 0 ∨ x5_1 = 1 ∨ x5_1 = 2 ∨ x5_1 = 3 ∨ x5_1 = 4 ∨ x5_1 = 5 from (by have h_ := HP104.out; omega)) with rfl | rfl | rfl | rfl | rfl | rfl <;> first | exact hz0_ | exact hz1_ | exact hz2_ | exact hz3_ | exact hz4_ | exact hz5_)
                have hx104_1 : w.cell? ((⟨B1_, O1_, none⟩ : Addr).add (x5_1 : Int).toNat) = some (.int .u32 (rd [a1_0, a1_1, a1_2, a1_3, a1_4, a1_5] x5_1)) := (congrArg _ (add_off _ _ _)).trans hx104_0
                have hpz104 := eq_true HP104.out.1
                have hpy104 := eq_true HP104.out.2
                go_wp2
                repeat (go_quiet (fail); try go_wp2)
                go_roundg k1
                case measure => have := HK1.out; omega
                case rel => exact ⟨(wrap64 (x5_1 - 1)), (by first | rfl | (simp; done) | (simp [*]; done)), H', ⟨by have := HK1.out; omega⟩, by repeat (first | exact Drawn0.refl _ | apply Drawn0.step)⟩
          · rw [if_neg c5] at H
            exact absurd H (by simp)
        · rw [if_neg c4] at H
          exact absurd H (by simp)
      · rw [if_neg c3] at H
        have c3b0 : decide (0 ≤ x5_1) = false := decide_eq_false c3
        clear c3
        obtain rfl := Option.some.inj H
        go_wp2
        repeat (go_quiet (fail); try go_wp2)
        go_ret
        exact ⟨by first | rfl | (simp; done) | (simp [*]; done), by repeat (first | exact Drawn0.refl _ | apply Drawn0.step)⟩

/-! ### spec_l01Compare: function 62 -/
mutual
def spec_l01Compare.j0 : Nat → Bool → Bool → Int → Int → Int → Int → Int → Int → Bool → Int → Int → Int → Int → Int → Int → Int → Int → Int → Int → Int → Int → Int → Int → Int → Int → Int → Int → Option (Int)
  | 0, _, _, _, _, _, _, _, _, _, _, _, _, _, _, _, _, _, _, _, _, _, _, _, _, _, _, _ => none
  | k + 1, x15, x1000, x1001, x1002, x1003, x1004, x1005, x1006, x2000, x2001, x2002, x2003, x2004, x2005, x2006, x106000, x106001, x106002, x106003, x106004, x106005, x107000, x107001, x107002, x107003, x107004, x107005 => if x15 = true then (some (-1)) else (if x1000 = true then (spec_l01Compare.j1 k false x1000 x1001 x1002 x1003 x1004 x1005 x1006 x106000 x106001 x106002 x106003 x106004 x106005 x107000 x107001 x107002 x107003 x107004 x107005) else (spec_l01Compare.j1 k x2000 x1000 x1001 x1002 x1003 x1004 x1005 x1006 x106000 x106001 x106002 x106003 x106004 x106005 x107000 x107001 x107002 x107003 x107004 x107005))
def spec_l01Compare.j1 : Nat → Bool → Bool → Int → Int → Int → Int → Int → Int → Int → Int → Int → Int → Int → Int → Int → Int → Int → Int → Int → Int → Option (Int)
  | 0, _, _, _, _, _, _, _, _, _, _, _, _, _, _, _, _, _, _, _, _ => none
  | k + 1, x27, x1000, x1001, x1002, x1003, x1004, x1005, x1006, x106000, x106001, x106002, x106003, x106004, x106005, x107000, x107001, x107002, x107003, x107004, x107005 => if x27 = true then (some 1) else (if x1000 = true then ((spec_l01Cmp.f k x107000 x107001 x107002 x107003 x107004 x107005 x106000 x106001 x106002 x106003 x106004 x106005).bind fun t107 => (some t107)) else ((spec_l01Cmp.f k x106000 x106001 x106002 x106003 x106004 x106005 x107000 x107001 x107002 x107003 x107004 x107005).bind fun t108 => (some t108)))
end
def spec_l01Compare.f (k : Nat) (a0_0 : Bool) (a0_1 : Int) (a0_2 : Int) (a0_3 : Int) (a0_4 : Int) (a0_5 : Int) (a0_6 : Int) (a1_0 : Bool) (a1_1 : Int) (a1_2 : Int) (a1_3 : Int) (a1_4 : Int) (a1_5 : Int) (a1_6 : Int) : Option (Int) := if a0_0 = true then (spec_l01Compare.j0 k (!a1_0) a0_0 a0_1 a0_2 a0_3 a0_4 a0_5 a0_6 a1_0 a1_1 a1_2 a1_3 a1_4 a1_5 a1_6 a0_1 a0_2 a0_3 a0_4 a0_5 a0_6 a1_1 a1_2 a1_3 a1_4 a1_5 a1_6) else (spec_l01Compare.j0 k false a0_0 a0_1 a0_2 a0_3 a0_4 a0_5 a0_6 a1_0 a1_1 a1_2 a1_3 a1_4 a1_5 a1_6 a0_1 a0_2 a0_3 a0_4 a0_5 a0_6 a1_1 a1_2 a1_3 a1_4 a1_5 a1_6)
theorem spec_l01Compare.mono_l : ∀ k, (∀ y0 y1 y2 y3 y4 y5 y6 y7 y8 y9 y10 y11 y12 y13 y14 y15 y16 y17 y18 y19 y20 y21 y22 y23 y24 y25 y26, LeO (spec_l01Compare.j0 k y0 y1 y2 y3 y4 y5 y6 y7 y8 y9 y10 y11 y12 y13 y14 y15 y16 y17 y18 y19 y20 y21 y22 y23 y24 y25 y26) (spec_l01Compare.j0 (k + 1) y0 y1 y2 y3 y4 y5 y6 y7 y8 y9 y10 y11 y12 y13 y14 y15 y16 y17 y18 y19 y20 y21 y22 y23 y24 y25 y26)) ∧ (∀ y0 y1 y2 y3 y4 y5 y6 y7 y8 y9 y10 y11 y12 y13 y14 y15 y16 y17 y18 y19, LeO (spec_l01Compare.j1 k y0 y1 y2 y3 y4 y5 y6 y7 y8 y9 y10 y11 y12 y13 y14 y15 y16 y17 y18 y19) (spec_l01Compare.j1 (k + 1) y0 y1 y2 y3 y4 y5 y6 y7 y8 y9 y10 y11 y12 y13 y14 y15 y16 y17 y18 y19))
  | 0 => ⟨fun _ _ _ _ _ _ _ _ _ _ _ _ _ _ _ _ _ _ _ _ _ _ _ _ _ _ _ r h => by simp [spec_l01Compare.j0] at h, fun _ _ _ _ _ _ _ _ _ _ _ _ _ _ _ _ _ _ _ _ r h => by simp [spec_l01Compare.j1] at h⟩
  | k + 1 => by
    obtain ⟨ih0, ih1⟩ := spec_l01Compare.mono_l k
    refine ⟨?_, ?_⟩
    · intro y0 y1 y2 y3 y4 y5 y6 y7 y8 y9 y10 y11 y12 y13 y14 y15 y16 y17 y18 y19 y20 y21 y22 y23 y24 y25 y26
      unfold spec_l01Compare.j0
      repeat' first
      | (with_reducible exact ih0 _ _ _ _ _ _ _ _ _ _ _ _ _ _ _ _ _ _ _ _ _ _ _ _ _ _ _)
      | (with_reducible exact ih1 _ _ _ _ _ _ _ _ _ _ _ _ _ _ _ _ _ _ _ _)
      | (with_reducible exact spec_l01Cmp.mono _ _ _ _ _ _ _ _ _ _ _ _ _)
      | (with_reducible exact LeO.refl _)
      | (with_reducible exact LeO.none _)
      | (with_reducible refine LeO.ite ?_ ?_)
      | (with_reducible refine LeO.bind ?_ (fun _ => ?_))
      | exact ih0 _ _ _ _ _ _ _ _ _ _ _ _ _ _ _ _ _ _ _ _ _ _ _ _ _ _ _
      | exact ih1 _ _ _ _ _ _ _ _ _ _ _ _ _ _ _ _ _ _ _ _
      | exact spec_l01Cmp.mono _ _ _ _ _ _ _ _ _ _ _ _ _
      | exact LeO.none _
      | refine LeO.ite ?_ ?_
      | refine LeO.bind ?_ (fun _ => ?_)
    · intro y0 y1 y2 y3 y4 y5 y6 y7 y8 y9 y10 y11 y12 y13 y14 y15 y16 y17 y18 y19
      unfold spec_l01Compare.j1
      repeat' first
      | (with_reducible exact ih0 _ _ _ _ _ _ _ _ _ _ _ _ _ _ _ _ _ _ _ _ _ _ _ _ _ _ _)
      | (with_reducible exact ih1 _ _ _ _ _ _ _ _ _ _ _ _ _ _ _ _ _ _ _ _)
      | (with_reducible exact spec_l01Cmp.mono _ _ _ _ _ _ _ _ _ _ _ _ _)
      | (with_reducible exact LeO.refl _)
      | (with_reducible exact LeO.none _)
      | (with_reducible refine LeO.ite ?_ ?_)
      | (with_reducible refine LeO.bind ?_ (fun _ => ?_))
      | exact ih0 _ _ _ _ _ _ _ _ _ _ _ _ _ _ _ _ _ _ _ _ _ _ _ _ _ _ _
      | exact ih1 _ _ _ _ _ _ _ _ _ _ _ _ _ _ _ _ _ _ _ _
      | exact spec_l01Cmp.mono _ _ _ _ _ _ _ _ _ _ _ _ _
      | exact LeO.none _
      | refine LeO.ite ?_ ?_
      | refine LeO.bind ?_ (fun _ => ?_)
theorem spec_l01Compare.mono : ∀ a0 a1 a2 a3 a4 a5 a6 a7 a8 a9 a10 a11 a12 a13 k, LeO (spec_l01Compare.f k a0 a1 a2 a3 a4 a5 a6 a7 a8 a9 a10 a11 a12 a13) (spec_l01Compare.f (k + 1) a0 a1 a2 a3 a4 a5 a6 a7 a8 a9 a10 a11 a12 a13) := by
  intro a0 a1 a2 a3 a4 a5 a6 a7 a8 a9 a10 a11 a12 a13 k
  obtain ⟨ih0, ih1⟩ := spec_l01Compare.mono_l k
  unfold spec_l01Compare.f
  repeat' first
      | (with_reducible exact ih0 _ _ _ _ _ _ _ _ _ _ _ _ _ _ _ _ _ _ _ _ _ _ _ _ _ _ _)
      | (with_reducible exact ih1 _ _ _ _ _ _ _ _ _ _ _ _ _ _ _ _ _ _ _ _)
      | (with_reducible exact spec_l01Cmp.mono _ _ _ _ _ _ _ _ _ _ _ _ _)
      | (with_reducible exact LeO.refl _)
      | (with_reducible exact LeO.none _)
      | (with_reducible refine LeO.ite ?_ ?_)
      | (with_reducible refine LeO.bind ?_ (fun _ => ?_))
      | exact ih0 _ _ _ _ _ _ _ _ _ _ _ _ _ _ _ _ _ _ _ _ _ _ _ _ _ _ _
      | exact ih1 _ _ _ _ _ _ _ _ _ _ _ _ _ _ _ _ _ _ _ _
      | exact spec_l01Cmp.mono _ _ _ _ _ _ _ _ _ _ _ _ _
      | exact LeO.none _
      | refine LeO.ite ?_ ?_
      | refine LeO.bind ?_ (fun _ => ?_)
set_option maxHeartbeats 8000000 in
set_option maxRecDepth 100000 in
theorem spec_l01Compare.calls (k : Nat) (B0_ O0_ : Nat) (a0_0 : Bool) (a0_1 : Int) (a0_2 : Int) (a0_3 : Int) (a0_4 : Int) (a0_5 : Int) (a0_6 : Int) (B1_ O1_ : Nat) (a1_0 : Bool) (a1_1 : Int) (a1_2 : Int) (a1_3 : Int) (a1_4 : Int) (a1_5 : Int) (a1_6 : Int) (r : Int) (w : World) (hq0_ : w.cell? ⟨B0_, O0_, none⟩ = some (.bool a0_0) ∧ w.cell? ⟨B0_, O0_ + 1, none⟩ = some (.int .u32 a0_1) ∧ w.cell? ⟨B0_, O0_ + 2, none⟩ = some (.int .u32 a0_2) ∧ w.cell? ⟨B0_, O0_ + 3, none⟩ = some (.int .u32 a0_3) ∧ w.cell? ⟨B0_, O0_ + 4, none⟩ = some (.int .u32 a0_4) ∧ w.cell? ⟨B0_, O0_ + 5, none⟩ = some (.int .u32 a0_5) ∧ w.cell? ⟨B0_, O0_ + 6, none⟩ = some (.int .u32 a0_6)) (hq1_ : w.cell? ⟨B1_, O1_, none⟩ = some (.bool a1_0) ∧ w.cell? ⟨B1_, O1_ + 1, none⟩ = some (.int .u32 a1_1) ∧ w.cell? ⟨B1_, O1_ + 2, none⟩ = some (.int .u32 a1_2) ∧ w.cell? ⟨B1_, O1_ + 3, none⟩ = some (.int .u32 a1_3) ∧ w.cell? ⟨B1_, O1_ + 4, none⟩ = some (.int .u32 a1_4) ∧ w.cell? ⟨B1_, O1_ + 5, none⟩ = some (.int .u32 a1_5) ∧ w.cell? ⟨B1_, O1_ + 6, none⟩ = some (.int .u32 a1_6)) (h : spec_l01Compare.f k a0_0 a0_1 a0_2 a0_3 a0_4 a0_5 a0_6 a1_0 a1_1 a1_2 a1_3 a1_4 a1_5 a1_6 = some r) :
    Calls Try.prog 62 #[.pointer (some ⟨B0_, O0_, none⟩), .pointer (some ⟨B1_, O1_, none⟩)] w fun e w' => e = .returned (.int .i64 r) ∧ Below w.heap.size w w' := by
  have hu39 := Try.underlying39
  have hu80 := Try.underlying80
  have HQ0_ := Aside0.mk hq0_
  clear hq0_
  have HQ1_ := Aside0.mk hq1_
  clear hq1_
  have HB := Aside0.mk (Below.refl w.heap.size w)
  have H : (if a0_0 = true then (spec_l01Compare.j0 k (!a1_0) a0_0 a0_1 a0_2 a0_3 a0_4 a0_5 a0_6 a1_0 a1_1 a1_2 a1_3 a1_4 a1_5 a1_6 a0_1 a0_2 a0_3 a0_4 a0_5 a0_6 a1_1 a1_2 a1_3 a1_4 a1_5 a1_6) else (spec_l01Compare.j0 k false a0_0 a0_1 a0_2 a0_3 a0_4 a0_5 a0_6 a1_0 a1_1 a1_2 a1_3 a1_4 a1_5 a1_6 a0_1 a0_2 a0_3 a0_4 a0_5 a0_6 a1_1 a1_2 a1_3 a1_4 a1_5 a1_6)) = some r := h
  clear h
  have HC3 := Aside0.mk H
  clear H
  obtain ⟨hxr4_0, hxr4_1, hxr4_2, hxr4_3, hxr4_4, hxr4_5, hxr4_6⟩ := HQ0_.out
  go_enter Try.func62, Try.ntmps62
  go_upto_region 3 with (first | ((with_reducible refine gate_dst (N := 5) rfl ?_); refine box_event ?hg (N := 5) ?hd (cs := #[.int .u32 0, .int .u32 0, .int .u32 0, .int .u32 0, .int .u32 0, .int .u32 0]) (t := 80) ?hr ?_; (case hd => rfl); (case hg => rfl); (case hr => first | (go_simp; done) | (go_simp; rfl)); intro gb105 hg w5 hbox hb; have n0_ := Aside0.mk (below_step (by repeat (first | (with_reducible first | exact HB.out | apply below_alloc | apply pw_below_drewN | apply below_drew1) | exact HB.out)) hb); have n1_ := Aside0.mk (hbox); have n2_ := Aside0.mk ((by rw [hg]; exact (below_size (by repeat (first | (with_reducible first | exact HB.out | apply below_alloc | apply pw_below_drewN | apply below_drew1) | exact HB.out))) : w.heap.size ≤ gb105)); have n3_ := Aside0.mk ((by rw [hg]; exact (below_size (by repeat (first | (with_reducible first | exact HB.out | apply below_alloc | apply pw_below_drewN | apply below_drew1) | exact HB.out))) : w.heap.size ≤ gb105)); clear HB; have HB := n0_; have BK105 := n1_; have GW105 := n2_; have GE105 := n3_; clear n0_ n1_ n2_ n3_; clear hb hbox hg; have hcz6_0 : w5.cell? ⟨gb105, 0, none⟩ = some (.int .u32 0) := (blk_cell BK105.out 0).trans rfl; have hcz6_1 : w5.cell? ⟨gb105, 1, none⟩ = some (.int .u32 0) := (blk_cell BK105.out 1).trans rfl; have hcz6_2 : w5.cell? ⟨gb105, 2, none⟩ = some (.int .u32 0) := (blk_cell BK105.out 2).trans rfl; have hcz6_3 : w5.cell? ⟨gb105, 3, none⟩ = some (.int .u32 0) := (blk_cell BK105.out 3).trans rfl; have hcz6_4 : w5.cell? ⟨gb105, 4, none⟩ = some (.int .u32 0) := (blk_cell BK105.out 4).trans rfl; have hcz6_5 : w5.cell? ⟨gb105, 5, none⟩ = some (.int .u32 0) := (blk_cell BK105.out 5).trans rfl; have hfz6_0 := blk_frozen BK105.out 0; have hfz6_1 := blk_frozen BK105.out 1; have hfz6_2 := blk_frozen BK105.out 2; have hfz6_3 := blk_frozen BK105.out 3; have hfz6_4 := blk_frozen BK105.out 4; have hfz6_5 := blk_frozen BK105.out 5; obtain ⟨hxr7_0, hxr7_1, hxr7_2, hxr7_3, hxr7_4, hxr7_5, hxr7_6⟩ := HQ1_.out; replace hxr7_0 := ((show Below w.heap.size w ((((((w5.setCell ⟨gb105, 0, none⟩ (.int .u32 a0_1)).setCell ⟨gb105, 1, none⟩ (.int .u32 a0_2)).setCell ⟨gb105, 2, none⟩ (.int .u32 a0_3)).setCell ⟨gb105, 3, none⟩ (.int .u32 a0_4)).setCell ⟨gb105, 4, none⟩ (.int .u32 a0_5)).setCell ⟨gb105, 5, none⟩ (.int .u32 a0_6)) from by repeat (first | (with_reducible first | exact HB.out | apply below_alloc | apply pw_below_drewN | apply below_drew1 | refine below_set ?_ GE105.out) | exact HB.out)).cell (World.block_lt_of_cell? w _ hxr7_0)).trans hxr7_0; replace hxr7_1 := ((show Below w.heap.size w ((((((w5.setCell ⟨gb105, 0, none⟩ (.int .u32 a0_1)).setCell ⟨gb105, 1, none⟩ (.int .u32 a0_2)).setCell ⟨gb105, 2, none⟩ (.int .u32 a0_3)).setCell ⟨gb105, 3, none⟩ (.int .u32 a0_4)).setCell ⟨gb105, 4, none⟩ (.int .u32 a0_5)).setCell ⟨gb105, 5, none⟩ (.int .u32 a0_6)) from by repeat (first | (with_reducible first | exact HB.out | apply below_alloc | apply pw_below_drewN | apply below_drew1 | refine below_set ?_ GE105.out) | exact HB.out)).cell (World.block_lt_of_cell? w _ hxr7_1)).trans hxr7_1; replace hxr7_2 := ((show Below w.heap.size w ((((((w5.setCell ⟨gb105, 0, none⟩ (.int .u32 a0_1)).setCell ⟨gb105, 1, none⟩ (.int .u32 a0_2)).setCell ⟨gb105, 2, none⟩ (.int .u32 a0_3)).setCell ⟨gb105, 3, none⟩ (.int .u32 a0_4)).setCell ⟨gb105, 4, none⟩ (.int .u32 a0_5)).setCell ⟨gb105, 5, none⟩ (.int .u32 a0_6)) from by repeat (first | (with_reducible first | exact HB.out | apply below_alloc | apply pw_below_drewN | apply below_drew1 | refine below_set ?_ GE105.out) | exact HB.out)).cell (World.block_lt_of_cell? w _ hxr7_2)).trans hxr7_2; replace hxr7_3 := ((show Below w.heap.size w ((((((w5.setCell ⟨gb105, 0, none⟩ (.int .u32 a0_1)).setCell ⟨gb105, 1, none⟩ (.int .u32 a0_2)).setCell ⟨gb105, 2, none⟩ (.int .u32 a0_3)).setCell ⟨gb105, 3, none⟩ (.int .u32 a0_4)).setCell ⟨gb105, 4, none⟩ (.int .u32 a0_5)).setCell ⟨gb105, 5, none⟩ (.int .u32 a0_6)) from by repeat (first | (with_reducible first | exact HB.out | apply below_alloc | apply pw_below_drewN | apply below_drew1 | refine below_set ?_ GE105.out) | exact HB.out)).cell (World.block_lt_of_cell? w _ hxr7_3)).trans hxr7_3; replace hxr7_4 := ((show Below w.heap.size w ((((((w5.setCell ⟨gb105, 0, none⟩ (.int .u32 a0_1)).setCell ⟨gb105, 1, none⟩ (.int .u32 a0_2)).setCell ⟨gb105, 2, none⟩ (.int .u32 a0_3)).setCell ⟨gb105, 3, none⟩ (.int .u32 a0_4)).setCell ⟨gb105, 4, none⟩ (.int .u32 a0_5)).setCell ⟨gb105, 5, none⟩ (.int .u32 a0_6)) from by repeat (first | (with_reducible first | exact HB.out | apply below_alloc | apply pw_below_drewN | apply below_drew1 | refine below_set ?_ GE105.out) | exact HB.out)).cell (World.block_lt_of_cell? w _ hxr7_4)).trans hxr7_4; replace hxr7_5 := ((show Below w.heap.size w ((((((w5.setCell ⟨gb105, 0, none⟩ (.int .u32 a0_1)).setCell ⟨gb105, 1, none⟩ (.int .u32 a0_2)).setCell ⟨gb105, 2, none⟩ (.int .u32 a0_3)).setCell ⟨gb105, 3, none⟩ (.int .u32 a0_4)).setCell ⟨gb105, 4, none⟩ (.int .u32 a0_5)).setCell ⟨gb105, 5, none⟩ (.int .u32 a0_6)) from by repeat (first | (with_reducible first | exact HB.out | apply below_alloc | apply pw_below_drewN | apply below_drew1 | refine below_set ?_ GE105.out) | exact HB.out)).cell (World.block_lt_of_cell? w _ hxr7_5)).trans hxr7_5; replace hxr7_6 := ((show Below w.heap.size w ((((((w5.setCell ⟨gb105, 0, none⟩ (.int .u32 a0_1)).setCell ⟨gb105, 1, none⟩ (.int .u32 a0_2)).setCell ⟨gb105, 2, none⟩ (.int .u32 a0_3)).setCell ⟨gb105, 3, none⟩ (.int .u32 a0_4)).setCell ⟨gb105, 4, none⟩ (.int .u32 a0_5)).setCell ⟨gb105, 5, none⟩ (.int .u32 a0_6)) from by repeat (first | (with_reducible first | exact HB.out | apply below_alloc | apply pw_below_drewN | apply below_drew1 | refine below_set ?_ GE105.out) | exact HB.out)).cell (World.block_lt_of_cell? w _ hxr7_6)).trans hxr7_6) | ((with_reducible refine gate_dst (N := 6) rfl ?_); refine box_event ?hg (N := 6) ?hd (cs := #[.int .u32 0, .int .u32 0, .int .u32 0, .int .u32 0, .int .u32 0, .int .u32 0]) (t := 80) ?hr ?_; (case hd => rfl); (case hg => rfl); (case hr => first | (go_simp; done) | (go_simp; rfl)); intro gb106 hg w8 hbox hb; have n0_ := Aside0.mk (blk_below (g := gb105) (o := .cells #[.int .u32 a0_1, .int .u32 a0_2, .int .u32 a0_3, .int .u32 a0_4, .int .u32 a0_5, .int .u32 a0_6] 80 (0, 0)) (by (with_reducible repeat (first | refine blk_drewN ?_ _ | refine blk_drew ?_ | refine blk_alloc ?_ _)); refine blk_put (cs := #[.int .u32 a0_1, .int .u32 a0_2, .int .u32 a0_3, .int .u32 a0_4, .int .u32 a0_5, .int .u32 0]) ?_ 5 _ rfl; (with_reducible repeat (first | refine blk_drewN ?_ _ | refine blk_drew ?_ | refine blk_alloc ?_ _)); refine blk_put (cs := #[.int .u32 a0_1, .int .u32 a0_2, .int .u32 a0_3, .int .u32 a0_4, .int .u32 0, .int .u32 0]) ?_ 4 _ rfl; (with_reducible repeat (first | refine blk_drewN ?_ _ | refine blk_drew ?_ | refine blk_alloc ?_ _)); refine blk_put (cs := #[.int .u32 a0_1, .int .u32 a0_2, .int .u32 a0_3, .int .u32 0, .int .u32 0, .int .u32 0]) ?_ 3 _ rfl; (with_reducible repeat (first | refine blk_drewN ?_ _ | refine blk_drew ?_ | refine blk_alloc ?_ _)); refine blk_put (cs := #[.int .u32 a0_1, .int .u32 a0_2, .int .u32 0, .int .u32 0, .int .u32 0, .int .u32 0]) ?_ 2 _ rfl; (with_reducible repeat (first | refine blk_drewN ?_ _ | refine blk_drew ?_ | refine blk_alloc ?_ _)); refine blk_put (cs := #[.int .u32 a0_1, .int .u32 0, .int .u32 0, .int .u32 0, .int .u32 0, .int .u32 0]) ?_ 1 _ rfl; (with_reducible repeat (first | refine blk_drewN ?_ _ | refine blk_drew ?_ | refine blk_alloc ?_ _)); refine blk_put (cs := #[.int .u32 0, .int .u32 0, .int .u32 0, .int .u32 0, .int .u32 0, .int .u32 0]) ?_ 0 _ rfl; (with_reducible repeat (first | refine blk_drewN ?_ _ | refine blk_drew ?_ | refine blk_alloc ?_ _)); exact BK105.out) hb); have n1_ := Aside0.mk (below_step (by repeat (first | (with_reducible first | exact HB.out | apply below_alloc | apply pw_below_drewN | apply below_drew1 | refine below_set ?_ GE105.out) | exact HB.out)) hb); have n2_ := Aside0.mk (hbox); have n3_ := Aside0.mk ((by rw [hg]; exact (below_size (by repeat (first | (with_reducible first | exact HB.out | apply below_alloc | apply pw_below_drewN | apply below_drew1 | refine below_set ?_ GE105.out) | exact HB.out))) : w.heap.size ≤ gb106)); have n4_ := Aside0.mk ((by rw [hg]; exact (below_size (by repeat (first | (with_reducible first | exact HB.out | apply below_alloc | apply pw_below_drewN | apply below_drew1 | refine below_set ?_ GE105.out) | exact HB.out))) : w.heap.size ≤ gb106)); have n5_ := Aside0.mk ((by rw [hg]; exact Nat.ne_of_lt (blk_lt (g := gb105) (o := .cells #[.int .u32 a0_1, .int .u32 a0_2, .int .u32 a0_3, .int .u32 a0_4, .int .u32 a0_5, .int .u32 a0_6] 80 (0, 0)) (by (with_reducible repeat (first | refine blk_drewN ?_ _ | refine blk_drew ?_ | refine blk_alloc ?_ _)); refine blk_put (cs := #[.int .u32 a0_1, .int .u32 a0_2, .int .u32 a0_3, .int .u32 a0_4, .int .u32 a0_5, .int .u32 0]) ?_ 5 _ rfl; (with_reducible repeat (first | refine blk_drewN ?_ _ | refine blk_drew ?_ | refine blk_alloc ?_ _)); refine blk_put (cs := #[.int .u32 a0_1, .int .u32 a0_2, .int .u32 a0_3, .int .u32 a0_4, .int .u32 0, .int .u32 0]) ?_ 4 _ rfl; (with_reducible repeat (first | refine blk_drewN ?_ _ | refine blk_drew ?_ | refine blk_alloc ?_ _)); refine blk_put (cs := #[.int .u32 a0_1, .int .u32 a0_2, .int .u32 a0_3, .int .u32 0, .int .u32 0, .int .u32 0]) ?_ 3 _ rfl; (with_reducible repeat (first | refine blk_drewN ?_ _ | refine blk_drew ?_ | refine blk_alloc ?_ _)); refine blk_put (cs := #[.int .u32 a0_1, .int .u32 a0_2, .int .u32 0, .int .u32 0, .int .u32 0, .int .u32 0]) ?_ 2 _ rfl; (with_reducible repeat (first | refine blk_drewN ?_ _ | refine blk_drew ?_ | refine blk_alloc ?_ _)); refine blk_put (cs := #[.int .u32 a0_1, .int .u32 0, .int .u32 0, .int .u32 0, .int .u32 0, .int .u32 0]) ?_ 1 _ rfl; (with_reducible repeat (first | refine blk_drewN ?_ _ | refine blk_drew ?_ | refine blk_alloc ?_ _)); refine blk_put (cs := #[.int .u32 0, .int .u32 0, .int .u32 0, .int .u32 0, .int .u32 0, .int .u32 0]) ?_ 0 _ rfl; (with_reducible repeat (first | refine blk_drewN ?_ _ | refine blk_drew ?_ | refine blk_alloc ?_ _)); exact BK105.out)) : gb105 ≠ gb106)); have n6_ := Aside0.mk ((by rw [hg]; exact Nat.ne_of_gt (blk_lt (g := gb105) (o := .cells #[.int .u32 a0_1, .int .u32 a0_2, .int .u32 a0_3, .int .u32 a0_4, .int .u32 a0_5, .int .u32 a0_6] 80 (0, 0)) (by (with_reducible repeat (first | refine blk_drewN ?_ _ | refine blk_drew ?_ | refine blk_alloc ?_ _)); refine blk_put (cs := #[.int .u32 a0_1, .int .u32 a0_2, .int .u32 a0_3, .int .u32 a0_4, .int .u32 a0_5, .int .u32 0]) ?_ 5 _ rfl; (with_reducible repeat (first | refine blk_drewN ?_ _ | refine blk_drew ?_ | refine blk_alloc ?_ _)); refine blk_put (cs := #[.int .u32 a0_1, .int .u32 a0_2, .int .u32 a0_3, .int .u32 a0_4, .int .u32 0, .int .u32 0]) ?_ 4 _ rfl; (with_reducible repeat (first | refine blk_drewN ?_ _ | refine blk_drew ?_ | refine blk_alloc ?_ _)); refine blk_put (cs := #[.int .u32 a0_1, .int .u32 a0_2, .int .u32 a0_3, .int .u32 0, .int .u32 0, .int .u32 0]) ?_ 3 _ rfl; (with_reducible repeat (first | refine blk_drewN ?_ _ | refine blk_drew ?_ | refine blk_alloc ?_ _)); refine blk_put (cs := #[.int .u32 a0_1, .int .u32 a0_2, .int .u32 0, .int .u32 0, .int .u32 0, .int .u32 0]) ?_ 2 _ rfl; (with_reducible repeat (first | refine blk_drewN ?_ _ | refine blk_drew ?_ | refine blk_alloc ?_ _)); refine blk_put (cs := #[.int .u32 a0_1, .int .u32 0, .int .u32 0, .int .u32 0, .int .u32 0, .int .u32 0]) ?_ 1 _ rfl; (with_reducible repeat (first | refine blk_drewN ?_ _ | refine blk_drew ?_ | refine blk_alloc ?_ _)); refine blk_put (cs := #[.int .u32 0, .int .u32 0, .int .u32 0, .int .u32 0, .int .u32 0, .int .u32 0]) ?_ 0 _ rfl; (with_reducible repeat (first | refine blk_drewN ?_ _ | refine blk_drew ?_ | refine blk_alloc ?_ _)); exact BK105.out)) : gb106 ≠ gb105)); clear BK105; clear HB; have BK105 := n0_; have HB := n1_; have BK106 := n2_; have GW106 := n3_; have GE106 := n4_; have NB105_106 := n5_; have NB106_105 := n6_; clear n0_ n1_ n2_ n3_ n4_ n5_ n6_; clear hb hbox hg; have hnb9 := NB106_105.out; have hnc9 := NB105_106.out; have hcz10_0 : w8.cell? ⟨gb106, 0, none⟩ = some (.int .u32 0) := (blk_cell BK106.out 0).trans rfl; have hcz10_1 : w8.cell? ⟨gb106, 1, none⟩ = some (.int .u32 0) := (blk_cell BK106.out 1).trans rfl; have hcz10_2 : w8.cell? ⟨gb106, 2, none⟩ = some (.int .u32 0) := (blk_cell BK106.out 2).trans rfl; have hcz10_3 : w8.cell? ⟨gb106, 3, none⟩ = some (.int .u32 0) := (blk_cell BK106.out 3).trans rfl; have hcz10_4 : w8.cell? ⟨gb106, 4, none⟩ = some (.int .u32 0) := (blk_cell BK106.out 4).trans rfl; have hcz10_5 : w8.cell? ⟨gb106, 5, none⟩ = some (.int .u32 0) := (blk_cell BK106.out 5).trans rfl; have hfz10_0 := blk_frozen BK106.out 0; have hfz10_1 := blk_frozen BK106.out 1; have hfz10_2 := blk_frozen BK106.out 2; have hfz10_3 := blk_frozen BK106.out 3; have hfz10_4 := blk_frozen BK106.out 4; have hfz10_5 := blk_frozen BK106.out 5))
  (try simp only [Act.put, List.setIfInBounds_toArray, List.set_cons_zero, List.set_cons_succ])
  go_cut [15] (fun v15 wc => ∃ (kq : Nat) (x15_2 : Bool), v15 = .bool x15_2 ∧ Aside0 (spec_l01Compare.j0 kq x15_2 a0_0 a0_1 a0_2 a0_3 a0_4 a0_5 a0_6 a1_0 a1_1 a1_2 a1_3 a1_4 a1_5 a1_6 a0_1 a0_2 a0_3 a0_4 a0_5 a0_6 a1_1 a1_2 a1_3 a1_4 a1_5 a1_6 = some r) ∧ Aside0 (kq ≤ k) ∧ Aside0 (wc.heap[gb105]? = some (.cells #[.int .u32 a0_1, .int .u32 a0_2, .int .u32 a0_3, .int .u32 a0_4, .int .u32 a0_5, .int .u32 a0_6] 80 (0, 0))) ∧ Aside0 (wc.heap[gb106]? = some (.cells #[.int .u32 a1_1, .int .u32 a1_2, .int .u32 a1_3, .int .u32 a1_4, .int .u32 a1_5, .int .u32 a1_6] 80 (0, 0))) ∧ Aside0 (Below w.heap.size w wc))
  case first =>
    have H := HC3.out
    clear HC3
    by_cases c11 : a0_0 = true
    · subst c11
      have H1 : (spec_l01Compare.j0 k (!a1_0) true a0_1 a0_2 a0_3 a0_4 a0_5 a0_6 a1_0 a1_1 a1_2 a1_3 a1_4 a1_5 a1_6 a0_1 a0_2 a0_3 a0_4 a0_5 a0_6 a1_1 a1_2 a1_3 a1_4 a1_5 a1_6) = some r := by rw [if_pos rfl] at H; exact H
      clear H
      have H := H1
      clear H1
      have H' := Aside0.mk H
      clear H
      obtain ⟨hxr12_0, hxr12_1, hxr12_2, hxr12_3, hxr12_4, hxr12_5, hxr12_6⟩ := HQ0_.out
      replace hxr12_0 := ((show Below w.heap.size w ((((((w8.setCell ⟨gb106, 0, none⟩ (.int .u32 a1_1)).setCell ⟨gb106, 1, none⟩ (.int .u32 a1_2)).setCell ⟨gb106, 2, none⟩ (.int .u32 a1_3)).setCell ⟨gb106, 3, none⟩ (.int .u32 a1_4)).setCell ⟨gb106, 4, none⟩ (.int .u32 a1_5)).setCell ⟨gb106, 5, none⟩ (.int .u32 a1_6)) from by repeat (first | (with_reducible first | exact HB.out | apply below_alloc | apply pw_below_drewN | apply below_drew1 | refine below_set ?_ GE105.out | refine below_set ?_ GE106.out) | exact HB.out)).cell (World.block_lt_of_cell? w _ hxr12_0)).trans hxr12_0
      replace hxr12_1 := ((show Below w.heap.size w ((((((w8.setCell ⟨gb106, 0, none⟩ (.int .u32 a1_1)).setCell ⟨gb106, 1, none⟩ (.int .u32 a1_2)).setCell ⟨gb106, 2, none⟩ (.int .u32 a1_3)).setCell ⟨gb106, 3, none⟩ (.int .u32 a1_4)).setCell ⟨gb106, 4, none⟩ (.int .u32 a1_5)).setCell ⟨gb106, 5, none⟩ (.int .u32 a1_6)) from by repeat (first | (with_reducible first | exact HB.out | apply below_alloc | apply pw_below_drewN | apply below_drew1 | refine below_set ?_ GE105.out | refine below_set ?_ GE106.out) | exact HB.out)).cell (World.block_lt_of_cell? w _ hxr12_1)).trans hxr12_1
      replace hxr12_2 := ((show Below w.heap.size w ((((((w8.setCell ⟨gb106, 0, none⟩ (.int .u32 a1_1)).setCell ⟨gb106, 1, none⟩ (.int .u32 a1_2)).setCell ⟨gb106, 2, none⟩ (.int .u32 a1_3)).setCell ⟨gb106, 3, none⟩ (.int .u32 a1_4)).setCell ⟨gb106, 4, none⟩ (.int .u32 a1_5)).setCell ⟨gb106, 5, none⟩ (.int .u32 a1_6)) from by repeat (first | (with_reducible first | exact HB.out | apply below_alloc | apply pw_below_drewN | apply below_drew1 | refine below_set ?_ GE105.out | refine below_set ?_ GE106.out) | exact HB.out)).cell (World.block_lt_of_cell? w _ hxr12_2)).trans hxr12_2
      replace hxr12_3 := ((show Below w.heap.size w ((((((w8.setCell ⟨gb106, 0, none⟩ (.int .u32 a1_1)).setCell ⟨gb106, 1, none⟩ (.int .u32 a1_2)).setCell ⟨gb106, 2, none⟩ (.int .u32 a1_3)).setCell ⟨gb106, 3, none⟩ (.int .u32 a1_4)).setCell ⟨gb106, 4, none⟩ (.int .u32 a1_5)).setCell ⟨gb106, 5, none⟩ (.int .u32 a1_6)) from by repeat (first | (with_reducible first | exact HB.out | apply below_alloc | apply pw_below_drewN | apply below_drew1 | refine below_set ?_ GE105.out | refine below_set ?_ GE106.out) | exact HB.out)).cell (World.block_lt_of_cell? w _ hxr12_3)).trans hxr12_3
      replace hxr12_4 := ((show Below w.heap.size w ((((((w8.setCell ⟨gb106, 0, none⟩ (.int .u32 a1_1)).setCell ⟨gb106, 1, none⟩ (.int .u32 a1_2)).setCell ⟨gb106, 2, none⟩ (.int .u32 a1_3)).setCell ⟨gb106, 3, none⟩ (.int .u32 a1_4)).setCell ⟨gb106, 4, none⟩ (.int .u32 a1_5)).setCell ⟨gb106, 5, none⟩ (.int .u32 a1_6)) from by repeat (first | (with_reducible first | exact HB.out | apply below_alloc | apply pw_below_drewN | apply below_drew1 | refine below_set ?_ GE105.out | refine below_set ?_ GE106.out) | exact HB.out)).cell (World.block_lt_of_cell? w _ hxr12_4)).trans hxr12_4
      replace hxr12_5 := ((show Below w.heap.size w ((((((w8.setCell ⟨gb106, 0, none⟩ (.int .u32 a1_1)).setCell ⟨gb106, 1, none⟩ (.int .u32 a1_2)).setCell ⟨gb106, 2, none⟩ (.int .u32 a1_3)).setCell ⟨gb106, 3, none⟩ (.int .u32 a1_4)).setCell ⟨gb106, 4, none⟩ (.int .u32 a1_5)).setCell ⟨gb106, 5, none⟩ (.int .u32 a1_6)) from by repeat (first | (with_reducible first | exact HB.out | apply below_alloc | apply pw_below_drewN | apply below_drew1 | refine below_set ?_ GE105.out | refine below_set ?_ GE106.out) | exact HB.out)).cell (World.block_lt_of_cell? w _ hxr12_5)).trans hxr12_5
      replace hxr12_6 := ((show Below w.heap.size w ((((((w8.setCell ⟨gb106, 0, none⟩ (.int .u32 a1_1)).setCell ⟨gb106, 1, none⟩ (.int .u32 a1_2)).setCell ⟨gb106, 2, none⟩ (.int .u32 a1_3)).setCell ⟨gb106, 3, none⟩ (.int .u32 a1_4)).setCell ⟨gb106, 4, none⟩ (.int .u32 a1_5)).setCell ⟨gb106, 5, none⟩ (.int .u32 a1_6)) from by repeat (first | (with_reducible first | exact HB.out | apply below_alloc | apply pw_below_drewN | apply below_drew1 | refine below_set ?_ GE105.out | refine below_set ?_ GE106.out) | exact HB.out)).cell (World.block_lt_of_cell? w _ hxr12_6)).trans hxr12_6
      obtain ⟨hxr13_0, hxr13_1, hxr13_2, hxr13_3, hxr13_4, hxr13_5, hxr13_6⟩ := HQ1_.out
      replace hxr13_0 := ((show Below w.heap.size w ((((((w8.setCell ⟨gb106, 0, none⟩ (.int .u32 a1_1)).setCell ⟨gb106, 1, none⟩ (.int .u32 a1_2)).setCell ⟨gb106, 2, none⟩ (.int .u32 a1_3)).setCell ⟨gb106, 3, none⟩ (.int .u32 a1_4)).setCell ⟨gb106, 4, none⟩ (.int .u32 a1_5)).setCell ⟨gb106, 5, none⟩ (.int .u32 a1_6)) from by repeat (first | (with_reducible first | exact HB.out | apply below_alloc | apply pw_below_drewN | apply below_drew1 | refine below_set ?_ GE105.out | refine below_set ?_ GE106.out) | exact HB.out)).cell (World.block_lt_of_cell? w _ hxr13_0)).trans hxr13_0
      replace hxr13_1 := ((show Below w.heap.size w ((((((w8.setCell ⟨gb106, 0, none⟩ (.int .u32 a1_1)).setCell ⟨gb106, 1, none⟩ (.int .u32 a1_2)).setCell ⟨gb106, 2, none⟩ (.int .u32 a1_3)).setCell ⟨gb106, 3, none⟩ (.int .u32 a1_4)).setCell ⟨gb106, 4, none⟩ (.int .u32 a1_5)).setCell ⟨gb106, 5, none⟩ (.int .u32 a1_6)) from by repeat (first | (with_reducible first | exact HB.out | apply below_alloc | apply pw_below_drewN | apply below_drew1 | refine below_set ?_ GE105.out | refine below_set ?_ GE106.out) | exact HB.out)).cell (World.block_lt_of_cell? w _ hxr13_1)).trans hxr13_1
      replace hxr13_2 := ((show Below w.heap.size w ((((((w8.setCell ⟨gb106, 0, none⟩ (.int .u32 a1_1)).setCell ⟨gb106, 1, none⟩ (.int .u32 a1_2)).setCell ⟨gb106, 2, none⟩ (.int .u32 a1_3)).setCell ⟨gb106, 3, none⟩ (.int .u32 a1_4)).setCell ⟨gb106, 4, none⟩ (.int .u32 a1_5)).setCell ⟨gb106, 5, none⟩ (.int .u32 a1_6)) from by repeat (first | (with_reducible first | exact HB.out | apply below_alloc | apply pw_below_drewN | apply below_drew1 | refine below_set ?_ GE105.out | refine below_set ?_ GE106.out) | exact HB.out)).cell (World.block_lt_of_cell? w _ hxr13_2)).trans hxr13_2
      replace hxr13_3 := ((show Below w.heap.size w ((((((w8.setCell ⟨gb106, 0, none⟩ (.int .u32 a1_1)).setCell ⟨gb106, 1, none⟩ (.int .u32 a1_2)).setCell ⟨gb106, 2, none⟩ (.int .u32 a1_3)).setCell ⟨gb106, 3, none⟩ (.int .u32 a1_4)).setCell ⟨gb106, 4, none⟩ (.int .u32 a1_5)).setCell ⟨gb106, 5, none⟩ (.int .u32 a1_6)) from by repeat (first | (with_reducible first | exact HB.out | apply below_alloc | apply pw_below_drewN | apply below_drew1 | refine below_set ?_ GE105.out | refine below_set ?_ GE106.out) | exact HB.out)).cell (World.block_lt_of_cell? w _ hxr13_3)).trans hxr13_3
      replace hxr13_4 := ((show Below w.heap.size w ((((((w8.setCell ⟨gb106, 0, none⟩ (.int .u32 a1_1)).setCell ⟨gb106, 1, none⟩ (.int .u32 a1_2)).setCell ⟨gb106, 2, none⟩ (.int .u32 a1_3)).setCell ⟨gb106, 3, none⟩ (.int .u32 a1_4)).setCell ⟨gb106, 4, none⟩ (.int .u32 a1_5)).setCell ⟨gb106, 5, none⟩ (.int .u32 a1_6)) from by repeat (first | (with_reducible first | exact HB.out | apply below_alloc | apply pw_below_drewN | apply below_drew1 | refine below_set ?_ GE105.out | refine below_set ?_ GE106.out) | exact HB.out)).cell (World.block_lt_of_cell? w _ hxr13_4)).trans hxr13_4
      replace hxr13_5 := ((show Below w.heap.size w ((((((w8.setCell ⟨gb106, 0, none⟩ (.int .u32 a1_1)).setCell ⟨gb106, 1, none⟩ (.int .u32 a1_2)).setCell ⟨gb106, 2, none⟩ (.int .u32 a1_3)).setCell ⟨gb106, 3, none⟩ (.int .u32 a1_4)).setCell ⟨gb106, 4, none⟩ (.int .u32 a1_5)).setCell ⟨gb106, 5, none⟩ (.int .u32 a1_6)) from by repeat (first | (with_reducible first | exact HB.out | apply below_alloc | apply pw_below_drewN | apply below_drew1 | refine below_set ?_ GE105.out | refine below_set ?_ GE106.out) | exact HB.out)).cell (World.block_lt_of_cell? w _ hxr13_5)).trans hxr13_5
      replace hxr13_6 := ((show Below w.heap.size w ((((((w8.setCell ⟨gb106, 0, none⟩ (.int .u32 a1_1)).setCell ⟨gb106, 1, none⟩ (.int .u32 a1_2)).setCell ⟨gb106, 2, none⟩ (.int .u32 a1_3)).setCell ⟨gb106, 3, none⟩ (.int .u32 a1_4)).setCell ⟨gb106, 4, none⟩ (.int .u32 a1_5)).setCell ⟨gb106, 5, none⟩ (.int .u32 a1_6)) from by repeat (first | (with_reducible first | exact HB.out | apply below_alloc | apply pw_below_drewN | apply below_drew1 | refine below_set ?_ GE105.out | refine below_set ?_ GE106.out) | exact HB.out)).cell (World.block_lt_of_cell? w _ hxr13_6)).trans hxr13_6
      go_wp2
      go_meet
      case rel => exact ⟨_, (!a1_0), (by first | rfl | (simp; done) | (simp [*]; done)), H', ⟨by first | omega | exact Nat.le_refl _⟩, ⟨by (with_reducible repeat (first | refine blk_drewN ?_ _ | refine blk_drew ?_ | refine blk_alloc ?_ _)); refine blk_far ?_ NB105_106.out _; (with_reducible repeat (first | refine blk_drewN ?_ _ | refine blk_drew ?_ | refine blk_alloc ?_ _)); refine blk_far ?_ NB105_106.out _; (with_reducible repeat (first | refine blk_drewN ?_ _ | refine blk_drew ?_ | refine blk_alloc ?_ _)); refine blk_far ?_ NB105_106.out _; (with_reducible repeat (first | refine blk_drewN ?_ _ | refine blk_drew ?_ | refine blk_alloc ?_ _)); refine blk_far ?_ NB105_106.out _; (with_reducible repeat (first | refine blk_drewN ?_ _ | refine blk_drew ?_ | refine blk_alloc ?_ _)); refine blk_far ?_ NB105_106.out _; (with_reducible repeat (first | refine blk_drewN ?_ _ | refine blk_drew ?_ | refine blk_alloc ?_ _)); refine blk_far ?_ NB105_106.out _; (with_reducible repeat (first | refine blk_drewN ?_ _ | refine blk_drew ?_ | refine blk_alloc ?_ _)); exact BK105.out⟩, ⟨by (with_reducible repeat (first | refine blk_drewN ?_ _ | refine blk_drew ?_ | refine blk_alloc ?_ _)); refine blk_put (cs := #[.int .u32 a1_1, .int .u32 a1_2, .int .u32 a1_3, .int .u32 a1_4, .int .u32 a1_5, .int .u32 0]) ?_ 5 _ rfl; (with_reducible repeat (first | refine blk_drewN ?_ _ | refine blk_drew ?_ | refine blk_alloc ?_ _)); refine blk_put (cs := #[.int .u32 a1_1, .int .u32 a1_2, .int .u32 a1_3, .int .u32 a1_4, .int .u32 0, .int .u32 0]) ?_ 4 _ rfl; (with_reducible repeat (first | refine blk_drewN ?_ _ | refine blk_drew ?_ | refine blk_alloc ?_ _)); refine blk_put (cs := #[.int .u32 a1_1, .int .u32 a1_2, .int .u32 a1_3, .int .u32 0, .int .u32 0, .int .u32 0]) ?_ 3 _ rfl; (with_reducible repeat (first | refine blk_drewN ?_ _ | refine blk_drew ?_ | refine blk_alloc ?_ _)); refine blk_put (cs := #[.int .u32 a1_1, .int .u32 a1_2, .int .u32 0, .int .u32 0, .int .u32 0, .int .u32 0]) ?_ 2 _ rfl; (with_reducible repeat (first | refine blk_drewN ?_ _ | refine blk_drew ?_ | refine blk_alloc ?_ _)); refine blk_put (cs := #[.int .u32 a1_1, .int .u32 0, .int .u32 0, .int .u32 0, .int .u32 0, .int .u32 0]) ?_ 1 _ rfl; (with_reducible repeat (first | refine blk_drewN ?_ _ | refine blk_drew ?_ | refine blk_alloc ?_ _)); refine blk_put (cs := #[.int .u32 0, .int .u32 0, .int .u32 0, .int .u32 0, .int .u32 0, .int .u32 0]) ?_ 0 _ rfl; (with_reducible repeat (first | refine blk_drewN ?_ _ | refine blk_drew ?_ | refine blk_alloc ?_ _)); exact BK106.out⟩, ⟨by repeat (first | (with_reducible first | exact HB.out | apply below_alloc | apply pw_below_drewN | apply below_drew1 | refine below_set ?_ GE105.out | refine below_set ?_ GE106.out) | exact HB.out)⟩⟩
    · replace c11 := Bool.eq_false_iff.mpr c11
      subst c11
      have H1 : (spec_l01Compare.j0 k false false a0_1 a0_2 a0_3 a0_4 a0_5 a0_6 a1_0 a1_1 a1_2 a1_3 a1_4 a1_5 a1_6 a0_1 a0_2 a0_3 a0_4 a0_5 a0_6 a1_1 a1_2 a1_3 a1_4 a1_5 a1_6) = some r := by rw [if_neg (show ¬ (false = true) by decide)] at H; exact H
      clear H
      have H := H1
      clear H1
      have H' := Aside0.mk H
      clear H
      obtain ⟨hxr14_0, hxr14_1, hxr14_2, hxr14_3, hxr14_4, hxr14_5, hxr14_6⟩ := HQ0_.out
      replace hxr14_0 := ((show Below w.heap.size w ((((((w8.setCell ⟨gb106, 0, none⟩ (.int .u32 a1_1)).setCell ⟨gb106, 1, none⟩ (.int .u32 a1_2)).setCell ⟨gb106, 2, none⟩ (.int .u32 a1_3)).setCell ⟨gb106, 3, none⟩ (.int .u32 a1_4)).setCell ⟨gb106, 4, none⟩ (.int .u32 a1_5)).setCell ⟨gb106, 5, none⟩ (.int .u32 a1_6)) from by repeat (first | (with_reducible first | exact HB.out | apply below_alloc | apply pw_below_drewN | apply below_drew1 | refine below_set ?_ GE105.out | refine below_set ?_ GE106.out) | exact HB.out)).cell (World.block_lt_of_cell? w _ hxr14_0)).trans hxr14_0
      replace hxr14_1 := ((show Below w.heap.size w ((((((w8.setCell ⟨gb106, 0, none⟩ (.int .u32 a1_1)).setCell ⟨gb106, 1, none⟩ (.int .u32 a1_2)).setCell ⟨gb106, 2, none⟩ (.int .u32 a1_3)).setCell ⟨gb106, 3, none⟩ (.int .u32 a1_4)).setCell ⟨gb106, 4, none⟩ (.int .u32 a1_5)).setCell ⟨gb106, 5, none⟩ (.int .u32 a1_6)) from by repeat (first | (with_reducible first | exact HB.out | apply below_alloc | apply pw_below_drewN | apply below_drew1 | refine below_set ?_ GE105.out | refine below_set ?_ GE106.out) | exact HB.out)).cell (World.block_lt_of_cell? w _ hxr14_1)).trans hxr14_1
      replace hxr14_2 := ((show Below w.heap.size w ((((((w8.setCell ⟨gb106, 0, none⟩ (.int .u32 a1_1)).setCell ⟨gb106, 1, none⟩ (.int .u32 a1_2)).setCell ⟨gb106, 2, none⟩ (.int .u32 a1_3)).setCell ⟨gb106, 3, none⟩ (.int .u32 a1_4)).setCell ⟨gb106, 4, none⟩ (.int .u32 a1_5)).setCell ⟨gb106, 5, none⟩ (.int .u32 a1_6)) from by repeat (first | (with_reducible first | exact HB.out | apply below_alloc | apply pw_below_drewN | apply below_drew1 | refine below_set ?_ GE105.out | refine below_set ?_ GE106.out) | exact HB.out)).cell (World.block_lt_of_cell? w _ hxr14_2)).trans hxr14_2
      replace hxr14_3 := ((show Below w.heap.size w ((((((w8.setCell ⟨gb106, 0, none⟩ (.int .u32 a1_1)).setCell ⟨gb106, 1, none⟩ (.int .u32 a1_2)).setCell ⟨gb106, 2, none⟩ (.int .u32 a1_3)).setCell ⟨gb106, 3, none⟩ (.int .u32 a1_4)).setCell ⟨gb106, 4, none⟩ (.int .u32 a1_5)).setCell ⟨gb106, 5, none⟩ (.int .u32 a1_6)) from by repeat (first | (with_reducible first | exact HB.out | apply below_alloc | apply pw_below_drewN | apply below_drew1 | refine below_set ?_ GE105.out | refine below_set ?_ GE106.out) | exact HB.out)).cell (World.block_lt_of_cell? w _ hxr14_3)).trans hxr14_3
      replace hxr14_4 := ((show Below w.heap.size w ((((((w8.setCell ⟨gb106, 0, none⟩ (.int .u32 a1_1)).setCell ⟨gb106, 1, none⟩ (.int .u32 a1_2)).setCell ⟨gb106, 2, none⟩ (.int .u32 a1_3)).setCell ⟨gb106, 3, none⟩ (.int .u32 a1_4)).setCell ⟨gb106, 4, none⟩ (.int .u32 a1_5)).setCell ⟨gb106, 5, none⟩ (.int .u32 a1_6)) from by repeat (first | (with_reducible first | exact HB.out | apply below_alloc | apply pw_below_drewN | apply below_drew1 | refine below_set ?_ GE105.out | refine below_set ?_ GE106.out) | exact HB.out)).cell (World.block_lt_of_cell? w _ hxr14_4)).trans hxr14_4
      replace hxr14_5 := ((show Below w.heap.size w ((((((w8.setCell ⟨gb106, 0, none⟩ (.int .u32 a1_1)).setCell ⟨gb106, 1, none⟩ (.int .u32 a1_2)).setCell ⟨gb106, 2, none⟩ (.int .u32 a1_3)).setCell ⟨gb106, 3, none⟩ (.int .u32 a1_4)).setCell ⟨gb106, 4, none⟩ (.int .u32 a1_5)).setCell ⟨gb106, 5, none⟩ (.int .u32 a1_6)) from by repeat (first | (with_reducible first | exact HB.out | apply below_alloc | apply pw_below_drewN | apply below_drew1 | refine below_set ?_ GE105.out | refine below_set ?_ GE106.out) | exact HB.out)).cell (World.block_lt_of_cell? w _ hxr14_5)).trans hxr14_5
      replace hxr14_6 := ((show Below w.heap.size w ((((((w8.setCell ⟨gb106, 0, none⟩ (.int .u32 a1_1)).setCell ⟨gb106, 1, none⟩ (.int .u32 a1_2)).setCell ⟨gb106, 2, none⟩ (.int .u32 a1_3)).setCell ⟨gb106, 3, none⟩ (.int .u32 a1_4)).setCell ⟨gb106, 4, none⟩ (.int .u32 a1_5)).setCell ⟨gb106, 5, none⟩ (.int .u32 a1_6)) from by repeat (first | (with_reducible first | exact HB.out | apply below_alloc | apply pw_below_drewN | apply below_drew1 | refine below_set ?_ GE105.out | refine below_set ?_ GE106.out) | exact HB.out)).cell (World.block_lt_of_cell? w _ hxr14_6)).trans hxr14_6
      go_wp2
      go_meet
      case rel => exact ⟨_, (false), (by first | rfl | (simp; done) | (simp [*]; done)), H', ⟨by first | omega | exact Nat.le_refl _⟩, ⟨by (with_reducible repeat (first | refine blk_drewN ?_ _ | refine blk_drew ?_ | refine blk_alloc ?_ _)); refine blk_far ?_ NB105_106.out _; (with_reducible repeat (first | refine blk_drewN ?_ _ | refine blk_drew ?_ | refine blk_alloc ?_ _)); refine blk_far ?_ NB105_106.out _; (with_reducible repeat (first | refine blk_drewN ?_ _ | refine blk_drew ?_ | refine blk_alloc ?_ _)); refine blk_far ?_ NB105_106.out _; (with_reducible repeat (first | refine blk_drewN ?_ _ | refine blk_drew ?_ | refine blk_alloc ?_ _)); refine blk_far ?_ NB105_106.out _; (with_reducible repeat (first | refine blk_drewN ?_ _ | refine blk_drew ?_ | refine blk_alloc ?_ _)); refine blk_far ?_ NB105_106.out _; (with_reducible repeat (first | refine blk_drewN ?_ _ | refine blk_drew ?_ | refine blk_alloc ?_ _)); refine blk_far ?_ NB105_106.out _; (with_reducible repeat (first | refine blk_drewN ?_ _ | refine blk_drew ?_ | refine blk_alloc ?_ _)); exact BK105.out⟩, ⟨by (with_reducible repeat (first | refine blk_drewN ?_ _ | refine blk_drew ?_ | refine blk_alloc ?_ _)); refine blk_put (cs := #[.int .u32 a1_1, .int .u32 a1_2, .int .u32 a1_3, .int .u32 a1_4, .int .u32 a1_5, .int .u32 0]) ?_ 5 _ rfl; (with_reducible repeat (first | refine blk_drewN ?_ _ | refine blk_drew ?_ | refine blk_alloc ?_ _)); refine blk_put (cs := #[.int .u32 a1_1, .int .u32 a1_2, .int .u32 a1_3, .int .u32 a1_4, .int .u32 0, .int .u32 0]) ?_ 4 _ rfl; (with_reducible repeat (first | refine blk_drewN ?_ _ | refine blk_drew ?_ | refine blk_alloc ?_ _)); refine blk_put (cs := #[.int .u32 a1_1, .int .u32 a1_2, .int .u32 a1_3, .int .u32 0, .int .u32 0, .int .u32 0]) ?_ 3 _ rfl; (with_reducible repeat (first | refine blk_drewN ?_ _ | refine blk_drew ?_ | refine blk_alloc ?_ _)); refine blk_put (cs := #[.int .u32 a1_1, .int .u32 a1_2, .int .u32 0, .int .u32 0, .int .u32 0, .int .u32 0]) ?_ 2 _ rfl; (with_reducible repeat (first | refine blk_drewN ?_ _ | refine blk_drew ?_ | refine blk_alloc ?_ _)); refine blk_put (cs := #[.int .u32 a1_1, .int .u32 0, .int .u32 0, .int .u32 0, .int .u32 0, .int .u32 0]) ?_ 1 _ rfl; (with_reducible repeat (first | refine blk_drewN ?_ _ | refine blk_drew ?_ | refine blk_alloc ?_ _)); refine blk_put (cs := #[.int .u32 0, .int .u32 0, .int .u32 0, .int .u32 0, .int .u32 0, .int .u32 0]) ?_ 0 _ rfl; (with_reducible repeat (first | refine blk_drewN ?_ _ | refine blk_drew ?_ | refine blk_alloc ?_ _)); exact BK106.out⟩, ⟨by repeat (first | (with_reducible first | exact HB.out | apply below_alloc | apply pw_below_drewN | apply below_drew1 | refine below_set ?_ GE105.out | refine below_set ?_ GE106.out) | exact HB.out)⟩⟩
  case rest =>
    clear HC3
    try clear c1
    try clear q1
    try clear p2
    try clear c6
    try clear c9
    try clear c11
    try clear hcz10_0
    try clear hcz10_1
    try clear hcz10_2
    try clear hcz10_3
    try clear hcz10_4
    try clear hcz10_5
    try clear hcz6_0
    try clear hcz6_1
    try clear hcz6_2
    try clear hcz6_3
    try clear hcz6_4
    try clear hcz6_5
    try clear hfz10_0
    try clear hfz10_1
    try clear hfz10_2
    try clear hfz10_3
    try clear hfz10_4
    try clear hfz10_5
    try clear hfz6_0
    try clear hfz6_1
    try clear hfz6_2
    try clear hfz6_3
    try clear hfz6_4
    try clear hfz6_5
    obtain ⟨kq, x15_2, rfl, HA, HJ2, BK105, BK106, HB⟩ := hcut
    cases kq with
    | zero => exact absurd HA.out (by simp [spec_l01Compare.j0])
    | succ kj2 =>
      have H := HA.out
      clear HA
      simp only [spec_l01Compare.j0] at H
      by_cases c15 : x15_2 = true
      · subst c15
        have H1 : (some (-1)) = some r := by rw [if_pos rfl] at H; exact H
        clear H
        have H := H1
        clear H1
        obtain rfl := Option.some.inj H
        go_wp2
        go_ret
        exact ⟨by first | rfl | (simp [errW_none, errW_some] <;> rfl) | (simp [*, errW_none, errW_some] <;> rfl), by repeat (first | (with_reducible first | exact HB.out | apply below_alloc | apply pw_below_drewN | apply below_drew1 | refine below_set ?_ GE105.out | refine below_set ?_ GE106.out) | exact HB.out)⟩
      · replace c15 := Bool.eq_false_iff.mpr c15
        subst c15
        have H1 : (if a0_0 = true then (spec_l01Compare.j1 kj2 false a0_0 a0_1 a0_2 a0_3 a0_4 a0_5 a0_6 a0_1 a0_2 a0_3 a0_4 a0_5 a0_6 a1_1 a1_2 a1_3 a1_4 a1_5 a1_6) else (spec_l01Compare.j1 kj2 a1_0 a0_0 a0_1 a0_2 a0_3 a0_4 a0_5 a0_6 a0_1 a0_2 a0_3 a0_4 a0_5 a0_6 a1_1 a1_2 a1_3 a1_4 a1_5 a1_6)) = some r := by rw [if_neg (show ¬ (false = true) by decide)] at H; exact H
        clear H
        have H := H1
        clear H1
        have HC16 := Aside0.mk H
        clear H
        go_upto_region 5 with (fail)
        go_cut [27] (fun v27 wc => ∃ (kq : Nat) (x27_15 : Bool), v27 = .bool x27_15 ∧ Aside0 (spec_l01Compare.j1 kq x27_15 a0_0 a0_1 a0_2 a0_3 a0_4 a0_5 a0_6 a0_1 a0_2 a0_3 a0_4 a0_5 a0_6 a1_1 a1_2 a1_3 a1_4 a1_5 a1_6 = some r) ∧ Aside0 (kq ≤ kj2) ∧ Aside0 (wc.heap[gb105]? = some (.cells #[.int .u32 a0_1, .int .u32 a0_2, .int .u32 a0_3, .int .u32 a0_4, .int .u32 a0_5, .int .u32 a0_6] 80 (0, 0))) ∧ Aside0 (wc.heap[gb106]? = some (.cells #[.int .u32 a1_1, .int .u32 a1_2, .int .u32 a1_3, .int .u32 a1_4, .int .u32 a1_5, .int .u32 a1_6] 80 (0, 0))) ∧ Aside0 (Below w.heap.size w wc))
        case first =>
          have H := HC16.out
          clear HC16
          by_cases c17 : a0_0 = true
          · subst c17
            have H1 : (spec_l01Compare.j1 kj2 false true a0_1 a0_2 a0_3 a0_4 a0_5 a0_6 a0_1 a0_2 a0_3 a0_4 a0_5 a0_6 a1_1 a1_2 a1_3 a1_4 a1_5 a1_6) = some r := by rw [if_pos rfl] at H; exact H
            clear H
            have H := H1
            clear H1
            have H' := Aside0.mk H
            clear H
            obtain ⟨hxr18_0, hxr18_1, hxr18_2, hxr18_3, hxr18_4, hxr18_5, hxr18_6⟩ := HQ0_.out
            replace hxr18_0 := ((show Below w.heap.size w wc from by repeat (first | (with_reducible first | exact HB.out | apply below_alloc | apply pw_below_drewN | apply below_drew1 | refine below_set ?_ GE105.out | refine below_set ?_ GE106.out) | exact HB.out)).cell (World.block_lt_of_cell? w _ hxr18_0)).trans hxr18_0
            replace hxr18_1 := ((show Below w.heap.size w wc from by repeat (first | (with_reducible first | exact HB.out | apply below_alloc | apply pw_below_drewN | apply below_drew1 | refine below_set ?_ GE105.out | refine below_set ?_ GE106.out) | exact HB.out)).cell (World.block_lt_of_cell? w _ hxr18_1)).trans hxr18_1
            replace hxr18_2 := ((show Below w.heap.size w wc from by repeat (first | (with_reducible first | exact HB.out | apply below_alloc | apply pw_below_drewN | apply below_drew1 | refine below_set ?_ GE105.out | refine below_set ?_ GE106.out) | exact HB.out)).cell (World.block_lt_of_cell? w _ hxr18_2)).trans hxr18_2
            replace hxr18_3 := ((show Below w.heap.size w wc from by repeat (first | (with_reducible first | exact HB.out | apply below_alloc | apply pw_below_drewN | apply below_drew1 | refine below_set ?_ GE105.out | refine below_set ?_ GE106.out) | exact HB.out)).cell (World.block_lt_of_cell? w _ hxr18_3)).trans hxr18_3
            replace hxr18_4 := ((show Below w.heap.size w wc from by repeat (first | (with_reducible first | exact HB.out | apply below_alloc | apply pw_below_drewN | apply below_drew1 | refine below_set ?_ GE105.out | refine below_set ?_ GE106.out) | exact HB.out)).cell (World.block_lt_of_cell? w _ hxr18_4)).trans hxr18_4
            replace hxr18_5 := ((show Below w.heap.size w wc from by repeat (first | (with_reducible first | exact HB.out | apply below_alloc | apply pw_below_drewN | apply below_drew1 | refine below_set ?_ GE105.out | refine below_set ?_ GE106.out) | exact HB.out)).cell (World.block_lt_of_cell? w _ hxr18_5)).trans hxr18_5
            replace hxr18_6 := ((show Below w.heap.size w wc from by repeat (first | (with_reducible first | exact HB.out | apply below_alloc | apply pw_below_drewN | apply below_drew1 | refine below_set ?_ GE105.out | refine below_set ?_ GE106.out) | exact HB.out)).cell (World.block_lt_of_cell? w _ hxr18_6)).trans hxr18_6
            go_wp2
            go_meet
            case rel => exact ⟨_, (false), (by first | rfl | (simp; done) | (simp [*]; done)), H', ⟨by have := HJ2.out; first | omega | exact Nat.le_refl _⟩, ⟨by (with_reducible repeat (first | refine blk_drewN ?_ _ | refine blk_drew ?_ | refine blk_alloc ?_ _)); exact BK105.out⟩, ⟨by (with_reducible repeat (first | refine blk_drewN ?_ _ | refine blk_drew ?_ | refine blk_alloc ?_ _)); exact BK106.out⟩, ⟨by repeat (first | (with_reducible first | exact HB.out | apply below_alloc | apply pw_below_drewN | apply below_drew1 | refine below_set ?_ GE105.out | refine below_set ?_ GE106.out) | exact HB.out)⟩⟩
          · replace c17 := Bool.eq_false_iff.mpr c17
            subst c17
            have H1 : (spec_l01Compare.j1 kj2 a1_0 false a0_1 a0_2 a0_3 a0_4 a0_5 a0_6 a0_1 a0_2 a0_3 a0_4 a0_5 a0_6 a1_1 a1_2 a1_3 a1_4 a1_5 a1_6) = some r := by rw [if_neg (show ¬ (false = true) by decide)] at H; exact H
            clear H
            have H := H1
            clear H1
            have H' := Aside0.mk H
            clear H
            obtain ⟨hxr19_0, hxr19_1, hxr19_2, hxr19_3, hxr19_4, hxr19_5, hxr19_6⟩ := HQ0_.out
            replace hxr19_0 := ((show Below w.heap.size w wc from by repeat (first | (with_reducible first | exact HB.out | apply below_alloc | apply pw_below_drewN | apply below_drew1 | refine below_set ?_ GE105.out | refine below_set ?_ GE106.out) | exact HB.out)).cell (World.block_lt_of_cell? w _ hxr19_0)).trans hxr19_0
            replace hxr19_1 := ((show Below w.heap.size w wc from by repeat (first | (with_reducible first | exact HB.out | apply below_alloc | apply pw_below_drewN | apply below_drew1 | refine below_set ?_ GE105.out | refine below_set ?_ GE106.out) | exact HB.out)).cell (World.block_lt_of_cell? w _ hxr19_1)).trans hxr19_1
            replace hxr19_2 := ((show Below w.heap.size w wc from by repeat (first | (with_reducible first | exact HB.out | apply below_alloc | apply pw_below_drewN | apply below_drew1 | refine below_set ?_ GE105.out | refine below_set ?_ GE106.out) | exact HB.out)).cell (World.block_lt_of_cell? w _ hxr19_2)).trans hxr19_2
            replace hxr19_3 := ((show Below w.heap.size w wc from by repeat (first | (with_reducible first | exact HB.out | apply below_alloc | apply pw_below_drewN | apply below_drew1 | refine below_set ?_ GE105.out | refine below_set ?_ GE106.out) | exact HB.out)).cell (World.block_lt_of_cell? w _ hxr19_3)).trans hxr19_3
            replace hxr19_4 := ((show Below w.heap.size w wc from by repeat (first | (with_reducible first | exact HB.out | apply below_alloc | apply pw_below_drewN | apply below_drew1 | refine below_set ?_ GE105.out | refine below_set ?_ GE106.out) | exact HB.out)).cell (World.block_lt_of_cell? w _ hxr19_4)).trans hxr19_4
            replace hxr19_5 := ((show Below w.heap.size w wc from by repeat (first | (with_reducible first | exact HB.out | apply below_alloc | apply pw_below_drewN | apply below_drew1 | refine below_set ?_ GE105.out | refine below_set ?_ GE106.out) | exact HB.out)).cell (World.block_lt_of_cell? w _ hxr19_5)).trans hxr19_5
            replace hxr19_6 := ((show Below w.heap.size w wc from by repeat (first | (with_reducible first | exact HB.out | apply below_alloc | apply pw_below_drewN | apply below_drew1 | refine below_set ?_ GE105.out | refine below_set ?_ GE106.out) | exact HB.out)).cell (World.block_lt_of_cell? w _ hxr19_6)).trans hxr19_6
            obtain ⟨hxr20_0, hxr20_1, hxr20_2, hxr20_3, hxr20_4, hxr20_5, hxr20_6⟩ := HQ1_.out
            replace hxr20_0 := ((show Below w.heap.size w wc from by repeat (first | (with_reducible first | exact HB.out | apply below_alloc | apply pw_below_drewN | apply below_drew1 | refine below_set ?_ GE105.out | refine below_set ?_ GE106.out) | exact HB.out)).cell (World.block_lt_of_cell? w _ hxr20_0)).trans hxr20_0
            replace hxr20_1 := ((show Below w.heap.size w wc from by repeat (first | (with_reducible first | exact HB.out | apply below_alloc | apply pw_below_drewN | apply below_drew1 | refine below_set ?_ GE105.out | refine below_set ?_ GE106.out) | exact HB.out)).cell (World.block_lt_of_cell? w _ hxr20_1)).trans hxr20_1
            replace hxr20_2 := ((show Below w.heap.size w wc from by repeat (first | (with_reducible first | exact HB.out | apply below_alloc | apply pw_below_drewN | apply below_drew1 | refine below_set ?_ GE105.out | refine below_set ?_ GE106.out) | exact HB.out)).cell (World.block_lt_of_cell? w _ hxr20_2)).trans hxr20_2
            replace hxr20_3 := ((show Below w.heap.size w wc from by repeat (first | (with_reducible first | exact HB.out | apply below_alloc | apply pw_below_drewN | apply below_drew1 | refine below_set ?_ GE105.out | refine below_set ?_ GE106.out) | exact HB.out)).cell (World.block_lt_of_cell? w _ hxr20_3)).trans hxr20_3
            replace hxr20_4 := ((show Below w.heap.size w wc from by repeat (first | (with_reducible first | exact HB.out | apply below_alloc | apply pw_below_drewN | apply below_drew1 | refine below_set ?_ GE105.out | refine below_set ?_ GE106.out) | exact HB.out)).cell (World.block_lt_of_cell? w _ hxr20_4)).trans hxr20_4
            replace hxr20_5 := ((show Below w.heap.size w wc from by repeat (first | (with_reducible first | exact HB.out | apply below_alloc | apply pw_below_drewN | apply below_drew1 | refine below_set ?_ GE105.out | refine below_set ?_ GE106.out) | exact HB.out)).cell (World.block_lt_of_cell? w _ hxr20_5)).trans hxr20_5
            replace hxr20_6 := ((show Below w.heap.size w wc from by repeat (first | (with_reducible first | exact HB.out | apply below_alloc | apply pw_below_drewN | apply below_drew1 | refine below_set ?_ GE105.out | refine below_set ?_ GE106.out) | exact HB.out)).cell (World.block_lt_of_cell? w _ hxr20_6)).trans hxr20_6
            go_wp2
            go_meet
            case rel => exact ⟨_, (a1_0), (by first | rfl | (simp; done) | (simp [*]; done)), H', ⟨by have := HJ2.out; first | omega | exact Nat.le_refl _⟩, ⟨by (with_reducible repeat (first | refine blk_drewN ?_ _ | refine blk_drew ?_ | refine blk_alloc ?_ _)); exact BK105.out⟩, ⟨by (with_reducible repeat (first | refine blk_drewN ?_ _ | refine blk_drew ?_ | refine blk_alloc ?_ _)); exact BK106.out⟩, ⟨by repeat (first | (with_reducible first | exact HB.out | apply below_alloc | apply pw_below_drewN | apply below_drew1 | refine below_set ?_ GE105.out | refine below_set ?_ GE106.out) | exact HB.out)⟩⟩
        case rest =>
          clear HC16
          try clear c1
          try clear q1
          try clear p2
          try clear c6
          try clear c9
          try clear c11
          try clear c15
          try clear c17
          try clear hcz10_0
          try clear hcz10_1
          try clear hcz10_2
          try clear hcz10_3
          try clear hcz10_4
          try clear hcz10_5
          try clear hcz6_0
          try clear hcz6_1
          try clear hcz6_2
          try clear hcz6_3
          try clear hcz6_4
          try clear hcz6_5
          try clear hfz10_0
          try clear hfz10_1
          try clear hfz10_2
          try clear hfz10_3
          try clear hfz10_4
          try clear hfz10_5
          try clear hfz6_0
          try clear hfz6_1
          try clear hfz6_2
          try clear hfz6_3
          try clear hfz6_4
          try clear hfz6_5
          try clear p2
          try clear q1
          obtain ⟨kq, x27_15, rfl, HA, HJ15, BK105, BK106, HB⟩ := hcut
          cases kq with
          | zero => exact absurd HA.out (by simp [spec_l01Compare.j1])
          | succ kj15 =>
            have H := HA.out
            clear HA
            simp only [spec_l01Compare.j1] at H
            by_cases c21 : x27_15 = true
            · subst c21
              have H1 : (some 1) = some r := by rw [if_pos rfl] at H; exact H
              clear H
              have H := H1
              clear H1
              obtain rfl := Option.some.inj H
              go_wp2
              go_ret
              exact ⟨by first | rfl | (simp [errW_none, errW_some] <;> rfl) | (simp [*, errW_none, errW_some] <;> rfl), by repeat (first | (with_reducible first | exact HB.out | apply below_alloc | apply pw_below_drewN | apply below_drew1 | refine below_set ?_ GE105.out | refine below_set ?_ GE106.out) | exact HB.out)⟩
            · replace c21 := Bool.eq_false_iff.mpr c21
              subst c21
              have H1 : (if a0_0 = true then ((spec_l01Cmp.f kj15 a1_1 a1_2 a1_3 a1_4 a1_5 a1_6 a0_1 a0_2 a0_3 a0_4 a0_5 a0_6).bind fun t107 => (some t107)) else ((spec_l01Cmp.f kj15 a0_1 a0_2 a0_3 a0_4 a0_5 a0_6 a1_1 a1_2 a1_3 a1_4 a1_5 a1_6).bind fun t108 => (some t108))) = some r := by rw [if_neg (show ¬ (false = true) by decide)] at H; exact H
              clear H
              have H := H1
              clear H1
              by_cases c22 : a0_0 = true
              · subst c22
                have H1 : ((spec_l01Cmp.f kj15 a1_1 a1_2 a1_3 a1_4 a1_5 a1_6 a0_1 a0_2 a0_3 a0_4 a0_5 a0_6).bind fun t107 => (some t107)) = some r := by rw [if_pos rfl] at H; exact H
                clear H
                have H := H1
                clear H1
                replace H := Option.bind_eq_some_iff.mp H
                obtain ⟨t107, A230, H⟩ := H
                replace H : (some t107) = some r := H
                have A23 := Aside0.mk A230
                clear A230
                obtain rfl := Option.some.inj H
                obtain ⟨hxr24_0, hxr24_1, hxr24_2, hxr24_3, hxr24_4, hxr24_5, hxr24_6⟩ := HQ0_.out
                replace hxr24_0 := ((show Below w.heap.size w wc from by repeat (first | (with_reducible first | exact HB.out | apply below_alloc | apply pw_below_drewN | apply below_drew1 | refine below_set ?_ GE105.out | refine below_set ?_ GE106.out) | exact HB.out)).cell (World.block_lt_of_cell? w _ hxr24_0)).trans hxr24_0
                replace hxr24_1 := ((show Below w.heap.size w wc from by repeat (first | (with_reducible first | exact HB.out | apply below_alloc | apply pw_below_drewN | apply below_drew1 | refine below_set ?_ GE105.out | refine below_set ?_ GE106.out) | exact HB.out)).cell (World.block_lt_of_cell? w _ hxr24_1)).trans hxr24_1
                replace hxr24_2 := ((show Below w.heap.size w wc from by repeat (first | (with_reducible first | exact HB.out | apply below_alloc | apply pw_below_drewN | apply below_drew1 | refine below_set ?_ GE105.out | refine below_set ?_ GE106.out) | exact HB.out)).cell (World.block_lt_of_cell? w _ hxr24_2)).trans hxr24_2
                replace hxr24_3 := ((show Below w.heap.size w wc from by repeat (first | (with_reducible first | exact HB.out | apply below_alloc | apply pw_below_drewN | apply below_drew1 | refine below_set ?_ GE105.out | refine below_set ?_ GE106.out) | exact HB.out)).cell (World.block_lt_of_cell? w _ hxr24_3)).trans hxr24_3
                replace hxr24_4 := ((show Below w.heap.size w wc from by repeat (first | (with_reducible first | exact HB.out | apply below_alloc | apply pw_below_drewN | apply below_drew1 | refine below_set ?_ GE105.out | refine below_set ?_ GE106.out) | exact HB.out)).cell (World.block_lt_of_cell? w _ hxr24_4)).trans hxr24_4
                replace hxr24_5 := ((show Below w.heap.size w wc from by repeat (first | (with_reducible first | exact HB.out | apply below_alloc | apply pw_below_drewN | apply below_drew1 | refine below_set ?_ GE105.out | refine below_set ?_ GE106.out) | exact HB.out)).cell (World.block_lt_of_cell? w _ hxr24_5)).trans hxr24_5
                replace hxr24_6 := ((show Below w.heap.size w wc from by repeat (first | (with_reducible first | exact HB.out | apply below_alloc | apply pw_below_drewN | apply below_drew1 | refine below_set ?_ GE105.out | refine below_set ?_ GE106.out) | exact HB.out)).cell (World.block_lt_of_cell? w _ hxr24_6)).trans hxr24_6
                go_wp2_with (first | ((with_reducible refine gate_callee (f := 69) rfl ?_); refine goesL_ (some 44) rfl rfl Try.func69 (by kernel_rfl) rfl #[.pointer (some ⟨gb106, 0, none⟩), .pointer (some ⟨gb105, 0, none⟩)] rfl (by (try simp only [List.map_toArray, List.map_cons, List.map_nil]); first | done | rfl | (simp only [List.length_drop, List.length_take]; rfl)) ?_; (with_reducible refine (spec_l01Cmp.calls kj15 gb106 0 a1_1 a1_2 a1_3 a1_4 a1_5 a1_6 gb105 0 a0_1 a0_2 a0_3 a0_4 a0_5 a0_6 t107 _ ?side1 ?side2 A23.out).mono ?_); (case side1 => exact ⟨(blk_cell (by (with_reducible repeat (first | refine blk_drewN ?_ _ | refine blk_drew ?_ | refine blk_alloc ?_ _)); exact BK106.out) 0).trans rfl, (blk_cell (by (with_reducible repeat (first | refine blk_drewN ?_ _ | refine blk_drew ?_ | refine blk_alloc ?_ _)); exact BK106.out) 1).trans rfl, (blk_cell (by (with_reducible repeat (first | refine blk_drewN ?_ _ | refine blk_drew ?_ | refine blk_alloc ?_ _)); exact BK106.out) 2).trans rfl, (blk_cell (by (with_reducible repeat (first | refine blk_drewN ?_ _ | refine blk_drew ?_ | refine blk_alloc ?_ _)); exact BK106.out) 3).trans rfl, (blk_cell (by (with_reducible repeat (first | refine blk_drewN ?_ _ | refine blk_drew ?_ | refine blk_alloc ?_ _)); exact BK106.out) 4).trans rfl, (blk_cell (by (with_reducible repeat (first | refine blk_drewN ?_ _ | refine blk_drew ?_ | refine blk_alloc ?_ _)); exact BK106.out) 5).trans rfl⟩); (case side2 => exact ⟨(blk_cell (by (with_reducible repeat (first | refine blk_drewN ?_ _ | refine blk_drew ?_ | refine blk_alloc ?_ _)); exact BK105.out) 0).trans rfl, (blk_cell (by (with_reducible repeat (first | refine blk_drewN ?_ _ | refine blk_drew ?_ | refine blk_alloc ?_ _)); exact BK105.out) 1).trans rfl, (blk_cell (by (with_reducible repeat (first | refine blk_drewN ?_ _ | refine blk_drew ?_ | refine blk_alloc ?_ _)); exact BK105.out) 2).trans rfl, (blk_cell (by (with_reducible repeat (first | refine blk_drewN ?_ _ | refine blk_drew ?_ | refine blk_alloc ?_ _)); exact BK105.out) 3).trans rfl, (blk_cell (by (with_reducible repeat (first | refine blk_drewN ?_ _ | refine blk_drew ?_ | refine blk_alloc ?_ _)); exact BK105.out) 4).trans rfl, (blk_cell (by (with_reducible repeat (first | refine blk_drewN ?_ _ | refine blk_drew ?_ | refine blk_alloc ?_ _)); exact BK105.out) 5).trans rfl⟩); rintro e w' ⟨rfl, ⟨nd, rfl⟩⟩; refine ⟨_, rfl, ?_⟩))
                go_ret
                exact ⟨by first | rfl | (simp [errW_none, errW_some] <;> rfl) | (simp [*, errW_none, errW_some] <;> rfl), by repeat (first | (with_reducible first | exact HB.out | apply below_alloc | apply pw_below_drewN | apply below_drew1 | refine below_set ?_ GE105.out | refine below_set ?_ GE106.out) | exact HB.out)⟩
              · replace c22 := Bool.eq_false_iff.mpr c22
                subst c22
                have H1 : ((spec_l01Cmp.f kj15 a0_1 a0_2 a0_3 a0_4 a0_5 a0_6 a1_1 a1_2 a1_3 a1_4 a1_5 a1_6).bind fun t108 => (some t108)) = some r := by rw [if_neg (show ¬ (false = true) by decide)] at H; exact H
                clear H
                have H := H1
                clear H1
                replace H := Option.bind_eq_some_iff.mp H
                obtain ⟨t108, A250, H⟩ := H
                replace H : (some t108) = some r := H
                have A25 := Aside0.mk A250
                clear A250
                obtain rfl := Option.some.inj H
                obtain ⟨hxr26_0, hxr26_1, hxr26_2, hxr26_3, hxr26_4, hxr26_5, hxr26_6⟩ := HQ0_.out
                replace hxr26_0 := ((show Below w.heap.size w wc from by repeat (first | (with_reducible first | exact HB.out | apply below_alloc | apply pw_below_drewN | apply below_drew1 | refine below_set ?_ GE105.out | refine below_set ?_ GE106.out) | exact HB.out)).cell (World.block_lt_of_cell? w _ hxr26_0)).trans hxr26_0
                replace hxr26_1 := ((show Below w.heap.size w wc from by repeat (first | (with_reducible first | exact HB.out | apply below_alloc | apply pw_below_drewN | apply below_drew1 | refine below_set ?_ GE105.out | refine below_set ?_ GE106.out) | exact HB.out)).cell (World.block_lt_of_cell? w _ hxr26_1)).trans hxr26_1
                replace hxr26_2 := ((show Below w.heap.size w wc from by repeat (first | (with_reducible first | exact HB.out | apply below_alloc | apply pw_below_drewN | apply below_drew1 | refine below_set ?_ GE105.out | refine below_set ?_ GE106.out) | exact HB.out)).cell (World.block_lt_of_cell? w _ hxr26_2)).trans hxr26_2
                replace hxr26_3 := ((show Below w.heap.size w wc from by repeat (first | (with_reducible first | exact HB.out | apply below_alloc | apply pw_below_drewN | apply below_drew1 | refine below_set ?_ GE105.out | refine below_set ?_ GE106.out) | exact HB.out)).cell (World.block_lt_of_cell? w _ hxr26_3)).trans hxr26_3
                replace hxr26_4 := ((show Below w.heap.size w wc from by repeat (first | (with_reducible first | exact HB.out | apply below_alloc | apply pw_below_drewN | apply below_drew1 | refine below_set ?_ GE105.out | refine below_set ?_ GE106.out) | exact HB.out)).cell (World.block_lt_of_cell? w _ hxr26_4)).trans hxr26_4
                replace hxr26_5 := ((show Below w.heap.size w wc from by repeat (first | (with_reducible first | exact HB.out | apply below_alloc | apply pw_below_drewN | apply below_drew1 | refine below_set ?_ GE105.out | refine below_set ?_ GE106.out) | exact HB.out)).cell (World.block_lt_of_cell? w _ hxr26_5)).trans hxr26_5
                replace hxr26_6 := ((show Below w.heap.size w wc from by repeat (first | (with_reducible first | exact HB.out | apply below_alloc | apply pw_below_drewN | apply below_drew1 | refine below_set ?_ GE105.out | refine below_set ?_ GE106.out) | exact HB.out)).cell (World.block_lt_of_cell? w _ hxr26_6)).trans hxr26_6
                go_wp2_with (first | ((with_reducible refine gate_callee (f := 69) rfl ?_); refine goesL_ (some 45) rfl rfl Try.func69 (by kernel_rfl) rfl #[.pointer (some ⟨gb105, 0, none⟩), .pointer (some ⟨gb106, 0, none⟩)] rfl (by (try simp only [List.map_toArray, List.map_cons, List.map_nil]); first | done | rfl | (simp only [List.length_drop, List.length_take]; rfl)) ?_; (with_reducible refine (spec_l01Cmp.calls kj15 gb105 0 a0_1 a0_2 a0_3 a0_4 a0_5 a0_6 gb106 0 a1_1 a1_2 a1_3 a1_4 a1_5 a1_6 t108 _ ?side1 ?side2 A25.out).mono ?_); (case side1 => exact ⟨(blk_cell (by (with_reducible repeat (first | refine blk_drewN ?_ _ | refine blk_drew ?_ | refine blk_alloc ?_ _)); exact BK105.out) 0).trans rfl, (blk_cell (by (with_reducible repeat (first | refine blk_drewN ?_ _ | refine blk_drew ?_ | refine blk_alloc ?_ _)); exact BK105.out) 1).trans rfl, (blk_cell (by (with_reducible repeat (first | refine blk_drewN ?_ _ | refine blk_drew ?_ | refine blk_alloc ?_ _)); exact BK105.out) 2).trans rfl, (blk_cell (by (with_reducible repeat (first | refine blk_drewN ?_ _ | refine blk_drew ?_ | refine blk_alloc ?_ _)); exact BK105.out) 3).trans rfl, (blk_cell (by (with_reducible repeat (first | refine blk_drewN ?_ _ | refine blk_drew ?_ | refine blk_alloc ?_ _)); exact BK105.out) 4).trans rfl, (blk_cell (by (with_reducible repeat (first | refine blk_drewN ?_ _ | refine blk_drew ?_ | refine blk_alloc ?_ _)); exact BK105.out) 5).trans rfl⟩); (case side2 => exact ⟨(blk_cell (by (with_reducible repeat (first | refine blk_drewN ?_ _ | refine blk_drew ?_ | refine blk_alloc ?_ _)); exact BK106.out) 0).trans rfl, (blk_cell (by (with_reducible repeat (first | refine blk_drewN ?_ _ | refine blk_drew ?_ | refine blk_alloc ?_ _)); exact BK106.out) 1).trans rfl, (blk_cell (by (with_reducible repeat (first | refine blk_drewN ?_ _ | refine blk_drew ?_ | refine blk_alloc ?_ _)); exact BK106.out) 2).trans rfl, (blk_cell (by (with_reducible repeat (first | refine blk_drewN ?_ _ | refine blk_drew ?_ | refine blk_alloc ?_ _)); exact BK106.out) 3).trans rfl, (blk_cell (by (with_reducible repeat (first | refine blk_drewN ?_ _ | refine blk_drew ?_ | refine blk_alloc ?_ _)); exact BK106.out) 4).trans rfl, (blk_cell (by (with_reducible repeat (first | refine blk_drewN ?_ _ | refine blk_drew ?_ | refine blk_alloc ?_ _)); exact BK106.out) 5).trans rfl⟩); rintro e w' ⟨rfl, ⟨nd, rfl⟩⟩; refine ⟨_, rfl, ?_⟩))
                go_ret
                exact ⟨by first | rfl | (simp [errW_none, errW_some] <;> rfl) | (simp [*, errW_none, errW_some] <;> rfl), by repeat (first | (with_reducible first | exact HB.out | apply below_alloc | apply pw_below_drewN | apply below_drew1 | refine below_set ?_ GE105.out | refine below_set ?_ GE106.out) | exact HB.out)⟩

/-! ### spec_l00In: function 58 -/
def spec_l00In.f (a0 : Int) (a1 : Int) (a2 : Int) : Option (Bool) := if a0 ≥ a1 then (some (decide (a0 ≤ a2))) else (some false)
set_option maxHeartbeats 8000000 in
set_option maxRecDepth 100000 in
theorem spec_l00In.calls (a0 : Int) (a1 : Int) (a2 : Int) (r : Bool) (w : World) (h : spec_l00In.f a0 a1 a2 = some r) :
    Calls Try.prog 58 #[.int .i64 a0, .int .i64 a1, .int .i64 a2] w fun e w' => e = .returned (.bool r) ∧ Drawn0 w w' := by
  have H : (if a0 ≥ a1 then (some (decide (a0 ≤ a2))) else (some false)) = some r := h
  clear h
  by_cases c4 : a0 ≥ a1
  · rw [if_pos c4] at H
    have c4b0 : decide (a1 ≤ a0) = true := decide_eq_true c4
    clear c4
    obtain rfl := Option.some.inj H
    go_enter Try.func58, Try.ntmps58
    go_wp2
    go_ret
    exact ⟨by first | rfl | (simp; done) | (simp [*]; done), by repeat (first | exact Drawn0.refl _ | apply Drawn0.step)⟩
  · rw [if_neg c4] at H
    have c4b0 : decide (a1 ≤ a0) = false := decide_eq_false c4
    clear c4
    obtain rfl := Option.some.inj H
    go_enter Try.func58, Try.ntmps58
    go_wp2
    go_ret
    exact ⟨by first | rfl | (simp; done) | (simp [*]; done), by repeat (first | exact Drawn0.refl _ | apply Drawn0.step)⟩

/-! ### spec_l02Places: function 63 -/
def spec_l02Places.f (a0 : Int) : Option (Bool) := (spec_l00In.f a0 0 64).bind fun t109 => (some t109)
set_option maxHeartbeats 8000000 in
set_option maxRecDepth 100000 in
theorem spec_l02Places.calls (a0 : Int) (r : Bool) (w : World) (h : spec_l02Places.f a0 = some r) :
    Calls Try.prog 63 #[.int .i64 a0] w fun e w' => e = .returned (.bool r) ∧ Drawn0 w w' := by
  have H : ((spec_l00In.f a0 0 64).bind fun t109 => (some t109)) = some r := h
  clear h
  replace H := Option.bind_eq_some_iff.mp H
  obtain ⟨t109, A20, H⟩ := H
  replace H : (some t109) = some r := H
  have A2 := Aside0.mk A20
  clear A20
  obtain rfl := Option.some.inj H
  go_enter Try.func63, Try.ntmps63
  go_wp2_with (first | ((with_reducible refine gate_callee (f := 58) rfl ?_); refine goesL_ (some 4) rfl rfl Try.func58 (by kernel_rfl) rfl #[.int .i64 a0, .int .i64 0, .int .i64 64] rfl (by (try simp only [List.map_toArray, List.map_cons, List.map_nil]); first | done | rfl | (simp only [List.length_drop, List.length_take]; rfl)) ?_; (with_reducible refine (spec_l00In.calls a0 0 64 t109 _ A2.out).mono ?_); rintro e w' ⟨rfl, ⟨nd, rfl⟩⟩; refine ⟨_, rfl, ?_⟩))
  go_ret
  exact ⟨by first | rfl | (simp; done) | (simp [*]; done), by repeat (first | exact Drawn0.refl _ | apply Drawn0.step)⟩

end Go.Proofs.Ytpijklhonoekbaa.MFnExactValidPart
