/- Functions of the program as Lean functions, and the proof that the code comes to what they say. Written by a program of this session (myprint.py). -/
import Derived.Test.YtpijklhonoekbaaMFnExactValidPartx0
import Derived.Test.YtpijklhonoekbaaMFnExactValidPartx4
namespace Go.Proofs.Ytpijklhonoekbaa.MFnExactValidPart
open Go.RowKit Go.Proofs.Ytpijklhonoekbaa.MOpen Go.Proofs.YtpijklhonoekbaaW.PrintWords Go.Proofs.YtpijklhonoekbaaW.PrintLast Go.Proofs.YtpijklhonoekbaaW.PrintMore
attribute [local go_sem] max2_int min2_int max_two min_two max_three min_three max_four min_four   -- for this text's walks alone
set_option linter.unusedVariables false
set_option linter.unusedSimpArgs false

/-! ### impl_compare: function 50 -/
def impl_compare.j0 : Nat → Bool → Bool → Int → Int → Int → Int → Int → Int → Bool → Int → Int → Int → Int → Int → Int → Option (Int)
  | 0, _, _, _, _, _, _, _, _, _, _, _, _, _, _, _ => none
  | k + 1, x5, x155000, x155001, x155002, x155003, x155004, x155005, x155006, x156000, x156001, x156002, x156003, x156004, x156005, x156006 => if x5 = true then (some (-1)) else (if (x155000 != x156000) = true then (some 1) else (if x155000 = true then ((impl_size_compare.f k x156001 x156002 x156003 x156004 x156005 x156006 x155001 x155002 x155003 x155004 x155005 x155006).bind fun t156 => (some t156)) else ((impl_size_compare.f k x155001 x155002 x155003 x155004 x155005 x155006 x156001 x156002 x156003 x156004 x156005 x156006).bind fun t157 => (some t157))))
def impl_compare.f (k : Nat) (a0_0 : Bool) (a0_1 : Int) (a0_2 : Int) (a0_3 : Int) (a0_4 : Int) (a0_5 : Int) (a0_6 : Int) (a1_0 : Bool) (a1_1 : Int) (a1_2 : Int) (a1_3 : Int) (a1_4 : Int) (a1_5 : Int) (a1_6 : Int) : Option (Int) := if (a0_0 != a1_0) = true then (impl_compare.j0 k a0_0 a0_0 a0_1 a0_2 a0_3 a0_4 a0_5 a0_6 a1_0 a1_1 a1_2 a1_3 a1_4 a1_5 a1_6) else (impl_compare.j0 k false a0_0 a0_1 a0_2 a0_3 a0_4 a0_5 a0_6 a1_0 a1_1 a1_2 a1_3 a1_4 a1_5 a1_6)
theorem impl_compare.mono_l : ∀ k, (∀ y0 y1 y2 y3 y4 y5 y6 y7 y8 y9 y10 y11 y12 y13 y14, LeO (impl_compare.j0 k y0 y1 y2 y3 y4 y5 y6 y7 y8 y9 y10 y11 y12 y13 y14) (impl_compare.j0 (k + 1) y0 y1 y2 y3 y4 y5 y6 y7 y8 y9 y10 y11 y12 y13 y14))
  | 0 => fun _ _ _ _ _ _ _ _ _ _ _ _ _ _ _ r h => by simp [impl_compare.j0] at h
  | k + 1 => by
    have ih0 := impl_compare.mono_l k
    · intro y0 y1 y2 y3 y4 y5 y6 y7 y8 y9 y10 y11 y12 y13 y14
      unfold impl_compare.j0
      repeat' first
      | (with_reducible exact ih0 _ _ _ _ _ _ _ _ _ _ _ _ _ _ _)
      | (with_reducible exact impl_size_compare.mono _ _ _ _ _ _ _ _ _ _ _ _ _)
      | (with_reducible exact LeO.refl _)
      | (with_reducible exact LeO.none _)
      | (with_reducible refine LeO.ite ?_ ?_)
      | (with_reducible refine LeO.bind ?_ (fun _ => ?_))
      | exact ih0 _ _ _ _ _ _ _ _ _ _ _ _ _ _ _
      | exact impl_size_compare.mono _ _ _ _ _ _ _ _ _ _ _ _ _
      | exact LeO.none _
      | refine LeO.ite ?_ ?_
      | refine LeO.bind ?_ (fun _ => ?_)
theorem impl_compare.mono : ∀ a0 a1 a2 a3 a4 a5 a6 a7 a8 a9 a10 a11 a12 a13 k, LeO (impl_compare.f k a0 a1 a2 a3 a4 a5 a6 a7 a8 a9 a10 a11 a12 a13) (impl_compare.f (k + 1) a0 a1 a2 a3 a4 a5 a6 a7 a8 a9 a10 a11 a12 a13) := by
  intro a0 a1 a2 a3 a4 a5 a6 a7 a8 a9 a10 a11 a12 a13 k
  have ih0 := impl_compare.mono_l k
  unfold impl_compare.f
  repeat' first
      | (with_reducible exact ih0 _ _ _ _ _ _ _ _ _ _ _ _ _ _ _)
      | (with_reducible exact impl_size_compare.mono _ _ _ _ _ _ _ _ _ _ _ _ _)
      | (with_reducible exact LeO.refl _)
      | (with_reducible exact LeO.none _)
      | (with_reducible refine LeO.ite ?_ ?_)
      | (with_reducible refine LeO.bind ?_ (fun _ => ?_))
      | exact ih0 _ _ _ _ _ _ _ _ _ _ _ _ _ _ _
      | exact impl_size_compare.mono _ _ _ _ _ _ _ _ _ _ _ _ _
      | exact LeO.none _
      | refine LeO.ite ?_ ?_
      | refine LeO.bind ?_ (fun _ => ?_)
set_option maxHeartbeats 8000000 in
set_option maxRecDepth 100000 in
theorem impl_compare.calls (k : Nat) (a0_0 : Bool) (a0_1 : Int) (a0_2 : Int) (a0_3 : Int) (a0_4 : Int) (a0_5 : Int) (a0_6 : Int) (a1_0 : Bool) (a1_1 : Int) (a1_2 : Int) (a1_3 : Int) (a1_4 : Int) (a1_5 : Int) (a1_6 : Int) (r : Int) (w : World) (h : impl_compare.f k a0_0 a0_1 a0_2 a0_3 a0_4 a0_5 a0_6 a1_0 a1_1 a1_2 a1_3 a1_4 a1_5 a1_6 = some r) :
    Calls Try.prog 50 #[.agg #[.bool a0_0, .int .u32 a0_1, .int .u32 a0_2, .int .u32 a0_3, .int .u32 a0_4, .int .u32 a0_5, .int .u32 a0_6], .agg #[.bool a1_0, .int .u32 a1_1, .int .u32 a1_2, .int .u32 a1_3, .int .u32 a1_4, .int .u32 a1_5, .int .u32 a1_6]] w fun e w' => e = .returned (.int .i64 r) ∧ Below w.heap.size w w' := by
  have hu45 := Try.underlying45
  have hu39 := Try.underlying39
  have HB := Aside0.mk (Below.refl w.heap.size w)
  have H : (if (a0_0 != a1_0) = true then (impl_compare.j0 k a0_0 a0_0 a0_1 a0_2 a0_3 a0_4 a0_5 a0_6 a1_0 a1_1 a1_2 a1_3 a1_4 a1_5 a1_6) else (impl_compare.j0 k false a0_0 a0_1 a0_2 a0_3 a0_4 a0_5 a0_6 a1_0 a1_1 a1_2 a1_3 a1_4 a1_5 a1_6)) = some r := h
  clear h
  have HC3 := Aside0.mk H
  clear H
  go_enter Try.func50, Try.ntmps50
  go_upto_region 1 with (first | ((with_reducible refine gate_dst (N := 2) rfl ?_); refine box_event ?hg (N := 2) ?hd (cs := #[.bool a0_0, .int .u32 a0_1, .int .u32 a0_2, .int .u32 a0_3, .int .u32 a0_4, .int .u32 a0_5, .int .u32 a0_6]) (t := 45) ?hr ?_; (case hd => rfl); (case hg => rfl); (case hr => first | (go_simp; done) | (go_simp; rfl)); intro gb154 hg w4 hbox hb; have n0_ := Aside0.mk (below_step (by repeat (first | (with_reducible first | exact HB.out | apply below_alloc | apply pw_below_drewN | apply below_drew1) | exact HB.out)) hb); have n1_ := Aside0.mk (hbox); have n2_ := Aside0.mk ((by rw [hg]; exact (below_size (by repeat (first | (with_reducible first | exact HB.out | apply below_alloc | apply pw_below_drewN | apply below_drew1) | exact HB.out))) : w.heap.size ≤ gb154)); have n3_ := Aside0.mk ((by rw [hg]; exact (below_size (by repeat (first | (with_reducible first | exact HB.out | apply below_alloc | apply pw_below_drewN | apply below_drew1) | exact HB.out))) : w.heap.size ≤ gb154)); clear HB; have HB := n0_; have BK154 := n1_; have GW154 := n2_; have GE154 := n3_; clear n0_ n1_ n2_ n3_; clear hb hbox hg) | ((with_reducible refine gate_dst (N := 3) rfl ?_); refine box_event ?hg (N := 3) ?hd (cs := #[.bool a1_0, .int .u32 a1_1, .int .u32 a1_2, .int .u32 a1_3, .int .u32 a1_4, .int .u32 a1_5, .int .u32 a1_6]) (t := 45) ?hr ?_; (case hd => rfl); (case hg => rfl); (case hr => first | (go_simp; done) | (go_simp; rfl)); intro gb155 hg w5 hbox hb; have n0_ := Aside0.mk (blk_below (g := gb154) (o := .cells #[.bool a0_0, .int .u32 a0_1, .int .u32 a0_2, .int .u32 a0_3, .int .u32 a0_4, .int .u32 a0_5, .int .u32 a0_6] 45 (0, 0)) (by (with_reducible repeat (first | refine blk_drewN ?_ _ | refine blk_drew ?_ | refine blk_alloc ?_ _)); exact BK154.out) hb); have n1_ := Aside0.mk (below_step (by repeat (first | (with_reducible first | exact HB.out | apply below_alloc | apply pw_below_drewN | apply below_drew1 | refine below_set ?_ GE154.out) | exact HB.out)) hb); have n2_ := Aside0.mk (hbox); have n3_ := Aside0.mk ((by rw [hg]; exact (below_size (by repeat (first | (with_reducible first | exact HB.out | apply below_alloc | apply pw_below_drewN | apply below_drew1 | refine below_set ?_ GE154.out) | exact HB.out))) : w.heap.size ≤ gb155)); have n4_ := Aside0.mk ((by rw [hg]; exact (below_size (by repeat (first | (with_reducible first | exact HB.out | apply below_alloc | apply pw_below_drewN | apply below_drew1 | refine below_set ?_ GE154.out) | exact HB.out))) : w.heap.size ≤ gb155)); have n5_ := Aside0.mk ((by rw [hg]; exact Nat.ne_of_lt (blk_lt (g := gb154) (o := .cells #[.bool a0_0, .int .u32 a0_1, .int .u32 a0_2, .int .u32 a0_3, .int .u32 a0_4, .int .u32 a0_5, .int .u32 a0_6] 45 (0, 0)) (by (with_reducible repeat (first | refine blk_drewN ?_ _ | refine blk_drew ?_ | refine blk_alloc ?_ _)); exact BK154.out)) : gb154 ≠ gb155)); have n6_ := Aside0.mk ((by rw [hg]; exact Nat.ne_of_gt (blk_lt (g := gb154) (o := .cells #[.bool a0_0, .int .u32 a0_1, .int .u32 a0_2, .int .u32 a0_3, .int .u32 a0_4, .int .u32 a0_5, .int .u32 a0_6] 45 (0, 0)) (by (with_reducible repeat (first | refine blk_drewN ?_ _ | refine blk_drew ?_ | refine blk_alloc ?_ _)); exact BK154.out)) : gb155 ≠ gb154)); clear BK154; clear HB; have BK154 := n0_; have HB := n1_; have BK155 := n2_; have GW155 := n3_; have GE155 := n4_; have NB154_155 := n5_; have NB155_154 := n6_; clear n0_ n1_ n2_ n3_ n4_ n5_ n6_; clear hb hbox hg))
  (try simp only [Act.put, List.setIfInBounds_toArray, List.set_cons_zero, List.set_cons_succ])
  go_cut [5] (fun v5 wc => ∃ (kq : Nat) (x5_2 : Bool), v5 = .bool x5_2 ∧ Aside0 (impl_compare.j0 kq x5_2 a0_0 a0_1 a0_2 a0_3 a0_4 a0_5 a0_6 a1_0 a1_1 a1_2 a1_3 a1_4 a1_5 a1_6 = some r) ∧ Aside0 (kq ≤ k) ∧ Aside0 (wc.heap[gb154]? = some (.cells #[.bool a0_0, .int .u32 a0_1, .int .u32 a0_2, .int .u32 a0_3, .int .u32 a0_4, .int .u32 a0_5, .int .u32 a0_6] 45 (0, 0))) ∧ Aside0 (wc.heap[gb155]? = some (.cells #[.bool a1_0, .int .u32 a1_1, .int .u32 a1_2, .int .u32 a1_3, .int .u32 a1_4, .int .u32 a1_5, .int .u32 a1_6] 45 (0, 0))) ∧ Aside0 (Below w.heap.size w wc))
  case first =>
    have H := HC3.out
    clear HC3
    by_cases c6 : (a0_0 != a1_0) = true
    · rw [if_pos c6] at H
      have c6b0 : (a0_0 != a1_0) = true := c6
      (try (have c6b1 : decide (a0_0 = a1_0) = false := by simpa using c6))
      (try (have c6b2 : (a0_0 == a1_0) = false := by simpa using c6))
      (try (have c6b3 : ¬ (a0_0 = a1_0) := by simpa using c6))
      clear c6
      (first | rw [c6b0] | (simp only [i64_w, i32_w]; rw [c6b0]) | skip)
      have H' := Aside0.mk H
      clear H
      have hnb7 := NB154_155.out
      have hnc7 := NB155_154.out
      have hcz8_0 : w5.cell? ⟨gb154, 0, none⟩ = some (.bool a0_0) := (blk_cell BK154.out 0).trans rfl
      have hcz8_1 : w5.cell? ⟨gb154, 1, none⟩ = some (.int .u32 a0_1) := (blk_cell BK154.out 1).trans rfl
      have hcz8_2 : w5.cell? ⟨gb154, 2, none⟩ = some (.int .u32 a0_2) := (blk_cell BK154.out 2).trans rfl
      have hcz8_3 : w5.cell? ⟨gb154, 3, none⟩ = some (.int .u32 a0_3) := (blk_cell BK154.out 3).trans rfl
      have hcz8_4 : w5.cell? ⟨gb154, 4, none⟩ = some (.int .u32 a0_4) := (blk_cell BK154.out 4).trans rfl
      have hcz8_5 : w5.cell? ⟨gb154, 5, none⟩ = some (.int .u32 a0_5) := (blk_cell BK154.out 5).trans rfl
      have hcz8_6 : w5.cell? ⟨gb154, 6, none⟩ = some (.int .u32 a0_6) := (blk_cell BK154.out 6).trans rfl
      have hfz8_0 := blk_frozen BK154.out 0
      have hfz8_1 := blk_frozen BK154.out 1
      have hfz8_2 := blk_frozen BK154.out 2
      have hfz8_3 := blk_frozen BK154.out 3
      have hfz8_4 := blk_frozen BK154.out 4
      have hfz8_5 := blk_frozen BK154.out 5
      have hfz8_6 := blk_frozen BK154.out 6
      have hcz9_0 : w5.cell? ⟨gb155, 0, none⟩ = some (.bool a1_0) := (blk_cell BK155.out 0).trans rfl
      have hcz9_1 : w5.cell? ⟨gb155, 1, none⟩ = some (.int .u32 a1_1) := (blk_cell BK155.out 1).trans rfl
      have hcz9_2 : w5.cell? ⟨gb155, 2, none⟩ = some (.int .u32 a1_2) := (blk_cell BK155.out 2).trans rfl
      have hcz9_3 : w5.cell? ⟨gb155, 3, none⟩ = some (.int .u32 a1_3) := (blk_cell BK155.out 3).trans rfl
      have hcz9_4 : w5.cell? ⟨gb155, 4, none⟩ = some (.int .u32 a1_4) := (blk_cell BK155.out 4).trans rfl
      have hcz9_5 : w5.cell? ⟨gb155, 5, none⟩ = some (.int .u32 a1_5) := (blk_cell BK155.out 5).trans rfl
      have hcz9_6 : w5.cell? ⟨gb155, 6, none⟩ = some (.int .u32 a1_6) := (blk_cell BK155.out 6).trans rfl
      have hfz9_0 := blk_frozen BK155.out 0
      have hfz9_1 := blk_frozen BK155.out 1
      have hfz9_2 := blk_frozen BK155.out 2
      have hfz9_3 := blk_frozen BK155.out 3
      have hfz9_4 := blk_frozen BK155.out 4
      have hfz9_5 := blk_frozen BK155.out 5
      have hfz9_6 := blk_frozen BK155.out 6
      go_wp2
      go_meet
      case rel => exact ⟨_, (a0_0), (by first | rfl | (simp; done) | (simp [*]; done)), H', ⟨by first | omega | exact Nat.le_refl _⟩, ⟨by (with_reducible repeat (first | refine blk_drewN ?_ _ | refine blk_drew ?_ | refine blk_alloc ?_ _)); exact BK154.out⟩, ⟨by (with_reducible repeat (first | refine blk_drewN ?_ _ | refine blk_drew ?_ | refine blk_alloc ?_ _)); exact BK155.out⟩, ⟨by repeat (first | (with_reducible first | exact HB.out | apply below_alloc | apply pw_below_drewN | apply below_drew1 | refine below_set ?_ GE154.out | refine below_set ?_ GE155.out) | exact HB.out)⟩⟩
    · rw [if_neg c6] at H
      have c6b0 : (a0_0 != a1_0) = false := by simpa using c6
      (try (have c6b1 : decide (a0_0 = a1_0) = true := by simpa using c6))
      (try (have c6b2 : (a0_0 == a1_0) = true := by simpa using c6))
      clear c6
      (first | rw [c6b0] | (simp only [i64_w, i32_w]; rw [c6b0]) | skip)
      have H' := Aside0.mk H
      clear H
      have hnb10 := NB154_155.out
      have hnc10 := NB155_154.out
      have hcz11_0 : w5.cell? ⟨gb154, 0, none⟩ = some (.bool a0_0) := (blk_cell BK154.out 0).trans rfl
      have hcz11_1 : w5.cell? ⟨gb154, 1, none⟩ = some (.int .u32 a0_1) := (blk_cell BK154.out 1).trans rfl
      have hcz11_2 : w5.cell? ⟨gb154, 2, none⟩ = some (.int .u32 a0_2) := (blk_cell BK154.out 2).trans rfl
      have hcz11_3 : w5.cell? ⟨gb154, 3, none⟩ = some (.int .u32 a0_3) := (blk_cell BK154.out 3).trans rfl
      have hcz11_4 : w5.cell? ⟨gb154, 4, none⟩ = some (.int .u32 a0_4) := (blk_cell BK154.out 4).trans rfl
      have hcz11_5 : w5.cell? ⟨gb154, 5, none⟩ = some (.int .u32 a0_5) := (blk_cell BK154.out 5).trans rfl
      have hcz11_6 : w5.cell? ⟨gb154, 6, none⟩ = some (.int .u32 a0_6) := (blk_cell BK154.out 6).trans rfl
      have hfz11_0 := blk_frozen BK154.out 0
      have hfz11_1 := blk_frozen BK154.out 1
      have hfz11_2 := blk_frozen BK154.out 2
      have hfz11_3 := blk_frozen BK154.out 3
      have hfz11_4 := blk_frozen BK154.out 4
      have hfz11_5 := blk_frozen BK154.out 5
      have hfz11_6 := blk_frozen BK154.out 6
      have hcz12_0 : w5.cell? ⟨gb155, 0, none⟩ = some (.bool a1_0) := (blk_cell BK155.out 0).trans rfl
      have hcz12_1 : w5.cell? ⟨gb155, 1, none⟩ = some (.int .u32 a1_1) := (blk_cell BK155.out 1).trans rfl
      have hcz12_2 : w5.cell? ⟨gb155, 2, none⟩ = some (.int .u32 a1_2) := (blk_cell BK155.out 2).trans rfl
      have hcz12_3 : w5.cell? ⟨gb155, 3, none⟩ = some (.int .u32 a1_3) := (blk_cell BK155.out 3).trans rfl
      have hcz12_4 : w5.cell? ⟨gb155, 4, none⟩ = some (.int .u32 a1_4) := (blk_cell BK155.out 4).trans rfl
      have hcz12_5 : w5.cell? ⟨gb155, 5, none⟩ = some (.int .u32 a1_5) := (blk_cell BK155.out 5).trans rfl
      have hcz12_6 : w5.cell? ⟨gb155, 6, none⟩ = some (.int .u32 a1_6) := (blk_cell BK155.out 6).trans rfl
      have hfz12_0 := blk_frozen BK155.out 0
      have hfz12_1 := blk_frozen BK155.out 1
      have hfz12_2 := blk_frozen BK155.out 2
      have hfz12_3 := blk_frozen BK155.out 3
      have hfz12_4 := blk_frozen BK155.out 4
      have hfz12_5 := blk_frozen BK155.out 5
      have hfz12_6 := blk_frozen BK155.out 6
      go_wp2
      go_meet
      case rel => exact ⟨_, (false), (by first | rfl | (simp; done) | (simp [*]; done)), H', ⟨by first | omega | exact Nat.le_refl _⟩, ⟨by (with_reducible repeat (first | refine blk_drewN ?_ _ | refine blk_drew ?_ | refine blk_alloc ?_ _)); exact BK154.out⟩, ⟨by (with_reducible repeat (first | refine blk_drewN ?_ _ | refine blk_drew ?_ | refine blk_alloc ?_ _)); exact BK155.out⟩, ⟨by repeat (first | (with_reducible first | exact HB.out | apply below_alloc | apply pw_below_drewN | apply below_drew1 | refine below_set ?_ GE154.out | refine below_set ?_ GE155.out) | exact HB.out)⟩⟩
  case rest =>
    clear HC3
    try clear c1
    try clear p2
    try clear c5
    try clear c6
    try clear c6b0
    try clear c6b1
    try clear c6b2
    try clear c7
    try clear c10
    try clear hcz11_0
    try clear hcz11_1
    try clear hcz11_2
    try clear hcz11_3
    try clear hcz11_4
    try clear hcz11_5
    try clear hcz11_6
    try clear hcz12_0
    try clear hcz12_1
    try clear hcz12_2
    try clear hcz12_3
    try clear hcz12_4
    try clear hcz12_5
    try clear hcz12_6
    try clear hcz8_0
    try clear hcz8_1
    try clear hcz8_2
    try clear hcz8_3
    try clear hcz8_4
    try clear hcz8_5
    try clear hcz8_6
    try clear hcz9_0
    try clear hcz9_1
    try clear hcz9_2
    try clear hcz9_3
    try clear hcz9_4
    try clear hcz9_5
    try clear hcz9_6
    try clear hfz11_0
    try clear hfz11_1
    try clear hfz11_2
    try clear hfz11_3
    try clear hfz11_4
    try clear hfz11_5
    try clear hfz11_6
    try clear hfz12_0
    try clear hfz12_1
    try clear hfz12_2
    try clear hfz12_3
    try clear hfz12_4
    try clear hfz12_5
    try clear hfz12_6
    try clear hfz8_0
    try clear hfz8_1
    try clear hfz8_2
    try clear hfz8_3
    try clear hfz8_4
    try clear hfz8_5
    try clear hfz8_6
    try clear hfz9_0
    try clear hfz9_1
    try clear hfz9_2
    try clear hfz9_3
    try clear hfz9_4
    try clear hfz9_5
    try clear hfz9_6
    obtain ⟨kq, x5_2, rfl, HA, HJ2, BK154, BK155, HB⟩ := hcut
    cases kq with
    | zero => exact absurd HA.out (by simp [impl_compare.j0])
    | succ kj2 =>
      have H := HA.out
      clear HA
      simp only [impl_compare.j0] at H
      by_cases c13 : x5_2 = true
      · subst c13
        have H1 : (some (-1)) = some r := by rw [if_pos rfl] at H; exact H
        clear H
        have H := H1
        clear H1
        obtain rfl := Option.some.inj H
        go_wp2
        go_ret
        exact ⟨by first | rfl | (simp [errW_none, errW_some] <;> rfl) | (simp [*, errW_none, errW_some] <;> rfl), by repeat (first | (with_reducible first | exact HB.out | apply below_alloc | apply pw_below_drewN | apply below_drew1 | refine below_set ?_ GE154.out | refine below_set ?_ GE155.out) | exact HB.out)⟩
      · replace c13 := Bool.eq_false_iff.mpr c13
        subst c13
        have H1 : (if (a0_0 != a1_0) = true then (some 1) else (if a0_0 = true then ((impl_size_compare.f kj2 a1_1 a1_2 a1_3 a1_4 a1_5 a1_6 a0_1 a0_2 a0_3 a0_4 a0_5 a0_6).bind fun t156 => (some t156)) else ((impl_size_compare.f kj2 a0_1 a0_2 a0_3 a0_4 a0_5 a0_6 a1_1 a1_2 a1_3 a1_4 a1_5 a1_6).bind fun t157 => (some t157)))) = some r := by rw [if_neg (show ¬ (false = true) by decide)] at H; exact H
        clear H
        have H := H1
        clear H1
        by_cases c14 : (a0_0 != a1_0) = true
        · rw [if_pos c14] at H
          have c14b0 : (a0_0 != a1_0) = true := c14
          (try (have c14b1 : decide (a0_0 = a1_0) = false := by simpa using c14))
          (try (have c14b2 : (a0_0 == a1_0) = false := by simpa using c14))
          (try (have c14b3 : ¬ (a0_0 = a1_0) := by simpa using c14))
          clear c14
          obtain rfl := Option.some.inj H
          have hnb15 := NB154_155.out
          have hnc15 := NB155_154.out
          have hcz16_0 : wc.cell? ⟨gb154, 0, none⟩ = some (.bool a0_0) := (blk_cell BK154.out 0).trans rfl
          have hcz16_1 : wc.cell? ⟨gb154, 1, none⟩ = some (.int .u32 a0_1) := (blk_cell BK154.out 1).trans rfl
          have hcz16_2 : wc.cell? ⟨gb154, 2, none⟩ = some (.int .u32 a0_2) := (blk_cell BK154.out 2).trans rfl
          have hcz16_3 : wc.cell? ⟨gb154, 3, none⟩ = some (.int .u32 a0_3) := (blk_cell BK154.out 3).trans rfl
          have hcz16_4 : wc.cell? ⟨gb154, 4, none⟩ = some (.int .u32 a0_4) := (blk_cell BK154.out 4).trans rfl
          have hcz16_5 : wc.cell? ⟨gb154, 5, none⟩ = some (.int .u32 a0_5) := (blk_cell BK154.out 5).trans rfl
          have hcz16_6 : wc.cell? ⟨gb154, 6, none⟩ = some (.int .u32 a0_6) := (blk_cell BK154.out 6).trans rfl
          have hfz16_0 := blk_frozen BK154.out 0
          have hfz16_1 := blk_frozen BK154.out 1
          have hfz16_2 := blk_frozen BK154.out 2
          have hfz16_3 := blk_frozen BK154.out 3
          have hfz16_4 := blk_frozen BK154.out 4
          have hfz16_5 := blk_frozen BK154.out 5
          have hfz16_6 := blk_frozen BK154.out 6
          have hcz17_0 : wc.cell? ⟨gb155, 0, none⟩ = some (.bool a1_0) := (blk_cell BK155.out 0).trans rfl
          have hcz17_1 : wc.cell? ⟨gb155, 1, none⟩ = some (.int .u32 a1_1) := (blk_cell BK155.out 1).trans rfl
          have hcz17_2 : wc.cell? ⟨gb155, 2, none⟩ = some (.int .u32 a1_2) := (blk_cell BK155.out 2).trans rfl
          have hcz17_3 : wc.cell? ⟨gb155, 3, none⟩ = some (.int .u32 a1_3) := (blk_cell BK155.out 3).trans rfl
          have hcz17_4 : wc.cell? ⟨gb155, 4, none⟩ = some (.int .u32 a1_4) := (blk_cell BK155.out 4).trans rfl
          have hcz17_5 : wc.cell? ⟨gb155, 5, none⟩ = some (.int .u32 a1_5) := (blk_cell BK155.out 5).trans rfl
          have hcz17_6 : wc.cell? ⟨gb155, 6, none⟩ = some (.int .u32 a1_6) := (blk_cell BK155.out 6).trans rfl
          have hfz17_0 := blk_frozen BK155.out 0
          have hfz17_1 := blk_frozen BK155.out 1
          have hfz17_2 := blk_frozen BK155.out 2
          have hfz17_3 := blk_frozen BK155.out 3
          have hfz17_4 := blk_frozen BK155.out 4
          have hfz17_5 := blk_frozen BK155.out 5
          have hfz17_6 := blk_frozen BK155.out 6
          go_wp2
          go_ret
          exact ⟨by first | rfl | (simp [errW_none, errW_some] <;> rfl) | (simp [*, errW_none, errW_some] <;> rfl), by repeat (first | (with_reducible first | exact HB.out | apply below_alloc | apply pw_below_drewN | apply below_drew1 | refine below_set ?_ GE154.out | refine below_set ?_ GE155.out) | exact HB.out)⟩
        · rw [if_neg c14] at H
          have c14b0 : (a0_0 != a1_0) = false := by simpa using c14
          (try (have c14b1 : decide (a0_0 = a1_0) = true := by simpa using c14))
          (try (have c14b2 : (a0_0 == a1_0) = true := by simpa using c14))
          clear c14
          by_cases c18 : a0_0 = true
          · subst c18
            have H1 : ((impl_size_compare.f kj2 a1_1 a1_2 a1_3 a1_4 a1_5 a1_6 a0_1 a0_2 a0_3 a0_4 a0_5 a0_6).bind fun t156 => (some t156)) = some r := by rw [if_pos rfl] at H; exact H
            clear H
            have H := H1
            clear H1
            replace H := Option.bind_eq_some_iff.mp H
            obtain ⟨t156, A190, H⟩ := H
            replace H : (some t156) = some r := H
            have A19 := Aside0.mk A190
            clear A190
            obtain rfl := Option.some.inj H
            have hnb20 := NB154_155.out
            have hnc20 := NB155_154.out
            have hcz21_0 : wc.cell? ⟨gb154, 0, none⟩ = some (.bool true) := (blk_cell BK154.out 0).trans rfl
            have hcz21_1 : wc.cell? ⟨gb154, 1, none⟩ = some (.int .u32 a0_1) := (blk_cell BK154.out 1).trans rfl
            have hcz21_2 : wc.cell? ⟨gb154, 2, none⟩ = some (.int .u32 a0_2) := (blk_cell BK154.out 2).trans rfl
            have hcz21_3 : wc.cell? ⟨gb154, 3, none⟩ = some (.int .u32 a0_3) := (blk_cell BK154.out 3).trans rfl
            have hcz21_4 : wc.cell? ⟨gb154, 4, none⟩ = some (.int .u32 a0_4) := (blk_cell BK154.out 4).trans rfl
            have hcz21_5 : wc.cell? ⟨gb154, 5, none⟩ = some (.int .u32 a0_5) := (blk_cell BK154.out 5).trans rfl
            have hcz21_6 : wc.cell? ⟨gb154, 6, none⟩ = some (.int .u32 a0_6) := (blk_cell BK154.out 6).trans rfl
            have hfz21_0 := blk_frozen BK154.out 0
            have hfz21_1 := blk_frozen BK154.out 1
            have hfz21_2 := blk_frozen BK154.out 2
            have hfz21_3 := blk_frozen BK154.out 3
            have hfz21_4 := blk_frozen BK154.out 4
            have hfz21_5 := blk_frozen BK154.out 5
            have hfz21_6 := blk_frozen BK154.out 6
            have hcz22_0 : wc.cell? ⟨gb155, 0, none⟩ = some (.bool a1_0) := (blk_cell BK155.out 0).trans rfl
            have hcz22_1 : wc.cell? ⟨gb155, 1, none⟩ = some (.int .u32 a1_1) := (blk_cell BK155.out 1).trans rfl
            have hcz22_2 : wc.cell? ⟨gb155, 2, none⟩ = some (.int .u32 a1_2) := (blk_cell BK155.out 2).trans rfl
            have hcz22_3 : wc.cell? ⟨gb155, 3, none⟩ = some (.int .u32 a1_3) := (blk_cell BK155.out 3).trans rfl
            have hcz22_4 : wc.cell? ⟨gb155, 4, none⟩ = some (.int .u32 a1_4) := (blk_cell BK155.out 4).trans rfl
            have hcz22_5 : wc.cell? ⟨gb155, 5, none⟩ = some (.int .u32 a1_5) := (blk_cell BK155.out 5).trans rfl
            have hcz22_6 : wc.cell? ⟨gb155, 6, none⟩ = some (.int .u32 a1_6) := (blk_cell BK155.out 6).trans rfl
            have hfz22_0 := blk_frozen BK155.out 0
            have hfz22_1 := blk_frozen BK155.out 1
            have hfz22_2 := blk_frozen BK155.out 2
            have hfz22_3 := blk_frozen BK155.out 3
            have hfz22_4 := blk_frozen BK155.out 4
            have hfz22_5 := blk_frozen BK155.out 5
            have hfz22_6 := blk_frozen BK155.out 6
            go_wp2_with (first | ((with_reducible refine gate_callee (f := 65) rfl ?_); refine goesL_ (some 28) rfl rfl Try.func65 (by kernel_rfl) rfl #[.agg #[.int .u32 a1_1, .int .u32 a1_2, .int .u32 a1_3, .int .u32 a1_4, .int .u32 a1_5, .int .u32 a1_6], .agg #[.int .u32 a0_1, .int .u32 a0_2, .int .u32 a0_3, .int .u32 a0_4, .int .u32 a0_5, .int .u32 a0_6]] rfl (by (try simp only [List.map_toArray, List.map_cons, List.map_nil]); first | done | rfl | (simp only [List.length_drop, List.length_take]; rfl)) ?_; (with_reducible refine (impl_size_compare.calls kj2 a1_1 a1_2 a1_3 a1_4 a1_5 a1_6 a0_1 a0_2 a0_3 a0_4 a0_5 a0_6 t156 _ A19.out).mono ?_); rintro e w23 ⟨rfl, hb⟩; refine ⟨_, rfl, ?_⟩; have n0_ := Aside0.mk (blk_below (g := gb154) (o := .cells #[.bool true, .int .u32 a0_1, .int .u32 a0_2, .int .u32 a0_3, .int .u32 a0_4, .int .u32 a0_5, .int .u32 a0_6] 45 (0, 0)) (by (with_reducible repeat (first | refine blk_drewN ?_ _ | refine blk_drew ?_ | refine blk_alloc ?_ _)); exact BK154.out) hb); have n1_ := Aside0.mk (blk_below (g := gb155) (o := .cells #[.bool a1_0, .int .u32 a1_1, .int .u32 a1_2, .int .u32 a1_3, .int .u32 a1_4, .int .u32 a1_5, .int .u32 a1_6] 45 (0, 0)) (by (with_reducible repeat (first | refine blk_drewN ?_ _ | refine blk_drew ?_ | refine blk_alloc ?_ _)); exact BK155.out) hb); have n2_ := Aside0.mk (below_step (by repeat (first | (with_reducible first | exact HB.out | apply below_alloc | apply pw_below_drewN | apply below_drew1 | refine below_set ?_ GE154.out | refine below_set ?_ GE155.out) | exact HB.out)) hb); clear BK154; clear BK155; clear HB; have BK154 := n0_; have BK155 := n1_; have HB := n2_; clear n0_ n1_ n2_; (try clear hb); (try clear hb2); (try clear hk); (try clear hi)))
            go_ret
            exact ⟨by first | rfl | (simp [errW_none, errW_some] <;> rfl) | (simp [*, errW_none, errW_some] <;> rfl), by repeat (first | (with_reducible first | exact HB.out | apply below_alloc | apply pw_below_drewN | apply below_drew1 | refine below_set ?_ GE154.out | refine below_set ?_ GE155.out) | exact HB.out)⟩
          · replace c18 := Bool.eq_false_iff.mpr c18
            subst c18
            have H1 : ((impl_size_compare.f kj2 a0_1 a0_2 a0_3 a0_4 a0_5 a0_6 a1_1 a1_2 a1_3 a1_4 a1_5 a1_6).bind fun t157 => (some t157)) = some r := by rw [if_neg (show ¬ (false = true) by decide)] at H; exact H
            clear H
            have H := H1
            clear H1
            replace H := Option.bind_eq_some_iff.mp H
            obtain ⟨t157, A240, H⟩ := H
            replace H : (some t157) = some r := H
            have A24 := Aside0.mk A240
            clear A240
            obtain rfl := Option.some.inj H
            have hnb25 := NB154_155.out
            have hnc25 := NB155_154.out
            have hcz26_0 : wc.cell? ⟨gb154, 0, none⟩ = some (.bool false) := (blk_cell BK154.out 0).trans rfl
            have hcz26_1 : wc.cell? ⟨gb154, 1, none⟩ = some (.int .u32 a0_1) := (blk_cell BK154.out 1).trans rfl
            have hcz26_2 : wc.cell? ⟨gb154, 2, none⟩ = some (.int .u32 a0_2) := (blk_cell BK154.out 2).trans rfl
            have hcz26_3 : wc.cell? ⟨gb154, 3, none⟩ = some (.int .u32 a0_3) := (blk_cell BK154.out 3).trans rfl
            have hcz26_4 : wc.cell? ⟨gb154, 4, none⟩ = some (.int .u32 a0_4) := (blk_cell BK154.out 4).trans rfl
            have hcz26_5 : wc.cell? ⟨gb154, 5, none⟩ = some (.int .u32 a0_5) := (blk_cell BK154.out 5).trans rfl
            have hcz26_6 : wc.cell? ⟨gb154, 6, none⟩ = some (.int .u32 a0_6) := (blk_cell BK154.out 6).trans rfl
            have hfz26_0 := blk_frozen BK154.out 0
            have hfz26_1 := blk_frozen BK154.out 1
            have hfz26_2 := blk_frozen BK154.out 2
            have hfz26_3 := blk_frozen BK154.out 3
            have hfz26_4 := blk_frozen BK154.out 4
            have hfz26_5 := blk_frozen BK154.out 5
            have hfz26_6 := blk_frozen BK154.out 6
            have hcz27_0 : wc.cell? ⟨gb155, 0, none⟩ = some (.bool a1_0) := (blk_cell BK155.out 0).trans rfl
            have hcz27_1 : wc.cell? ⟨gb155, 1, none⟩ = some (.int .u32 a1_1) := (blk_cell BK155.out 1).trans rfl
            have hcz27_2 : wc.cell? ⟨gb155, 2, none⟩ = some (.int .u32 a1_2) := (blk_cell BK155.out 2).trans rfl
            have hcz27_3 : wc.cell? ⟨gb155, 3, none⟩ = some (.int .u32 a1_3) := (blk_cell BK155.out 3).trans rfl
            have hcz27_4 : wc.cell? ⟨gb155, 4, none⟩ = some (.int .u32 a1_4) := (blk_cell BK155.out 4).trans rfl
            have hcz27_5 : wc.cell? ⟨gb155, 5, none⟩ = some (.int .u32 a1_5) := (blk_cell BK155.out 5).trans rfl
            have hcz27_6 : wc.cell? ⟨gb155, 6, none⟩ = some (.int .u32 a1_6) := (blk_cell BK155.out 6).trans rfl
            have hfz27_0 := blk_frozen BK155.out 0
            have hfz27_1 := blk_frozen BK155.out 1
            have hfz27_2 := blk_frozen BK155.out 2
            have hfz27_3 := blk_frozen BK155.out 3
            have hfz27_4 := blk_frozen BK155.out 4
            have hfz27_5 := blk_frozen BK155.out 5
            have hfz27_6 := blk_frozen BK155.out 6
            go_wp2_with (first | ((with_reducible refine gate_callee (f := 65) rfl ?_); refine goesL_ (some 33) rfl rfl Try.func65 (by kernel_rfl) rfl #[.agg #[.int .u32 a0_1, .int .u32 a0_2, .int .u32 a0_3, .int .u32 a0_4, .int .u32 a0_5, .int .u32 a0_6], .agg #[.int .u32 a1_1, .int .u32 a1_2, .int .u32 a1_3, .int .u32 a1_4, .int .u32 a1_5, .int .u32 a1_6]] rfl (by (try simp only [List.map_toArray, List.map_cons, List.map_nil]); first | done | rfl | (simp only [List.length_drop, List.length_take]; rfl)) ?_; (with_reducible refine (impl_size_compare.calls kj2 a0_1 a0_2 a0_3 a0_4 a0_5 a0_6 a1_1 a1_2 a1_3 a1_4 a1_5 a1_6 t157 _ A24.out).mono ?_); rintro e w28 ⟨rfl, hb⟩; refine ⟨_, rfl, ?_⟩; have n0_ := Aside0.mk (blk_below (g := gb154) (o := .cells #[.bool false, .int .u32 a0_1, .int .u32 a0_2, .int .u32 a0_3, .int .u32 a0_4, .int .u32 a0_5, .int .u32 a0_6] 45 (0, 0)) (by (with_reducible repeat (first | refine blk_drewN ?_ _ | refine blk_drew ?_ | refine blk_alloc ?_ _)); exact BK154.out) hb); have n1_ := Aside0.mk (blk_below (g := gb155) (o := .cells #[.bool a1_0, .int .u32 a1_1, .int .u32 a1_2, .int .u32 a1_3, .int .u32 a1_4, .int .u32 a1_5, .int .u32 a1_6] 45 (0, 0)) (by (with_reducible repeat (first | refine blk_drewN ?_ _ | refine blk_drew ?_ | refine blk_alloc ?_ _)); exact BK155.out) hb); have n2_ := Aside0.mk (below_step (by repeat (first | (with_reducible first | exact HB.out | apply below_alloc | apply pw_below_drewN | apply below_drew1 | refine below_set ?_ GE154.out | refine below_set ?_ GE155.out) | exact HB.out)) hb); clear BK154; clear BK155; clear HB; have BK154 := n0_; have BK155 := n1_; have HB := n2_; clear n0_ n1_ n2_; (try clear hb); (try clear hb2); (try clear hk); (try clear hi)))
            go_ret
            exact ⟨by first | rfl | (simp [errW_none, errW_some] <;> rfl) | (simp [*, errW_none, errW_some] <;> rfl), by repeat (first | (with_reducible first | exact HB.out | apply below_alloc | apply pw_below_drewN | apply below_drew1 | refine below_set ?_ GE154.out | refine below_set ?_ GE155.out) | exact HB.out)⟩

/-! ### impl_within: function 41 -/
def impl_within.f (a0 : Int) (a1 : Int) (a2 : Int) : Option (Bool) := if a0 ≥ a1 then (some (decide (a0 ≤ a2))) else (some false)
set_option maxHeartbeats 8000000 in
set_option maxRecDepth 100000 in
theorem impl_within.calls (a0 : Int) (a1 : Int) (a2 : Int) (r : Bool) (w : World) (h : impl_within.f a0 a1 a2 = some r) :
    Calls Try.prog 41 #[.int .i64 a0, .int .i64 a1, .int .i64 a2] w fun e w' => e = .returned (.bool r) ∧ Drawn0 w w' := by
  have H : (if a0 ≥ a1 then (some (decide (a0 ≤ a2))) else (some false)) = some r := h
  clear h
  by_cases c4 : a0 ≥ a1
  · rw [if_pos c4] at H
    have c4b0 : decide (a1 ≤ a0) = true := decide_eq_true c4
    clear c4
    obtain rfl := Option.some.inj H
    go_enter Try.func41, Try.ntmps41
    go_wp2
    go_ret
    exact ⟨by first | rfl | (simp; done) | (simp [*]; done), by repeat (first | exact Drawn0.refl _ | apply Drawn0.step)⟩
  · rw [if_neg c4] at H
    have c4b0 : decide (a1 ≤ a0) = false := decide_eq_false c4
    clear c4
    obtain rfl := Option.some.inj H
    go_enter Try.func41, Try.ntmps41
    go_wp2
    go_ret
    exact ⟨by first | rfl | (simp; done) | (simp [*]; done), by repeat (first | exact Drawn0.refl _ | apply Drawn0.step)⟩

/-! ### impl_placesOk: function 51 -/
def impl_placesOk.f (a0 : Int) : Option (Bool) := (impl_within.f a0 0 64).bind fun t158 => (some t158)
set_option maxHeartbeats 8000000 in
set_option maxRecDepth 100000 in
theorem impl_placesOk.calls (a0 : Int) (r : Bool) (w : World) (h : impl_placesOk.f a0 = some r) :
    Calls Try.prog 51 #[.int .i64 a0] w fun e w' => e = .returned (.bool r) ∧ Drawn0 w w' := by
  have H : ((impl_within.f a0 0 64).bind fun t158 => (some t158)) = some r := h
  clear h
  replace H := Option.bind_eq_some_iff.mp H
  obtain ⟨t158, A20, H⟩ := H
  replace H : (some t158) = some r := H
  have A2 := Aside0.mk A20
  clear A20
  obtain rfl := Option.some.inj H
  go_enter Try.func51, Try.ntmps51
  go_wp2_with (first | ((with_reducible refine gate_callee (f := 41) rfl ?_); refine goesL_ (some 4) rfl rfl Try.func41 (by kernel_rfl) rfl #[.int .i64 a0, .int .i64 0, .int .i64 64] rfl (by (try simp only [List.map_toArray, List.map_cons, List.map_nil]); first | done | rfl | (simp only [List.length_drop, List.length_take]; rfl)) ?_; (with_reducible refine (impl_within.calls a0 0 64 t158 _ A2.out).mono ?_); rintro e w' ⟨rfl, ⟨nd, rfl⟩⟩; refine ⟨_, rfl, ?_⟩))
  go_ret
  exact ⟨by first | rfl | (simp; done) | (simp [*]; done), by repeat (first | exact Drawn0.refl _ | apply Drawn0.step)⟩

/-! ### impl_ValidPart: function 29 -/
def impl_ValidPart.f (k : Nat) (a0_0 : Bool) (a0_1 : Int) (a0_2 : Int) (a0_3 : Int) (a0_4 : Int) (a0_5 : Int) (a0_6 : Int) (a0_7 : Bool) (a0_8 : Int) (a0_9 : Int) (a0_10 : Int) (a0_11 : Int) (a0_12 : Int) (a0_13 : Int) (a0_14 : Int) : Option (Bool) := (impl_ValidWide.f a0_0 a0_1 a0_2 a0_3 a0_4 a0_5 a0_6).bind fun t160 => (if t160 = true then ((impl_ValidWide.f a0_7 a0_8 a0_9 a0_10 a0_11 a0_12 a0_13).bind fun t161 => (if t161 = true then ((impl_compare.f k a0_0 a0_1 a0_2 a0_3 a0_4 a0_5 a0_6 a0_7 a0_8 a0_9 a0_10 a0_11 a0_12 a0_13).bind fun t162 => (if t162 < 0 then ((impl_placesOk.f a0_14).bind fun t163 => (some t163)) else (some false))) else (some false))) else (some false))
theorem impl_ValidPart.mono : ∀ a0 a1 a2 a3 a4 a5 a6 a7 a8 a9 a10 a11 a12 a13 a14 k, LeO (impl_ValidPart.f k a0 a1 a2 a3 a4 a5 a6 a7 a8 a9 a10 a11 a12 a13 a14) (impl_ValidPart.f (k + 1) a0 a1 a2 a3 a4 a5 a6 a7 a8 a9 a10 a11 a12 a13 a14) := by
  intro a0 a1 a2 a3 a4 a5 a6 a7 a8 a9 a10 a11 a12 a13 a14 k
  unfold impl_ValidPart.f
  repeat' first
      | (with_reducible exact impl_compare.mono _ _ _ _ _ _ _ _ _ _ _ _ _ _ _)
      | (with_reducible exact LeO.refl _)
      | (with_reducible exact LeO.none _)
      | (with_reducible refine LeO.ite ?_ ?_)
      | (with_reducible refine LeO.bind ?_ (fun _ => ?_))
      | exact impl_compare.mono _ _ _ _ _ _ _ _ _ _ _ _ _ _ _
      | exact LeO.none _
      | refine LeO.ite ?_ ?_
      | refine LeO.bind ?_ (fun _ => ?_)
set_option maxHeartbeats 8000000 in
set_option maxRecDepth 100000 in
theorem impl_ValidPart.calls (k : Nat) (a0_0 : Bool) (a0_1 : Int) (a0_2 : Int) (a0_3 : Int) (a0_4 : Int) (a0_5 : Int) (a0_6 : Int) (a0_7 : Bool) (a0_8 : Int) (a0_9 : Int) (a0_10 : Int) (a0_11 : Int) (a0_12 : Int) (a0_13 : Int) (a0_14 : Int) (r : Bool) (w : World) (h : impl_ValidPart.f k a0_0 a0_1 a0_2 a0_3 a0_4 a0_5 a0_6 a0_7 a0_8 a0_9 a0_10 a0_11 a0_12 a0_13 a0_14 = some r) :
    Calls Try.prog 29 #[.agg #[.bool a0_0, .int .u32 a0_1, .int .u32 a0_2, .int .u32 a0_3, .int .u32 a0_4, .int .u32 a0_5, .int .u32 a0_6, .bool a0_7, .int .u32 a0_8, .int .u32 a0_9, .int .u32 a0_10, .int .u32 a0_11, .int .u32 a0_12, .int .u32 a0_13, .int .i64 a0_14]] w fun e w' => e = .returned (.bool r) ∧ Below w.heap.size w w' := by
  have hu47 := Try.underlying47
  have hu45 := Try.underlying45
  have HB := Aside0.mk (Below.refl w.heap.size w)
  have H : ((impl_ValidWide.f a0_0 a0_1 a0_2 a0_3 a0_4 a0_5 a0_6).bind fun t160 => (if t160 = true then ((impl_ValidWide.f a0_7 a0_8 a0_9 a0_10 a0_11 a0_12 a0_13).bind fun t161 => (if t161 = true then ((impl_compare.f k a0_0 a0_1 a0_2 a0_3 a0_4 a0_5 a0_6 a0_7 a0_8 a0_9 a0_10 a0_11 a0_12 a0_13).bind fun t162 => (if t162 < 0 then ((impl_placesOk.f a0_14).bind fun t163 => (some t163)) else (some false))) else (some false))) else (some false))) = some r := h
  clear h
  replace H := Option.bind_eq_some_iff.mp H
  obtain ⟨t160, A20, H⟩ := H
  replace H : (if t160 = true then ((impl_ValidWide.f a0_7 a0_8 a0_9 a0_10 a0_11 a0_12 a0_13).bind fun t161 => (if t161 = true then ((impl_compare.f k a0_0 a0_1 a0_2 a0_3 a0_4 a0_5 a0_6 a0_7 a0_8 a0_9 a0_10 a0_11 a0_12 a0_13).bind fun t162 => (if t162 < 0 then ((impl_placesOk.f a0_14).bind fun t163 => (some t163)) else (some false))) else (some false))) else (some false)) = some r := H
  have A2 := Aside0.mk A20
  clear A20
  by_cases c3 : t160 = true
  · subst c3
    have H1 : ((impl_ValidWide.f a0_7 a0_8 a0_9 a0_10 a0_11 a0_12 a0_13).bind fun t161 => (if t161 = true then ((impl_compare.f k a0_0 a0_1 a0_2 a0_3 a0_4 a0_5 a0_6 a0_7 a0_8 a0_9 a0_10 a0_11 a0_12 a0_13).bind fun t162 => (if t162 < 0 then ((impl_placesOk.f a0_14).bind fun t163 => (some t163)) else (some false))) else (some false))) = some r := by rw [if_pos rfl] at H; exact H
    clear H
    have H := H1
    clear H1
    replace H := Option.bind_eq_some_iff.mp H
    obtain ⟨t161, A40, H⟩ := H
    replace H : (if t161 = true then ((impl_compare.f k a0_0 a0_1 a0_2 a0_3 a0_4 a0_5 a0_6 a0_7 a0_8 a0_9 a0_10 a0_11 a0_12 a0_13).bind fun t162 => (if t162 < 0 then ((impl_placesOk.f a0_14).bind fun t163 => (some t163)) else (some false))) else (some false)) = some r := H
    have A4 := Aside0.mk A40
    clear A40
    by_cases c5 : t161 = true
    · subst c5
      have H1 : ((impl_compare.f k a0_0 a0_1 a0_2 a0_3 a0_4 a0_5 a0_6 a0_7 a0_8 a0_9 a0_10 a0_11 a0_12 a0_13).bind fun t162 => (if t162 < 0 then ((impl_placesOk.f a0_14).bind fun t163 => (some t163)) else (some false))) = some r := by rw [if_pos rfl] at H; exact H
      clear H
      have H := H1
      clear H1
      replace H := Option.bind_eq_some_iff.mp H
      obtain ⟨t162, A60, H⟩ := H
      replace H : (if t162 < 0 then ((impl_placesOk.f a0_14).bind fun t163 => (some t163)) else (some false)) = some r := H
      have A6 := Aside0.mk A60
      clear A60
      by_cases c7 : t162 < 0
      · rw [if_pos c7] at H
        have c7b0 : decide (t162 < 0) = true := decide_eq_true c7
        clear c7
        replace H := Option.bind_eq_some_iff.mp H
        obtain ⟨t163, A80, H⟩ := H
        replace H : (some t163) = some r := H
        have A8 := Aside0.mk A80
        clear A80
        obtain rfl := Option.some.inj H
        go_enter Try.func29, Try.ntmps29
        go_wp2_with (first | ((with_reducible refine gate_dst (N := 1) rfl ?_); refine box_event ?hg (N := 1) ?hd (cs := #[.bool a0_0, .int .u32 a0_1, .int .u32 a0_2, .int .u32 a0_3, .int .u32 a0_4, .int .u32 a0_5, .int .u32 a0_6, .bool a0_7, .int .u32 a0_8, .int .u32 a0_9, .int .u32 a0_10, .int .u32 a0_11, .int .u32 a0_12, .int .u32 a0_13, .int .i64 a0_14]) (t := 47) ?hr ?_; (case hd => rfl); (case hg => rfl); (case hr => first | (go_simp; done) | (go_simp; rfl)); intro gb159 hg w9 hbox hb; have n0_ := Aside0.mk (below_step (by repeat (first | (with_reducible first | exact HB.out | apply below_alloc | apply pw_below_drewN | apply below_drew1) | exact HB.out)) hb); have n1_ := Aside0.mk (hbox); have n2_ := Aside0.mk ((by rw [hg]; exact (below_size (by repeat (first | (with_reducible first | exact HB.out | apply below_alloc | apply pw_below_drewN | apply below_drew1) | exact HB.out))) : w.heap.size ≤ gb159)); have n3_ := Aside0.mk ((by rw [hg]; exact (below_size (by repeat (first | (with_reducible first | exact HB.out | apply below_alloc | apply pw_below_drewN | apply below_drew1) | exact HB.out))) : w.heap.size ≤ gb159)); clear HB; have HB := n0_; have BK159 := n1_; have GW159 := n2_; have GE159 := n3_; clear n0_ n1_ n2_ n3_; clear hb hbox hg; have hcz10_0 : w9.cell? ⟨gb159, 0, none⟩ = some (.bool a0_0) := (blk_cell BK159.out 0).trans rfl; have hcz10_1 : w9.cell? ⟨gb159, 1, none⟩ = some (.int .u32 a0_1) := (blk_cell BK159.out 1).trans rfl; have hcz10_2 : w9.cell? ⟨gb159, 2, none⟩ = some (.int .u32 a0_2) := (blk_cell BK159.out 2).trans rfl; have hcz10_3 : w9.cell? ⟨gb159, 3, none⟩ = some (.int .u32 a0_3) := (blk_cell BK159.out 3).trans rfl; have hcz10_4 : w9.cell? ⟨gb159, 4, none⟩ = some (.int .u32 a0_4) := (blk_cell BK159.out 4).trans rfl; have hcz10_5 : w9.cell? ⟨gb159, 5, none⟩ = some (.int .u32 a0_5) := (blk_cell BK159.out 5).trans rfl; have hcz10_6 : w9.cell? ⟨gb159, 6, none⟩ = some (.int .u32 a0_6) := (blk_cell BK159.out 6).trans rfl; have hcz10_7 : w9.cell? ⟨gb159, 7, none⟩ = some (.bool a0_7) := (blk_cell BK159.out 7).trans rfl; have hcz10_8 : w9.cell? ⟨gb159, 8, none⟩ = some (.int .u32 a0_8) := (blk_cell BK159.out 8).trans rfl; have hcz10_9 : w9.cell? ⟨gb159, 9, none⟩ = some (.int .u32 a0_9) := (blk_cell BK159.out 9).trans rfl; have hcz10_10 : w9.cell? ⟨gb159, 10, none⟩ = some (.int .u32 a0_10) := (blk_cell BK159.out 10).trans rfl; have hcz10_11 : w9.cell? ⟨gb159, 11, none⟩ = some (.int .u32 a0_11) := (blk_cell BK159.out 11).trans rfl; have hcz10_12 : w9.cell? ⟨gb159, 12, none⟩ = some (.int .u32 a0_12) := (blk_cell BK159.out 12).trans rfl; have hcz10_13 : w9.cell? ⟨gb159, 13, none⟩ = some (.int .u32 a0_13) := (blk_cell BK159.out 13).trans rfl; have hcz10_14 : w9.cell? ⟨gb159, 14, none⟩ = some (.int .i64 a0_14) := (blk_cell BK159.out 14).trans rfl; have hfz10_0 := blk_frozen BK159.out 0; have hfz10_1 := blk_frozen BK159.out 1; have hfz10_2 := blk_frozen BK159.out 2; have hfz10_3 := blk_frozen BK159.out 3; have hfz10_4 := blk_frozen BK159.out 4; have hfz10_5 := blk_frozen BK159.out 5; have hfz10_6 := blk_frozen BK159.out 6; have hfz10_7 := blk_frozen BK159.out 7; have hfz10_8 := blk_frozen BK159.out 8; have hfz10_9 := blk_frozen BK159.out 9; have hfz10_10 := blk_frozen BK159.out 10; have hfz10_11 := blk_frozen BK159.out 11; have hfz10_12 := blk_frozen BK159.out 12; have hfz10_13 := blk_frozen BK159.out 13; have hfz10_14 := blk_frozen BK159.out 14) | ((with_reducible refine gate_callee (f := 49) rfl ?_); refine goesL_ (some 5) rfl rfl Try.func49 (by kernel_rfl) rfl #[.agg #[.bool a0_0, .int .u32 a0_1, .int .u32 a0_2, .int .u32 a0_3, .int .u32 a0_4, .int .u32 a0_5, .int .u32 a0_6]] rfl (by (try simp only [List.map_toArray, List.map_cons, List.map_nil]); first | done | rfl | (simp only [List.length_drop, List.length_take]; rfl)) ?_; (with_reducible refine (impl_ValidWide.calls a0_0 a0_1 a0_2 a0_3 a0_4 a0_5 a0_6 true _ A2.out).mono ?_); rintro e w11 ⟨rfl, hb⟩; refine ⟨_, rfl, ?_⟩; have n0_ := Aside0.mk (blk_below (g := gb159) (o := .cells #[.bool a0_0, .int .u32 a0_1, .int .u32 a0_2, .int .u32 a0_3, .int .u32 a0_4, .int .u32 a0_5, .int .u32 a0_6, .bool a0_7, .int .u32 a0_8, .int .u32 a0_9, .int .u32 a0_10, .int .u32 a0_11, .int .u32 a0_12, .int .u32 a0_13, .int .i64 a0_14] 47 (0, 0)) (by (with_reducible repeat (first | refine blk_drewN ?_ _ | refine blk_drew ?_ | refine blk_alloc ?_ _)); exact BK159.out) hb); have n1_ := Aside0.mk (below_step (by repeat (first | (with_reducible first | exact HB.out | apply below_alloc | apply pw_below_drewN | apply below_drew1 | refine below_set ?_ GE159.out) | exact HB.out)) hb); clear BK159; clear HB; have BK159 := n0_; have HB := n1_; clear n0_ n1_; (try clear hb); (try clear hb2); (try clear hk); (try clear hi); have hcz12_0 : w11.cell? ⟨gb159, 0, none⟩ = some (.bool a0_0) := (blk_cell BK159.out 0).trans rfl; have hcz12_1 : w11.cell? ⟨gb159, 1, none⟩ = some (.int .u32 a0_1) := (blk_cell BK159.out 1).trans rfl; have hcz12_2 : w11.cell? ⟨gb159, 2, none⟩ = some (.int .u32 a0_2) := (blk_cell BK159.out 2).trans rfl; have hcz12_3 : w11.cell? ⟨gb159, 3, none⟩ = some (.int .u32 a0_3) := (blk_cell BK159.out 3).trans rfl; have hcz12_4 : w11.cell? ⟨gb159, 4, none⟩ = some (.int .u32 a0_4) := (blk_cell BK159.out 4).trans rfl; have hcz12_5 : w11.cell? ⟨gb159, 5, none⟩ = some (.int .u32 a0_5) := (blk_cell BK159.out 5).trans rfl; have hcz12_6 : w11.cell? ⟨gb159, 6, none⟩ = some (.int .u32 a0_6) := (blk_cell BK159.out 6).trans rfl; have hcz12_7 : w11.cell? ⟨gb159, 7, none⟩ = some (.bool a0_7) := (blk_cell BK159.out 7).trans rfl; have hcz12_8 : w11.cell? ⟨gb159, 8, none⟩ = some (.int .u32 a0_8) := (blk_cell BK159.out 8).trans rfl; have hcz12_9 : w11.cell? ⟨gb159, 9, none⟩ = some (.int .u32 a0_9) := (blk_cell BK159.out 9).trans rfl; have hcz12_10 : w11.cell? ⟨gb159, 10, none⟩ = some (.int .u32 a0_10) := (blk_cell BK159.out 10).trans rfl; have hcz12_11 : w11.cell? ⟨gb159, 11, none⟩ = some (.int .u32 a0_11) := (blk_cell BK159.out 11).trans rfl; have hcz12_12 : w11.cell? ⟨gb159, 12, none⟩ = some (.int .u32 a0_12) := (blk_cell BK159.out 12).trans rfl; have hcz12_13 : w11.cell? ⟨gb159, 13, none⟩ = some (.int .u32 a0_13) := (blk_cell BK159.out 13).trans rfl; have hcz12_14 : w11.cell? ⟨gb159, 14, none⟩ = some (.int .i64 a0_14) := (blk_cell BK159.out 14).trans rfl; have hfz12_0 := blk_frozen BK159.out 0; have hfz12_1 := blk_frozen BK159.out 1; have hfz12_2 := blk_frozen BK159.out 2; have hfz12_3 := blk_frozen BK159.out 3; have hfz12_4 := blk_frozen BK159.out 4; have hfz12_5 := blk_frozen BK159.out 5; have hfz12_6 := blk_frozen BK159.out 6; have hfz12_7 := blk_frozen BK159.out 7; have hfz12_8 := blk_frozen BK159.out 8; have hfz12_9 := blk_frozen BK159.out 9; have hfz12_10 := blk_frozen BK159.out 10; have hfz12_11 := blk_frozen BK159.out 11; have hfz12_12 := blk_frozen BK159.out 12; have hfz12_13 := blk_frozen BK159.out 13; have hfz12_14 := blk_frozen BK159.out 14) | (go_at_call 49; (with_reducible refine (impl_ValidWide.calls a0_7 a0_8 a0_9 a0_10 a0_11 a0_12 a0_13 true _ A4.out).mono ?_); rintro e w13 ⟨rfl, hb⟩; have n0_ := Aside0.mk (blk_below (g := gb159) (o := .cells #[.bool a0_0, .int .u32 a0_1, .int .u32 a0_2, .int .u32 a0_3, .int .u32 a0_4, .int .u32 a0_5, .int .u32 a0_6, .bool a0_7, .int .u32 a0_8, .int .u32 a0_9, .int .u32 a0_10, .int .u32 a0_11, .int .u32 a0_12, .int .u32 a0_13, .int .i64 a0_14] 47 (0, 0)) (by (with_reducible repeat (first | refine blk_drewN ?_ _ | refine blk_drew ?_ | refine blk_alloc ?_ _)); exact BK159.out) hb); have n1_ := Aside0.mk (below_step (by repeat (first | (with_reducible first | exact HB.out | apply below_alloc | apply pw_below_drewN | apply below_drew1 | refine below_set ?_ GE159.out) | exact HB.out)) hb); clear BK159; clear HB; have BK159 := n0_; have HB := n1_; clear n0_ n1_; (try clear hb); (try clear hb2); (try clear hk); (try clear hi); have hcz14_0 : w13.cell? ⟨gb159, 0, none⟩ = some (.bool a0_0) := (blk_cell BK159.out 0).trans rfl; have hcz14_1 : w13.cell? ⟨gb159, 1, none⟩ = some (.int .u32 a0_1) := (blk_cell BK159.out 1).trans rfl; have hcz14_2 : w13.cell? ⟨gb159, 2, none⟩ = some (.int .u32 a0_2) := (blk_cell BK159.out 2).trans rfl; have hcz14_3 : w13.cell? ⟨gb159, 3, none⟩ = some (.int .u32 a0_3) := (blk_cell BK159.out 3).trans rfl; have hcz14_4 : w13.cell? ⟨gb159, 4, none⟩ = some (.int .u32 a0_4) := (blk_cell BK159.out 4).trans rfl; have hcz14_5 : w13.cell? ⟨gb159, 5, none⟩ = some (.int .u32 a0_5) := (blk_cell BK159.out 5).trans rfl; have hcz14_6 : w13.cell? ⟨gb159, 6, none⟩ = some (.int .u32 a0_6) := (blk_cell BK159.out 6).trans rfl; have hcz14_7 : w13.cell? ⟨gb159, 7, none⟩ = some (.bool a0_7) := (blk_cell BK159.out 7).trans rfl; have hcz14_8 : w13.cell? ⟨gb159, 8, none⟩ = some (.int .u32 a0_8) := (blk_cell BK159.out 8).trans rfl; have hcz14_9 : w13.cell? ⟨gb159, 9, none⟩ = some (.int .u32 a0_9) := (blk_cell BK159.out 9).trans rfl; have hcz14_10 : w13.cell? ⟨gb159, 10, none⟩ = some (.int .u32 a0_10) := (blk_cell BK159.out 10).trans rfl; have hcz14_11 : w13.cell? ⟨gb159, 11, none⟩ = some (.int .u32 a0_11) := (blk_cell BK159.out 11).trans rfl; have hcz14_12 : w13.cell? ⟨gb159, 12, none⟩ = some (.int .u32 a0_12) := (blk_cell BK159.out 12).trans rfl; have hcz14_13 : w13.cell? ⟨gb159, 13, none⟩ = some (.int .u32 a0_13) := (blk_cell BK159.out 13).trans rfl; have hcz14_14 : w13.cell? ⟨gb159, 14, none⟩ = some (.int .i64 a0_14) := (blk_cell BK159.out 14).trans rfl; have hfz14_0 := blk_frozen BK159.out 0; have hfz14_1 := blk_frozen BK159.out 1; have hfz14_2 := blk_frozen BK159.out 2; have hfz14_3 := blk_frozen BK159.out 3; have hfz14_4 := blk_frozen BK159.out 4; have hfz14_5 := blk_frozen BK159.out 5; have hfz14_6 := blk_frozen BK159.out 6; have hfz14_7 := blk_frozen BK159.out 7; have hfz14_8 := blk_frozen BK159.out 8; have hfz14_9 := blk_frozen BK159.out 9; have hfz14_10 := blk_frozen BK159.out 10; have hfz14_11 := blk_frozen BK159.out 11; have hfz14_12 := blk_frozen BK159.out 12; have hfz14_13 := blk_frozen BK159.out 13; have hfz14_14 := blk_frozen BK159.out 14) | (go_at_call 50; (with_reducible refine (impl_compare.calls k a0_0 a0_1 a0_2 a0_3 a0_4 a0_5 a0_6 a0_7 a0_8 a0_9 a0_10 a0_11 a0_12 a0_13 t162 _ A6.out).mono ?_); rintro e w15 ⟨rfl, hb⟩; have n0_ := Aside0.mk (blk_below (g := gb159) (o := .cells #[.bool a0_0, .int .u32 a0_1, .int .u32 a0_2, .int .u32 a0_3, .int .u32 a0_4, .int .u32 a0_5, .int .u32 a0_6, .bool a0_7, .int .u32 a0_8, .int .u32 a0_9, .int .u32 a0_10, .int .u32 a0_11, .int .u32 a0_12, .int .u32 a0_13, .int .i64 a0_14] 47 (0, 0)) (by (with_reducible repeat (first | refine blk_drewN ?_ _ | refine blk_drew ?_ | refine blk_alloc ?_ _)); exact BK159.out) hb); have n1_ := Aside0.mk (below_step (by repeat (first | (with_reducible first | exact HB.out | apply below_alloc | apply pw_below_drewN | apply below_drew1 | refine below_set ?_ GE159.out) | exact HB.out)) hb); clear BK159; clear HB; have BK159 := n0_; have HB := n1_; clear n0_ n1_; (try clear hb); (try clear hb2); (try clear hk); (try clear hi); have hcz16_0 : w15.cell? ⟨gb159, 0, none⟩ = some (.bool a0_0) := (blk_cell BK159.out 0).trans rfl; have hcz16_1 : w15.cell? ⟨gb159, 1, none⟩ = some (.int .u32 a0_1) := (blk_cell BK159.out 1).trans rfl; have hcz16_2 : w15.cell? ⟨gb159, 2, none⟩ = some (.int .u32 a0_2) := (blk_cell BK159.out 2).trans rfl; have hcz16_3 : w15.cell? ⟨gb159, 3, none⟩ = some (.int .u32 a0_3) := (blk_cell BK159.out 3).trans rfl; have hcz16_4 : w15.cell? ⟨gb159, 4, none⟩ = some (.int .u32 a0_4) := (blk_cell BK159.out 4).trans rfl; have hcz16_5 : w15.cell? ⟨gb159, 5, none⟩ = some (.int .u32 a0_5) := (blk_cell BK159.out 5).trans rfl; have hcz16_6 : w15.cell? ⟨gb159, 6, none⟩ = some (.int .u32 a0_6) := (blk_cell BK159.out 6).trans rfl; have hcz16_7 : w15.cell? ⟨gb159, 7, none⟩ = some (.bool a0_7) := (blk_cell BK159.out 7).trans rfl; have hcz16_8 : w15.cell? ⟨gb159, 8, none⟩ = some (.int .u32 a0_8) := (blk_cell BK159.out 8).trans rfl; have hcz16_9 : w15.cell? ⟨gb159, 9, none⟩ = some (.int .u32 a0_9) := (blk_cell BK159.out 9).trans rfl; have hcz16_10 : w15.cell? ⟨gb159, 10, none⟩ = some (.int .u32 a0_10) := (blk_cell BK159.out 10).trans rfl; have hcz16_11 : w15.cell? ⟨gb159, 11, none⟩ = some (.int .u32 a0_11) := (blk_cell BK159.out 11).trans rfl; have hcz16_12 : w15.cell? ⟨gb159, 12, none⟩ = some (.int .u32 a0_12) := (blk_cell BK159.out 12).trans rfl; have hcz16_13 : w15.cell? ⟨gb159, 13, none⟩ = some (.int .u32 a0_13) := (blk_cell BK159.out 13).trans rfl; have hcz16_14 : w15.cell? ⟨gb159, 14, none⟩ = some (.int .i64 a0_14) := (blk_cell BK159.out 14).trans rfl; have hfz16_0 := blk_frozen BK159.out 0; have hfz16_1 := blk_frozen BK159.out 1; have hfz16_2 := blk_frozen BK159.out 2; have hfz16_3 := blk_frozen BK159.out 3; have hfz16_4 := blk_frozen BK159.out 4; have hfz16_5 := blk_frozen BK159.out 5; have hfz16_6 := blk_frozen BK159.out 6; have hfz16_7 := blk_frozen BK159.out 7; have hfz16_8 := blk_frozen BK159.out 8; have hfz16_9 := blk_frozen BK159.out 9; have hfz16_10 := blk_frozen BK159.out 10; have hfz16_11 := blk_frozen BK159.out 11; have hfz16_12 := blk_frozen BK159.out 12; have hfz16_13 := blk_frozen BK159.out 13; have hfz16_14 := blk_frozen BK159.out 14) | (go_at_call 51; (with_reducible refine (impl_placesOk.calls a0_14 t163 _ A8.out).mono ?_); rintro e w' ⟨rfl, ⟨nd, rfl⟩⟩))
        go_ret
        exact ⟨by first | rfl | (simp [errW_none, errW_some] <;> rfl) | (simp [*, errW_none, errW_some] <;> rfl), by repeat (first | (with_reducible first | exact HB.out | apply below_alloc | apply pw_below_drewN | apply below_drew1 | refine below_set ?_ GE159.out) | exact HB.out)⟩
      · rw [if_neg c7] at H
        have c7b0 : decide (t162 < 0) = false := decide_eq_false c7
        clear c7
        obtain rfl := Option.some.inj H
        go_enter Try.func29, Try.ntmps29
        go_wp2_with (first | ((with_reducible refine gate_dst (N := 1) rfl ?_); refine box_event ?hg (N := 1) ?hd (cs := #[.bool a0_0, .int .u32 a0_1, .int .u32 a0_2, .int .u32 a0_3, .int .u32 a0_4, .int .u32 a0_5, .int .u32 a0_6, .bool a0_7, .int .u32 a0_8, .int .u32 a0_9, .int .u32 a0_10, .int .u32 a0_11, .int .u32 a0_12, .int .u32 a0_13, .int .i64 a0_14]) (t := 47) ?hr ?_; (case hd => rfl); (case hg => rfl); (case hr => first | (go_simp; done) | (go_simp; rfl)); intro gb159 hg w17 hbox hb; have n0_ := Aside0.mk (below_step (by repeat (first | (with_reducible first | exact HB.out | apply below_alloc | apply pw_below_drewN | apply below_drew1) | exact HB.out)) hb); have n1_ := Aside0.mk (hbox); have n2_ := Aside0.mk ((by rw [hg]; exact (below_size (by repeat (first | (with_reducible first | exact HB.out | apply below_alloc | apply pw_below_drewN | apply below_drew1) | exact HB.out))) : w.heap.size ≤ gb159)); have n3_ := Aside0.mk ((by rw [hg]; exact (below_size (by repeat (first | (with_reducible first | exact HB.out | apply below_alloc | apply pw_below_drewN | apply below_drew1) | exact HB.out))) : w.heap.size ≤ gb159)); clear HB; have HB := n0_; have BK159 := n1_; have GW159 := n2_; have GE159 := n3_; clear n0_ n1_ n2_ n3_; clear hb hbox hg; have hcz18_0 : w17.cell? ⟨gb159, 0, none⟩ = some (.bool a0_0) := (blk_cell BK159.out 0).trans rfl; have hcz18_1 : w17.cell? ⟨gb159, 1, none⟩ = some (.int .u32 a0_1) := (blk_cell BK159.out 1).trans rfl; have hcz18_2 : w17.cell? ⟨gb159, 2, none⟩ = some (.int .u32 a0_2) := (blk_cell BK159.out 2).trans rfl; have hcz18_3 : w17.cell? ⟨gb159, 3, none⟩ = some (.int .u32 a0_3) := (blk_cell BK159.out 3).trans rfl; have hcz18_4 : w17.cell? ⟨gb159, 4, none⟩ = some (.int .u32 a0_4) := (blk_cell BK159.out 4).trans rfl; have hcz18_5 : w17.cell? ⟨gb159, 5, none⟩ = some (.int .u32 a0_5) := (blk_cell BK159.out 5).trans rfl; have hcz18_6 : w17.cell? ⟨gb159, 6, none⟩ = some (.int .u32 a0_6) := (blk_cell BK159.out 6).trans rfl; have hcz18_7 : w17.cell? ⟨gb159, 7, none⟩ = some (.bool a0_7) := (blk_cell BK159.out 7).trans rfl; have hcz18_8 : w17.cell? ⟨gb159, 8, none⟩ = some (.int .u32 a0_8) := (blk_cell BK159.out 8).trans rfl; have hcz18_9 : w17.cell? ⟨gb159, 9, none⟩ = some (.int .u32 a0_9) := (blk_cell BK159.out 9).trans rfl; have hcz18_10 : w17.cell? ⟨gb159, 10, none⟩ = some (.int .u32 a0_10) := (blk_cell BK159.out 10).trans rfl; have hcz18_11 : w17.cell? ⟨gb159, 11, none⟩ = some (.int .u32 a0_11) := (blk_cell BK159.out 11).trans rfl; have hcz18_12 : w17.cell? ⟨gb159, 12, none⟩ = some (.int .u32 a0_12) := (blk_cell BK159.out 12).trans rfl; have hcz18_13 : w17.cell? ⟨gb159, 13, none⟩ = some (.int .u32 a0_13) := (blk_cell BK159.out 13).trans rfl; have hcz18_14 : w17.cell? ⟨gb159, 14, none⟩ = some (.int .i64 a0_14) := (blk_cell BK159.out 14).trans rfl; have hfz18_0 := blk_frozen BK159.out 0; have hfz18_1 := blk_frozen BK159.out 1; have hfz18_2 := blk_frozen BK159.out 2; have hfz18_3 := blk_frozen BK159.out 3; have hfz18_4 := blk_frozen BK159.out 4; have hfz18_5 := blk_frozen BK159.out 5; have hfz18_6 := blk_frozen BK159.out 6; have hfz18_7 := blk_frozen BK159.out 7; have hfz18_8 := blk_frozen BK159.out 8; have hfz18_9 := blk_frozen BK159.out 9; have hfz18_10 := blk_frozen BK159.out 10; have hfz18_11 := blk_frozen BK159.out 11; have hfz18_12 := blk_frozen BK159.out 12; have hfz18_13 := blk_frozen BK159.out 13; have hfz18_14 := blk_frozen BK159.out 14) | ((with_reducible refine gate_callee (f := 49) rfl ?_); refine goesL_ (some 5) rfl rfl Try.func49 (by kernel_rfl) rfl #[.agg #[.bool a0_0, .int .u32 a0_1, .int .u32 a0_2, .int .u32 a0_3, .int .u32 a0_4, .int .u32 a0_5, .int .u32 a0_6]] rfl (by (try simp only [List.map_toArray, List.map_cons, List.map_nil]); first | done | rfl | (simp only [List.length_drop, List.length_take]; rfl)) ?_; (with_reducible refine (impl_ValidWide.calls a0_0 a0_1 a0_2 a0_3 a0_4 a0_5 a0_6 true _ A2.out).mono ?_); rintro e w19 ⟨rfl, hb⟩; refine ⟨_, rfl, ?_⟩; have n0_ := Aside0.mk (blk_below (g := gb159) (o := .cells #[.bool a0_0, .int .u32 a0_1, .int .u32 a0_2, .int .u32 a0_3, .int .u32 a0_4, .int .u32 a0_5, .int .u32 a0_6, .bool a0_7, .int .u32 a0_8, .int .u32 a0_9, .int .u32 a0_10, .int .u32 a0_11, .int .u32 a0_12, .int .u32 a0_13, .int .i64 a0_14] 47 (0, 0)) (by (with_reducible repeat (first | refine blk_drewN ?_ _ | refine blk_drew ?_ | refine blk_alloc ?_ _)); exact BK159.out) hb); have n1_ := Aside0.mk (below_step (by repeat (first | (with_reducible first | exact HB.out | apply below_alloc | apply pw_below_drewN | apply below_drew1 | refine below_set ?_ GE159.out) | exact HB.out)) hb); clear BK159; clear HB; have BK159 := n0_; have HB := n1_; clear n0_ n1_; (try clear hb); (try clear hb2); (try clear hk); (try clear hi); have hcz20_0 : w19.cell? ⟨gb159, 0, none⟩ = some (.bool a0_0) := (blk_cell BK159.out 0).trans rfl; have hcz20_1 : w19.cell? ⟨gb159, 1, none⟩ = some (.int .u32 a0_1) := (blk_cell BK159.out 1).trans rfl; have hcz20_2 : w19.cell? ⟨gb159, 2, none⟩ = some (.int .u32 a0_2) := (blk_cell BK159.out 2).trans rfl; have hcz20_3 : w19.cell? ⟨gb159, 3, none⟩ = some (.int .u32 a0_3) := (blk_cell BK159.out 3).trans rfl; have hcz20_4 : w19.cell? ⟨gb159, 4, none⟩ = some (.int .u32 a0_4) := (blk_cell BK159.out 4).trans rfl; have hcz20_5 : w19.cell? ⟨gb159, 5, none⟩ = some (.int .u32 a0_5) := (blk_cell BK159.out 5).trans rfl; have hcz20_6 : w19.cell? ⟨gb159, 6, none⟩ = some (.int .u32 a0_6) := (blk_cell BK159.out 6).trans rfl; have hcz20_7 : w19.cell? ⟨gb159, 7, none⟩ = some (.bool a0_7) := (blk_cell BK159.out 7).trans rfl; have hcz20_8 : w19.cell? ⟨gb159, 8, none⟩ = some (.int .u32 a0_8) := (blk_cell BK159.out 8).trans rfl; have hcz20_9 : w19.cell? ⟨gb159, 9, none⟩ = some (.int .u32 a0_9) := (blk_cell BK159.out 9).trans rfl; have hcz20_10 : w19.cell? ⟨gb159, 10, none⟩ = some (.int .u32 a0_10) := (blk_cell BK159.out 10).trans rfl; have hcz20_11 : w19.cell? ⟨gb159, 11, none⟩ = some (.int .u32 a0_11) := (blk_cell BK159.out 11).trans rfl; have hcz20_12 : w19.cell? ⟨gb159, 12, none⟩ = some (.int .u32 a0_12) := (blk_cell BK159.out 12).trans rfl; have hcz20_13 : w19.cell? ⟨gb159, 13, none⟩ = some (.int .u32 a0_13) := (blk_cell BK159.out 13).trans rfl; have hcz20_14 : w19.cell? ⟨gb159, 14, none⟩ = some (.int .i64 a0_14) := (blk_cell BK159.out 14).trans rfl; have hfz20_0 := blk_frozen BK159.out 0; have hfz20_1 := blk_frozen BK159.out 1; have hfz20_2 := blk_frozen BK159.out 2; have hfz20_3 := blk_frozen BK159.out 3; have hfz20_4 := blk_frozen BK159.out 4; have hfz20_5 := blk_frozen BK159.out 5; have hfz20_6 := blk_frozen BK159.out 6; have hfz20_7 := blk_frozen BK159.out 7; have hfz20_8 := blk_frozen BK159.out 8; have hfz20_9 := blk_frozen BK159.out 9; have hfz20_10 := blk_frozen BK159.out 10; have hfz20_11 := blk_frozen BK159.out 11; have hfz20_12 := blk_frozen BK159.out 12; have hfz20_13 := blk_frozen BK159.out 13; have hfz20_14 := blk_frozen BK159.out 14) | (go_at_call 49; (with_reducible refine (impl_ValidWide.calls a0_7 a0_8 a0_9 a0_10 a0_11 a0_12 a0_13 true _ A4.out).mono ?_); rintro e w21 ⟨rfl, hb⟩; have n0_ := Aside0.mk (blk_below (g := gb159) (o := .cells #[.bool a0_0, .int .u32 a0_1, .int .u32 a0_2, .int .u32 a0_3, .int .u32 a0_4, .int .u32 a0_5, .int .u32 a0_6, .bool a0_7, .int .u32 a0_8, .int .u32 a0_9, .int .u32 a0_10, .int .u32 a0_11, .int .u32 a0_12, .int .u32 a0_13, .int .i64 a0_14] 47 (0, 0)) (by (with_reducible repeat (first | refine blk_drewN ?_ _ | refine blk_drew ?_ | refine blk_alloc ?_ _)); exact BK159.out) hb); have n1_ := Aside0.mk (below_step (by repeat (first | (with_reducible first | exact HB.out | apply below_alloc | apply pw_below_drewN | apply below_drew1 | refine below_set ?_ GE159.out) | exact HB.out)) hb); clear BK159; clear HB; have BK159 := n0_; have HB := n1_; clear n0_ n1_; (try clear hb); (try clear hb2); (try clear hk); (try clear hi); have hcz22_0 : w21.cell? ⟨gb159, 0, none⟩ = some (.bool a0_0) := (blk_cell BK159.out 0).trans rfl; have hcz22_1 : w21.cell? ⟨gb159, 1, none⟩ = some (.int .u32 a0_1) := (blk_cell BK159.out 1).trans rfl; have hcz22_2 : w21.cell? ⟨gb159, 2, none⟩ = some (.int .u32 a0_2) := (blk_cell BK159.out 2).trans rfl; have hcz22_3 : w21.cell? ⟨gb159, 3, none⟩ = some (.int .u32 a0_3) := (blk_cell BK159.out 3).trans rfl; have hcz22_4 : w21.cell? ⟨gb159, 4, none⟩ = some (.int .u32 a0_4) := (blk_cell BK159.out 4).trans rfl; have hcz22_5 : w21.cell? ⟨gb159, 5, none⟩ = some (.int .u32 a0_5) := (blk_cell BK159.out 5).trans rfl; have hcz22_6 : w21.cell? ⟨gb159, 6, none⟩ = some (.int .u32 a0_6) := (blk_cell BK159.out 6).trans rfl; have hcz22_7 : w21.cell? ⟨gb159, 7, none⟩ = some (.bool a0_7) := (blk_cell BK159.out 7).trans rfl; have hcz22_8 : w21.cell? ⟨gb159, 8, none⟩ = some (.int .u32 a0_8) := (blk_cell BK159.out 8).trans rfl; have hcz22_9 : w21.cell? ⟨gb159, 9, none⟩ = some (.int .u32 a0_9) := (blk_cell BK159.out 9).trans rfl; have hcz22_10 : w21.cell? ⟨gb159, 10, none⟩ = some (.int .u32 a0_10) := (blk_cell BK159.out 10).trans rfl; have hcz22_11 : w21.cell? ⟨gb159, 11, none⟩ = some (.int .u32 a0_11) := (blk_cell BK159.out 11).trans rfl; have hcz22_12 : w21.cell? ⟨gb159, 12, none⟩ = some (.int .u32 a0_12) := (blk_cell BK159.out 12).trans rfl; have hcz22_13 : w21.cell? ⟨gb159, 13, none⟩ = some (.int .u32 a0_13) := (blk_cell BK159.out 13).trans rfl; have hcz22_14 : w21.cell? ⟨gb159, 14, none⟩ = some (.int .i64 a0_14) := (blk_cell BK159.out 14).trans rfl; have hfz22_0 := blk_frozen BK159.out 0; have hfz22_1 := blk_frozen BK159.out 1; have hfz22_2 := blk_frozen BK159.out 2; have hfz22_3 := blk_frozen BK159.out 3; have hfz22_4 := blk_frozen BK159.out 4; have hfz22_5 := blk_frozen BK159.out 5; have hfz22_6 := blk_frozen BK159.out 6; have hfz22_7 := blk_frozen BK159.out 7; have hfz22_8 := blk_frozen BK159.out 8; have hfz22_9 := blk_frozen BK159.out 9; have hfz22_10 := blk_frozen BK159.out 10; have hfz22_11 := blk_frozen BK159.out 11; have hfz22_12 := blk_frozen BK159.out 12; have hfz22_13 := blk_frozen BK159.out 13; have hfz22_14 := blk_frozen BK159.out 14) | (go_at_call 50; (with_reducible refine (impl_compare.calls k a0_0 a0_1 a0_2 a0_3 a0_4 a0_5 a0_6 a0_7 a0_8 a0_9 a0_10 a0_11 a0_12 a0_13 t162 _ A6.out).mono ?_); rintro e w23 ⟨rfl, hb⟩; have n0_ := Aside0.mk (blk_below (g := gb159) (o := .cells #[.bool a0_0, .int .u32 a0_1, .int .u32 a0_2, .int .u32 a0_3, .int .u32 a0_4, .int .u32 a0_5, .int .u32 a0_6, .bool a0_7, .int .u32 a0_8, .int .u32 a0_9, .int .u32 a0_10, .int .u32 a0_11, .int .u32 a0_12, .int .u32 a0_13, .int .i64 a0_14] 47 (0, 0)) (by (with_reducible repeat (first | refine blk_drewN ?_ _ | refine blk_drew ?_ | refine blk_alloc ?_ _)); exact BK159.out) hb); have n1_ := Aside0.mk (below_step (by repeat (first | (with_reducible first | exact HB.out | apply below_alloc | apply pw_below_drewN | apply below_drew1 | refine below_set ?_ GE159.out) | exact HB.out)) hb); clear BK159; clear HB; have BK159 := n0_; have HB := n1_; clear n0_ n1_; (try clear hb); (try clear hb2); (try clear hk); (try clear hi)))
        go_ret
        exact ⟨by first | rfl | (simp [errW_none, errW_some] <;> rfl) | (simp [*, errW_none, errW_some] <;> rfl), by repeat (first | (with_reducible first | exact HB.out | apply below_alloc | apply pw_below_drewN | apply below_drew1 | refine below_set ?_ GE159.out) | exact HB.out)⟩
    · replace c5 := Bool.eq_false_iff.mpr c5
      subst c5
      have H1 : (some false) = some r := by rw [if_neg (show ¬ (false = true) by decide)] at H; exact H
      clear H
      have H := H1
      clear H1
      obtain rfl := Option.some.inj H
      go_enter Try.func29, Try.ntmps29
      go_wp2_with (first | ((with_reducible refine gate_dst (N := 1) rfl ?_); refine box_event ?hg (N := 1) ?hd (cs := #[.bool a0_0, .int .u32 a0_1, .int .u32 a0_2, .int .u32 a0_3, .int .u32 a0_4, .int .u32 a0_5, .int .u32 a0_6, .bool a0_7, .int .u32 a0_8, .int .u32 a0_9, .int .u32 a0_10, .int .u32 a0_11, .int .u32 a0_12, .int .u32 a0_13, .int .i64 a0_14]) (t := 47) ?hr ?_; (case hd => rfl); (case hg => rfl); (case hr => first | (go_simp; done) | (go_simp; rfl)); intro gb159 hg w24 hbox hb; have n0_ := Aside0.mk (below_step (by repeat (first | (with_reducible first | exact HB.out | apply below_alloc | apply pw_below_drewN | apply below_drew1) | exact HB.out)) hb); have n1_ := Aside0.mk (hbox); have n2_ := Aside0.mk ((by rw [hg]; exact (below_size (by repeat (first | (with_reducible first | exact HB.out | apply below_alloc | apply pw_below_drewN | apply below_drew1) | exact HB.out))) : w.heap.size ≤ gb159)); have n3_ := Aside0.mk ((by rw [hg]; exact (below_size (by repeat (first | (with_reducible first | exact HB.out | apply below_alloc | apply pw_below_drewN | apply below_drew1) | exact HB.out))) : w.heap.size ≤ gb159)); clear HB; have HB := n0_; have BK159 := n1_; have GW159 := n2_; have GE159 := n3_; clear n0_ n1_ n2_ n3_; clear hb hbox hg; have hcz25_0 : w24.cell? ⟨gb159, 0, none⟩ = some (.bool a0_0) := (blk_cell BK159.out 0).trans rfl; have hcz25_1 : w24.cell? ⟨gb159, 1, none⟩ = some (.int .u32 a0_1) := (blk_cell BK159.out 1).trans rfl; have hcz25_2 : w24.cell? ⟨gb159, 2, none⟩ = some (.int .u32 a0_2) := (blk_cell BK159.out 2).trans rfl; have hcz25_3 : w24.cell? ⟨gb159, 3, none⟩ = some (.int .u32 a0_3) := (blk_cell BK159.out 3).trans rfl; have hcz25_4 : w24.cell? ⟨gb159, 4, none⟩ = some (.int .u32 a0_4) := (blk_cell BK159.out 4).trans rfl; have hcz25_5 : w24.cell? ⟨gb159, 5, none⟩ = some (.int .u32 a0_5) := (blk_cell BK159.out 5).trans rfl; have hcz25_6 : w24.cell? ⟨gb159, 6, none⟩ = some (.int .u32 a0_6) := (blk_cell BK159.out 6).trans rfl; have hcz25_7 : w24.cell? ⟨gb159, 7, none⟩ = some (.bool a0_7) := (blk_cell BK159.out 7).trans rfl; have hcz25_8 : w24.cell? ⟨gb159, 8, none⟩ = some (.int .u32 a0_8) := (blk_cell BK159.out 8).trans rfl; have hcz25_9 : w24.cell? ⟨gb159, 9, none⟩ = some (.int .u32 a0_9) := (blk_cell BK159.out 9).trans rfl; have hcz25_10 : w24.cell? ⟨gb159, 10, none⟩ = some (.int .u32 a0_10) := (blk_cell BK159.out 10).trans rfl; have hcz25_11 : w24.cell? ⟨gb159, 11, none⟩ = some (.int .u32 a0_11) := (blk_cell BK159.out 11).trans rfl; have hcz25_12 : w24.cell? ⟨gb159, 12, none⟩ = some (.int .u32 a0_12) := (blk_cell BK159.out 12).trans rfl; have hcz25_13 : w24.cell? ⟨gb159, 13, none⟩ = some (.int .u32 a0_13) := (blk_cell BK159.out 13).trans rfl; have hcz25_14 : w24.cell? ⟨gb159, 14, none⟩ = some (.int .i64 a0_14) := (blk_cell BK159.out 14).trans rfl; have hfz25_0 := blk_frozen BK159.out 0; have hfz25_1 := blk_frozen BK159.out 1; have hfz25_2 := blk_frozen BK159.out 2; have hfz25_3 := blk_frozen BK159.out 3; have hfz25_4 := blk_frozen BK159.out 4; have hfz25_5 := blk_frozen BK159.out 5; have hfz25_6 := blk_frozen BK159.out 6; have hfz25_7 := blk_frozen BK159.out 7; have hfz25_8 := blk_frozen BK159.out 8; have hfz25_9 := blk_frozen BK159.out 9; have hfz25_10 := blk_frozen BK159.out 10; have hfz25_11 := blk_frozen BK159.out 11; have hfz25_12 := blk_frozen BK159.out 12; have hfz25_13 := blk_frozen BK159.out 13; have hfz25_14 := blk_frozen BK159.out 14) | ((with_reducible refine gate_callee (f := 49) rfl ?_); refine goesL_ (some 5) rfl rfl Try.func49 (by kernel_rfl) rfl #[.agg #[.bool a0_0, .int .u32 a0_1, .int .u32 a0_2, .int .u32 a0_3, .int .u32 a0_4, .int .u32 a0_5, .int .u32 a0_6]] rfl (by (try simp only [List.map_toArray, List.map_cons, List.map_nil]); first | done | rfl | (simp only [List.length_drop, List.length_take]; rfl)) ?_; (with_reducible refine (impl_ValidWide.calls a0_0 a0_1 a0_2 a0_3 a0_4 a0_5 a0_6 true _ A2.out).mono ?_); rintro e w26 ⟨rfl, hb⟩; refine ⟨_, rfl, ?_⟩; have n0_ := Aside0.mk (blk_below (g := gb159) (o := .cells #[.bool a0_0, .int .u32 a0_1, .int .u32 a0_2, .int .u32 a0_3, .int .u32 a0_4, .int .u32 a0_5, .int .u32 a0_6, .bool a0_7, .int .u32 a0_8, .int .u32 a0_9, .int .u32 a0_10, .int .u32 a0_11, .int .u32 a0_12, .int .u32 a0_13, .int .i64 a0_14] 47 (0, 0)) (by (with_reducible repeat (first | refine blk_drewN ?_ _ | refine blk_drew ?_ | refine blk_alloc ?_ _)); exact BK159.out) hb); have n1_ := Aside0.mk (below_step (by repeat (first | (with_reducible first | exact HB.out | apply below_alloc | apply pw_below_drewN | apply below_drew1 | refine below_set ?_ GE159.out) | exact HB.out)) hb); clear BK159; clear HB; have BK159 := n0_; have HB := n1_; clear n0_ n1_; (try clear hb); (try clear hb2); (try clear hk); (try clear hi); have hcz27_0 : w26.cell? ⟨gb159, 0, none⟩ = some (.bool a0_0) := (blk_cell BK159.out 0).trans rfl; have hcz27_1 : w26.cell? ⟨gb159, 1, none⟩ = some (.int .u32 a0_1) := (blk_cell BK159.out 1).trans rfl; have hcz27_2 : w26.cell? ⟨gb159, 2, none⟩ = some (.int .u32 a0_2) := (blk_cell BK159.out 2).trans rfl; have hcz27_3 : w26.cell? ⟨gb159, 3, none⟩ = some (.int .u32 a0_3) := (blk_cell BK159.out 3).trans rfl; have hcz27_4 : w26.cell? ⟨gb159, 4, none⟩ = some (.int .u32 a0_4) := (blk_cell BK159.out 4).trans rfl; have hcz27_5 : w26.cell? ⟨gb159, 5, none⟩ = some (.int .u32 a0_5) := (blk_cell BK159.out 5).trans rfl; have hcz27_6 : w26.cell? ⟨gb159, 6, none⟩ = some (.int .u32 a0_6) := (blk_cell BK159.out 6).trans rfl; have hcz27_7 : w26.cell? ⟨gb159, 7, none⟩ = some (.bool a0_7) := (blk_cell BK159.out 7).trans rfl; have hcz27_8 : w26.cell? ⟨gb159, 8, none⟩ = some (.int .u32 a0_8) := (blk_cell BK159.out 8).trans rfl; have hcz27_9 : w26.cell? ⟨gb159, 9, none⟩ = some (.int .u32 a0_9) := (blk_cell BK159.out 9).trans rfl; have hcz27_10 : w26.cell? ⟨gb159, 10, none⟩ = some (.int .u32 a0_10) := (blk_cell BK159.out 10).trans rfl; have hcz27_11 : w26.cell? ⟨gb159, 11, none⟩ = some (.int .u32 a0_11) := (blk_cell BK159.out 11).trans rfl; have hcz27_12 : w26.cell? ⟨gb159, 12, none⟩ = some (.int .u32 a0_12) := (blk_cell BK159.out 12).trans rfl; have hcz27_13 : w26.cell? ⟨gb159, 13, none⟩ = some (.int .u32 a0_13) := (blk_cell BK159.out 13).trans rfl; have hcz27_14 : w26.cell? ⟨gb159, 14, none⟩ = some (.int .i64 a0_14) := (blk_cell BK159.out 14).trans rfl; have hfz27_0 := blk_frozen BK159.out 0; have hfz27_1 := blk_frozen BK159.out 1; have hfz27_2 := blk_frozen BK159.out 2; have hfz27_3 := blk_frozen BK159.out 3; have hfz27_4 := blk_frozen BK159.out 4; have hfz27_5 := blk_frozen BK159.out 5; have hfz27_6 := blk_frozen BK159.out 6; have hfz27_7 := blk_frozen BK159.out 7; have hfz27_8 := blk_frozen BK159.out 8; have hfz27_9 := blk_frozen BK159.out 9; have hfz27_10 := blk_frozen BK159.out 10; have hfz27_11 := blk_frozen BK159.out 11; have hfz27_12 := blk_frozen BK159.out 12; have hfz27_13 := blk_frozen BK159.out 13; have hfz27_14 := blk_frozen BK159.out 14) | (go_at_call 49; (with_reducible refine (impl_ValidWide.calls a0_7 a0_8 a0_9 a0_10 a0_11 a0_12 a0_13 false _ A4.out).mono ?_); rintro e w28 ⟨rfl, hb⟩; have n0_ := Aside0.mk (blk_below (g := gb159) (o := .cells #[.bool a0_0, .int .u32 a0_1, .int .u32 a0_2, .int .u32 a0_3, .int .u32 a0_4, .int .u32 a0_5, .int .u32 a0_6, .bool a0_7, .int .u32 a0_8, .int .u32 a0_9, .int .u32 a0_10, .int .u32 a0_11, .int .u32 a0_12, .int .u32 a0_13, .int .i64 a0_14] 47 (0, 0)) (by (with_reducible repeat (first | refine blk_drewN ?_ _ | refine blk_drew ?_ | refine blk_alloc ?_ _)); exact BK159.out) hb); have n1_ := Aside0.mk (below_step (by repeat (first | (with_reducible first | exact HB.out | apply below_alloc | apply pw_below_drewN | apply below_drew1 | refine below_set ?_ GE159.out) | exact HB.out)) hb); clear BK159; clear HB; have BK159 := n0_; have HB := n1_; clear n0_ n1_; (try clear hb); (try clear hb2); (try clear hk); (try clear hi)))
      go_ret
      exact ⟨by first | rfl | (simp [errW_none, errW_some] <;> rfl) | (simp [*, errW_none, errW_some] <;> rfl), by repeat (first | (with_reducible first | exact HB.out | apply below_alloc | apply pw_below_drewN | apply below_drew1 | refine below_set ?_ GE159.out) | exact HB.out)⟩
  · replace c3 := Bool.eq_false_iff.mpr c3
    subst c3
    have H1 : (some false) = some r := by rw [if_neg (show ¬ (false = true) by decide)] at H; exact H
    clear H
    have H := H1
    clear H1
    obtain rfl := Option.some.inj H
    go_enter Try.func29, Try.ntmps29
    go_wp2_with (first | ((with_reducible refine gate_dst (N := 1) rfl ?_); refine box_event ?hg (N := 1) ?hd (cs := #[.bool a0_0, .int .u32 a0_1, .int .u32 a0_2, .int .u32 a0_3, .int .u32 a0_4, .int .u32 a0_5, .int .u32 a0_6, .bool a0_7, .int .u32 a0_8, .int .u32 a0_9, .int .u32 a0_10, .int .u32 a0_11, .int .u32 a0_12, .int .u32 a0_13, .int .i64 a0_14]) (t := 47) ?hr ?_; (case hd => rfl); (case hg => rfl); (case hr => first | (go_simp; done) | (go_simp; rfl)); intro gb159 hg w29 hbox hb; have n0_ := Aside0.mk (below_step (by repeat (first | (with_reducible first | exact HB.out | apply below_alloc | apply pw_below_drewN | apply below_drew1) | exact HB.out)) hb); have n1_ := Aside0.mk (hbox); have n2_ := Aside0.mk ((by rw [hg]; exact (below_size (by repeat (first | (with_reducible first | exact HB.out | apply below_alloc | apply pw_below_drewN | apply below_drew1) | exact HB.out))) : w.heap.size ≤ gb159)); have n3_ := Aside0.mk ((by rw [hg]; exact (below_size (by repeat (first | (with_reducible first | exact HB.out | apply below_alloc | apply pw_below_drewN | apply below_drew1) | exact HB.out))) : w.heap.size ≤ gb159)); clear HB; have HB := n0_; have BK159 := n1_; have GW159 := n2_; have GE159 := n3_; clear n0_ n1_ n2_ n3_; clear hb hbox hg; have hcz30_0 : w29.cell? ⟨gb159, 0, none⟩ = some (.bool a0_0) := (blk_cell BK159.out 0).trans rfl; have hcz30_1 : w29.cell? ⟨gb159, 1, none⟩ = some (.int .u32 a0_1) := (blk_cell BK159.out 1).trans rfl; have hcz30_2 : w29.cell? ⟨gb159, 2, none⟩ = some (.int .u32 a0_2) := (blk_cell BK159.out 2).trans rfl; have hcz30_3 : w29.cell? ⟨gb159, 3, none⟩ = some (.int .u32 a0_3) := (blk_cell BK159.out 3).trans rfl; have hcz30_4 : w29.cell? ⟨gb159, 4, none⟩ = some (.int .u32 a0_4) := (blk_cell BK159.out 4).trans rfl; have hcz30_5 : w29.cell? ⟨gb159, 5, none⟩ = some (.int .u32 a0_5) := (blk_cell BK159.out 5).trans rfl; have hcz30_6 : w29.cell? ⟨gb159, 6, none⟩ = some (.int .u32 a0_6) := (blk_cell BK159.out 6).trans rfl; have hcz30_7 : w29.cell? ⟨gb159, 7, none⟩ = some (.bool a0_7) := (blk_cell BK159.out 7).trans rfl; have hcz30_8 : w29.cell? ⟨gb159, 8, none⟩ = some (.int .u32 a0_8) := (blk_cell BK159.out 8).trans rfl; have hcz30_9 : w29.cell? ⟨gb159, 9, none⟩ = some (.int .u32 a0_9) := (blk_cell BK159.out 9).trans rfl; have hcz30_10 : w29.cell? ⟨gb159, 10, none⟩ = some (.int .u32 a0_10) := (blk_cell BK159.out 10).trans rfl; have hcz30_11 : w29.cell? ⟨gb159, 11, none⟩ = some (.int .u32 a0_11) := (blk_cell BK159.out 11).trans rfl; have hcz30_12 : w29.cell? ⟨gb159, 12, none⟩ = some (.int .u32 a0_12) := (blk_cell BK159.out 12).trans rfl; have hcz30_13 : w29.cell? ⟨gb159, 13, none⟩ = some (.int .u32 a0_13) := (blk_cell BK159.out 13).trans rfl; have hcz30_14 : w29.cell? ⟨gb159, 14, none⟩ = some (.int .i64 a0_14) := (blk_cell BK159.out 14).trans rfl; have hfz30_0 := blk_frozen BK159.out 0; have hfz30_1 := blk_frozen BK159.out 1; have hfz30_2 := blk_frozen BK159.out 2; have hfz30_3 := blk_frozen BK159.out 3; have hfz30_4 := blk_frozen BK159.out 4; have hfz30_5 := blk_frozen BK159.out 5; have hfz30_6 := blk_frozen BK159.out 6; have hfz30_7 := blk_frozen BK159.out 7; have hfz30_8 := blk_frozen BK159.out 8; have hfz30_9 := blk_frozen BK159.out 9; have hfz30_10 := blk_frozen BK159.out 10; have hfz30_11 := blk_frozen BK159.out 11; have hfz30_12 := blk_frozen BK159.out 12; have hfz30_13 := blk_frozen BK159.out 13; have hfz30_14 := blk_frozen BK159.out 14) | ((with_reducible refine gate_callee (f := 49) rfl ?_); refine goesL_ (some 5) rfl rfl Try.func49 (by kernel_rfl) rfl #[.agg #[.bool a0_0, .int .u32 a0_1, .int .u32 a0_2, .int .u32 a0_3, .int .u32 a0_4, .int .u32 a0_5, .int .u32 a0_6]] rfl (by (try simp only [List.map_toArray, List.map_cons, List.map_nil]); first | done | rfl | (simp only [List.length_drop, List.length_take]; rfl)) ?_; (with_reducible refine (impl_ValidWide.calls a0_0 a0_1 a0_2 a0_3 a0_4 a0_5 a0_6 false _ A2.out).mono ?_); rintro e w31 ⟨rfl, hb⟩; refine ⟨_, rfl, ?_⟩; have n0_ := Aside0.mk (blk_below (g := gb159) (o := .cells #[.bool a0_0, .int .u32 a0_1, .int .u32 a0_2, .int .u32 a0_3, .int .u32 a0_4, .int .u32 a0_5, .int .u32 a0_6, .bool a0_7, .int .u32 a0_8, .int .u32 a0_9, .int .u32 a0_10, .int .u32 a0_11, .int .u32 a0_12, .int .u32 a0_13, .int .i64 a0_14] 47 (0, 0)) (by (with_reducible repeat (first | refine blk_drewN ?_ _ | refine blk_drew ?_ | refine blk_alloc ?_ _)); exact BK159.out) hb); have n1_ := Aside0.mk (below_step (by repeat (first | (with_reducible first | exact HB.out | apply below_alloc | apply pw_below_drewN | apply below_drew1 | refine below_set ?_ GE159.out) | exact HB.out)) hb); clear BK159; clear HB; have BK159 := n0_; have HB := n1_; clear n0_ n1_; (try clear hb); (try clear hb2); (try clear hk); (try clear hi)))
    go_ret
    exact ⟨by first | rfl | (simp [errW_none, errW_some] <;> rfl) | (simp [*, errW_none, errW_some] <;> rfl), by repeat (first | (with_reducible first | exact HB.out | apply below_alloc | apply pw_below_drewN | apply below_drew1 | refine below_set ?_ GE159.out) | exact HB.out)⟩

/-! ### laws_FnExactValidPart: function 8 -/
def laws_FnExactValidPart.f (k : Nat) (a0_0 : Bool) (a0_1 : Int) (a0_2 : Int) (a0_3 : Int) (a0_4 : Int) (a0_5 : Int) (a0_6 : Int) (a0_7 : Bool) (a0_8 : Int) (a0_9 : Int) (a0_10 : Int) (a0_11 : Int) (a0_12 : Int) (a0_13 : Int) (a0_14 : Int) : Option (Bool) := (laws_toPart.f k a0_0 a0_1 a0_2 a0_3 a0_4 a0_5 a0_6 a0_7 a0_8 a0_9 a0_10 a0_11 a0_12 a0_13 a0_14).bind fun bt165 => ((spec_ValidPart.f k bt165.1 bt165.2.1 bt165.2.2.1 bt165.2.2.2.1 bt165.2.2.2.2.1 bt165.2.2.2.2.2.1 bt165.2.2.2.2.2.2.1 bt165.2.2.2.2.2.2.2.1 bt165.2.2.2.2.2.2.2.2.1 bt165.2.2.2.2.2.2.2.2.2.1 bt165.2.2.2.2.2.2.2.2.2.2.1 bt165.2.2.2.2.2.2.2.2.2.2.2.1 bt165.2.2.2.2.2.2.2.2.2.2.2.2.1 bt165.2.2.2.2.2.2.2.2.2.2.2.2.2.1 bt165.2.2.2.2.2.2.2.2.2.2.2.2.2.2).bind fun t180 => ((laws_toPart.f k a0_0 a0_1 a0_2 a0_3 a0_4 a0_5 a0_6 a0_7 a0_8 a0_9 a0_10 a0_11 a0_12 a0_13 a0_14).bind fun bt181 => ((impl_ValidPart.f k bt181.1 bt181.2.1 bt181.2.2.1 bt181.2.2.2.1 bt181.2.2.2.2.1 bt181.2.2.2.2.2.1 bt181.2.2.2.2.2.2.1 bt181.2.2.2.2.2.2.2.1 bt181.2.2.2.2.2.2.2.2.1 bt181.2.2.2.2.2.2.2.2.2.1 bt181.2.2.2.2.2.2.2.2.2.2.1 bt181.2.2.2.2.2.2.2.2.2.2.2.1 bt181.2.2.2.2.2.2.2.2.2.2.2.2.1 bt181.2.2.2.2.2.2.2.2.2.2.2.2.2.1 bt181.2.2.2.2.2.2.2.2.2.2.2.2.2.2).bind fun t196 => (if (t196 != t180) = true then (some false) else (some true)))))
theorem laws_FnExactValidPart.mono : ∀ a0 a1 a2 a3 a4 a5 a6 a7 a8 a9 a10 a11 a12 a13 a14 k, LeO (laws_FnExactValidPart.f k a0 a1 a2 a3 a4 a5 a6 a7 a8 a9 a10 a11 a12 a13 a14) (laws_FnExactValidPart.f (k + 1) a0 a1 a2 a3 a4 a5 a6 a7 a8 a9 a10 a11 a12 a13 a14) := by
  intro a0 a1 a2 a3 a4 a5 a6 a7 a8 a9 a10 a11 a12 a13 a14 k
  unfold laws_FnExactValidPart.f
  repeat' first
      | (with_reducible exact impl_ValidPart.mono _ _ _ _ _ _ _ _ _ _ _ _ _ _ _ _)
      | (with_reducible exact laws_toPart.mono _ _ _ _ _ _ _ _ _ _ _ _ _ _ _ _)
      | (with_reducible exact spec_ValidPart.mono _ _ _ _ _ _ _ _ _ _ _ _ _ _ _ _)
      | (with_reducible exact LeO.refl _)
      | (with_reducible exact LeO.none _)
      | (with_reducible refine LeO.ite ?_ ?_)
      | (with_reducible refine LeO.bind ?_ (fun _ => ?_))
      | exact impl_ValidPart.mono _ _ _ _ _ _ _ _ _ _ _ _ _ _ _ _
      | exact laws_toPart.mono _ _ _ _ _ _ _ _ _ _ _ _ _ _ _ _
      | exact spec_ValidPart.mono _ _ _ _ _ _ _ _ _ _ _ _ _ _ _ _
      | exact LeO.none _
      | refine LeO.ite ?_ ?_
      | refine LeO.bind ?_ (fun _ => ?_)
set_option maxHeartbeats 8000000 in
set_option maxRecDepth 100000 in
theorem laws_FnExactValidPart.calls (k : Nat) (a0_0 : Bool) (a0_1 : Int) (a0_2 : Int) (a0_3 : Int) (a0_4 : Int) (a0_5 : Int) (a0_6 : Int) (a0_7 : Bool) (a0_8 : Int) (a0_9 : Int) (a0_10 : Int) (a0_11 : Int) (a0_12 : Int) (a0_13 : Int) (a0_14 : Int) (r : Bool) (w : World) (h : laws_FnExactValidPart.f k a0_0 a0_1 a0_2 a0_3 a0_4 a0_5 a0_6 a0_7 a0_8 a0_9 a0_10 a0_11 a0_12 a0_13 a0_14 = some r) :
    Calls Try.prog 8 #[.agg #[.bool a0_0, .int .u32 a0_1, .int .u32 a0_2, .int .u32 a0_3, .int .u32 a0_4, .int .u32 a0_5, .int .u32 a0_6, .bool a0_7, .int .u32 a0_8, .int .u32 a0_9, .int .u32 a0_10, .int .u32 a0_11, .int .u32 a0_12, .int .u32 a0_13, .int .i64 a0_14]] w fun e w' => e = .returned (.bool r) ∧ Below w.heap.size w w' := by
  have hu43 := Try.underlying43
  have HB := Aside0.mk (Below.refl w.heap.size w)
  have H : ((laws_toPart.f k a0_0 a0_1 a0_2 a0_3 a0_4 a0_5 a0_6 a0_7 a0_8 a0_9 a0_10 a0_11 a0_12 a0_13 a0_14).bind fun bt165 => ((spec_ValidPart.f k bt165.1 bt165.2.1 bt165.2.2.1 bt165.2.2.2.1 bt165.2.2.2.2.1 bt165.2.2.2.2.2.1 bt165.2.2.2.2.2.2.1 bt165.2.2.2.2.2.2.2.1 bt165.2.2.2.2.2.2.2.2.1 bt165.2.2.2.2.2.2.2.2.2.1 bt165.2.2.2.2.2.2.2.2.2.2.1 bt165.2.2.2.2.2.2.2.2.2.2.2.1 bt165.2.2.2.2.2.2.2.2.2.2.2.2.1 bt165.2.2.2.2.2.2.2.2.2.2.2.2.2.1 bt165.2.2.2.2.2.2.2.2.2.2.2.2.2.2).bind fun t180 => ((laws_toPart.f k a0_0 a0_1 a0_2 a0_3 a0_4 a0_5 a0_6 a0_7 a0_8 a0_9 a0_10 a0_11 a0_12 a0_13 a0_14).bind fun bt181 => ((impl_ValidPart.f k bt181.1 bt181.2.1 bt181.2.2.1 bt181.2.2.2.1 bt181.2.2.2.2.1 bt181.2.2.2.2.2.1 bt181.2.2.2.2.2.2.1 bt181.2.2.2.2.2.2.2.1 bt181.2.2.2.2.2.2.2.2.1 bt181.2.2.2.2.2.2.2.2.2.1 bt181.2.2.2.2.2.2.2.2.2.2.1 bt181.2.2.2.2.2.2.2.2.2.2.2.1 bt181.2.2.2.2.2.2.2.2.2.2.2.2.1 bt181.2.2.2.2.2.2.2.2.2.2.2.2.2.1 bt181.2.2.2.2.2.2.2.2.2.2.2.2.2.2).bind fun t196 => (if (t196 != t180) = true then (some false) else (some true)))))) = some r := h
  clear h
  replace H := Option.bind_eq_some_iff.mp H
  obtain ⟨⟨t165, t166, t167, t168, t169, t170, t171, t172, t173, t174, t175, t176, t177, t178, t179⟩, A20, H⟩ := H
  replace H : ((spec_ValidPart.f k t165 t166 t167 t168 t169 t170 t171 t172 t173 t174 t175 t176 t177 t178 t179).bind fun t180 => ((laws_toPart.f k a0_0 a0_1 a0_2 a0_3 a0_4 a0_5 a0_6 a0_7 a0_8 a0_9 a0_10 a0_11 a0_12 a0_13 a0_14).bind fun bt181 => ((impl_ValidPart.f k bt181.1 bt181.2.1 bt181.2.2.1 bt181.2.2.2.1 bt181.2.2.2.2.1 bt181.2.2.2.2.2.1 bt181.2.2.2.2.2.2.1 bt181.2.2.2.2.2.2.2.1 bt181.2.2.2.2.2.2.2.2.1 bt181.2.2.2.2.2.2.2.2.2.1 bt181.2.2.2.2.2.2.2.2.2.2.1 bt181.2.2.2.2.2.2.2.2.2.2.2.1 bt181.2.2.2.2.2.2.2.2.2.2.2.2.1 bt181.2.2.2.2.2.2.2.2.2.2.2.2.2.1 bt181.2.2.2.2.2.2.2.2.2.2.2.2.2.2).bind fun t196 => (if (t196 != t180) = true then (some false) else (some true))))) = some r := H
  have A2 := Aside0.mk A20
  clear A20
  replace H := Option.bind_eq_some_iff.mp H
  obtain ⟨t180, A30, H⟩ := H
  replace H : ((laws_toPart.f k a0_0 a0_1 a0_2 a0_3 a0_4 a0_5 a0_6 a0_7 a0_8 a0_9 a0_10 a0_11 a0_12 a0_13 a0_14).bind fun bt181 => ((impl_ValidPart.f k bt181.1 bt181.2.1 bt181.2.2.1 bt181.2.2.2.1 bt181.2.2.2.2.1 bt181.2.2.2.2.2.1 bt181.2.2.2.2.2.2.1 bt181.2.2.2.2.2.2.2.1 bt181.2.2.2.2.2.2.2.2.1 bt181.2.2.2.2.2.2.2.2.2.1 bt181.2.2.2.2.2.2.2.2.2.2.1 bt181.2.2.2.2.2.2.2.2.2.2.2.1 bt181.2.2.2.2.2.2.2.2.2.2.2.2.1 bt181.2.2.2.2.2.2.2.2.2.2.2.2.2.1 bt181.2.2.2.2.2.2.2.2.2.2.2.2.2.2).bind fun t196 => (if (t196 != t180) = true then (some false) else (some true)))) = some r := H
  have A3 := Aside0.mk A30
  clear A30
  replace H := Option.bind_eq_some_iff.mp H
  obtain ⟨⟨t181, t182, t183, t184, t185, t186, t187, t188, t189, t190, t191, t192, t193, t194, t195⟩, A40, H⟩ := H
  replace H : ((impl_ValidPart.f k t181 t182 t183 t184 t185 t186 t187 t188 t189 t190 t191 t192 t193 t194 t195).bind fun t196 => (if (t196 != t180) = true then (some false) else (some true))) = some r := H
  have A4 := Aside0.mk A40
  clear A40
  replace H := Option.bind_eq_some_iff.mp H
  obtain ⟨t196, A50, H⟩ := H
  replace H : (if (t196 != t180) = true then (some false) else (some true)) = some r := H
  have A5 := Aside0.mk A50
  clear A50
  by_cases c6 : (t196 != t180) = true
  · rw [if_pos c6] at H
    have c6b0 : (t196 != t180) = true := c6
    (try (have c6b1 : decide (t196 = t180) = false := by simpa using c6))
    (try (have c6b2 : (t196 == t180) = false := by simpa using c6))
    (try (have c6b3 : ¬ (t196 = t180) := by simpa using c6))
    clear c6
    obtain rfl := Option.some.inj H
    go_enter Try.func8, Try.ntmps8
    go_wp2_with (first | ((with_reducible refine gate_dst (N := 1) rfl ?_); refine box_event ?hg (N := 1) ?hd (cs := #[.bool a0_0, .int .u32 a0_1, .int .u32 a0_2, .int .u32 a0_3, .int .u32 a0_4, .int .u32 a0_5, .int .u32 a0_6, .bool a0_7, .int .u32 a0_8, .int .u32 a0_9, .int .u32 a0_10, .int .u32 a0_11, .int .u32 a0_12, .int .u32 a0_13, .int .i64 a0_14]) (t := 43) ?hr ?_; (case hd => rfl); (case hg => rfl); (case hr => first | (go_simp; done) | (go_simp; rfl)); intro gb164 hg w7 hbox hb; have n0_ := Aside0.mk (below_step (by repeat (first | (with_reducible first | exact HB.out | apply below_alloc | apply pw_below_drewN | apply below_drew1) | exact HB.out)) hb); have n1_ := Aside0.mk (hbox); have n2_ := Aside0.mk ((by rw [hg]; exact (below_size (by repeat (first | (with_reducible first | exact HB.out | apply below_alloc | apply pw_below_drewN | apply below_drew1) | exact HB.out))) : w.heap.size ≤ gb164)); have n3_ := Aside0.mk ((by rw [hg]; exact (below_size (by repeat (first | (with_reducible first | exact HB.out | apply below_alloc | apply pw_below_drewN | apply below_drew1) | exact HB.out))) : w.heap.size ≤ gb164)); clear HB; have HB := n0_; have BK164 := n1_; have GW164 := n2_; have GE164 := n3_; clear n0_ n1_ n2_ n3_; clear hb hbox hg; have hcz8_0 : w7.cell? ⟨gb164, 0, none⟩ = some (.bool a0_0) := (blk_cell BK164.out 0).trans rfl; have hcz8_1 : w7.cell? ⟨gb164, 1, none⟩ = some (.int .u32 a0_1) := (blk_cell BK164.out 1).trans rfl; have hcz8_2 : w7.cell? ⟨gb164, 2, none⟩ = some (.int .u32 a0_2) := (blk_cell BK164.out 2).trans rfl; have hcz8_3 : w7.cell? ⟨gb164, 3, none⟩ = some (.int .u32 a0_3) := (blk_cell BK164.out 3).trans rfl; have hcz8_4 : w7.cell? ⟨gb164, 4, none⟩ = some (.int .u32 a0_4) := (blk_cell BK164.out 4).trans rfl; have hcz8_5 : w7.cell? ⟨gb164, 5, none⟩ = some (.int .u32 a0_5) := (blk_cell BK164.out 5).trans rfl; have hcz8_6 : w7.cell? ⟨gb164, 6, none⟩ = some (.int .u32 a0_6) := (blk_cell BK164.out 6).trans rfl; have hcz8_7 : w7.cell? ⟨gb164, 7, none⟩ = some (.bool a0_7) := (blk_cell BK164.out 7).trans rfl; have hcz8_8 : w7.cell? ⟨gb164, 8, none⟩ = some (.int .u32 a0_8) := (blk_cell BK164.out 8).trans rfl; have hcz8_9 : w7.cell? ⟨gb164, 9, none⟩ = some (.int .u32 a0_9) := (blk_cell BK164.out 9).trans rfl; have hcz8_10 : w7.cell? ⟨gb164, 10, none⟩ = some (.int .u32 a0_10) := (blk_cell BK164.out 10).trans rfl; have hcz8_11 : w7.cell? ⟨gb164, 11, none⟩ = some (.int .u32 a0_11) := (blk_cell BK164.out 11).trans rfl; have hcz8_12 : w7.cell? ⟨gb164, 12, none⟩ = some (.int .u32 a0_12) := (blk_cell BK164.out 12).trans rfl; have hcz8_13 : w7.cell? ⟨gb164, 13, none⟩ = some (.int .u32 a0_13) := (blk_cell BK164.out 13).trans rfl; have hcz8_14 : w7.cell? ⟨gb164, 14, none⟩ = some (.int .i64 a0_14) := (blk_cell BK164.out 14).trans rfl; have hfz8_0 := blk_frozen BK164.out 0; have hfz8_1 := blk_frozen BK164.out 1; have hfz8_2 := blk_frozen BK164.out 2; have hfz8_3 := blk_frozen BK164.out 3; have hfz8_4 := blk_frozen BK164.out 4; have hfz8_5 := blk_frozen BK164.out 5; have hfz8_6 := blk_frozen BK164.out 6; have hfz8_7 := blk_frozen BK164.out 7; have hfz8_8 := blk_frozen BK164.out 8; have hfz8_9 := blk_frozen BK164.out 9; have hfz8_10 := blk_frozen BK164.out 10; have hfz8_11 := blk_frozen BK164.out 11; have hfz8_12 := blk_frozen BK164.out 12; have hfz8_13 := blk_frozen BK164.out 13; have hfz8_14 := blk_frozen BK164.out 14) | ((with_reducible refine gate_callee (f := 28) rfl ?_); refine goesL_ (some 6) rfl rfl Try.func28 (by kernel_rfl) rfl #[.agg #[.bool a0_0, .int .u32 a0_1, .int .u32 a0_2, .int .u32 a0_3, .int .u32 a0_4, .int .u32 a0_5, .int .u32 a0_6, .bool a0_7, .int .u32 a0_8, .int .u32 a0_9, .int .u32 a0_10, .int .u32 a0_11, .int .u32 a0_12, .int .u32 a0_13, .int .i64 a0_14]] rfl (by (try simp only [List.map_toArray, List.map_cons, List.map_nil]); first | done | rfl | (simp only [List.length_drop, List.length_take]; rfl)) ?_; (with_reducible refine (laws_toPart.calls k a0_0 a0_1 a0_2 a0_3 a0_4 a0_5 a0_6 a0_7 a0_8 a0_9 a0_10 a0_11 a0_12 a0_13 a0_14 t165 t166 t167 t168 t169 t170 t171 t172 t173 t174 t175 t176 t177 t178 t179 _ A2.out).mono ?_); rintro e w9 ⟨rfl, hb⟩; refine ⟨_, rfl, ?_⟩; have n0_ := Aside0.mk (blk_below (g := gb164) (o := .cells #[.bool a0_0, .int .u32 a0_1, .int .u32 a0_2, .int .u32 a0_3, .int .u32 a0_4, .int .u32 a0_5, .int .u32 a0_6, .bool a0_7, .int .u32 a0_8, .int .u32 a0_9, .int .u32 a0_10, .int .u32 a0_11, .int .u32 a0_12, .int .u32 a0_13, .int .i64 a0_14] 43 (0, 0)) (by (with_reducible repeat (first | refine blk_drewN ?_ _ | refine blk_drew ?_ | refine blk_alloc ?_ _)); exact BK164.out) hb); have n1_ := Aside0.mk (below_step (by repeat (first | (with_reducible first | exact HB.out | apply below_alloc | apply pw_below_drewN | apply below_drew1 | refine below_set ?_ GE164.out) | exact HB.out)) hb); clear BK164; clear HB; have BK164 := n0_; have HB := n1_; clear n0_ n1_; (try clear hb); (try clear hb2); (try clear hk); (try clear hi)) | ((with_reducible refine gate_callee (f := 27) rfl ?_); refine goesL_ (some 7) rfl rfl Try.func27 (by kernel_rfl) rfl #[.agg #[.bool t165, .int .u32 t166, .int .u32 t167, .int .u32 t168, .int .u32 t169, .int .u32 t170, .int .u32 t171, .bool t172, .int .u32 t173, .int .u32 t174, .int .u32 t175, .int .u32 t176, .int .u32 t177, .int .u32 t178, .int .i64 t179]] rfl (by (try simp only [List.map_toArray, List.map_cons, List.map_nil]); first | done | rfl | (simp only [List.length_drop, List.length_take]; rfl)) ?_; (with_reducible refine (spec_ValidPart.calls k t165 t166 t167 t168 t169 t170 t171 t172 t173 t174 t175 t176 t177 t178 t179 t180 _ A3.out).mono ?_); rintro e w10 ⟨rfl, hb⟩; refine ⟨_, rfl, ?_⟩; have n0_ := Aside0.mk (blk_below (g := gb164) (o := .cells #[.bool a0_0, .int .u32 a0_1, .int .u32 a0_2, .int .u32 a0_3, .int .u32 a0_4, .int .u32 a0_5, .int .u32 a0_6, .bool a0_7, .int .u32 a0_8, .int .u32 a0_9, .int .u32 a0_10, .int .u32 a0_11, .int .u32 a0_12, .int .u32 a0_13, .int .i64 a0_14] 43 (0, 0)) (by (with_reducible repeat (first | refine blk_drewN ?_ _ | refine blk_drew ?_ | refine blk_alloc ?_ _)); exact BK164.out) hb); have n1_ := Aside0.mk (below_step (by repeat (first | (with_reducible first | exact HB.out | apply below_alloc | apply pw_below_drewN | apply below_drew1 | refine below_set ?_ GE164.out) | exact HB.out)) hb); clear BK164; clear HB; have BK164 := n0_; have HB := n1_; clear n0_ n1_; (try clear hb); (try clear hb2); (try clear hk); (try clear hi); have hcz11_0 : w10.cell? ⟨gb164, 0, none⟩ = some (.bool a0_0) := (blk_cell BK164.out 0).trans rfl; have hcz11_1 : w10.cell? ⟨gb164, 1, none⟩ = some (.int .u32 a0_1) := (blk_cell BK164.out 1).trans rfl; have hcz11_2 : w10.cell? ⟨gb164, 2, none⟩ = some (.int .u32 a0_2) := (blk_cell BK164.out 2).trans rfl; have hcz11_3 : w10.cell? ⟨gb164, 3, none⟩ = some (.int .u32 a0_3) := (blk_cell BK164.out 3).trans rfl; have hcz11_4 : w10.cell? ⟨gb164, 4, none⟩ = some (.int .u32 a0_4) := (blk_cell BK164.out 4).trans rfl; have hcz11_5 : w10.cell? ⟨gb164, 5, none⟩ = some (.int .u32 a0_5) := (blk_cell BK164.out 5).trans rfl; have hcz11_6 : w10.cell? ⟨gb164, 6, none⟩ = some (.int .u32 a0_6) := (blk_cell BK164.out 6).trans rfl; have hcz11_7 : w10.cell? ⟨gb164, 7, none⟩ = some (.bool a0_7) := (blk_cell BK164.out 7).trans rfl; have hcz11_8 : w10.cell? ⟨gb164, 8, none⟩ = some (.int .u32 a0_8) := (blk_cell BK164.out 8).trans rfl; have hcz11_9 : w10.cell? ⟨gb164, 9, none⟩ = some (.int .u32 a0_9) := (blk_cell BK164.out 9).trans rfl; have hcz11_10 : w10.cell? ⟨gb164, 10, none⟩ = some (.int .u32 a0_10) := (blk_cell BK164.out 10).trans rfl; have hcz11_11 : w10.cell? ⟨gb164, 11, none⟩ = some (.int .u32 a0_11) := (blk_cell BK164.out 11).trans rfl; have hcz11_12 : w10.cell? ⟨gb164, 12, none⟩ = some (.int .u32 a0_12) := (blk_cell BK164.out 12).trans rfl; have hcz11_13 : w10.cell? ⟨gb164, 13, none⟩ = some (.int .u32 a0_13) := (blk_cell BK164.out 13).trans rfl; have hcz11_14 : w10.cell? ⟨gb164, 14, none⟩ = some (.int .i64 a0_14) := (blk_cell BK164.out 14).trans rfl; have hfz11_0 := blk_frozen BK164.out 0; have hfz11_1 := blk_frozen BK164.out 1; have hfz11_2 := blk_frozen BK164.out 2; have hfz11_3 := blk_frozen BK164.out 3; have hfz11_4 := blk_frozen BK164.out 4; have hfz11_5 := blk_frozen BK164.out 5; have hfz11_6 := blk_frozen BK164.out 6; have hfz11_7 := blk_frozen BK164.out 7; have hfz11_8 := blk_frozen BK164.out 8; have hfz11_9 := blk_frozen BK164.out 9; have hfz11_10 := blk_frozen BK164.out 10; have hfz11_11 := blk_frozen BK164.out 11; have hfz11_12 := blk_frozen BK164.out 12; have hfz11_13 := blk_frozen BK164.out 13; have hfz11_14 := blk_frozen BK164.out 14) | ((with_reducible refine gate_callee (f := 28) rfl ?_); refine goesL_ (some 9) rfl rfl Try.func28 (by kernel_rfl) rfl #[.agg #[.bool a0_0, .int .u32 a0_1, .int .u32 a0_2, .int .u32 a0_3, .int .u32 a0_4, .int .u32 a0_5, .int .u32 a0_6, .bool a0_7, .int .u32 a0_8, .int .u32 a0_9, .int .u32 a0_10, .int .u32 a0_11, .int .u32 a0_12, .int .u32 a0_13, .int .i64 a0_14]] rfl (by (try simp only [List.map_toArray, List.map_cons, List.map_nil]); first | done | rfl | (simp only [List.length_drop, List.length_take]; rfl)) ?_; (with_reducible refine (laws_toPart.calls k a0_0 a0_1 a0_2 a0_3 a0_4 a0_5 a0_6 a0_7 a0_8 a0_9 a0_10 a0_11 a0_12 a0_13 a0_14 t181 t182 t183 t184 t185 t186 t187 t188 t189 t190 t191 t192 t193 t194 t195 _ A4.out).mono ?_); rintro e w12 ⟨rfl, hb⟩; refine ⟨_, rfl, ?_⟩; have n0_ := Aside0.mk (blk_below (g := gb164) (o := .cells #[.bool a0_0, .int .u32 a0_1, .int .u32 a0_2, .int .u32 a0_3, .int .u32 a0_4, .int .u32 a0_5, .int .u32 a0_6, .bool a0_7, .int .u32 a0_8, .int .u32 a0_9, .int .u32 a0_10, .int .u32 a0_11, .int .u32 a0_12, .int .u32 a0_13, .int .i64 a0_14] 43 (0, 0)) (by (with_reducible repeat (first | refine blk_drewN ?_ _ | refine blk_drew ?_ | refine blk_alloc ?_ _)); exact BK164.out) hb); have n1_ := Aside0.mk (below_step (by repeat (first | (with_reducible first | exact HB.out | apply below_alloc | apply pw_below_drewN | apply below_drew1 | refine below_set ?_ GE164.out) | exact HB.out)) hb); clear BK164; clear HB; have BK164 := n0_; have HB := n1_; clear n0_ n1_; (try clear hb); (try clear hb2); (try clear hk); (try clear hi)) | ((with_reducible refine gate_callee (f := 29) rfl ?_); refine goesL_ (some 10) rfl rfl Try.func29 (by kernel_rfl) rfl #[.agg #[.bool t181, .int .u32 t182, .int .u32 t183, .int .u32 t184, .int .u32 t185, .int .u32 t186, .int .u32 t187, .bool t188, .int .u32 t189, .int .u32 t190, .int .u32 t191, .int .u32 t192, .int .u32 t193, .int .u32 t194, .int .i64 t195]] rfl (by (try simp only [List.map_toArray, List.map_cons, List.map_nil]); first | done | rfl | (simp only [List.length_drop, List.length_take]; rfl)) ?_; (with_reducible refine (impl_ValidPart.calls k t181 t182 t183 t184 t185 t186 t187 t188 t189 t190 t191 t192 t193 t194 t195 t196 _ A5.out).mono ?_); rintro e w13 ⟨rfl, hb⟩; refine ⟨_, rfl, ?_⟩; have n0_ := Aside0.mk (blk_below (g := gb164) (o := .cells #[.bool a0_0, .int .u32 a0_1, .int .u32 a0_2, .int .u32 a0_3, .int .u32 a0_4, .int .u32 a0_5, .int .u32 a0_6, .bool a0_7, .int .u32 a0_8, .int .u32 a0_9, .int .u32 a0_10, .int .u32 a0_11, .int .u32 a0_12, .int .u32 a0_13, .int .i64 a0_14] 43 (0, 0)) (by (with_reducible repeat (first | refine blk_drewN ?_ _ | refine blk_drew ?_ | refine blk_alloc ?_ _)); exact BK164.out) hb); have n1_ := Aside0.mk (below_step (by repeat (first | (with_reducible first | exact HB.out | apply below_alloc | apply pw_below_drewN | apply below_drew1 | refine below_set ?_ GE164.out) | exact HB.out)) hb); clear BK164; clear HB; have BK164 := n0_; have HB := n1_; clear n0_ n1_; (try clear hb); (try clear hb2); (try clear hk); (try clear hi)))
    go_ret
    exact ⟨by first | rfl | (simp [errW_none, errW_some] <;> rfl) | (simp [*, errW_none, errW_some] <;> rfl), by repeat (first | (with_reducible first | exact HB.out | apply below_alloc | apply pw_below_drewN | apply below_drew1 | refine below_set ?_ GE164.out) | exact HB.out)⟩
  · rw [if_neg c6] at H
    have c6b0 : (t196 != t180) = false := by simpa using c6
    (try (have c6b1 : decide (t196 = t180) = true := by simpa using c6))
    (try (have c6b2 : (t196 == t180) = true := by simpa using c6))
    clear c6
    obtain rfl := Option.some.inj H
    go_enter Try.func8, Try.ntmps8
    go_wp2_with (first | ((with_reducible refine gate_dst (N := 1) rfl ?_); refine box_event ?hg (N := 1) ?hd (cs := #[.bool a0_0, .int .u32 a0_1, .int .u32 a0_2, .int .u32 a0_3, .int .u32 a0_4, .int .u32 a0_5, .int .u32 a0_6, .bool a0_7, .int .u32 a0_8, .int .u32 a0_9, .int .u32 a0_10, .int .u32 a0_11, .int .u32 a0_12, .int .u32 a0_13, .int .i64 a0_14]) (t := 43) ?hr ?_; (case hd => rfl); (case hg => rfl); (case hr => first | (go_simp; done) | (go_simp; rfl)); intro gb164 hg w14 hbox hb; have n0_ := Aside0.mk (below_step (by repeat (first | (with_reducible first | exact HB.out | apply below_alloc | apply pw_below_drewN | apply below_drew1) | exact HB.out)) hb); have n1_ := Aside0.mk (hbox); have n2_ := Aside0.mk ((by rw [hg]; exact (below_size (by repeat (first | (with_reducible first | exact HB.out | apply below_alloc | apply pw_below_drewN | apply below_drew1) | exact HB.out))) : w.heap.size ≤ gb164)); have n3_ := Aside0.mk ((by rw [hg]; exact (below_size (by repeat (first | (with_reducible first | exact HB.out | apply below_alloc | apply pw_below_drewN | apply below_drew1) | exact HB.out))) : w.heap.size ≤ gb164)); clear HB; have HB := n0_; have BK164 := n1_; have GW164 := n2_; have GE164 := n3_; clear n0_ n1_ n2_ n3_; clear hb hbox hg; have hcz15_0 : w14.cell? ⟨gb164, 0, none⟩ = some (.bool a0_0) := (blk_cell BK164.out 0).trans rfl; have hcz15_1 : w14.cell? ⟨gb164, 1, none⟩ = some (.int .u32 a0_1) := (blk_cell BK164.out 1).trans rfl; have hcz15_2 : w14.cell? ⟨gb164, 2, none⟩ = some (.int .u32 a0_2) := (blk_cell BK164.out 2).trans rfl; have hcz15_3 : w14.cell? ⟨gb164, 3, none⟩ = some (.int .u32 a0_3) := (blk_cell BK164.out 3).trans rfl; have hcz15_4 : w14.cell? ⟨gb164, 4, none⟩ = some (.int .u32 a0_4) := (blk_cell BK164.out 4).trans rfl; have hcz15_5 : w14.cell? ⟨gb164, 5, none⟩ = some (.int .u32 a0_5) := (blk_cell BK164.out 5).trans rfl; have hcz15_6 : w14.cell? ⟨gb164, 6, none⟩ = some (.int .u32 a0_6) := (blk_cell BK164.out 6).trans rfl; have hcz15_7 : w14.cell? ⟨gb164, 7, none⟩ = some (.bool a0_7) := (blk_cell BK164.out 7).trans rfl; have hcz15_8 : w14.cell? ⟨gb164, 8, none⟩ = some (.int .u32 a0_8) := (blk_cell BK164.out 8).trans rfl; have hcz15_9 : w14.cell? ⟨gb164, 9, none⟩ = some (.int .u32 a0_9) := (blk_cell BK164.out 9).trans rfl; have hcz15_10 : w14.cell? ⟨gb164, 10, none⟩ = some (.int .u32 a0_10) := (blk_cell BK164.out 10).trans rfl; have hcz15_11 : w14.cell? ⟨gb164, 11, none⟩ = some (.int .u32 a0_11) := (blk_cell BK164.out 11).trans rfl; have hcz15_12 : w14.cell? ⟨gb164, 12, none⟩ = some (.int .u32 a0_12) := (blk_cell BK164.out 12).trans rfl; have hcz15_13 : w14.cell? ⟨gb164, 13, none⟩ = some (.int .u32 a0_13) := (blk_cell BK164.out 13).trans rfl; have hcz15_14 : w14.cell? ⟨gb164, 14, none⟩ = some (.int .i64 a0_14) := (blk_cell BK164.out 14).trans rfl; have hfz15_0 := blk_frozen BK164.out 0; have hfz15_1 := blk_frozen BK164.out 1; have hfz15_2 := blk_frozen BK164.out 2; have hfz15_3 := blk_frozen BK164.out 3; have hfz15_4 := blk_frozen BK164.out 4; have hfz15_5 := blk_frozen BK164.out 5; have hfz15_6 := blk_frozen BK164.out 6; have hfz15_7 := blk_frozen BK164.out 7; have hfz15_8 := blk_frozen BK164.out 8; have hfz15_9 := blk_frozen BK164.out 9; have hfz15_10 := blk_frozen BK164.out 10; have hfz15_11 := blk_frozen BK164.out 11; have hfz15_12 := blk_frozen BK164.out 12; have hfz15_13 := blk_frozen BK164.out 13; have hfz15_14 := blk_frozen BK164.out 14) | ((with_reducible refine gate_callee (f := 28) rfl ?_); refine goesL_ (some 6) rfl rfl Try.func28 (by kernel_rfl) rfl #[.agg #[.bool a0_0, .int .u32 a0_1, .int .u32 a0_2, .int .u32 a0_3, .int .u32 a0_4, .int .u32 a0_5, .int .u32 a0_6, .bool a0_7, .int .u32 a0_8, .int .u32 a0_9, .int .u32 a0_10, .int .u32 a0_11, .int .u32 a0_12, .int .u32 a0_13, .int .i64 a0_14]] rfl (by (try simp only [List.map_toArray, List.map_cons, List.map_nil]); first | done | rfl | (simp only [List.length_drop, List.length_take]; rfl)) ?_; (with_reducible refine (laws_toPart.calls k a0_0 a0_1 a0_2 a0_3 a0_4 a0_5 a0_6 a0_7 a0_8 a0_9 a0_10 a0_11 a0_12 a0_13 a0_14 t165 t166 t167 t168 t169 t170 t171 t172 t173 t174 t175 t176 t177 t178 t179 _ A2.out).mono ?_); rintro e w16 ⟨rfl, hb⟩; refine ⟨_, rfl, ?_⟩; have n0_ := Aside0.mk (blk_below (g := gb164) (o := .cells #[.bool a0_0, .int .u32 a0_1, .int .u32 a0_2, .int .u32 a0_3, .int .u32 a0_4, .int .u32 a0_5, .int .u32 a0_6, .bool a0_7, .int .u32 a0_8, .int .u32 a0_9, .int .u32 a0_10, .int .u32 a0_11, .int .u32 a0_12, .int .u32 a0_13, .int .i64 a0_14] 43 (0, 0)) (by (with_reducible repeat (first | refine blk_drewN ?_ _ | refine blk_drew ?_ | refine blk_alloc ?_ _)); exact BK164.out) hb); have n1_ := Aside0.mk (below_step (by repeat (first | (with_reducible first | exact HB.out | apply below_alloc | apply pw_below_drewN | apply below_drew1 | refine below_set ?_ GE164.out) | exact HB.out)) hb); clear BK164; clear HB; have BK164 := n0_; have HB := n1_; clear n0_ n1_; (try clear hb); (try clear hb2); (try clear hk); (try clear hi)) | ((with_reducible refine gate_callee (f := 27) rfl ?_); refine goesL_ (some 7) rfl rfl Try.func27 (by kernel_rfl) rfl #[.agg #[.bool t165, .int .u32 t166, .int .u32 t167, .int .u32 t168, .int .u32 t169, .int .u32 t170, .int .u32 t171, .bool t172, .int .u32 t173, .int .u32 t174, .int .u32 t175, .int .u32 t176, .int .u32 t177, .int .u32 t178, .int .i64 t179]] rfl (by (try simp only [List.map_toArray, List.map_cons, List.map_nil]); first | done | rfl | (simp only [List.length_drop, List.length_take]; rfl)) ?_; (with_reducible refine (spec_ValidPart.calls k t165 t166 t167 t168 t169 t170 t171 t172 t173 t174 t175 t176 t177 t178 t179 t180 _ A3.out).mono ?_); rintro e w17 ⟨rfl, hb⟩; refine ⟨_, rfl, ?_⟩; have n0_ := Aside0.mk (blk_below (g := gb164) (o := .cells #[.bool a0_0, .int .u32 a0_1, .int .u32 a0_2, .int .u32 a0_3, .int .u32 a0_4, .int .u32 a0_5, .int .u32 a0_6, .bool a0_7, .int .u32 a0_8, .int .u32 a0_9, .int .u32 a0_10, .int .u32 a0_11, .int .u32 a0_12, .int .u32 a0_13, .int .i64 a0_14] 43 (0, 0)) (by (with_reducible repeat (first | refine blk_drewN ?_ _ | refine blk_drew ?_ | refine blk_alloc ?_ _)); exact BK164.out) hb); have n1_ := Aside0.mk (below_step (by repeat (first | (with_reducible first | exact HB.out | apply below_alloc | apply pw_below_drewN | apply below_drew1 | refine below_set ?_ GE164.out) | exact HB.out)) hb); clear BK164; clear HB; have BK164 := n0_; have HB := n1_; clear n0_ n1_; (try clear hb); (try clear hb2); (try clear hk); (try clear hi); have hcz18_0 : w17.cell? ⟨gb164, 0, none⟩ = some (.bool a0_0) := (blk_cell BK164.out 0).trans rfl; have hcz18_1 : w17.cell? ⟨gb164, 1, none⟩ = some (.int .u32 a0_1) := (blk_cell BK164.out 1).trans rfl; have hcz18_2 : w17.cell? ⟨gb164, 2, none⟩ = some (.int .u32 a0_2) := (blk_cell BK164.out 2).trans rfl; have hcz18_3 : w17.cell? ⟨gb164, 3, none⟩ = some (.int .u32 a0_3) := (blk_cell BK164.out 3).trans rfl; have hcz18_4 : w17.cell? ⟨gb164, 4, none⟩ = some (.int .u32 a0_4) := (blk_cell BK164.out 4).trans rfl; have hcz18_5 : w17.cell? ⟨gb164, 5, none⟩ = some (.int .u32 a0_5) := (blk_cell BK164.out 5).trans rfl; have hcz18_6 : w17.cell? ⟨gb164, 6, none⟩ = some (.int .u32 a0_6) := (blk_cell BK164.out 6).trans rfl; have hcz18_7 : w17.cell? ⟨gb164, 7, none⟩ = some (.bool a0_7) := (blk_cell BK164.out 7).trans rfl; have hcz18_8 : w17.cell? ⟨gb164, 8, none⟩ = some (.int .u32 a0_8) := (blk_cell BK164.out 8).trans rfl; have hcz18_9 : w17.cell? ⟨gb164, 9, none⟩ = some (.int .u32 a0_9) := (blk_cell BK164.out 9).trans rfl; have hcz18_10 : w17.cell? ⟨gb164, 10, none⟩ = some (.int .u32 a0_10) := (blk_cell BK164.out 10).trans rfl; have hcz18_11 : w17.cell? ⟨gb164, 11, none⟩ = some (.int .u32 a0_11) := (blk_cell BK164.out 11).trans rfl; have hcz18_12 : w17.cell? ⟨gb164, 12, none⟩ = some (.int .u32 a0_12) := (blk_cell BK164.out 12).trans rfl; have hcz18_13 : w17.cell? ⟨gb164, 13, none⟩ = some (.int .u32 a0_13) := (blk_cell BK164.out 13).trans rfl; have hcz18_14 : w17.cell? ⟨gb164, 14, none⟩ = some (.int .i64 a0_14) := (blk_cell BK164.out 14).trans rfl; have hfz18_0 := blk_frozen BK164.out 0; have hfz18_1 := blk_frozen BK164.out 1; have hfz18_2 := blk_frozen BK164.out 2; have hfz18_3 := blk_frozen BK164.out 3; have hfz18_4 := blk_frozen BK164.out 4; have hfz18_5 := blk_frozen BK164.out 5; have hfz18_6 := blk_frozen BK164.out 6; have hfz18_7 := blk_frozen BK164.out 7; have hfz18_8 := blk_frozen BK164.out 8; have hfz18_9 := blk_frozen BK164.out 9; have hfz18_10 := blk_frozen BK164.out 10; have hfz18_11 := blk_frozen BK164.out 11; have hfz18_12 := blk_frozen BK164.out 12; have hfz18_13 := blk_frozen BK164.out 13; have hfz18_14 := blk_frozen BK164.out 14) | ((with_reducible refine gate_callee (f := 28) rfl ?_); refine goesL_ (some 9) rfl rfl Try.func28 (by kernel_rfl) rfl #[.agg #[.bool a0_0, .int .u32 a0_1, .int .u32 a0_2, .int .u32 a0_3, .int .u32 a0_4, .int .u32 a0_5, .int .u32 a0_6, .bool a0_7, .int .u32 a0_8, .int .u32 a0_9, .int .u32 a0_10, .int .u32 a0_11, .int .u32 a0_12, .int .u32 a0_13, .int .i64 a0_14]] rfl (by (try simp only [List.map_toArray, List.map_cons, List.map_nil]); first | done | rfl | (simp only [List.length_drop, List.length_take]; rfl)) ?_; (with_reducible refine (laws_toPart.calls k a0_0 a0_1 a0_2 a0_3 a0_4 a0_5 a0_6 a0_7 a0_8 a0_9 a0_10 a0_11 a0_12 a0_13 a0_14 t181 t182 t183 t184 t185 t186 t187 t188 t189 t190 t191 t192 t193 t194 t195 _ A4.out).mono ?_); rintro e w19 ⟨rfl, hb⟩; refine ⟨_, rfl, ?_⟩; have n0_ := Aside0.mk (blk_below (g := gb164) (o := .cells #[.bool a0_0, .int .u32 a0_1, .int .u32 a0_2, .int .u32 a0_3, .int .u32 a0_4, .int .u32 a0_5, .int .u32 a0_6, .bool a0_7, .int .u32 a0_8, .int .u32 a0_9, .int .u32 a0_10, .int .u32 a0_11, .int .u32 a0_12, .int .u32 a0_13, .int .i64 a0_14] 43 (0, 0)) (by (with_reducible repeat (first | refine blk_drewN ?_ _ | refine blk_drew ?_ | refine blk_alloc ?_ _)); exact BK164.out) hb); have n1_ := Aside0.mk (below_step (by repeat (first | (with_reducible first | exact HB.out | apply below_alloc | apply pw_below_drewN | apply below_drew1 | refine below_set ?_ GE164.out) | exact HB.out)) hb); clear BK164; clear HB; have BK164 := n0_; have HB := n1_; clear n0_ n1_; (try clear hb); (try clear hb2); (try clear hk); (try clear hi)) | ((with_reducible refine gate_callee (f := 29) rfl ?_); refine goesL_ (some 10) rfl rfl Try.func29 (by kernel_rfl) rfl #[.agg #[.bool t181, .int .u32 t182, .int .u32 t183, .int .u32 t184, .int .u32 t185, .int .u32 t186, .int .u32 t187, .bool t188, .int .u32 t189, .int .u32 t190, .int .u32 t191, .int .u32 t192, .int .u32 t193, .int .u32 t194, .int .i64 t195]] rfl (by (try simp only [List.map_toArray, List.map_cons, List.map_nil]); first | done | rfl | (simp only [List.length_drop, List.length_take]; rfl)) ?_; (with_reducible refine (impl_ValidPart.calls k t181 t182 t183 t184 t185 t186 t187 t188 t189 t190 t191 t192 t193 t194 t195 t196 _ A5.out).mono ?_); rintro e w20 ⟨rfl, hb⟩; refine ⟨_, rfl, ?_⟩; have n0_ := Aside0.mk (blk_below (g := gb164) (o := .cells #[.bool a0_0, .int .u32 a0_1, .int .u32 a0_2, .int .u32 a0_3, .int .u32 a0_4, .int .u32 a0_5, .int .u32 a0_6, .bool a0_7, .int .u32 a0_8, .int .u32 a0_9, .int .u32 a0_10, .int .u32 a0_11, .int .u32 a0_12, .int .u32 a0_13, .int .i64 a0_14] 43 (0, 0)) (by (with_reducible repeat (first | refine blk_drewN ?_ _ | refine blk_drew ?_ | refine blk_alloc ?_ _)); exact BK164.out) hb); have n1_ := Aside0.mk (below_step (by repeat (first | (with_reducible first | exact HB.out | apply below_alloc | apply pw_below_drewN | apply below_drew1 | refine below_set ?_ GE164.out) | exact HB.out)) hb); clear BK164; clear HB; have BK164 := n0_; have HB := n1_; clear n0_ n1_; (try clear hb); (try clear hb2); (try clear hk); (try clear hi)))
    go_ret
    exact ⟨by first | rfl | (simp [errW_none, errW_some] <;> rfl) | (simp [*, errW_none, errW_some] <;> rfl), by repeat (first | (with_reducible first | exact HB.out | apply below_alloc | apply pw_below_drewN | apply below_drew1 | refine below_set ?_ GE164.out) | exact HB.out)⟩

/-! ### the law's arguments -/
def WF39 (x : S39) : Prop := (0 ≤ x.f0 ∧ x.f0 ≤ 4294967295) ∧ (0 ≤ x.f1 ∧ x.f1 ≤ 4294967295) ∧ (0 ≤ x.f2 ∧ x.f2 ≤ 4294967295) ∧ (0 ≤ x.f3 ∧ x.f3 ≤ 4294967295) ∧ (0 ≤ x.f4 ∧ x.f4 ≤ 4294967295) ∧ (0 ≤ x.f5 ∧ x.f5 ≤ 4294967295)
theorem op39 {H : Type} {enc : TypeId × Value → H} {w : World} : Opens enc Try.prog w 39 k39 WF39 := by
  intro fuel cs x h hz
  obtain ⟨xs, m, rfl, rfl, hl, hn, hf⟩ := DataW.trod_array Try.underlying39 h
  have hl0 : cs.length = 6 := hl.trans (by kernel_rfl)
  have hn0 : xs.length = 6 := hn
  obtain ⟨x0, xs0, rfl, hn1⟩ := consX_of hn0
  obtain ⟨x1, xs1, rfl, hn2⟩ := consX_of hn1
  obtain ⟨x2, xs2, rfl, hn3⟩ := consX_of hn2
  obtain ⟨x3, xs3, rfl, hn4⟩ := consX_of hn3
  obtain ⟨x4, xs4, rfl, hn5⟩ := consX_of hn4
  obtain ⟨x5, xs5, rfl, hn6⟩ := consX_of hn5
  obtain rfl := List.eq_nil_of_length_eq_zero hn6
  obtain ⟨c0, cs0, rfl, hl1⟩ := cons_of hl0
  obtain ⟨c1, cs1, rfl, hl2⟩ := cons_of hl1
  obtain ⟨c2, cs2, rfl, hl3⟩ := cons_of hl2
  obtain ⟨c3, cs3, rfl, hl4⟩ := cons_of hl3
  obtain ⟨c4, cs4, rfl, hl5⟩ := cons_of hl4
  obtain ⟨c5, cs5, rfl, hl6⟩ := cons_of hl5
  obtain rfl := List.eq_nil_of_length_eq_zero hl6
  have h0 : DataW.trod enc Try.prog w 0 (fun _ => true) true m 38 [c0] = some x0 := by
    have h_ := hf 0 (by omega)
    rw [show Try.prog.cellsOf 38 = 1 from by kernel_rfl] at h_
    exact h_
  obtain ⟨a0, hk0, hw0⟩ := (opens_int Try.underlying38 wfB_u32) _ _ _ h0 (weight_array Try.underlying39 hz (j := 0) rfl)
  have h1 : DataW.trod enc Try.prog w 0 (fun _ => true) true m 38 [c1] = some x1 := by
    have h_ := hf 1 (by omega)
    rw [show Try.prog.cellsOf 38 = 1 from by kernel_rfl] at h_
    exact h_
  obtain ⟨a1, hk1, hw1⟩ := (opens_int Try.underlying38 wfB_u32) _ _ _ h1 (weight_array Try.underlying39 hz (j := 1) rfl)
  have h2 : DataW.trod enc Try.prog w 0 (fun _ => true) true m 38 [c2] = some x2 := by
    have h_ := hf 2 (by omega)
    rw [show Try.prog.cellsOf 38 = 1 from by kernel_rfl] at h_
    exact h_
  obtain ⟨a2, hk2, hw2⟩ := (opens_int Try.underlying38 wfB_u32) _ _ _ h2 (weight_array Try.underlying39 hz (j := 2) rfl)
  have h3 : DataW.trod enc Try.prog w 0 (fun _ => true) true m 38 [c3] = some x3 := by
    have h_ := hf 3 (by omega)
    rw [show Try.prog.cellsOf 38 = 1 from by kernel_rfl] at h_
    exact h_
  obtain ⟨a3, hk3, hw3⟩ := (opens_int Try.underlying38 wfB_u32) _ _ _ h3 (weight_array Try.underlying39 hz (j := 3) rfl)
  have h4 : DataW.trod enc Try.prog w 0 (fun _ => true) true m 38 [c4] = some x4 := by
    have h_ := hf 4 (by omega)
    rw [show Try.prog.cellsOf 38 = 1 from by kernel_rfl] at h_
    exact h_
  obtain ⟨a4, hk4, hw4⟩ := (opens_int Try.underlying38 wfB_u32) _ _ _ h4 (weight_array Try.underlying39 hz (j := 4) rfl)
  have h5 : DataW.trod enc Try.prog w 0 (fun _ => true) true m 38 [c5] = some x5 := by
    have h_ := hf 5 (by omega)
    rw [show Try.prog.cellsOf 38 = 1 from by kernel_rfl] at h_
    exact h_
  obtain ⟨a5, hk5, hw5⟩ := (opens_int Try.underlying38 wfB_u32) _ _ _ h5 (weight_array Try.underlying39 hz (j := 5) rfl)
  exact ⟨⟨a0, a1, a2, a3, a4, a5⟩, ⟨[c0], [c1, c2, c3, c4, c5], rfl, hk0, ⟨[c1], [c2, c3, c4, c5], rfl, hk1, ⟨[c2], [c3, c4, c5], rfl, hk2, ⟨[c3], [c4, c5], rfl, hk3, ⟨[c4], [c5], rfl, hk4, hk5⟩⟩⟩⟩⟩, ⟨hw0, hw1, hw2, hw3, hw4, hw5⟩⟩
def WF41 (x : S41) : Prop := (True) ∧ (WF39 x.f1)
theorem op41 {H : Type} {enc : TypeId × Value → H} {w : World} : Opens enc Try.prog w 41 k41 WF41 := by
  intro fuel cs x h hz
  obtain ⟨xs, m, rfl, rfl, hl, hn, hf⟩ := DataW.trod_struct Try.underlying41 h
  have hl0 : cs.length = 7 := hl.trans (by kernel_rfl)
  have hn0 : xs.length = 2 := hn
  obtain ⟨x0, xs0, rfl, hn1⟩ := consX_of hn0
  obtain ⟨x1, xs1, rfl, hn2⟩ := consX_of hn1
  obtain rfl := List.eq_nil_of_length_eq_zero hn2
  obtain ⟨c0, cs0, rfl, hl1⟩ := cons_of hl0
  obtain ⟨c1, cs1, rfl, hl2⟩ := cons_of hl1
  obtain ⟨c2, cs2, rfl, hl3⟩ := cons_of hl2
  obtain ⟨c3, cs3, rfl, hl4⟩ := cons_of hl3
  obtain ⟨c4, cs4, rfl, hl5⟩ := cons_of hl4
  obtain ⟨c5, cs5, rfl, hl6⟩ := cons_of hl5
  obtain ⟨c6, cs6, rfl, hl7⟩ := cons_of hl6
  obtain rfl := List.eq_nil_of_length_eq_zero hl7
  have h0 : DataW.trod enc Try.prog w 0 (fun _ => true) true m 4 [c0] = some x0 := by
    have h_ : DataW.trod enc Try.prog w 0 (fun _ => true) true m 4 (([c0, c1, c2, c3, c4, c5, c6].drop 0).take (Try.prog.cellsOf 4)) = [x0, x1][0]? := by
      have h2_ := hf 0 _ rfl
      exact h2_
    rw [show Try.prog.cellsOf 4 = 1 from by kernel_rfl] at h_
    exact h_
  obtain ⟨a0, hk0, hw0⟩ := (opens_bool Try.underlying4) _ _ _ h0 (weight_struct Try.underlying41 hz (j := 0) rfl rfl)
  have h1 : DataW.trod enc Try.prog w 0 (fun _ => true) true m 39 [c1, c2, c3, c4, c5, c6] = some x1 := by
    have h_ : DataW.trod enc Try.prog w 0 (fun _ => true) true m 39 (([c0, c1, c2, c3, c4, c5, c6].drop 1).take (Try.prog.cellsOf 39)) = [x0, x1][1]? := by
      have h2_ := hf 1 _ rfl
      exact h2_
    rw [show Try.prog.cellsOf 39 = 6 from by kernel_rfl] at h_
    exact h_
  obtain ⟨a1, hk1, hw1⟩ := op39 _ _ _ h1 (weight_struct Try.underlying41 hz (j := 1) rfl rfl)
  exact ⟨⟨a0, a1⟩, ⟨[c0], [c1, c2, c3, c4, c5, c6], rfl, hk0, hk1⟩, ⟨hw0, hw1⟩⟩
def WF43 (x : S43) : Prop := (WF41 x.f0) ∧ (WF41 x.f1) ∧ ((-9223372036854775808) ≤ x.f2 ∧ x.f2 ≤ 9223372036854775807)
theorem op43 {H : Type} {enc : TypeId × Value → H} {w : World} : Opens enc Try.prog w 43 k43 WF43 := by
  intro fuel cs x h hz
  obtain ⟨xs, m, rfl, rfl, hl, hn, hf⟩ := DataW.trod_struct Try.underlying43 h
  have hl0 : cs.length = 15 := hl.trans (by kernel_rfl)
  have hn0 : xs.length = 3 := hn
  obtain ⟨x0, xs0, rfl, hn1⟩ := consX_of hn0
  obtain ⟨x1, xs1, rfl, hn2⟩ := consX_of hn1
  obtain ⟨x2, xs2, rfl, hn3⟩ := consX_of hn2
  obtain rfl := List.eq_nil_of_length_eq_zero hn3
  obtain ⟨c0, cs0, rfl, hl1⟩ := cons_of hl0
  obtain ⟨c1, cs1, rfl, hl2⟩ := cons_of hl1
  obtain ⟨c2, cs2, rfl, hl3⟩ := cons_of hl2
  obtain ⟨c3, cs3, rfl, hl4⟩ := cons_of hl3
  obtain ⟨c4, cs4, rfl, hl5⟩ := cons_of hl4
  obtain ⟨c5, cs5, rfl, hl6⟩ := cons_of hl5
  obtain ⟨c6, cs6, rfl, hl7⟩ := cons_of hl6
  obtain ⟨c7, cs7, rfl, hl8⟩ := cons_of hl7
  obtain ⟨c8, cs8, rfl, hl9⟩ := cons_of hl8
  obtain ⟨c9, cs9, rfl, hl10⟩ := cons_of hl9
  obtain ⟨c10, cs10, rfl, hl11⟩ := cons_of hl10
  obtain ⟨c11, cs11, rfl, hl12⟩ := cons_of hl11
  obtain ⟨c12, cs12, rfl, hl13⟩ := cons_of hl12
  obtain ⟨c13, cs13, rfl, hl14⟩ := cons_of hl13
  obtain ⟨c14, cs14, rfl, hl15⟩ := cons_of hl14
  obtain rfl := List.eq_nil_of_length_eq_zero hl15
  have h0 : DataW.trod enc Try.prog w 0 (fun _ => true) true m 41 [c0, c1, c2, c3, c4, c5, c6] = some x0 := by
    have h_ : DataW.trod enc Try.prog w 0 (fun _ => true) true m 41 (([c0, c1, c2, c3, c4, c5, c6, c7, c8, c9, c10, c11, c12, c13, c14].drop 0).take (Try.prog.cellsOf 41)) = [x0, x1, x2][0]? := by
      have h2_ := hf 0 _ rfl
      exact h2_
    rw [show Try.prog.cellsOf 41 = 7 from by kernel_rfl] at h_
    exact h_
  obtain ⟨a0, hk0, hw0⟩ := op41 _ _ _ h0 (weight_struct Try.underlying43 hz (j := 0) rfl rfl)
  have h1 : DataW.trod enc Try.prog w 0 (fun _ => true) true m 41 [c7, c8, c9, c10, c11, c12, c13] = some x1 := by
    have h_ : DataW.trod enc Try.prog w 0 (fun _ => true) true m 41 (([c0, c1, c2, c3, c4, c5, c6, c7, c8, c9, c10, c11, c12, c13, c14].drop 7).take (Try.prog.cellsOf 41)) = [x0, x1, x2][1]? := by
      have h2_ := hf 1 _ rfl
      exact h2_
    rw [show Try.prog.cellsOf 41 = 7 from by kernel_rfl] at h_
    exact h_
  obtain ⟨a1, hk1, hw1⟩ := op41 _ _ _ h1 (weight_struct Try.underlying43 hz (j := 1) rfl rfl)
  have h2 : DataW.trod enc Try.prog w 0 (fun _ => true) true m 2 [c14] = some x2 := by
    have h_ : DataW.trod enc Try.prog w 0 (fun _ => true) true m 2 (([c0, c1, c2, c3, c4, c5, c6, c7, c8, c9, c10, c11, c12, c13, c14].drop 14).take (Try.prog.cellsOf 2)) = [x0, x1, x2][2]? := by
      have h2_ := hf 2 _ rfl
      exact h2_
    rw [show Try.prog.cellsOf 2 = 1 from by kernel_rfl] at h_
    exact h_
  obtain ⟨a2, hk2, hw2⟩ := (opens_int Try.underlying2 wfB_i64) _ _ _ h2 (weight_struct Try.underlying43 hz (j := 2) rfl rfl)
  exact ⟨⟨a0, a1, a2⟩, ⟨[c0, c1, c2, c3, c4, c5, c6], [c7, c8, c9, c10, c11, c12, c13, c14], rfl, hk0, ⟨[c7, c8, c9, c10, c11, c12, c13], [c14], rfl, hk1, hk2⟩⟩, ⟨hw0, hw1, hw2⟩⟩
/-- THE ONE PURE STATEMENT of laws_FnExactValidPart. -/
def laws_FnExactValidPart.Pure : Prop := ∀ (x0 : S43), (WF43 x0) → ∃ k, laws_FnExactValidPart.f k x0.f0.f0 x0.f0.f1.f0 x0.f0.f1.f1 x0.f0.f1.f2 x0.f0.f1.f3 x0.f0.f1.f4 x0.f0.f1.f5 x0.f1.f0 x0.f1.f1.f0 x0.f1.f1.f1 x0.f1.f1.f2 x0.f1.f1.f3 x0.f1.f1.f4 x0.f1.f1.f5 x0.f2 = some true
theorem laws_FnExactValidPart.walk (P_ : laws_FnExactValidPart.Pure) (w : World) (x0 : S43) (hw0 : WF43 x0) :
    Calls Try.prog 8 #[.agg #[.bool x0.f0.f0, .int .u32 x0.f0.f1.f0, .int .u32 x0.f0.f1.f1, .int .u32 x0.f0.f1.f2, .int .u32 x0.f0.f1.f3, .int .u32 x0.f0.f1.f4, .int .u32 x0.f0.f1.f5, .bool x0.f1.f0, .int .u32 x0.f1.f1.f0, .int .u32 x0.f1.f1.f1, .int .u32 x0.f1.f1.f2, .int .u32 x0.f1.f1.f3, .int .u32 x0.f1.f1.f4, .int .u32 x0.f1.f1.f5, .int .i64 x0.f2]] w fun e w' => e = .returned (.bool true) ∧ Below w.heap.size w w' := by
  obtain ⟨k, h⟩ := P_ x0 hw0
  refine (laws_FnExactValidPart.calls k x0.f0.f0 x0.f0.f1.f0 x0.f0.f1.f1 x0.f0.f1.f2 x0.f0.f1.f3 x0.f0.f1.f4 x0.f0.f1.f5 x0.f1.f0 x0.f1.f1.f0 x0.f1.f1.f1 x0.f1.f1.f2 x0.f1.f1.f3 x0.f1.f1.f4 x0.f1.f1.f5 x0.f2 true w  h).mono ?_
  rintro e w' ⟨rfl, hd⟩
  exact ⟨rfl, hd⟩

end Go.Proofs.Ytpijklhonoekbaa.MFnExactValidPart
