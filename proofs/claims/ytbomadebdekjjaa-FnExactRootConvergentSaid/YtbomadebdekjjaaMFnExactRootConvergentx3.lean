/- Functions of the program as Lean functions, and the proof that the code comes to what they say. Written by a program of this session (myprint.py). -/
import Derived.Test.YtbomadebdekjjaaMFnExactRootConvergentx0
namespace Go.Proofs.Ytbomadebdekjjaa.MFnExactRootConvergent
open Go.RowKit Go.Proofs.Ytbomadebdekjjaa.MOpen Go.Proofs.YtbomadebdekjjaaW.PrintWords Go.Proofs.YtbomadebdekjjaaW.PrintLast Go.Proofs.YtbomadebdekjjaaW.PrintMore
attribute [local go_sem] max2_int min2_int max_two min_two max_three min_three max_four min_four   -- for this text's walks alone
set_option linter.unusedVariables false
set_option linter.unusedSimpArgs false

/-! ### laws_eqUint32A6: function 50 -/
def laws_eqUint32A6.l0 : Nat → Int → S23 → S23 → Option (Bool)
  | 0, _, _, _ => none
  | k + 1, x5, x102000, x103000 => if x5 < 6 then (if 0 ≤ x5 then (if (rd [x102000.f0, x102000.f1, x102000.f2, x102000.f3, x102000.f4, x102000.f5] x5) = (rd [x103000.f0, x103000.f1, x103000.f2, x103000.f3, x103000.f4, x103000.f5] x5) then (laws_eqUint32A6.l0 k (wrap64 (x5 + 1)) x102000 x103000) else (some false)) else (none)) else (some true)
def laws_eqUint32A6.f (k : Nat) (a0 : S23) (a1 : S23) : Option (Bool) := laws_eqUint32A6.l0 k 0 a0 a1
theorem laws_eqUint32A6.mono_l : ∀ k, (∀ y0 y1 y2, LeO (laws_eqUint32A6.l0 k y0 y1 y2) (laws_eqUint32A6.l0 (k + 1) y0 y1 y2))
  | 0 => fun _ _ _ r h => by simp [laws_eqUint32A6.l0] at h
  | k + 1 => by
    have ih0 := laws_eqUint32A6.mono_l k
    · intro y0 y1 y2
      unfold laws_eqUint32A6.l0
      repeat' first
      | (with_reducible exact ih0 _ _ _)
      | (with_reducible exact LeO.refl _)
      | (with_reducible exact LeO.none _)
      | (with_reducible refine LeO.ite ?_ ?_)
      | (with_reducible refine LeO.bind ?_ (fun _ => ?_))
      | exact ih0 _ _ _
      | exact LeO.none _
      | refine LeO.ite ?_ ?_
      | refine LeO.bind ?_ (fun _ => ?_)
theorem laws_eqUint32A6.mono : ∀ a0 a1 k, LeO (laws_eqUint32A6.f k a0 a1) (laws_eqUint32A6.f (k + 1) a0 a1) := by
  intro a0 a1 k
  have ih0 := laws_eqUint32A6.mono_l k
  unfold laws_eqUint32A6.f
  repeat' first
      | (with_reducible exact ih0 _ _ _)
      | (with_reducible exact LeO.refl _)
      | (with_reducible exact LeO.none _)
      | (with_reducible refine LeO.ite ?_ ?_)
      | (with_reducible refine LeO.bind ?_ (fun _ => ?_))
      | exact ih0 _ _ _
      | exact LeO.none _
      | refine LeO.ite ?_ ?_
      | refine LeO.bind ?_ (fun _ => ?_)
set_option maxHeartbeats 8000000 in
set_option maxRecDepth 100000 in
theorem laws_eqUint32A6.calls (k : Nat) (a0 : S23) (a1 : S23) (r : Bool) (w : World) (h : laws_eqUint32A6.f k a0 a1 = some r) :
    Calls Try.prog 50 #[.agg #[.int .u32 a0.f0, .int .u32 a0.f1, .int .u32 a0.f2, .int .u32 a0.f3, .int .u32 a0.f4, .int .u32 a0.f5], .agg #[.int .u32 a1.f0, .int .u32 a1.f1, .int .u32 a1.f2, .int .u32 a1.f3, .int .u32 a1.f4, .int .u32 a1.f5]] w fun e w' => e = .returned (.bool r) ∧ Below w.heap.size w w' := by
  have hu23 := Try.underlying23
  have HB := Aside0.mk (Below.refl w.heap.size w)
  have H : (laws_eqUint32A6.l0 k 0 a0 a1) = some r := h
  clear h
  have H' := Aside0.mk H
  clear H
  go_enter Try.func50, Try.ntmps50
  go_wp2_with (first | ((with_reducible refine gate_dst (N := 2) rfl ?_); refine box_event ?hg (N := 2) ?hd (cs := #[.int .u32 a0.f0, .int .u32 a0.f1, .int .u32 a0.f2, .int .u32 a0.f3, .int .u32 a0.f4, .int .u32 a0.f5]) (t := 23) ?hr ?_; (case hd => rfl); (case hg => rfl); (case hr => first | (go_simp; done) | (go_simp; rfl)); intro gb101 hg w3 hbox hb; have n0_ := Aside0.mk (below_step (by repeat (first | (with_reducible first | exact HB.out | apply below_alloc | apply pw_below_drewN | apply below_drew1) | exact HB.out)) hb); have n1_ := Aside0.mk (hbox); have n2_ := Aside0.mk ((by rw [hg]; exact (below_size (by repeat (first | (with_reducible first | exact HB.out | apply below_alloc | apply pw_below_drewN | apply below_drew1) | exact HB.out))) : w.heap.size ≤ gb101)); have n3_ := Aside0.mk ((by rw [hg]; exact (below_size (by repeat (first | (with_reducible first | exact HB.out | apply below_alloc | apply pw_below_drewN | apply below_drew1) | exact HB.out))) : w.heap.size ≤ gb101)); clear HB; have HB := n0_; have BK101 := n1_; have GW101 := n2_; have GE101 := n3_; clear n0_ n1_ n2_ n3_; clear hb hbox hg) | ((with_reducible refine gate_dst (N := 3) rfl ?_); refine box_event ?hg (N := 3) ?hd (cs := #[.int .u32 a1.f0, .int .u32 a1.f1, .int .u32 a1.f2, .int .u32 a1.f3, .int .u32 a1.f4, .int .u32 a1.f5]) (t := 23) ?hr ?_; (case hd => rfl); (case hg => rfl); (case hr => first | (go_simp; done) | (go_simp; rfl)); intro gb102 hg w4 hbox hb; have n0_ := Aside0.mk (blk_below (g := gb101) (o := .cells #[.int .u32 a0.f0, .int .u32 a0.f1, .int .u32 a0.f2, .int .u32 a0.f3, .int .u32 a0.f4, .int .u32 a0.f5] 23 (0, 0)) (by (with_reducible repeat (first | refine blk_drewN ?_ _ | refine blk_drew ?_ | refine blk_alloc ?_ _)); exact BK101.out) hb); have n1_ := Aside0.mk (below_step (by repeat (first | (with_reducible first | exact HB.out | apply below_alloc | apply pw_below_drewN | apply below_drew1 | refine below_set ?_ GE101.out) | exact HB.out)) hb); have n2_ := Aside0.mk (hbox); have n3_ := Aside0.mk ((by rw [hg]; exact (below_size (by repeat (first | (with_reducible first | exact HB.out | apply below_alloc | apply pw_below_drewN | apply below_drew1 | refine below_set ?_ GE101.out) | exact HB.out))) : w.heap.size ≤ gb102)); have n4_ := Aside0.mk ((by rw [hg]; exact (below_size (by repeat (first | (with_reducible first | exact HB.out | apply below_alloc | apply pw_below_drewN | apply below_drew1 | refine below_set ?_ GE101.out) | exact HB.out))) : w.heap.size ≤ gb102)); have n5_ := Aside0.mk ((by rw [hg]; exact Nat.ne_of_lt (blk_lt (g := gb101) (o := .cells #[.int .u32 a0.f0, .int .u32 a0.f1, .int .u32 a0.f2, .int .u32 a0.f3, .int .u32 a0.f4, .int .u32 a0.f5] 23 (0, 0)) (by (with_reducible repeat (first | refine blk_drewN ?_ _ | refine blk_drew ?_ | refine blk_alloc ?_ _)); exact BK101.out)) : gb101 ≠ gb102)); have n6_ := Aside0.mk ((by rw [hg]; exact Nat.ne_of_gt (blk_lt (g := gb101) (o := .cells #[.int .u32 a0.f0, .int .u32 a0.f1, .int .u32 a0.f2, .int .u32 a0.f3, .int .u32 a0.f4, .int .u32 a0.f5] 23 (0, 0)) (by (with_reducible repeat (first | refine blk_drewN ?_ _ | refine blk_drew ?_ | refine blk_alloc ?_ _)); exact BK101.out)) : gb102 ≠ gb101)); clear BK101 HB; have BK101 := n0_; have HB := n1_; have BK102 := n2_; have GW102 := n3_; have GE102 := n4_; have NB101_102 := n5_; have NB102_101 := n6_; clear n0_ n1_ n2_ n3_ n4_ n5_ n6_; clear hb hbox hg) | go_quiet (fail))
  go_loopg [5] k (fun kq v5 w' => ∃ (x5_1 : Int), v5 = .int .i64 x5_1 ∧ Aside0 (laws_eqUint32A6.l0 kq x5_1 a0 a1 = some r) ∧ Aside0 (kq ≤ k) ∧ Aside0 (w'.heap[gb101]? = some (.cells #[.int .u32 a0.f0, .int .u32 a0.f1, .int .u32 a0.f2, .int .u32 a0.f3, .int .u32 a0.f4, .int .u32 a0.f5] 23 (0, 0))) ∧ Aside0 (w'.heap[gb102]? = some (.cells #[.int .u32 a1.f0, .int .u32 a1.f1, .int .u32 a1.f2, .int .u32 a1.f3, .int .u32 a1.f4, .int .u32 a1.f5] 23 (0, 0))) ∧ Aside0 (Below w.heap.size w w'))
  case atStart => exact ⟨(0), (by first | rfl | (simp; done) | (simp [*]; done)), H', ⟨Nat.le_refl _⟩, ⟨by (with_reducible repeat (first | refine blk_drewN ?_ _ | refine blk_drew ?_ | refine blk_alloc ?_ _)); exact BK101.out⟩, ⟨by (with_reducible repeat (first | refine blk_drewN ?_ _ | refine blk_drew ?_ | refine blk_alloc ?_ _)); exact BK102.out⟩, ⟨by repeat (first | (with_reducible first | exact HB.out | apply below_alloc | apply pw_below_drewN | apply below_drew1 | refine below_set ?_ GE101.out | refine below_set ?_ GE102.out) | exact HB.out)⟩⟩
  case round =>
    clear H'
    try clear p2
    obtain ⟨x5_1, rfl, HA, HK1, BK101, BK102, HB⟩ := hrel
    cases gk with
    | zero => exact absurd HA.out (by simp [laws_eqUint32A6.l0])
    | succ k1 =>
      have H := HA.out
      clear HA
      simp only [laws_eqUint32A6.l0] at H
      by_cases c5 : x5_1 < 6
      · rw [if_pos c5] at H
        have c5b0 : decide (x5_1 < 6) = true := decide_eq_true c5
        clear c5
        by_cases c6 : 0 ≤ x5_1
        · rw [if_pos c6] at H
          have c6b0 : decide (0 ≤ x5_1) = true := decide_eq_true c6
          clear c6
          by_cases c7 : (rd [a0.f0, a0.f1, a0.f2, a0.f3, a0.f4, a0.f5] x5_1) = (rd [a1.f0, a1.f1, a1.f2, a1.f3, a1.f4, a1.f5] x5_1)
          · rw [if_pos c7] at H
            have c7b0 : ((rd [a0.f0, a0.f1, a0.f2, a0.f3, a0.f4, a0.f5] x5_1) == (rd [a1.f0, a1.f1, a1.f2, a1.f3, a1.f4, a1.f5] x5_1)) = true := beq_iff_eq.mpr c7
            have c7b1 : ((rd [a0.f0, a0.f1, a0.f2, a0.f3, a0.f4, a0.f5] x5_1) != (rd [a1.f0, a1.f1, a1.f2, a1.f3, a1.f4, a1.f5] x5_1)) = false := bne_eq_false_iff_eq.mpr c7
            clear c7
            have H' := Aside0.mk H
            clear H
            have hnb8 := NB101_102.out
            have hnc8 := NB102_101.out
            obtain ⟨hcz9_0, hcz9_1, hcz9_2, hcz9_3, hcz9_4, hcz9_5⟩ := cells6_ (show wr.heap[gb101]? = some (.cells #[.int .u32 a0.f0, .int .u32 a0.f1, .int .u32 a0.f2, .int .u32 a0.f3, .int .u32 a0.f4, .int .u32 a0.f5] 23 (0, 0)) from BK101.out)
            obtain ⟨hfz9_0, hfz9_1, hfz9_2, hfz9_3, hfz9_4, hfz9_5⟩ := frozen6_ BK101.out
            have HP103 := Aside0.mk (show 0 ≤ (x5_1 : Int) ∧ (x5_1 : Int) < 6 from ⟨of_decide_eq_true (by first | (with_reducible assumption) | assumption), of_decide_eq_true (by first | (with_reducible assumption) | assumption)⟩)
            have hx103_0 : wr.cell? ⟨gb101, (x5_1 : Int).toNat, none⟩ = some (.int .u32 (rd [a0.f0, a0.f1, a0.f2, a0.f3, a0.f4, a0.f5] x5_1)) := (by (rcases (show x5_1 = 0 ∨ x5_1 = 1 ∨ x5_1 = 2 ∨ x5_1 = 3 ∨ x5_1 = 4 ∨ x5_1 = 5 from (by have h_ := HP103.out; omega)) with rfl | rfl | rfl | rfl | rfl | rfl <;> first | exact (blk_cell BK101.out 0).trans rfl | exact (blk_cell BK101.out 1).trans rfl | exact (blk_cell BK101.out 2).trans rfl | exact (blk_cell BK101.out 3).trans rfl | exact (blk_cell BK101.out 4).trans rfl | exact (blk_cell BK101.out 5).trans rfl))
            have hx103_1 : wr.cell? ((⟨gb101, 0, none⟩ : Addr).add (x5_1 : Int).toNat) = some (.int .u32 (rd [a0.f0, a0.f1, a0.f2, a0.f3, a0.f4, a0.f5] x5_1)) := (congrArg _ (add_plain _ _)).trans hx103_0
            have hpz103 := eq_true HP103.out.1
            have hpy103 := eq_true HP103.out.2
            obtain ⟨hcz10_0, hcz10_1, hcz10_2, hcz10_3, hcz10_4, hcz10_5⟩ := cells6_ (show wr.heap[gb102]? = some (.cells #[.int .u32 a1.f0, .int .u32 a1.f1, .int .u32 a1.f2, .int .u32 a1.f3, .int .u32 a1.f4, .int .u32 a1.f5] 23 (0, 0)) from BK102.out)
            obtain ⟨hfz10_0, hfz10_1, hfz10_2, hfz10_3, hfz10_4, hfz10_5⟩ := frozen6_ BK102.out
            have HP104 := Aside0.mk (show 0 ≤ (x5_1 : Int) ∧ (x5_1 : Int) < 6 from ⟨of_decide_eq_true (by first | (with_reducible assumption) | assumption), of_decide_eq_true (by first | (with_reducible assumption) | assumption)⟩)
            have hx104_0 : wr.cell? ⟨gb102, (x5_1 : Int).toNat, none⟩ = some (.int .u32 (rd [a1.f0, a1.f1, a1.f2, a1.f3, a1.f4, a1.f5] x5_1)) := (by (rcases (show x5_1 = 0 ∨ x5_1 = 1 ∨ x5_1 = 2 ∨ x5_1 = 3 ∨ x5_1 = 4 ∨ x5_1 = 5 from (by have h_ := HP104.out; omega)) with rfl | rfl | rfl | rfl | rfl | rfl <;> first | exact (blk_cell BK102.out 0).trans rfl | exact (blk_cell BK102.out 1).trans rfl | exact (blk_cell BK102.out 2).trans rfl | exact (blk_cell BK102.out 3).trans rfl | exact (blk_cell BK102.out 4).trans rfl | exact (blk_cell BK102.out 5).trans rfl))
            have hx104_1 : wr.cell? ((⟨gb102, 0, none⟩ : Addr).add (x5_1 : Int).toNat) = some (.int .u32 (rd [a1.f0, a1.f1, a1.f2, a1.f3, a1.f4, a1.f5] x5_1)) := (congrArg _ (add_plain _ _)).trans hx104_0
            have hpz104 := eq_true HP104.out.1
            have hpy104 := eq_true HP104.out.2
            go_wp2
            repeat (go_quiet (fail); try go_wp2)
            go_roundg k1
            case measure => have := HK1.out; omega
            case rel => exact ⟨(wrap64 (x5_1 + 1)), (by first | rfl | (simp; done) | (simp [*]; done)), H', ⟨by have := HK1.out; omega⟩, ⟨by (with_reducible repeat (first | refine blk_drewN ?_ _ | refine blk_drew ?_ | refine blk_alloc ?_ _)); exact BK101.out⟩, ⟨by (with_reducible repeat (first | refine blk_drewN ?_ _ | refine blk_drew ?_ | refine blk_alloc ?_ _)); exact BK102.out⟩, ⟨by repeat (first | (with_reducible first | exact HB.out | apply below_alloc | apply pw_below_drewN | apply below_drew1 | refine below_set ?_ GE101.out | refine below_set ?_ GE102.out) | exact HB.out)⟩⟩
          · rw [if_neg c7] at H
            have c7b0 : ((rd [a0.f0, a0.f1, a0.f2, a0.f3, a0.f4, a0.f5] x5_1) == (rd [a1.f0, a1.f1, a1.f2, a1.f3, a1.f4, a1.f5] x5_1)) = false := beq_eq_false_iff_ne.mpr c7
            have c7b1 : ((rd [a0.f0, a0.f1, a0.f2, a0.f3, a0.f4, a0.f5] x5_1) != (rd [a1.f0, a1.f1, a1.f2, a1.f3, a1.f4, a1.f5] x5_1)) = true := bne_iff_ne.mpr c7
            obtain rfl := Option.some.inj H
            have hnb11 := NB101_102.out
            have hnc11 := NB102_101.out
            obtain ⟨hcz12_0, hcz12_1, hcz12_2, hcz12_3, hcz12_4, hcz12_5⟩ := cells6_ (show wr.heap[gb101]? = some (.cells #[.int .u32 a0.f0, .int .u32 a0.f1, .int .u32 a0.f2, .int .u32 a0.f3, .int .u32 a0.f4, .int .u32 a0.f5] 23 (0, 0)) from BK101.out)
            obtain ⟨hfz12_0, hfz12_1, hfz12_2, hfz12_3, hfz12_4, hfz12_5⟩ := frozen6_ BK101.out
            have HP103 := Aside0.mk (show 0 ≤ (x5_1 : Int) ∧ (x5_1 : Int) < 6 from ⟨of_decide_eq_true (by first | (with_reducible assumption) | assumption), of_decide_eq_true (by first | (with_reducible assumption) | assumption)⟩)
            have hx103_0 : wr.cell? ⟨gb101, (x5_1 : Int).toNat, none⟩ = some (.int .u32 (rd [a0.f0, a0.f1, a0.f2, a0.f3, a0.f4, a0.f5] x5_1)) := (by (rcases (show x5_1 = 0 ∨ x5_1 = 1 ∨ x5_1 = 2 ∨ x5_1 = 3 ∨ x5_1 = 4 ∨ x5_1 = 5 from (by have h_ := HP103.out; omega)) with rfl | rfl | rfl | rfl | rfl | rfl <;> first | exact (blk_cell BK101.out 0).trans rfl | exact (blk_cell BK101.out 1).trans rfl | exact (blk_cell BK101.out 2).trans rfl | exact (blk_cell BK101.out 3).trans rfl | exact (blk_cell BK101.out 4).trans rfl | exact (blk_cell BK101.out 5).trans rfl))
            have hx103_1 : wr.cell? ((⟨gb101, 0, none⟩ : Addr).add (x5_1 : Int).toNat) = some (.int .u32 (rd [a0.f0, a0.f1, a0.f2, a0.f3, a0.f4, a0.f5] x5_1)) := (congrArg _ (add_plain _ _)).trans hx103_0
            have hpz103 := eq_true HP103.out.1
            have hpy103 := eq_true HP103.out.2
            obtain ⟨hcz13_0, hcz13_1, hcz13_2, hcz13_3, hcz13_4, hcz13_5⟩ := cells6_ (show wr.heap[gb102]? = some (.cells #[.int .u32 a1.f0, .int .u32 a1.f1, .int .u32 a1.f2, .int .u32 a1.f3, .int .u32 a1.f4, .int .u32 a1.f5] 23 (0, 0)) from BK102.out)
            obtain ⟨hfz13_0, hfz13_1, hfz13_2, hfz13_3, hfz13_4, hfz13_5⟩ := frozen6_ BK102.out
            have HP104 := Aside0.mk (show 0 ≤ (x5_1 : Int) ∧ (x5_1 : Int) < 6 from ⟨of_decide_eq_true (by first | (with_reducible assumption) | assumption), of_decide_eq_true (by first | (with_reducible assumption) | assumption)⟩)
            have hx104_0 : wr.cell? ⟨gb102, (x5_1 : Int).toNat, none⟩ = some (.int .u32 (rd [a1.f0, a1.f1, a1.f2, a1.f3, a1.f4, a1.f5] x5_1)) := (by (rcases (show x5_1 = 0 ∨ x5_1 = 1 ∨ x5_1 = 2 ∨ x5_1 = 3 ∨ x5_1 = 4 ∨ x5_1 = 5 from (by have h_ := HP104.out; omega)) with rfl | rfl | rfl | rfl | rfl | rfl <;> first | exact (blk_cell BK102.out 0).trans rfl | exact (blk_cell BK102.out 1).trans rfl | exact (blk_cell BK102.out 2).trans rfl | exact (blk_cell BK102.out 3).trans rfl | exact (blk_cell BK102.out 4).trans rfl | exact (blk_cell BK102.out 5).trans rfl))
            have hx104_1 : wr.cell? ((⟨gb102, 0, none⟩ : Addr).add (x5_1 : Int).toNat) = some (.int .u32 (rd [a1.f0, a1.f1, a1.f2, a1.f3, a1.f4, a1.f5] x5_1)) := (congrArg _ (add_plain _ _)).trans hx104_0
            have hpz104 := eq_true HP104.out.1
            have hpy104 := eq_true HP104.out.2
            go_wp2
            repeat (go_quiet (fail); try go_wp2)
            go_ret
            exact ⟨by first | rfl | (simp [errW_none, errW_some] <;> rfl) | (simp [*, errW_none, errW_some] <;> rfl), by repeat (first | (with_reducible first | exact HB.out | apply below_alloc | apply pw_below_drewN | apply below_drew1 | refine below_set ?_ GE101.out | refine below_set ?_ GE102.out) | exact HB.out)⟩
        · rw [if_neg c6] at H
          exact absurd H (by simp)
      · rw [if_neg c5] at H
        have c5b0 : decide (x5_1 < 6) = false := decide_eq_false c5
        clear c5
        obtain rfl := Option.some.inj H
        go_wp2
        repeat (go_quiet (fail); try go_wp2)
        go_ret
        exact ⟨by first | rfl | (simp [errW_none, errW_some] <;> rfl) | (simp [*, errW_none, errW_some] <;> rfl), by repeat (first | (with_reducible first | exact HB.out | apply below_alloc | apply pw_below_drewN | apply below_drew1 | refine below_set ?_ GE101.out | refine below_set ?_ GE102.out) | exact HB.out)⟩

set_option linter.defProp false
def aM13_ := @Aside0.mk
theorem q13x1_ {P : Prop} (h : P := by repeat (first | (with_reducible first | exact HB.out | apply below_alloc | apply pw_below_drewN | apply below_drew1 | refine below_set ?_ GE105.out) | exact HB.out)) : P := h
theorem q13x2_ {P : Prop} (h : P := by (with_reducible repeat (first | refine blk_drewN ?_ _ | refine blk_drew ?_ | refine blk_alloc ?_ _)); exact BK105.out) : P := h
theorem q13x3_ {P : Prop} (h : P := by repeat (first | (with_reducible first | exact HB.out | apply below_alloc | apply pw_below_drewN | apply below_drew1) | exact HB.out)) : P := h
theorem q13x4_ {P : Prop} (h : P := by rw [hg]; exact Nat.ne_of_lt (blk_lt (g := gb105) (o := .cells #[.bool a0.f0, .int .u32 a0.f1.f0, .int .u32 a0.f1.f1, .int .u32 a0.f1.f2, .int .u32 a0.f1.f3, .int .u32 a0.f1.f4, .int .u32 a0.f1.f5] 25 (0, 0)) q13x2_)) : P := h
theorem q13x5_ {P : Prop} (h : P := by rw [hg]; exact Nat.ne_of_gt (blk_lt (g := gb105) (o := .cells #[.bool a0.f0, .int .u32 a0.f1.f0, .int .u32 a0.f1.f1, .int .u32 a0.f1.f2, .int .u32 a0.f1.f3, .int .u32 a0.f1.f4, .int .u32 a0.f1.f5] 25 (0, 0)) q13x2_)) : P := h
theorem q13x6_ {P : Prop} (h : P := by (try simp only [List.map_toArray, List.map_cons, List.map_nil]); first | done | rfl | (simp only [List.length_drop, List.length_take]; rfl) | (simp only [List.drop_one]; done) | (simp only [List.drop_one]; rfl)) : P := h
theorem q13x7_ {P : Prop} (h : P := by repeat (first | (with_reducible first | exact HB.out | apply below_alloc | apply pw_below_drewN | apply below_drew1 | refine below_set ?_ GE105.out | refine below_set ?_ GE106.out) | exact HB.out)) : P := h
theorem q13x8_ {P : Prop} (h : P := by rw [hg]; exact (below_size q13x3_)) : P := h
theorem q13x9_ {P : Prop} (h : P := by rw [hg]; exact (below_size q13x1_)) : P := h
/-! ### laws_eqWide: function 13 -/
def laws_eqWide.f (k : Nat) (a0 : S24) (a1 : S24) : Option (Bool) := if (a0.f0 != a1.f0) = true then (some false) else ((laws_eqUint32A6.f k a0.f1 a1.f1).bind fun t107 => (if t107 = true then (some true) else (some false)))
theorem laws_eqWide.mono : ∀ a0 a1 k, LeO (laws_eqWide.f k a0 a1) (laws_eqWide.f (k + 1) a0 a1) := by
 intro a0 a1 k
 unfold laws_eqWide.f
 repeat' first
   | (with_reducible exact laws_eqUint32A6.mono _ _ _)
   | (with_reducible exact LeO.refl _)
   | (with_reducible exact LeO.none _)
   | (with_reducible refine LeO.ite ?_ ?_)
   | (with_reducible refine LeO.bind ?_ (fun _ => ?_))
   | exact laws_eqUint32A6.mono _ _ _
   | exact LeO.none _
   | refine LeO.ite ?_ ?_
   | refine LeO.bind ?_ (fun _ => ?_)
set_option maxHeartbeats 8000000 in
set_option maxRecDepth 100000 in
theorem laws_eqWide.calls (k : Nat) (a0 : S24) (a1 : S24) (r : Bool) (w : World) (h : laws_eqWide.f k a0 a1 = some r) :
  Calls Try.prog 13 #[.agg #[.bool a0.f0, .int .u32 a0.f1.f0, .int .u32 a0.f1.f1, .int .u32 a0.f1.f2, .int .u32 a0.f1.f3, .int .u32 a0.f1.f4, .int .u32 a0.f1.f5], .agg #[.bool a1.f0, .int .u32 a1.f1.f0, .int .u32 a1.f1.f1, .int .u32 a1.f1.f2, .int .u32 a1.f1.f3, .int .u32 a1.f1.f4, .int .u32 a1.f1.f5]] w fun e w' => e = .returned (.bool r) ∧ Below w.heap.size w w' := by
 have hu25 := Try.underlying25
 have hu23 := Try.underlying23
 have HB := aM13_ (Below.refl w.heap.size w)
 have H : (if (a0.f0 != a1.f0) = true then (some false) else ((laws_eqUint32A6.f k a0.f1 a1.f1).bind fun t107 => (if t107 = true then (some true) else (some false)))) = some r := h
 clear h
 by_cases c3 : (a0.f0 != a1.f0) = true
 ·rw [if_pos c3] at H
  have c3b0 : (a0.f0 != a1.f0) = true := c3
  (try (have c3b1 : decide (a0.f0 = a1.f0) = false := by simpa using c3))
  (try (have c3b2 : (a0.f0 == a1.f0) = false := by simpa using c3))
  (try (have c3b3 : ¬ (a0.f0 = a1.f0) := by simpa using c3))
  clear c3
  obtain rfl := Option.some.inj H
  go_enter Try.func13, Try.ntmps13
  go_wp2_with (first | ((with_reducible refine gate_dst (N := 2) rfl ?_); refine box_event ?hg (N := 2) ?hd (cs := #[.bool a0.f0, .int .u32 a0.f1.f0, .int .u32 a0.f1.f1, .int .u32 a0.f1.f2, .int .u32 a0.f1.f3, .int .u32 a0.f1.f4, .int .u32 a0.f1.f5]) (t := 25) ?hr ?_; (case hd => rfl); (case hg => rfl); (case hr => first | (go_simp; done) | (go_simp; rfl)); intro gb105 hg w4 hbox hb; have n0_ := aM13_ (below_step q13x3_ hb); have n1_ := aM13_ (hbox); have n2_ := aM13_ ((q13x8_ : w.heap.size ≤ gb105)); have n3_ := aM13_ ((q13x8_ : w.heap.size ≤ gb105)); clear HB; have HB := n0_; have BK105 := n1_; have GW105 := n2_; have GE105 := n3_; clear n0_ n1_ n2_ n3_; clear hb hbox hg) | ((with_reducible refine gate_dst (N := 3) rfl ?_); refine box_event ?hg (N := 3) ?hd (cs := #[.bool a1.f0, .int .u32 a1.f1.f0, .int .u32 a1.f1.f1, .int .u32 a1.f1.f2, .int .u32 a1.f1.f3, .int .u32 a1.f1.f4, .int .u32 a1.f1.f5]) (t := 25) ?hr ?_; (case hd => rfl); (case hg => rfl); (case hr => first | (go_simp; done) | (go_simp; rfl)); intro gb106 hg w5 hbox hb; have n0_ := aM13_ (blk_below (g := gb105) (o := .cells #[.bool a0.f0, .int .u32 a0.f1.f0, .int .u32 a0.f1.f1, .int .u32 a0.f1.f2, .int .u32 a0.f1.f3, .int .u32 a0.f1.f4, .int .u32 a0.f1.f5] 25 (0, 0)) q13x2_ hb); have n1_ := aM13_ (below_step q13x1_ hb); have n2_ := aM13_ (hbox); have n3_ := aM13_ ((q13x9_ : w.heap.size ≤ gb106)); have n4_ := aM13_ ((q13x9_ : w.heap.size ≤ gb106)); have n5_ := aM13_ ((q13x4_ : gb105 ≠ gb106)); have n6_ := aM13_ ((q13x5_ : gb106 ≠ gb105)); clear BK105 HB; have BK105 := n0_; have HB := n1_; have BK106 := n2_; have GW106 := n3_; have GE106 := n4_; have NB105_106 := n5_; have NB106_105 := n6_; clear n0_ n1_ n2_ n3_ n4_ n5_ n6_; clear hb hbox hg; have hnb6 := NB105_106.out; have hnc6 := NB106_105.out; obtain ⟨hcz7_0, hcz7_1, hcz7_2, hcz7_3, hcz7_4, hcz7_5, hcz7_6⟩ := cells7_ (show w5.heap[gb105]? = some (.cells #[.bool a0.f0, .int .u32 a0.f1.f0, .int .u32 a0.f1.f1, .int .u32 a0.f1.f2, .int .u32 a0.f1.f3, .int .u32 a0.f1.f4, .int .u32 a0.f1.f5] 25 (0, 0)) from BK105.out); obtain ⟨hfz7_0, hfz7_1, hfz7_2, hfz7_3, hfz7_4, hfz7_5, hfz7_6⟩ := frozen7_ BK105.out; obtain ⟨hcz8_0, hcz8_1, hcz8_2, hcz8_3, hcz8_4, hcz8_5, hcz8_6⟩ := cells7_ (show w5.heap[gb106]? = some (.cells #[.bool a1.f0, .int .u32 a1.f1.f0, .int .u32 a1.f1.f1, .int .u32 a1.f1.f2, .int .u32 a1.f1.f3, .int .u32 a1.f1.f4, .int .u32 a1.f1.f5] 25 (0, 0)) from BK106.out); obtain ⟨hfz8_0, hfz8_1, hfz8_2, hfz8_3, hfz8_4, hfz8_5, hfz8_6⟩ := frozen7_ BK106.out))
  go_ret
  exact ⟨by first | rfl | (simp [errW_none, errW_some] <;> rfl) | (simp [*, errW_none, errW_some] <;> rfl), by repeat (first | (with_reducible first | exact HB.out | apply below_alloc | apply pw_below_drewN | apply below_drew1 | refine below_set ?_ GE105.out | refine below_set ?_ GE106.out) | exact HB.out)⟩
 rw [if_neg c3] at H
 have c3b0 : (a0.f0 != a1.f0) = false := by simpa using c3
 (try (have c3b1 : decide (a0.f0 = a1.f0) = true := by simpa using c3))
 (try (have c3b2 : (a0.f0 == a1.f0) = true := by simpa using c3))
 clear c3
 replace H := Option.bind_eq_some_iff.mp H
 obtain ⟨t107, A90, H⟩ := H
 replace H : (if t107 = true then (some true) else (some false)) = some r := H
 have A9 := aM13_ A90
 clear A90
 by_cases c10 : t107 = true
 ·subst c10
  have H1 : (some true) = some r := by rw [if_pos rfl] at H; exact H
  clear H
  have H := H1
  clear H1
  obtain rfl := Option.some.inj H
  go_enter Try.func13, Try.ntmps13
  go_wp2_with (first | ((with_reducible refine gate_dst (N := 2) rfl ?_); refine box_event ?hg (N := 2) ?hd (cs := #[.bool a0.f0, .int .u32 a0.f1.f0, .int .u32 a0.f1.f1, .int .u32 a0.f1.f2, .int .u32 a0.f1.f3, .int .u32 a0.f1.f4, .int .u32 a0.f1.f5]) (t := 25) ?hr ?_; (case hd => rfl); (case hg => rfl); (case hr => first | (go_simp; done) | (go_simp; rfl)); intro gb105 hg w11 hbox hb; have n0_ := aM13_ (below_step q13x3_ hb); have n1_ := aM13_ (hbox); have n2_ := aM13_ ((q13x8_ : w.heap.size ≤ gb105)); have n3_ := aM13_ ((q13x8_ : w.heap.size ≤ gb105)); clear HB; have HB := n0_; have BK105 := n1_; have GW105 := n2_; have GE105 := n3_; clear n0_ n1_ n2_ n3_; clear hb hbox hg) | ((with_reducible refine gate_dst (N := 3) rfl ?_); refine box_event ?hg (N := 3) ?hd (cs := #[.bool a1.f0, .int .u32 a1.f1.f0, .int .u32 a1.f1.f1, .int .u32 a1.f1.f2, .int .u32 a1.f1.f3, .int .u32 a1.f1.f4, .int .u32 a1.f1.f5]) (t := 25) ?hr ?_; (case hd => rfl); (case hg => rfl); (case hr => first | (go_simp; done) | (go_simp; rfl)); intro gb106 hg w12 hbox hb; have n0_ := aM13_ (blk_below (g := gb105) (o := .cells #[.bool a0.f0, .int .u32 a0.f1.f0, .int .u32 a0.f1.f1, .int .u32 a0.f1.f2, .int .u32 a0.f1.f3, .int .u32 a0.f1.f4, .int .u32 a0.f1.f5] 25 (0, 0)) q13x2_ hb); have n1_ := aM13_ (below_step q13x1_ hb); have n2_ := aM13_ (hbox); have n3_ := aM13_ ((q13x9_ : w.heap.size ≤ gb106)); have n4_ := aM13_ ((q13x9_ : w.heap.size ≤ gb106)); have n5_ := aM13_ ((q13x4_ : gb105 ≠ gb106)); have n6_ := aM13_ ((q13x5_ : gb106 ≠ gb105)); clear BK105 HB; have BK105 := n0_; have HB := n1_; have BK106 := n2_; have GW106 := n3_; have GE106 := n4_; have NB105_106 := n5_; have NB106_105 := n6_; clear n0_ n1_ n2_ n3_ n4_ n5_ n6_; clear hb hbox hg; have hnb13 := NB105_106.out; have hnc13 := NB106_105.out; obtain ⟨hcz14_0, hcz14_1, hcz14_2, hcz14_3, hcz14_4, hcz14_5, hcz14_6⟩ := cells7_ (show w12.heap[gb105]? = some (.cells #[.bool a0.f0, .int .u32 a0.f1.f0, .int .u32 a0.f1.f1, .int .u32 a0.f1.f2, .int .u32 a0.f1.f3, .int .u32 a0.f1.f4, .int .u32 a0.f1.f5] 25 (0, 0)) from BK105.out); obtain ⟨hfz14_0, hfz14_1, hfz14_2, hfz14_3, hfz14_4, hfz14_5, hfz14_6⟩ := frozen7_ BK105.out; obtain ⟨hcz15_0, hcz15_1, hcz15_2, hcz15_3, hcz15_4, hcz15_5, hcz15_6⟩ := cells7_ (show w12.heap[gb106]? = some (.cells #[.bool a1.f0, .int .u32 a1.f1.f0, .int .u32 a1.f1.f1, .int .u32 a1.f1.f2, .int .u32 a1.f1.f3, .int .u32 a1.f1.f4, .int .u32 a1.f1.f5] 25 (0, 0)) from BK106.out); obtain ⟨hfz15_0, hfz15_1, hfz15_2, hfz15_3, hfz15_4, hfz15_5, hfz15_6⟩ := frozen7_ BK106.out) | ((with_reducible refine gate_callee (f := 50) rfl ?_); refine goesL_ (some 14) rfl rfl Try.func50 (by kernel_rfl) rfl #[.agg #[.int .u32 a0.f1.f0, .int .u32 a0.f1.f1, .int .u32 a0.f1.f2, .int .u32 a0.f1.f3, .int .u32 a0.f1.f4, .int .u32 a0.f1.f5], .agg #[.int .u32 a1.f1.f0, .int .u32 a1.f1.f1, .int .u32 a1.f1.f2, .int .u32 a1.f1.f3, .int .u32 a1.f1.f4, .int .u32 a1.f1.f5]] rfl q13x6_ ?_; (with_reducible refine (laws_eqUint32A6.calls k a0.f1 a1.f1 true _ A9.out).mono ?_); rintro e w16 ⟨rfl, hb⟩; refine ⟨_, rfl, ?_⟩; have n0_ := aM13_ (blk_below (g := gb105) (o := .cells #[.bool a0.f0, .int .u32 a0.f1.f0, .int .u32 a0.f1.f1, .int .u32 a0.f1.f2, .int .u32 a0.f1.f3, .int .u32 a0.f1.f4, .int .u32 a0.f1.f5] 25 (0, 0)) q13x2_ hb); have n1_ := aM13_ (blk_below (g := gb106) (o := .cells #[.bool a1.f0, .int .u32 a1.f1.f0, .int .u32 a1.f1.f1, .int .u32 a1.f1.f2, .int .u32 a1.f1.f3, .int .u32 a1.f1.f4, .int .u32 a1.f1.f5] 25 (0, 0)) (by (with_reducible repeat (first | refine blk_drewN ?_ _ | refine blk_drew ?_ | refine blk_alloc ?_ _)); exact BK106.out) hb); have n2_ := aM13_ (below_step q13x7_ hb); clear BK105 BK106 HB; have BK105 := n0_; have BK106 := n1_; have HB := n2_; clear n0_ n1_ n2_; (try clear hb); (try clear hb2); (try clear hk); (try clear hi)))
  go_ret
  exact ⟨by first | rfl | (simp [errW_none, errW_some] <;> rfl) | (simp [*, errW_none, errW_some] <;> rfl), by repeat (first | (with_reducible first | exact HB.out | apply below_alloc | apply pw_below_drewN | apply below_drew1 | refine below_set ?_ GE105.out | refine below_set ?_ GE106.out) | exact HB.out)⟩
 replace c10 := Bool.eq_false_iff.mpr c10
 subst c10
 have H1 : (some false) = some r := by rw [if_neg (show ¬ (false = true) by decide)] at H; exact H
 clear H
 have H := H1
 clear H1
 obtain rfl := Option.some.inj H
 go_enter Try.func13, Try.ntmps13
 go_wp2_with (first | ((with_reducible refine gate_dst (N := 2) rfl ?_); refine box_event ?hg (N := 2) ?hd (cs := #[.bool a0.f0, .int .u32 a0.f1.f0, .int .u32 a0.f1.f1, .int .u32 a0.f1.f2, .int .u32 a0.f1.f3, .int .u32 a0.f1.f4, .int .u32 a0.f1.f5]) (t := 25) ?hr ?_; (case hd => rfl); (case hg => rfl); (case hr => first | (go_simp; done) | (go_simp; rfl)); intro gb105 hg w17 hbox hb; have n0_ := aM13_ (below_step q13x3_ hb); have n1_ := aM13_ (hbox); have n2_ := aM13_ ((q13x8_ : w.heap.size ≤ gb105)); have n3_ := aM13_ ((q13x8_ : w.heap.size ≤ gb105)); clear HB; have HB := n0_; have BK105 := n1_; have GW105 := n2_; have GE105 := n3_; clear n0_ n1_ n2_ n3_; clear hb hbox hg) | ((with_reducible refine gate_dst (N := 3) rfl ?_); refine box_event ?hg (N := 3) ?hd (cs := #[.bool a1.f0, .int .u32 a1.f1.f0, .int .u32 a1.f1.f1, .int .u32 a1.f1.f2, .int .u32 a1.f1.f3, .int .u32 a1.f1.f4, .int .u32 a1.f1.f5]) (t := 25) ?hr ?_; (case hd => rfl); (case hg => rfl); (case hr => first | (go_simp; done) | (go_simp; rfl)); intro gb106 hg w18 hbox hb; have n0_ := aM13_ (blk_below (g := gb105) (o := .cells #[.bool a0.f0, .int .u32 a0.f1.f0, .int .u32 a0.f1.f1, .int .u32 a0.f1.f2, .int .u32 a0.f1.f3, .int .u32 a0.f1.f4, .int .u32 a0.f1.f5] 25 (0, 0)) q13x2_ hb); have n1_ := aM13_ (below_step q13x1_ hb); have n2_ := aM13_ (hbox); have n3_ := aM13_ ((q13x9_ : w.heap.size ≤ gb106)); have n4_ := aM13_ ((q13x9_ : w.heap.size ≤ gb106)); have n5_ := aM13_ ((q13x4_ : gb105 ≠ gb106)); have n6_ := aM13_ ((q13x5_ : gb106 ≠ gb105)); clear BK105 HB; have BK105 := n0_; have HB := n1_; have BK106 := n2_; have GW106 := n3_; have GE106 := n4_; have NB105_106 := n5_; have NB106_105 := n6_; clear n0_ n1_ n2_ n3_ n4_ n5_ n6_; clear hb hbox hg; have hnb19 := NB105_106.out; have hnc19 := NB106_105.out; obtain ⟨hcz20_0, hcz20_1, hcz20_2, hcz20_3, hcz20_4, hcz20_5, hcz20_6⟩ := cells7_ (show w18.heap[gb105]? = some (.cells #[.bool a0.f0, .int .u32 a0.f1.f0, .int .u32 a0.f1.f1, .int .u32 a0.f1.f2, .int .u32 a0.f1.f3, .int .u32 a0.f1.f4, .int .u32 a0.f1.f5] 25 (0, 0)) from BK105.out); obtain ⟨hfz20_0, hfz20_1, hfz20_2, hfz20_3, hfz20_4, hfz20_5, hfz20_6⟩ := frozen7_ BK105.out; obtain ⟨hcz21_0, hcz21_1, hcz21_2, hcz21_3, hcz21_4, hcz21_5, hcz21_6⟩ := cells7_ (show w18.heap[gb106]? = some (.cells #[.bool a1.f0, .int .u32 a1.f1.f0, .int .u32 a1.f1.f1, .int .u32 a1.f1.f2, .int .u32 a1.f1.f3, .int .u32 a1.f1.f4, .int .u32 a1.f1.f5] 25 (0, 0)) from BK106.out); obtain ⟨hfz21_0, hfz21_1, hfz21_2, hfz21_3, hfz21_4, hfz21_5, hfz21_6⟩ := frozen7_ BK106.out) | ((with_reducible refine gate_callee (f := 50) rfl ?_); refine goesL_ (some 14) rfl rfl Try.func50 (by kernel_rfl) rfl #[.agg #[.int .u32 a0.f1.f0, .int .u32 a0.f1.f1, .int .u32 a0.f1.f2, .int .u32 a0.f1.f3, .int .u32 a0.f1.f4, .int .u32 a0.f1.f5], .agg #[.int .u32 a1.f1.f0, .int .u32 a1.f1.f1, .int .u32 a1.f1.f2, .int .u32 a1.f1.f3, .int .u32 a1.f1.f4, .int .u32 a1.f1.f5]] rfl q13x6_ ?_; (with_reducible refine (laws_eqUint32A6.calls k a0.f1 a1.f1 false _ A9.out).mono ?_); rintro e w22 ⟨rfl, hb⟩; refine ⟨_, rfl, ?_⟩; have n0_ := aM13_ (blk_below (g := gb105) (o := .cells #[.bool a0.f0, .int .u32 a0.f1.f0, .int .u32 a0.f1.f1, .int .u32 a0.f1.f2, .int .u32 a0.f1.f3, .int .u32 a0.f1.f4, .int .u32 a0.f1.f5] 25 (0, 0)) q13x2_ hb); have n1_ := aM13_ (blk_below (g := gb106) (o := .cells #[.bool a1.f0, .int .u32 a1.f1.f0, .int .u32 a1.f1.f1, .int .u32 a1.f1.f2, .int .u32 a1.f1.f3, .int .u32 a1.f1.f4, .int .u32 a1.f1.f5] 25 (0, 0)) (by (with_reducible repeat (first | refine blk_drewN ?_ _ | refine blk_drew ?_ | refine blk_alloc ?_ _)); exact BK106.out) hb); have n2_ := aM13_ (below_step q13x7_ hb); clear BK105 BK106 HB; have BK105 := n0_; have BK106 := n1_; have HB := n2_; clear n0_ n1_ n2_; (try clear hb); (try clear hb2); (try clear hk); (try clear hi)))
 go_ret
 exact ⟨by first | rfl | (simp [errW_none, errW_some] <;> rfl) | (simp [*, errW_none, errW_some] <;> rfl), by repeat (first | (with_reducible first | exact HB.out | apply below_alloc | apply pw_below_drewN | apply below_drew1 | refine below_set ?_ GE105.out | refine below_set ?_ GE106.out) | exact HB.out)⟩

/-! ### spec_l04RootAt: function 80 -/
def spec_l04RootAt.f (a0 : Int) (l1 : List Int) (a2 : Int) : Option (Int) := if a2 = 0 then (some a0) else (if (l1.length : Int) = 0 then (none) else (if 0 ≤ (Int.tmod (wrap64 (a2 - 1)) (l1.length : Int)) then (if (Int.tmod (wrap64 (a2 - 1)) (l1.length : Int)) < (l1.length : Int) then (some (rd l1 (Int.tmod (wrap64 (a2 - 1)) (l1.length : Int)))) else (none)) else (none)))
set_option maxHeartbeats 8000000 in
set_option maxRecDepth 100000 in
theorem spec_l04RootAt.calls (a0 : Int) (A1 : Option Addr) (c1 : Nat) (l1 : List Int) (a2 : Int) (r : Int) (w : World) (hr1 : Kd.C (Kd.int .i64) w A1 l1.length l1) (hc1 : l1.length ≤ c1) (h : spec_l04RootAt.f a0 l1 a2 = some r) :
    Calls Try.prog 80 #[.int .i64 a0, .slice A1 l1.length c1, .int .i64 a2] w fun e w' => e = .returned (.int .i64 r) ∧ Drawn0 w w' := by
  have HR1 := Aside0.mk hr1
  have HC1 := Aside0.mk hc1
  clear hr1 hc1
  have H : (if a2 = 0 then (some a0) else (if (l1.length : Int) = 0 then (none) else (if 0 ≤ (Int.tmod (wrap64 (a2 - 1)) (l1.length : Int)) then (if (Int.tmod (wrap64 (a2 - 1)) (l1.length : Int)) < (l1.length : Int) then (some (rd l1 (Int.tmod (wrap64 (a2 - 1)) (l1.length : Int)))) else (none)) else (none)))) = some r := h
  clear h
  by_cases c4 : a2 = 0
  · rw [if_pos c4] at H
    have c4b0 : (a2 == 0) = true := beq_iff_eq.mpr c4
    have c4b1 : (a2 != 0) = false := bne_eq_false_iff_eq.mpr c4
    clear c4
    obtain rfl := Option.some.inj H
    go_enter Try.func80, Try.ntmps80
    go_wp2
    go_ret
    exact ⟨by first | rfl | (simp; done) | (simp [*]; done), by repeat (first | exact Drawn0.refl _ | apply Drawn0.step)⟩
  · rw [if_neg c4] at H
    have c4b0 : (a2 == 0) = false := beq_eq_false_iff_ne.mpr c4
    have c4b1 : (a2 != 0) = true := bne_iff_ne.mpr c4
    by_cases c5 : (l1.length : Int) = 0
    · rw [if_pos c5] at H
      exact absurd H (by simp)
    · rw [if_neg c5] at H
      have c5b0 : ((l1.length : Int) == 0) = false := beq_eq_false_iff_ne.mpr c5
      have c5b1 : ((l1.length : Int) != 0) = true := bne_iff_ne.mpr c5
      have c5b2 : ¬ (l1 = []) := fun h_ => c5 (by rw [h_]; rfl)
      obtain ⟨ji6, hji6⟩ : ∃ j_ : Int, (Int.tmod (wrap64 (a2 - 1)) (l1.length : Int)) = j_ := ⟨_, rfl⟩
      replace H : (if 0 ≤ (ji6) then (if (ji6) < (l1.length : Int) then (some (rd l1 (ji6))) else (none)) else (none)) = some r := by first | (rw [hji6] at H; exact H) | (simp only [hji6] at H ⊢; exact H)
      by_cases c7 : 0 ≤ (ji6)
      · rw [if_pos c7] at H
        have c7b0 : decide (0 ≤ (ji6)) = true := decide_eq_true c7
        clear c7
        by_cases c8 : (ji6) < (l1.length : Int)
        · rw [if_pos c8] at H
          have c8b0 : decide ((ji6) < (l1.length : Int)) = true := decide_eq_true c8
          clear c8
          obtain rfl := Option.some.inj H
          have p108 : 0 ≤ ((ji6) : Int) := of_decide_eq_true (by first | (with_reducible assumption) | assumption)
          have q108 : (ji6) < (l1.length : Int) := of_decide_eq_true (by first | (with_reducible assumption) | assumption)
          obtain ⟨ad108, e108, hx108_0⟩ := Kd.at_int HR1.out (ji6) p108 q108
          cases e108
          replace p108 := eq_true p108
          replace q108 := eq_true q108
          go_enter Try.func80, Try.ntmps80
          go_wp2
          go_ret
          exact ⟨by first | rfl | (simp; done) | (simp only [← hji6] <;> (first | rfl | simp)) | (simp [*]; done), by repeat (first | exact Drawn0.refl _ | apply Drawn0.step)⟩
        · rw [if_neg c8] at H
          exact absurd H (by simp)
      · rw [if_neg c7] at H
        exact absurd H (by simp)



set_option linter.defProp false
def kA82_ := @blk_alloc
def kN82_ := @blk_drewN
def kD82_ := @blk_drew
def bS82_ := @below_set
def aM82_ := @Aside0.mk
def kC82_ := @blk_cell
theorem q82x1_ {P : Prop} (h : P := by repeat (first | (with_reducible first | exact HB.out | apply below_alloc | apply pw_below_drewN | apply below_drew1 | refine bS82_ ?_ GE112.out | refine bS82_ ?_ GE113.out | refine bS82_ ?_ GE114.out | refine bS82_ ?_ GE115.out | refine bS82_ ?_ GE121.out) | exact HB.out)) : P := h
theorem q82x2_ {P : Prop} (h : P := by (with_reducible repeat (first | refine kN82_ ?_ _ | refine kD82_ ?_ | refine kA82_ ?_ _)); exact BK112.out) : P := h
theorem q82x3_ {P : Prop} (h : P := by first | (with_reducible assumption) | assumption) : P := h
theorem q82x4_ {P : Prop} (h : P := by repeat (first | (with_reducible first | exact HB.out | apply below_alloc | apply pw_below_drewN | apply below_drew1 | refine bS82_ ?_ GE112.out | refine bS82_ ?_ GE113.out | refine bS82_ ?_ GE114.out | refine bS82_ ?_ GE115.out) | exact HB.out)) : P := h
theorem q82x5_ {P : Prop} (h : P := by (rcases (show x12_2 = 0 ∨ x12_2 = 1 ∨ x12_2 = 2 ∨ x12_2 = 3 ∨ x12_2 = 4 ∨ x12_2 = 5 from (by have h_ := HP123.out; omega)) with rfl | rfl | rfl | rfl | rfl | rfl <;> first | exact (kC82_ BK121.out 0).trans rfl | exact (kC82_ BK121.out 1).trans rfl | exact (kC82_ BK121.out 2).trans rfl | exact (kC82_ BK121.out 3).trans rfl | exact (kC82_ BK121.out 4).trans rfl | exact (kC82_ BK121.out 5).trans rfl)) : P := h
theorem q82x6_ {P : Prop} (h : P := by (with_reducible repeat (first | refine kN82_ ?_ _ | refine kD82_ ?_ | refine kA82_ ?_ _)); exact BK113.out) : P := h
theorem q82x7_ {P : Prop} (h : P := by (with_reducible repeat (first | refine kN82_ ?_ _ | refine kD82_ ?_ | refine kA82_ ?_ _)); exact BK114.out) : P := h
theorem q82x8_ {P : Prop} (h : P := by (rcases (show (ji30) = 0 ∨ (ji30) = 1 ∨ (ji30) = 2 ∨ (ji30) = 3 ∨ (ji30) = 4 ∨ (ji30) = 5 ∨ (ji30) = 6 ∨ (ji30) = 7 ∨ (ji30) = 8 ∨ (ji30) = 9 ∨ (ji30) = 10 ∨ (ji30) = 11 from (by have h_ := HP120.out; omega)) with rfl | rfl | rfl | rfl | rfl | rfl | rfl | rfl | rfl | rfl | rfl | rfl <;> first | exact (kC82_ BK115.out 0).trans rfl | exact (kC82_ BK115.out 1).trans rfl | exact (kC82_ BK115.out 2).trans rfl | exact (kC82_ BK115.out 3).trans rfl | exact (kC82_ BK115.out 4).trans rfl | exact (kC82_ BK115.out 5).trans rfl | exact (kC82_ BK115.out 6).trans rfl | exact (kC82_ BK115.out 7).trans rfl | exact (kC82_ BK115.out 8).trans rfl | exact (kC82_ BK115.out 9).trans rfl | exact (kC82_ BK115.out 10).trans rfl | exact (kC82_ BK115.out 11).trans rfl)) : P := h
theorem q82x9_ {P : Prop} (h : P := by (rcases (show (ji17) = 0 ∨ (ji17) = 1 ∨ (ji17) = 2 ∨ (ji17) = 3 ∨ (ji17) = 4 ∨ (ji17) = 5 ∨ (ji17) = 6 ∨ (ji17) = 7 ∨ (ji17) = 8 ∨ (ji17) = 9 ∨ (ji17) = 10 ∨ (ji17) = 11 from (by have h_ := HP119.out; omega)) with rfl | rfl | rfl | rfl | rfl | rfl | rfl | rfl | rfl | rfl | rfl | rfl <;> first | exact (kC82_ BK115.out 0).trans rfl | exact (kC82_ BK115.out 1).trans rfl | exact (kC82_ BK115.out 2).trans rfl | exact (kC82_ BK115.out 3).trans rfl | exact (kC82_ BK115.out 4).trans rfl | exact (kC82_ BK115.out 5).trans rfl | exact (kC82_ BK115.out 6).trans rfl | exact (kC82_ BK115.out 7).trans rfl | exact (kC82_ BK115.out 8).trans rfl | exact (kC82_ BK115.out 9).trans rfl | exact (kC82_ BK115.out 10).trans rfl | exact (kC82_ BK115.out 11).trans rfl)) : P := h
theorem q82x10_ {P : Prop} (h : P := by (rcases (show (ji48) = 0 ∨ (ji48) = 1 ∨ (ji48) = 2 ∨ (ji48) = 3 ∨ (ji48) = 4 ∨ (ji48) = 5 ∨ (ji48) = 6 ∨ (ji48) = 7 ∨ (ji48) = 8 ∨ (ji48) = 9 ∨ (ji48) = 10 ∨ (ji48) = 11 from (by have h_ := HP124.out; omega)) with rfl | rfl | rfl | rfl | rfl | rfl | rfl | rfl | rfl | rfl | rfl | rfl <;> first | exact (kC82_ BK115.out 0).trans rfl | exact (kC82_ BK115.out 1).trans rfl | exact (kC82_ BK115.out 2).trans rfl | exact (kC82_ BK115.out 3).trans rfl | exact (kC82_ BK115.out 4).trans rfl | exact (kC82_ BK115.out 5).trans rfl | exact (kC82_ BK115.out 6).trans rfl | exact (kC82_ BK115.out 7).trans rfl | exact (kC82_ BK115.out 8).trans rfl | exact (kC82_ BK115.out 9).trans rfl | exact (kC82_ BK115.out 10).trans rfl | exact (kC82_ BK115.out 11).trans rfl)) : P := h
theorem q82x11_ {P : Prop} (h : P := by (rcases (show x12_2 = 0 ∨ x12_2 = 1 ∨ x12_2 = 2 ∨ x12_2 = 3 ∨ x12_2 = 4 ∨ x12_2 = 5 ∨ x12_2 = 6 ∨ x12_2 = 7 ∨ x12_2 = 8 ∨ x12_2 = 9 ∨ x12_2 = 10 ∨ x12_2 = 11 from (by have h_ := HP122.out; omega)) with rfl | rfl | rfl | rfl | rfl | rfl | rfl | rfl | rfl | rfl | rfl | rfl <;> first | exact (kC82_ BK115.out 0).trans rfl | exact (kC82_ BK115.out 1).trans rfl | exact (kC82_ BK115.out 2).trans rfl | exact (kC82_ BK115.out 3).trans rfl | exact (kC82_ BK115.out 4).trans rfl | exact (kC82_ BK115.out 5).trans rfl | exact (kC82_ BK115.out 6).trans rfl | exact (kC82_ BK115.out 7).trans rfl | exact (kC82_ BK115.out 8).trans rfl | exact (kC82_ BK115.out 9).trans rfl | exact (kC82_ BK115.out 10).trans rfl | exact (kC82_ BK115.out 11).trans rfl)) : P := h
theorem q82x12_ {P : Prop} (h : P := by rw [hg]; exact Nat.ne_of_lt (blk_lt (g := gb112) (o := .cells #[.bool a0.f0, .int .u32 a0.f1.f0, .int .u32 a0.f1.f1, .int .u32 a0.f1.f2, .int .u32 a0.f1.f3, .int .u32 a0.f1.f4, .int .u32 a0.f1.f5] 25 (0, 0)) q82x2_)) : P := h
theorem q82x13_ {P : Prop} (h : P := by rw [hg]; exact Nat.ne_of_gt (blk_lt (g := gb112) (o := .cells #[.bool a0.f0, .int .u32 a0.f1.f0, .int .u32 a0.f1.f1, .int .u32 a0.f1.f2, .int .u32 a0.f1.f3, .int .u32 a0.f1.f4, .int .u32 a0.f1.f5] 25 (0, 0)) q82x2_)) : P := h
theorem q82x14_ {P : Prop} (h : P := by rw [hw]; exact (by (with_reducible repeat (first | refine kN82_ ?_ _ | refine kD82_ ?_ | refine kA82_ ?_ _)); refine blk_put (cs := #[.int .u32 x122000_2.f0, .int .u32 x122000_2.f1, .int .u32 x122000_2.f2, .int .u32 x122000_2.f3, .int .u32 x122000_2.f4, .int .u32 x122000_2.f5]) ?_ ((x12_2 : Int).toNat) _ (by rcases (show x12_2 = 0 ∨ x12_2 = 1 ∨ x12_2 = 2 ∨ x12_2 = 3 ∨ x12_2 = 4 ∨ x12_2 = 5 from (by have h_ := HP123.out; omega)) with rfl | rfl | rfl | rfl | rfl | rfl <;> rfl); (with_reducible repeat (first | refine kN82_ ?_ _ | refine kD82_ ?_ | refine kA82_ ?_ _)); exact BK121.out)) : P := h
theorem q82x15_ {P : Prop} (h : P := by rw [hw]; exact (by (with_reducible repeat (first | refine kN82_ ?_ _ | refine kD82_ ?_ | refine kA82_ ?_ _ | refine blk_far ?_ NB112_115.out _)); (with_reducible repeat (first | refine kN82_ ?_ _ | refine kD82_ ?_ | refine kA82_ ?_ _)); exact BK112.out)) : P := h
theorem q82x16_ {P : Prop} (h : P := by rw [hw]; exact (by (with_reducible repeat (first | refine kN82_ ?_ _ | refine kD82_ ?_ | refine kA82_ ?_ _ | refine blk_far ?_ NB113_115.out _)); (with_reducible repeat (first | refine kN82_ ?_ _ | refine kD82_ ?_ | refine kA82_ ?_ _)); exact BK113.out)) : P := h
theorem q82x17_ {P : Prop} (h : P := by rw [hw]; exact (by (with_reducible repeat (first | refine kN82_ ?_ _ | refine kD82_ ?_ | refine kA82_ ?_ _ | refine blk_far ?_ NB114_115.out _)); (with_reducible repeat (first | refine kN82_ ?_ _ | refine kD82_ ?_ | refine kA82_ ?_ _)); exact BK114.out)) : P := h
theorem q82x18_ {P : Prop} (h : P := by rw [hw]; exact (by (with_reducible repeat (first | refine kN82_ ?_ _ | refine kD82_ ?_ | refine kA82_ ?_ _ | refine blk_far ?_ NB112_121.out _)); (with_reducible repeat (first | refine kN82_ ?_ _ | refine kD82_ ?_ | refine kA82_ ?_ _)); exact BK112.out)) : P := h
theorem q82x19_ {P : Prop} (h : P := by rw [hw]; exact (by (with_reducible repeat (first | refine kN82_ ?_ _ | refine kD82_ ?_ | refine kA82_ ?_ _ | refine blk_far ?_ NB113_121.out _)); (with_reducible repeat (first | refine kN82_ ?_ _ | refine kD82_ ?_ | refine kA82_ ?_ _)); exact BK113.out)) : P := h
theorem q82x20_ {P : Prop} (h : P := by rw [hw]; exact (by (with_reducible repeat (first | refine kN82_ ?_ _ | refine kD82_ ?_ | refine kA82_ ?_ _ | refine blk_far ?_ NB114_121.out _)); (with_reducible repeat (first | refine kN82_ ?_ _ | refine kD82_ ?_ | refine kA82_ ?_ _)); exact BK114.out)) : P := h
theorem q82x21_ {P : Prop} (h : P := by rw [hw]; exact (by (with_reducible repeat (first | refine kN82_ ?_ _ | refine kD82_ ?_ | refine kA82_ ?_ _ | refine blk_far ?_ NB115_121.out _)); (with_reducible repeat (first | refine kN82_ ?_ _ | refine kD82_ ?_ | refine kA82_ ?_ _)); exact BK115.out)) : P := h
theorem q82x22_ {P : Prop} (h : P := by repeat (first | (with_reducible first | exact HB.out | apply below_alloc | apply pw_below_drewN | apply below_drew1 | refine bS82_ ?_ GE112.out | refine bS82_ ?_ GE113.out | refine bS82_ ?_ GE114.out) | exact HB.out)) : P := h
theorem q82x23_ {P : Prop} (h : P := by rw [hw]; exact (by (with_reducible repeat (first | refine kN82_ ?_ _ | refine kD82_ ?_ | refine kA82_ ?_ _)); refine puts7_ (.bool x115000_2.f0) (.int .u32 x115000_2.f1.f0) (.int .u32 x115000_2.f1.f1) (.int .u32 x115000_2.f1.f2) (.int .u32 x115000_2.f1.f3) (.int .u32 x115000_2.f1.f4) (.int .u32 x115000_2.f1.f5) ?_; (with_reducible repeat (first | refine kN82_ ?_ _ | refine kD82_ ?_ | refine kA82_ ?_ _)); exact BK114.out)) : P := h
theorem q82x24_ {P : Prop} (h : P := by rw [hg]; exact Nat.ne_of_lt (blk_lt (g := gb113) (o := .cells #[.bool a1.f0, .int .u32 a1.f1.f0, .int .u32 a1.f1.f1, .int .u32 a1.f1.f2, .int .u32 a1.f1.f3, .int .u32 a1.f1.f4, .int .u32 a1.f1.f5] 25 (0, 0)) q82x6_)) : P := h
theorem q82x25_ {P : Prop} (h : P := by rw [hg]; exact Nat.ne_of_gt (blk_lt (g := gb113) (o := .cells #[.bool a1.f0, .int .u32 a1.f1.f0, .int .u32 a1.f1.f1, .int .u32 a1.f1.f2, .int .u32 a1.f1.f3, .int .u32 a1.f1.f4, .int .u32 a1.f1.f5] 25 (0, 0)) q82x6_)) : P := h
theorem q82x26_ {P : Prop} (h : P := by repeat (first | (with_reducible first | exact HB.out | apply below_alloc | apply pw_below_drewN | apply below_drew1 | refine bS82_ ?_ GE112.out | refine bS82_ ?_ GE113.out) | exact HB.out)) : P := h
theorem q82x27_ {P : Prop} (h : P := by (with_reducible repeat (first | refine kN82_ ?_ _ | refine kD82_ ?_ | refine kA82_ ?_ _)); exact BK115.out) : P := h
theorem q82x28_ {P : Prop} (h : P := by repeat (first | (with_reducible first | exact HB.out | apply below_alloc | apply pw_below_drewN | apply below_drew1 | refine bS82_ ?_ GE112.out) | exact HB.out)) : P := h
theorem q82x29_ {P : Prop} (h : P := by rw [hw]; exact (by (with_reducible repeat (first | refine kN82_ ?_ _ | refine kD82_ ?_ | refine kA82_ ?_ _ | refine blk_far ?_ NB112_114.out _)); (with_reducible repeat (first | refine kN82_ ?_ _ | refine kD82_ ?_ | refine kA82_ ?_ _)); exact BK112.out)) : P := h
theorem q82x30_ {P : Prop} (h : P := by rw [hw]; exact (by (with_reducible repeat (first | refine kN82_ ?_ _ | refine kD82_ ?_ | refine kA82_ ?_ _ | refine blk_far ?_ NB113_114.out _)); (with_reducible repeat (first | refine kN82_ ?_ _ | refine kD82_ ?_ | refine kA82_ ?_ _)); exact BK113.out)) : P := h
theorem q82x31_ {P : Prop} (h : P := by rw [hw]; exact (by (with_reducible repeat (first | refine kN82_ ?_ _ | refine kD82_ ?_ | refine kA82_ ?_ _ | refine blk_far ?_ NB115_114.out _)); (with_reducible repeat (first | refine kN82_ ?_ _ | refine kD82_ ?_ | refine kA82_ ?_ _)); exact BK115.out)) : P := h
theorem q82x32_ {P : Prop} (h : P := by rw [hw]; exact (by (with_reducible repeat (first | refine kN82_ ?_ _ | refine kD82_ ?_ | refine kA82_ ?_ _ | refine blk_far ?_ NB121_114.out _)); (with_reducible repeat (first | refine kN82_ ?_ _ | refine kD82_ ?_ | refine kA82_ ?_ _)); exact BK121.out)) : P := h
theorem q82x33_ {P : Prop} (h : P := by first | rfl | (simp; done) | (simp [*]; done)) : P := h
theorem q82x34_ {P : Prop} (h : P := by repeat (first | (with_reducible first | exact HB.out | apply below_alloc | apply pw_below_drewN | apply below_drew1) | exact HB.out)) : P := h
theorem q82x35_ {P : Prop} (h : P := by rw [hg]; exact Nat.ne_of_lt (blk_lt (g := gb114) (o := .cells #[.bool false, .int .u32 0, .int .u32 0, .int .u32 0, .int .u32 0, .int .u32 0, .int .u32 0] 25 (0, 0)) q82x7_)) : P := h
theorem q82x36_ {P : Prop} (h : P := by rw [hg]; exact Nat.ne_of_gt (blk_lt (g := gb114) (o := .cells #[.bool false, .int .u32 0, .int .u32 0, .int .u32 0, .int .u32 0, .int .u32 0, .int .u32 0] 25 (0, 0)) q82x7_)) : P := h
def wlm (m : Nat) : S23 := ⟨((Wide.lb m 0 : Nat) : Int), ((Wide.lb m 1 : Nat) : Int), ((Wide.lb m 2 : Nat) : Int), ((Wide.lb m 3 : Nat) : Int), ((Wide.lb m 4 : Nat) : Int), ((Wide.lb m 5 : Nat) : Int)⟩
/-- A number as its sign and limbs; and the number read back (none where it is no such thing). -/
def wenc (z : Int) : S24 := ⟨decide (z < 0), wlm z.natAbs⟩
def wval (s : S24) : Int := if s.f0 = true then -(s.f1.f0 + 4294967296 * (s.f1.f1 + 4294967296 * (s.f1.f2 + 4294967296 * (s.f1.f3 + 4294967296 * (s.f1.f4 + 4294967296 * s.f1.f5))))) else s.f1.f0 + 4294967296 * (s.f1.f1 + 4294967296 * (s.f1.f2 + 4294967296 * (s.f1.f3 + 4294967296 * (s.f1.f4 + 4294967296 * s.f1.f5))))
def wun (s : S24) : Option Int := if (s.f0 = (wenc (wval s)).f0 ∧ s.f1.f0 = (wenc (wval s)).f1.f0 ∧ s.f1.f1 = (wenc (wval s)).f1.f1 ∧ s.f1.f2 = (wenc (wval s)).f1.f2 ∧ s.f1.f3 = (wenc (wval s)).f1.f3 ∧ s.f1.f4 = (wenc (wval s)).f1.f4 ∧ s.f1.f5 = (wenc (wval s)).f1.f5) ∧ (wval s).natAbs < 4294967296 ^ 6 then some (wval s) else none
theorem wide_ext {s r : S24} (h : s.f0 = r.f0 ∧ s.f1.f0 = r.f1.f0 ∧ s.f1.f1 = r.f1.f1 ∧ s.f1.f2 = r.f1.f2 ∧ s.f1.f3 = r.f1.f3 ∧ s.f1.f4 = r.f1.f4 ∧ s.f1.f5 = r.f1.f5) : s = r := by
  obtain ⟨a, ⟨b, c, d, e, f, g⟩⟩ := s
  obtain ⟨a', ⟨b', c', d', e', f', g'⟩⟩ := r
  obtain ⟨rfl, rfl, rfl, rfl, rfl, rfl, rfl⟩ := h
  rfl
theorem wun_some {s : S24} {x : Int} (h : wun s = some x) : s = wenc x ∧ x.natAbs < 4294967296 ^ 6 := by
  unfold wun at h
  split at h
  · rename_i c
    obtain rfl := Option.some.inj h
    exact ⟨wide_ext c.1, c.2⟩
  · exact absurd h (by simp)
theorem wun2 {α : Type} {a b : S24} {f : Int → Int → Option α} {r : α} (h : ((wun a).bind fun x => (wun b).bind fun y => f x y) = some r) : ∃ x y, a = wenc x ∧ b = wenc y ∧ x.natAbs < 4294967296 ^ 6 ∧ y.natAbs < 4294967296 ^ 6 ∧ f x y = some r := by
  obtain ⟨x, hx, h⟩ := Option.bind_eq_some_iff.mp h
  obtain ⟨y, hy, h⟩ := Option.bind_eq_some_iff.mp h
  exact ⟨x, y, (wun_some hx).1, (wun_some hy).1, (wun_some hx).2, (wun_some hy).2, h⟩
/-! ### spec_l01Mul: function 82 -/
def spec_l01Mul.f (k : Nat) (a0 : S24) (a1 : S24) : Option (S24 × Int) := (wun a0).bind fun x => (wun a1).bind fun y => some (wenc (Wide.fitZ (x * y)), Wide.fitC (x * y).natAbs)
theorem spec_l01Mul.mono : ∀ a0 a1 k, LeO (spec_l01Mul.f k a0 a1) (spec_l01Mul.f (k + 1) a0 a1) := by
 intros
 exact LeO.refl _
theorem spec_l01Mul.calls (k : Nat) (a0 : S24) (a1 : S24) (r1 : S24) (r2 : Int) (w : World) (h : spec_l01Mul.f k a0 a1 = some (r1, r2)) :
  Calls Try.prog 82 #[.agg #[.bool a0.f0, .int .u32 a0.f1.f0, .int .u32 a0.f1.f1, .int .u32 a0.f1.f2, .int .u32 a0.f1.f3, .int .u32 a0.f1.f4, .int .u32 a0.f1.f5], .agg #[.bool a1.f0, .int .u32 a1.f1.f0, .int .u32 a1.f1.f1, .int .u32 a1.f1.f2, .int .u32 a1.f1.f3, .int .u32 a1.f1.f4, .int .u32 a1.f1.f5]] w fun e w' => e = .returned (.tuple #[.agg #[.bool r1.f0, .int .u32 r1.f1.f0, .int .u32 r1.f1.f1, .int .u32 r1.f1.f2, .int .u32 r1.f1.f3, .int .u32 r1.f1.f4, .int .u32 r1.f1.f5], .int .i64 r2]) ∧ Below w.heap.size w w' := by
 obtain ⟨x, y, rfl, rfl, hx, hy, e⟩ := wun2 h
 obtain ⟨rfl, rfl⟩ := Prod.mk.inj (Option.some.inj e)
 exact Wide.sMulV w x y hx hy


set_option linter.defProp false
def aM83_ := @Aside0.mk
theorem q83x1_ {P : Prop} (h : P := by (with_reducible repeat (first | refine blk_drewN ?_ _ | refine blk_drew ?_ | refine blk_alloc ?_ _)); exact BK126.out) : P := h
theorem q83x2_ {P : Prop} (h : P := by repeat (first | (with_reducible first | exact HB.out | apply below_alloc | apply pw_below_drewN | apply below_drew1 | refine below_set ?_ GE126.out) | exact HB.out)) : P := h
theorem q83x3_ {P : Prop} (h : P := by repeat (first | (with_reducible first | exact HB.out | apply below_alloc | apply pw_below_drewN | apply below_drew1 | refine below_set ?_ GE126.out | refine below_set ?_ GE127.out) | exact HB.out)) : P := h
theorem q83x4_ {P : Prop} (h : P := by repeat (first | (with_reducible first | exact HB.out | apply below_alloc | apply pw_below_drewN | apply below_drew1 | refine below_set ?_ GE126.out | refine below_set ?_ GE129.out) | exact HB.out)) : P := h
theorem q83x5_ {P : Prop} (h : P := by repeat (first | (with_reducible first | exact HB.out | apply below_alloc | apply pw_below_drewN | apply below_drew1) | exact HB.out)) : P := h
theorem q83x6_ {P : Prop} (h : P := by rw [hw]; exact (by (with_reducible repeat (first | refine blk_drewN ?_ _ | refine blk_drew ?_ | refine blk_alloc ?_ _ | refine blk_far ?_ NB126_127.out _)); (with_reducible repeat (first | refine blk_drewN ?_ _ | refine blk_drew ?_ | refine blk_alloc ?_ _)); exact BK126.out)) : P := h
theorem q83x7_ {P : Prop} (h : P := by rw [hw]; exact (by (with_reducible repeat (first | refine blk_drewN ?_ _ | refine blk_drew ?_ | refine blk_alloc ?_ _ | refine blk_far ?_ NB126_129.out _)); (with_reducible repeat (first | refine blk_drewN ?_ _ | refine blk_drew ?_ | refine blk_alloc ?_ _)); exact BK126.out)) : P := h
theorem q83x8_ {P : Prop} (h : P := by rw [hw]; exact (by (with_reducible repeat (first | refine blk_drewN ?_ _ | refine blk_drew ?_ | refine blk_alloc ?_ _)); refine puts7_ (.bool false) (.int .u32 0) (.int .u32 0) (.int .u32 0) (.int .u32 0) (.int .u32 0) (.int .u32 0) ?_; (with_reducible repeat (first | refine blk_drewN ?_ _ | refine blk_drew ?_ | refine blk_alloc ?_ _)); exact BK126.out)) : P := h
theorem q83x9_ {P : Prop} (h : P := by (try simp only [List.map_toArray, List.map_cons, List.map_nil]); first | done | rfl | (simp only [List.length_drop, List.length_take]; rfl) | (simp only [List.drop_one]; done) | (simp only [List.drop_one]; rfl)) : P := h
theorem q83x10_ {P : Prop} (h : P := by rw [hg]; exact Nat.ne_of_lt (blk_lt (g := gb126) (o := .cells #[.bool false, .int .u32 0, .int .u32 0, .int .u32 0, .int .u32 0, .int .u32 0, .int .u32 0] 25 (0, 0)) q83x1_)) : P := h
theorem q83x11_ {P : Prop} (h : P := by rw [hg]; exact Nat.ne_of_gt (blk_lt (g := gb126) (o := .cells #[.bool false, .int .u32 0, .int .u32 0, .int .u32 0, .int .u32 0, .int .u32 0, .int .u32 0] 25 (0, 0)) q83x1_)) : P := h
/-! ### spec_l01Of: function 83 -/
def spec_l01Of.f (a0 : Int) : Option (S24) := if -9223372036854775808 ≤ a0 ∧ a0 < 9223372036854775808 then some (wenc a0) else none
theorem spec_l01Of.calls (a0 : Int) (r : S24) (w : World) (h : spec_l01Of.f a0 = some r) :
  Calls Try.prog 83 #[.int .i64 a0] w fun e w' => e = .returned (.agg #[.bool r.f0, .int .u32 r.f1.f0, .int .u32 r.f1.f1, .int .u32 r.f1.f2, .int .u32 r.f1.f3, .int .u32 r.f1.f4, .int .u32 r.f1.f5]) ∧ Below w.heap.size w w' := by
 unfold spec_l01Of.f at h
 split at h
 · rename_i c
   obtain rfl := Option.some.inj h
   exact Wide.sOf w a0 c.1 c.2
 · exact absurd h (by simp)





set_option linter.defProp false
def kA84_ := @blk_alloc
def kN84_ := @blk_drewN
def kD84_ := @blk_drew
def bS84_ := @below_set
def aM84_ := @Aside0.mk
def kB84_ := @blk_below
def kC84_ := @blk_cell
theorem q84x1_ {P : Prop} (h : P := by (with_reducible repeat (first | refine kN84_ ?_ _ | refine kD84_ ?_ | refine kA84_ ?_ _)); exact BK146.out) : P := h
theorem q84x2_ {P : Prop} (h : P := by (with_reducible repeat (first | refine kN84_ ?_ _ | refine kD84_ ?_ | refine kA84_ ?_ _)); exact BK149.out) : P := h
theorem q84x3_ {P : Prop} (h : P := by (with_reducible repeat (first | refine kN84_ ?_ _ | refine kD84_ ?_ | refine kA84_ ?_ _)); exact BK147.out) : P := h
theorem q84x4_ {P : Prop} (h : P := by (with_reducible repeat (first | refine kN84_ ?_ _ | refine kD84_ ?_ | refine kA84_ ?_ _)); exact BK150.out) : P := h
theorem q84x5_ {P : Prop} (h : P := by repeat (first | (with_reducible first | exact HB.out | apply below_alloc | apply pw_below_drewN | apply below_drew1 | refine bS84_ ?_ GE146.out | refine bS84_ ?_ GE147.out | refine bS84_ ?_ GE148.out | refine bS84_ ?_ GE149.out | refine bS84_ ?_ GE150.out) | exact HB.out)) : P := h
theorem q84x6_ {P : Prop} (h : P := by (with_reducible repeat (first | refine kN84_ ?_ _ | refine kD84_ ?_ | refine kA84_ ?_ _)); exact BK148.out) : P := h
theorem q84x7_ {P : Prop} (h : P := by repeat (first | (with_reducible first | exact HB.out | apply below_alloc | apply pw_below_drewN | apply below_drew1 | refine bS84_ ?_ GE146.out | refine bS84_ ?_ GE147.out | refine bS84_ ?_ GE148.out | refine bS84_ ?_ GE149.out) | exact HB.out)) : P := h
theorem q84x8_ {P : Prop} (h : P := by rw [hg]; exact Nat.ne_of_lt (blk_lt (g := gb146) (o := .cells #[.bool a0.f0, .int .u32 a0.f1.f0, .int .u32 a0.f1.f1, .int .u32 a0.f1.f2, .int .u32 a0.f1.f3, .int .u32 a0.f1.f4, .int .u32 a0.f1.f5] 25 (0, 0)) q84x1_)) : P := h
theorem q84x9_ {P : Prop} (h : P := by rw [hg]; exact Nat.ne_of_gt (blk_lt (g := gb146) (o := .cells #[.bool a0.f0, .int .u32 a0.f1.f0, .int .u32 a0.f1.f1, .int .u32 a0.f1.f2, .int .u32 a0.f1.f3, .int .u32 a0.f1.f4, .int .u32 a0.f1.f5] 25 (0, 0)) q84x1_)) : P := h
theorem q84x10_ {P : Prop} (h : P := by rw [hg]; exact Nat.ne_of_lt (blk_lt (g := gb147) (o := .cells #[.bool a1.f0, .int .u32 a1.f1.f0, .int .u32 a1.f1.f1, .int .u32 a1.f1.f2, .int .u32 a1.f1.f3, .int .u32 a1.f1.f4, .int .u32 a1.f1.f5] 25 (0, 0)) q84x3_)) : P := h
theorem q84x11_ {P : Prop} (h : P := by rw [hg]; exact Nat.ne_of_gt (blk_lt (g := gb147) (o := .cells #[.bool a1.f0, .int .u32 a1.f1.f0, .int .u32 a1.f1.f1, .int .u32 a1.f1.f2, .int .u32 a1.f1.f3, .int .u32 a1.f1.f4, .int .u32 a1.f1.f5] 25 (0, 0)) q84x3_)) : P := h
theorem q84x12_ {P : Prop} (h : P := by repeat (first | (with_reducible first | exact HB.out | apply below_alloc | apply pw_below_drewN | apply below_drew1 | refine bS84_ ?_ GE146.out | refine bS84_ ?_ GE147.out | refine bS84_ ?_ GE148.out) | exact HB.out)) : P := h
theorem q84x13_ {P : Prop} (h : P := by repeat (first | (with_reducible first | exact HB.out | apply below_alloc | apply pw_below_drewN | apply below_drew1 | refine bS84_ ?_ GE146.out | refine bS84_ ?_ GE147.out) | exact HB.out)) : P := h
theorem q84x14_ {P : Prop} (h : P := by repeat (first | (with_reducible first | exact HB.out | apply below_alloc | apply pw_below_drewN | apply below_drew1 | refine bS84_ ?_ GE146.out) | exact HB.out)) : P := h
theorem q84x15_ {P : Prop} (h : P := by (try simp only [List.map_toArray, List.map_cons, List.map_nil]); first | done | rfl | (simp only [List.length_drop, List.length_take]; rfl) | (simp only [List.drop_one]; done) | (simp only [List.drop_one]; rfl)) : P := h
theorem q84x16_ {P : Prop} (h : P := by rw [hg]; exact Nat.ne_of_lt (blk_lt (g := gb148) (o := .cells #[.bool false, .int .u32 0, .int .u32 0, .int .u32 0, .int .u32 0, .int .u32 0, .int .u32 0] 25 (0, 0)) q84x6_)) : P := h
theorem q84x17_ {P : Prop} (h : P := by rw [hg]; exact Nat.ne_of_gt (blk_lt (g := gb148) (o := .cells #[.bool false, .int .u32 0, .int .u32 0, .int .u32 0, .int .u32 0, .int .u32 0, .int .u32 0] 25 (0, 0)) q84x6_)) : P := h
theorem q84x18_ {P : Prop} (h : P := by repeat (first | (with_reducible first | exact HB.out | apply below_alloc | apply pw_below_drewN | apply below_drew1) | exact HB.out)) : P := h
theorem q84x19_ {P : Prop} (h : P := by repeat (first | (with_reducible first | exact HB.out | apply below_alloc | apply pw_below_drewN | apply below_drew1 | refine bS84_ ?_ GE146.out | refine bS84_ ?_ GE147.out | refine bS84_ ?_ GE148.out | refine bS84_ ?_ GE149.out | refine bS84_ ?_ GE150.out | refine bS84_ ?_ GE153.out) | exact HB.out)) : P := h
theorem q84x20_ {P : Prop} (h : P := by rw [hg]; exact Nat.ne_of_lt (blk_lt (g := gb149) (o := .cells #[.int .u32 a0.f1.f0, .int .u32 a0.f1.f1, .int .u32 a0.f1.f2, .int .u32 a0.f1.f3, .int .u32 a0.f1.f4, .int .u32 a0.f1.f5] 126 (0, 0)) q84x2_)) : P := h
theorem q84x21_ {P : Prop} (h : P := by rw [hg]; exact Nat.ne_of_gt (blk_lt (g := gb149) (o := .cells #[.int .u32 a0.f1.f0, .int .u32 a0.f1.f1, .int .u32 a0.f1.f2, .int .u32 a0.f1.f3, .int .u32 a0.f1.f4, .int .u32 a0.f1.f5] 126 (0, 0)) q84x2_)) : P := h
theorem q84x22_ {P : Prop} (h : P := by rw [hw]; exact (by (with_reducible repeat (first | refine kN84_ ?_ _ | refine kD84_ ?_ | refine kA84_ ?_ _)); refine puts6_ (.int .u32 0) (.int .u32 0) (.int .u32 0) (.int .u32 0) (.int .u32 0) (.int .u32 0) ?_; (with_reducible repeat (first | refine kN84_ ?_ _ | refine kD84_ ?_ | refine kA84_ ?_ _)); exact BK149.out)) : P := h
theorem q84x23_ {P : Prop} (h : P := by rw [hw]; exact (by (with_reducible repeat (first | refine kN84_ ?_ _ | refine kD84_ ?_ | refine kA84_ ?_ _)); refine puts6_ (.int .u32 0) (.int .u32 0) (.int .u32 0) (.int .u32 0) (.int .u32 0) (.int .u32 0) ?_; (with_reducible repeat (first | refine kN84_ ?_ _ | refine kD84_ ?_ | refine kA84_ ?_ _)); exact BK150.out)) : P := h
theorem q84x24_ {P : Prop} (h : P := by (with_reducible repeat (first | refine kN84_ ?_ _ | refine kD84_ ?_ | refine kA84_ ?_ _)); refine puts7_ (.bool false) (.int .u32 0) (.int .u32 0) (.int .u32 0) (.int .u32 0) (.int .u32 0) (.int .u32 0) ?_; (with_reducible repeat (first | refine kN84_ ?_ _ | refine kD84_ ?_ | refine kA84_ ?_ _)); exact BK148.out) : P := h
theorem q84x25_ {P : Prop} (h : P := by rw [hw]; exact (by (with_reducible repeat (first | refine kN84_ ?_ _ | refine kD84_ ?_ | refine kA84_ ?_ _ | refine blk_far ?_ NB146_149.out _)); (with_reducible repeat (first | refine kN84_ ?_ _ | refine kD84_ ?_ | refine kA84_ ?_ _)); exact BK146.out)) : P := h
theorem q84x26_ {P : Prop} (h : P := by rw [hw]; exact (by (with_reducible repeat (first | refine kN84_ ?_ _ | refine kD84_ ?_ | refine kA84_ ?_ _ | refine blk_far ?_ NB147_149.out _)); (with_reducible repeat (first | refine kN84_ ?_ _ | refine kD84_ ?_ | refine kA84_ ?_ _)); exact BK147.out)) : P := h
theorem q84x27_ {P : Prop} (h : P := by rw [hw]; exact (by (with_reducible repeat (first | refine kN84_ ?_ _ | refine kD84_ ?_ | refine kA84_ ?_ _ | refine blk_far ?_ NB148_149.out _)); (with_reducible repeat (first | refine kN84_ ?_ _ | refine kD84_ ?_ | refine kA84_ ?_ _)); exact BK148.out)) : P := h
theorem q84x28_ {P : Prop} (h : P := by rw [hw]; exact (by (with_reducible repeat (first | refine kN84_ ?_ _ | refine kD84_ ?_ | refine kA84_ ?_ _ | refine blk_far ?_ NB146_150.out _)); (with_reducible repeat (first | refine kN84_ ?_ _ | refine kD84_ ?_ | refine kA84_ ?_ _)); exact BK146.out)) : P := h
theorem q84x29_ {P : Prop} (h : P := by rw [hw]; exact (by (with_reducible repeat (first | refine kN84_ ?_ _ | refine kD84_ ?_ | refine kA84_ ?_ _ | refine blk_far ?_ NB147_150.out _)); (with_reducible repeat (first | refine kN84_ ?_ _ | refine kD84_ ?_ | refine kA84_ ?_ _)); exact BK147.out)) : P := h
theorem q84x30_ {P : Prop} (h : P := by rw [hw]; exact (by (with_reducible repeat (first | refine kN84_ ?_ _ | refine kD84_ ?_ | refine kA84_ ?_ _ | refine blk_far ?_ NB148_150.out _)); (with_reducible repeat (first | refine kN84_ ?_ _ | refine kD84_ ?_ | refine kA84_ ?_ _)); exact BK148.out)) : P := h
theorem q84x31_ {P : Prop} (h : P := by rw [hw]; exact (by (with_reducible repeat (first | refine kN84_ ?_ _ | refine kD84_ ?_ | refine kA84_ ?_ _ | refine blk_far ?_ NB149_150.out _)); (with_reducible repeat (first | refine kN84_ ?_ _ | refine kD84_ ?_ | refine kA84_ ?_ _)); exact BK149.out)) : P := h
theorem q84x32_ {P : Prop} (h : P := by rw [hw]; exact (by (with_reducible repeat (first | refine kN84_ ?_ _ | refine kD84_ ?_ | refine kA84_ ?_ _)); refine puts6_ (.int .u32 0) (.int .u32 0) (.int .u32 0) (.int .u32 0) (.int .u32 0) (.int .u32 0) ?_; (with_reducible repeat (first | refine kN84_ ?_ _ | refine kD84_ ?_ | refine kA84_ ?_ _)); exact BK153.out)) : P := h
theorem q84x33_ {P : Prop} (h : P := by rw [hw]; exact (by (with_reducible repeat (first | refine kN84_ ?_ _ | refine kD84_ ?_ | refine kA84_ ?_ _ | refine blk_far ?_ NB146_153.out _)); (with_reducible repeat (first | refine kN84_ ?_ _ | refine kD84_ ?_ | refine kA84_ ?_ _)); exact BK146.out)) : P := h
theorem q84x34_ {P : Prop} (h : P := by rw [hw]; exact (by (with_reducible repeat (first | refine kN84_ ?_ _ | refine kD84_ ?_ | refine kA84_ ?_ _ | refine blk_far ?_ NB147_153.out _)); (with_reducible repeat (first | refine kN84_ ?_ _ | refine kD84_ ?_ | refine kA84_ ?_ _)); exact BK147.out)) : P := h
theorem q84x35_ {P : Prop} (h : P := by rw [hw]; exact (by (with_reducible repeat (first | refine kN84_ ?_ _ | refine kD84_ ?_ | refine kA84_ ?_ _ | refine blk_far ?_ NB148_153.out _)); (with_reducible repeat (first | refine kN84_ ?_ _ | refine kD84_ ?_ | refine kA84_ ?_ _)); exact BK148.out)) : P := h
theorem q84x36_ {P : Prop} (h : P := by rw [hw]; exact (by (with_reducible repeat (first | refine kN84_ ?_ _ | refine kD84_ ?_ | refine kA84_ ?_ _ | refine blk_far ?_ NB149_153.out _)); (with_reducible repeat (first | refine kN84_ ?_ _ | refine kD84_ ?_ | refine kA84_ ?_ _)); exact BK149.out)) : P := h
theorem q84x37_ {P : Prop} (h : P := by rw [hw]; exact (by (with_reducible repeat (first | refine kN84_ ?_ _ | refine kD84_ ?_ | refine kA84_ ?_ _ | refine blk_far ?_ NB150_153.out _)); (with_reducible repeat (first | refine kN84_ ?_ _ | refine kD84_ ?_ | refine kA84_ ?_ _)); exact BK150.out)) : P := h
theorem q84x38_ {P : Prop} (h : P := by rw [hw]; exact (by (with_reducible repeat (first | refine kN84_ ?_ _ | refine kD84_ ?_ | refine kA84_ ?_ _ | refine blk_far ?_ NB146_148.out _)); (with_reducible repeat (first | refine kN84_ ?_ _ | refine kD84_ ?_ | refine kA84_ ?_ _)); exact BK146.out)) : P := h
theorem q84x39_ {P : Prop} (h : P := by rw [hw]; exact (by (with_reducible repeat (first | refine kN84_ ?_ _ | refine kD84_ ?_ | refine kA84_ ?_ _ | refine blk_far ?_ NB147_148.out _)); (with_reducible repeat (first | refine kN84_ ?_ _ | refine kD84_ ?_ | refine kA84_ ?_ _)); exact BK147.out)) : P := h
theorem q84x40_ {P : Prop} (h : P := by rw [hw]; exact (by (with_reducible repeat (first | refine kN84_ ?_ _ | refine kD84_ ?_ | refine kA84_ ?_ _ | refine blk_far ?_ NB149_148.out _)); (with_reducible repeat (first | refine kN84_ ?_ _ | refine kD84_ ?_ | refine kA84_ ?_ _)); exact BK149.out)) : P := h
theorem q84x41_ {P : Prop} (h : P := by rw [hw]; exact (by (with_reducible repeat (first | refine kN84_ ?_ _ | refine kD84_ ?_ | refine kA84_ ?_ _ | refine blk_far ?_ NB150_148.out _)); (with_reducible repeat (first | refine kN84_ ?_ _ | refine kD84_ ?_ | refine kA84_ ?_ _)); exact BK150.out)) : P := h
theorem q84x42_ {P : Prop} (h : P := by rw [hw]; exact (by (with_reducible repeat (first | refine kN84_ ?_ _ | refine kD84_ ?_ | refine kA84_ ?_ _ | refine blk_far ?_ NB153_148.out _)); (with_reducible repeat (first | refine kN84_ ?_ _ | refine kD84_ ?_ | refine kA84_ ?_ _)); exact BK153.out)) : P := h
theorem q84x43_ {P : Prop} (h : P := by rw [hg]; exact (below_size q84x18_)) : P := h
theorem q84x44_ {P : Prop} (h : P := by rw [hg]; exact (below_size q84x14_)) : P := h
theorem q84x45_ {P : Prop} (h : P := by rw [hg]; exact (below_size q84x13_)) : P := h
theorem q84x46_ {P : Prop} (h : P := by rw [hg]; exact (below_size q84x12_)) : P := h
theorem q84x47_ {P : Prop} (h : P := by rw [hg]; exact (below_size q84x7_)) : P := h
theorem q84x48_ {P : Prop} (h : P := by rw [hg]; exact Nat.ne_of_lt (blk_lt (g := gb150) (o := .cells #[.int .u32 a1.f1.f0, .int .u32 a1.f1.f1, .int .u32 a1.f1.f2, .int .u32 a1.f1.f3, .int .u32 a1.f1.f4, .int .u32 a1.f1.f5] 126 (0, 0)) q84x4_)) : P := h
theorem q84x49_ {P : Prop} (h : P := by rw [hg]; exact Nat.ne_of_gt (blk_lt (g := gb150) (o := .cells #[.int .u32 a1.f1.f0, .int .u32 a1.f1.f1, .int .u32 a1.f1.f2, .int .u32 a1.f1.f3, .int .u32 a1.f1.f4, .int .u32 a1.f1.f5] 126 (0, 0)) q84x4_)) : P := h
theorem q84x50_ {P : Prop} (h : P := by simp only [Act.put, List.setIfInBounds_toArray, List.set_cons_zero, List.set_cons_succ, i64_w, i32_w]; rfl) : P := h
/-! ### spec_l01Add: function 84 -/
def spec_l01Add.f (k : Nat) (a0 : S24) (a1 : S24) : Option (S24 × Int) := (wun a0).bind fun x => (wun a1).bind fun y => some (wenc (Wide.fitZ (x + y)), Wide.fitC (x + y).natAbs)
theorem spec_l01Add.mono : ∀ a0 a1 k, LeO (spec_l01Add.f k a0 a1) (spec_l01Add.f (k + 1) a0 a1) := by
 intros
 exact LeO.refl _
theorem spec_l01Add.calls (k : Nat) (a0 : S24) (a1 : S24) (r1 : S24) (r2 : Int) (w : World) (h : spec_l01Add.f k a0 a1 = some (r1, r2)) :
  Calls Try.prog 84 #[.agg #[.bool a0.f0, .int .u32 a0.f1.f0, .int .u32 a0.f1.f1, .int .u32 a0.f1.f2, .int .u32 a0.f1.f3, .int .u32 a0.f1.f4, .int .u32 a0.f1.f5], .agg #[.bool a1.f0, .int .u32 a1.f1.f0, .int .u32 a1.f1.f1, .int .u32 a1.f1.f2, .int .u32 a1.f1.f3, .int .u32 a1.f1.f4, .int .u32 a1.f1.f5]] w fun e w' => e = .returned (.tuple #[.agg #[.bool r1.f0, .int .u32 r1.f1.f0, .int .u32 r1.f1.f1, .int .u32 r1.f1.f2, .int .u32 r1.f1.f3, .int .u32 r1.f1.f4, .int .u32 r1.f1.f5], .int .i64 r2]) ∧ Below w.heap.size w w' := by
 obtain ⟨x, y, rfl, rfl, hx, hy, e⟩ := wun2 h
 obtain ⟨rfl, rfl⟩ := Prod.mk.inj (Option.some.inj e)
 exact Wide.sAddV w x y hx hy


open Go.Proofs.Ytbomadebdekjjaa.Wide in
def WZ (z : Int) : Array Value := Wide.W7 (decide (z < 0)) z.natAbs
/-! ### spec_l04Parts: function 48, by hand -/
open Go.Proofs.Ytbomadebdekjjaa.Wide in
def lpR (a0 : Int) (l1 : List Int) (a2 : Int) : Nat → Int → Int → Int → Int → Int → Option (S24 × S24 × Int)
  | 0, _, _, _, _, _ => none
  | k + 1, i, p, q, p0, q0 => if i ≤ a2 then (spec_l04RootAt.f a0 l1 i).bind fun a => if -9223372036854775808 ≤ a ∧ a < 9223372036854775808 then
      (if Wide.fitC (a * p).natAbs = 0 ∧ Wide.fitC (a * q).natAbs = 0 then
        (if Wide.fitC (Wide.fitZ (a * p) + p0).natAbs = 0 ∧ Wide.fitC (Wide.fitZ (a * q) + q0).natAbs = 0 then lpR a0 l1 a2 k (wrap64 (i + 1)) (Wide.fitZ (Wide.fitZ (a * p) + p0)) (Wide.fitZ (Wide.fitZ (a * q) + q0)) p q else some (wenc 0, wenc 0, 3))
      else some (wenc 0, wenc 0, 3))
      else none
    else some (wenc p, wenc q, 0)
def spec_l04Parts.f (k : Nat) (a0 : Int) (l1 : List Int) (a2 : Int) : Option (S24 × S24 × Int) := lpR a0 l1 a2 k 0 1 0 0 1
theorem lpR_mono (a0 : Int) (l1 : List Int) (a2 : Int) : ∀ (k : Nat) (i p q p0 q0 : Int), LeO (lpR a0 l1 a2 k i p q p0 q0) (lpR a0 l1 a2 (k + 1) i p q p0 q0)
  | 0, _, _, _, _, _ => LeO.none _
  | k + 1, i, p, q, p0, q0 => by
    rw [lpR, lpR]
    exact LeO.ite (LeO.bind (LeO.refl _) (fun a => LeO.ite (LeO.ite (LeO.ite (lpR_mono a0 l1 a2 k _ _ _ _ _) (LeO.refl _)) (LeO.refl _)) (LeO.none _))) (LeO.refl _)
theorem spec_l04Parts.mono : ∀ a0 a1 a2 k, LeO (spec_l04Parts.f k a0 a1 a2) (spec_l04Parts.f (k + 1) a0 a1 a2) := fun _ _ _ k => lpR_mono _ _ _ k _ _ _ _ _
open Go.Proofs.Ytbomadebdekjjaa.Wide in
set_option maxHeartbeats 8000000 in
set_option maxRecDepth 100000 in
theorem spec_l04Parts.calls (k : Nat) (a0 : Int) (A1 : Option Addr) (c1 : Nat) (l1 : List Int) (a2 : Int) (r1 r2 : S24) (r3 : Int) (w : World) (hr1 : Kd.C (Kd.int .i64) w A1 l1.length l1) (hc1 : l1.length ≤ c1) (h : spec_l04Parts.f k a0 l1 a2 = some (r1, r2, r3)) :
    Calls Try.prog 48 #[.int .i64 a0, .slice A1 l1.length c1, .int .i64 a2] w fun e w' => e = .returned (.tuple #[.agg #[.bool r1.f0, .int .u32 r1.f1.f0, .int .u32 r1.f1.f1, .int .u32 r1.f1.f2, .int .u32 r1.f1.f3, .int .u32 r1.f1.f4, .int .u32 r1.f1.f5], .agg #[.bool r2.f0, .int .u32 r2.f1.f0, .int .u32 r2.f1.f1, .int .u32 r2.f1.f2, .int .u32 r2.f1.f3, .int .u32 r2.f1.f4, .int .u32 r2.f1.f5], .int .i64 r3]) ∧ Below w.heap.size w w' := by
  have HR := Aside0.mk hr1
  have HC := Aside0.mk hc1
  have H := Aside0.mk h
  have hu25 := Try.underlying25
  clear hr1 hc1 h
  have HO := Aside0.mk (OB.start w)
  go_enter Try.func48, Try.ntmps48
  go_wp2_with (first | ((with_reducible refine gate_dst (N := 6) rfl ?_); refine box_event ?hg (N := 6) ?hd (cs := #[.bool false, .int .u32 0, .int .u32 0, .int .u32 0, .int .u32 0, .int .u32 0, .int .u32 0]) (t := 25) ?hr ?_; (case hd => rfl); (case hg => rfl); (case hr => first | (go_simp; done) | (go_simp; rfl)); intro g1 hg w1 hbox hb; replace HO := Aside0.mk (HO.out.box hg hbox hb); clear hg hbox hb) | ((with_reducible refine gate_dst (N := 7) rfl ?_); refine box_event ?hg (N := 7) ?hd (cs := #[.bool false, .int .u32 0, .int .u32 0, .int .u32 0, .int .u32 0, .int .u32 0, .int .u32 0]) (t := 25) ?hr ?_; (case hd => rfl); (case hg => rfl); (case hr => first | (go_simp; done) | (go_simp; rfl)); intro g2 hg w1 hbox hb; replace HO := Aside0.mk (HO.out.box hg hbox hb); clear hg hbox hb) | (first | (go_at_call 83; (with_reducible refine (Wide.sOf _ 1 (by decide) (by decide)).mono ?_); rintro e w4 ⟨rfl, hb⟩; replace HO := Aside0.mk (HO.out.below hb); clear hb) | (go_at_call 83; (with_reducible refine (Wide.sOf _ 0 (by decide) (by decide)).mono ?_); rintro e w4 ⟨rfl, hb⟩; replace HO := Aside0.mk (HO.out.below hb); clear hb)) | ((with_reducible refine gate_dst (N := 9) rfl ?_); refine box_event ?hg (N := 9) ?hd (cs := #[.bool false, .int .u32 0, .int .u32 0, .int .u32 0, .int .u32 0, .int .u32 0, .int .u32 0]) (t := 25) ?hr ?_; (case hd => rfl); (case hg => rfl); (case hr => first | (go_simp; done) | (go_simp; rfl)); intro g3 hg w5 hbox hb; replace HO := Aside0.mk (HO.out.box hg hbox hb); clear hg hbox hb) | ((with_reducible refine gate_store (t := 25) (p := 9) rfl ?_); refine store_event (t := 25) (p := 9) (v := ?vo_34) (w1 := (World.setCell (World.setCell (World.setCell (World.setCell (World.setCell (World.setCell (World.setCell w5 ⟨g3, 0, none⟩ (.bool (decide ((1 : Int) < 0)))) ⟨g3, 1, none⟩ (.int .u32 ((lb (1 : Int).natAbs 0 : Nat) : Int))) ⟨g3, 2, none⟩ (.int .u32 ((lb (1 : Int).natAbs 1 : Nat) : Int))) ⟨g3, 3, none⟩ (.int .u32 ((lb (1 : Int).natAbs 2 : Nat) : Int))) ⟨g3, 4, none⟩ (.int .u32 ((lb (1 : Int).natAbs 3 : Nat) : Int))) ⟨g3, 5, none⟩ (.int .u32 ((lb (1 : Int).natAbs 4 : Nat) : Int))) ⟨g3, 6, none⟩ (.int .u32 ((lb (1 : Int).natAbs 5 : Nat) : Int)))) ?hg ?ho ?hn ?hr ?_; (case ho => rfl); (case hg => rfl); (case hn => rfl); (case hr => (try simp only [Act.put, List.setIfInBounds_toArray, List.set_cons_zero, List.set_cons_succ]); exact run_put7_ rfl (show _ = Value.pointer (some ⟨g3, 0, none⟩) from by rfl) (show _ = Value.agg #[.bool (decide ((1 : Int) < 0)), .int .u32 ((lb (1 : Int).natAbs 0 : Nat) : Int), .int .u32 ((lb (1 : Int).natAbs 1 : Nat) : Int), .int .u32 ((lb (1 : Int).natAbs 2 : Nat) : Int), .int .u32 ((lb (1 : Int).natAbs 3 : Nat) : Int), .int .u32 ((lb (1 : Int).natAbs 4 : Nat) : Int), .int .u32 ((lb (1 : Int).natAbs 5 : Nat) : Int)] from by rfl) (HO.out.at 0 rfl) (by kernel_rfl) (by rfl)); intro w6 hw; replace HO := Aside0.mk (HO.out.put7 0 rfl hw rfl); clear hw) | ((with_reducible refine gate_dst (N := 10) rfl ?_); refine box_event ?hg (N := 10) ?hd (cs := #[.bool false, .int .u32 0, .int .u32 0, .int .u32 0, .int .u32 0, .int .u32 0, .int .u32 0]) (t := 25) ?hr ?_; (case hd => rfl); (case hg => rfl); (case hr => first | (go_simp; done) | (go_simp; rfl)); intro g4 hg w5 hbox hb; replace HO := Aside0.mk (HO.out.box hg hbox hb); clear hg hbox hb) | ((with_reducible refine gate_store (t := 25) (p := 10) rfl ?_); refine store_event (t := 25) (p := 10) (v := ?vo_35) (w1 := (World.setCell (World.setCell (World.setCell (World.setCell (World.setCell (World.setCell (World.setCell w5 ⟨g4, 0, none⟩ (.bool false)) ⟨g4, 1, none⟩ (.int .u32 0)) ⟨g4, 2, none⟩ (.int .u32 0)) ⟨g4, 3, none⟩ (.int .u32 0)) ⟨g4, 4, none⟩ (.int .u32 0)) ⟨g4, 5, none⟩ (.int .u32 0)) ⟨g4, 6, none⟩ (.int .u32 0))) ?hg ?ho ?hn ?hr ?_; (case ho => rfl); (case hg => rfl); (case hn => rfl); (case hr => (try simp only [Act.put, List.setIfInBounds_toArray, List.set_cons_zero, List.set_cons_succ]); exact run_put7_ rfl (show _ = Value.pointer (some ⟨g4, 0, none⟩) from by rfl) (show _ = Value.agg #[.bool false, .int .u32 0, .int .u32 0, .int .u32 0, .int .u32 0, .int .u32 0, .int .u32 0] from by rfl) (HO.out.at 0 rfl) (by kernel_rfl) (by rfl)); intro w6 hw; replace HO := Aside0.mk (HO.out.put7 0 rfl hw rfl); clear hw) | ((with_reducible refine gate_dst (N := 11) rfl ?_); refine box_event ?hg (N := 11) ?hd (cs := #[.bool false, .int .u32 0, .int .u32 0, .int .u32 0, .int .u32 0, .int .u32 0, .int .u32 0]) (t := 25) ?hr ?_; (case hd => rfl); (case hg => rfl); (case hr => first | (go_simp; done) | (go_simp; rfl)); intro g5 hg w5 hbox hb; replace HO := Aside0.mk (HO.out.box hg hbox hb); clear hg hbox hb) | ((with_reducible refine gate_store (t := 25) (p := 11) rfl ?_); refine store_event (t := 25) (p := 11) (v := ?vo_36) (w1 := (World.setCell (World.setCell (World.setCell (World.setCell (World.setCell (World.setCell (World.setCell w5 ⟨g5, 0, none⟩ (.bool false)) ⟨g5, 1, none⟩ (.int .u32 0)) ⟨g5, 2, none⟩ (.int .u32 0)) ⟨g5, 3, none⟩ (.int .u32 0)) ⟨g5, 4, none⟩ (.int .u32 0)) ⟨g5, 5, none⟩ (.int .u32 0)) ⟨g5, 6, none⟩ (.int .u32 0))) ?hg ?ho ?hn ?hr ?_; (case ho => rfl); (case hg => rfl); (case hn => rfl); (case hr => (try simp only [Act.put, List.setIfInBounds_toArray, List.set_cons_zero, List.set_cons_succ]); exact run_put7_ rfl (show _ = Value.pointer (some ⟨g5, 0, none⟩) from by rfl) (show _ = Value.agg #[.bool false, .int .u32 0, .int .u32 0, .int .u32 0, .int .u32 0, .int .u32 0, .int .u32 0] from by rfl) (HO.out.at 0 rfl) (by kernel_rfl) (by rfl)); intro w6 hw; replace HO := Aside0.mk (HO.out.put7 0 rfl hw rfl); clear hw) | ((with_reducible refine gate_dst (N := 12) rfl ?_); refine box_event ?hg (N := 12) ?hd (cs := #[.bool false, .int .u32 0, .int .u32 0, .int .u32 0, .int .u32 0, .int .u32 0, .int .u32 0]) (t := 25) ?hr ?_; (case hd => rfl); (case hg => rfl); (case hr => first | (go_simp; done) | (go_simp; rfl)); intro g6 hg w5 hbox hb; replace HO := Aside0.mk (HO.out.box hg hbox hb); clear hg hbox hb) | ((with_reducible refine gate_store (t := 25) (p := 12) rfl ?_); refine store_event (t := 25) (p := 12) (v := ?vo_37) (w1 := (World.setCell (World.setCell (World.setCell (World.setCell (World.setCell (World.setCell (World.setCell w5 ⟨g6, 0, none⟩ (.bool (decide ((1 : Int) < 0)))) ⟨g6, 1, none⟩ (.int .u32 ((lb (1 : Int).natAbs 0 : Nat) : Int))) ⟨g6, 2, none⟩ (.int .u32 ((lb (1 : Int).natAbs 1 : Nat) : Int))) ⟨g6, 3, none⟩ (.int .u32 ((lb (1 : Int).natAbs 2 : Nat) : Int))) ⟨g6, 4, none⟩ (.int .u32 ((lb (1 : Int).natAbs 3 : Nat) : Int))) ⟨g6, 5, none⟩ (.int .u32 ((lb (1 : Int).natAbs 4 : Nat) : Int))) ⟨g6, 6, none⟩ (.int .u32 ((lb (1 : Int).natAbs 5 : Nat) : Int)))) ?hg ?ho ?hn ?hr ?_; (case ho => rfl); (case hg => rfl); (case hn => rfl); (case hr => (try simp only [Act.put, List.setIfInBounds_toArray, List.set_cons_zero, List.set_cons_succ]); exact run_put7_ rfl (show _ = Value.pointer (some ⟨g6, 0, none⟩) from by rfl) (show _ = Value.agg #[.bool (decide ((1 : Int) < 0)), .int .u32 ((lb (1 : Int).natAbs 0 : Nat) : Int), .int .u32 ((lb (1 : Int).natAbs 1 : Nat) : Int), .int .u32 ((lb (1 : Int).natAbs 2 : Nat) : Int), .int .u32 ((lb (1 : Int).natAbs 3 : Nat) : Int), .int .u32 ((lb (1 : Int).natAbs 4 : Nat) : Int), .int .u32 ((lb (1 : Int).natAbs 5 : Nat) : Int)] from by rfl) (HO.out.at 0 rfl) (by kernel_rfl) (by rfl)); intro w6 hw; replace HO := Aside0.mk (HO.out.put7 0 rfl hw rfl); clear hw))
  go_loopg [13] k (fun kq v13 w' => ∃ (i p q p0 q0 : Int), v13 = .int .i64 i ∧ Aside0 (lpR a0 l1 a2 kq i p q p0 q0 = some (r1, r2, r3)) ∧ Aside0 (kq ≤ k) ∧ Aside0 (p.natAbs < 4294967296 ^ 6 ∧ q.natAbs < 4294967296 ^ 6 ∧ p0.natAbs < 4294967296 ^ 6 ∧ q0.natAbs < 4294967296 ^ 6) ∧ Aside0 (OB w.heap.size w w' [(g6, WZ q0, 25), (g5, WZ p0, 25), (g4, WZ q, 25), (g3, WZ p, 25), (g2, WZ 0, 25), (g1, WZ 0, 25)]))
  case atStart => exact ⟨0, 1, 0, 0, 1, rfl, H, ⟨Nat.le_refl _⟩, ⟨by decide⟩, ⟨HO.out⟩⟩
  case round =>
    clear HO H
    obtain ⟨i, p, q, p0, q0, rfl, H, HK, HS, HO⟩ := hrel
    cases gk with
    | zero => exact absurd H.out (by simp [lpR])
    | succ k1 =>
    have h := H.out
    rw [lpR] at h
    by_cases c : i ≤ a2
    · rw [if_pos c] at h
      obtain ⟨a, ha, h⟩ := Option.bind_eq_some_iff.mp h
      have HT := Aside0.mk ha
      clear ha H
      have c2 : decide (i ≤ a2) = true := decide_eq_true c
      clear c
      by_cases ca : -9223372036854775808 ≤ a ∧ a < 9223372036854775808
      · rw [if_pos ca] at h
        have CA := Aside0.mk ca
        have HA := Aside0.mk (Wide.abs_small ca.1 ca.2)
        obtain ⟨X1, eX1⟩ : ∃ z, Wide.fitZ (a * p) = z := ⟨_, rfl⟩
        obtain ⟨X2, eX2⟩ : ∃ z, Wide.fitZ (a * q) = z := ⟨_, rfl⟩
        obtain ⟨e1, h1⟩ : ∃ z, Wide.fitC (a * p).natAbs = z := ⟨_, rfl⟩
        obtain ⟨e2, h2⟩ : ∃ z, Wide.fitC (a * q).natAbs = z := ⟨_, rfl⟩
        have HX1 : Aside0 (X1.natAbs < 4294967296 ^ 6) := ⟨eX1 ▸ Wide.fitZ_lt _⟩
        have HX2 : Aside0 (X2.natAbs < 4294967296 ^ 6) := ⟨eX2 ▸ Wide.fitZ_lt _⟩
        rw [eX1, eX2, h1, h2] at h
        obtain ⟨P1, eP1⟩ : ∃ z, Wide.fitZ (X1 + p0) = z := ⟨_, rfl⟩
        obtain ⟨Q1, eQ1⟩ : ∃ z, Wide.fitZ (X2 + q0) = z := ⟨_, rfl⟩
        obtain ⟨e3, h3⟩ : ∃ z, Wide.fitC (X1 + p0).natAbs = z := ⟨_, rfl⟩
        obtain ⟨e4, h4⟩ : ∃ z, Wide.fitC (X2 + q0).natAbs = z := ⟨_, rfl⟩
        have HP1 : Aside0 (P1.natAbs < 4294967296 ^ 6) := ⟨eP1 ▸ Wide.fitZ_lt _⟩
        have HQ1 : Aside0 (Q1.natAbs < 4294967296 ^ 6) := ⟨eQ1 ▸ Wide.fitZ_lt _⟩
        rw [eP1, eQ1, h3, h4] at h
        have EX1 := Aside0.mk eX1
        have EX2 := Aside0.mk eX2
        have EP1 := Aside0.mk eP1
        have EQ1 := Aside0.mk eQ1
        have O1 := Aside0.mk h1
        have O2 := Aside0.mk h2
        have O3 := Aside0.mk h3
        have O4 := Aside0.mk h4
        clear ca eX1 eX2 eP1 eQ1 h1 h2 h3 h4
        have M1 : Aside0 (∀ W : World, Calls Try.prog 82 #[.agg #[.bool (decide (a < 0)), .int .u32 ((lb a.natAbs 0 : Nat) : Int), .int .u32 ((lb a.natAbs 1 : Nat) : Int), .int .u32 ((lb a.natAbs 2 : Nat) : Int), .int .u32 ((lb a.natAbs 3 : Nat) : Int), .int .u32 ((lb a.natAbs 4 : Nat) : Int), .int .u32 ((lb a.natAbs 5 : Nat) : Int)], .agg #[.bool (decide (p < 0)), .int .u32 ((lb p.natAbs 0 : Nat) : Int), .int .u32 ((lb p.natAbs 1 : Nat) : Int), .int .u32 ((lb p.natAbs 2 : Nat) : Int), .int .u32 ((lb p.natAbs 3 : Nat) : Int), .int .u32 ((lb p.natAbs 4 : Nat) : Int), .int .u32 ((lb p.natAbs 5 : Nat) : Int)]] W fun e w' => e = .returned (.tuple #[WV X1, .int .i64 e1]) ∧ Below W.heap.size W w') := ⟨fun W => Wide.sMulE W a p X1 e1 HA.out HS.out.1 EX1.out O1.out⟩
        have M2 : Aside0 (∀ W : World, Calls Try.prog 82 #[.agg #[.bool (decide (a < 0)), .int .u32 ((lb a.natAbs 0 : Nat) : Int), .int .u32 ((lb a.natAbs 1 : Nat) : Int), .int .u32 ((lb a.natAbs 2 : Nat) : Int), .int .u32 ((lb a.natAbs 3 : Nat) : Int), .int .u32 ((lb a.natAbs 4 : Nat) : Int), .int .u32 ((lb a.natAbs 5 : Nat) : Int)], .agg #[.bool (decide (q < 0)), .int .u32 ((lb q.natAbs 0 : Nat) : Int), .int .u32 ((lb q.natAbs 1 : Nat) : Int), .int .u32 ((lb q.natAbs 2 : Nat) : Int), .int .u32 ((lb q.natAbs 3 : Nat) : Int), .int .u32 ((lb q.natAbs 4 : Nat) : Int), .int .u32 ((lb q.natAbs 5 : Nat) : Int)]] W fun e w' => e = .returned (.tuple #[WV X2, .int .i64 e2]) ∧ Below W.heap.size W w') := ⟨fun W => Wide.sMulE W a q X2 e2 HA.out HS.out.2.1 EX2.out O2.out⟩
        have M3 : Aside0 (∀ W : World, Calls Try.prog 84 #[.agg #[.bool (decide (X1 < 0)), .int .u32 ((lb X1.natAbs 0 : Nat) : Int), .int .u32 ((lb X1.natAbs 1 : Nat) : Int), .int .u32 ((lb X1.natAbs 2 : Nat) : Int), .int .u32 ((lb X1.natAbs 3 : Nat) : Int), .int .u32 ((lb X1.natAbs 4 : Nat) : Int), .int .u32 ((lb X1.natAbs 5 : Nat) : Int)], .agg #[.bool (decide (p0 < 0)), .int .u32 ((lb p0.natAbs 0 : Nat) : Int), .int .u32 ((lb p0.natAbs 1 : Nat) : Int), .int .u32 ((lb p0.natAbs 2 : Nat) : Int), .int .u32 ((lb p0.natAbs 3 : Nat) : Int), .int .u32 ((lb p0.natAbs 4 : Nat) : Int), .int .u32 ((lb p0.natAbs 5 : Nat) : Int)]] W fun e w' => e = .returned (.tuple #[WV P1, .int .i64 e3]) ∧ Below W.heap.size W w') := ⟨fun W => Wide.sAddE W X1 p0 P1 e3 HX1.out HS.out.2.2.1 EP1.out O3.out⟩
        have M4 : Aside0 (∀ W : World, Calls Try.prog 84 #[.agg #[.bool (decide (X2 < 0)), .int .u32 ((lb X2.natAbs 0 : Nat) : Int), .int .u32 ((lb X2.natAbs 1 : Nat) : Int), .int .u32 ((lb X2.natAbs 2 : Nat) : Int), .int .u32 ((lb X2.natAbs 3 : Nat) : Int), .int .u32 ((lb X2.natAbs 4 : Nat) : Int), .int .u32 ((lb X2.natAbs 5 : Nat) : Int)], .agg #[.bool (decide (q0 < 0)), .int .u32 ((lb q0.natAbs 0 : Nat) : Int), .int .u32 ((lb q0.natAbs 1 : Nat) : Int), .int .u32 ((lb q0.natAbs 2 : Nat) : Int), .int .u32 ((lb q0.natAbs 3 : Nat) : Int), .int .u32 ((lb q0.natAbs 4 : Nat) : Int), .int .u32 ((lb q0.natAbs 5 : Nat) : Int)]] W fun e w' => e = .returned (.tuple #[WV Q1, .int .i64 e4]) ∧ Below W.heap.size W w') := ⟨fun W => Wide.sAddE W X2 q0 Q1 e4 HX2.out HS.out.2.2.2 EQ1.out O4.out⟩
        by_cases z1 : e1 = 0
        · have y1 : (e1 == 0) = true := by rw [z1]; rfl
          by_cases z2 : e2 = 0
          · have y2 : (e2 == 0) = true := by rw [z2]; rfl
            rw [if_pos ⟨z1, z2⟩] at h
            by_cases z3 : e3 = 0
            · have y3 : (e3 == 0) = true := by rw [z3]; rfl
              by_cases z4 : e4 = 0
              · have y4 : (e4 == 0) = true := by rw [z4]; rfl
                rw [if_pos ⟨z3, z4⟩] at h
                have H := Aside0.mk h
                subst z1 z2 z3 z4
                clear h y1 y2 y3 y4
                go_wp2_with (first | (go_at_call 80; (with_reducible refine (spec_l04RootAt.calls a0 A1 c1 l1 i a _ ?s1 HC.out HT.out).mono ?_); (case s1 => exact Kd.C_below HR.out HO.out.bel); rintro e w4 ⟨rfl, ⟨nd, rfl⟩⟩; replace HO := Aside0.mk (HO.out.drewN nd)) | (go_at_call 83; (with_reducible refine (Wide.sOf _ a CA.out.1 CA.out.2).mono ?_); rintro e w4 ⟨rfl, hb⟩; replace HO := Aside0.mk (HO.out.below hb); clear hb) | ((with_reducible refine gate_dst (N := 14) rfl ?_); refine box_event ?hg (N := 14) ?hd (cs := #[.bool false, .int .u32 0, .int .u32 0, .int .u32 0, .int .u32 0, .int .u32 0, .int .u32 0]) (t := 25) ?hr ?_; (case hd => rfl); (case hg => rfl); (case hr => first | (go_simp; done) | (go_simp; rfl)); intro g7 hg w5 hbox hb; replace HO := Aside0.mk (HO.out.box hg hbox hb); clear hg hbox hb) | ((with_reducible refine gate_store (t := 25) (p := 14) rfl ?_); refine store_event (t := 25) (p := 14) (v := ?vo_1) (w1 := (World.setCell (World.setCell (World.setCell (World.setCell (World.setCell (World.setCell (World.setCell w5 ⟨g7, 0, none⟩ (.bool (decide (a < 0)))) ⟨g7, 1, none⟩ (.int .u32 ((lb a.natAbs 0 : Nat) : Int))) ⟨g7, 2, none⟩ (.int .u32 ((lb a.natAbs 1 : Nat) : Int))) ⟨g7, 3, none⟩ (.int .u32 ((lb a.natAbs 2 : Nat) : Int))) ⟨g7, 4, none⟩ (.int .u32 ((lb a.natAbs 3 : Nat) : Int))) ⟨g7, 5, none⟩ (.int .u32 ((lb a.natAbs 4 : Nat) : Int))) ⟨g7, 6, none⟩ (.int .u32 ((lb a.natAbs 5 : Nat) : Int)))) ?hg ?ho ?hn ?hr ?_; (case ho => rfl); (case hg => rfl); (case hn => rfl); (case hr => (try simp only [Act.put, List.setIfInBounds_toArray, List.set_cons_zero, List.set_cons_succ]); exact run_put7_ rfl (show _ = Value.pointer (some ⟨g7, 0, none⟩) from by rfl) (show _ = Value.agg #[.bool (decide (a < 0)), .int .u32 ((lb a.natAbs 0 : Nat) : Int), .int .u32 ((lb a.natAbs 1 : Nat) : Int), .int .u32 ((lb a.natAbs 2 : Nat) : Int), .int .u32 ((lb a.natAbs 3 : Nat) : Int), .int .u32 ((lb a.natAbs 4 : Nat) : Int), .int .u32 ((lb a.natAbs 5 : Nat) : Int)] from by rfl) (HO.out.at 0 rfl) (by kernel_rfl) (by rfl)); intro w6 hw; replace HO := Aside0.mk (HO.out.put7 0 rfl hw rfl); clear hw; obtain ⟨hm0, hm1, hm2, hm3, hm4, hm5, hm6⟩ := cells7_ (HO.out.at 0 rfl); obtain ⟨hn0, hn1, hn2, hn3, hn4, hn5, hn6⟩ := cells7_ (HO.out.at 4 rfl)) | (go_at_call 82; (with_reducible refine (M1.out _).mono ?_); rintro e w4 ⟨rfl, hb⟩; replace HO := Aside0.mk (HO.out.below hb); clear hb; clear hm0 hm1 hm2 hm3 hm4 hm5 hm6 hn0 hn1 hn2 hn3 hn4 hn5 hn6) | ((with_reducible refine gate_dst (N := 15) rfl ?_); refine box_event ?hg (N := 15) ?hd (cs := #[.bool false, .int .u32 0, .int .u32 0, .int .u32 0, .int .u32 0, .int .u32 0, .int .u32 0]) (t := 25) ?hr ?_; (case hd => rfl); (case hg => rfl); (case hr => first | (go_simp; done) | (go_simp; rfl)); intro g8 hg w7 hbox hb; replace HO := Aside0.mk (HO.out.box hg hbox hb); clear hg hbox hb) | ((with_reducible refine gate_store (t := 25) (p := 15) rfl ?_); refine store_event (t := 25) (p := 15) (v := ?vo_2) (w1 := (World.setCell (World.setCell (World.setCell (World.setCell (World.setCell (World.setCell (World.setCell w7 ⟨g8, 0, none⟩ (.bool (decide (X1 < 0)))) ⟨g8, 1, none⟩ (.int .u32 ((lb X1.natAbs 0 : Nat) : Int))) ⟨g8, 2, none⟩ (.int .u32 ((lb X1.natAbs 1 : Nat) : Int))) ⟨g8, 3, none⟩ (.int .u32 ((lb X1.natAbs 2 : Nat) : Int))) ⟨g8, 4, none⟩ (.int .u32 ((lb X1.natAbs 3 : Nat) : Int))) ⟨g8, 5, none⟩ (.int .u32 ((lb X1.natAbs 4 : Nat) : Int))) ⟨g8, 6, none⟩ (.int .u32 ((lb X1.natAbs 5 : Nat) : Int)))) ?hg ?ho ?hn ?hr ?_; (case ho => rfl); (case hg => rfl); (case hn => rfl); (case hr => (try simp only [Act.put, List.setIfInBounds_toArray, List.set_cons_zero, List.set_cons_succ]); exact run_put7_ rfl (show _ = Value.pointer (some ⟨g8, 0, none⟩) from by rfl) (show _ = Value.agg #[.bool (decide (X1 < 0)), .int .u32 ((lb X1.natAbs 0 : Nat) : Int), .int .u32 ((lb X1.natAbs 1 : Nat) : Int), .int .u32 ((lb X1.natAbs 2 : Nat) : Int), .int .u32 ((lb X1.natAbs 3 : Nat) : Int), .int .u32 ((lb X1.natAbs 4 : Nat) : Int), .int .u32 ((lb X1.natAbs 5 : Nat) : Int)] from by rfl) (HO.out.at 0 rfl) (by kernel_rfl) (by rfl)); intro w8 hw; replace HO := Aside0.mk (HO.out.put7 0 rfl hw rfl); clear hw; obtain ⟨hm0, hm1, hm2, hm3, hm4, hm5, hm6⟩ := cells7_ (HO.out.at 1 rfl); obtain ⟨hn0, hn1, hn2, hn3, hn4, hn5, hn6⟩ := cells7_ (HO.out.at 4 rfl)) | (go_at_call 82; (with_reducible refine (M2.out _).mono ?_); rintro e w4 ⟨rfl, hb⟩; replace HO := Aside0.mk (HO.out.below hb); clear hb; clear hm0 hm1 hm2 hm3 hm4 hm5 hm6 hn0 hn1 hn2 hn3 hn4 hn5 hn6) | ((with_reducible refine gate_dst (N := 17) rfl ?_); refine box_event ?hg (N := 17) ?hd (cs := #[.bool false, .int .u32 0, .int .u32 0, .int .u32 0, .int .u32 0, .int .u32 0, .int .u32 0]) (t := 25) ?hr ?_; (case hd => rfl); (case hg => rfl); (case hr => first | (go_simp; done) | (go_simp; rfl)); intro g9 hg w9 hbox hb; replace HO := Aside0.mk (HO.out.box hg hbox hb); clear hg hbox hb) | ((with_reducible refine gate_store (t := 25) (p := 17) rfl ?_); refine store_event (t := 25) (p := 17) (v := ?vo_3) (w1 := (World.setCell (World.setCell (World.setCell (World.setCell (World.setCell (World.setCell (World.setCell w9 ⟨g9, 0, none⟩ (.bool (decide (X2 < 0)))) ⟨g9, 1, none⟩ (.int .u32 ((lb X2.natAbs 0 : Nat) : Int))) ⟨g9, 2, none⟩ (.int .u32 ((lb X2.natAbs 1 : Nat) : Int))) ⟨g9, 3, none⟩ (.int .u32 ((lb X2.natAbs 2 : Nat) : Int))) ⟨g9, 4, none⟩ (.int .u32 ((lb X2.natAbs 3 : Nat) : Int))) ⟨g9, 5, none⟩ (.int .u32 ((lb X2.natAbs 4 : Nat) : Int))) ⟨g9, 6, none⟩ (.int .u32 ((lb X2.natAbs 5 : Nat) : Int)))) ?hg ?ho ?hn ?hr ?_; (case ho => rfl); (case hg => rfl); (case hn => rfl); (case hr => (try simp only [Act.put, List.setIfInBounds_toArray, List.set_cons_zero, List.set_cons_succ]); exact run_put7_ rfl (show _ = Value.pointer (some ⟨g9, 0, none⟩) from by rfl) (show _ = Value.agg #[.bool (decide (X2 < 0)), .int .u32 ((lb X2.natAbs 0 : Nat) : Int), .int .u32 ((lb X2.natAbs 1 : Nat) : Int), .int .u32 ((lb X2.natAbs 2 : Nat) : Int), .int .u32 ((lb X2.natAbs 3 : Nat) : Int), .int .u32 ((lb X2.natAbs 4 : Nat) : Int), .int .u32 ((lb X2.natAbs 5 : Nat) : Int)] from by rfl) (HO.out.at 0 rfl) (by kernel_rfl) (by rfl)); intro w10 hw; replace HO := Aside0.mk (HO.out.put7 0 rfl hw rfl); clear hw; obtain ⟨hm0, hm1, hm2, hm3, hm4, hm5, hm6⟩ := cells7_ (HO.out.at 1 rfl); obtain ⟨hn0, hn1, hn2, hn3, hn4, hn5, hn6⟩ := cells7_ (HO.out.at 4 rfl)) | (go_at_call 84; (with_reducible refine (M3.out _).mono ?_); rintro e w4 ⟨rfl, hb⟩; replace HO := Aside0.mk (HO.out.below hb); clear hb; clear hm0 hm1 hm2 hm3 hm4 hm5 hm6 hn0 hn1 hn2 hn3 hn4 hn5 hn6) | ((with_reducible refine gate_store (t := 25) (p := 15) rfl ?_); refine store_event (t := 25) (p := 15) (v := ?vo_4) (w1 := (World.setCell (World.setCell (World.setCell (World.setCell (World.setCell (World.setCell (World.setCell w4 ⟨g8, 0, none⟩ (.bool (decide (P1 < 0)))) ⟨g8, 1, none⟩ (.int .u32 ((lb P1.natAbs 0 : Nat) : Int))) ⟨g8, 2, none⟩ (.int .u32 ((lb P1.natAbs 1 : Nat) : Int))) ⟨g8, 3, none⟩ (.int .u32 ((lb P1.natAbs 2 : Nat) : Int))) ⟨g8, 4, none⟩ (.int .u32 ((lb P1.natAbs 3 : Nat) : Int))) ⟨g8, 5, none⟩ (.int .u32 ((lb P1.natAbs 4 : Nat) : Int))) ⟨g8, 6, none⟩ (.int .u32 ((lb P1.natAbs 5 : Nat) : Int)))) ?hg ?ho ?hn ?hr ?_; (case ho => rfl); (case hg => rfl); (case hn => rfl); (case hr => (try simp only [Act.put, List.setIfInBounds_toArray, List.set_cons_zero, List.set_cons_succ]); exact run_put7_ rfl (show _ = Value.pointer (some ⟨g8, 0, none⟩) from by rfl) (show _ = Value.agg #[.bool (decide (P1 < 0)), .int .u32 ((lb P1.natAbs 0 : Nat) : Int), .int .u32 ((lb P1.natAbs 1 : Nat) : Int), .int .u32 ((lb P1.natAbs 2 : Nat) : Int), .int .u32 ((lb P1.natAbs 3 : Nat) : Int), .int .u32 ((lb P1.natAbs 4 : Nat) : Int), .int .u32 ((lb P1.natAbs 5 : Nat) : Int)] from by rfl) (HO.out.at 1 rfl) (by kernel_rfl) (by rfl)); intro w11 hw; replace HO := Aside0.mk (HO.out.put7 1 rfl hw rfl); clear hw; obtain ⟨hm0, hm1, hm2, hm3, hm4, hm5, hm6⟩ := cells7_ (HO.out.at 0 rfl); obtain ⟨hn0, hn1, hn2, hn3, hn4, hn5, hn6⟩ := cells7_ (HO.out.at 3 rfl)) | (go_at_call 84; (with_reducible refine (M4.out _).mono ?_); rintro e w4 ⟨rfl, hb⟩; replace HO := Aside0.mk (HO.out.below hb); clear hb; clear hm0 hm1 hm2 hm3 hm4 hm5 hm6 hn0 hn1 hn2 hn3 hn4 hn5 hn6) | ((with_reducible refine gate_store (t := 25) (p := 17) rfl ?_); refine store_event (t := 25) (p := 17) (v := ?vo_5) (w1 := (World.setCell (World.setCell (World.setCell (World.setCell (World.setCell (World.setCell (World.setCell w4 ⟨g9, 0, none⟩ (.bool (decide (Q1 < 0)))) ⟨g9, 1, none⟩ (.int .u32 ((lb Q1.natAbs 0 : Nat) : Int))) ⟨g9, 2, none⟩ (.int .u32 ((lb Q1.natAbs 1 : Nat) : Int))) ⟨g9, 3, none⟩ (.int .u32 ((lb Q1.natAbs 2 : Nat) : Int))) ⟨g9, 4, none⟩ (.int .u32 ((lb Q1.natAbs 3 : Nat) : Int))) ⟨g9, 5, none⟩ (.int .u32 ((lb Q1.natAbs 4 : Nat) : Int))) ⟨g9, 6, none⟩ (.int .u32 ((lb Q1.natAbs 5 : Nat) : Int)))) ?hg ?ho ?hn ?hr ?_; (case ho => rfl); (case hg => rfl); (case hn => rfl); (case hr => (try simp only [Act.put, List.setIfInBounds_toArray, List.set_cons_zero, List.set_cons_succ]); exact run_put7_ rfl (show _ = Value.pointer (some ⟨g9, 0, none⟩) from by rfl) (show _ = Value.agg #[.bool (decide (Q1 < 0)), .int .u32 ((lb Q1.natAbs 0 : Nat) : Int), .int .u32 ((lb Q1.natAbs 1 : Nat) : Int), .int .u32 ((lb Q1.natAbs 2 : Nat) : Int), .int .u32 ((lb Q1.natAbs 3 : Nat) : Int), .int .u32 ((lb Q1.natAbs 4 : Nat) : Int), .int .u32 ((lb Q1.natAbs 5 : Nat) : Int)] from by rfl) (HO.out.at 0 rfl) (by kernel_rfl) (by rfl)); intro w12 hw; replace HO := Aside0.mk (HO.out.put7 0 rfl hw rfl); clear hw; obtain ⟨hm0, hm1, hm2, hm3, hm4, hm5, hm6⟩ := cells7_ (HO.out.at 6 rfl)) | ((with_reducible refine gate_store (t := 25) (p := 11) rfl ?_); refine store_event (t := 25) (p := 11) (v := ?vo_6) (w1 := (World.setCell (World.setCell (World.setCell (World.setCell (World.setCell (World.setCell (World.setCell w12 ⟨g5, 0, none⟩ (.bool (decide (p < 0)))) ⟨g5, 1, none⟩ (.int .u32 ((lb p.natAbs 0 : Nat) : Int))) ⟨g5, 2, none⟩ (.int .u32 ((lb p.natAbs 1 : Nat) : Int))) ⟨g5, 3, none⟩ (.int .u32 ((lb p.natAbs 2 : Nat) : Int))) ⟨g5, 4, none⟩ (.int .u32 ((lb p.natAbs 3 : Nat) : Int))) ⟨g5, 5, none⟩ (.int .u32 ((lb p.natAbs 4 : Nat) : Int))) ⟨g5, 6, none⟩ (.int .u32 ((lb p.natAbs 5 : Nat) : Int)))) ?hg ?ho ?hn ?hr ?_; (case ho => rfl); (case hg => rfl); (case hn => rfl); (case hr => (try simp only [Act.put, List.setIfInBounds_toArray, List.set_cons_zero, List.set_cons_succ]); exact run_put7_ rfl (show _ = Value.pointer (some ⟨g5, 0, none⟩) from by rfl) (show _ = Value.agg #[.bool (decide (p < 0)), .int .u32 ((lb p.natAbs 0 : Nat) : Int), .int .u32 ((lb p.natAbs 1 : Nat) : Int), .int .u32 ((lb p.natAbs 2 : Nat) : Int), .int .u32 ((lb p.natAbs 3 : Nat) : Int), .int .u32 ((lb p.natAbs 4 : Nat) : Int), .int .u32 ((lb p.natAbs 5 : Nat) : Int)] from by rfl) (HO.out.at 4 rfl) (by kernel_rfl) (by rfl)); intro w13 hw; replace HO := Aside0.mk (HO.out.put7 4 rfl hw rfl); clear hw; clear hm0 hm1 hm2 hm3 hm4 hm5 hm6; obtain ⟨hm0, hm1, hm2, hm3, hm4, hm5, hm6⟩ := cells7_ (HO.out.at 5 rfl)) | ((with_reducible refine gate_store (t := 25) (p := 12) rfl ?_); refine store_event (t := 25) (p := 12) (v := ?vo_7) (w1 := (World.setCell (World.setCell (World.setCell (World.setCell (World.setCell (World.setCell (World.setCell w13 ⟨g6, 0, none⟩ (.bool (decide (q < 0)))) ⟨g6, 1, none⟩ (.int .u32 ((lb q.natAbs 0 : Nat) : Int))) ⟨g6, 2, none⟩ (.int .u32 ((lb q.natAbs 1 : Nat) : Int))) ⟨g6, 3, none⟩ (.int .u32 ((lb q.natAbs 2 : Nat) : Int))) ⟨g6, 4, none⟩ (.int .u32 ((lb q.natAbs 3 : Nat) : Int))) ⟨g6, 5, none⟩ (.int .u32 ((lb q.natAbs 4 : Nat) : Int))) ⟨g6, 6, none⟩ (.int .u32 ((lb q.natAbs 5 : Nat) : Int)))) ?hg ?ho ?hn ?hr ?_; (case ho => rfl); (case hg => rfl); (case hn => rfl); (case hr => (try simp only [Act.put, List.setIfInBounds_toArray, List.set_cons_zero, List.set_cons_succ]); exact run_put7_ rfl (show _ = Value.pointer (some ⟨g6, 0, none⟩) from by rfl) (show _ = Value.agg #[.bool (decide (q < 0)), .int .u32 ((lb q.natAbs 0 : Nat) : Int), .int .u32 ((lb q.natAbs 1 : Nat) : Int), .int .u32 ((lb q.natAbs 2 : Nat) : Int), .int .u32 ((lb q.natAbs 3 : Nat) : Int), .int .u32 ((lb q.natAbs 4 : Nat) : Int), .int .u32 ((lb q.natAbs 5 : Nat) : Int)] from by rfl) (HO.out.at 3 rfl) (by kernel_rfl) (by rfl)); intro w14 hw; replace HO := Aside0.mk (HO.out.put7 3 rfl hw rfl); clear hw; clear hm0 hm1 hm2 hm3 hm4 hm5 hm6; obtain ⟨hm0, hm1, hm2, hm3, hm4, hm5, hm6⟩ := cells7_ (HO.out.at 1 rfl)) | ((with_reducible refine gate_store (t := 25) (p := 9) rfl ?_); refine store_event (t := 25) (p := 9) (v := ?vo_8) (w1 := (World.setCell (World.setCell (World.setCell (World.setCell (World.setCell (World.setCell (World.setCell w14 ⟨g3, 0, none⟩ (.bool (decide (P1 < 0)))) ⟨g3, 1, none⟩ (.int .u32 ((lb P1.natAbs 0 : Nat) : Int))) ⟨g3, 2, none⟩ (.int .u32 ((lb P1.natAbs 1 : Nat) : Int))) ⟨g3, 3, none⟩ (.int .u32 ((lb P1.natAbs 2 : Nat) : Int))) ⟨g3, 4, none⟩ (.int .u32 ((lb P1.natAbs 3 : Nat) : Int))) ⟨g3, 5, none⟩ (.int .u32 ((lb P1.natAbs 4 : Nat) : Int))) ⟨g3, 6, none⟩ (.int .u32 ((lb P1.natAbs 5 : Nat) : Int)))) ?hg ?ho ?hn ?hr ?_; (case ho => rfl); (case hg => rfl); (case hn => rfl); (case hr => (try simp only [Act.put, List.setIfInBounds_toArray, List.set_cons_zero, List.set_cons_succ]); exact run_put7_ rfl (show _ = Value.pointer (some ⟨g3, 0, none⟩) from by rfl) (show _ = Value.agg #[.bool (decide (P1 < 0)), .int .u32 ((lb P1.natAbs 0 : Nat) : Int), .int .u32 ((lb P1.natAbs 1 : Nat) : Int), .int .u32 ((lb P1.natAbs 2 : Nat) : Int), .int .u32 ((lb P1.natAbs 3 : Nat) : Int), .int .u32 ((lb P1.natAbs 4 : Nat) : Int), .int .u32 ((lb P1.natAbs 5 : Nat) : Int)] from by rfl) (HO.out.at 6 rfl) (by kernel_rfl) (by rfl)); intro w15 hw; replace HO := Aside0.mk (HO.out.put7 6 rfl hw rfl); clear hw; clear hm0 hm1 hm2 hm3 hm4 hm5 hm6; obtain ⟨hm0, hm1, hm2, hm3, hm4, hm5, hm6⟩ := cells7_ (HO.out.at 0 rfl)) | ((with_reducible refine gate_store (t := 25) (p := 10) rfl ?_); refine store_event (t := 25) (p := 10) (v := ?vo_9) (w1 := (World.setCell (World.setCell (World.setCell (World.setCell (World.setCell (World.setCell (World.setCell w15 ⟨g4, 0, none⟩ (.bool (decide (Q1 < 0)))) ⟨g4, 1, none⟩ (.int .u32 ((lb Q1.natAbs 0 : Nat) : Int))) ⟨g4, 2, none⟩ (.int .u32 ((lb Q1.natAbs 1 : Nat) : Int))) ⟨g4, 3, none⟩ (.int .u32 ((lb Q1.natAbs 2 : Nat) : Int))) ⟨g4, 4, none⟩ (.int .u32 ((lb Q1.natAbs 3 : Nat) : Int))) ⟨g4, 5, none⟩ (.int .u32 ((lb Q1.natAbs 4 : Nat) : Int))) ⟨g4, 6, none⟩ (.int .u32 ((lb Q1.natAbs 5 : Nat) : Int)))) ?hg ?ho ?hn ?hr ?_; (case ho => rfl); (case hg => rfl); (case hn => rfl); (case hr => (try simp only [Act.put, List.setIfInBounds_toArray, List.set_cons_zero, List.set_cons_succ]); exact run_put7_ rfl (show _ = Value.pointer (some ⟨g4, 0, none⟩) from by rfl) (show _ = Value.agg #[.bool (decide (Q1 < 0)), .int .u32 ((lb Q1.natAbs 0 : Nat) : Int), .int .u32 ((lb Q1.natAbs 1 : Nat) : Int), .int .u32 ((lb Q1.natAbs 2 : Nat) : Int), .int .u32 ((lb Q1.natAbs 3 : Nat) : Int), .int .u32 ((lb Q1.natAbs 4 : Nat) : Int), .int .u32 ((lb Q1.natAbs 5 : Nat) : Int)] from by rfl) (HO.out.at 5 rfl) (by kernel_rfl) (by rfl)); intro w16 hw; replace HO := Aside0.mk (HO.out.put7 5 rfl hw rfl); clear hw; clear hm0 hm1 hm2 hm3 hm4 hm5 hm6))
                go_roundg k1
                case measure => omega
                case rel => exact ⟨wrap64 (i + 1), P1, Q1, p, q, rfl, H, ⟨by have := HK.out; omega⟩, ⟨HP1.out, HQ1.out, HS.out.1, HS.out.2.1⟩, ⟨HO.out.drop.drop.drop⟩⟩
              · have y4 : (e4 == 0) = false := by simpa using z4
                rw [if_neg (fun e => z4 e.2)] at h
                obtain ⟨rfl, h9⟩ := Prod.mk.inj (Option.some.inj h)
                obtain ⟨rfl, rfl⟩ := Prod.mk.inj h9
                subst z1 z2 z3
                clear y1 y2 y3
                have x4 : (e4 = 0) = False := eq_false z4
                go_wp2_with (first | (go_at_call 80; (with_reducible refine (spec_l04RootAt.calls a0 A1 c1 l1 i a _ ?s1 HC.out HT.out).mono ?_); (case s1 => exact Kd.C_below HR.out HO.out.bel); rintro e w4 ⟨rfl, ⟨nd, rfl⟩⟩; replace HO := Aside0.mk (HO.out.drewN nd)) | (go_at_call 83; (with_reducible refine (Wide.sOf _ a CA.out.1 CA.out.2).mono ?_); rintro e w4 ⟨rfl, hb⟩; replace HO := Aside0.mk (HO.out.below hb); clear hb) | ((with_reducible refine gate_dst (N := 14) rfl ?_); refine box_event ?hg (N := 14) ?hd (cs := #[.bool false, .int .u32 0, .int .u32 0, .int .u32 0, .int .u32 0, .int .u32 0, .int .u32 0]) (t := 25) ?hr ?_; (case hd => rfl); (case hg => rfl); (case hr => first | (go_simp; done) | (go_simp; rfl)); intro g7 hg w5 hbox hb; replace HO := Aside0.mk (HO.out.box hg hbox hb); clear hg hbox hb) | ((with_reducible refine gate_store (t := 25) (p := 14) rfl ?_); refine store_event (t := 25) (p := 14) (v := ?vo_10) (w1 := (World.setCell (World.setCell (World.setCell (World.setCell (World.setCell (World.setCell (World.setCell w5 ⟨g7, 0, none⟩ (.bool (decide (a < 0)))) ⟨g7, 1, none⟩ (.int .u32 ((lb a.natAbs 0 : Nat) : Int))) ⟨g7, 2, none⟩ (.int .u32 ((lb a.natAbs 1 : Nat) : Int))) ⟨g7, 3, none⟩ (.int .u32 ((lb a.natAbs 2 : Nat) : Int))) ⟨g7, 4, none⟩ (.int .u32 ((lb a.natAbs 3 : Nat) : Int))) ⟨g7, 5, none⟩ (.int .u32 ((lb a.natAbs 4 : Nat) : Int))) ⟨g7, 6, none⟩ (.int .u32 ((lb a.natAbs 5 : Nat) : Int)))) ?hg ?ho ?hn ?hr ?_; (case ho => rfl); (case hg => rfl); (case hn => rfl); (case hr => (try simp only [Act.put, List.setIfInBounds_toArray, List.set_cons_zero, List.set_cons_succ]); exact run_put7_ rfl (show _ = Value.pointer (some ⟨g7, 0, none⟩) from by rfl) (show _ = Value.agg #[.bool (decide (a < 0)), .int .u32 ((lb a.natAbs 0 : Nat) : Int), .int .u32 ((lb a.natAbs 1 : Nat) : Int), .int .u32 ((lb a.natAbs 2 : Nat) : Int), .int .u32 ((lb a.natAbs 3 : Nat) : Int), .int .u32 ((lb a.natAbs 4 : Nat) : Int), .int .u32 ((lb a.natAbs 5 : Nat) : Int)] from by rfl) (HO.out.at 0 rfl) (by kernel_rfl) (by rfl)); intro w6 hw; replace HO := Aside0.mk (HO.out.put7 0 rfl hw rfl); clear hw; obtain ⟨hm0, hm1, hm2, hm3, hm4, hm5, hm6⟩ := cells7_ (HO.out.at 0 rfl); obtain ⟨hn0, hn1, hn2, hn3, hn4, hn5, hn6⟩ := cells7_ (HO.out.at 4 rfl)) | (go_at_call 82; (with_reducible refine (M1.out _).mono ?_); rintro e w4 ⟨rfl, hb⟩; replace HO := Aside0.mk (HO.out.below hb); clear hb; clear hm0 hm1 hm2 hm3 hm4 hm5 hm6 hn0 hn1 hn2 hn3 hn4 hn5 hn6) | ((with_reducible refine gate_dst (N := 15) rfl ?_); refine box_event ?hg (N := 15) ?hd (cs := #[.bool false, .int .u32 0, .int .u32 0, .int .u32 0, .int .u32 0, .int .u32 0, .int .u32 0]) (t := 25) ?hr ?_; (case hd => rfl); (case hg => rfl); (case hr => first | (go_simp; done) | (go_simp; rfl)); intro g8 hg w7 hbox hb; replace HO := Aside0.mk (HO.out.box hg hbox hb); clear hg hbox hb) | ((with_reducible refine gate_store (t := 25) (p := 15) rfl ?_); refine store_event (t := 25) (p := 15) (v := ?vo_11) (w1 := (World.setCell (World.setCell (World.setCell (World.setCell (World.setCell (World.setCell (World.setCell w7 ⟨g8, 0, none⟩ (.bool (decide (X1 < 0)))) ⟨g8, 1, none⟩ (.int .u32 ((lb X1.natAbs 0 : Nat) : Int))) ⟨g8, 2, none⟩ (.int .u32 ((lb X1.natAbs 1 : Nat) : Int))) ⟨g8, 3, none⟩ (.int .u32 ((lb X1.natAbs 2 : Nat) : Int))) ⟨g8, 4, none⟩ (.int .u32 ((lb X1.natAbs 3 : Nat) : Int))) ⟨g8, 5, none⟩ (.int .u32 ((lb X1.natAbs 4 : Nat) : Int))) ⟨g8, 6, none⟩ (.int .u32 ((lb X1.natAbs 5 : Nat) : Int)))) ?hg ?ho ?hn ?hr ?_; (case ho => rfl); (case hg => rfl); (case hn => rfl); (case hr => (try simp only [Act.put, List.setIfInBounds_toArray, List.set_cons_zero, List.set_cons_succ]); exact run_put7_ rfl (show _ = Value.pointer (some ⟨g8, 0, none⟩) from by rfl) (show _ = Value.agg #[.bool (decide (X1 < 0)), .int .u32 ((lb X1.natAbs 0 : Nat) : Int), .int .u32 ((lb X1.natAbs 1 : Nat) : Int), .int .u32 ((lb X1.natAbs 2 : Nat) : Int), .int .u32 ((lb X1.natAbs 3 : Nat) : Int), .int .u32 ((lb X1.natAbs 4 : Nat) : Int), .int .u32 ((lb X1.natAbs 5 : Nat) : Int)] from by rfl) (HO.out.at 0 rfl) (by kernel_rfl) (by rfl)); intro w8 hw; replace HO := Aside0.mk (HO.out.put7 0 rfl hw rfl); clear hw; obtain ⟨hm0, hm1, hm2, hm3, hm4, hm5, hm6⟩ := cells7_ (HO.out.at 1 rfl); obtain ⟨hn0, hn1, hn2, hn3, hn4, hn5, hn6⟩ := cells7_ (HO.out.at 4 rfl)) | (go_at_call 82; (with_reducible refine (M2.out _).mono ?_); rintro e w4 ⟨rfl, hb⟩; replace HO := Aside0.mk (HO.out.below hb); clear hb; clear hm0 hm1 hm2 hm3 hm4 hm5 hm6 hn0 hn1 hn2 hn3 hn4 hn5 hn6) | ((with_reducible refine gate_dst (N := 17) rfl ?_); refine box_event ?hg (N := 17) ?hd (cs := #[.bool false, .int .u32 0, .int .u32 0, .int .u32 0, .int .u32 0, .int .u32 0, .int .u32 0]) (t := 25) ?hr ?_; (case hd => rfl); (case hg => rfl); (case hr => first | (go_simp; done) | (go_simp; rfl)); intro g9 hg w9 hbox hb; replace HO := Aside0.mk (HO.out.box hg hbox hb); clear hg hbox hb) | ((with_reducible refine gate_store (t := 25) (p := 17) rfl ?_); refine store_event (t := 25) (p := 17) (v := ?vo_12) (w1 := (World.setCell (World.setCell (World.setCell (World.setCell (World.setCell (World.setCell (World.setCell w9 ⟨g9, 0, none⟩ (.bool (decide (X2 < 0)))) ⟨g9, 1, none⟩ (.int .u32 ((lb X2.natAbs 0 : Nat) : Int))) ⟨g9, 2, none⟩ (.int .u32 ((lb X2.natAbs 1 : Nat) : Int))) ⟨g9, 3, none⟩ (.int .u32 ((lb X2.natAbs 2 : Nat) : Int))) ⟨g9, 4, none⟩ (.int .u32 ((lb X2.natAbs 3 : Nat) : Int))) ⟨g9, 5, none⟩ (.int .u32 ((lb X2.natAbs 4 : Nat) : Int))) ⟨g9, 6, none⟩ (.int .u32 ((lb X2.natAbs 5 : Nat) : Int)))) ?hg ?ho ?hn ?hr ?_; (case ho => rfl); (case hg => rfl); (case hn => rfl); (case hr => (try simp only [Act.put, List.setIfInBounds_toArray, List.set_cons_zero, List.set_cons_succ]); exact run_put7_ rfl (show _ = Value.pointer (some ⟨g9, 0, none⟩) from by rfl) (show _ = Value.agg #[.bool (decide (X2 < 0)), .int .u32 ((lb X2.natAbs 0 : Nat) : Int), .int .u32 ((lb X2.natAbs 1 : Nat) : Int), .int .u32 ((lb X2.natAbs 2 : Nat) : Int), .int .u32 ((lb X2.natAbs 3 : Nat) : Int), .int .u32 ((lb X2.natAbs 4 : Nat) : Int), .int .u32 ((lb X2.natAbs 5 : Nat) : Int)] from by rfl) (HO.out.at 0 rfl) (by kernel_rfl) (by rfl)); intro w10 hw; replace HO := Aside0.mk (HO.out.put7 0 rfl hw rfl); clear hw; obtain ⟨hm0, hm1, hm2, hm3, hm4, hm5, hm6⟩ := cells7_ (HO.out.at 1 rfl); obtain ⟨hn0, hn1, hn2, hn3, hn4, hn5, hn6⟩ := cells7_ (HO.out.at 4 rfl)) | (go_at_call 84; (with_reducible refine (M3.out _).mono ?_); rintro e w4 ⟨rfl, hb⟩; replace HO := Aside0.mk (HO.out.below hb); clear hb; clear hm0 hm1 hm2 hm3 hm4 hm5 hm6 hn0 hn1 hn2 hn3 hn4 hn5 hn6) | ((with_reducible refine gate_store (t := 25) (p := 15) rfl ?_); refine store_event (t := 25) (p := 15) (v := ?vo_13) (w1 := (World.setCell (World.setCell (World.setCell (World.setCell (World.setCell (World.setCell (World.setCell w4 ⟨g8, 0, none⟩ (.bool (decide (P1 < 0)))) ⟨g8, 1, none⟩ (.int .u32 ((lb P1.natAbs 0 : Nat) : Int))) ⟨g8, 2, none⟩ (.int .u32 ((lb P1.natAbs 1 : Nat) : Int))) ⟨g8, 3, none⟩ (.int .u32 ((lb P1.natAbs 2 : Nat) : Int))) ⟨g8, 4, none⟩ (.int .u32 ((lb P1.natAbs 3 : Nat) : Int))) ⟨g8, 5, none⟩ (.int .u32 ((lb P1.natAbs 4 : Nat) : Int))) ⟨g8, 6, none⟩ (.int .u32 ((lb P1.natAbs 5 : Nat) : Int)))) ?hg ?ho ?hn ?hr ?_; (case ho => rfl); (case hg => rfl); (case hn => rfl); (case hr => (try simp only [Act.put, List.setIfInBounds_toArray, List.set_cons_zero, List.set_cons_succ]); exact run_put7_ rfl (show _ = Value.pointer (some ⟨g8, 0, none⟩) from by rfl) (show _ = Value.agg #[.bool (decide (P1 < 0)), .int .u32 ((lb P1.natAbs 0 : Nat) : Int), .int .u32 ((lb P1.natAbs 1 : Nat) : Int), .int .u32 ((lb P1.natAbs 2 : Nat) : Int), .int .u32 ((lb P1.natAbs 3 : Nat) : Int), .int .u32 ((lb P1.natAbs 4 : Nat) : Int), .int .u32 ((lb P1.natAbs 5 : Nat) : Int)] from by rfl) (HO.out.at 1 rfl) (by kernel_rfl) (by rfl)); intro w11 hw; replace HO := Aside0.mk (HO.out.put7 1 rfl hw rfl); clear hw; obtain ⟨hm0, hm1, hm2, hm3, hm4, hm5, hm6⟩ := cells7_ (HO.out.at 0 rfl); obtain ⟨hn0, hn1, hn2, hn3, hn4, hn5, hn6⟩ := cells7_ (HO.out.at 3 rfl)) | (go_at_call 84; (with_reducible refine (M4.out _).mono ?_); rintro e w4 ⟨rfl, hb⟩; replace HO := Aside0.mk (HO.out.below hb); clear hb; clear hm0 hm1 hm2 hm3 hm4 hm5 hm6 hn0 hn1 hn2 hn3 hn4 hn5 hn6) | ((with_reducible refine gate_store (t := 25) (p := 17) rfl ?_); refine store_event (t := 25) (p := 17) (v := ?vo_14) (w1 := (World.setCell (World.setCell (World.setCell (World.setCell (World.setCell (World.setCell (World.setCell w4 ⟨g9, 0, none⟩ (.bool (decide (Q1 < 0)))) ⟨g9, 1, none⟩ (.int .u32 ((lb Q1.natAbs 0 : Nat) : Int))) ⟨g9, 2, none⟩ (.int .u32 ((lb Q1.natAbs 1 : Nat) : Int))) ⟨g9, 3, none⟩ (.int .u32 ((lb Q1.natAbs 2 : Nat) : Int))) ⟨g9, 4, none⟩ (.int .u32 ((lb Q1.natAbs 3 : Nat) : Int))) ⟨g9, 5, none⟩ (.int .u32 ((lb Q1.natAbs 4 : Nat) : Int))) ⟨g9, 6, none⟩ (.int .u32 ((lb Q1.natAbs 5 : Nat) : Int)))) ?hg ?ho ?hn ?hr ?_; (case ho => rfl); (case hg => rfl); (case hn => rfl); (case hr => (try simp only [Act.put, List.setIfInBounds_toArray, List.set_cons_zero, List.set_cons_succ]); exact run_put7_ rfl (show _ = Value.pointer (some ⟨g9, 0, none⟩) from by rfl) (show _ = Value.agg #[.bool (decide (Q1 < 0)), .int .u32 ((lb Q1.natAbs 0 : Nat) : Int), .int .u32 ((lb Q1.natAbs 1 : Nat) : Int), .int .u32 ((lb Q1.natAbs 2 : Nat) : Int), .int .u32 ((lb Q1.natAbs 3 : Nat) : Int), .int .u32 ((lb Q1.natAbs 4 : Nat) : Int), .int .u32 ((lb Q1.natAbs 5 : Nat) : Int)] from by rfl) (HO.out.at 0 rfl) (by kernel_rfl) (by rfl)); intro w12 hw; replace HO := Aside0.mk (HO.out.put7 0 rfl hw rfl); clear hw) | ((with_reducible refine gate_store (t := 25) (p := 6) rfl ?_); refine store_event (t := 25) (p := 6) (v := ?vo_15) (w1 := (World.setCell (World.setCell (World.setCell (World.setCell (World.setCell (World.setCell (World.setCell w12 ⟨g1, 0, none⟩ (.bool false)) ⟨g1, 1, none⟩ (.int .u32 0)) ⟨g1, 2, none⟩ (.int .u32 0)) ⟨g1, 3, none⟩ (.int .u32 0)) ⟨g1, 4, none⟩ (.int .u32 0)) ⟨g1, 5, none⟩ (.int .u32 0)) ⟨g1, 6, none⟩ (.int .u32 0))) ?hg ?ho ?hn ?hr ?_; (case ho => rfl); (case hg => rfl); (case hn => rfl); (case hr => (try simp only [Act.put, List.setIfInBounds_toArray, List.set_cons_zero, List.set_cons_succ]); exact run_put7_ rfl (show _ = Value.pointer (some ⟨g1, 0, none⟩) from by rfl) (show _ = Value.agg #[.bool false, .int .u32 0, .int .u32 0, .int .u32 0, .int .u32 0, .int .u32 0, .int .u32 0] from by rfl) (HO.out.at 8 rfl) (by kernel_rfl) (by rfl)); intro w13 hw; replace HO := Aside0.mk (HO.out.put7 8 rfl hw rfl); clear hw) | ((with_reducible refine gate_store (t := 25) (p := 7) rfl ?_); refine store_event (t := 25) (p := 7) (v := ?vo_16) (w1 := (World.setCell (World.setCell (World.setCell (World.setCell (World.setCell (World.setCell (World.setCell w13 ⟨g2, 0, none⟩ (.bool false)) ⟨g2, 1, none⟩ (.int .u32 0)) ⟨g2, 2, none⟩ (.int .u32 0)) ⟨g2, 3, none⟩ (.int .u32 0)) ⟨g2, 4, none⟩ (.int .u32 0)) ⟨g2, 5, none⟩ (.int .u32 0)) ⟨g2, 6, none⟩ (.int .u32 0))) ?hg ?ho ?hn ?hr ?_; (case ho => rfl); (case hg => rfl); (case hn => rfl); (case hr => (try simp only [Act.put, List.setIfInBounds_toArray, List.set_cons_zero, List.set_cons_succ]); exact run_put7_ rfl (show _ = Value.pointer (some ⟨g2, 0, none⟩) from by rfl) (show _ = Value.agg #[.bool false, .int .u32 0, .int .u32 0, .int .u32 0, .int .u32 0, .int .u32 0, .int .u32 0] from by rfl) (HO.out.at 7 rfl) (by kernel_rfl) (by rfl)); intro w14 hw; replace HO := Aside0.mk (HO.out.put7 7 rfl hw rfl); clear hw))
                refine bodyPost_ret (results_list (rs := [.cell 6 25, .cell 7 25, .tmp 8]) rfl (by simp) (.cell g1 25 #[.bool false, .int .u32 0, .int .u32 0, .int .u32 0, .int .u32 0, .int .u32 0, .int .u32 0] (0, 0) _ rfl (HO.out.at 8 rfl) Try.underlying25 rfl (by kernel_rfl) (.cell g2 25 #[.bool false, .int .u32 0, .int .u32 0, .int .u32 0, .int .u32 0, .int .u32 0, .int .u32 0] (0, 0) _ rfl (HO.out.at 7 rfl) Try.underlying25 rfl (by kernel_rfl) (.tmp .nil)))) rfl ?_
                exact ⟨rfl, HO.out.bel⟩
            · have y3 : (e3 == 0) = false := by simpa using z3
              rw [if_neg (fun e => z3 e.1)] at h
              obtain ⟨rfl, h9⟩ := Prod.mk.inj (Option.some.inj h)
              obtain ⟨rfl, rfl⟩ := Prod.mk.inj h9
              subst z1 z2
              clear y1 y2
              have x3 : (e3 = 0) = False := eq_false z3
              go_wp2_with (first | (go_at_call 80; (with_reducible refine (spec_l04RootAt.calls a0 A1 c1 l1 i a _ ?s1 HC.out HT.out).mono ?_); (case s1 => exact Kd.C_below HR.out HO.out.bel); rintro e w4 ⟨rfl, ⟨nd, rfl⟩⟩; replace HO := Aside0.mk (HO.out.drewN nd)) | (go_at_call 83; (with_reducible refine (Wide.sOf _ a CA.out.1 CA.out.2).mono ?_); rintro e w4 ⟨rfl, hb⟩; replace HO := Aside0.mk (HO.out.below hb); clear hb) | ((with_reducible refine gate_dst (N := 14) rfl ?_); refine box_event ?hg (N := 14) ?hd (cs := #[.bool false, .int .u32 0, .int .u32 0, .int .u32 0, .int .u32 0, .int .u32 0, .int .u32 0]) (t := 25) ?hr ?_; (case hd => rfl); (case hg => rfl); (case hr => first | (go_simp; done) | (go_simp; rfl)); intro g7 hg w5 hbox hb; replace HO := Aside0.mk (HO.out.box hg hbox hb); clear hg hbox hb) | ((with_reducible refine gate_store (t := 25) (p := 14) rfl ?_); refine store_event (t := 25) (p := 14) (v := ?vo_17) (w1 := (World.setCell (World.setCell (World.setCell (World.setCell (World.setCell (World.setCell (World.setCell w5 ⟨g7, 0, none⟩ (.bool (decide (a < 0)))) ⟨g7, 1, none⟩ (.int .u32 ((lb a.natAbs 0 : Nat) : Int))) ⟨g7, 2, none⟩ (.int .u32 ((lb a.natAbs 1 : Nat) : Int))) ⟨g7, 3, none⟩ (.int .u32 ((lb a.natAbs 2 : Nat) : Int))) ⟨g7, 4, none⟩ (.int .u32 ((lb a.natAbs 3 : Nat) : Int))) ⟨g7, 5, none⟩ (.int .u32 ((lb a.natAbs 4 : Nat) : Int))) ⟨g7, 6, none⟩ (.int .u32 ((lb a.natAbs 5 : Nat) : Int)))) ?hg ?ho ?hn ?hr ?_; (case ho => rfl); (case hg => rfl); (case hn => rfl); (case hr => (try simp only [Act.put, List.setIfInBounds_toArray, List.set_cons_zero, List.set_cons_succ]); exact run_put7_ rfl (show _ = Value.pointer (some ⟨g7, 0, none⟩) from by rfl) (show _ = Value.agg #[.bool (decide (a < 0)), .int .u32 ((lb a.natAbs 0 : Nat) : Int), .int .u32 ((lb a.natAbs 1 : Nat) : Int), .int .u32 ((lb a.natAbs 2 : Nat) : Int), .int .u32 ((lb a.natAbs 3 : Nat) : Int), .int .u32 ((lb a.natAbs 4 : Nat) : Int), .int .u32 ((lb a.natAbs 5 : Nat) : Int)] from by rfl) (HO.out.at 0 rfl) (by kernel_rfl) (by rfl)); intro w6 hw; replace HO := Aside0.mk (HO.out.put7 0 rfl hw rfl); clear hw; obtain ⟨hm0, hm1, hm2, hm3, hm4, hm5, hm6⟩ := cells7_ (HO.out.at 0 rfl); obtain ⟨hn0, hn1, hn2, hn3, hn4, hn5, hn6⟩ := cells7_ (HO.out.at 4 rfl)) | (go_at_call 82; (with_reducible refine (M1.out _).mono ?_); rintro e w4 ⟨rfl, hb⟩; replace HO := Aside0.mk (HO.out.below hb); clear hb; clear hm0 hm1 hm2 hm3 hm4 hm5 hm6 hn0 hn1 hn2 hn3 hn4 hn5 hn6) | ((with_reducible refine gate_dst (N := 15) rfl ?_); refine box_event ?hg (N := 15) ?hd (cs := #[.bool false, .int .u32 0, .int .u32 0, .int .u32 0, .int .u32 0, .int .u32 0, .int .u32 0]) (t := 25) ?hr ?_; (case hd => rfl); (case hg => rfl); (case hr => first | (go_simp; done) | (go_simp; rfl)); intro g8 hg w7 hbox hb; replace HO := Aside0.mk (HO.out.box hg hbox hb); clear hg hbox hb) | ((with_reducible refine gate_store (t := 25) (p := 15) rfl ?_); refine store_event (t := 25) (p := 15) (v := ?vo_18) (w1 := (World.setCell (World.setCell (World.setCell (World.setCell (World.setCell (World.setCell (World.setCell w7 ⟨g8, 0, none⟩ (.bool (decide (X1 < 0)))) ⟨g8, 1, none⟩ (.int .u32 ((lb X1.natAbs 0 : Nat) : Int))) ⟨g8, 2, none⟩ (.int .u32 ((lb X1.natAbs 1 : Nat) : Int))) ⟨g8, 3, none⟩ (.int .u32 ((lb X1.natAbs 2 : Nat) : Int))) ⟨g8, 4, none⟩ (.int .u32 ((lb X1.natAbs 3 : Nat) : Int))) ⟨g8, 5, none⟩ (.int .u32 ((lb X1.natAbs 4 : Nat) : Int))) ⟨g8, 6, none⟩ (.int .u32 ((lb X1.natAbs 5 : Nat) : Int)))) ?hg ?ho ?hn ?hr ?_; (case ho => rfl); (case hg => rfl); (case hn => rfl); (case hr => (try simp only [Act.put, List.setIfInBounds_toArray, List.set_cons_zero, List.set_cons_succ]); exact run_put7_ rfl (show _ = Value.pointer (some ⟨g8, 0, none⟩) from by rfl) (show _ = Value.agg #[.bool (decide (X1 < 0)), .int .u32 ((lb X1.natAbs 0 : Nat) : Int), .int .u32 ((lb X1.natAbs 1 : Nat) : Int), .int .u32 ((lb X1.natAbs 2 : Nat) : Int), .int .u32 ((lb X1.natAbs 3 : Nat) : Int), .int .u32 ((lb X1.natAbs 4 : Nat) : Int), .int .u32 ((lb X1.natAbs 5 : Nat) : Int)] from by rfl) (HO.out.at 0 rfl) (by kernel_rfl) (by rfl)); intro w8 hw; replace HO := Aside0.mk (HO.out.put7 0 rfl hw rfl); clear hw; obtain ⟨hm0, hm1, hm2, hm3, hm4, hm5, hm6⟩ := cells7_ (HO.out.at 1 rfl); obtain ⟨hn0, hn1, hn2, hn3, hn4, hn5, hn6⟩ := cells7_ (HO.out.at 4 rfl)) | (go_at_call 82; (with_reducible refine (M2.out _).mono ?_); rintro e w4 ⟨rfl, hb⟩; replace HO := Aside0.mk (HO.out.below hb); clear hb; clear hm0 hm1 hm2 hm3 hm4 hm5 hm6 hn0 hn1 hn2 hn3 hn4 hn5 hn6) | ((with_reducible refine gate_dst (N := 17) rfl ?_); refine box_event ?hg (N := 17) ?hd (cs := #[.bool false, .int .u32 0, .int .u32 0, .int .u32 0, .int .u32 0, .int .u32 0, .int .u32 0]) (t := 25) ?hr ?_; (case hd => rfl); (case hg => rfl); (case hr => first | (go_simp; done) | (go_simp; rfl)); intro g9 hg w9 hbox hb; replace HO := Aside0.mk (HO.out.box hg hbox hb); clear hg hbox hb) | ((with_reducible refine gate_store (t := 25) (p := 17) rfl ?_); refine store_event (t := 25) (p := 17) (v := ?vo_19) (w1 := (World.setCell (World.setCell (World.setCell (World.setCell (World.setCell (World.setCell (World.setCell w9 ⟨g9, 0, none⟩ (.bool (decide (X2 < 0)))) ⟨g9, 1, none⟩ (.int .u32 ((lb X2.natAbs 0 : Nat) : Int))) ⟨g9, 2, none⟩ (.int .u32 ((lb X2.natAbs 1 : Nat) : Int))) ⟨g9, 3, none⟩ (.int .u32 ((lb X2.natAbs 2 : Nat) : Int))) ⟨g9, 4, none⟩ (.int .u32 ((lb X2.natAbs 3 : Nat) : Int))) ⟨g9, 5, none⟩ (.int .u32 ((lb X2.natAbs 4 : Nat) : Int))) ⟨g9, 6, none⟩ (.int .u32 ((lb X2.natAbs 5 : Nat) : Int)))) ?hg ?ho ?hn ?hr ?_; (case ho => rfl); (case hg => rfl); (case hn => rfl); (case hr => (try simp only [Act.put, List.setIfInBounds_toArray, List.set_cons_zero, List.set_cons_succ]); exact run_put7_ rfl (show _ = Value.pointer (some ⟨g9, 0, none⟩) from by rfl) (show _ = Value.agg #[.bool (decide (X2 < 0)), .int .u32 ((lb X2.natAbs 0 : Nat) : Int), .int .u32 ((lb X2.natAbs 1 : Nat) : Int), .int .u32 ((lb X2.natAbs 2 : Nat) : Int), .int .u32 ((lb X2.natAbs 3 : Nat) : Int), .int .u32 ((lb X2.natAbs 4 : Nat) : Int), .int .u32 ((lb X2.natAbs 5 : Nat) : Int)] from by rfl) (HO.out.at 0 rfl) (by kernel_rfl) (by rfl)); intro w10 hw; replace HO := Aside0.mk (HO.out.put7 0 rfl hw rfl); clear hw; obtain ⟨hm0, hm1, hm2, hm3, hm4, hm5, hm6⟩ := cells7_ (HO.out.at 1 rfl); obtain ⟨hn0, hn1, hn2, hn3, hn4, hn5, hn6⟩ := cells7_ (HO.out.at 4 rfl)) | (go_at_call 84; (with_reducible refine (M3.out _).mono ?_); rintro e w4 ⟨rfl, hb⟩; replace HO := Aside0.mk (HO.out.below hb); clear hb; clear hm0 hm1 hm2 hm3 hm4 hm5 hm6 hn0 hn1 hn2 hn3 hn4 hn5 hn6) | ((with_reducible refine gate_store (t := 25) (p := 15) rfl ?_); refine store_event (t := 25) (p := 15) (v := ?vo_20) (w1 := (World.setCell (World.setCell (World.setCell (World.setCell (World.setCell (World.setCell (World.setCell w4 ⟨g8, 0, none⟩ (.bool (decide (P1 < 0)))) ⟨g8, 1, none⟩ (.int .u32 ((lb P1.natAbs 0 : Nat) : Int))) ⟨g8, 2, none⟩ (.int .u32 ((lb P1.natAbs 1 : Nat) : Int))) ⟨g8, 3, none⟩ (.int .u32 ((lb P1.natAbs 2 : Nat) : Int))) ⟨g8, 4, none⟩ (.int .u32 ((lb P1.natAbs 3 : Nat) : Int))) ⟨g8, 5, none⟩ (.int .u32 ((lb P1.natAbs 4 : Nat) : Int))) ⟨g8, 6, none⟩ (.int .u32 ((lb P1.natAbs 5 : Nat) : Int)))) ?hg ?ho ?hn ?hr ?_; (case ho => rfl); (case hg => rfl); (case hn => rfl); (case hr => (try simp only [Act.put, List.setIfInBounds_toArray, List.set_cons_zero, List.set_cons_succ]); exact run_put7_ rfl (show _ = Value.pointer (some ⟨g8, 0, none⟩) from by rfl) (show _ = Value.agg #[.bool (decide (P1 < 0)), .int .u32 ((lb P1.natAbs 0 : Nat) : Int), .int .u32 ((lb P1.natAbs 1 : Nat) : Int), .int .u32 ((lb P1.natAbs 2 : Nat) : Int), .int .u32 ((lb P1.natAbs 3 : Nat) : Int), .int .u32 ((lb P1.natAbs 4 : Nat) : Int), .int .u32 ((lb P1.natAbs 5 : Nat) : Int)] from by rfl) (HO.out.at 1 rfl) (by kernel_rfl) (by rfl)); intro w11 hw; replace HO := Aside0.mk (HO.out.put7 1 rfl hw rfl); clear hw; obtain ⟨hm0, hm1, hm2, hm3, hm4, hm5, hm6⟩ := cells7_ (HO.out.at 0 rfl); obtain ⟨hn0, hn1, hn2, hn3, hn4, hn5, hn6⟩ := cells7_ (HO.out.at 3 rfl)) | (go_at_call 84; (with_reducible refine (M4.out _).mono ?_); rintro e w4 ⟨rfl, hb⟩; replace HO := Aside0.mk (HO.out.below hb); clear hb; clear hm0 hm1 hm2 hm3 hm4 hm5 hm6 hn0 hn1 hn2 hn3 hn4 hn5 hn6) | ((with_reducible refine gate_store (t := 25) (p := 17) rfl ?_); refine store_event (t := 25) (p := 17) (v := ?vo_21) (w1 := (World.setCell (World.setCell (World.setCell (World.setCell (World.setCell (World.setCell (World.setCell w4 ⟨g9, 0, none⟩ (.bool (decide (Q1 < 0)))) ⟨g9, 1, none⟩ (.int .u32 ((lb Q1.natAbs 0 : Nat) : Int))) ⟨g9, 2, none⟩ (.int .u32 ((lb Q1.natAbs 1 : Nat) : Int))) ⟨g9, 3, none⟩ (.int .u32 ((lb Q1.natAbs 2 : Nat) : Int))) ⟨g9, 4, none⟩ (.int .u32 ((lb Q1.natAbs 3 : Nat) : Int))) ⟨g9, 5, none⟩ (.int .u32 ((lb Q1.natAbs 4 : Nat) : Int))) ⟨g9, 6, none⟩ (.int .u32 ((lb Q1.natAbs 5 : Nat) : Int)))) ?hg ?ho ?hn ?hr ?_; (case ho => rfl); (case hg => rfl); (case hn => rfl); (case hr => (try simp only [Act.put, List.setIfInBounds_toArray, List.set_cons_zero, List.set_cons_succ]); exact run_put7_ rfl (show _ = Value.pointer (some ⟨g9, 0, none⟩) from by rfl) (show _ = Value.agg #[.bool (decide (Q1 < 0)), .int .u32 ((lb Q1.natAbs 0 : Nat) : Int), .int .u32 ((lb Q1.natAbs 1 : Nat) : Int), .int .u32 ((lb Q1.natAbs 2 : Nat) : Int), .int .u32 ((lb Q1.natAbs 3 : Nat) : Int), .int .u32 ((lb Q1.natAbs 4 : Nat) : Int), .int .u32 ((lb Q1.natAbs 5 : Nat) : Int)] from by rfl) (HO.out.at 0 rfl) (by kernel_rfl) (by rfl)); intro w12 hw; replace HO := Aside0.mk (HO.out.put7 0 rfl hw rfl); clear hw) | ((with_reducible refine gate_store (t := 25) (p := 6) rfl ?_); refine store_event (t := 25) (p := 6) (v := ?vo_22) (w1 := (World.setCell (World.setCell (World.setCell (World.setCell (World.setCell (World.setCell (World.setCell w12 ⟨g1, 0, none⟩ (.bool false)) ⟨g1, 1, none⟩ (.int .u32 0)) ⟨g1, 2, none⟩ (.int .u32 0)) ⟨g1, 3, none⟩ (.int .u32 0)) ⟨g1, 4, none⟩ (.int .u32 0)) ⟨g1, 5, none⟩ (.int .u32 0)) ⟨g1, 6, none⟩ (.int .u32 0))) ?hg ?ho ?hn ?hr ?_; (case ho => rfl); (case hg => rfl); (case hn => rfl); (case hr => (try simp only [Act.put, List.setIfInBounds_toArray, List.set_cons_zero, List.set_cons_succ]); exact run_put7_ rfl (show _ = Value.pointer (some ⟨g1, 0, none⟩) from by rfl) (show _ = Value.agg #[.bool false, .int .u32 0, .int .u32 0, .int .u32 0, .int .u32 0, .int .u32 0, .int .u32 0] from by rfl) (HO.out.at 8 rfl) (by kernel_rfl) (by rfl)); intro w13 hw; replace HO := Aside0.mk (HO.out.put7 8 rfl hw rfl); clear hw) | ((with_reducible refine gate_store (t := 25) (p := 7) rfl ?_); refine store_event (t := 25) (p := 7) (v := ?vo_23) (w1 := (World.setCell (World.setCell (World.setCell (World.setCell (World.setCell (World.setCell (World.setCell w13 ⟨g2, 0, none⟩ (.bool false)) ⟨g2, 1, none⟩ (.int .u32 0)) ⟨g2, 2, none⟩ (.int .u32 0)) ⟨g2, 3, none⟩ (.int .u32 0)) ⟨g2, 4, none⟩ (.int .u32 0)) ⟨g2, 5, none⟩ (.int .u32 0)) ⟨g2, 6, none⟩ (.int .u32 0))) ?hg ?ho ?hn ?hr ?_; (case ho => rfl); (case hg => rfl); (case hn => rfl); (case hr => (try simp only [Act.put, List.setIfInBounds_toArray, List.set_cons_zero, List.set_cons_succ]); exact run_put7_ rfl (show _ = Value.pointer (some ⟨g2, 0, none⟩) from by rfl) (show _ = Value.agg #[.bool false, .int .u32 0, .int .u32 0, .int .u32 0, .int .u32 0, .int .u32 0, .int .u32 0] from by rfl) (HO.out.at 7 rfl) (by kernel_rfl) (by rfl)); intro w14 hw; replace HO := Aside0.mk (HO.out.put7 7 rfl hw rfl); clear hw))
              refine bodyPost_ret (results_list (rs := [.cell 6 25, .cell 7 25, .tmp 8]) rfl (by simp) (.cell g1 25 #[.bool false, .int .u32 0, .int .u32 0, .int .u32 0, .int .u32 0, .int .u32 0, .int .u32 0] (0, 0) _ rfl (HO.out.at 8 rfl) Try.underlying25 rfl (by kernel_rfl) (.cell g2 25 #[.bool false, .int .u32 0, .int .u32 0, .int .u32 0, .int .u32 0, .int .u32 0, .int .u32 0] (0, 0) _ rfl (HO.out.at 7 rfl) Try.underlying25 rfl (by kernel_rfl) (.tmp .nil)))) rfl ?_
              exact ⟨rfl, HO.out.bel⟩
          · have y2 : (e2 == 0) = false := by simpa using z2
            rw [if_neg (fun e => z2 e.2)] at h
            obtain ⟨rfl, h9⟩ := Prod.mk.inj (Option.some.inj h)
            obtain ⟨rfl, rfl⟩ := Prod.mk.inj h9
            subst z1
            clear y1
            have x2 : (e2 = 0) = False := eq_false z2
            go_wp2_with (first | (go_at_call 80; (with_reducible refine (spec_l04RootAt.calls a0 A1 c1 l1 i a _ ?s1 HC.out HT.out).mono ?_); (case s1 => exact Kd.C_below HR.out HO.out.bel); rintro e w4 ⟨rfl, ⟨nd, rfl⟩⟩; replace HO := Aside0.mk (HO.out.drewN nd)) | (go_at_call 83; (with_reducible refine (Wide.sOf _ a CA.out.1 CA.out.2).mono ?_); rintro e w4 ⟨rfl, hb⟩; replace HO := Aside0.mk (HO.out.below hb); clear hb) | ((with_reducible refine gate_dst (N := 14) rfl ?_); refine box_event ?hg (N := 14) ?hd (cs := #[.bool false, .int .u32 0, .int .u32 0, .int .u32 0, .int .u32 0, .int .u32 0, .int .u32 0]) (t := 25) ?hr ?_; (case hd => rfl); (case hg => rfl); (case hr => first | (go_simp; done) | (go_simp; rfl)); intro g7 hg w5 hbox hb; replace HO := Aside0.mk (HO.out.box hg hbox hb); clear hg hbox hb) | ((with_reducible refine gate_store (t := 25) (p := 14) rfl ?_); refine store_event (t := 25) (p := 14) (v := ?vo_24) (w1 := (World.setCell (World.setCell (World.setCell (World.setCell (World.setCell (World.setCell (World.setCell w5 ⟨g7, 0, none⟩ (.bool (decide (a < 0)))) ⟨g7, 1, none⟩ (.int .u32 ((lb a.natAbs 0 : Nat) : Int))) ⟨g7, 2, none⟩ (.int .u32 ((lb a.natAbs 1 : Nat) : Int))) ⟨g7, 3, none⟩ (.int .u32 ((lb a.natAbs 2 : Nat) : Int))) ⟨g7, 4, none⟩ (.int .u32 ((lb a.natAbs 3 : Nat) : Int))) ⟨g7, 5, none⟩ (.int .u32 ((lb a.natAbs 4 : Nat) : Int))) ⟨g7, 6, none⟩ (.int .u32 ((lb a.natAbs 5 : Nat) : Int)))) ?hg ?ho ?hn ?hr ?_; (case ho => rfl); (case hg => rfl); (case hn => rfl); (case hr => (try simp only [Act.put, List.setIfInBounds_toArray, List.set_cons_zero, List.set_cons_succ]); exact run_put7_ rfl (show _ = Value.pointer (some ⟨g7, 0, none⟩) from by rfl) (show _ = Value.agg #[.bool (decide (a < 0)), .int .u32 ((lb a.natAbs 0 : Nat) : Int), .int .u32 ((lb a.natAbs 1 : Nat) : Int), .int .u32 ((lb a.natAbs 2 : Nat) : Int), .int .u32 ((lb a.natAbs 3 : Nat) : Int), .int .u32 ((lb a.natAbs 4 : Nat) : Int), .int .u32 ((lb a.natAbs 5 : Nat) : Int)] from by rfl) (HO.out.at 0 rfl) (by kernel_rfl) (by rfl)); intro w6 hw; replace HO := Aside0.mk (HO.out.put7 0 rfl hw rfl); clear hw; obtain ⟨hm0, hm1, hm2, hm3, hm4, hm5, hm6⟩ := cells7_ (HO.out.at 0 rfl); obtain ⟨hn0, hn1, hn2, hn3, hn4, hn5, hn6⟩ := cells7_ (HO.out.at 4 rfl)) | (go_at_call 82; (with_reducible refine (M1.out _).mono ?_); rintro e w4 ⟨rfl, hb⟩; replace HO := Aside0.mk (HO.out.below hb); clear hb; clear hm0 hm1 hm2 hm3 hm4 hm5 hm6 hn0 hn1 hn2 hn3 hn4 hn5 hn6) | ((with_reducible refine gate_dst (N := 15) rfl ?_); refine box_event ?hg (N := 15) ?hd (cs := #[.bool false, .int .u32 0, .int .u32 0, .int .u32 0, .int .u32 0, .int .u32 0, .int .u32 0]) (t := 25) ?hr ?_; (case hd => rfl); (case hg => rfl); (case hr => first | (go_simp; done) | (go_simp; rfl)); intro g8 hg w7 hbox hb; replace HO := Aside0.mk (HO.out.box hg hbox hb); clear hg hbox hb) | ((with_reducible refine gate_store (t := 25) (p := 15) rfl ?_); refine store_event (t := 25) (p := 15) (v := ?vo_25) (w1 := (World.setCell (World.setCell (World.setCell (World.setCell (World.setCell (World.setCell (World.setCell w7 ⟨g8, 0, none⟩ (.bool (decide (X1 < 0)))) ⟨g8, 1, none⟩ (.int .u32 ((lb X1.natAbs 0 : Nat) : Int))) ⟨g8, 2, none⟩ (.int .u32 ((lb X1.natAbs 1 : Nat) : Int))) ⟨g8, 3, none⟩ (.int .u32 ((lb X1.natAbs 2 : Nat) : Int))) ⟨g8, 4, none⟩ (.int .u32 ((lb X1.natAbs 3 : Nat) : Int))) ⟨g8, 5, none⟩ (.int .u32 ((lb X1.natAbs 4 : Nat) : Int))) ⟨g8, 6, none⟩ (.int .u32 ((lb X1.natAbs 5 : Nat) : Int)))) ?hg ?ho ?hn ?hr ?_; (case ho => rfl); (case hg => rfl); (case hn => rfl); (case hr => (try simp only [Act.put, List.setIfInBounds_toArray, List.set_cons_zero, List.set_cons_succ]); exact run_put7_ rfl (show _ = Value.pointer (some ⟨g8, 0, none⟩) from by rfl) (show _ = Value.agg #[.bool (decide (X1 < 0)), .int .u32 ((lb X1.natAbs 0 : Nat) : Int), .int .u32 ((lb X1.natAbs 1 : Nat) : Int), .int .u32 ((lb X1.natAbs 2 : Nat) : Int), .int .u32 ((lb X1.natAbs 3 : Nat) : Int), .int .u32 ((lb X1.natAbs 4 : Nat) : Int), .int .u32 ((lb X1.natAbs 5 : Nat) : Int)] from by rfl) (HO.out.at 0 rfl) (by kernel_rfl) (by rfl)); intro w8 hw; replace HO := Aside0.mk (HO.out.put7 0 rfl hw rfl); clear hw; obtain ⟨hm0, hm1, hm2, hm3, hm4, hm5, hm6⟩ := cells7_ (HO.out.at 1 rfl); obtain ⟨hn0, hn1, hn2, hn3, hn4, hn5, hn6⟩ := cells7_ (HO.out.at 4 rfl)) | (go_at_call 82; (with_reducible refine (M2.out _).mono ?_); rintro e w4 ⟨rfl, hb⟩; replace HO := Aside0.mk (HO.out.below hb); clear hb; clear hm0 hm1 hm2 hm3 hm4 hm5 hm6 hn0 hn1 hn2 hn3 hn4 hn5 hn6) | ((with_reducible refine gate_dst (N := 17) rfl ?_); refine box_event ?hg (N := 17) ?hd (cs := #[.bool false, .int .u32 0, .int .u32 0, .int .u32 0, .int .u32 0, .int .u32 0, .int .u32 0]) (t := 25) ?hr ?_; (case hd => rfl); (case hg => rfl); (case hr => first | (go_simp; done) | (go_simp; rfl)); intro g9 hg w9 hbox hb; replace HO := Aside0.mk (HO.out.box hg hbox hb); clear hg hbox hb) | ((with_reducible refine gate_store (t := 25) (p := 17) rfl ?_); refine store_event (t := 25) (p := 17) (v := ?vo_26) (w1 := (World.setCell (World.setCell (World.setCell (World.setCell (World.setCell (World.setCell (World.setCell w9 ⟨g9, 0, none⟩ (.bool (decide (X2 < 0)))) ⟨g9, 1, none⟩ (.int .u32 ((lb X2.natAbs 0 : Nat) : Int))) ⟨g9, 2, none⟩ (.int .u32 ((lb X2.natAbs 1 : Nat) : Int))) ⟨g9, 3, none⟩ (.int .u32 ((lb X2.natAbs 2 : Nat) : Int))) ⟨g9, 4, none⟩ (.int .u32 ((lb X2.natAbs 3 : Nat) : Int))) ⟨g9, 5, none⟩ (.int .u32 ((lb X2.natAbs 4 : Nat) : Int))) ⟨g9, 6, none⟩ (.int .u32 ((lb X2.natAbs 5 : Nat) : Int)))) ?hg ?ho ?hn ?hr ?_; (case ho => rfl); (case hg => rfl); (case hn => rfl); (case hr => (try simp only [Act.put, List.setIfInBounds_toArray, List.set_cons_zero, List.set_cons_succ]); exact run_put7_ rfl (show _ = Value.pointer (some ⟨g9, 0, none⟩) from by rfl) (show _ = Value.agg #[.bool (decide (X2 < 0)), .int .u32 ((lb X2.natAbs 0 : Nat) : Int), .int .u32 ((lb X2.natAbs 1 : Nat) : Int), .int .u32 ((lb X2.natAbs 2 : Nat) : Int), .int .u32 ((lb X2.natAbs 3 : Nat) : Int), .int .u32 ((lb X2.natAbs 4 : Nat) : Int), .int .u32 ((lb X2.natAbs 5 : Nat) : Int)] from by rfl) (HO.out.at 0 rfl) (by kernel_rfl) (by rfl)); intro w10 hw; replace HO := Aside0.mk (HO.out.put7 0 rfl hw rfl); clear hw) | ((with_reducible refine gate_store (t := 25) (p := 6) rfl ?_); refine store_event (t := 25) (p := 6) (v := ?vo_27) (w1 := (World.setCell (World.setCell (World.setCell (World.setCell (World.setCell (World.setCell (World.setCell w10 ⟨g1, 0, none⟩ (.bool false)) ⟨g1, 1, none⟩ (.int .u32 0)) ⟨g1, 2, none⟩ (.int .u32 0)) ⟨g1, 3, none⟩ (.int .u32 0)) ⟨g1, 4, none⟩ (.int .u32 0)) ⟨g1, 5, none⟩ (.int .u32 0)) ⟨g1, 6, none⟩ (.int .u32 0))) ?hg ?ho ?hn ?hr ?_; (case ho => rfl); (case hg => rfl); (case hn => rfl); (case hr => (try simp only [Act.put, List.setIfInBounds_toArray, List.set_cons_zero, List.set_cons_succ]); exact run_put7_ rfl (show _ = Value.pointer (some ⟨g1, 0, none⟩) from by rfl) (show _ = Value.agg #[.bool false, .int .u32 0, .int .u32 0, .int .u32 0, .int .u32 0, .int .u32 0, .int .u32 0] from by rfl) (HO.out.at 8 rfl) (by kernel_rfl) (by rfl)); intro w13 hw; replace HO := Aside0.mk (HO.out.put7 8 rfl hw rfl); clear hw) | ((with_reducible refine gate_store (t := 25) (p := 7) rfl ?_); refine store_event (t := 25) (p := 7) (v := ?vo_28) (w1 := (World.setCell (World.setCell (World.setCell (World.setCell (World.setCell (World.setCell (World.setCell w13 ⟨g2, 0, none⟩ (.bool false)) ⟨g2, 1, none⟩ (.int .u32 0)) ⟨g2, 2, none⟩ (.int .u32 0)) ⟨g2, 3, none⟩ (.int .u32 0)) ⟨g2, 4, none⟩ (.int .u32 0)) ⟨g2, 5, none⟩ (.int .u32 0)) ⟨g2, 6, none⟩ (.int .u32 0))) ?hg ?ho ?hn ?hr ?_; (case ho => rfl); (case hg => rfl); (case hn => rfl); (case hr => (try simp only [Act.put, List.setIfInBounds_toArray, List.set_cons_zero, List.set_cons_succ]); exact run_put7_ rfl (show _ = Value.pointer (some ⟨g2, 0, none⟩) from by rfl) (show _ = Value.agg #[.bool false, .int .u32 0, .int .u32 0, .int .u32 0, .int .u32 0, .int .u32 0, .int .u32 0] from by rfl) (HO.out.at 7 rfl) (by kernel_rfl) (by rfl)); intro w14 hw; replace HO := Aside0.mk (HO.out.put7 7 rfl hw rfl); clear hw))
            refine bodyPost_ret (results_list (rs := [.cell 6 25, .cell 7 25, .tmp 8]) rfl (by simp) (.cell g1 25 #[.bool false, .int .u32 0, .int .u32 0, .int .u32 0, .int .u32 0, .int .u32 0, .int .u32 0] (0, 0) _ rfl (HO.out.at 8 rfl) Try.underlying25 rfl (by kernel_rfl) (.cell g2 25 #[.bool false, .int .u32 0, .int .u32 0, .int .u32 0, .int .u32 0, .int .u32 0, .int .u32 0] (0, 0) _ rfl (HO.out.at 7 rfl) Try.underlying25 rfl (by kernel_rfl) (.tmp .nil)))) rfl ?_
            exact ⟨rfl, HO.out.bel⟩
        · have y1 : (e1 == 0) = false := by simpa using z1
          rw [if_neg (fun e => z1 e.1)] at h
          obtain ⟨rfl, h9⟩ := Prod.mk.inj (Option.some.inj h)
          obtain ⟨rfl, rfl⟩ := Prod.mk.inj h9
          have x1 : (e1 = 0) = False := eq_false z1
          go_wp2_with (first | (go_at_call 80; (with_reducible refine (spec_l04RootAt.calls a0 A1 c1 l1 i a _ ?s1 HC.out HT.out).mono ?_); (case s1 => exact Kd.C_below HR.out HO.out.bel); rintro e w4 ⟨rfl, ⟨nd, rfl⟩⟩; replace HO := Aside0.mk (HO.out.drewN nd)) | (go_at_call 83; (with_reducible refine (Wide.sOf _ a CA.out.1 CA.out.2).mono ?_); rintro e w4 ⟨rfl, hb⟩; replace HO := Aside0.mk (HO.out.below hb); clear hb) | ((with_reducible refine gate_dst (N := 14) rfl ?_); refine box_event ?hg (N := 14) ?hd (cs := #[.bool false, .int .u32 0, .int .u32 0, .int .u32 0, .int .u32 0, .int .u32 0, .int .u32 0]) (t := 25) ?hr ?_; (case hd => rfl); (case hg => rfl); (case hr => first | (go_simp; done) | (go_simp; rfl)); intro g7 hg w5 hbox hb; replace HO := Aside0.mk (HO.out.box hg hbox hb); clear hg hbox hb) | ((with_reducible refine gate_store (t := 25) (p := 14) rfl ?_); refine store_event (t := 25) (p := 14) (v := ?vo_29) (w1 := (World.setCell (World.setCell (World.setCell (World.setCell (World.setCell (World.setCell (World.setCell w5 ⟨g7, 0, none⟩ (.bool (decide (a < 0)))) ⟨g7, 1, none⟩ (.int .u32 ((lb a.natAbs 0 : Nat) : Int))) ⟨g7, 2, none⟩ (.int .u32 ((lb a.natAbs 1 : Nat) : Int))) ⟨g7, 3, none⟩ (.int .u32 ((lb a.natAbs 2 : Nat) : Int))) ⟨g7, 4, none⟩ (.int .u32 ((lb a.natAbs 3 : Nat) : Int))) ⟨g7, 5, none⟩ (.int .u32 ((lb a.natAbs 4 : Nat) : Int))) ⟨g7, 6, none⟩ (.int .u32 ((lb a.natAbs 5 : Nat) : Int)))) ?hg ?ho ?hn ?hr ?_; (case ho => rfl); (case hg => rfl); (case hn => rfl); (case hr => (try simp only [Act.put, List.setIfInBounds_toArray, List.set_cons_zero, List.set_cons_succ]); exact run_put7_ rfl (show _ = Value.pointer (some ⟨g7, 0, none⟩) from by rfl) (show _ = Value.agg #[.bool (decide (a < 0)), .int .u32 ((lb a.natAbs 0 : Nat) : Int), .int .u32 ((lb a.natAbs 1 : Nat) : Int), .int .u32 ((lb a.natAbs 2 : Nat) : Int), .int .u32 ((lb a.natAbs 3 : Nat) : Int), .int .u32 ((lb a.natAbs 4 : Nat) : Int), .int .u32 ((lb a.natAbs 5 : Nat) : Int)] from by rfl) (HO.out.at 0 rfl) (by kernel_rfl) (by rfl)); intro w6 hw; replace HO := Aside0.mk (HO.out.put7 0 rfl hw rfl); clear hw; obtain ⟨hm0, hm1, hm2, hm3, hm4, hm5, hm6⟩ := cells7_ (HO.out.at 0 rfl); obtain ⟨hn0, hn1, hn2, hn3, hn4, hn5, hn6⟩ := cells7_ (HO.out.at 4 rfl)) | (go_at_call 82; (with_reducible refine (M1.out _).mono ?_); rintro e w4 ⟨rfl, hb⟩; replace HO := Aside0.mk (HO.out.below hb); clear hb; clear hm0 hm1 hm2 hm3 hm4 hm5 hm6 hn0 hn1 hn2 hn3 hn4 hn5 hn6) | ((with_reducible refine gate_dst (N := 15) rfl ?_); refine box_event ?hg (N := 15) ?hd (cs := #[.bool false, .int .u32 0, .int .u32 0, .int .u32 0, .int .u32 0, .int .u32 0, .int .u32 0]) (t := 25) ?hr ?_; (case hd => rfl); (case hg => rfl); (case hr => first | (go_simp; done) | (go_simp; rfl)); intro g8 hg w7 hbox hb; replace HO := Aside0.mk (HO.out.box hg hbox hb); clear hg hbox hb) | ((with_reducible refine gate_store (t := 25) (p := 15) rfl ?_); refine store_event (t := 25) (p := 15) (v := ?vo_30) (w1 := (World.setCell (World.setCell (World.setCell (World.setCell (World.setCell (World.setCell (World.setCell w7 ⟨g8, 0, none⟩ (.bool (decide (X1 < 0)))) ⟨g8, 1, none⟩ (.int .u32 ((lb X1.natAbs 0 : Nat) : Int))) ⟨g8, 2, none⟩ (.int .u32 ((lb X1.natAbs 1 : Nat) : Int))) ⟨g8, 3, none⟩ (.int .u32 ((lb X1.natAbs 2 : Nat) : Int))) ⟨g8, 4, none⟩ (.int .u32 ((lb X1.natAbs 3 : Nat) : Int))) ⟨g8, 5, none⟩ (.int .u32 ((lb X1.natAbs 4 : Nat) : Int))) ⟨g8, 6, none⟩ (.int .u32 ((lb X1.natAbs 5 : Nat) : Int)))) ?hg ?ho ?hn ?hr ?_; (case ho => rfl); (case hg => rfl); (case hn => rfl); (case hr => (try simp only [Act.put, List.setIfInBounds_toArray, List.set_cons_zero, List.set_cons_succ]); exact run_put7_ rfl (show _ = Value.pointer (some ⟨g8, 0, none⟩) from by rfl) (show _ = Value.agg #[.bool (decide (X1 < 0)), .int .u32 ((lb X1.natAbs 0 : Nat) : Int), .int .u32 ((lb X1.natAbs 1 : Nat) : Int), .int .u32 ((lb X1.natAbs 2 : Nat) : Int), .int .u32 ((lb X1.natAbs 3 : Nat) : Int), .int .u32 ((lb X1.natAbs 4 : Nat) : Int), .int .u32 ((lb X1.natAbs 5 : Nat) : Int)] from by rfl) (HO.out.at 0 rfl) (by kernel_rfl) (by rfl)); intro w8 hw; replace HO := Aside0.mk (HO.out.put7 0 rfl hw rfl); clear hw; obtain ⟨hm0, hm1, hm2, hm3, hm4, hm5, hm6⟩ := cells7_ (HO.out.at 1 rfl); obtain ⟨hn0, hn1, hn2, hn3, hn4, hn5, hn6⟩ := cells7_ (HO.out.at 4 rfl)) | (go_at_call 82; (with_reducible refine (M2.out _).mono ?_); rintro e w4 ⟨rfl, hb⟩; replace HO := Aside0.mk (HO.out.below hb); clear hb; clear hm0 hm1 hm2 hm3 hm4 hm5 hm6 hn0 hn1 hn2 hn3 hn4 hn5 hn6) | ((with_reducible refine gate_dst (N := 17) rfl ?_); refine box_event ?hg (N := 17) ?hd (cs := #[.bool false, .int .u32 0, .int .u32 0, .int .u32 0, .int .u32 0, .int .u32 0, .int .u32 0]) (t := 25) ?hr ?_; (case hd => rfl); (case hg => rfl); (case hr => first | (go_simp; done) | (go_simp; rfl)); intro g9 hg w9 hbox hb; replace HO := Aside0.mk (HO.out.box hg hbox hb); clear hg hbox hb) | ((with_reducible refine gate_store (t := 25) (p := 17) rfl ?_); refine store_event (t := 25) (p := 17) (v := ?vo_31) (w1 := (World.setCell (World.setCell (World.setCell (World.setCell (World.setCell (World.setCell (World.setCell w9 ⟨g9, 0, none⟩ (.bool (decide (X2 < 0)))) ⟨g9, 1, none⟩ (.int .u32 ((lb X2.natAbs 0 : Nat) : Int))) ⟨g9, 2, none⟩ (.int .u32 ((lb X2.natAbs 1 : Nat) : Int))) ⟨g9, 3, none⟩ (.int .u32 ((lb X2.natAbs 2 : Nat) : Int))) ⟨g9, 4, none⟩ (.int .u32 ((lb X2.natAbs 3 : Nat) : Int))) ⟨g9, 5, none⟩ (.int .u32 ((lb X2.natAbs 4 : Nat) : Int))) ⟨g9, 6, none⟩ (.int .u32 ((lb X2.natAbs 5 : Nat) : Int)))) ?hg ?ho ?hn ?hr ?_; (case ho => rfl); (case hg => rfl); (case hn => rfl); (case hr => (try simp only [Act.put, List.setIfInBounds_toArray, List.set_cons_zero, List.set_cons_succ]); exact run_put7_ rfl (show _ = Value.pointer (some ⟨g9, 0, none⟩) from by rfl) (show _ = Value.agg #[.bool (decide (X2 < 0)), .int .u32 ((lb X2.natAbs 0 : Nat) : Int), .int .u32 ((lb X2.natAbs 1 : Nat) : Int), .int .u32 ((lb X2.natAbs 2 : Nat) : Int), .int .u32 ((lb X2.natAbs 3 : Nat) : Int), .int .u32 ((lb X2.natAbs 4 : Nat) : Int), .int .u32 ((lb X2.natAbs 5 : Nat) : Int)] from by rfl) (HO.out.at 0 rfl) (by kernel_rfl) (by rfl)); intro w10 hw; replace HO := Aside0.mk (HO.out.put7 0 rfl hw rfl); clear hw) | ((with_reducible refine gate_store (t := 25) (p := 6) rfl ?_); refine store_event (t := 25) (p := 6) (v := ?vo_32) (w1 := (World.setCell (World.setCell (World.setCell (World.setCell (World.setCell (World.setCell (World.setCell w10 ⟨g1, 0, none⟩ (.bool false)) ⟨g1, 1, none⟩ (.int .u32 0)) ⟨g1, 2, none⟩ (.int .u32 0)) ⟨g1, 3, none⟩ (.int .u32 0)) ⟨g1, 4, none⟩ (.int .u32 0)) ⟨g1, 5, none⟩ (.int .u32 0)) ⟨g1, 6, none⟩ (.int .u32 0))) ?hg ?ho ?hn ?hr ?_; (case ho => rfl); (case hg => rfl); (case hn => rfl); (case hr => (try simp only [Act.put, List.setIfInBounds_toArray, List.set_cons_zero, List.set_cons_succ]); exact run_put7_ rfl (show _ = Value.pointer (some ⟨g1, 0, none⟩) from by rfl) (show _ = Value.agg #[.bool false, .int .u32 0, .int .u32 0, .int .u32 0, .int .u32 0, .int .u32 0, .int .u32 0] from by rfl) (HO.out.at 8 rfl) (by kernel_rfl) (by rfl)); intro w13 hw; replace HO := Aside0.mk (HO.out.put7 8 rfl hw rfl); clear hw) | ((with_reducible refine gate_store (t := 25) (p := 7) rfl ?_); refine store_event (t := 25) (p := 7) (v := ?vo_33) (w1 := (World.setCell (World.setCell (World.setCell (World.setCell (World.setCell (World.setCell (World.setCell w13 ⟨g2, 0, none⟩ (.bool false)) ⟨g2, 1, none⟩ (.int .u32 0)) ⟨g2, 2, none⟩ (.int .u32 0)) ⟨g2, 3, none⟩ (.int .u32 0)) ⟨g2, 4, none⟩ (.int .u32 0)) ⟨g2, 5, none⟩ (.int .u32 0)) ⟨g2, 6, none⟩ (.int .u32 0))) ?hg ?ho ?hn ?hr ?_; (case ho => rfl); (case hg => rfl); (case hn => rfl); (case hr => (try simp only [Act.put, List.setIfInBounds_toArray, List.set_cons_zero, List.set_cons_succ]); exact run_put7_ rfl (show _ = Value.pointer (some ⟨g2, 0, none⟩) from by rfl) (show _ = Value.agg #[.bool false, .int .u32 0, .int .u32 0, .int .u32 0, .int .u32 0, .int .u32 0, .int .u32 0] from by rfl) (HO.out.at 7 rfl) (by kernel_rfl) (by rfl)); intro w14 hw; replace HO := Aside0.mk (HO.out.put7 7 rfl hw rfl); clear hw))
          refine bodyPost_ret (results_list (rs := [.cell 6 25, .cell 7 25, .tmp 8]) rfl (by simp) (.cell g1 25 #[.bool false, .int .u32 0, .int .u32 0, .int .u32 0, .int .u32 0, .int .u32 0, .int .u32 0] (0, 0) _ rfl (HO.out.at 8 rfl) Try.underlying25 rfl (by kernel_rfl) (.cell g2 25 #[.bool false, .int .u32 0, .int .u32 0, .int .u32 0, .int .u32 0, .int .u32 0, .int .u32 0] (0, 0) _ rfl (HO.out.at 7 rfl) Try.underlying25 rfl (by kernel_rfl) (.tmp .nil)))) rfl ?_
          exact ⟨rfl, HO.out.bel⟩
      · rw [if_neg ca] at h
        exact absurd h (by simp)
    · rw [if_neg c] at h
      obtain ⟨rfl, h9⟩ := Prod.mk.inj (Option.some.inj h)
      obtain ⟨rfl, rfl⟩ := Prod.mk.inj h9
      have c2 : decide (i ≤ a2) = false := decide_eq_false c
      clear c h
      go_wp2
      replace HO := Aside0.mk HO.out.drew
      refine start_ (n := 5) (S := fun w' => w'.cell? ⟨g3, 0, none⟩ = some (.bool (decide (p < 0))) ∧ w'.cell? ⟨g3, 1, none⟩ = some (.int .u32 ((lb p.natAbs 0 : Nat) : Int)) ∧ w'.cell? ⟨g3, 2, none⟩ = some (.int .u32 ((lb p.natAbs 1 : Nat) : Int)) ∧ w'.cell? ⟨g3, 3, none⟩ = some (.int .u32 ((lb p.natAbs 2 : Nat) : Int)) ∧ w'.cell? ⟨g3, 4, none⟩ = some (.int .u32 ((lb p.natAbs 3 : Nat) : Int)) ∧ w'.cell? ⟨g3, 5, none⟩ = some (.int .u32 ((lb p.natAbs 4 : Nat) : Int)) ∧ w'.cell? ⟨g3, 6, none⟩ = some (.int .u32 ((lb p.natAbs 5 : Nat) : Int)) ∧ w'.cell? ⟨g4, 0, none⟩ = some (.bool (decide (q < 0))) ∧ w'.cell? ⟨g4, 1, none⟩ = some (.int .u32 ((lb q.natAbs 0 : Nat) : Int)) ∧ w'.cell? ⟨g4, 2, none⟩ = some (.int .u32 ((lb q.natAbs 1 : Nat) : Int)) ∧ w'.cell? ⟨g4, 3, none⟩ = some (.int .u32 ((lb q.natAbs 2 : Nat) : Int)) ∧ w'.cell? ⟨g4, 4, none⟩ = some (.int .u32 ((lb q.natAbs 3 : Nat) : Int)) ∧ w'.cell? ⟨g4, 5, none⟩ = some (.int .u32 ((lb q.natAbs 4 : Nat) : Int)) ∧ w'.cell? ⟨g4, 6, none⟩ = some (.int .u32 ((lb q.natAbs 5 : Nat) : Int))) (ds := [3]) #[false, false, false, false, false] (by kernel_rfl) rfl rfl ⟨HO.out.cell 3 rfl 0 rfl, HO.out.cell 3 rfl 1 rfl, HO.out.cell 3 rfl 2 rfl, HO.out.cell 3 rfl 3 rfl, HO.out.cell 3 rfl 4 rfl, HO.out.cell 3 rfl 5 rfl, HO.out.cell 3 rfl 6 rfl, HO.out.cell 2 rfl 0 rfl, HO.out.cell 2 rfl 1 rfl, HO.out.cell 2 rfl 2 rfl, HO.out.cell 2 rfl 3 rfl, HO.out.cell 2 rfl 4 rfl, HO.out.cell 2 rfl 5 rfl, HO.out.cell 2 rfl 6 rfl⟩ (fun hHeld => ?_)
      refine take_ (i := 0) (N := some 77) (v := ?_) (a' := ?_) #[true, false, false, false, false] rfl rfl (by kernel_rfl) (fun _ _ _ h => h) (Or.inl ⟨by rfl, ?_⟩) hHeld ?_ ?_
      rotate_left
      · rintro w' ⟨s0, s1, s2, s3, s4, s5, s6, s7, s8, s9, s10, s11, s12, s13⟩
        go_simp
        with_reducible rfl
      rotate_left
      · simp only [Act.put, List.setIfInBounds_toArray, List.set_cons_zero, List.set_cons_succ, i64_w, i32_w]
        rfl
      refine take_ (i := 1) (N := some 78) (v := ?_) (a' := ?_) #[true, true, false, false, false] rfl rfl (by kernel_rfl) (fun _ _ _ h => h) (Or.inl ⟨by rfl, ?_⟩) hHeld ?_ ?_
      rotate_left
      · rintro w' ⟨s0, s1, s2, s3, s4, s5, s6, s7, s8, s9, s10, s11, s12, s13⟩
        go_simp
        with_reducible rfl
      rotate_left
      · simp only [Act.put, List.setIfInBounds_toArray, List.set_cons_zero, List.set_cons_succ, i64_w, i32_w]
        rfl
      have HO2 := Aside0.mk (HO.out.put7 5 rfl (rfl : (World.setCell (World.setCell (World.setCell (World.setCell (World.setCell (World.setCell (World.setCell wr.drew ⟨g1, 0, none⟩ (.bool (decide (p < 0)))) ⟨g1, 1, none⟩ (.int .u32 ((lb p.natAbs 0 : Nat) : Int))) ⟨g1, 2, none⟩ (.int .u32 ((lb p.natAbs 1 : Nat) : Int))) ⟨g1, 3, none⟩ (.int .u32 ((lb p.natAbs 2 : Nat) : Int))) ⟨g1, 4, none⟩ (.int .u32 ((lb p.natAbs 3 : Nat) : Int))) ⟨g1, 5, none⟩ (.int .u32 ((lb p.natAbs 4 : Nat) : Int))) ⟨g1, 6, none⟩ (.int .u32 ((lb p.natAbs 5 : Nat) : Int))) = _) rfl)
      refine one_store_ (i := 2) (w1 := (World.setCell (World.setCell (World.setCell (World.setCell (World.setCell (World.setCell (World.setCell wr.drew ⟨g1, 0, none⟩ (.bool (decide (p < 0)))) ⟨g1, 1, none⟩ (.int .u32 ((lb p.natAbs 0 : Nat) : Int))) ⟨g1, 2, none⟩ (.int .u32 ((lb p.natAbs 1 : Nat) : Int))) ⟨g1, 3, none⟩ (.int .u32 ((lb p.natAbs 2 : Nat) : Int))) ⟨g1, 4, none⟩ (.int .u32 ((lb p.natAbs 3 : Nat) : Int))) ⟨g1, 5, none⟩ (.int .u32 ((lb p.natAbs 4 : Nat) : Int))) ⟨g1, 6, none⟩ (.int .u32 ((lb p.natAbs 5 : Nat) : Int)))) #[true, true, true, false, false] rfl rfl (by kernel_rfl) (by decide) (by rfl) (run_put7_ rfl (show _ = Value.pointer (some ⟨g1, 0, none⟩) from by rfl) (show _ = Value.agg #[.bool (decide (p < 0)), .int .u32 ((lb p.natAbs 0 : Nat) : Int), .int .u32 ((lb p.natAbs 1 : Nat) : Int), .int .u32 ((lb p.natAbs 2 : Nat) : Int), .int .u32 ((lb p.natAbs 3 : Nat) : Int), .int .u32 ((lb p.natAbs 4 : Nat) : Int), .int .u32 ((lb p.natAbs 5 : Nat) : Int)] from by rfl) (HO.out.at 5 rfl) (by kernel_rfl) (by rfl)) ⟨HO2.out.cell 3 rfl 0 rfl, HO2.out.cell 3 rfl 1 rfl, HO2.out.cell 3 rfl 2 rfl, HO2.out.cell 3 rfl 3 rfl, HO2.out.cell 3 rfl 4 rfl, HO2.out.cell 3 rfl 5 rfl, HO2.out.cell 3 rfl 6 rfl, HO2.out.cell 2 rfl 0 rfl, HO2.out.cell 2 rfl 1 rfl, HO2.out.cell 2 rfl 2 rfl, HO2.out.cell 2 rfl 3 rfl, HO2.out.cell 2 rfl 4 rfl, HO2.out.cell 2 rfl 5 rfl, HO2.out.cell 2 rfl 6 rfl⟩ (fun hHeld => ?_)
      refine last_store_ (i := 3) (w1 := (World.setCell (World.setCell (World.setCell (World.setCell (World.setCell (World.setCell (World.setCell (World.setCell (World.setCell (World.setCell (World.setCell (World.setCell (World.setCell (World.setCell wr.drew ⟨g1, 0, none⟩ (.bool (decide (p < 0)))) ⟨g1, 1, none⟩ (.int .u32 ((lb p.natAbs 0 : Nat) : Int))) ⟨g1, 2, none⟩ (.int .u32 ((lb p.natAbs 1 : Nat) : Int))) ⟨g1, 3, none⟩ (.int .u32 ((lb p.natAbs 2 : Nat) : Int))) ⟨g1, 4, none⟩ (.int .u32 ((lb p.natAbs 3 : Nat) : Int))) ⟨g1, 5, none⟩ (.int .u32 ((lb p.natAbs 4 : Nat) : Int))) ⟨g1, 6, none⟩ (.int .u32 ((lb p.natAbs 5 : Nat) : Int))) ⟨g2, 0, none⟩ (.bool (decide (q < 0)))) ⟨g2, 1, none⟩ (.int .u32 ((lb q.natAbs 0 : Nat) : Int))) ⟨g2, 2, none⟩ (.int .u32 ((lb q.natAbs 1 : Nat) : Int))) ⟨g2, 3, none⟩ (.int .u32 ((lb q.natAbs 2 : Nat) : Int))) ⟨g2, 4, none⟩ (.int .u32 ((lb q.natAbs 3 : Nat) : Int))) ⟨g2, 5, none⟩ (.int .u32 ((lb q.natAbs 4 : Nat) : Int))) ⟨g2, 6, none⟩ (.int .u32 ((lb q.natAbs 5 : Nat) : Int)))) #[true, true, true, true, false] rfl rfl (by kernel_rfl) (by decide) (by rfl) (run_put7_ rfl (show _ = Value.pointer (some ⟨g2, 0, none⟩) from by rfl) (show _ = Value.agg #[.bool (decide (q < 0)), .int .u32 ((lb q.natAbs 0 : Nat) : Int), .int .u32 ((lb q.natAbs 1 : Nat) : Int), .int .u32 ((lb q.natAbs 2 : Nat) : Int), .int .u32 ((lb q.natAbs 3 : Nat) : Int), .int .u32 ((lb q.natAbs 4 : Nat) : Int), .int .u32 ((lb q.natAbs 5 : Nat) : Int)] from by rfl) (HO2.out.at 4 rfl) (by kernel_rfl) (by rfl)) ?_
      refine pure_ (i := 4) (N := some 8) (v := ?_) (a' := ?_) #[true, true, true, true, true] rfl rfl (by kernel_rfl) (fun _ _ _ h => h) (Or.inl ⟨by rfl, ?_⟩) ?_ ?_
      rotate_left
      · intro w'
        go_simp
        with_reducible rfl
      rotate_left
      · simp only [Act.put, List.setIfInBounds_toArray, List.set_cons_zero, List.set_cons_succ, i64_w, i32_w]
        rfl
      refine done_ (by kernel_rfl) ?_
      generalize hw_ : (World.setCell (World.setCell (World.setCell (World.setCell (World.setCell (World.setCell (World.setCell (World.setCell (World.setCell (World.setCell (World.setCell (World.setCell (World.setCell (World.setCell wr.drew ⟨g1, 0, none⟩ (.bool (decide (p < 0)))) ⟨g1, 1, none⟩ (.int .u32 ((lb p.natAbs 0 : Nat) : Int))) ⟨g1, 2, none⟩ (.int .u32 ((lb p.natAbs 1 : Nat) : Int))) ⟨g1, 3, none⟩ (.int .u32 ((lb p.natAbs 2 : Nat) : Int))) ⟨g1, 4, none⟩ (.int .u32 ((lb p.natAbs 3 : Nat) : Int))) ⟨g1, 5, none⟩ (.int .u32 ((lb p.natAbs 4 : Nat) : Int))) ⟨g1, 6, none⟩ (.int .u32 ((lb p.natAbs 5 : Nat) : Int))) ⟨g2, 0, none⟩ (.bool (decide (q < 0)))) ⟨g2, 1, none⟩ (.int .u32 ((lb q.natAbs 0 : Nat) : Int))) ⟨g2, 2, none⟩ (.int .u32 ((lb q.natAbs 1 : Nat) : Int))) ⟨g2, 3, none⟩ (.int .u32 ((lb q.natAbs 2 : Nat) : Int))) ⟨g2, 4, none⟩ (.int .u32 ((lb q.natAbs 3 : Nat) : Int))) ⟨g2, 5, none⟩ (.int .u32 ((lb q.natAbs 4 : Nat) : Int))) ⟨g2, 6, none⟩ (.int .u32 ((lb q.natAbs 5 : Nat) : Int))) = w19
      replace HO := Aside0.mk (HO2.out.put7 4 rfl hw_.symm rfl)
      clear hw_
      go_wp2
      refine bodyPost_ret (results_list (rs := [.cell 6 25, .cell 7 25, .tmp 8]) rfl (by simp) (.cell g1 25 #[.bool (decide (p < 0)), .int .u32 ((lb p.natAbs 0 : Nat) : Int), .int .u32 ((lb p.natAbs 1 : Nat) : Int), .int .u32 ((lb p.natAbs 2 : Nat) : Int), .int .u32 ((lb p.natAbs 3 : Nat) : Int), .int .u32 ((lb p.natAbs 4 : Nat) : Int), .int .u32 ((lb p.natAbs 5 : Nat) : Int)] (0, 0) _ rfl (HO.out.at 5 rfl) Try.underlying25 rfl (by kernel_rfl) (.cell g2 25 #[.bool (decide (q < 0)), .int .u32 ((lb q.natAbs 0 : Nat) : Int), .int .u32 ((lb q.natAbs 1 : Nat) : Int), .int .u32 ((lb q.natAbs 2 : Nat) : Int), .int .u32 ((lb q.natAbs 3 : Nat) : Int), .int .u32 ((lb q.natAbs 4 : Nat) : Int), .int .u32 ((lb q.natAbs 5 : Nat) : Int)] (0, 0) _ rfl (HO.out.at 4 rfl) Try.underlying25 rfl (by kernel_rfl) (.tmp .nil)))) rfl ?_
      exact ⟨rfl, HO.out.bel⟩

/-! ### spec_l00In: function 86 -/
def spec_l00In.f (a0 : Int) (a1 : Int) (a2 : Int) : Option (Bool) := if a0 ≥ a1 then (some (decide (a0 ≤ a2))) else (some false)
set_option maxHeartbeats 8000000 in
set_option maxRecDepth 100000 in
theorem spec_l00In.calls (a0 : Int) (a1 : Int) (a2 : Int) (r : Bool) (w : World) (h : spec_l00In.f a0 a1 a2 = some r) :
    Calls Try.prog 86 #[.int .i64 a0, .int .i64 a1, .int .i64 a2] w fun e w' => e = .returned (.bool r) ∧ Drawn0 w w' := by
  have H : (if a0 ≥ a1 then (some (decide (a0 ≤ a2))) else (some false)) = some r := h
  clear h
  by_cases c4 : a0 ≥ a1
  · rw [if_pos c4] at H
    have c4b0 : decide (a1 ≤ a0) = true := decide_eq_true c4
    clear c4
    obtain rfl := Option.some.inj H
    go_enter Try.func86, Try.ntmps86
    go_wp2
    go_ret
    exact ⟨by first | rfl | (simp; done) | (simp [*]; done), by repeat (first | exact Drawn0.refl _ | apply Drawn0.step)⟩
  · rw [if_neg c4] at H
    have c4b0 : decide (a1 ≤ a0) = false := decide_eq_false c4
    clear c4
    obtain rfl := Option.some.inj H
    go_enter Try.func86, Try.ntmps86
    go_wp2
    go_ret
    exact ⟨by first | rfl | (simp; done) | (simp [*]; done), by repeat (first | exact Drawn0.refl _ | apply Drawn0.step)⟩

/-! ### spec_l04Root: function 87 -/
def spec_l04Root.l0 : Nat → Int → Int → Option (Int)
  | 0, _, _ => none
  | k + 1, x0, x3 => if (wrap64 ((wrap64 (x3 + 1)) * (wrap64 (x3 + 1)))) ≤ x0 then (spec_l04Root.l0 k x0 (wrap64 (x3 + 1))) else (some x3)
def spec_l04Root.f (k : Nat) (a0 : Int) : Option (Int) := spec_l04Root.l0 k a0 0
theorem spec_l04Root.mono_l : ∀ k, (∀ y0 y1, LeO (spec_l04Root.l0 k y0 y1) (spec_l04Root.l0 (k + 1) y0 y1))
  | 0 => fun _ _ r h => by simp [spec_l04Root.l0] at h
  | k + 1 => by
    have ih0 := spec_l04Root.mono_l k
    · intro y0 y1
      unfold spec_l04Root.l0
      repeat' first
      | (with_reducible exact ih0 _ _)
      | (with_reducible exact LeO.refl _)
      | (with_reducible exact LeO.none _)
      | (with_reducible refine LeO.ite ?_ ?_)
      | (with_reducible refine LeO.bind ?_ (fun _ => ?_))
      | exact ih0 _ _
      | exact LeO.none _
      | refine LeO.ite ?_ ?_
      | refine LeO.bind ?_ (fun _ => ?_)
theorem spec_l04Root.mono : ∀ a0 k, LeO (spec_l04Root.f k a0) (spec_l04Root.f (k + 1) a0) := by
  intro a0 k
  have ih0 := spec_l04Root.mono_l k
  unfold spec_l04Root.f
  repeat' first
      | (with_reducible exact ih0 _ _)
      | (with_reducible exact LeO.refl _)
      | (with_reducible exact LeO.none _)
      | (with_reducible refine LeO.ite ?_ ?_)
      | (with_reducible refine LeO.bind ?_ (fun _ => ?_))
      | exact ih0 _ _
      | exact LeO.none _
      | refine LeO.ite ?_ ?_
      | refine LeO.bind ?_ (fun _ => ?_)
set_option maxHeartbeats 8000000 in
set_option maxRecDepth 100000 in
theorem spec_l04Root.calls (k : Nat) (a0 : Int) (r : Int) (w : World) (h : spec_l04Root.f k a0 = some r) :
    Calls Try.prog 87 #[.int .i64 a0] w fun e w' => e = .returned (.int .i64 r) ∧ Drawn0 w w' := by
  have H : (spec_l04Root.l0 k a0 0) = some r := h
  clear h
  have H' := Aside0.mk H
  clear H
  go_enter Try.func87, Try.ntmps87
  go_wp2
  go_loopg [3] k (fun kq v3 w' => ∃ (x3_1 : Int), v3 = .int .i64 x3_1 ∧ Aside0 (spec_l04Root.l0 kq a0 x3_1 = some r) ∧ Aside0 (kq ≤ k) ∧ Drawn0 w w')
  case atStart => exact ⟨(0), (by first | rfl | (simp; done) | (simp [*]; done)), H', ⟨Nat.le_refl _⟩, by repeat (first | exact Drawn0.refl _ | apply Drawn0.step)⟩
  case round =>
    clear H'
    obtain ⟨x3_1, rfl, HA, HK1, ⟨m1, rfl⟩⟩ := hrel
    cases gk with
    | zero => exact absurd HA.out (by simp [spec_l04Root.l0])
    | succ k1 =>
      have H := HA.out
      clear HA
      simp only [spec_l04Root.l0] at H
      by_cases c2 : (wrap64 ((wrap64 (x3_1 + 1)) * (wrap64 (x3_1 + 1)))) ≤ a0
      · rw [if_pos c2] at H
        have c2b0 : decide ((wrap64 ((wrap64 (x3_1 + 1)) * (wrap64 (x3_1 + 1)))) ≤ a0) = true := decide_eq_true c2
        clear c2
        have H' := Aside0.mk H
        clear H
        go_wp2
        go_roundg k1
        case measure => have := HK1.out; omega
        case rel => exact ⟨(wrap64 (x3_1 + 1)), (by first | rfl | (simp; done) | (simp [*]; done)), H', ⟨by have := HK1.out; omega⟩, by repeat (first | exact Drawn0.refl _ | apply Drawn0.step)⟩
      · rw [if_neg c2] at H
        have c2b0 : decide ((wrap64 ((wrap64 (x3_1 + 1)) * (wrap64 (x3_1 + 1)))) ≤ a0) = false := decide_eq_false c2
        clear c2
        obtain rfl := Option.some.inj H
        go_wp2
        go_ret
        exact ⟨by first | rfl | (simp; done) | (simp [*]; done), by repeat (first | exact Drawn0.refl _ | apply Drawn0.step)⟩

set_option linter.defProp false

theorem q47x1_ {P : Prop} (h : P := by repeat (first | (with_reducible first | exact HB.out | apply below_alloc | apply pw_below_drewN | apply below_drew1) | exact HB.out)) : P := h
theorem q47x2_ {P : Prop} (h : P := by (try simp only [List.map_toArray, List.map_cons, List.map_nil]); first | done | rfl | (simp only [List.length_drop, List.length_take]; rfl) | (simp only [List.drop_one]; done) | (simp only [List.drop_one]; rfl)) : P := h
theorem q47x3_ {P : Prop} (h : P := by first | rfl | (simp; done) | (simp [*]; done)) : P := h
theorem q47x4_ {P : Prop} (h : P := by (with_reducible repeat (first | apply Kd.R_alloc | apply Kd.R_drewN | apply Kd.R_drew)); exact HO_6.out) : P := h
/-! ### spec_l04Period: function 47 -/
def spec_l04Period.l0 : Nat → Int → Int → List Int → Int → Int → Int → Option (Int × List Int × Int)
 | 0, _, _, _, _, _, _ => none
 | k + 1, x0, x5, x6, x7, x8, x9 => if x9 = (wrap64 (2 * x5)) then (some (x5, x6, 0)) else (if x8 = 0 then (none) else (if (wrap64 (Int.tdiv (wrap64 (x0 - (wrap64 ((wrap64 ((wrap64 (x8 * x9)) - x7)) * (wrap64 ((wrap64 (x8 * x9)) - x7)))))) x8)) = 0 then (none) else (if (x6.length : Int) = 3000 then (some (0, (([] : List Int)), 3)) else (if x6.length < 17592186044416 then (spec_l04Period.l0 k x0 x5 (x6 ++ [wrap64 (Int.tdiv (wrap64 (x5 + (wrap64 ((wrap64 (x8 * x9)) - x7)))) (wrap64 (Int.tdiv (wrap64 (x0 - (wrap64 ((wrap64 ((wrap64 (x8 * x9)) - x7)) * (wrap64 ((wrap64 (x8 * x9)) - x7)))))) x8)))]) (wrap64 ((wrap64 (x8 * x9)) - x7)) (wrap64 (Int.tdiv (wrap64 (x0 - (wrap64 ((wrap64 ((wrap64 (x8 * x9)) - x7)) * (wrap64 ((wrap64 (x8 * x9)) - x7)))))) x8)) (wrap64 (Int.tdiv (wrap64 (x5 + (wrap64 ((wrap64 (x8 * x9)) - x7)))) (wrap64 (Int.tdiv (wrap64 (x0 - (wrap64 ((wrap64 ((wrap64 (x8 * x9)) - x7)) * (wrap64 ((wrap64 (x8 * x9)) - x7)))))) x8))))) else (none)))))
def spec_l04Period.f (k : Nat) (a0 : Int) : Option (Int × List Int × Int) := (spec_l00In.f a0 0 1000000).bind fun t160 => (if t160 = true then ((spec_l04Root.f k a0).bind fun t164 => ((some (([] : List Int) : List Int)).bind fun y165 => (if (wrap64 (t164 * t164)) = a0 then (some (t164, y165, 0)) else (spec_l04Period.l0 k a0 t164 y165 0 1 t164)))) else (some (0, (([] : List Int)), 2)))
theorem spec_l04Period.mono_l : ∀ k, (∀ y0 y1 y2 y3 y4 y5, LeO (spec_l04Period.l0 k y0 y1 y2 y3 y4 y5) (spec_l04Period.l0 (k + 1) y0 y1 y2 y3 y4 y5))
 | 0 => fun _ _ _ _ _ _ r h => by simp [spec_l04Period.l0] at h
 | k + 1 => by
  have ih0 := spec_l04Period.mono_l k
  intro y0 y1 y2 y3 y4 y5
  unfold spec_l04Period.l0
  repeat' first
  | (with_reducible exact ih0 _ _ _ _ _ _)
  | (with_reducible exact spec_l04Root.mono _ _)
  | (with_reducible exact LeO.refl _)
  | (with_reducible exact LeO.none _)
  | (with_reducible refine LeO.ite ?_ ?_)
  | (with_reducible refine LeO.bind ?_ (fun _ => ?_))
  | exact ih0 _ _ _ _ _ _
  | exact spec_l04Root.mono _ _
  | exact LeO.none _
  | refine LeO.ite ?_ ?_
  | refine LeO.bind ?_ (fun _ => ?_)
theorem spec_l04Period.mono : ∀ a0 k, LeO (spec_l04Period.f k a0) (spec_l04Period.f (k + 1) a0) := by
 intro a0 k
 have ih0 := spec_l04Period.mono_l k
 unfold spec_l04Period.f
 repeat' first
   | (with_reducible exact ih0 _ _ _ _ _ _)
   | (with_reducible exact spec_l04Root.mono _ _)
   | (with_reducible exact LeO.refl _)
   | (with_reducible exact LeO.none _)
   | (with_reducible refine LeO.ite ?_ ?_)
   | (with_reducible refine LeO.bind ?_ (fun _ => ?_))
   | exact ih0 _ _ _ _ _ _
   | exact spec_l04Root.mono _ _
   | exact LeO.none _
   | refine LeO.ite ?_ ?_
   | refine LeO.bind ?_ (fun _ => ?_)
set_option maxHeartbeats 8000000 in
set_option maxRecDepth 100000 in
theorem spec_l04Period.calls (k : Nat) (a0 : Int) (r1 : Int) (r2 : List Int) (r3 : Int) (w : World) (h : spec_l04Period.f k a0 = some (r1, r2, r3)) :
  Calls Try.prog 47 #[.int .i64 a0] w fun e w' => ∃ v1_ : Value, e = .returned (.tuple #[.int .i64 r1, v1_, .int .i64 r3]) ∧ Kd.R (Kd.int .i64) 2 w' w.heap.size (fun _ => True) v1_ r2 ∧ Below w.heap.size w w' := by
 have HB := Aside0.mk (Below.refl w.heap.size w)
 have H : ((spec_l00In.f a0 0 1000000).bind fun t160 => (if t160 = true then ((spec_l04Root.f k a0).bind fun t164 => ((some (([] : List Int) : List Int)).bind fun y165 => (if (wrap64 (t164 * t164)) = a0 then (some (t164, y165, 0)) else (spec_l04Period.l0 k a0 t164 y165 0 1 t164)))) else (some (0, (([] : List Int)), 2)))) = some (r1, r2, r3) := h
 clear h
 replace H := Option.bind_eq_some_iff.mp H
 obtain ⟨t160, A20, H⟩ := H
 replace H : (if t160 = true then ((spec_l04Root.f k a0).bind fun t164 => ((some (([] : List Int) : List Int)).bind fun y165 => (if (wrap64 (t164 * t164)) = a0 then (some (t164, y165, 0)) else (spec_l04Period.l0 k a0 t164 y165 0 1 t164)))) else (some (0, (([] : List Int)), 2))) = some (r1, r2, r3) := H
 have A2 := Aside0.mk A20
 clear A20
 by_cases c3 : t160 = true
 rotate_left
 ·replace c3 := Bool.eq_false_iff.mpr c3
  subst c3
  have H1 : (some (0, (([] : List Int)), 2)) = some (r1, r2, r3) := by rw [if_neg (show ¬ (false = true) by decide)] at H; exact H
  clear H
  have H := H1
  clear H1
  obtain ⟨y161, hy161⟩ : ∃ y_ : List Int, y_ = (([] : List Int)) := ⟨_, rfl⟩
  replace H : (some (0, y161, 2)) = some (r1, r2, r3) := by first | (rw [hy161]; with_reducible exact H) | (have H2_ := (Option.bind_some _ _).symm.trans H; rw [hy161]; with_reducible exact H2_) | (have H2_ := (Option.bind_some _ _).symm.trans H; with_reducible exact H2_) | with_reducible exact H | (rw [hy161]; exact H) | exact H
  have Ny161 := Aside0.mk hy161
  clear hy161
  simp only [Option.some.injEq, Prod.mk.injEq] at H
  obtain ⟨rfl, rfl, rfl⟩ := H
  go_enter Try.func47, Try.ntmps47
  go_wp2_with (first | ((with_reducible refine gate_callee (f := 86) rfl ?_); refine goesL_ (some 11) rfl rfl Try.func86 (by kernel_rfl) rfl #[.int .i64 a0, .int .i64 0, .int .i64 1000000] rfl q47x2_ ?_; (with_reducible refine (spec_l00In.calls a0 0 1000000 false _ A2.out).mono ?_); rintro e w' ⟨rfl, ⟨nd, rfl⟩⟩; refine ⟨_, rfl, ?_⟩) | ((with_reducible refine gate_dst (N := 13) rfl ?_); refine Kd.R_lit (Kd.int .i64) _ 2 ?hg (N := 13) ?hd (xs := ([] : List Int)) (inner := []) (ok := fun _ => True) (okp := fun _ => True) ?hr ?hp (fun _ hk => hk) trivial (Below.refl _ _) (Nat.le_refl _) (by simp) ?_; (case hd => rfl); (case hg => rfl); (case hr => first | (go_simp; done) | (go_simp; rfl)); (case hp => exact (Reps.none _ _)); intro v162 w20 ho21 hb hg_ hnew_; clear hg_ hnew_; (first | rw [← Ny161.out] at ho21 | (simp only [Int.reduceToNat] at ho21; rw [← Ny161.out] at ho21)); have n0_ := Aside0.mk (Kd.R_lower ho21 (below_size q47x1_)); have n1_ := Aside0.mk (below_step q47x1_ hb); clear HB; have HO163 := n0_; have HB := n1_; clear n0_ n1_; clear hb ho21))
  go_ret3
  exact ⟨_, by first | rfl | (simp [errW_none, errW_some] <;> rfl) | (simp [*, errW_none, errW_some] <;> rfl), by (with_reducible repeat (first | apply Kd.R_alloc | apply Kd.R_drewN | apply Kd.R_drew)); exact HO163.out, by repeat (first | (with_reducible first | exact HB.out | apply below_alloc | apply pw_below_drewN | apply below_drew1) | exact HB.out)⟩

 subst c3
 have H1 : ((spec_l04Root.f k a0).bind fun t164 => ((some (([] : List Int) : List Int)).bind fun y165 => (if (wrap64 (t164 * t164)) = a0 then (some (t164, y165, 0)) else (spec_l04Period.l0 k a0 t164 y165 0 1 t164)))) = some (r1, r2, r3) := by rw [if_pos rfl] at H; exact H
 clear H
 have H := H1
 clear H1
 replace H := Option.bind_eq_some_iff.mp H
 obtain ⟨t164, A40, H⟩ := H
 replace H : ((some (([] : List Int) : List Int)).bind fun y165 => (if (wrap64 (t164 * t164)) = a0 then (some (t164, y165, 0)) else (spec_l04Period.l0 k a0 t164 y165 0 1 t164))) = some (r1, r2, r3) := H
 have A4 := Aside0.mk A40
 clear A40
 obtain ⟨y165, hy165⟩ : ∃ y_ : List Int, y_ = (([] : List Int)) := ⟨_, rfl⟩
 replace H : (if (wrap64 (t164 * t164)) = a0 then (some (t164, y165, 0)) else (spec_l04Period.l0 k a0 t164 y165 0 1 t164)) = some (r1, r2, r3) := by first | (rw [hy165]; with_reducible exact H) | (have H2_ := (Option.bind_some _ _).symm.trans H; rw [hy165]; with_reducible exact H2_) | (have H2_ := (Option.bind_some _ _).symm.trans H; with_reducible exact H2_) | with_reducible exact H | (rw [hy165]; exact H) | exact H
 have Ny165 := Aside0.mk hy165
 clear hy165
 by_cases c5 : (wrap64 (t164 * t164)) = a0
 ·rw [if_pos c5] at H
  have c5b0 : ((wrap64 (t164 * t164)) == a0) = true := beq_iff_eq.mpr c5
  have c5b1 : ((wrap64 (t164 * t164)) != a0) = false := bne_eq_false_iff_eq.mpr c5
  clear c5
  simp only [Option.some.injEq, Prod.mk.injEq] at H
  obtain ⟨rfl, rfl, rfl⟩ := H
  go_enter Try.func47, Try.ntmps47
  go_wp2_with (first | ((with_reducible refine gate_callee (f := 86) rfl ?_); refine goesL_ (some 11) rfl rfl Try.func86 (by kernel_rfl) rfl #[.int .i64 a0, .int .i64 0, .int .i64 1000000] rfl q47x2_ ?_; (with_reducible refine (spec_l00In.calls a0 0 1000000 true _ A2.out).mono ?_); rintro e w' ⟨rfl, ⟨nd, rfl⟩⟩; refine ⟨_, rfl, ?_⟩) | ((with_reducible refine gate_callee (f := 87) rfl ?_); refine goesL_ (some 15) rfl rfl Try.func87 (by kernel_rfl) rfl #[.int .i64 a0] rfl q47x2_ ?_; (with_reducible refine (spec_l04Root.calls k a0 t164 _ A4.out).mono ?_); rintro e w' ⟨rfl, ⟨nd, rfl⟩⟩; refine ⟨_, rfl, ?_⟩) | ((with_reducible refine gate_dst (N := 16) rfl ?_); refine Kd.R_lit (Kd.int .i64) _ 2 ?hg (N := 16) ?hd (xs := ([] : List Int)) (inner := []) (ok := fun _ => True) (okp := fun _ => True) ?hr ?hp (fun _ hk => hk) trivial (Below.refl _ _) (Nat.le_refl _) (by simp) ?_; (case hd => rfl); (case hg => rfl); (case hr => first | (go_simp; done) | (go_simp; rfl)); (case hp => exact (Reps.none _ _)); intro v166 w6 ho7 hb hg_ hnew_; clear hg_ hnew_; (first | rw [← Ny165.out] at ho7 | (simp only [Int.reduceToNat] at ho7; rw [← Ny165.out] at ho7)); have n0_ := Aside0.mk (Kd.R_lower ho7 (below_size q47x1_)); have n1_ := Aside0.mk (below_step q47x1_ hb); clear HB; have HO167 := n0_; have HB := n1_; clear n0_ n1_; clear hb ho7))
  go_ret3
  exact ⟨_, by first | rfl | (simp [errW_none, errW_some] <;> rfl) | (simp [*, errW_none, errW_some] <;> rfl), by (with_reducible repeat (first | apply Kd.R_alloc | apply Kd.R_drewN | apply Kd.R_drew)); exact HO167.out, by repeat (first | (with_reducible first | exact HB.out | apply below_alloc | apply pw_below_drewN | apply below_drew1) | exact HB.out)⟩
 rw [if_neg c5] at H
 have c5b0 : ((wrap64 (t164 * t164)) == a0) = false := beq_eq_false_iff_ne.mpr c5
 have c5b1 : ((wrap64 (t164 * t164)) != a0) = true := bne_iff_ne.mpr c5
 have H' := Aside0.mk H
 clear H
 go_enter Try.func47, Try.ntmps47
 go_wp2_with (first | ((with_reducible refine gate_callee (f := 86) rfl ?_); refine goesL_ (some 11) rfl rfl Try.func86 (by kernel_rfl) rfl #[.int .i64 a0, .int .i64 0, .int .i64 1000000] rfl q47x2_ ?_; (with_reducible refine (spec_l00In.calls a0 0 1000000 true _ A2.out).mono ?_); rintro e w' ⟨rfl, ⟨nd, rfl⟩⟩; refine ⟨_, rfl, ?_⟩) | ((with_reducible refine gate_callee (f := 87) rfl ?_); refine goesL_ (some 15) rfl rfl Try.func87 (by kernel_rfl) rfl #[.int .i64 a0] rfl q47x2_ ?_; (with_reducible refine (spec_l04Root.calls k a0 t164 _ A4.out).mono ?_); rintro e w' ⟨rfl, ⟨nd, rfl⟩⟩; refine ⟨_, rfl, ?_⟩) | ((with_reducible refine gate_dst (N := 16) rfl ?_); refine Kd.R_lit (Kd.int .i64) _ 2 ?hg (N := 16) ?hd (xs := ([] : List Int)) (inner := []) (ok := fun _ => True) (okp := fun _ => True) ?hr ?hp (fun _ hk => hk) trivial (Below.refl _ _) (Nat.le_refl _) (by simp) ?_; (case hd => rfl); (case hg => rfl); (case hr => first | (go_simp; done) | (go_simp; rfl)); (case hp => exact (Reps.none _ _)); intro v166 w8 ho9 hb hg_ hnew_; clear hg_ hnew_; (first | rw [← Ny165.out] at ho9 | (simp only [Int.reduceToNat] at ho9; rw [← Ny165.out] at ho9)); have n0_ := Aside0.mk (Kd.R_lower ho9 (below_size q47x1_)); have n1_ := Aside0.mk (below_step q47x1_ hb); clear HB; have HO167 := n0_; have HB := n1_; clear n0_ n1_; clear hb ho9))
 go_loopg [6, 7, 8, 9] k (fun kq v6 v7 v8 v9 w' => ∃ (x6_1 : List Int) (x7_1 : Int) (x8_1 : Int) (x9_1 : Int), v7 = .int .i64 x7_1 ∧ v8 = .int .i64 x8_1 ∧ v9 = .int .i64 x9_1 ∧ Aside0 (spec_l04Period.l0 kq a0 t164 x6_1 x7_1 x8_1 x9_1 = some (r1, r2, r3)) ∧ Aside0 (kq ≤ k) ∧ Aside0 (Kd.R (Kd.int .i64) 2 w' w.heap.size (fun _ => True) v6 x6_1) ∧ Aside0 (Below w.heap.size w w'))
 case atStart => exact ⟨(y165), (0), (1), (t164), q47x3_, q47x3_, q47x3_, H', ⟨Nat.le_refl _⟩, ⟨by (with_reducible repeat (first | apply Kd.R_alloc | apply Kd.R_drewN | apply Kd.R_drew)); exact HO167.out⟩, ⟨by repeat (first | (with_reducible first | exact HB.out | apply below_alloc | apply pw_below_drewN | apply below_drew1) | exact HB.out)⟩⟩
 case round =>
  clear H'
  try clear p2
  try clear c3
  try clear c4
  try clear c5
  try clear c5b0
  try clear c5b1
  try clear p6
  try clear c8
  obtain ⟨x6_1, x7_1, x8_1, x9_1, rfl, rfl, rfl, HA, HK1, HO_6, HB⟩ := hrel
  cases gk with
  | zero => exact absurd HA.out (by simp [spec_l04Period.l0])
  | succ k1 =>
   have H := HA.out
   clear HA
   simp only [spec_l04Period.l0] at H
   by_cases c10 : x9_1 = (wrap64 (2 * t164))
   ·rw [if_pos c10] at H
    have c10b0 : (x9_1 == (wrap64 (2 * t164))) = true := beq_iff_eq.mpr c10
    have c10b1 : (x9_1 != (wrap64 (2 * t164))) = false := bne_eq_false_iff_eq.mpr c10
    clear c10
    simp only [Option.some.injEq, Prod.mk.injEq] at H
    obtain ⟨rfl, rfl, rfl⟩ := H
    go_wp2
    go_ret3
    exact ⟨_, by first | rfl | (simp [errW_none, errW_some] <;> rfl) | (simp [*, errW_none, errW_some] <;> rfl), by (with_reducible repeat (first | apply Kd.R_alloc | apply Kd.R_drewN | apply Kd.R_drew)); exact HO_6.out, by repeat (first | (with_reducible first | exact HB.out | apply below_alloc | apply pw_below_drewN | apply below_drew1) | exact HB.out)⟩
   rw [if_neg c10] at H
   have c10b0 : (x9_1 == (wrap64 (2 * t164))) = false := beq_eq_false_iff_ne.mpr c10
   have c10b1 : (x9_1 != (wrap64 (2 * t164))) = true := bne_iff_ne.mpr c10
   by_cases c11 : x8_1 = 0
   ·rw [if_pos c11] at H
    exact absurd H (by simp)
   rw [if_neg c11] at H
   have c11b0 : (x8_1 == 0) = false := beq_eq_false_iff_ne.mpr c11
   have c11b1 : (x8_1 != 0) = true := bne_iff_ne.mpr c11
   by_cases c12 : (wrap64 (Int.tdiv (wrap64 (a0 - (wrap64 ((wrap64 ((wrap64 (x8_1 * x9_1)) - x7_1)) * (wrap64 ((wrap64 (x8_1 * x9_1)) - x7_1)))))) x8_1)) = 0
   ·rw [if_pos c12] at H
    exact absurd H (by simp)
   rw [if_neg c12] at H
   have c12b0 : ((wrap64 (Int.tdiv (wrap64 (a0 - (wrap64 ((wrap64 ((wrap64 (x8_1 * x9_1)) - x7_1)) * (wrap64 ((wrap64 (x8_1 * x9_1)) - x7_1)))))) x8_1)) == 0) = false := beq_eq_false_iff_ne.mpr c12
   have c12b1 : ((wrap64 (Int.tdiv (wrap64 (a0 - (wrap64 ((wrap64 ((wrap64 (x8_1 * x9_1)) - x7_1)) * (wrap64 ((wrap64 (x8_1 * x9_1)) - x7_1)))))) x8_1)) != 0) = true := bne_iff_ne.mpr c12
   by_cases c13 : (x6_1.length : Int) = 3000
   ·rw [if_pos c13] at H
    have c13b0 : ((x6_1.length : Int) == 3000) = true := beq_iff_eq.mpr c13
    have c13b1 : ((x6_1.length : Int) != 3000) = false := bne_eq_false_iff_eq.mpr c13
    clear c13
    obtain ⟨y168, hy168⟩ : ∃ y_ : List Int, y_ = (([] : List Int)) := ⟨_, rfl⟩
    replace H : (some (0, y168, 3)) = some (r1, r2, r3) := by first | (rw [hy168]; with_reducible exact H) | (have H2_ := (Option.bind_some _ _).symm.trans H; rw [hy168]; with_reducible exact H2_) | (have H2_ := (Option.bind_some _ _).symm.trans H; with_reducible exact H2_) | with_reducible exact H | (rw [hy168]; exact H) | exact H
    have Ny168 := Aside0.mk hy168
    clear hy168
    simp only [Option.some.injEq, Prod.mk.injEq] at H
    obtain ⟨rfl, rfl, rfl⟩ := H
    obtain ⟨Ao14, co14, eo14⟩ := Kd.R_slice HO_6.out
    subst eo14
    go_wp2_with (first | ((with_reducible refine gate_dst (N := 49) rfl ?_); refine Kd.R_lit (Kd.int .i64) _ 2 ?hg (N := 49) ?hd (xs := ([] : List Int)) (inner := []) (ok := fun _ => True) (okp := fun _ => True) ?hr ?hp (fun _ hk => hk) trivial (Below.refl _ _) (Nat.le_refl _) (by simp) ?_; (case hd => rfl); (case hg => rfl); (case hr => first | (go_simp; done) | (go_simp; rfl)); (case hp => exact (Reps.none _ _)); intro v169 w15 ho16 hb hg_ hnew_; clear hg_ hnew_; (first | rw [← Ny168.out] at ho16 | (simp only [Int.reduceToNat] at ho16; rw [← Ny168.out] at ho16)); have n0_ := Aside0.mk (Kd.R_elder' q47x4_ (Kd.R_base ho16) hb); have n1_ := Aside0.mk (Kd.R_lower (Kd.R_new' ho16 (Kd.R_lt q47x4_)) (below_size q47x1_)); have n2_ := Aside0.mk (below_step q47x1_ hb); clear HO_6 HB; have HO_6 := n0_; have HO170 := n1_; have HB := n2_; clear n0_ n1_ n2_; clear hb ho16))
    go_ret3
    exact ⟨_, by first | rfl | (simp [errW_none, errW_some] <;> rfl) | (simp [*, errW_none, errW_some] <;> rfl), by (with_reducible repeat (first | apply Kd.R_alloc | apply Kd.R_drewN | apply Kd.R_drew)); exact Kd.R_mono HO170.out (fun _ hk => trivial), by repeat (first | (with_reducible first | exact HB.out | apply below_alloc | apply pw_below_drewN | apply below_drew1) | exact HB.out)⟩
   rw [if_neg c13] at H
   have c13b0 : ((x6_1.length : Int) == 3000) = false := beq_eq_false_iff_ne.mpr c13
   have c13b1 : ((x6_1.length : Int) != 3000) = true := bne_iff_ne.mpr c13
   by_cases c17 : x6_1.length < 17592186044416
   rotate_left
   ·rw [if_neg c17] at H
    exact absurd H (by simp)
   rw [if_pos c17] at H
   have LMc17 := Aside0.mk c17
   clear c17
   obtain ⟨y171, hy171⟩ : ∃ y_ : List Int, y_ = (x6_1 ++ [wrap64 (Int.tdiv (wrap64 (t164 + (wrap64 ((wrap64 (x8_1 * x9_1)) - x7_1)))) (wrap64 (Int.tdiv (wrap64 (a0 - (wrap64 ((wrap64 ((wrap64 (x8_1 * x9_1)) - x7_1)) * (wrap64 ((wrap64 (x8_1 * x9_1)) - x7_1)))))) x8_1)))]) := ⟨_, rfl⟩
   replace H : (spec_l04Period.l0 k1 a0 t164 y171 (wrap64 ((wrap64 (x8_1 * x9_1)) - x7_1)) (wrap64 (Int.tdiv (wrap64 (a0 - (wrap64 ((wrap64 ((wrap64 (x8_1 * x9_1)) - x7_1)) * (wrap64 ((wrap64 (x8_1 * x9_1)) - x7_1)))))) x8_1)) (wrap64 (Int.tdiv (wrap64 (t164 + (wrap64 ((wrap64 (x8_1 * x9_1)) - x7_1)))) (wrap64 (Int.tdiv (wrap64 (a0 - (wrap64 ((wrap64 ((wrap64 (x8_1 * x9_1)) - x7_1)) * (wrap64 ((wrap64 (x8_1 * x9_1)) - x7_1)))))) x8_1))))) = some (r1, r2, r3) := by first | (rw [hy171]; with_reducible exact H) | (have H2_ := (Option.bind_some _ _).symm.trans H; rw [hy171]; with_reducible exact H2_) | (have H2_ := (Option.bind_some _ _).symm.trans H; with_reducible exact H2_) | with_reducible exact H | (rw [hy171]; exact H) | exact H
   have Ny171 := Aside0.mk hy171
   clear hy171
   have H' := Aside0.mk H
   clear H
   obtain ⟨Ao18, co18, eo18⟩ := Kd.R_slice HO_6.out
   subst eo18
   go_wp2_with (first | ((with_reducible refine gate_builtin (b := .append) (xs := #[.tmp 50, .tmp 52]) rfl ?_); at_builtin; refine Kd.R_append (Kd.int .i64) (w0 := w) w.heap.size rfl (.tmp 50) (.tmp 52) 32 2 (.int .i64 0) 8 rfl Try.underlying32 info2 rfl (by decide) (by omega) (.slice Ao18 x6_1.length co18) x6_1 (wrap64 (Int.tdiv (wrap64 (t164 + (wrap64 ((wrap64 (x8_1 * x9_1)) - x7_1)))) (wrap64 (Int.tdiv (wrap64 (a0 - (wrap64 ((wrap64 ((wrap64 (x8_1 * x9_1)) - x7_1)) * (wrap64 ((wrap64 (x8_1 * x9_1)) - x7_1)))))) x8_1)))) [.int .i64 (wrap64 (Int.tdiv (wrap64 (t164 + (wrap64 ((wrap64 (x8_1 * x9_1)) - x7_1)))) (wrap64 (Int.tdiv (wrap64 (a0 - (wrap64 ((wrap64 ((wrap64 (x8_1 * x9_1)) - x7_1)) * (wrap64 ((wrap64 (x8_1 * x9_1)) - x7_1)))))) x8_1))))] (fun _ => True) (fun _ => False) rfl rfl ?aP (fun _ hk => hk.elim) ?aF ?aO ?aB ?aS ?aL ?_; (case aP => exact rfl); (case aB => exact q47x1_); (case aF => exact (fun _ _ => trivial)); (case aO => exact q47x4_); (case aS => exact (below_size q47x1_)); (case aL => have := LMc17.out; omega); intro v172 w19 ho hb hg hat; rw [← Ny171.out] at ho; have n0_ := Aside0.mk (hb); have n1_ := Aside0.mk (ho); clear HB HO_6; have HB := n0_; have HO173 := n1_; clear n0_ n1_; clear ho hb hg hat))
   go_roundg k1
   case measure => have := HK1.out; omega
   case rel => exact ⟨(y171), (wrap64 ((wrap64 (x8_1 * x9_1)) - x7_1)), (wrap64 (Int.tdiv (wrap64 (a0 - (wrap64 ((wrap64 ((wrap64 (x8_1 * x9_1)) - x7_1)) * (wrap64 ((wrap64 (x8_1 * x9_1)) - x7_1)))))) x8_1)), (wrap64 (Int.tdiv (wrap64 (t164 + (wrap64 ((wrap64 (x8_1 * x9_1)) - x7_1)))) (wrap64 (Int.tdiv (wrap64 (a0 - (wrap64 ((wrap64 ((wrap64 (x8_1 * x9_1)) - x7_1)) * (wrap64 ((wrap64 (x8_1 * x9_1)) - x7_1)))))) x8_1)))), q47x3_, q47x3_, q47x3_, H', ⟨by have := HK1.out; omega⟩, ⟨by (with_reducible repeat (first | apply Kd.R_alloc | apply Kd.R_drewN | apply Kd.R_drew)); exact HO173.out⟩, ⟨by repeat (first | (with_reducible first | exact HB.out | apply below_alloc | apply pw_below_drewN | apply below_drew1) | exact HB.out)⟩⟩
end Go.Proofs.Ytbomadebdekjjaa.MFnExactRootConvergent
