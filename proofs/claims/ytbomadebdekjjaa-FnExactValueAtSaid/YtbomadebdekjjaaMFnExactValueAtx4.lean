/- Functions of the program as Lean functions, and the proof that the code comes to what they say. Written by a program of this session (myprint.py). -/
import Derived.Test.YtbomadebdekjjaaMFnExactValueAtx0
import Derived.Test.YtbomadebdekjjaaMFnExactValueAtx1
import Derived.Test.YtbomadebdekjjaaMFnExactValueAtx3
namespace Go.Proofs.Ytbomadebdekjjaa.MFnExactValueAt
open Go.RowKit Go.Proofs.Ytbomadebdekjjaa.MOpen Go.Proofs.YtbomadebdekjjaaW.PrintWords Go.Proofs.YtbomadebdekjjaaW.PrintLast Go.Proofs.YtbomadebdekjjaaW.PrintMore
attribute [local go_sem] max2_int min2_int max_two min_two max_three min_three max_four min_four   -- for this text's walks alone
set_option linter.unusedVariables false
set_option linter.unusedSimpArgs false

attribute [local go_sem high] eqA23 eqA126
/-! ### laws_eqUint32A6: function 50 -/
def laws_eqUint32A6.l0 : Nat → Int → S23 → S23 → Option (Bool)
  | 0, _, _, _ => none
  | k + 1, x5, x102000, x103000 => if x5 < 6 then (if 0 ≤ x5 then (if (rd [x102000.f0, x102000.f1, x102000.f2, x102000.f3, x102000.f4, x102000.f5] x5) = (rd [x103000.f0, x103000.f1, x103000.f2, x103000.f3, x103000.f4, x103000.f5] x5) then (laws_eqUint32A6.l0 k (wrap64 (x5 + 1)) x102000 x103000) else (some false)) else (none)) else (some true)
def laws_eqUint32A6.f (k : Nat) (a0 : S23) (a1 : S23) : Option (Bool) := laws_eqUint32A6.l0 k 0 a0 a1
theorem laws_eqUint32A6.mono_l : ∀ k, (∀ y0 y1 y2, LeO (laws_eqUint32A6.l0 k y0 y1 y2) (laws_eqUint32A6.l0 (k + 1) y0 y1 y2))
  | 0 => fun _ _ _ r h => by simp [laws_eqUint32A6.l0] at h
  | k + 1 => by
    have ih0 := laws_eqUint32A6.mono_l k
    · intro y0 y1 y2
      unfold laws_eqUint32A6.l0
      repeat' first
      | (with_reducible exact ih0 _ _ _)
      | (with_reducible exact LeO.refl _)
      | (with_reducible exact LeO.none _)
      | (with_reducible refine LeO.ite ?_ ?_)
      | (with_reducible refine LeO.bind ?_ (fun _ => ?_))
      | exact ih0 _ _ _
      | exact LeO.none _
      | refine LeO.ite ?_ ?_
      | refine LeO.bind ?_ (fun _ => ?_)
theorem laws_eqUint32A6.mono : ∀ a0 a1 k, LeO (laws_eqUint32A6.f k a0 a1) (laws_eqUint32A6.f (k + 1) a0 a1) := by
  intro a0 a1 k
  have ih0 := laws_eqUint32A6.mono_l k
  unfold laws_eqUint32A6.f
  repeat' first
      | (with_reducible exact ih0 _ _ _)
      | (with_reducible exact LeO.refl _)
      | (with_reducible exact LeO.none _)
      | (with_reducible refine LeO.ite ?_ ?_)
      | (with_reducible refine LeO.bind ?_ (fun _ => ?_))
      | exact ih0 _ _ _
      | exact LeO.none _
      | refine LeO.ite ?_ ?_
      | refine LeO.bind ?_ (fun _ => ?_)
set_option maxHeartbeats 8000000 in
set_option maxRecDepth 100000 in
theorem laws_eqUint32A6.calls (k : Nat) (a0 : S23) (a1 : S23) (r : Bool) (w : World) (h : laws_eqUint32A6.f k a0 a1 = some r) :
    Calls Try.prog 50 #[.agg #[.int .u32 a0.f0, .int .u32 a0.f1, .int .u32 a0.f2, .int .u32 a0.f3, .int .u32 a0.f4, .int .u32 a0.f5], .agg #[.int .u32 a1.f0, .int .u32 a1.f1, .int .u32 a1.f2, .int .u32 a1.f3, .int .u32 a1.f4, .int .u32 a1.f5]] w fun e w' => e = .returned (.bool r) ∧ Below w.heap.size w w' := by
  have hu23 := Try.underlying23
  have HB := Aside0.mk (Below.refl w.heap.size w)
  have H : (laws_eqUint32A6.l0 k 0 a0 a1) = some r := h
  clear h
  have H' := Aside0.mk H
  clear H
  go_enter Try.func50, Try.ntmps50
  go_wp2_with (first | ((with_reducible refine gate_dst (N := 2) rfl ?_); refine box_event ?hg (N := 2) ?hd (cs := #[.int .u32 a0.f0, .int .u32 a0.f1, .int .u32 a0.f2, .int .u32 a0.f3, .int .u32 a0.f4, .int .u32 a0.f5]) (t := 23) ?hr ?_; (case hd => rfl); (case hg => rfl); (case hr => first | (go_simp; done) | (go_simp; rfl)); intro gb101 hg w3 hbox hb; have n0_ := Aside0.mk (below_step (by repeat (first | (with_reducible first | exact HB.out | apply below_alloc | apply pw_below_drewN | apply below_drew1) | exact HB.out)) hb); have n1_ := Aside0.mk (hbox); have n2_ := Aside0.mk ((by rw [hg]; exact (below_size (by repeat (first | (with_reducible first | exact HB.out | apply below_alloc | apply pw_below_drewN | apply below_drew1) | exact HB.out))) : w.heap.size ≤ gb101)); have n3_ := Aside0.mk ((by rw [hg]; exact (below_size (by repeat (first | (with_reducible first | exact HB.out | apply below_alloc | apply pw_below_drewN | apply below_drew1) | exact HB.out))) : w.heap.size ≤ gb101)); clear HB; have HB := n0_; have BK101 := n1_; have GW101 := n2_; have GE101 := n3_; clear n0_ n1_ n2_ n3_; clear hb hbox hg) | ((with_reducible refine gate_dst (N := 3) rfl ?_); refine box_event ?hg (N := 3) ?hd (cs := #[.int .u32 a1.f0, .int .u32 a1.f1, .int .u32 a1.f2, .int .u32 a1.f3, .int .u32 a1.f4, .int .u32 a1.f5]) (t := 23) ?hr ?_; (case hd => rfl); (case hg => rfl); (case hr => first | (go_simp; done) | (go_simp; rfl)); intro gb102 hg w4 hbox hb; have n0_ := Aside0.mk (blk_below (g := gb101) (o := .cells #[.int .u32 a0.f0, .int .u32 a0.f1, .int .u32 a0.f2, .int .u32 a0.f3, .int .u32 a0.f4, .int .u32 a0.f5] 23 (0, 0)) (by (with_reducible repeat (first | refine blk_drewN ?_ _ | refine blk_drew ?_ | refine blk_alloc ?_ _)); exact BK101.out) hb); have n1_ := Aside0.mk (below_step (by repeat (first | (with_reducible first | exact HB.out | apply below_alloc | apply pw_below_drewN | apply below_drew1 | refine below_set ?_ GE101.out) | exact HB.out)) hb); have n2_ := Aside0.mk (hbox); have n3_ := Aside0.mk ((by rw [hg]; exact (below_size (by repeat (first | (with_reducible first | exact HB.out | apply below_alloc | apply pw_below_drewN | apply below_drew1 | refine below_set ?_ GE101.out) | exact HB.out))) : w.heap.size ≤ gb102)); have n4_ := Aside0.mk ((by rw [hg]; exact (below_size (by repeat (first | (with_reducible first | exact HB.out | apply below_alloc | apply pw_below_drewN | apply below_drew1 | refine below_set ?_ GE101.out) | exact HB.out))) : w.heap.size ≤ gb102)); have n5_ := Aside0.mk ((by rw [hg]; exact Nat.ne_of_lt (blk_lt (g := gb101) (o := .cells #[.int .u32 a0.f0, .int .u32 a0.f1, .int .u32 a0.f2, .int .u32 a0.f3, .int .u32 a0.f4, .int .u32 a0.f5] 23 (0, 0)) (by (with_reducible repeat (first | refine blk_drewN ?_ _ | refine blk_drew ?_ | refine blk_alloc ?_ _)); exact BK101.out)) : gb101 ≠ gb102)); have n6_ := Aside0.mk ((by rw [hg]; exact Nat.ne_of_gt (blk_lt (g := gb101) (o := .cells #[.int .u32 a0.f0, .int .u32 a0.f1, .int .u32 a0.f2, .int .u32 a0.f3, .int .u32 a0.f4, .int .u32 a0.f5] 23 (0, 0)) (by (with_reducible repeat (first | refine blk_drewN ?_ _ | refine blk_drew ?_ | refine blk_alloc ?_ _)); exact BK101.out)) : gb102 ≠ gb101)); clear BK101 HB; have BK101 := n0_; have HB := n1_; have BK102 := n2_; have GW102 := n3_; have GE102 := n4_; have NB101_102 := n5_; have NB102_101 := n6_; clear n0_ n1_ n2_ n3_ n4_ n5_ n6_; clear hb hbox hg) | go_quiet (fail))
  go_loopg [5] k (fun kq v5 w' => ∃ (x5_1 : Int), v5 = .int .i64 x5_1 ∧ Aside0 (laws_eqUint32A6.l0 kq x5_1 a0 a1 = some r) ∧ Aside0 (kq ≤ k) ∧ Aside0 (w'.heap[gb101]? = some (.cells #[.int .u32 a0.f0, .int .u32 a0.f1, .int .u32 a0.f2, .int .u32 a0.f3, .int .u32 a0.f4, .int .u32 a0.f5] 23 (0, 0))) ∧ Aside0 (w'.heap[gb102]? = some (.cells #[.int .u32 a1.f0, .int .u32 a1.f1, .int .u32 a1.f2, .int .u32 a1.f3, .int .u32 a1.f4, .int .u32 a1.f5] 23 (0, 0))) ∧ Aside0 (Below w.heap.size w w'))
  case atStart => exact ⟨(0), (by first | rfl | (simp; done) | (simp [*]; done)), H', ⟨Nat.le_refl _⟩, ⟨by (with_reducible repeat (first | refine blk_drewN ?_ _ | refine blk_drew ?_ | refine blk_alloc ?_ _)); exact BK101.out⟩, ⟨by (with_reducible repeat (first | refine blk_drewN ?_ _ | refine blk_drew ?_ | refine blk_alloc ?_ _)); exact BK102.out⟩, ⟨by repeat (first | (with_reducible first | exact HB.out | apply below_alloc | apply pw_below_drewN | apply below_drew1 | refine below_set ?_ GE101.out | refine below_set ?_ GE102.out) | exact HB.out)⟩⟩
  case round =>
    clear H'
    try clear p2
    obtain ⟨x5_1, rfl, HA, HK1, BK101, BK102, HB⟩ := hrel
    cases gk with
    | zero => exact absurd HA.out (by simp [laws_eqUint32A6.l0])
    | succ k1 =>
      have H := HA.out
      clear HA
      simp only [laws_eqUint32A6.l0] at H
      by_cases c5 : x5_1 < 6
      · rw [if_pos c5] at H
        have c5b0 : decide (x5_1 < 6) = true := decide_eq_true c5
        clear c5
        by_cases c6 : 0 ≤ x5_1
        · rw [if_pos c6] at H
          have c6b0 : decide (0 ≤ x5_1) = true := decide_eq_true c6
          clear c6
          by_cases c7 : (rd [a0.f0, a0.f1, a0.f2, a0.f3, a0.f4, a0.f5] x5_1) = (rd [a1.f0, a1.f1, a1.f2, a1.f3, a1.f4, a1.f5] x5_1)
          · rw [if_pos c7] at H
            have c7b0 : ((rd [a0.f0, a0.f1, a0.f2, a0.f3, a0.f4, a0.f5] x5_1) == (rd [a1.f0, a1.f1, a1.f2, a1.f3, a1.f4, a1.f5] x5_1)) = true := beq_iff_eq.mpr c7
            have c7b1 : ((rd [a0.f0, a0.f1, a0.f2, a0.f3, a0.f4, a0.f5] x5_1) != (rd [a1.f0, a1.f1, a1.f2, a1.f3, a1.f4, a1.f5] x5_1)) = false := bne_eq_false_iff_eq.mpr c7
            clear c7
            have H' := Aside0.mk H
            clear H
            have hnb8 := NB101_102.out
            have hnc8 := NB102_101.out
            obtain ⟨hcz9_0, hcz9_1, hcz9_2, hcz9_3, hcz9_4, hcz9_5⟩ := cells6_ (show wr.heap[gb101]? = some (.cells #[.int .u32 a0.f0, .int .u32 a0.f1, .int .u32 a0.f2, .int .u32 a0.f3, .int .u32 a0.f4, .int .u32 a0.f5] 23 (0, 0)) from BK101.out)
            obtain ⟨hfz9_0, hfz9_1, hfz9_2, hfz9_3, hfz9_4, hfz9_5⟩ := frozen6_ BK101.out
            have HP103 := Aside0.mk (show 0 ≤ (x5_1 : Int) ∧ (x5_1 : Int) < 6 from ⟨of_decide_eq_true (by first | (with_reducible assumption) | assumption), of_decide_eq_true (by first | (with_reducible assumption) | assumption)⟩)
            have hx103_0 : wr.cell? ⟨gb101, (x5_1 : Int).toNat, none⟩ = some (.int .u32 (rd [a0.f0, a0.f1, a0.f2, a0.f3, a0.f4, a0.f5] x5_1)) := (by (rcases (show x5_1 = 0 ∨ x5_1 = 1 ∨ x5_1 = 2 ∨ x5_1 = 3 ∨ x5_1 = 4 ∨ x5_1 = 5 from (by have h_ := HP103.out; omega)) with rfl | rfl | rfl | rfl | rfl | rfl <;> first | exact (blk_cell BK101.out 0).trans rfl | exact (blk_cell BK101.out 1).trans rfl | exact (blk_cell BK101.out 2).trans rfl | exact (blk_cell BK101.out 3).trans rfl | exact (blk_cell BK101.out 4).trans rfl | exact (blk_cell BK101.out 5).trans rfl))
            have hx103_1 : wr.cell? ((⟨gb101, 0, none⟩ : Addr).add (x5_1 : Int).toNat) = some (.int .u32 (rd [a0.f0, a0.f1, a0.f2, a0.f3, a0.f4, a0.f5] x5_1)) := (congrArg _ (add_plain _ _)).trans hx103_0
            have hpz103 := eq_true HP103.out.1
            have hpy103 := eq_true HP103.out.2
            obtain ⟨hcz10_0, hcz10_1, hcz10_2, hcz10_3, hcz10_4, hcz10_5⟩ := cells6_ (show wr.heap[gb102]? = some (.cells #[.int .u32 a1.f0, .int .u32 a1.f1, .int .u32 a1.f2, .int .u32 a1.f3, .int .u32 a1.f4, .int .u32 a1.f5] 23 (0, 0)) from BK102.out)
            obtain ⟨hfz10_0, hfz10_1, hfz10_2, hfz10_3, hfz10_4, hfz10_5⟩ := frozen6_ BK102.out
            have HP104 := Aside0.mk (show 0 ≤ (x5_1 : Int) ∧ (x5_1 : Int) < 6 from ⟨of_decide_eq_true (by first | (with_reducible assumption) | assumption), of_decide_eq_true (by first | (with_reducible assumption) | assumption)⟩)
            have hx104_0 : wr.cell? ⟨gb102, (x5_1 : Int).toNat, none⟩ = some (.int .u32 (rd [a1.f0, a1.f1, a1.f2, a1.f3, a1.f4, a1.f5] x5_1)) := (by (rcases (show x5_1 = 0 ∨ x5_1 = 1 ∨ x5_1 = 2 ∨ x5_1 = 3 ∨ x5_1 = 4 ∨ x5_1 = 5 from (by have h_ := HP104.out; omega)) with rfl | rfl | rfl | rfl | rfl | rfl <;> first | exact (blk_cell BK102.out 0).trans rfl | exact (blk_cell BK102.out 1).trans rfl | exact (blk_cell BK102.out 2).trans rfl | exact (blk_cell BK102.out 3).trans rfl | exact (blk_cell BK102.out 4).trans rfl | exact (blk_cell BK102.out 5).trans rfl))
            have hx104_1 : wr.cell? ((⟨gb102, 0, none⟩ : Addr).add (x5_1 : Int).toNat) = some (.int .u32 (rd [a1.f0, a1.f1, a1.f2, a1.f3, a1.f4, a1.f5] x5_1)) := (congrArg _ (add_plain _ _)).trans hx104_0
            have hpz104 := eq_true HP104.out.1
            have hpy104 := eq_true HP104.out.2
            go_wp2
            repeat (go_quiet (fail); try go_wp2)
            go_roundg k1
            case measure => have := HK1.out; omega
            case rel => exact ⟨(wrap64 (x5_1 + 1)), (by first | rfl | (simp; done) | (simp [*]; done)), H', ⟨by have := HK1.out; omega⟩, ⟨by (with_reducible repeat (first | refine blk_drewN ?_ _ | refine blk_drew ?_ | refine blk_alloc ?_ _)); exact BK101.out⟩, ⟨by (with_reducible repeat (first | refine blk_drewN ?_ _ | refine blk_drew ?_ | refine blk_alloc ?_ _)); exact BK102.out⟩, ⟨by repeat (first | (with_reducible first | exact HB.out | apply below_alloc | apply pw_below_drewN | apply below_drew1 | refine below_set ?_ GE101.out | refine below_set ?_ GE102.out) | exact HB.out)⟩⟩
          · rw [if_neg c7] at H
            have c7b0 : ((rd [a0.f0, a0.f1, a0.f2, a0.f3, a0.f4, a0.f5] x5_1) == (rd [a1.f0, a1.f1, a1.f2, a1.f3, a1.f4, a1.f5] x5_1)) = false := beq_eq_false_iff_ne.mpr c7
            have c7b1 : ((rd [a0.f0, a0.f1, a0.f2, a0.f3, a0.f4, a0.f5] x5_1) != (rd [a1.f0, a1.f1, a1.f2, a1.f3, a1.f4, a1.f5] x5_1)) = true := bne_iff_ne.mpr c7
            obtain rfl := Option.some.inj H
            have hnb11 := NB101_102.out
            have hnc11 := NB102_101.out
            obtain ⟨hcz12_0, hcz12_1, hcz12_2, hcz12_3, hcz12_4, hcz12_5⟩ := cells6_ (show wr.heap[gb101]? = some (.cells #[.int .u32 a0.f0, .int .u32 a0.f1, .int .u32 a0.f2, .int .u32 a0.f3, .int .u32 a0.f4, .int .u32 a0.f5] 23 (0, 0)) from BK101.out)
            obtain ⟨hfz12_0, hfz12_1, hfz12_2, hfz12_3, hfz12_4, hfz12_5⟩ := frozen6_ BK101.out
            have HP103 := Aside0.mk (show 0 ≤ (x5_1 : Int) ∧ (x5_1 : Int) < 6 from ⟨of_decide_eq_true (by first | (with_reducible assumption) | assumption), of_decide_eq_true (by first | (with_reducible assumption) | assumption)⟩)
            have hx103_0 : wr.cell? ⟨gb101, (x5_1 : Int).toNat, none⟩ = some (.int .u32 (rd [a0.f0, a0.f1, a0.f2, a0.f3, a0.f4, a0.f5] x5_1)) := (by (rcases (show x5_1 = 0 ∨ x5_1 = 1 ∨ x5_1 = 2 ∨ x5_1 = 3 ∨ x5_1 = 4 ∨ x5_1 = 5 from (by have h_ := HP103.out; omega)) with rfl | rfl | rfl | rfl | rfl | rfl <;> first | exact (blk_cell BK101.out 0).trans rfl | exact (blk_cell BK101.out 1).trans rfl | exact (blk_cell BK101.out 2).trans rfl | exact (blk_cell BK101.out 3).trans rfl | exact (blk_cell BK101.out 4).trans rfl | exact (blk_cell BK101.out 5).trans rfl))
            have hx103_1 : wr.cell? ((⟨gb101, 0, none⟩ : Addr).add (x5_1 : Int).toNat) = some (.int .u32 (rd [a0.f0, a0.f1, a0.f2, a0.f3, a0.f4, a0.f5] x5_1)) := (congrArg _ (add_plain _ _)).trans hx103_0
            have hpz103 := eq_true HP103.out.1
            have hpy103 := eq_true HP103.out.2
            obtain ⟨hcz13_0, hcz13_1, hcz13_2, hcz13_3, hcz13_4, hcz13_5⟩ := cells6_ (show wr.heap[gb102]? = some (.cells #[.int .u32 a1.f0, .int .u32 a1.f1, .int .u32 a1.f2, .int .u32 a1.f3, .int .u32 a1.f4, .int .u32 a1.f5] 23 (0, 0)) from BK102.out)
            obtain ⟨hfz13_0, hfz13_1, hfz13_2, hfz13_3, hfz13_4, hfz13_5⟩ := frozen6_ BK102.out
            have HP104 := Aside0.mk (show 0 ≤ (x5_1 : Int) ∧ (x5_1 : Int) < 6 from ⟨of_decide_eq_true (by first | (with_reducible assumption) | assumption), of_decide_eq_true (by first | (with_reducible assumption) | assumption)⟩)
            have hx104_0 : wr.cell? ⟨gb102, (x5_1 : Int).toNat, none⟩ = some (.int .u32 (rd [a1.f0, a1.f1, a1.f2, a1.f3, a1.f4, a1.f5] x5_1)) := (by (rcases (show x5_1 = 0 ∨ x5_1 = 1 ∨ x5_1 = 2 ∨ x5_1 = 3 ∨ x5_1 = 4 ∨ x5_1 = 5 from (by have h_ := HP104.out; omega)) with rfl | rfl | rfl | rfl | rfl | rfl <;> first | exact (blk_cell BK102.out 0).trans rfl | exact (blk_cell BK102.out 1).trans rfl | exact (blk_cell BK102.out 2).trans rfl | exact (blk_cell BK102.out 3).trans rfl | exact (blk_cell BK102.out 4).trans rfl | exact (blk_cell BK102.out 5).trans rfl))
            have hx104_1 : wr.cell? ((⟨gb102, 0, none⟩ : Addr).add (x5_1 : Int).toNat) = some (.int .u32 (rd [a1.f0, a1.f1, a1.f2, a1.f3, a1.f4, a1.f5] x5_1)) := (congrArg _ (add_plain _ _)).trans hx104_0
            have hpz104 := eq_true HP104.out.1
            have hpy104 := eq_true HP104.out.2
            go_wp2
            repeat (go_quiet (fail); try go_wp2)
            go_ret
            exact ⟨by first | rfl | (simp [errW_none, errW_some] <;> rfl) | (simp [*, errW_none, errW_some] <;> rfl), by repeat (first | (with_reducible first | exact HB.out | apply below_alloc | apply pw_below_drewN | apply below_drew1 | refine below_set ?_ GE101.out | refine below_set ?_ GE102.out) | exact HB.out)⟩
        · rw [if_neg c6] at H
          exact absurd H (by simp)
      · rw [if_neg c5] at H
        have c5b0 : decide (x5_1 < 6) = false := decide_eq_false c5
        clear c5
        obtain rfl := Option.some.inj H
        go_wp2
        repeat (go_quiet (fail); try go_wp2)
        go_ret
        exact ⟨by first | rfl | (simp [errW_none, errW_some] <;> rfl) | (simp [*, errW_none, errW_some] <;> rfl), by repeat (first | (with_reducible first | exact HB.out | apply below_alloc | apply pw_below_drewN | apply below_drew1 | refine below_set ?_ GE101.out | refine below_set ?_ GE102.out) | exact HB.out)⟩

set_option linter.defProp false
def aM13_ := @Aside0.mk
theorem q13x1_ {P : Prop} (h : P := by repeat (first | (with_reducible first | exact HB.out | apply below_alloc | apply pw_below_drewN | apply below_drew1 | refine below_set ?_ GE105.out) | exact HB.out)) : P := h
theorem q13x2_ {P : Prop} (h : P := by (with_reducible repeat (first | refine blk_drewN ?_ _ | refine blk_drew ?_ | refine blk_alloc ?_ _)); exact BK105.out) : P := h
theorem q13x3_ {P : Prop} (h : P := by repeat (first | (with_reducible first | exact HB.out | apply below_alloc | apply pw_below_drewN | apply below_drew1) | exact HB.out)) : P := h
theorem q13x4_ {P : Prop} (h : P := by rw [hg]; exact Nat.ne_of_lt (blk_lt (g := gb105) (o := .cells #[.bool a0.f0, .int .u32 a0.f1.f0, .int .u32 a0.f1.f1, .int .u32 a0.f1.f2, .int .u32 a0.f1.f3, .int .u32 a0.f1.f4, .int .u32 a0.f1.f5] 25 (0, 0)) q13x2_)) : P := h
theorem q13x5_ {P : Prop} (h : P := by rw [hg]; exact Nat.ne_of_gt (blk_lt (g := gb105) (o := .cells #[.bool a0.f0, .int .u32 a0.f1.f0, .int .u32 a0.f1.f1, .int .u32 a0.f1.f2, .int .u32 a0.f1.f3, .int .u32 a0.f1.f4, .int .u32 a0.f1.f5] 25 (0, 0)) q13x2_)) : P := h
theorem q13x6_ {P : Prop} (h : P := by (try simp only [List.map_toArray, List.map_cons, List.map_nil]); first | done | rfl | (simp only [List.length_drop, List.length_take]; rfl) | (simp only [List.drop_one]; done) | (simp only [List.drop_one]; rfl)) : P := h
theorem q13x7_ {P : Prop} (h : P := by repeat (first | (with_reducible first | exact HB.out | apply below_alloc | apply pw_below_drewN | apply below_drew1 | refine below_set ?_ GE105.out | refine below_set ?_ GE106.out) | exact HB.out)) : P := h
theorem q13x8_ {P : Prop} (h : P := by rw [hg]; exact (below_size q13x3_)) : P := h
theorem q13x9_ {P : Prop} (h : P := by rw [hg]; exact (below_size q13x1_)) : P := h
/-! ### laws_eqWide: function 13 -/
def laws_eqWide.f (k : Nat) (a0 : S24) (a1 : S24) : Option (Bool) := if (a0.f0 != a1.f0) = true then (some false) else ((laws_eqUint32A6.f k a0.f1 a1.f1).bind fun t107 => (if t107 = true then (some true) else (some false)))
theorem laws_eqWide.mono : ∀ a0 a1 k, LeO (laws_eqWide.f k a0 a1) (laws_eqWide.f (k + 1) a0 a1) := by
 intro a0 a1 k
 unfold laws_eqWide.f
 repeat' first
   | (with_reducible exact laws_eqUint32A6.mono _ _ _)
   | (with_reducible exact LeO.refl _)
   | (with_reducible exact LeO.none _)
   | (with_reducible refine LeO.ite ?_ ?_)
   | (with_reducible refine LeO.bind ?_ (fun _ => ?_))
   | exact laws_eqUint32A6.mono _ _ _
   | exact LeO.none _
   | refine LeO.ite ?_ ?_
   | refine LeO.bind ?_ (fun _ => ?_)
set_option maxHeartbeats 8000000 in
set_option maxRecDepth 100000 in
theorem laws_eqWide.calls (k : Nat) (a0 : S24) (a1 : S24) (r : Bool) (w : World) (h : laws_eqWide.f k a0 a1 = some r) :
  Calls Try.prog 13 #[.agg #[.bool a0.f0, .int .u32 a0.f1.f0, .int .u32 a0.f1.f1, .int .u32 a0.f1.f2, .int .u32 a0.f1.f3, .int .u32 a0.f1.f4, .int .u32 a0.f1.f5], .agg #[.bool a1.f0, .int .u32 a1.f1.f0, .int .u32 a1.f1.f1, .int .u32 a1.f1.f2, .int .u32 a1.f1.f3, .int .u32 a1.f1.f4, .int .u32 a1.f1.f5]] w fun e w' => e = .returned (.bool r) ∧ Below w.heap.size w w' := by
 have hu25 := Try.underlying25
 have hu23 := Try.underlying23
 have HB := aM13_ (Below.refl w.heap.size w)
 have H : (if (a0.f0 != a1.f0) = true then (some false) else ((laws_eqUint32A6.f k a0.f1 a1.f1).bind fun t107 => (if t107 = true then (some true) else (some false)))) = some r := h
 clear h
 by_cases c3 : (a0.f0 != a1.f0) = true
 ·rw [if_pos c3] at H
  have c3b0 : (a0.f0 != a1.f0) = true := c3
  (try (have c3b1 : decide (a0.f0 = a1.f0) = false := by simpa using c3))
  (try (have c3b2 : (a0.f0 == a1.f0) = false := by simpa using c3))
  (try (have c3b3 : ¬ (a0.f0 = a1.f0) := by simpa using c3))
  clear c3
  obtain rfl := Option.some.inj H
  go_enter Try.func13, Try.ntmps13
  go_wp2_with (first | ((with_reducible refine gate_dst (N := 2) rfl ?_); refine box_event ?hg (N := 2) ?hd (cs := #[.bool a0.f0, .int .u32 a0.f1.f0, .int .u32 a0.f1.f1, .int .u32 a0.f1.f2, .int .u32 a0.f1.f3, .int .u32 a0.f1.f4, .int .u32 a0.f1.f5]) (t := 25) ?hr ?_; (case hd => rfl); (case hg => rfl); (case hr => first | (go_simp; done) | (go_simp; rfl)); intro gb105 hg w4 hbox hb; have n0_ := aM13_ (below_step q13x3_ hb); have n1_ := aM13_ (hbox); have n2_ := aM13_ ((q13x8_ : w.heap.size ≤ gb105)); have n3_ := aM13_ ((q13x8_ : w.heap.size ≤ gb105)); clear HB; have HB := n0_; have BK105 := n1_; have GW105 := n2_; have GE105 := n3_; clear n0_ n1_ n2_ n3_; clear hb hbox hg) | ((with_reducible refine gate_dst (N := 3) rfl ?_); refine box_event ?hg (N := 3) ?hd (cs := #[.bool a1.f0, .int .u32 a1.f1.f0, .int .u32 a1.f1.f1, .int .u32 a1.f1.f2, .int .u32 a1.f1.f3, .int .u32 a1.f1.f4, .int .u32 a1.f1.f5]) (t := 25) ?hr ?_; (case hd => rfl); (case hg => rfl); (case hr => first | (go_simp; done) | (go_simp; rfl)); intro gb106 hg w5 hbox hb; have n0_ := aM13_ (blk_below (g := gb105) (o := .cells #[.bool a0.f0, .int .u32 a0.f1.f0, .int .u32 a0.f1.f1, .int .u32 a0.f1.f2, .int .u32 a0.f1.f3, .int .u32 a0.f1.f4, .int .u32 a0.f1.f5] 25 (0, 0)) q13x2_ hb); have n1_ := aM13_ (below_step q13x1_ hb); have n2_ := aM13_ (hbox); have n3_ := aM13_ ((q13x9_ : w.heap.size ≤ gb106)); have n4_ := aM13_ ((q13x9_ : w.heap.size ≤ gb106)); have n5_ := aM13_ ((q13x4_ : gb105 ≠ gb106)); have n6_ := aM13_ ((q13x5_ : gb106 ≠ gb105)); clear BK105 HB; have BK105 := n0_; have HB := n1_; have BK106 := n2_; have GW106 := n3_; have GE106 := n4_; have NB105_106 := n5_; have NB106_105 := n6_; clear n0_ n1_ n2_ n3_ n4_ n5_ n6_; clear hb hbox hg; have hnb6 := NB105_106.out; have hnc6 := NB106_105.out; obtain ⟨hcz7_0, hcz7_1, hcz7_2, hcz7_3, hcz7_4, hcz7_5, hcz7_6⟩ := cells7_ (show w5.heap[gb105]? = some (.cells #[.bool a0.f0, .int .u32 a0.f1.f0, .int .u32 a0.f1.f1, .int .u32 a0.f1.f2, .int .u32 a0.f1.f3, .int .u32 a0.f1.f4, .int .u32 a0.f1.f5] 25 (0, 0)) from BK105.out); obtain ⟨hfz7_0, hfz7_1, hfz7_2, hfz7_3, hfz7_4, hfz7_5, hfz7_6⟩ := frozen7_ BK105.out; obtain ⟨hcz8_0, hcz8_1, hcz8_2, hcz8_3, hcz8_4, hcz8_5, hcz8_6⟩ := cells7_ (show w5.heap[gb106]? = some (.cells #[.bool a1.f0, .int .u32 a1.f1.f0, .int .u32 a1.f1.f1, .int .u32 a1.f1.f2, .int .u32 a1.f1.f3, .int .u32 a1.f1.f4, .int .u32 a1.f1.f5] 25 (0, 0)) from BK106.out); obtain ⟨hfz8_0, hfz8_1, hfz8_2, hfz8_3, hfz8_4, hfz8_5, hfz8_6⟩ := frozen7_ BK106.out))
  go_ret
  exact ⟨by first | rfl | (simp [errW_none, errW_some] <;> rfl) | (simp [*, errW_none, errW_some] <;> rfl), by repeat (first | (with_reducible first | exact HB.out | apply below_alloc | apply pw_below_drewN | apply below_drew1 | refine below_set ?_ GE105.out | refine below_set ?_ GE106.out) | exact HB.out)⟩
 rw [if_neg c3] at H
 have c3b0 : (a0.f0 != a1.f0) = false := by simpa using c3
 (try (have c3b1 : decide (a0.f0 = a1.f0) = true := by simpa using c3))
 (try (have c3b2 : (a0.f0 == a1.f0) = true := by simpa using c3))
 clear c3
 replace H := Option.bind_eq_some_iff.mp H
 obtain ⟨t107, A90, H⟩ := H
 replace H : (if t107 = true then (some true) else (some false)) = some r := H
 have A9 := aM13_ A90
 clear A90
 by_cases c10 : t107 = true
 ·subst c10
  have H1 : (some true) = some r := by rw [if_pos rfl] at H; exact H
  clear H
  have H := H1
  clear H1
  obtain rfl := Option.some.inj H
  go_enter Try.func13, Try.ntmps13
  go_wp2_with (first | ((with_reducible refine gate_dst (N := 2) rfl ?_); refine box_event ?hg (N := 2) ?hd (cs := #[.bool a0.f0, .int .u32 a0.f1.f0, .int .u32 a0.f1.f1, .int .u32 a0.f1.f2, .int .u32 a0.f1.f3, .int .u32 a0.f1.f4, .int .u32 a0.f1.f5]) (t := 25) ?hr ?_; (case hd => rfl); (case hg => rfl); (case hr => first | (go_simp; done) | (go_simp; rfl)); intro gb105 hg w11 hbox hb; have n0_ := aM13_ (below_step q13x3_ hb); have n1_ := aM13_ (hbox); have n2_ := aM13_ ((q13x8_ : w.heap.size ≤ gb105)); have n3_ := aM13_ ((q13x8_ : w.heap.size ≤ gb105)); clear HB; have HB := n0_; have BK105 := n1_; have GW105 := n2_; have GE105 := n3_; clear n0_ n1_ n2_ n3_; clear hb hbox hg) | ((with_reducible refine gate_dst (N := 3) rfl ?_); refine box_event ?hg (N := 3) ?hd (cs := #[.bool a1.f0, .int .u32 a1.f1.f0, .int .u32 a1.f1.f1, .int .u32 a1.f1.f2, .int .u32 a1.f1.f3, .int .u32 a1.f1.f4, .int .u32 a1.f1.f5]) (t := 25) ?hr ?_; (case hd => rfl); (case hg => rfl); (case hr => first | (go_simp; done) | (go_simp; rfl)); intro gb106 hg w12 hbox hb; have n0_ := aM13_ (blk_below (g := gb105) (o := .cells #[.bool a0.f0, .int .u32 a0.f1.f0, .int .u32 a0.f1.f1, .int .u32 a0.f1.f2, .int .u32 a0.f1.f3, .int .u32 a0.f1.f4, .int .u32 a0.f1.f5] 25 (0, 0)) q13x2_ hb); have n1_ := aM13_ (below_step q13x1_ hb); have n2_ := aM13_ (hbox); have n3_ := aM13_ ((q13x9_ : w.heap.size ≤ gb106)); have n4_ := aM13_ ((q13x9_ : w.heap.size ≤ gb106)); have n5_ := aM13_ ((q13x4_ : gb105 ≠ gb106)); have n6_ := aM13_ ((q13x5_ : gb106 ≠ gb105)); clear BK105 HB; have BK105 := n0_; have HB := n1_; have BK106 := n2_; have GW106 := n3_; have GE106 := n4_; have NB105_106 := n5_; have NB106_105 := n6_; clear n0_ n1_ n2_ n3_ n4_ n5_ n6_; clear hb hbox hg; have hnb13 := NB105_106.out; have hnc13 := NB106_105.out; obtain ⟨hcz14_0, hcz14_1, hcz14_2, hcz14_3, hcz14_4, hcz14_5, hcz14_6⟩ := cells7_ (show w12.heap[gb105]? = some (.cells #[.bool a0.f0, .int .u32 a0.f1.f0, .int .u32 a0.f1.f1, .int .u32 a0.f1.f2, .int .u32 a0.f1.f3, .int .u32 a0.f1.f4, .int .u32 a0.f1.f5] 25 (0, 0)) from BK105.out); obtain ⟨hfz14_0, hfz14_1, hfz14_2, hfz14_3, hfz14_4, hfz14_5, hfz14_6⟩ := frozen7_ BK105.out; obtain ⟨hcz15_0, hcz15_1, hcz15_2, hcz15_3, hcz15_4, hcz15_5, hcz15_6⟩ := cells7_ (show w12.heap[gb106]? = some (.cells #[.bool a1.f0, .int .u32 a1.f1.f0, .int .u32 a1.f1.f1, .int .u32 a1.f1.f2, .int .u32 a1.f1.f3, .int .u32 a1.f1.f4, .int .u32 a1.f1.f5] 25 (0, 0)) from BK106.out); obtain ⟨hfz15_0, hfz15_1, hfz15_2, hfz15_3, hfz15_4, hfz15_5, hfz15_6⟩ := frozen7_ BK106.out) | ((with_reducible refine gate_callee (f := 50) rfl ?_); refine goesL_ (some 14) rfl rfl Try.func50 (by kernel_rfl) rfl #[.agg #[.int .u32 a0.f1.f0, .int .u32 a0.f1.f1, .int .u32 a0.f1.f2, .int .u32 a0.f1.f3, .int .u32 a0.f1.f4, .int .u32 a0.f1.f5], .agg #[.int .u32 a1.f1.f0, .int .u32 a1.f1.f1, .int .u32 a1.f1.f2, .int .u32 a1.f1.f3, .int .u32 a1.f1.f4, .int .u32 a1.f1.f5]] rfl q13x6_ ?_; (with_reducible refine (laws_eqUint32A6.calls k a0.f1 a1.f1 true _ A9.out).mono ?_); rintro e w16 ⟨rfl, hb⟩; refine ⟨_, rfl, ?_⟩; have n0_ := aM13_ (blk_below (g := gb105) (o := .cells #[.bool a0.f0, .int .u32 a0.f1.f0, .int .u32 a0.f1.f1, .int .u32 a0.f1.f2, .int .u32 a0.f1.f3, .int .u32 a0.f1.f4, .int .u32 a0.f1.f5] 25 (0, 0)) q13x2_ hb); have n1_ := aM13_ (blk_below (g := gb106) (o := .cells #[.bool a1.f0, .int .u32 a1.f1.f0, .int .u32 a1.f1.f1, .int .u32 a1.f1.f2, .int .u32 a1.f1.f3, .int .u32 a1.f1.f4, .int .u32 a1.f1.f5] 25 (0, 0)) (by (with_reducible repeat (first | refine blk_drewN ?_ _ | refine blk_drew ?_ | refine blk_alloc ?_ _)); exact BK106.out) hb); have n2_ := aM13_ (below_step q13x7_ hb); clear BK105 BK106 HB; have BK105 := n0_; have BK106 := n1_; have HB := n2_; clear n0_ n1_ n2_; (try clear hb); (try clear hb2); (try clear hk); (try clear hi)))
  go_ret
  exact ⟨by first | rfl | (simp [errW_none, errW_some] <;> rfl) | (simp [*, errW_none, errW_some] <;> rfl), by repeat (first | (with_reducible first | exact HB.out | apply below_alloc | apply pw_below_drewN | apply below_drew1 | refine below_set ?_ GE105.out | refine below_set ?_ GE106.out) | exact HB.out)⟩
 replace c10 := Bool.eq_false_iff.mpr c10
 subst c10
 have H1 : (some false) = some r := by rw [if_neg (show ¬ (false = true) by decide)] at H; exact H
 clear H
 have H := H1
 clear H1
 obtain rfl := Option.some.inj H
 go_enter Try.func13, Try.ntmps13
 go_wp2_with (first | ((with_reducible refine gate_dst (N := 2) rfl ?_); refine box_event ?hg (N := 2) ?hd (cs := #[.bool a0.f0, .int .u32 a0.f1.f0, .int .u32 a0.f1.f1, .int .u32 a0.f1.f2, .int .u32 a0.f1.f3, .int .u32 a0.f1.f4, .int .u32 a0.f1.f5]) (t := 25) ?hr ?_; (case hd => rfl); (case hg => rfl); (case hr => first | (go_simp; done) | (go_simp; rfl)); intro gb105 hg w17 hbox hb; have n0_ := aM13_ (below_step q13x3_ hb); have n1_ := aM13_ (hbox); have n2_ := aM13_ ((q13x8_ : w.heap.size ≤ gb105)); have n3_ := aM13_ ((q13x8_ : w.heap.size ≤ gb105)); clear HB; have HB := n0_; have BK105 := n1_; have GW105 := n2_; have GE105 := n3_; clear n0_ n1_ n2_ n3_; clear hb hbox hg) | ((with_reducible refine gate_dst (N := 3) rfl ?_); refine box_event ?hg (N := 3) ?hd (cs := #[.bool a1.f0, .int .u32 a1.f1.f0, .int .u32 a1.f1.f1, .int .u32 a1.f1.f2, .int .u32 a1.f1.f3, .int .u32 a1.f1.f4, .int .u32 a1.f1.f5]) (t := 25) ?hr ?_; (case hd => rfl); (case hg => rfl); (case hr => first | (go_simp; done) | (go_simp; rfl)); intro gb106 hg w18 hbox hb; have n0_ := aM13_ (blk_below (g := gb105) (o := .cells #[.bool a0.f0, .int .u32 a0.f1.f0, .int .u32 a0.f1.f1, .int .u32 a0.f1.f2, .int .u32 a0.f1.f3, .int .u32 a0.f1.f4, .int .u32 a0.f1.f5] 25 (0, 0)) q13x2_ hb); have n1_ := aM13_ (below_step q13x1_ hb); have n2_ := aM13_ (hbox); have n3_ := aM13_ ((q13x9_ : w.heap.size ≤ gb106)); have n4_ := aM13_ ((q13x9_ : w.heap.size ≤ gb106)); have n5_ := aM13_ ((q13x4_ : gb105 ≠ gb106)); have n6_ := aM13_ ((q13x5_ : gb106 ≠ gb105)); clear BK105 HB; have BK105 := n0_; have HB := n1_; have BK106 := n2_; have GW106 := n3_; have GE106 := n4_; have NB105_106 := n5_; have NB106_105 := n6_; clear n0_ n1_ n2_ n3_ n4_ n5_ n6_; clear hb hbox hg; have hnb19 := NB105_106.out; have hnc19 := NB106_105.out; obtain ⟨hcz20_0, hcz20_1, hcz20_2, hcz20_3, hcz20_4, hcz20_5, hcz20_6⟩ := cells7_ (show w18.heap[gb105]? = some (.cells #[.bool a0.f0, .int .u32 a0.f1.f0, .int .u32 a0.f1.f1, .int .u32 a0.f1.f2, .int .u32 a0.f1.f3, .int .u32 a0.f1.f4, .int .u32 a0.f1.f5] 25 (0, 0)) from BK105.out); obtain ⟨hfz20_0, hfz20_1, hfz20_2, hfz20_3, hfz20_4, hfz20_5, hfz20_6⟩ := frozen7_ BK105.out; obtain ⟨hcz21_0, hcz21_1, hcz21_2, hcz21_3, hcz21_4, hcz21_5, hcz21_6⟩ := cells7_ (show w18.heap[gb106]? = some (.cells #[.bool a1.f0, .int .u32 a1.f1.f0, .int .u32 a1.f1.f1, .int .u32 a1.f1.f2, .int .u32 a1.f1.f3, .int .u32 a1.f1.f4, .int .u32 a1.f1.f5] 25 (0, 0)) from BK106.out); obtain ⟨hfz21_0, hfz21_1, hfz21_2, hfz21_3, hfz21_4, hfz21_5, hfz21_6⟩ := frozen7_ BK106.out) | ((with_reducible refine gate_callee (f := 50) rfl ?_); refine goesL_ (some 14) rfl rfl Try.func50 (by kernel_rfl) rfl #[.agg #[.int .u32 a0.f1.f0, .int .u32 a0.f1.f1, .int .u32 a0.f1.f2, .int .u32 a0.f1.f3, .int .u32 a0.f1.f4, .int .u32 a0.f1.f5], .agg #[.int .u32 a1.f1.f0, .int .u32 a1.f1.f1, .int .u32 a1.f1.f2, .int .u32 a1.f1.f3, .int .u32 a1.f1.f4, .int .u32 a1.f1.f5]] rfl q13x6_ ?_; (with_reducible refine (laws_eqUint32A6.calls k a0.f1 a1.f1 false _ A9.out).mono ?_); rintro e w22 ⟨rfl, hb⟩; refine ⟨_, rfl, ?_⟩; have n0_ := aM13_ (blk_below (g := gb105) (o := .cells #[.bool a0.f0, .int .u32 a0.f1.f0, .int .u32 a0.f1.f1, .int .u32 a0.f1.f2, .int .u32 a0.f1.f3, .int .u32 a0.f1.f4, .int .u32 a0.f1.f5] 25 (0, 0)) q13x2_ hb); have n1_ := aM13_ (blk_below (g := gb106) (o := .cells #[.bool a1.f0, .int .u32 a1.f1.f0, .int .u32 a1.f1.f1, .int .u32 a1.f1.f2, .int .u32 a1.f1.f3, .int .u32 a1.f1.f4, .int .u32 a1.f1.f5] 25 (0, 0)) (by (with_reducible repeat (first | refine blk_drewN ?_ _ | refine blk_drew ?_ | refine blk_alloc ?_ _)); exact BK106.out) hb); have n2_ := aM13_ (below_step q13x7_ hb); clear BK105 BK106 HB; have BK105 := n0_; have BK106 := n1_; have HB := n2_; clear n0_ n1_ n2_; (try clear hb); (try clear hb2); (try clear hk); (try clear hi)))
 go_ret
 exact ⟨by first | rfl | (simp [errW_none, errW_some] <;> rfl) | (simp [*, errW_none, errW_some] <;> rfl), by repeat (first | (with_reducible first | exact HB.out | apply below_alloc | apply pw_below_drewN | apply below_drew1 | refine below_set ?_ GE105.out | refine below_set ?_ GE106.out) | exact HB.out)⟩

/-! ### spec_l00In: function 86 -/
def spec_l00In.f (a0 : Int) (a1 : Int) (a2 : Int) : Option (Bool) := if a0 ≥ a1 then (some (decide (a0 ≤ a2))) else (some false)
set_option maxHeartbeats 8000000 in
set_option maxRecDepth 100000 in
theorem spec_l00In.calls (a0 : Int) (a1 : Int) (a2 : Int) (r : Bool) (w : World) (h : spec_l00In.f a0 a1 a2 = some r) :
    Calls Try.prog 86 #[.int .i64 a0, .int .i64 a1, .int .i64 a2] w fun e w' => e = .returned (.bool r) ∧ Drawn0 w w' := by
  have H : (if a0 ≥ a1 then (some (decide (a0 ≤ a2))) else (some false)) = some r := h
  clear h
  by_cases c4 : a0 ≥ a1
  · rw [if_pos c4] at H
    have c4b0 : decide (a1 ≤ a0) = true := decide_eq_true c4
    clear c4
    obtain rfl := Option.some.inj H
    go_enter Try.func86, Try.ntmps86
    go_wp2
    go_ret
    exact ⟨by first | rfl | (simp; done) | (simp [*]; done), by repeat (first | exact Drawn0.refl _ | apply Drawn0.step)⟩
  · rw [if_neg c4] at H
    have c4b0 : decide (a1 ≤ a0) = false := decide_eq_false c4
    clear c4
    obtain rfl := Option.some.inj H
    go_enter Try.func86, Try.ntmps86
    go_wp2
    go_ret
    exact ⟨by first | rfl | (simp; done) | (simp [*]; done), by repeat (first | exact Drawn0.refl _ | apply Drawn0.step)⟩

/-! ### spec_l05Ok: function 67 -/
mutual
def spec_l05Ok.j0 : Nat → List Int → Bool → Option (Bool)
  | 0, _, _ => none
  | k + 1, x0, x16 => if x16 = true then (some false) else (spec_l05Ok.l0 k x0 0)
def spec_l05Ok.l0 : Nat → List Int → Int → Option (Bool)
  | 0, _, _ => none
  | k + 1, x0, x3 => if x3 < (x0.length : Int) then (if 0 ≤ x3 then ((spec_l00In.f (rd x0 x3) (-1000000) 1000000).bind fun t111 => (if t111 = true then (spec_l05Ok.l0 k x0 (wrap64 (x3 + 1))) else (some false))) else (none)) else (some true)
end
def spec_l05Ok.f (k : Nat) (l0 : List Int) : Option (Bool) := (spec_l00In.f (l0.length : Int) 2 9).bind fun t108 => (if t108 = true then (if 0 ≤ (wrap64 ((l0.length : Int) - 1)) then (if (wrap64 ((l0.length : Int) - 1)) < (l0.length : Int) then (spec_l05Ok.j0 k l0 ((rd l0 (wrap64 ((l0.length : Int) - 1))) == 0)) else (none)) else (none)) else (spec_l05Ok.j0 k l0 true))
theorem spec_l05Ok.mono_l : ∀ k, (∀ y0 y1, LeO (spec_l05Ok.j0 k y0 y1) (spec_l05Ok.j0 (k + 1) y0 y1)) ∧ (∀ y0 y1, LeO (spec_l05Ok.l0 k y0 y1) (spec_l05Ok.l0 (k + 1) y0 y1))
  | 0 => ⟨fun _ _ r h => by simp [spec_l05Ok.j0] at h, fun _ _ r h => by simp [spec_l05Ok.l0] at h⟩
  | k + 1 => by
    obtain ⟨ih0, ih1⟩ := spec_l05Ok.mono_l k
    refine ⟨?_, ?_⟩
    · intro y0 y1
      unfold spec_l05Ok.j0
      repeat' first
      | (with_reducible exact ih0 _ _)
      | (with_reducible exact ih1 _ _)
      | (with_reducible exact LeO.refl _)
      | (with_reducible exact LeO.none _)
      | (with_reducible refine LeO.ite ?_ ?_)
      | (with_reducible refine LeO.bind ?_ (fun _ => ?_))
      | exact ih0 _ _
      | exact ih1 _ _
      | exact LeO.none _
      | refine LeO.ite ?_ ?_
      | refine LeO.bind ?_ (fun _ => ?_)
    · intro y0 y1
      unfold spec_l05Ok.l0
      repeat' first
      | (with_reducible exact ih0 _ _)
      | (with_reducible exact ih1 _ _)
      | (with_reducible exact LeO.refl _)
      | (with_reducible exact LeO.none _)
      | (with_reducible refine LeO.ite ?_ ?_)
      | (with_reducible refine LeO.bind ?_ (fun _ => ?_))
      | exact ih0 _ _
      | exact ih1 _ _
      | exact LeO.none _
      | refine LeO.ite ?_ ?_
      | refine LeO.bind ?_ (fun _ => ?_)
theorem spec_l05Ok.mono : ∀ a0 k, LeO (spec_l05Ok.f k a0) (spec_l05Ok.f (k + 1) a0) := by
  intro a0 k
  obtain ⟨ih0, ih1⟩ := spec_l05Ok.mono_l k
  unfold spec_l05Ok.f
  repeat' first
      | (with_reducible exact ih0 _ _)
      | (with_reducible exact ih1 _ _)
      | (with_reducible exact LeO.refl _)
      | (with_reducible exact LeO.none _)
      | (with_reducible refine LeO.ite ?_ ?_)
      | (with_reducible refine LeO.bind ?_ (fun _ => ?_))
      | exact ih0 _ _
      | exact ih1 _ _
      | exact LeO.none _
      | refine LeO.ite ?_ ?_
      | refine LeO.bind ?_ (fun _ => ?_)
set_option maxHeartbeats 8000000 in
set_option maxRecDepth 100000 in
theorem spec_l05Ok.calls (k : Nat) (A0 : Option Addr) (c0 : Nat) (l0 : List Int) (r : Bool) (w : World) (hr0 : Kd.C (Kd.int .i64) w A0 l0.length l0) (hc0 : l0.length ≤ c0) (h : spec_l05Ok.f k l0 = some r) :
    Calls Try.prog 67 #[.slice A0 l0.length c0] w fun e w' => e = .returned (.bool r) ∧ Drawn0 w w' := by
  have HR0 := Aside0.mk hr0
  have HC0 := Aside0.mk hc0
  clear hr0 hc0
  have H : ((spec_l00In.f (l0.length : Int) 2 9).bind fun t108 => (if t108 = true then (if 0 ≤ (wrap64 ((l0.length : Int) - 1)) then (if (wrap64 ((l0.length : Int) - 1)) < (l0.length : Int) then (spec_l05Ok.j0 k l0 ((rd l0 (wrap64 ((l0.length : Int) - 1))) == 0)) else (none)) else (none)) else (spec_l05Ok.j0 k l0 true))) = some r := h
  clear h
  have HC2 := Aside0.mk H
  clear H
  go_enter Try.func67, Try.ntmps67
  go_upto_region 1 with (fail)
  go_cut [16] (fun v16 wc => ∃ (kq : Nat) (x16_1 : Bool), v16 = .bool x16_1 ∧ Aside0 (spec_l05Ok.j0 kq l0 x16_1 = some r) ∧ Aside0 (kq ≤ k) ∧ Drawn0 w wc)
  case first =>
    have H := HC2.out
    clear HC2
    replace H := Option.bind_eq_some_iff.mp H
    obtain ⟨t108, A30, H⟩ := H
    replace H : (if t108 = true then (if 0 ≤ (wrap64 ((l0.length : Int) - 1)) then (if (wrap64 ((l0.length : Int) - 1)) < (l0.length : Int) then (spec_l05Ok.j0 k l0 ((rd l0 (wrap64 ((l0.length : Int) - 1))) == 0)) else (none)) else (none)) else (spec_l05Ok.j0 k l0 true)) = some r := H
    have A3 := Aside0.mk A30
    clear A30
    by_cases c4 : t108 = true
    · subst c4
      have H1 : (if 0 ≤ (wrap64 ((l0.length : Int) - 1)) then (if (wrap64 ((l0.length : Int) - 1)) < (l0.length : Int) then (spec_l05Ok.j0 k l0 ((rd l0 (wrap64 ((l0.length : Int) - 1))) == 0)) else (none)) else (none)) = some r := by rw [if_pos rfl] at H; exact H
      clear H
      have H := H1
      clear H1
      obtain ⟨ji5, hji5⟩ : ∃ j_ : Int, (wrap64 ((l0.length : Int) - 1)) = j_ := ⟨_, rfl⟩
      replace H : (if 0 ≤ (ji5) then (if (ji5) < (l0.length : Int) then (spec_l05Ok.j0 k l0 ((rd l0 (ji5)) == 0)) else (none)) else (none)) = some r := by first | (rw [hji5] at H; exact H) | (simp only [hji5] at H ⊢; exact H)
      (try rw [hji5] at A3)
      have hji5w : (IntKind.i64.wrap ((l0.length : Int) - 1)) = ji5 := (i64_w _).trans hji5
      by_cases c6 : 0 ≤ (ji5)
      · rw [if_pos c6] at H
        have c6b0 : decide (0 ≤ (ji5)) = true := decide_eq_true c6
        clear c6
        (first | rw [c6b0] | (simp only [i64_w, i32_w]; rw [c6b0]) | skip)
        by_cases c7 : (ji5) < (l0.length : Int)
        · rw [if_pos c7] at H
          have c7b0 : decide ((ji5) < (l0.length : Int)) = true := decide_eq_true c7
          clear c7
          have H' := Aside0.mk H
          clear H
          go_wp2_with (first | ((with_reducible refine gate_callee (f := 86) rfl ?_); refine goesL_ (some 6) rfl rfl Try.func86 (by kernel_rfl) rfl #[.int .i64 (l0.length : Int), .int .i64 2, .int .i64 9] rfl (by (try simp only [List.map_toArray, List.map_cons, List.map_nil]); first | done | rfl | (simp only [List.length_drop, List.length_take]; rfl) | (simp only [List.drop_one]; done) | (simp only [List.drop_one]; rfl)) ?_; (with_reducible refine (spec_l00In.calls (l0.length : Int) 2 9 true _ A3.out).mono ?_); rintro e w' ⟨rfl, ⟨nd, rfl⟩⟩; refine ⟨_, rfl, ?_⟩; have p109 : 0 ≤ ((ji5) : Int) := of_decide_eq_true (by first | (with_reducible assumption) | assumption); have q109 : (ji5) < (l0.length : Int) := of_decide_eq_true (by first | (with_reducible assumption) | assumption); obtain ⟨ad109, e109, hx109_0⟩ := Kd.at_int HR0.out (ji5) p109 q109; cases e109; replace p109 := eq_true p109; replace q109 := eq_true q109))
          go_meet
          case rel => exact ⟨_, (((rd l0 (ji5)) == 0)), (by first | rfl | (simp; done) | (simp only [← hji5] <;> (first | rfl | simp)) | (simp [*]; done)), H', ⟨by first | omega | exact Nat.le_refl _⟩, by repeat (first | exact Drawn0.refl _ | apply Drawn0.step)⟩
        · rw [if_neg c7] at H
          exact absurd H (by simp)
      · rw [if_neg c6] at H
        exact absurd H (by simp)
    · replace c4 := Bool.eq_false_iff.mpr c4
      subst c4
      have H1 : (spec_l05Ok.j0 k l0 true) = some r := by rw [if_neg (show ¬ (false = true) by decide)] at H; exact H
      clear H
      have H := H1
      clear H1
      have H' := Aside0.mk H
      clear H
      go_wp2_with (first | ((with_reducible refine gate_callee (f := 86) rfl ?_); refine goesL_ (some 6) rfl rfl Try.func86 (by kernel_rfl) rfl #[.int .i64 (l0.length : Int), .int .i64 2, .int .i64 9] rfl (by (try simp only [List.map_toArray, List.map_cons, List.map_nil]); first | done | rfl | (simp only [List.length_drop, List.length_take]; rfl) | (simp only [List.drop_one]; done) | (simp only [List.drop_one]; rfl)) ?_; (with_reducible refine (spec_l00In.calls (l0.length : Int) 2 9 false _ A3.out).mono ?_); rintro e w' ⟨rfl, ⟨nd, rfl⟩⟩; refine ⟨_, rfl, ?_⟩))
      go_meet
      case rel => exact ⟨_, (true), (by first | rfl | (simp; done) | (simp [*]; done)), H', ⟨by first | omega | exact Nat.le_refl _⟩, by repeat (first | exact Drawn0.refl _ | apply Drawn0.step)⟩
  case rest =>
    clear HC2
    try clear p1
    try clear q1
    try clear hx1
    try clear p2
    try clear c4
    try clear c6
    try clear c6b0
    try clear p6
    try clear c7
    try clear c7b0
    try clear hx109_0
    try clear p109
    try clear q109
    obtain ⟨kq, x16_1, rfl, HA, HJ1, ⟨mc1, rfl⟩⟩ := hcut
    cases kq with
    | zero => exact absurd HA.out (by simp [spec_l05Ok.j0])
    | succ kj1 =>
      have H := HA.out
      clear HA
      simp only [spec_l05Ok.j0] at H
      by_cases c8 : x16_1 = true
      · subst c8
        have H1 : (some false) = some r := by rw [if_pos rfl] at H; exact H
        clear H
        have H := H1
        clear H1
        obtain rfl := Option.some.inj H
        go_wp2
        go_ret
        exact ⟨by first | rfl | (simp; done) | (simp [*]; done), by repeat (first | exact Drawn0.refl _ | apply Drawn0.step)⟩
      · replace c8 := Bool.eq_false_iff.mpr c8
        subst c8
        have H1 : (spec_l05Ok.l0 kj1 l0 0) = some r := by rw [if_neg (show ¬ (false = true) by decide)] at H; exact H
        clear H
        have H := H1
        clear H1
        have H' := Aside0.mk H
        clear H
        go_wp2
        go_loopg [3] kj1 (fun kq v3 w' => ∃ (x3_2 : Int), v3 = .int .i64 x3_2 ∧ Aside0 (spec_l05Ok.l0 kq l0 x3_2 = some r) ∧ Aside0 (kq ≤ kj1) ∧ Drawn0 w w')
        case atStart => exact ⟨(0), (by first | rfl | (simp; done) | (simp [*]; done)), H', ⟨Nat.le_refl _⟩, by repeat (first | exact Drawn0.refl _ | apply Drawn0.step)⟩
        case round =>
          clear H'
          try clear c1
          try clear p1
          try clear q1
          try clear hx1
          try clear p2
          try clear c4
          try clear c6
          try clear c6b0
          try clear p6
          try clear c7
          try clear c7b0
          try clear c8
          try clear hx109_0
          try clear p1
          try clear p109
          try clear p2
          try clear p6
          try clear q1
          try clear q109
          obtain ⟨x3_2, rfl, HA, HK2, ⟨m2, rfl⟩⟩ := hrel
          cases gk with
          | zero => exact absurd HA.out (by simp [spec_l05Ok.l0])
          | succ k2 =>
            have H := HA.out
            clear HA
            simp only [spec_l05Ok.l0] at H
            by_cases c9 : x3_2 < (l0.length : Int)
            · rw [if_pos c9] at H
              have c9b0 : decide (x3_2 < (l0.length : Int)) = true := decide_eq_true c9
              clear c9
              by_cases c10 : 0 ≤ x3_2
              · rw [if_pos c10] at H
                have c10b0 : decide (0 ≤ x3_2) = true := decide_eq_true c10
                clear c10
                replace H := Option.bind_eq_some_iff.mp H
                obtain ⟨t111, A110, H⟩ := H
                replace H : (if t111 = true then (spec_l05Ok.l0 k2 l0 (wrap64 (x3_2 + 1))) else (some false)) = some r := H
                have A11 := Aside0.mk A110
                clear A110
                by_cases c12 : t111 = true
                · subst c12
                  have H1 : (spec_l05Ok.l0 k2 l0 (wrap64 (x3_2 + 1))) = some r := by rw [if_pos rfl] at H; exact H
                  clear H
                  have H := H1
                  clear H1
                  have H' := Aside0.mk H
                  clear H
                  have p110 : 0 ≤ (x3_2 : Int) := of_decide_eq_true (by first | (with_reducible assumption) | assumption)
                  have q110 : x3_2 < (l0.length : Int) := of_decide_eq_true (by first | (with_reducible assumption) | assumption)
                  obtain ⟨ad110, e110, hx110_0⟩ := Kd.at_int HR0.out x3_2 p110 q110
                  cases e110
                  replace p110 := eq_true p110
                  replace q110 := eq_true q110
                  go_wp2_with (first | ((with_reducible refine gate_callee (f := 86) rfl ?_); refine goesL_ (some 27) rfl rfl Try.func86 (by kernel_rfl) rfl #[.int .i64 (rd l0 x3_2), .int .i64 (-1000000), .int .i64 1000000] rfl (by (try simp only [List.map_toArray, List.map_cons, List.map_nil]); first | done | rfl | (simp only [List.length_drop, List.length_take]; rfl) | (simp only [List.drop_one]; done) | (simp only [List.drop_one]; rfl)) ?_; (with_reducible refine (spec_l00In.calls (rd l0 x3_2) (-1000000) 1000000 true _ A11.out).mono ?_); rintro e w' ⟨rfl, ⟨nd, rfl⟩⟩; refine ⟨_, rfl, ?_⟩))
                  go_roundg k2
                  case measure => have := HJ1.out; have := HK2.out; omega
                  case rel => exact ⟨(wrap64 (x3_2 + 1)), (by first | rfl | (simp; done) | (simp [*]; done)), H', ⟨by have := HJ1.out; have := HK2.out; omega⟩, by repeat (first | exact Drawn0.refl _ | apply Drawn0.step)⟩
                · replace c12 := Bool.eq_false_iff.mpr c12
                  subst c12
                  have H1 : (some false) = some r := by rw [if_neg (show ¬ (false = true) by decide)] at H; exact H
                  clear H
                  have H := H1
                  clear H1
                  obtain rfl := Option.some.inj H
                  have p110 : 0 ≤ (x3_2 : Int) := of_decide_eq_true (by first | (with_reducible assumption) | assumption)
                  have q110 : x3_2 < (l0.length : Int) := of_decide_eq_true (by first | (with_reducible assumption) | assumption)
                  obtain ⟨ad110, e110, hx110_0⟩ := Kd.at_int HR0.out x3_2 p110 q110
                  cases e110
                  replace p110 := eq_true p110
                  replace q110 := eq_true q110
                  go_wp2_with (first | ((with_reducible refine gate_callee (f := 86) rfl ?_); refine goesL_ (some 27) rfl rfl Try.func86 (by kernel_rfl) rfl #[.int .i64 (rd l0 x3_2), .int .i64 (-1000000), .int .i64 1000000] rfl (by (try simp only [List.map_toArray, List.map_cons, List.map_nil]); first | done | rfl | (simp only [List.length_drop, List.length_take]; rfl) | (simp only [List.drop_one]; done) | (simp only [List.drop_one]; rfl)) ?_; (with_reducible refine (spec_l00In.calls (rd l0 x3_2) (-1000000) 1000000 false _ A11.out).mono ?_); rintro e w' ⟨rfl, ⟨nd, rfl⟩⟩; refine ⟨_, rfl, ?_⟩))
                  go_ret
                  exact ⟨by first | rfl | (simp; done) | (simp [*]; done), by repeat (first | exact Drawn0.refl _ | apply Drawn0.step)⟩
              · rw [if_neg c10] at H
                exact absurd H (by simp)
            · rw [if_neg c9] at H
              have c9b0 : decide (x3_2 < (l0.length : Int)) = false := decide_eq_false c9
              clear c9
              obtain rfl := Option.some.inj H
              go_wp2
              go_ret
              exact ⟨by first | rfl | (simp; done) | (simp [*]; done), by repeat (first | exact Drawn0.refl _ | apply Drawn0.step)⟩

/-! ### spec_l01Ok: function 81 -/
def spec_l01Ok.f (a0 : S24) : Option (Bool) := if a0.f0 = true then (some (!(a0.f1.f0 == 0) || (!(a0.f1.f1 == 0) || (!(a0.f1.f2 == 0) || (!(a0.f1.f3 == 0) || (!(a0.f1.f4 == 0) || (!(a0.f1.f5 == 0)))))))) else (some true)
set_option maxHeartbeats 8000000 in
set_option maxRecDepth 100000 in
theorem spec_l01Ok.calls (B0_ O0_ : Nat) (a0 : S24) (r : Bool) (w : World) (hq0_ : w.cell? ⟨B0_, O0_, none⟩ = some (.bool a0.f0) ∧ w.cell? ⟨B0_, O0_ + 1, none⟩ = some (.int .u32 a0.f1.f0) ∧ w.cell? ⟨B0_, O0_ + 2, none⟩ = some (.int .u32 a0.f1.f1) ∧ w.cell? ⟨B0_, O0_ + 3, none⟩ = some (.int .u32 a0.f1.f2) ∧ w.cell? ⟨B0_, O0_ + 4, none⟩ = some (.int .u32 a0.f1.f3) ∧ w.cell? ⟨B0_, O0_ + 5, none⟩ = some (.int .u32 a0.f1.f4) ∧ w.cell? ⟨B0_, O0_ + 6, none⟩ = some (.int .u32 a0.f1.f5)) (h : spec_l01Ok.f a0 = some r) :
    Calls Try.prog 81 #[.pointer (some ⟨B0_, O0_, none⟩)] w fun e w' => e = .returned (.bool r) ∧ Drawn0 w w' := by
  have hu23 := Try.underlying23
  have HQ0_ := Aside0.mk hq0_
  clear hq0_
  have H : (if a0.f0 = true then (some (!(a0.f1.f0 == 0) || (!(a0.f1.f1 == 0) || (!(a0.f1.f2 == 0) || (!(a0.f1.f3 == 0) || (!(a0.f1.f4 == 0) || (!(a0.f1.f5 == 0)))))))) else (some true)) = some r := h
  clear h
  by_cases c2 : a0.f0 = true
  · rw [if_pos c2] at H
    have c2b0 : a0.f0 = true := c2
    clear c2
    obtain rfl := Option.some.inj H
    obtain ⟨hxr3_0, hxr3_1, hxr3_2, hxr3_3, hxr3_4, hxr3_5, hxr3_6⟩ := HQ0_.out
    go_enter Try.func81, Try.ntmps81
    go_wp2
    go_ret
    exact ⟨by first | rfl | (simp; done) | (simp [*]; done), by repeat (first | exact Drawn0.refl _ | apply Drawn0.step)⟩
  · rw [if_neg c2] at H
    have c2b0 : a0.f0 = false := by simpa using c2
    clear c2
    obtain rfl := Option.some.inj H
    obtain ⟨hxr4_0, hxr4_1, hxr4_2, hxr4_3, hxr4_4, hxr4_5, hxr4_6⟩ := HQ0_.out
    go_enter Try.func81, Try.ntmps81
    go_wp2
    go_ret
    exact ⟨by first | rfl | (simp; done) | (simp [*]; done), by repeat (first | exact Drawn0.refl _ | apply Drawn0.step)⟩

/-! ### spec_l02Places: function 91 -/
def spec_l02Places.f (a0 : Int) : Option (Bool) := (spec_l00In.f a0 0 64).bind fun t112 => (some t112)
set_option maxHeartbeats 8000000 in
set_option maxRecDepth 100000 in
theorem spec_l02Places.calls (a0 : Int) (r : Bool) (w : World) (h : spec_l02Places.f a0 = some r) :
    Calls Try.prog 91 #[.int .i64 a0] w fun e w' => e = .returned (.bool r) ∧ Drawn0 w w' := by
  have H : ((spec_l00In.f a0 0 64).bind fun t112 => (some t112)) = some r := h
  clear h
  replace H := Option.bind_eq_some_iff.mp H
  obtain ⟨t112, A20, H⟩ := H
  replace H : (some t112) = some r := H
  have A2 := Aside0.mk A20
  clear A20
  obtain rfl := Option.some.inj H
  go_enter Try.func91, Try.ntmps91
  go_wp2_with (first | ((with_reducible refine gate_callee (f := 86) rfl ?_); refine goesL_ (some 4) rfl rfl Try.func86 (by kernel_rfl) rfl #[.int .i64 a0, .int .i64 0, .int .i64 64] rfl (by (try simp only [List.map_toArray, List.map_cons, List.map_nil]); first | done | rfl | (simp only [List.length_drop, List.length_take]; rfl) | (simp only [List.drop_one]; done) | (simp only [List.drop_one]; rfl)) ?_; (with_reducible refine (spec_l00In.calls a0 0 64 t112 _ A2.out).mono ?_); rintro e w' ⟨rfl, ⟨nd, rfl⟩⟩; refine ⟨_, rfl, ?_⟩))
  go_ret
  exact ⟨by first | rfl | (simp; done) | (simp [*]; done), by repeat (first | exact Drawn0.refl _ | apply Drawn0.step)⟩

/-! ### spec_l05Asked: function 53 -/
def spec_l05Asked.j0 : Nat → Int → Bool → Option (Int)
  | 0, _, _ => none
  | k + 1, x2, x14 => if x14 = true then (some 1) else ((spec_l02Places.f x2).bind fun t115 => (if t115 = true then (some 0) else (some 2)))
def spec_l05Asked.f (k : Nat) (l0 : List Int) (a1 : S24) (a2 : Int) : Option (Int) := (spec_l05Ok.f k l0).bind fun t113 => (if t113 = true then ((spec_l01Ok.f a1).bind fun t114 => (spec_l05Asked.j0 k a2 (!t114))) else (spec_l05Asked.j0 k a2 true))
theorem spec_l05Asked.mono_l : ∀ k, (∀ y0 y1, LeO (spec_l05Asked.j0 k y0 y1) (spec_l05Asked.j0 (k + 1) y0 y1))
  | 0 => fun _ _ r h => by simp [spec_l05Asked.j0] at h
  | k + 1 => by
    have ih0 := spec_l05Asked.mono_l k
    · intro y0 y1
      unfold spec_l05Asked.j0
      repeat' first
      | (with_reducible exact ih0 _ _)
      | (with_reducible exact spec_l05Ok.mono _ _)
      | (with_reducible exact LeO.refl _)
      | (with_reducible exact LeO.none _)
      | (with_reducible refine LeO.ite ?_ ?_)
      | (with_reducible refine LeO.bind ?_ (fun _ => ?_))
      | exact ih0 _ _
      | exact spec_l05Ok.mono _ _
      | exact LeO.none _
      | refine LeO.ite ?_ ?_
      | refine LeO.bind ?_ (fun _ => ?_)
theorem spec_l05Asked.mono : ∀ a0 a1 a2 k, LeO (spec_l05Asked.f k a0 a1 a2) (spec_l05Asked.f (k + 1) a0 a1 a2) := by
  intro a0 a1 a2 k
  have ih0 := spec_l05Asked.mono_l k
  unfold spec_l05Asked.f
  repeat' first
      | (with_reducible exact ih0 _ _)
      | (with_reducible exact spec_l05Ok.mono _ _)
      | (with_reducible exact LeO.refl _)
      | (with_reducible exact LeO.none _)
      | (with_reducible refine LeO.ite ?_ ?_)
      | (with_reducible refine LeO.bind ?_ (fun _ => ?_))
      | exact ih0 _ _
      | exact spec_l05Ok.mono _ _
      | exact LeO.none _
      | refine LeO.ite ?_ ?_
      | refine LeO.bind ?_ (fun _ => ?_)
set_option maxHeartbeats 8000000 in
set_option maxRecDepth 100000 in
theorem spec_l05Asked.calls (k : Nat) (A0 : Option Addr) (c0 : Nat) (l0 : List Int) (B1_ O1_ : Nat) (a1 : S24) (a2 : Int) (r : Int) (w : World) (hr0 : Kd.C (Kd.int .i64) w A0 l0.length l0) (hc0 : l0.length ≤ c0) (hq1_ : w.cell? ⟨B1_, O1_, none⟩ = some (.bool a1.f0) ∧ w.cell? ⟨B1_, O1_ + 1, none⟩ = some (.int .u32 a1.f1.f0) ∧ w.cell? ⟨B1_, O1_ + 2, none⟩ = some (.int .u32 a1.f1.f1) ∧ w.cell? ⟨B1_, O1_ + 3, none⟩ = some (.int .u32 a1.f1.f2) ∧ w.cell? ⟨B1_, O1_ + 4, none⟩ = some (.int .u32 a1.f1.f3) ∧ w.cell? ⟨B1_, O1_ + 5, none⟩ = some (.int .u32 a1.f1.f4) ∧ w.cell? ⟨B1_, O1_ + 6, none⟩ = some (.int .u32 a1.f1.f5)) (h : spec_l05Asked.f k l0 a1 a2 = some r) :
    Calls Try.prog 53 #[.slice A0 l0.length c0, .pointer (some ⟨B1_, O1_, none⟩), .int .i64 a2] w fun e w' => e = .returned (.int .i64 r) ∧ Drawn0 w w' := by
  have HR0 := Aside0.mk hr0
  have HC0 := Aside0.mk hc0
  clear hr0 hc0
  have HQ1_ := Aside0.mk hq1_
  clear hq1_
  have H : ((spec_l05Ok.f k l0).bind fun t113 => (if t113 = true then ((spec_l01Ok.f a1).bind fun t114 => (spec_l05Asked.j0 k a2 (!t114))) else (spec_l05Asked.j0 k a2 true))) = some r := h
  clear h
  have HC4 := Aside0.mk H
  clear H
  go_enter Try.func53, Try.ntmps53
  go_upto_region 1 with (fail)
  go_cut [14] (fun v14 wc => ∃ (kq : Nat) (x14_3 : Bool), v14 = .bool x14_3 ∧ Aside0 (spec_l05Asked.j0 kq a2 x14_3 = some r) ∧ Aside0 (kq ≤ k) ∧ Drawn0 w wc)
  case first =>
    have H := HC4.out
    clear HC4
    replace H := Option.bind_eq_some_iff.mp H
    obtain ⟨t113, A50, H⟩ := H
    replace H : (if t113 = true then ((spec_l01Ok.f a1).bind fun t114 => (spec_l05Asked.j0 k a2 (!t114))) else (spec_l05Asked.j0 k a2 true)) = some r := H
    have A5 := Aside0.mk A50
    clear A50
    by_cases c6 : t113 = true
    · subst c6
      have H1 : ((spec_l01Ok.f a1).bind fun t114 => (spec_l05Asked.j0 k a2 (!t114))) = some r := by rw [if_pos rfl] at H; exact H
      clear H
      have H := H1
      clear H1
      replace H := Option.bind_eq_some_iff.mp H
      obtain ⟨t114, A70, H⟩ := H
      replace H : (spec_l05Asked.j0 k a2 (!t114)) = some r := H
      have A7 := Aside0.mk A70
      clear A70
      have H' := Aside0.mk H
      clear H
      go_wp2_with (first | ((with_reducible refine gate_callee (f := 67) rfl ?_); refine goesL_ (some 8) rfl rfl Try.func67 (by kernel_rfl) rfl #[.slice A0 l0.length c0] rfl (by (try simp only [List.map_toArray, List.map_cons, List.map_nil]); first | done | rfl | (simp only [List.length_drop, List.length_take]; rfl) | (simp only [List.drop_one]; done) | (simp only [List.drop_one]; rfl)) ?_; (with_reducible refine (spec_l05Ok.calls k _ _ l0 true _ ?side1 ?side2 A5.out).mono ?_); (case side1 => repeat (first | exact HR0.out | (with_reducible refine Kd.C_alloc ?_ _) | (with_reducible refine Kd.C_drewN ?_ _) | (with_reducible refine Kd.C_drew ?_))); (case side2 => exact HC0.out); rintro e w' ⟨rfl, ⟨nd, rfl⟩⟩; refine ⟨_, rfl, ?_⟩) | (go_at_call 81; (with_reducible refine (spec_l01Ok.calls B1_ O1_ a1 t114 _ ?side1 A7.out).mono ?_); (case side1 => obtain ⟨hz0_, hz1_, hz2_, hz3_, hz4_, hz5_, hz6_⟩ := HQ1_.out; exact ⟨hz0_, hz1_, hz2_, hz3_, hz4_, hz5_, hz6_⟩); rintro e w' ⟨rfl, ⟨nd, rfl⟩⟩))
      go_meet
      case rel => exact ⟨_, (!t114), (by first | rfl | (simp; done) | (simp [*]; done)), H', ⟨by first | omega | exact Nat.le_refl _⟩, by repeat (first | exact Drawn0.refl _ | apply Drawn0.step)⟩
    · replace c6 := Bool.eq_false_iff.mpr c6
      subst c6
      have H1 : (spec_l05Asked.j0 k a2 true) = some r := by rw [if_neg (show ¬ (false = true) by decide)] at H; exact H
      clear H
      have H := H1
      clear H1
      have H' := Aside0.mk H
      clear H
      go_wp2_with (first | ((with_reducible refine gate_callee (f := 67) rfl ?_); refine goesL_ (some 8) rfl rfl Try.func67 (by kernel_rfl) rfl #[.slice A0 l0.length c0] rfl (by (try simp only [List.map_toArray, List.map_cons, List.map_nil]); first | done | rfl | (simp only [List.length_drop, List.length_take]; rfl) | (simp only [List.drop_one]; done) | (simp only [List.drop_one]; rfl)) ?_; (with_reducible refine (spec_l05Ok.calls k _ _ l0 false _ ?side1 ?side2 A5.out).mono ?_); (case side1 => repeat (first | exact HR0.out | (with_reducible refine Kd.C_alloc ?_ _) | (with_reducible refine Kd.C_drewN ?_ _) | (with_reducible refine Kd.C_drew ?_))); (case side2 => exact HC0.out); rintro e w' ⟨rfl, ⟨nd, rfl⟩⟩; refine ⟨_, rfl, ?_⟩))
      go_meet
      case rel => exact ⟨_, (true), (by first | rfl | (simp; done) | (simp [*]; done)), H', ⟨by first | omega | exact Nat.le_refl _⟩, by repeat (first | exact Drawn0.refl _ | apply Drawn0.step)⟩
  case rest =>
    clear HC4
    try clear q1
    try clear p2
    try clear c5
    try clear c6
    obtain ⟨kq, x14_3, rfl, HA, HJ3, ⟨mc3, rfl⟩⟩ := hcut
    cases kq with
    | zero => exact absurd HA.out (by simp [spec_l05Asked.j0])
    | succ kj3 =>
      have H := HA.out
      clear HA
      simp only [spec_l05Asked.j0] at H
      by_cases c8 : x14_3 = true
      · subst c8
        have H1 : (some 1) = some r := by rw [if_pos rfl] at H; exact H
        clear H
        have H := H1
        clear H1
        obtain rfl := Option.some.inj H
        go_wp2
        go_ret
        exact ⟨by first | rfl | (simp; done) | (simp [*]; done), by repeat (first | exact Drawn0.refl _ | apply Drawn0.step)⟩
      · replace c8 := Bool.eq_false_iff.mpr c8
        subst c8
        have H1 : ((spec_l02Places.f a2).bind fun t115 => (if t115 = true then (some 0) else (some 2))) = some r := by rw [if_neg (show ¬ (false = true) by decide)] at H; exact H
        clear H
        have H := H1
        clear H1
        replace H := Option.bind_eq_some_iff.mp H
        obtain ⟨t115, A90, H⟩ := H
        replace H : (if t115 = true then (some 0) else (some 2)) = some r := H
        have A9 := Aside0.mk A90
        clear A90
        by_cases c10 : t115 = true
        · subst c10
          have H1 : (some 0) = some r := by rw [if_pos rfl] at H; exact H
          clear H
          have H := H1
          clear H1
          obtain rfl := Option.some.inj H
          go_wp2_with (first | ((with_reducible refine gate_callee (f := 91) rfl ?_); refine goesL_ (some 16) rfl rfl Try.func91 (by kernel_rfl) rfl #[.int .i64 a2] rfl (by (try simp only [List.map_toArray, List.map_cons, List.map_nil]); first | done | rfl | (simp only [List.length_drop, List.length_take]; rfl) | (simp only [List.drop_one]; done) | (simp only [List.drop_one]; rfl)) ?_; (with_reducible refine (spec_l02Places.calls a2 true _ A9.out).mono ?_); rintro e w' ⟨rfl, ⟨nd, rfl⟩⟩; refine ⟨_, rfl, ?_⟩))
          go_ret
          exact ⟨by first | rfl | (simp; done) | (simp [*]; done), by repeat (first | exact Drawn0.refl _ | apply Drawn0.step)⟩
        · replace c10 := Bool.eq_false_iff.mpr c10
          subst c10
          have H1 : (some 2) = some r := by rw [if_neg (show ¬ (false = true) by decide)] at H; exact H
          clear H
          have H := H1
          clear H1
          obtain rfl := Option.some.inj H
          go_wp2_with (first | ((with_reducible refine gate_callee (f := 91) rfl ?_); refine goesL_ (some 16) rfl rfl Try.func91 (by kernel_rfl) rfl #[.int .i64 a2] rfl (by (try simp only [List.map_toArray, List.map_cons, List.map_nil]); first | done | rfl | (simp only [List.length_drop, List.length_take]; rfl) | (simp only [List.drop_one]; done) | (simp only [List.drop_one]; rfl)) ?_; (with_reducible refine (spec_l02Places.calls a2 false _ A9.out).mono ?_); rintro e w' ⟨rfl, ⟨nd, rfl⟩⟩; refine ⟨_, rfl, ?_⟩))
          go_ret
          exact ⟨by first | rfl | (simp; done) | (simp [*]; done), by repeat (first | exact Drawn0.refl _ | apply Drawn0.step)⟩

/-! ### spec_l01Zero: function 124 -/
def spec_l01Zero.f (a0 : S23) : Option (Bool) := some (a0.f0 == 0 && (a0.f1 == 0 && (a0.f2 == 0 && (a0.f3 == 0 && (a0.f4 == 0 && (a0.f5 == 0))))))
set_option maxHeartbeats 8000000 in
set_option maxRecDepth 100000 in
theorem spec_l01Zero.calls (B0_ O0_ : Nat) (a0 : S23) (r : Bool) (w : World) (hq0_ : w.cell? ⟨B0_, O0_, none⟩ = some (.int .u32 a0.f0) ∧ w.cell? ⟨B0_, O0_ + 1, none⟩ = some (.int .u32 a0.f1) ∧ w.cell? ⟨B0_, O0_ + 2, none⟩ = some (.int .u32 a0.f2) ∧ w.cell? ⟨B0_, O0_ + 3, none⟩ = some (.int .u32 a0.f3) ∧ w.cell? ⟨B0_, O0_ + 4, none⟩ = some (.int .u32 a0.f4) ∧ w.cell? ⟨B0_, O0_ + 5, none⟩ = some (.int .u32 a0.f5)) (h : spec_l01Zero.f a0 = some r) :
    Calls Try.prog 124 #[.pointer (some ⟨B0_, O0_, none⟩)] w fun e w' => e = .returned (.bool r) ∧ Drawn0 w w' := by
  have hu126 := Try.underlying126
  have HQ0_ := Aside0.mk hq0_
  clear hq0_
  have H : (some (a0.f0 == 0 && (a0.f1 == 0 && (a0.f2 == 0 && (a0.f3 == 0 && (a0.f4 == 0 && (a0.f5 == 0))))))) = some r := h
  clear h
  obtain rfl := Option.some.inj H
  obtain ⟨hxr2_0, hxr2_1, hxr2_2, hxr2_3, hxr2_4, hxr2_5⟩ := HQ0_.out
  go_enter Try.func124, Try.ntmps124
  go_wp2
  go_ret
  exact ⟨by first | rfl | (simp; done) | (simp [*]; done), by repeat (first | exact Drawn0.refl _ | apply Drawn0.step)⟩

set_option linter.defProp false

theorem q112x1_ {P : Prop} (h : P := by (with_reducible repeat (first | refine blk_drewN ?_ _ | refine blk_drew ?_ | refine blk_alloc ?_ _)); exact BK116.out) : P := h
theorem q112x2_ {P : Prop} (h : P := by repeat (first | (with_reducible first | exact HB.out | apply below_alloc | apply pw_below_drewN | apply below_drew1 | refine below_set ?_ GE116.out) | exact HB.out)) : P := h
theorem q112x3_ {P : Prop} (h : P := by repeat (first | (with_reducible first | exact HB.out | apply below_alloc | apply pw_below_drewN | apply below_drew1) | exact HB.out)) : P := h
theorem q112x4_ {P : Prop} (h : P := by (with_reducible repeat (first | refine blk_drewN ?_ _ | refine blk_drew ?_ | refine blk_alloc ?_ _)); refine puts7_ (.bool false) (.int .u32 0) (.int .u32 0) (.int .u32 0) (.int .u32 0) (.int .u32 0) (.int .u32 0) ?_; (with_reducible repeat (first | refine blk_drewN ?_ _ | refine blk_drew ?_ | refine blk_alloc ?_ _)); exact BK117.out) : P := h
theorem q112x5_ {P : Prop} (h : P := by rw [hg]; exact Nat.ne_of_lt (blk_lt (g := gb116) (o := .cells #[.int .u32 a1.f0, .int .u32 a1.f1, .int .u32 a1.f2, .int .u32 a1.f3, .int .u32 a1.f4, .int .u32 a1.f5] 126 (0, 0)) q112x1_)) : P := h
theorem q112x6_ {P : Prop} (h : P := by rw [hg]; exact Nat.ne_of_gt (blk_lt (g := gb116) (o := .cells #[.int .u32 a1.f0, .int .u32 a1.f1, .int .u32 a1.f2, .int .u32 a1.f3, .int .u32 a1.f4, .int .u32 a1.f5] 126 (0, 0)) q112x1_)) : P := h
theorem q112x7_ {P : Prop} (h : P := by intro w'; go_simp; with_reducible rfl) : P := h
theorem q112x8_ {P : Prop} (h : P := by simp only [Act.put, List.setIfInBounds_toArray, List.set_cons_zero, List.set_cons_succ, i64_w, i32_w]; rfl) : P := h
def wlm (m : Nat) : S23 := ⟨((Wide.lb m 0 : Nat) : Int), ((Wide.lb m 1 : Nat) : Int), ((Wide.lb m 2 : Nat) : Int), ((Wide.lb m 3 : Nat) : Int), ((Wide.lb m 4 : Nat) : Int), ((Wide.lb m 5 : Nat) : Int)⟩
/-- A number as its sign and limbs; and the number read back (none where it is no such thing). -/
def wenc (z : Int) : S24 := ⟨decide (z < 0), wlm z.natAbs⟩
def wval (s : S24) : Int := if s.f0 = true then -(s.f1.f0 + 4294967296 * (s.f1.f1 + 4294967296 * (s.f1.f2 + 4294967296 * (s.f1.f3 + 4294967296 * (s.f1.f4 + 4294967296 * s.f1.f5))))) else s.f1.f0 + 4294967296 * (s.f1.f1 + 4294967296 * (s.f1.f2 + 4294967296 * (s.f1.f3 + 4294967296 * (s.f1.f4 + 4294967296 * s.f1.f5))))
def mval (s : S23) : Nat := (s.f0 + 4294967296 * (s.f1 + 4294967296 * (s.f2 + 4294967296 * (s.f3 + 4294967296 * (s.f4 + 4294967296 * s.f5))))).toNat
def mun (s : S23) : Option Nat := if (s.f0 = (wlm (mval s)).f0 ∧ s.f1 = (wlm (mval s)).f1 ∧ s.f2 = (wlm (mval s)).f2 ∧ s.f3 = (wlm (mval s)).f3 ∧ s.f4 = (wlm (mval s)).f4 ∧ s.f5 = (wlm (mval s)).f5) ∧ mval s < 4294967296 ^ 6 then some (mval s) else none
theorem mag_ext {s r : S23} (h : s.f0 = r.f0 ∧ s.f1 = r.f1 ∧ s.f2 = r.f2 ∧ s.f3 = r.f3 ∧ s.f4 = r.f4 ∧ s.f5 = r.f5) : s = r := by
  obtain ⟨b, c, d, e, f, g⟩ := s
  obtain ⟨b', c', d', e', f', g'⟩ := r
  obtain ⟨rfl, rfl, rfl, rfl, rfl, rfl⟩ := h
  rfl
theorem mun_some {s : S23} {x : Nat} (h : mun s = some x) : s = wlm x ∧ x < 4294967296 ^ 6 := by
  unfold mun at h
  split at h
  · rename_i c
    obtain rfl := Option.some.inj h
    exact ⟨mag_ext c.1, c.2⟩
  · exact absurd h (by simp)
def wun (s : S24) : Option Int := if (s.f0 = (wenc (wval s)).f0 ∧ s.f1.f0 = (wenc (wval s)).f1.f0 ∧ s.f1.f1 = (wenc (wval s)).f1.f1 ∧ s.f1.f2 = (wenc (wval s)).f1.f2 ∧ s.f1.f3 = (wenc (wval s)).f1.f3 ∧ s.f1.f4 = (wenc (wval s)).f1.f4 ∧ s.f1.f5 = (wenc (wval s)).f1.f5) ∧ (wval s).natAbs < 4294967296 ^ 6 then some (wval s) else none
theorem wide_ext {s r : S24} (h : s.f0 = r.f0 ∧ s.f1.f0 = r.f1.f0 ∧ s.f1.f1 = r.f1.f1 ∧ s.f1.f2 = r.f1.f2 ∧ s.f1.f3 = r.f1.f3 ∧ s.f1.f4 = r.f1.f4 ∧ s.f1.f5 = r.f1.f5) : s = r := by
  obtain ⟨a, ⟨b, c, d, e, f, g⟩⟩ := s
  obtain ⟨a', ⟨b', c', d', e', f', g'⟩⟩ := r
  obtain ⟨rfl, rfl, rfl, rfl, rfl, rfl, rfl⟩ := h
  rfl
theorem wun_some {s : S24} {x : Int} (h : wun s = some x) : s = wenc x ∧ x.natAbs < 4294967296 ^ 6 := by
  unfold wun at h
  split at h
  · rename_i c
    obtain rfl := Option.some.inj h
    exact ⟨wide_ext c.1, c.2⟩
  · exact absurd h (by simp)
theorem wun2 {α : Type} {a b : S24} {f : Int → Int → Option α} {r : α} (h : ((wun a).bind fun x => (wun b).bind fun y => f x y) = some r) : ∃ x y, a = wenc x ∧ b = wenc y ∧ x.natAbs < 4294967296 ^ 6 ∧ y.natAbs < 4294967296 ^ 6 ∧ f x y = some r := by
  obtain ⟨x, hx, h⟩ := Option.bind_eq_some_iff.mp h
  obtain ⟨y, hy, h⟩ := Option.bind_eq_some_iff.mp h
  exact ⟨x, y, (wun_some hx).1, (wun_some hy).1, (wun_some hx).2, (wun_some hy).2, h⟩
/-! ### spec_l01Made: function 112 -/
def spec_l01Made.f (a0 : Bool) (a1 : S23) : Option (S24) := (mun a1).bind fun m => some ⟨a0 && !(Wide.zN m), wlm m⟩
theorem spec_l01Made.calls (a0 : Bool) (a1 : S23) (r : S24) (w : World) (h : spec_l01Made.f a0 a1 = some r) :
  Calls Try.prog 112 #[.bool a0, .agg #[.int .u32 a1.f0, .int .u32 a1.f1, .int .u32 a1.f2, .int .u32 a1.f3, .int .u32 a1.f4, .int .u32 a1.f5]] w fun e w' => e = .returned (.agg #[.bool r.f0, .int .u32 r.f1.f0, .int .u32 r.f1.f1, .int .u32 r.f1.f2, .int .u32 r.f1.f3, .int .u32 r.f1.f4, .int .u32 r.f1.f5]) ∧ Below w.heap.size w w' := by
 obtain ⟨m, hm, e⟩ := Option.bind_eq_some_iff.mp h
 obtain ⟨rfl, hx⟩ := mun_some hm
 obtain rfl := Option.some.inj e
 exact Wide.sMade w a0 m hx


set_option linter.defProp false
def kA82_ := @blk_alloc
def kN82_ := @blk_drewN
def kD82_ := @blk_drew
def bS82_ := @below_set
def aM82_ := @Aside0.mk
def kC82_ := @blk_cell
theorem q82x1_ {P : Prop} (h : P := by repeat (first | (with_reducible first | exact HB.out | apply below_alloc | apply pw_below_drewN | apply below_drew1 | refine bS82_ ?_ GE119.out | refine bS82_ ?_ GE120.out | refine bS82_ ?_ GE121.out | refine bS82_ ?_ GE122.out | refine bS82_ ?_ GE128.out) | exact HB.out)) : P := h
theorem q82x2_ {P : Prop} (h : P := by (with_reducible repeat (first | refine kN82_ ?_ _ | refine kD82_ ?_ | refine kA82_ ?_ _)); exact BK119.out) : P := h
theorem q82x3_ {P : Prop} (h : P := by first | (with_reducible assumption) | assumption) : P := h
theorem q82x4_ {P : Prop} (h : P := by repeat (first | (with_reducible first | exact HB.out | apply below_alloc | apply pw_below_drewN | apply below_drew1 | refine bS82_ ?_ GE119.out | refine bS82_ ?_ GE120.out | refine bS82_ ?_ GE121.out | refine bS82_ ?_ GE122.out) | exact HB.out)) : P := h
theorem q82x5_ {P : Prop} (h : P := by (rcases (show x12_2 = 0 ∨ x12_2 = 1 ∨ x12_2 = 2 ∨ x12_2 = 3 ∨ x12_2 = 4 ∨ x12_2 = 5 from (by have h_ := HP130.out; omega)) with rfl | rfl | rfl | rfl | rfl | rfl <;> first | exact (kC82_ BK128.out 0).trans rfl | exact (kC82_ BK128.out 1).trans rfl | exact (kC82_ BK128.out 2).trans rfl | exact (kC82_ BK128.out 3).trans rfl | exact (kC82_ BK128.out 4).trans rfl | exact (kC82_ BK128.out 5).trans rfl)) : P := h
theorem q82x6_ {P : Prop} (h : P := by (with_reducible repeat (first | refine kN82_ ?_ _ | refine kD82_ ?_ | refine kA82_ ?_ _)); exact BK120.out) : P := h
theorem q82x7_ {P : Prop} (h : P := by (with_reducible repeat (first | refine kN82_ ?_ _ | refine kD82_ ?_ | refine kA82_ ?_ _)); exact BK121.out) : P := h
theorem q82x8_ {P : Prop} (h : P := by (rcases (show (ji30) = 0 ∨ (ji30) = 1 ∨ (ji30) = 2 ∨ (ji30) = 3 ∨ (ji30) = 4 ∨ (ji30) = 5 ∨ (ji30) = 6 ∨ (ji30) = 7 ∨ (ji30) = 8 ∨ (ji30) = 9 ∨ (ji30) = 10 ∨ (ji30) = 11 from (by have h_ := HP127.out; omega)) with rfl | rfl | rfl | rfl | rfl | rfl | rfl | rfl | rfl | rfl | rfl | rfl <;> first | exact (kC82_ BK122.out 0).trans rfl | exact (kC82_ BK122.out 1).trans rfl | exact (kC82_ BK122.out 2).trans rfl | exact (kC82_ BK122.out 3).trans rfl | exact (kC82_ BK122.out 4).trans rfl | exact (kC82_ BK122.out 5).trans rfl | exact (kC82_ BK122.out 6).trans rfl | exact (kC82_ BK122.out 7).trans rfl | exact (kC82_ BK122.out 8).trans rfl | exact (kC82_ BK122.out 9).trans rfl | exact (kC82_ BK122.out 10).trans rfl | exact (kC82_ BK122.out 11).trans rfl)) : P := h
theorem q82x9_ {P : Prop} (h : P := by (rcases (show (ji17) = 0 ∨ (ji17) = 1 ∨ (ji17) = 2 ∨ (ji17) = 3 ∨ (ji17) = 4 ∨ (ji17) = 5 ∨ (ji17) = 6 ∨ (ji17) = 7 ∨ (ji17) = 8 ∨ (ji17) = 9 ∨ (ji17) = 10 ∨ (ji17) = 11 from (by have h_ := HP126.out; omega)) with rfl | rfl | rfl | rfl | rfl | rfl | rfl | rfl | rfl | rfl | rfl | rfl <;> first | exact (kC82_ BK122.out 0).trans rfl | exact (kC82_ BK122.out 1).trans rfl | exact (kC82_ BK122.out 2).trans rfl | exact (kC82_ BK122.out 3).trans rfl | exact (kC82_ BK122.out 4).trans rfl | exact (kC82_ BK122.out 5).trans rfl | exact (kC82_ BK122.out 6).trans rfl | exact (kC82_ BK122.out 7).trans rfl | exact (kC82_ BK122.out 8).trans rfl | exact (kC82_ BK122.out 9).trans rfl | exact (kC82_ BK122.out 10).trans rfl | exact (kC82_ BK122.out 11).trans rfl)) : P := h
theorem q82x10_ {P : Prop} (h : P := by (rcases (show (ji48) = 0 ∨ (ji48) = 1 ∨ (ji48) = 2 ∨ (ji48) = 3 ∨ (ji48) = 4 ∨ (ji48) = 5 ∨ (ji48) = 6 ∨ (ji48) = 7 ∨ (ji48) = 8 ∨ (ji48) = 9 ∨ (ji48) = 10 ∨ (ji48) = 11 from (by have h_ := HP131.out; omega)) with rfl | rfl | rfl | rfl | rfl | rfl | rfl | rfl | rfl | rfl | rfl | rfl <;> first | exact (kC82_ BK122.out 0).trans rfl | exact (kC82_ BK122.out 1).trans rfl | exact (kC82_ BK122.out 2).trans rfl | exact (kC82_ BK122.out 3).trans rfl | exact (kC82_ BK122.out 4).trans rfl | exact (kC82_ BK122.out 5).trans rfl | exact (kC82_ BK122.out 6).trans rfl | exact (kC82_ BK122.out 7).trans rfl | exact (kC82_ BK122.out 8).trans rfl | exact (kC82_ BK122.out 9).trans rfl | exact (kC82_ BK122.out 10).trans rfl | exact (kC82_ BK122.out 11).trans rfl)) : P := h
theorem q82x11_ {P : Prop} (h : P := by (rcases (show x12_2 = 0 ∨ x12_2 = 1 ∨ x12_2 = 2 ∨ x12_2 = 3 ∨ x12_2 = 4 ∨ x12_2 = 5 ∨ x12_2 = 6 ∨ x12_2 = 7 ∨ x12_2 = 8 ∨ x12_2 = 9 ∨ x12_2 = 10 ∨ x12_2 = 11 from (by have h_ := HP129.out; omega)) with rfl | rfl | rfl | rfl | rfl | rfl | rfl | rfl | rfl | rfl | rfl | rfl <;> first | exact (kC82_ BK122.out 0).trans rfl | exact (kC82_ BK122.out 1).trans rfl | exact (kC82_ BK122.out 2).trans rfl | exact (kC82_ BK122.out 3).trans rfl | exact (kC82_ BK122.out 4).trans rfl | exact (kC82_ BK122.out 5).trans rfl | exact (kC82_ BK122.out 6).trans rfl | exact (kC82_ BK122.out 7).trans rfl | exact (kC82_ BK122.out 8).trans rfl | exact (kC82_ BK122.out 9).trans rfl | exact (kC82_ BK122.out 10).trans rfl | exact (kC82_ BK122.out 11).trans rfl)) : P := h
theorem q82x12_ {P : Prop} (h : P := by rw [hg]; exact Nat.ne_of_lt (blk_lt (g := gb119) (o := .cells #[.bool a0.f0, .int .u32 a0.f1.f0, .int .u32 a0.f1.f1, .int .u32 a0.f1.f2, .int .u32 a0.f1.f3, .int .u32 a0.f1.f4, .int .u32 a0.f1.f5] 25 (0, 0)) q82x2_)) : P := h
theorem q82x13_ {P : Prop} (h : P := by rw [hg]; exact Nat.ne_of_gt (blk_lt (g := gb119) (o := .cells #[.bool a0.f0, .int .u32 a0.f1.f0, .int .u32 a0.f1.f1, .int .u32 a0.f1.f2, .int .u32 a0.f1.f3, .int .u32 a0.f1.f4, .int .u32 a0.f1.f5] 25 (0, 0)) q82x2_)) : P := h
theorem q82x14_ {P : Prop} (h : P := by rw [hw]; exact (by (with_reducible repeat (first | refine kN82_ ?_ _ | refine kD82_ ?_ | refine kA82_ ?_ _)); refine blk_put (cs := #[.int .u32 x129000_2.f0, .int .u32 x129000_2.f1, .int .u32 x129000_2.f2, .int .u32 x129000_2.f3, .int .u32 x129000_2.f4, .int .u32 x129000_2.f5]) ?_ ((x12_2 : Int).toNat) _ (by rcases (show x12_2 = 0 ∨ x12_2 = 1 ∨ x12_2 = 2 ∨ x12_2 = 3 ∨ x12_2 = 4 ∨ x12_2 = 5 from (by have h_ := HP130.out; omega)) with rfl | rfl | rfl | rfl | rfl | rfl <;> rfl); (with_reducible repeat (first | refine kN82_ ?_ _ | refine kD82_ ?_ | refine kA82_ ?_ _)); exact BK128.out)) : P := h
theorem q82x15_ {P : Prop} (h : P := by rw [hw]; exact (by (with_reducible repeat (first | refine kN82_ ?_ _ | refine kD82_ ?_ | refine kA82_ ?_ _ | refine blk_far ?_ NB119_122.out _)); (with_reducible repeat (first | refine kN82_ ?_ _ | refine kD82_ ?_ | refine kA82_ ?_ _)); exact BK119.out)) : P := h
theorem q82x16_ {P : Prop} (h : P := by rw [hw]; exact (by (with_reducible repeat (first | refine kN82_ ?_ _ | refine kD82_ ?_ | refine kA82_ ?_ _ | refine blk_far ?_ NB120_122.out _)); (with_reducible repeat (first | refine kN82_ ?_ _ | refine kD82_ ?_ | refine kA82_ ?_ _)); exact BK120.out)) : P := h
theorem q82x17_ {P : Prop} (h : P := by rw [hw]; exact (by (with_reducible repeat (first | refine kN82_ ?_ _ | refine kD82_ ?_ | refine kA82_ ?_ _ | refine blk_far ?_ NB121_122.out _)); (with_reducible repeat (first | refine kN82_ ?_ _ | refine kD82_ ?_ | refine kA82_ ?_ _)); exact BK121.out)) : P := h
theorem q82x18_ {P : Prop} (h : P := by rw [hw]; exact (by (with_reducible repeat (first | refine kN82_ ?_ _ | refine kD82_ ?_ | refine kA82_ ?_ _ | refine blk_far ?_ NB119_128.out _)); (with_reducible repeat (first | refine kN82_ ?_ _ | refine kD82_ ?_ | refine kA82_ ?_ _)); exact BK119.out)) : P := h
theorem q82x19_ {P : Prop} (h : P := by rw [hw]; exact (by (with_reducible repeat (first | refine kN82_ ?_ _ | refine kD82_ ?_ | refine kA82_ ?_ _ | refine blk_far ?_ NB120_128.out _)); (with_reducible repeat (first | refine kN82_ ?_ _ | refine kD82_ ?_ | refine kA82_ ?_ _)); exact BK120.out)) : P := h
theorem q82x20_ {P : Prop} (h : P := by rw [hw]; exact (by (with_reducible repeat (first | refine kN82_ ?_ _ | refine kD82_ ?_ | refine kA82_ ?_ _ | refine blk_far ?_ NB121_128.out _)); (with_reducible repeat (first | refine kN82_ ?_ _ | refine kD82_ ?_ | refine kA82_ ?_ _)); exact BK121.out)) : P := h
theorem q82x21_ {P : Prop} (h : P := by rw [hw]; exact (by (with_reducible repeat (first | refine kN82_ ?_ _ | refine kD82_ ?_ | refine kA82_ ?_ _ | refine blk_far ?_ NB122_128.out _)); (with_reducible repeat (first | refine kN82_ ?_ _ | refine kD82_ ?_ | refine kA82_ ?_ _)); exact BK122.out)) : P := h
theorem q82x22_ {P : Prop} (h : P := by repeat (first | (with_reducible first | exact HB.out | apply below_alloc | apply pw_below_drewN | apply below_drew1 | refine bS82_ ?_ GE119.out | refine bS82_ ?_ GE120.out | refine bS82_ ?_ GE121.out) | exact HB.out)) : P := h
theorem q82x23_ {P : Prop} (h : P := by rw [hw]; exact (by (with_reducible repeat (first | refine kN82_ ?_ _ | refine kD82_ ?_ | refine kA82_ ?_ _)); refine puts7_ (.bool x122000_2.f0) (.int .u32 x122000_2.f1.f0) (.int .u32 x122000_2.f1.f1) (.int .u32 x122000_2.f1.f2) (.int .u32 x122000_2.f1.f3) (.int .u32 x122000_2.f1.f4) (.int .u32 x122000_2.f1.f5) ?_; (with_reducible repeat (first | refine kN82_ ?_ _ | refine kD82_ ?_ | refine kA82_ ?_ _)); exact BK121.out)) : P := h
theorem q82x24_ {P : Prop} (h : P := by rw [hg]; exact Nat.ne_of_lt (blk_lt (g := gb120) (o := .cells #[.bool a1.f0, .int .u32 a1.f1.f0, .int .u32 a1.f1.f1, .int .u32 a1.f1.f2, .int .u32 a1.f1.f3, .int .u32 a1.f1.f4, .int .u32 a1.f1.f5] 25 (0, 0)) q82x6_)) : P := h
theorem q82x25_ {P : Prop} (h : P := by rw [hg]; exact Nat.ne_of_gt (blk_lt (g := gb120) (o := .cells #[.bool a1.f0, .int .u32 a1.f1.f0, .int .u32 a1.f1.f1, .int .u32 a1.f1.f2, .int .u32 a1.f1.f3, .int .u32 a1.f1.f4, .int .u32 a1.f1.f5] 25 (0, 0)) q82x6_)) : P := h
theorem q82x26_ {P : Prop} (h : P := by repeat (first | (with_reducible first | exact HB.out | apply below_alloc | apply pw_below_drewN | apply below_drew1 | refine bS82_ ?_ GE119.out | refine bS82_ ?_ GE120.out) | exact HB.out)) : P := h
theorem q82x27_ {P : Prop} (h : P := by (with_reducible repeat (first | refine kN82_ ?_ _ | refine kD82_ ?_ | refine kA82_ ?_ _)); exact BK122.out) : P := h
theorem q82x28_ {P : Prop} (h : P := by repeat (first | (with_reducible first | exact HB.out | apply below_alloc | apply pw_below_drewN | apply below_drew1 | refine bS82_ ?_ GE119.out) | exact HB.out)) : P := h
theorem q82x29_ {P : Prop} (h : P := by rw [hw]; exact (by (with_reducible repeat (first | refine kN82_ ?_ _ | refine kD82_ ?_ | refine kA82_ ?_ _ | refine blk_far ?_ NB119_121.out _)); (with_reducible repeat (first | refine kN82_ ?_ _ | refine kD82_ ?_ | refine kA82_ ?_ _)); exact BK119.out)) : P := h
theorem q82x30_ {P : Prop} (h : P := by rw [hw]; exact (by (with_reducible repeat (first | refine kN82_ ?_ _ | refine kD82_ ?_ | refine kA82_ ?_ _ | refine blk_far ?_ NB120_121.out _)); (with_reducible repeat (first | refine kN82_ ?_ _ | refine kD82_ ?_ | refine kA82_ ?_ _)); exact BK120.out)) : P := h
theorem q82x31_ {P : Prop} (h : P := by rw [hw]; exact (by (with_reducible repeat (first | refine kN82_ ?_ _ | refine kD82_ ?_ | refine kA82_ ?_ _ | refine blk_far ?_ NB122_121.out _)); (with_reducible repeat (first | refine kN82_ ?_ _ | refine kD82_ ?_ | refine kA82_ ?_ _)); exact BK122.out)) : P := h
theorem q82x32_ {P : Prop} (h : P := by rw [hw]; exact (by (with_reducible repeat (first | refine kN82_ ?_ _ | refine kD82_ ?_ | refine kA82_ ?_ _ | refine blk_far ?_ NB128_121.out _)); (with_reducible repeat (first | refine kN82_ ?_ _ | refine kD82_ ?_ | refine kA82_ ?_ _)); exact BK128.out)) : P := h
theorem q82x33_ {P : Prop} (h : P := by first | rfl | (simp; done) | (simp [*]; done)) : P := h
theorem q82x34_ {P : Prop} (h : P := by repeat (first | (with_reducible first | exact HB.out | apply below_alloc | apply pw_below_drewN | apply below_drew1) | exact HB.out)) : P := h
theorem q82x35_ {P : Prop} (h : P := by rw [hg]; exact Nat.ne_of_lt (blk_lt (g := gb121) (o := .cells #[.bool false, .int .u32 0, .int .u32 0, .int .u32 0, .int .u32 0, .int .u32 0, .int .u32 0] 25 (0, 0)) q82x7_)) : P := h
theorem q82x36_ {P : Prop} (h : P := by rw [hg]; exact Nat.ne_of_gt (blk_lt (g := gb121) (o := .cells #[.bool false, .int .u32 0, .int .u32 0, .int .u32 0, .int .u32 0, .int .u32 0, .int .u32 0] 25 (0, 0)) q82x7_)) : P := h
/-! ### spec_l01Mul: function 82 -/
def spec_l01Mul.f (k : Nat) (a0 : S24) (a1 : S24) : Option (S24 × Int) := (wun a0).bind fun x => (wun a1).bind fun y => some (wenc (Wide.fitZ (x * y)), Wide.fitC (x * y).natAbs)
theorem spec_l01Mul.mono : ∀ a0 a1 k, LeO (spec_l01Mul.f k a0 a1) (spec_l01Mul.f (k + 1) a0 a1) := by
 intros
 exact LeO.refl _
theorem spec_l01Mul.calls (k : Nat) (a0 : S24) (a1 : S24) (r1 : S24) (r2 : Int) (w : World) (h : spec_l01Mul.f k a0 a1 = some (r1, r2)) :
  Calls Try.prog 82 #[.agg #[.bool a0.f0, .int .u32 a0.f1.f0, .int .u32 a0.f1.f1, .int .u32 a0.f1.f2, .int .u32 a0.f1.f3, .int .u32 a0.f1.f4, .int .u32 a0.f1.f5], .agg #[.bool a1.f0, .int .u32 a1.f1.f0, .int .u32 a1.f1.f1, .int .u32 a1.f1.f2, .int .u32 a1.f1.f3, .int .u32 a1.f1.f4, .int .u32 a1.f1.f5]] w fun e w' => e = .returned (.tuple #[.agg #[.bool r1.f0, .int .u32 r1.f1.f0, .int .u32 r1.f1.f1, .int .u32 r1.f1.f2, .int .u32 r1.f1.f3, .int .u32 r1.f1.f4, .int .u32 r1.f1.f5], .int .i64 r2]) ∧ Below w.heap.size w w' := by
 obtain ⟨x, y, rfl, rfl, hx, hy, e⟩ := wun2 h
 obtain ⟨rfl, rfl⟩ := Prod.mk.inj (Option.some.inj e)
 exact Wide.sMulV w x y hx hy





set_option linter.defProp false
def kA84_ := @blk_alloc
def kN84_ := @blk_drewN
def kD84_ := @blk_drew
def bS84_ := @below_set
def aM84_ := @Aside0.mk
def kB84_ := @blk_below
def kC84_ := @blk_cell
theorem q84x1_ {P : Prop} (h : P := by (with_reducible repeat (first | refine kN84_ ?_ _ | refine kD84_ ?_ | refine kA84_ ?_ _)); exact BK148.out) : P := h
theorem q84x2_ {P : Prop} (h : P := by (with_reducible repeat (first | refine kN84_ ?_ _ | refine kD84_ ?_ | refine kA84_ ?_ _)); exact BK151.out) : P := h
theorem q84x3_ {P : Prop} (h : P := by (with_reducible repeat (first | refine kN84_ ?_ _ | refine kD84_ ?_ | refine kA84_ ?_ _)); exact BK149.out) : P := h
theorem q84x4_ {P : Prop} (h : P := by (with_reducible repeat (first | refine kN84_ ?_ _ | refine kD84_ ?_ | refine kA84_ ?_ _)); exact BK152.out) : P := h
theorem q84x5_ {P : Prop} (h : P := by repeat (first | (with_reducible first | exact HB.out | apply below_alloc | apply pw_below_drewN | apply below_drew1 | refine bS84_ ?_ GE148.out | refine bS84_ ?_ GE149.out | refine bS84_ ?_ GE150.out | refine bS84_ ?_ GE151.out | refine bS84_ ?_ GE152.out) | exact HB.out)) : P := h
theorem q84x6_ {P : Prop} (h : P := by (with_reducible repeat (first | refine kN84_ ?_ _ | refine kD84_ ?_ | refine kA84_ ?_ _)); exact BK150.out) : P := h
theorem q84x7_ {P : Prop} (h : P := by repeat (first | (with_reducible first | exact HB.out | apply below_alloc | apply pw_below_drewN | apply below_drew1 | refine bS84_ ?_ GE148.out | refine bS84_ ?_ GE149.out | refine bS84_ ?_ GE150.out | refine bS84_ ?_ GE151.out) | exact HB.out)) : P := h
theorem q84x8_ {P : Prop} (h : P := by rw [hg]; exact Nat.ne_of_lt (blk_lt (g := gb148) (o := .cells #[.bool a0.f0, .int .u32 a0.f1.f0, .int .u32 a0.f1.f1, .int .u32 a0.f1.f2, .int .u32 a0.f1.f3, .int .u32 a0.f1.f4, .int .u32 a0.f1.f5] 25 (0, 0)) q84x1_)) : P := h
theorem q84x9_ {P : Prop} (h : P := by rw [hg]; exact Nat.ne_of_gt (blk_lt (g := gb148) (o := .cells #[.bool a0.f0, .int .u32 a0.f1.f0, .int .u32 a0.f1.f1, .int .u32 a0.f1.f2, .int .u32 a0.f1.f3, .int .u32 a0.f1.f4, .int .u32 a0.f1.f5] 25 (0, 0)) q84x1_)) : P := h
theorem q84x10_ {P : Prop} (h : P := by rw [hg]; exact Nat.ne_of_lt (blk_lt (g := gb149) (o := .cells #[.bool a1.f0, .int .u32 a1.f1.f0, .int .u32 a1.f1.f1, .int .u32 a1.f1.f2, .int .u32 a1.f1.f3, .int .u32 a1.f1.f4, .int .u32 a1.f1.f5] 25 (0, 0)) q84x3_)) : P := h
theorem q84x11_ {P : Prop} (h : P := by rw [hg]; exact Nat.ne_of_gt (blk_lt (g := gb149) (o := .cells #[.bool a1.f0, .int .u32 a1.f1.f0, .int .u32 a1.f1.f1, .int .u32 a1.f1.f2, .int .u32 a1.f1.f3, .int .u32 a1.f1.f4, .int .u32 a1.f1.f5] 25 (0, 0)) q84x3_)) : P := h
theorem q84x12_ {P : Prop} (h : P := by repeat (first | (with_reducible first | exact HB.out | apply below_alloc | apply pw_below_drewN | apply below_drew1 | refine bS84_ ?_ GE148.out | refine bS84_ ?_ GE149.out | refine bS84_ ?_ GE150.out) | exact HB.out)) : P := h
theorem q84x13_ {P : Prop} (h : P := by repeat (first | (with_reducible first | exact HB.out | apply below_alloc | apply pw_below_drewN | apply below_drew1 | refine bS84_ ?_ GE148.out | refine bS84_ ?_ GE149.out) | exact HB.out)) : P := h
theorem q84x14_ {P : Prop} (h : P := by repeat (first | (with_reducible first | exact HB.out | apply below_alloc | apply pw_below_drewN | apply below_drew1 | refine bS84_ ?_ GE148.out) | exact HB.out)) : P := h
theorem q84x15_ {P : Prop} (h : P := by (try simp only [List.map_toArray, List.map_cons, List.map_nil]); first | done | rfl | (simp only [List.length_drop, List.length_take]; rfl) | (simp only [List.drop_one]; done) | (simp only [List.drop_one]; rfl)) : P := h
theorem q84x16_ {P : Prop} (h : P := by rw [hg]; exact Nat.ne_of_lt (blk_lt (g := gb150) (o := .cells #[.bool false, .int .u32 0, .int .u32 0, .int .u32 0, .int .u32 0, .int .u32 0, .int .u32 0] 25 (0, 0)) q84x6_)) : P := h
theorem q84x17_ {P : Prop} (h : P := by rw [hg]; exact Nat.ne_of_gt (blk_lt (g := gb150) (o := .cells #[.bool false, .int .u32 0, .int .u32 0, .int .u32 0, .int .u32 0, .int .u32 0, .int .u32 0] 25 (0, 0)) q84x6_)) : P := h
theorem q84x18_ {P : Prop} (h : P := by repeat (first | (with_reducible first | exact HB.out | apply below_alloc | apply pw_below_drewN | apply below_drew1) | exact HB.out)) : P := h
theorem q84x19_ {P : Prop} (h : P := by repeat (first | (with_reducible first | exact HB.out | apply below_alloc | apply pw_below_drewN | apply below_drew1 | refine bS84_ ?_ GE148.out | refine bS84_ ?_ GE149.out | refine bS84_ ?_ GE150.out | refine bS84_ ?_ GE151.out | refine bS84_ ?_ GE152.out | refine bS84_ ?_ GE155.out) | exact HB.out)) : P := h
theorem q84x20_ {P : Prop} (h : P := by rw [hg]; exact Nat.ne_of_lt (blk_lt (g := gb151) (o := .cells #[.int .u32 a0.f1.f0, .int .u32 a0.f1.f1, .int .u32 a0.f1.f2, .int .u32 a0.f1.f3, .int .u32 a0.f1.f4, .int .u32 a0.f1.f5] 126 (0, 0)) q84x2_)) : P := h
theorem q84x21_ {P : Prop} (h : P := by rw [hg]; exact Nat.ne_of_gt (blk_lt (g := gb151) (o := .cells #[.int .u32 a0.f1.f0, .int .u32 a0.f1.f1, .int .u32 a0.f1.f2, .int .u32 a0.f1.f3, .int .u32 a0.f1.f4, .int .u32 a0.f1.f5] 126 (0, 0)) q84x2_)) : P := h
theorem q84x22_ {P : Prop} (h : P := by rw [hw]; exact (by (with_reducible repeat (first | refine kN84_ ?_ _ | refine kD84_ ?_ | refine kA84_ ?_ _)); refine puts6_ (.int .u32 0) (.int .u32 0) (.int .u32 0) (.int .u32 0) (.int .u32 0) (.int .u32 0) ?_; (with_reducible repeat (first | refine kN84_ ?_ _ | refine kD84_ ?_ | refine kA84_ ?_ _)); exact BK151.out)) : P := h
theorem q84x23_ {P : Prop} (h : P := by rw [hw]; exact (by (with_reducible repeat (first | refine kN84_ ?_ _ | refine kD84_ ?_ | refine kA84_ ?_ _)); refine puts6_ (.int .u32 0) (.int .u32 0) (.int .u32 0) (.int .u32 0) (.int .u32 0) (.int .u32 0) ?_; (with_reducible repeat (first | refine kN84_ ?_ _ | refine kD84_ ?_ | refine kA84_ ?_ _)); exact BK152.out)) : P := h
theorem q84x24_ {P : Prop} (h : P := by (with_reducible repeat (first | refine kN84_ ?_ _ | refine kD84_ ?_ | refine kA84_ ?_ _)); refine puts7_ (.bool false) (.int .u32 0) (.int .u32 0) (.int .u32 0) (.int .u32 0) (.int .u32 0) (.int .u32 0) ?_; (with_reducible repeat (first | refine kN84_ ?_ _ | refine kD84_ ?_ | refine kA84_ ?_ _)); exact BK150.out) : P := h
theorem q84x25_ {P : Prop} (h : P := by rw [hw]; exact (by (with_reducible repeat (first | refine kN84_ ?_ _ | refine kD84_ ?_ | refine kA84_ ?_ _ | refine blk_far ?_ NB148_151.out _)); (with_reducible repeat (first | refine kN84_ ?_ _ | refine kD84_ ?_ | refine kA84_ ?_ _)); exact BK148.out)) : P := h
theorem q84x26_ {P : Prop} (h : P := by rw [hw]; exact (by (with_reducible repeat (first | refine kN84_ ?_ _ | refine kD84_ ?_ | refine kA84_ ?_ _ | refine blk_far ?_ NB149_151.out _)); (with_reducible repeat (first | refine kN84_ ?_ _ | refine kD84_ ?_ | refine kA84_ ?_ _)); exact BK149.out)) : P := h
theorem q84x27_ {P : Prop} (h : P := by rw [hw]; exact (by (with_reducible repeat (first | refine kN84_ ?_ _ | refine kD84_ ?_ | refine kA84_ ?_ _ | refine blk_far ?_ NB150_151.out _)); (with_reducible repeat (first | refine kN84_ ?_ _ | refine kD84_ ?_ | refine kA84_ ?_ _)); exact BK150.out)) : P := h
theorem q84x28_ {P : Prop} (h : P := by rw [hw]; exact (by (with_reducible repeat (first | refine kN84_ ?_ _ | refine kD84_ ?_ | refine kA84_ ?_ _ | refine blk_far ?_ NB148_152.out _)); (with_reducible repeat (first | refine kN84_ ?_ _ | refine kD84_ ?_ | refine kA84_ ?_ _)); exact BK148.out)) : P := h
theorem q84x29_ {P : Prop} (h : P := by rw [hw]; exact (by (with_reducible repeat (first | refine kN84_ ?_ _ | refine kD84_ ?_ | refine kA84_ ?_ _ | refine blk_far ?_ NB149_152.out _)); (with_reducible repeat (first | refine kN84_ ?_ _ | refine kD84_ ?_ | refine kA84_ ?_ _)); exact BK149.out)) : P := h
theorem q84x30_ {P : Prop} (h : P := by rw [hw]; exact (by (with_reducible repeat (first | refine kN84_ ?_ _ | refine kD84_ ?_ | refine kA84_ ?_ _ | refine blk_far ?_ NB150_152.out _)); (with_reducible repeat (first | refine kN84_ ?_ _ | refine kD84_ ?_ | refine kA84_ ?_ _)); exact BK150.out)) : P := h
theorem q84x31_ {P : Prop} (h : P := by rw [hw]; exact (by (with_reducible repeat (first | refine kN84_ ?_ _ | refine kD84_ ?_ | refine kA84_ ?_ _ | refine blk_far ?_ NB151_152.out _)); (with_reducible repeat (first | refine kN84_ ?_ _ | refine kD84_ ?_ | refine kA84_ ?_ _)); exact BK151.out)) : P := h
theorem q84x32_ {P : Prop} (h : P := by rw [hw]; exact (by (with_reducible repeat (first | refine kN84_ ?_ _ | refine kD84_ ?_ | refine kA84_ ?_ _)); refine puts6_ (.int .u32 0) (.int .u32 0) (.int .u32 0) (.int .u32 0) (.int .u32 0) (.int .u32 0) ?_; (with_reducible repeat (first | refine kN84_ ?_ _ | refine kD84_ ?_ | refine kA84_ ?_ _)); exact BK155.out)) : P := h
theorem q84x33_ {P : Prop} (h : P := by rw [hw]; exact (by (with_reducible repeat (first | refine kN84_ ?_ _ | refine kD84_ ?_ | refine kA84_ ?_ _ | refine blk_far ?_ NB148_155.out _)); (with_reducible repeat (first | refine kN84_ ?_ _ | refine kD84_ ?_ | refine kA84_ ?_ _)); exact BK148.out)) : P := h
theorem q84x34_ {P : Prop} (h : P := by rw [hw]; exact (by (with_reducible repeat (first | refine kN84_ ?_ _ | refine kD84_ ?_ | refine kA84_ ?_ _ | refine blk_far ?_ NB149_155.out _)); (with_reducible repeat (first | refine kN84_ ?_ _ | refine kD84_ ?_ | refine kA84_ ?_ _)); exact BK149.out)) : P := h
theorem q84x35_ {P : Prop} (h : P := by rw [hw]; exact (by (with_reducible repeat (first | refine kN84_ ?_ _ | refine kD84_ ?_ | refine kA84_ ?_ _ | refine blk_far ?_ NB150_155.out _)); (with_reducible repeat (first | refine kN84_ ?_ _ | refine kD84_ ?_ | refine kA84_ ?_ _)); exact BK150.out)) : P := h
theorem q84x36_ {P : Prop} (h : P := by rw [hw]; exact (by (with_reducible repeat (first | refine kN84_ ?_ _ | refine kD84_ ?_ | refine kA84_ ?_ _ | refine blk_far ?_ NB151_155.out _)); (with_reducible repeat (first | refine kN84_ ?_ _ | refine kD84_ ?_ | refine kA84_ ?_ _)); exact BK151.out)) : P := h
theorem q84x37_ {P : Prop} (h : P := by rw [hw]; exact (by (with_reducible repeat (first | refine kN84_ ?_ _ | refine kD84_ ?_ | refine kA84_ ?_ _ | refine blk_far ?_ NB152_155.out _)); (with_reducible repeat (first | refine kN84_ ?_ _ | refine kD84_ ?_ | refine kA84_ ?_ _)); exact BK152.out)) : P := h
theorem q84x38_ {P : Prop} (h : P := by rw [hw]; exact (by (with_reducible repeat (first | refine kN84_ ?_ _ | refine kD84_ ?_ | refine kA84_ ?_ _ | refine blk_far ?_ NB148_150.out _)); (with_reducible repeat (first | refine kN84_ ?_ _ | refine kD84_ ?_ | refine kA84_ ?_ _)); exact BK148.out)) : P := h
theorem q84x39_ {P : Prop} (h : P := by rw [hw]; exact (by (with_reducible repeat (first | refine kN84_ ?_ _ | refine kD84_ ?_ | refine kA84_ ?_ _ | refine blk_far ?_ NB149_150.out _)); (with_reducible repeat (first | refine kN84_ ?_ _ | refine kD84_ ?_ | refine kA84_ ?_ _)); exact BK149.out)) : P := h
theorem q84x40_ {P : Prop} (h : P := by rw [hw]; exact (by (with_reducible repeat (first | refine kN84_ ?_ _ | refine kD84_ ?_ | refine kA84_ ?_ _ | refine blk_far ?_ NB151_150.out _)); (with_reducible repeat (first | refine kN84_ ?_ _ | refine kD84_ ?_ | refine kA84_ ?_ _)); exact BK151.out)) : P := h
theorem q84x41_ {P : Prop} (h : P := by rw [hw]; exact (by (with_reducible repeat (first | refine kN84_ ?_ _ | refine kD84_ ?_ | refine kA84_ ?_ _ | refine blk_far ?_ NB152_150.out _)); (with_reducible repeat (first | refine kN84_ ?_ _ | refine kD84_ ?_ | refine kA84_ ?_ _)); exact BK152.out)) : P := h
theorem q84x42_ {P : Prop} (h : P := by rw [hw]; exact (by (with_reducible repeat (first | refine kN84_ ?_ _ | refine kD84_ ?_ | refine kA84_ ?_ _ | refine blk_far ?_ NB155_150.out _)); (with_reducible repeat (first | refine kN84_ ?_ _ | refine kD84_ ?_ | refine kA84_ ?_ _)); exact BK155.out)) : P := h
theorem q84x43_ {P : Prop} (h : P := by rw [hg]; exact (below_size q84x18_)) : P := h
theorem q84x44_ {P : Prop} (h : P := by rw [hg]; exact (below_size q84x14_)) : P := h
theorem q84x45_ {P : Prop} (h : P := by rw [hg]; exact (below_size q84x13_)) : P := h
theorem q84x46_ {P : Prop} (h : P := by rw [hg]; exact (below_size q84x12_)) : P := h
theorem q84x47_ {P : Prop} (h : P := by rw [hg]; exact (below_size q84x7_)) : P := h
theorem q84x48_ {P : Prop} (h : P := by rw [hg]; exact Nat.ne_of_lt (blk_lt (g := gb152) (o := .cells #[.int .u32 a1.f1.f0, .int .u32 a1.f1.f1, .int .u32 a1.f1.f2, .int .u32 a1.f1.f3, .int .u32 a1.f1.f4, .int .u32 a1.f1.f5] 126 (0, 0)) q84x4_)) : P := h
theorem q84x49_ {P : Prop} (h : P := by rw [hg]; exact Nat.ne_of_gt (blk_lt (g := gb152) (o := .cells #[.int .u32 a1.f1.f0, .int .u32 a1.f1.f1, .int .u32 a1.f1.f2, .int .u32 a1.f1.f3, .int .u32 a1.f1.f4, .int .u32 a1.f1.f5] 126 (0, 0)) q84x4_)) : P := h
theorem q84x50_ {P : Prop} (h : P := by simp only [Act.put, List.setIfInBounds_toArray, List.set_cons_zero, List.set_cons_succ, i64_w, i32_w]; rfl) : P := h
/-! ### spec_l01Add: function 84 -/
def spec_l01Add.f (k : Nat) (a0 : S24) (a1 : S24) : Option (S24 × Int) := (wun a0).bind fun x => (wun a1).bind fun y => some (wenc (Wide.fitZ (x + y)), Wide.fitC (x + y).natAbs)
theorem spec_l01Add.mono : ∀ a0 a1 k, LeO (spec_l01Add.f k a0 a1) (spec_l01Add.f (k + 1) a0 a1) := by
 intros
 exact LeO.refl _
theorem spec_l01Add.calls (k : Nat) (a0 : S24) (a1 : S24) (r1 : S24) (r2 : Int) (w : World) (h : spec_l01Add.f k a0 a1 = some (r1, r2)) :
  Calls Try.prog 84 #[.agg #[.bool a0.f0, .int .u32 a0.f1.f0, .int .u32 a0.f1.f1, .int .u32 a0.f1.f2, .int .u32 a0.f1.f3, .int .u32 a0.f1.f4, .int .u32 a0.f1.f5], .agg #[.bool a1.f0, .int .u32 a1.f1.f0, .int .u32 a1.f1.f1, .int .u32 a1.f1.f2, .int .u32 a1.f1.f3, .int .u32 a1.f1.f4, .int .u32 a1.f1.f5]] w fun e w' => e = .returned (.tuple #[.agg #[.bool r1.f0, .int .u32 r1.f1.f0, .int .u32 r1.f1.f1, .int .u32 r1.f1.f2, .int .u32 r1.f1.f3, .int .u32 r1.f1.f4, .int .u32 r1.f1.f5], .int .i64 r2]) ∧ Below w.heap.size w w' := by
 obtain ⟨x, y, rfl, rfl, hx, hy, e⟩ := wun2 h
 obtain ⟨rfl, rfl⟩ := Prod.mk.inj (Option.some.inj e)
 exact Wide.sAddV w x y hx hy


end Go.Proofs.Ytbomadebdekjjaa.MFnExactValueAt
