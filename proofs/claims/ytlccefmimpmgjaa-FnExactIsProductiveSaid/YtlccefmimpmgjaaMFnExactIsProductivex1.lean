/- Functions of the program as Lean functions, and the proof that the code comes to what they say. Written by a program of this session (myprint.py). -/
import Derived.Test.YtlccefmimpmgjaaMFnExactIsProductivex0
namespace Go.Proofs.Ytlccefmimpmgjaa.MFnExactIsProductive
open Go.RowKit Go.Proofs.Ytlccefmimpmgjaa.MOpen Go.Proofs.YtlccefmimpmgjaaW.PrintWords Go.Proofs.YtlccefmimpmgjaaW.PrintLast Go.Proofs.YtlccefmimpmgjaaW.PrintMore
attribute [local go_sem] max2_int min2_int max_two min_two max_three min_three max_four min_four   -- for this text's walks alone
set_option linter.unusedVariables false
set_option linter.unusedSimpArgs false

set_option linter.defProp false
def aM144_ := @Aside0.mk
theorem q144x1_ {P : Prop} (h : P := by repeat (first | (with_reducible first | exact HB.out | apply below_alloc | apply pw_below_drewN | apply below_drew1 | refine below_set ?_ GE101.out) | exact HB.out)) : P := h
theorem q144x2_ {P : Prop} (h : P := by repeat (first | (with_reducible first | exact HB.out | apply below_alloc | apply pw_below_drewN | apply below_drew1) | exact HB.out)) : P := h
theorem q144x3_ {P : Prop} (h : P := by (with_reducible repeat (first | refine blk_drewN ?_ _ | refine blk_drew ?_ | refine blk_alloc ?_ _)); exact BK101.out) : P := h
theorem q144x4_ {P : Prop} (h : P := by first | (with_reducible assumption) | assumption) : P := h
theorem q144x5_ {P : Prop} (h : P := by rw [hg]; exact Nat.ne_of_lt (blk_lt (g := gb101) (o := .cells #[.int .i16 a0_0, .int .i16 a0_1, .int .i16 a0_2] 75 (0, 0)) q144x3_)) : P := h
theorem q144x6_ {P : Prop} (h : P := by rw [hg]; exact Nat.ne_of_gt (blk_lt (g := gb101) (o := .cells #[.int .i16 a0_0, .int .i16 a0_1, .int .i16 a0_2] 75 (0, 0)) q144x3_)) : P := h
theorem q144x7_ {P : Prop} (h : P := by (rcases (show x5_1 = 0 ∨ x5_1 = 1 ∨ x5_1 = 2 from (by have h_ := HP103.out; omega)) with rfl | rfl | rfl <;> first | exact (blk_cell BK101.out 0).trans rfl | exact (blk_cell BK101.out 1).trans rfl | exact (blk_cell BK101.out 2).trans rfl)) : P := h
theorem q144x8_ {P : Prop} (h : P := by (rcases (show x5_1 = 0 ∨ x5_1 = 1 ∨ x5_1 = 2 from (by have h_ := HP104.out; omega)) with rfl | rfl | rfl <;> first | exact (blk_cell BK102.out 0).trans rfl | exact (blk_cell BK102.out 1).trans rfl | exact (blk_cell BK102.out 2).trans rfl)) : P := h
theorem q144x9_ {P : Prop} (h : P := by rw [hg]; exact (below_size q144x2_)) : P := h
theorem q144x10_ {P : Prop} (h : P := by rw [hg]; exact (below_size q144x1_)) : P := h
/-! ### laws_eqInt16A3: function 144 -/
def laws_eqInt16A3.l0 : Nat → Int → Int → Int → Int → Int → Int → Int → Option (Bool)
 | 0, _, _, _, _, _, _, _ => none
 | k + 1, x5, x102000, x102001, x102002, x103000, x103001, x103002 => if x5 < 3 then (if 0 ≤ x5 then (if (rd [x102000, x102001, x102002] x5) = (rd [x103000, x103001, x103002] x5) then (laws_eqInt16A3.l0 k (wrap64 (x5 + 1)) x102000 x102001 x102002 x103000 x103001 x103002) else (some false)) else (none)) else (some true)
def laws_eqInt16A3.f (k : Nat) (a0_0 : Int) (a0_1 : Int) (a0_2 : Int) (a1_0 : Int) (a1_1 : Int) (a1_2 : Int) : Option (Bool) := laws_eqInt16A3.l0 k 0 a0_0 a0_1 a0_2 a1_0 a1_1 a1_2
theorem laws_eqInt16A3.mono_l : ∀ k, (∀ y0 y1 y2 y3 y4 y5 y6, LeO (laws_eqInt16A3.l0 k y0 y1 y2 y3 y4 y5 y6) (laws_eqInt16A3.l0 (k + 1) y0 y1 y2 y3 y4 y5 y6))
 | 0 => fun _ _ _ _ _ _ _ r h => by simp [laws_eqInt16A3.l0] at h
 | k + 1 => by
  have ih0 := laws_eqInt16A3.mono_l k
  intro y0 y1 y2 y3 y4 y5 y6
  unfold laws_eqInt16A3.l0
  repeat' first
  | (with_reducible exact ih0 _ _ _ _ _ _ _)
  | (with_reducible exact LeO.refl _)
  | (with_reducible exact LeO.none _)
  | (with_reducible refine LeO.ite ?_ ?_)
  | (with_reducible refine LeO.bind ?_ (fun _ => ?_))
  | exact ih0 _ _ _ _ _ _ _
  | exact LeO.none _
  | refine LeO.ite ?_ ?_
  | refine LeO.bind ?_ (fun _ => ?_)
theorem laws_eqInt16A3.mono : ∀ a0 a1 a2 a3 a4 a5 k, LeO (laws_eqInt16A3.f k a0 a1 a2 a3 a4 a5) (laws_eqInt16A3.f (k + 1) a0 a1 a2 a3 a4 a5) := by
 intro a0 a1 a2 a3 a4 a5 k
 have ih0 := laws_eqInt16A3.mono_l k
 unfold laws_eqInt16A3.f
 repeat' first
   | (with_reducible exact ih0 _ _ _ _ _ _ _)
   | (with_reducible exact LeO.refl _)
   | (with_reducible exact LeO.none _)
   | (with_reducible refine LeO.ite ?_ ?_)
   | (with_reducible refine LeO.bind ?_ (fun _ => ?_))
   | exact ih0 _ _ _ _ _ _ _
   | exact LeO.none _
   | refine LeO.ite ?_ ?_
   | refine LeO.bind ?_ (fun _ => ?_)
set_option maxHeartbeats 8000000 in
set_option maxRecDepth 100000 in
theorem laws_eqInt16A3.calls (k : Nat) (a0_0 : Int) (a0_1 : Int) (a0_2 : Int) (a1_0 : Int) (a1_1 : Int) (a1_2 : Int) (r : Bool) (w : World) (h : laws_eqInt16A3.f k a0_0 a0_1 a0_2 a1_0 a1_1 a1_2 = some r) :
  Calls Try.prog 144 #[.agg #[.int .i16 a0_0, .int .i16 a0_1, .int .i16 a0_2], .agg #[.int .i16 a1_0, .int .i16 a1_1, .int .i16 a1_2]] w fun e w' => e = .returned (.bool r) ∧ Below w.heap.size w w' := by
 have hu75 := Try.underlying75
 have HB := aM144_ (Below.refl w.heap.size w)
 have H : (laws_eqInt16A3.l0 k 0 a0_0 a0_1 a0_2 a1_0 a1_1 a1_2) = some r := h
 clear h
 have H' := aM144_ H
 clear H
 go_enter Try.func144, Try.ntmps144
 go_wp2_with (first | ((with_reducible refine gate_dst (N := 2) rfl ?_); refine box_event ?hg (N := 2) ?hd (cs := #[.int .i16 a0_0, .int .i16 a0_1, .int .i16 a0_2]) (t := 75) ?hr ?_; (case hd => rfl); (case hg => rfl); (case hr => first | (go_simp; done) | (go_simp; rfl)); intro gb101 hg w3 hbox hb; have n0_ := aM144_ (below_step q144x2_ hb); have n1_ := aM144_ (hbox); have n2_ := aM144_ ((q144x9_ : w.heap.size ≤ gb101)); have n3_ := aM144_ ((q144x9_ : w.heap.size ≤ gb101)); clear HB; have HB := n0_; have BK101 := n1_; have GW101 := n2_; have GE101 := n3_; clear n0_ n1_ n2_ n3_; clear hb hbox hg) | ((with_reducible refine gate_dst (N := 3) rfl ?_); refine box_event ?hg (N := 3) ?hd (cs := #[.int .i16 a1_0, .int .i16 a1_1, .int .i16 a1_2]) (t := 75) ?hr ?_; (case hd => rfl); (case hg => rfl); (case hr => first | (go_simp; done) | (go_simp; rfl)); intro gb102 hg w4 hbox hb; have n0_ := aM144_ (blk_below (g := gb101) (o := .cells #[.int .i16 a0_0, .int .i16 a0_1, .int .i16 a0_2] 75 (0, 0)) q144x3_ hb); have n1_ := aM144_ (below_step q144x1_ hb); have n2_ := aM144_ (hbox); have n3_ := aM144_ ((q144x10_ : w.heap.size ≤ gb102)); have n4_ := aM144_ ((q144x10_ : w.heap.size ≤ gb102)); have n5_ := aM144_ ((q144x5_ : gb101 ≠ gb102)); have n6_ := aM144_ ((q144x6_ : gb102 ≠ gb101)); clear BK101; clear HB; have BK101 := n0_; have HB := n1_; have BK102 := n2_; have GW102 := n3_; have GE102 := n4_; have NB101_102 := n5_; have NB102_101 := n6_; clear n0_ n1_ n2_ n3_ n4_ n5_ n6_; clear hb hbox hg))
 repeat (go_quiet (first | ((with_reducible refine gate_dst (N := 2) rfl ?_); refine box_event ?hg (N := 2) ?hd (cs := #[.int .i16 a0_0, .int .i16 a0_1, .int .i16 a0_2]) (t := 75) ?hr ?_; (case hd => rfl); (case hg => rfl); (case hr => first | (go_simp; done) | (go_simp; rfl)); intro gb101 hg w3 hbox hb; have n0_ := aM144_ (below_step q144x2_ hb); have n1_ := aM144_ (hbox); have n2_ := aM144_ ((q144x9_ : w.heap.size ≤ gb101)); have n3_ := aM144_ ((q144x9_ : w.heap.size ≤ gb101)); clear HB; have HB := n0_; have BK101 := n1_; have GW101 := n2_; have GE101 := n3_; clear n0_ n1_ n2_ n3_; clear hb hbox hg) | ((with_reducible refine gate_dst (N := 3) rfl ?_); refine box_event ?hg (N := 3) ?hd (cs := #[.int .i16 a1_0, .int .i16 a1_1, .int .i16 a1_2]) (t := 75) ?hr ?_; (case hd => rfl); (case hg => rfl); (case hr => first | (go_simp; done) | (go_simp; rfl)); intro gb102 hg w4 hbox hb; have n0_ := aM144_ (blk_below (g := gb101) (o := .cells #[.int .i16 a0_0, .int .i16 a0_1, .int .i16 a0_2] 75 (0, 0)) q144x3_ hb); have n1_ := aM144_ (below_step q144x1_ hb); have n2_ := aM144_ (hbox); have n3_ := aM144_ ((q144x10_ : w.heap.size ≤ gb102)); have n4_ := aM144_ ((q144x10_ : w.heap.size ≤ gb102)); have n5_ := aM144_ ((q144x5_ : gb101 ≠ gb102)); have n6_ := aM144_ ((q144x6_ : gb102 ≠ gb101)); clear BK101; clear HB; have BK101 := n0_; have HB := n1_; have BK102 := n2_; have GW102 := n3_; have GE102 := n4_; have NB101_102 := n5_; have NB102_101 := n6_; clear n0_ n1_ n2_ n3_ n4_ n5_ n6_; clear hb hbox hg)); try go_wp2_with (first | ((with_reducible refine gate_dst (N := 2) rfl ?_); refine box_event ?hg (N := 2) ?hd (cs := #[.int .i16 a0_0, .int .i16 a0_1, .int .i16 a0_2]) (t := 75) ?hr ?_; (case hd => rfl); (case hg => rfl); (case hr => first | (go_simp; done) | (go_simp; rfl)); intro gb101 hg w3 hbox hb; have n0_ := aM144_ (below_step q144x2_ hb); have n1_ := aM144_ (hbox); have n2_ := aM144_ ((q144x9_ : w.heap.size ≤ gb101)); have n3_ := aM144_ ((q144x9_ : w.heap.size ≤ gb101)); clear HB; have HB := n0_; have BK101 := n1_; have GW101 := n2_; have GE101 := n3_; clear n0_ n1_ n2_ n3_; clear hb hbox hg) | ((with_reducible refine gate_dst (N := 3) rfl ?_); refine box_event ?hg (N := 3) ?hd (cs := #[.int .i16 a1_0, .int .i16 a1_1, .int .i16 a1_2]) (t := 75) ?hr ?_; (case hd => rfl); (case hg => rfl); (case hr => first | (go_simp; done) | (go_simp; rfl)); intro gb102 hg w4 hbox hb; have n0_ := aM144_ (blk_below (g := gb101) (o := .cells #[.int .i16 a0_0, .int .i16 a0_1, .int .i16 a0_2] 75 (0, 0)) q144x3_ hb); have n1_ := aM144_ (below_step q144x1_ hb); have n2_ := aM144_ (hbox); have n3_ := aM144_ ((q144x10_ : w.heap.size ≤ gb102)); have n4_ := aM144_ ((q144x10_ : w.heap.size ≤ gb102)); have n5_ := aM144_ ((q144x5_ : gb101 ≠ gb102)); have n6_ := aM144_ ((q144x6_ : gb102 ≠ gb101)); clear BK101; clear HB; have BK101 := n0_; have HB := n1_; have BK102 := n2_; have GW102 := n3_; have GE102 := n4_; have NB101_102 := n5_; have NB102_101 := n6_; clear n0_ n1_ n2_ n3_ n4_ n5_ n6_; clear hb hbox hg)))
 go_loopg [5] k (fun kq v5 w' => ∃ (x5_1 : Int), v5 = .int .i64 x5_1 ∧ Aside0 (laws_eqInt16A3.l0 kq x5_1 a0_0 a0_1 a0_2 a1_0 a1_1 a1_2 = some r) ∧ Aside0 (kq ≤ k) ∧ Aside0 (w'.heap[gb101]? = some (.cells #[.int .i16 a0_0, .int .i16 a0_1, .int .i16 a0_2] 75 (0, 0))) ∧ Aside0 (w'.heap[gb102]? = some (.cells #[.int .i16 a1_0, .int .i16 a1_1, .int .i16 a1_2] 75 (0, 0))) ∧ Aside0 (Below w.heap.size w w'))
 case atStart => exact ⟨(0), (by first | rfl | (simp; done) | (simp [*]; done)), H', ⟨Nat.le_refl _⟩, ⟨by (with_reducible repeat (first | refine blk_drewN ?_ _ | refine blk_drew ?_ | refine blk_alloc ?_ _)); exact BK101.out⟩, ⟨by (with_reducible repeat (first | refine blk_drewN ?_ _ | refine blk_drew ?_ | refine blk_alloc ?_ _)); exact BK102.out⟩, ⟨by repeat (first | (with_reducible first | exact HB.out | apply below_alloc | apply pw_below_drewN | apply below_drew1 | refine below_set ?_ GE101.out | refine below_set ?_ GE102.out) | exact HB.out)⟩⟩
 case round =>
  clear H'
  try clear c1
  try clear p2
  obtain ⟨x5_1, rfl, HA, HK1, BK101, BK102, HB⟩ := hrel
  cases gk with
  | zero => exact absurd HA.out (by simp [laws_eqInt16A3.l0])
  | succ k1 =>
   have H := HA.out
   clear HA
   simp only [laws_eqInt16A3.l0] at H
   by_cases c5 : x5_1 < 3
   rotate_left
   ·rw [if_neg c5] at H
    have c5b0 : decide (x5_1 < 3) = false := decide_eq_false c5
    clear c5
    obtain rfl := Option.some.inj H
    go_wp2
    repeat (go_quiet (fail); try go_wp2)
    go_ret
    exact ⟨by first | rfl | (simp [errW_none, errW_some] <;> rfl) | (simp [*, errW_none, errW_some] <;> rfl), by repeat (first | (with_reducible first | exact HB.out | apply below_alloc | apply pw_below_drewN | apply below_drew1 | refine below_set ?_ GE101.out | refine below_set ?_ GE102.out) | exact HB.out)⟩

   rw [if_pos c5] at H
   have c5b0 : decide (x5_1 < 3) = true := decide_eq_true c5
   clear c5
   by_cases c6 : 0 ≤ x5_1
   rotate_left
   ·rw [if_neg c6] at H
    exact absurd H (by simp)
   rw [if_pos c6] at H
   have c6b0 : decide (0 ≤ x5_1) = true := decide_eq_true c6
   clear c6
   by_cases c7 : (rd [a0_0, a0_1, a0_2] x5_1) = (rd [a1_0, a1_1, a1_2] x5_1)
   ·rw [if_pos c7] at H
    have c7b0 : ((rd [a0_0, a0_1, a0_2] x5_1) == (rd [a1_0, a1_1, a1_2] x5_1)) = true := beq_iff_eq.mpr c7
    have c7b1 : ((rd [a0_0, a0_1, a0_2] x5_1) != (rd [a1_0, a1_1, a1_2] x5_1)) = false := bne_eq_false_iff_eq.mpr c7
    clear c7
    have H' := aM144_ H
    clear H
    have hnb8 := NB101_102.out
    have hnc8 := NB102_101.out
    have hcz9_0 : wr.cell? ⟨gb101, 0, none⟩ = some (.int .i16 a0_0) := (blk_cell BK101.out 0).trans rfl
    have hcz9_1 : wr.cell? ⟨gb101, 1, none⟩ = some (.int .i16 a0_1) := (blk_cell BK101.out 1).trans rfl
    have hcz9_2 : wr.cell? ⟨gb101, 2, none⟩ = some (.int .i16 a0_2) := (blk_cell BK101.out 2).trans rfl
    have hfz9_0 := blk_frozen BK101.out 0
    have hfz9_1 := blk_frozen BK101.out 1
    have hfz9_2 := blk_frozen BK101.out 2
    have HP103 := aM144_ (show 0 ≤ (x5_1 : Int) ∧ (x5_1 : Int) < 3 from ⟨of_decide_eq_true q144x4_, of_decide_eq_true q144x4_⟩)
    have hx103_0 : wr.cell? ⟨gb101, (x5_1 : Int).toNat, none⟩ = some (.int .i16 (rd [a0_0, a0_1, a0_2] x5_1)) := q144x7_
    have hx103_1 : wr.cell? ((⟨gb101, 0, none⟩ : Addr).add (x5_1 : Int).toNat) = some (.int .i16 (rd [a0_0, a0_1, a0_2] x5_1)) := (congrArg _ (add_plain _ _)).trans hx103_0
    have hpz103 := eq_true HP103.out.1
    have hpy103 := eq_true HP103.out.2
    have hcz10_0 : wr.cell? ⟨gb102, 0, none⟩ = some (.int .i16 a1_0) := (blk_cell BK102.out 0).trans rfl
    have hcz10_1 : wr.cell? ⟨gb102, 1, none⟩ = some (.int .i16 a1_1) := (blk_cell BK102.out 1).trans rfl
    have hcz10_2 : wr.cell? ⟨gb102, 2, none⟩ = some (.int .i16 a1_2) := (blk_cell BK102.out 2).trans rfl
    have hfz10_0 := blk_frozen BK102.out 0
    have hfz10_1 := blk_frozen BK102.out 1
    have hfz10_2 := blk_frozen BK102.out 2
    have HP104 := aM144_ (show 0 ≤ (x5_1 : Int) ∧ (x5_1 : Int) < 3 from ⟨of_decide_eq_true q144x4_, of_decide_eq_true q144x4_⟩)
    have hx104_0 : wr.cell? ⟨gb102, (x5_1 : Int).toNat, none⟩ = some (.int .i16 (rd [a1_0, a1_1, a1_2] x5_1)) := q144x8_
    have hx104_1 : wr.cell? ((⟨gb102, 0, none⟩ : Addr).add (x5_1 : Int).toNat) = some (.int .i16 (rd [a1_0, a1_1, a1_2] x5_1)) := (congrArg _ (add_plain _ _)).trans hx104_0
    have hpz104 := eq_true HP104.out.1
    have hpy104 := eq_true HP104.out.2
    go_wp2
    repeat (go_quiet (fail); try go_wp2)
    go_roundg k1
    case measure => have := HK1.out; omega
    case rel => exact ⟨(wrap64 (x5_1 + 1)), (by first | rfl | (simp; done) | (simp [*]; done)), H', ⟨by have := HK1.out; omega⟩, ⟨by (with_reducible repeat (first | refine blk_drewN ?_ _ | refine blk_drew ?_ | refine blk_alloc ?_ _)); exact BK101.out⟩, ⟨by (with_reducible repeat (first | refine blk_drewN ?_ _ | refine blk_drew ?_ | refine blk_alloc ?_ _)); exact BK102.out⟩, ⟨by repeat (first | (with_reducible first | exact HB.out | apply below_alloc | apply pw_below_drewN | apply below_drew1 | refine below_set ?_ GE101.out | refine below_set ?_ GE102.out) | exact HB.out)⟩⟩
   rw [if_neg c7] at H
   have c7b0 : ((rd [a0_0, a0_1, a0_2] x5_1) == (rd [a1_0, a1_1, a1_2] x5_1)) = false := beq_eq_false_iff_ne.mpr c7
   have c7b1 : ((rd [a0_0, a0_1, a0_2] x5_1) != (rd [a1_0, a1_1, a1_2] x5_1)) = true := bne_iff_ne.mpr c7
   obtain rfl := Option.some.inj H
   have hnb11 := NB101_102.out
   have hnc11 := NB102_101.out
   have hcz12_0 : wr.cell? ⟨gb101, 0, none⟩ = some (.int .i16 a0_0) := (blk_cell BK101.out 0).trans rfl
   have hcz12_1 : wr.cell? ⟨gb101, 1, none⟩ = some (.int .i16 a0_1) := (blk_cell BK101.out 1).trans rfl
   have hcz12_2 : wr.cell? ⟨gb101, 2, none⟩ = some (.int .i16 a0_2) := (blk_cell BK101.out 2).trans rfl
   have hfz12_0 := blk_frozen BK101.out 0
   have hfz12_1 := blk_frozen BK101.out 1
   have hfz12_2 := blk_frozen BK101.out 2
   have HP103 := aM144_ (show 0 ≤ (x5_1 : Int) ∧ (x5_1 : Int) < 3 from ⟨of_decide_eq_true q144x4_, of_decide_eq_true q144x4_⟩)
   have hx103_0 : wr.cell? ⟨gb101, (x5_1 : Int).toNat, none⟩ = some (.int .i16 (rd [a0_0, a0_1, a0_2] x5_1)) := q144x7_
   have hx103_1 : wr.cell? ((⟨gb101, 0, none⟩ : Addr).add (x5_1 : Int).toNat) = some (.int .i16 (rd [a0_0, a0_1, a0_2] x5_1)) := (congrArg _ (add_plain _ _)).trans hx103_0
   have hpz103 := eq_true HP103.out.1
   have hpy103 := eq_true HP103.out.2
   have hcz13_0 : wr.cell? ⟨gb102, 0, none⟩ = some (.int .i16 a1_0) := (blk_cell BK102.out 0).trans rfl
   have hcz13_1 : wr.cell? ⟨gb102, 1, none⟩ = some (.int .i16 a1_1) := (blk_cell BK102.out 1).trans rfl
   have hcz13_2 : wr.cell? ⟨gb102, 2, none⟩ = some (.int .i16 a1_2) := (blk_cell BK102.out 2).trans rfl
   have hfz13_0 := blk_frozen BK102.out 0
   have hfz13_1 := blk_frozen BK102.out 1
   have hfz13_2 := blk_frozen BK102.out 2
   have HP104 := aM144_ (show 0 ≤ (x5_1 : Int) ∧ (x5_1 : Int) < 3 from ⟨of_decide_eq_true q144x4_, of_decide_eq_true q144x4_⟩)
   have hx104_0 : wr.cell? ⟨gb102, (x5_1 : Int).toNat, none⟩ = some (.int .i16 (rd [a1_0, a1_1, a1_2] x5_1)) := q144x8_
   have hx104_1 : wr.cell? ((⟨gb102, 0, none⟩ : Addr).add (x5_1 : Int).toNat) = some (.int .i16 (rd [a1_0, a1_1, a1_2] x5_1)) := (congrArg _ (add_plain _ _)).trans hx104_0
   have hpz104 := eq_true HP104.out.1
   have hpy104 := eq_true HP104.out.2
   go_wp2
   repeat (go_quiet (fail); try go_wp2)
   go_ret
   exact ⟨by first | rfl | (simp [errW_none, errW_some] <;> rfl) | (simp [*, errW_none, errW_some] <;> rfl), by repeat (first | (with_reducible first | exact HB.out | apply below_alloc | apply pw_below_drewN | apply below_drew1 | refine below_set ?_ GE101.out | refine below_set ?_ GE102.out) | exact HB.out)⟩
set_option linter.defProp false
def aM96_ := @Aside0.mk
def kC96_ := @blk_cell
theorem q96x1_ {P : Prop} (h : P := by repeat (first | (with_reducible first | exact HB.out | apply below_alloc | apply pw_below_drewN | apply below_drew1 | refine below_set ?_ GE105.out) | exact HB.out)) : P := h
theorem q96x2_ {P : Prop} (h : P := by (with_reducible repeat (first | refine blk_drewN ?_ _ | refine blk_drew ?_ | refine blk_alloc ?_ _)); exact BK105.out) : P := h
theorem q96x3_ {P : Prop} (h : P := by repeat (first | (with_reducible first | exact HB.out | apply below_alloc | apply pw_below_drewN | apply below_drew1) | exact HB.out)) : P := h
theorem q96x4_ {P : Prop} (h : P := by rw [hg]; exact Nat.ne_of_lt (blk_lt (g := gb105) (o := .cells #[.int .i8 a0_0, .int .i8 a0_1, .int .i16 a0_2, .int .i16 a0_3, .int .i16 a0_4] 77 (0, 0)) q96x2_)) : P := h
theorem q96x5_ {P : Prop} (h : P := by rw [hg]; exact Nat.ne_of_gt (blk_lt (g := gb105) (o := .cells #[.int .i8 a0_0, .int .i8 a0_1, .int .i16 a0_2, .int .i16 a0_3, .int .i16 a0_4] 77 (0, 0)) q96x2_)) : P := h
theorem q96x6_ {P : Prop} (h : P := by rw [hg]; exact (below_size q96x3_)) : P := h
theorem q96x7_ {P : Prop} (h : P := by rw [hg]; exact (below_size q96x1_)) : P := h
theorem q96x8_ {P : Prop} (h : P := by repeat (first | (with_reducible first | exact HB.out | apply below_alloc | apply pw_below_drewN | apply below_drew1 | refine below_set ?_ GE105.out | refine below_set ?_ GE106.out) | exact HB.out)) : P := h
/-! ### laws_eqFork: function 96 -/
def laws_eqFork.f (k : Nat) (a0_0 : Int) (a0_1 : Int) (a0_2 : Int) (a0_3 : Int) (a0_4 : Int) (a1_0 : Int) (a1_1 : Int) (a1_2 : Int) (a1_3 : Int) (a1_4 : Int) : Option (Bool) := if a0_0 = a1_0 then (if a0_1 = a1_1 then ((laws_eqInt16A3.f k a0_2 a0_3 a0_4 a1_2 a1_3 a1_4).bind fun t107 => (if t107 = true then (some true) else (some false))) else (some false)) else (some false)
theorem laws_eqFork.mono : ∀ a0 a1 a2 a3 a4 a5 a6 a7 a8 a9 k, LeO (laws_eqFork.f k a0 a1 a2 a3 a4 a5 a6 a7 a8 a9) (laws_eqFork.f (k + 1) a0 a1 a2 a3 a4 a5 a6 a7 a8 a9) := by
 intro a0 a1 a2 a3 a4 a5 a6 a7 a8 a9 k
 unfold laws_eqFork.f
 repeat' first
   | (with_reducible exact laws_eqInt16A3.mono _ _ _ _ _ _ _)
   | (with_reducible exact LeO.refl _)
   | (with_reducible exact LeO.none _)
   | (with_reducible refine LeO.ite ?_ ?_)
   | (with_reducible refine LeO.bind ?_ (fun _ => ?_))
   | exact laws_eqInt16A3.mono _ _ _ _ _ _ _
   | exact LeO.none _
   | refine LeO.ite ?_ ?_
   | refine LeO.bind ?_ (fun _ => ?_)
set_option maxHeartbeats 8000000 in
set_option maxRecDepth 100000 in
theorem laws_eqFork.calls (k : Nat) (a0_0 : Int) (a0_1 : Int) (a0_2 : Int) (a0_3 : Int) (a0_4 : Int) (a1_0 : Int) (a1_1 : Int) (a1_2 : Int) (a1_3 : Int) (a1_4 : Int) (r : Bool) (w : World) (h : laws_eqFork.f k a0_0 a0_1 a0_2 a0_3 a0_4 a1_0 a1_1 a1_2 a1_3 a1_4 = some r) :
  Calls Try.prog 96 #[.agg #[.int .i8 a0_0, .int .i8 a0_1, .int .i16 a0_2, .int .i16 a0_3, .int .i16 a0_4], .agg #[.int .i8 a1_0, .int .i8 a1_1, .int .i16 a1_2, .int .i16 a1_3, .int .i16 a1_4]] w fun e w' => e = .returned (.bool r) ∧ Below w.heap.size w w' := by
 have hu77 := Try.underlying77
 have hu75 := Try.underlying75
 have HB := aM96_ (Below.refl w.heap.size w)
 have H : (if a0_0 = a1_0 then (if a0_1 = a1_1 then ((laws_eqInt16A3.f k a0_2 a0_3 a0_4 a1_2 a1_3 a1_4).bind fun t107 => (if t107 = true then (some true) else (some false))) else (some false)) else (some false)) = some r := h
 clear h
 by_cases c3 : a0_0 = a1_0
 rotate_left
 ·rw [if_neg c3] at H
  have c3b0 : (a0_0 == a1_0) = false := beq_eq_false_iff_ne.mpr c3
  have c3b1 : (a0_0 != a1_0) = true := bne_iff_ne.mpr c3
  obtain rfl := Option.some.inj H
  go_enter Try.func96, Try.ntmps96
  go_wp2_with (first | ((with_reducible refine gate_dst (N := 2) rfl ?_); refine box_event ?hg (N := 2) ?hd (cs := #[.int .i8 a0_0, .int .i8 a0_1, .int .i16 a0_2, .int .i16 a0_3, .int .i16 a0_4]) (t := 77) ?hr ?_; (case hd => rfl); (case hg => rfl); (case hr => first | (go_simp; done) | (go_simp; rfl)); intro gb105 hg w24 hbox hb; have n0_ := aM96_ (below_step q96x3_ hb); have n1_ := aM96_ (hbox); have n2_ := aM96_ ((q96x6_ : w.heap.size ≤ gb105)); have n3_ := aM96_ ((q96x6_ : w.heap.size ≤ gb105)); clear HB; have HB := n0_; have BK105 := n1_; have GW105 := n2_; have GE105 := n3_; clear n0_ n1_ n2_ n3_; clear hb hbox hg) | ((with_reducible refine gate_dst (N := 3) rfl ?_); refine box_event ?hg (N := 3) ?hd (cs := #[.int .i8 a1_0, .int .i8 a1_1, .int .i16 a1_2, .int .i16 a1_3, .int .i16 a1_4]) (t := 77) ?hr ?_; (case hd => rfl); (case hg => rfl); (case hr => first | (go_simp; done) | (go_simp; rfl)); intro gb106 hg w25 hbox hb; have n0_ := aM96_ (blk_below (g := gb105) (o := .cells #[.int .i8 a0_0, .int .i8 a0_1, .int .i16 a0_2, .int .i16 a0_3, .int .i16 a0_4] 77 (0, 0)) q96x2_ hb); have n1_ := aM96_ (below_step q96x1_ hb); have n2_ := aM96_ (hbox); have n3_ := aM96_ ((q96x7_ : w.heap.size ≤ gb106)); have n4_ := aM96_ ((q96x7_ : w.heap.size ≤ gb106)); have n5_ := aM96_ ((q96x4_ : gb105 ≠ gb106)); have n6_ := aM96_ ((q96x5_ : gb106 ≠ gb105)); clear BK105; clear HB; have BK105 := n0_; have HB := n1_; have BK106 := n2_; have GW106 := n3_; have GE106 := n4_; have NB105_106 := n5_; have NB106_105 := n6_; clear n0_ n1_ n2_ n3_ n4_ n5_ n6_; clear hb hbox hg; have hnb26 := NB105_106.out; have hnc26 := NB106_105.out; have hcz27_0 : w25.cell? ⟨gb105, 0, none⟩ = some (.int .i8 a0_0) := (kC96_ BK105.out 0).trans rfl; have hcz27_1 : w25.cell? ⟨gb105, 1, none⟩ = some (.int .i8 a0_1) := (kC96_ BK105.out 1).trans rfl; have hcz27_2 : w25.cell? ⟨gb105, 2, none⟩ = some (.int .i16 a0_2) := (kC96_ BK105.out 2).trans rfl; have hcz27_3 : w25.cell? ⟨gb105, 3, none⟩ = some (.int .i16 a0_3) := (kC96_ BK105.out 3).trans rfl; have hcz27_4 : w25.cell? ⟨gb105, 4, none⟩ = some (.int .i16 a0_4) := (kC96_ BK105.out 4).trans rfl; have hfz27_0 := blk_frozen BK105.out 0; have hfz27_1 := blk_frozen BK105.out 1; have hfz27_2 := blk_frozen BK105.out 2; have hfz27_3 := blk_frozen BK105.out 3; have hfz27_4 := blk_frozen BK105.out 4; have hcz28_0 : w25.cell? ⟨gb106, 0, none⟩ = some (.int .i8 a1_0) := (kC96_ BK106.out 0).trans rfl; have hcz28_1 : w25.cell? ⟨gb106, 1, none⟩ = some (.int .i8 a1_1) := (kC96_ BK106.out 1).trans rfl; have hcz28_2 : w25.cell? ⟨gb106, 2, none⟩ = some (.int .i16 a1_2) := (kC96_ BK106.out 2).trans rfl; have hcz28_3 : w25.cell? ⟨gb106, 3, none⟩ = some (.int .i16 a1_3) := (kC96_ BK106.out 3).trans rfl; have hcz28_4 : w25.cell? ⟨gb106, 4, none⟩ = some (.int .i16 a1_4) := (kC96_ BK106.out 4).trans rfl; have hfz28_0 := blk_frozen BK106.out 0; have hfz28_1 := blk_frozen BK106.out 1; have hfz28_2 := blk_frozen BK106.out 2; have hfz28_3 := blk_frozen BK106.out 3; have hfz28_4 := blk_frozen BK106.out 4))
  go_ret
  exact ⟨by first | rfl | (simp [errW_none, errW_some] <;> rfl) | (simp [*, errW_none, errW_some] <;> rfl), by repeat (first | (with_reducible first | exact HB.out | apply below_alloc | apply pw_below_drewN | apply below_drew1 | refine below_set ?_ GE105.out | refine below_set ?_ GE106.out) | exact HB.out)⟩

 rw [if_pos c3] at H
 have c3b0 : (a0_0 == a1_0) = true := beq_iff_eq.mpr c3
 have c3b1 : (a0_0 != a1_0) = false := bne_eq_false_iff_eq.mpr c3
 clear c3
 by_cases c4 : a0_1 = a1_1
 rotate_left
 ·rw [if_neg c4] at H
  have c4b0 : (a0_1 == a1_1) = false := beq_eq_false_iff_ne.mpr c4
  have c4b1 : (a0_1 != a1_1) = true := bne_iff_ne.mpr c4
  obtain rfl := Option.some.inj H
  go_enter Try.func96, Try.ntmps96
  go_wp2_with (first | ((with_reducible refine gate_dst (N := 2) rfl ?_); refine box_event ?hg (N := 2) ?hd (cs := #[.int .i8 a0_0, .int .i8 a0_1, .int .i16 a0_2, .int .i16 a0_3, .int .i16 a0_4]) (t := 77) ?hr ?_; (case hd => rfl); (case hg => rfl); (case hr => first | (go_simp; done) | (go_simp; rfl)); intro gb105 hg w19 hbox hb; have n0_ := aM96_ (below_step q96x3_ hb); have n1_ := aM96_ (hbox); have n2_ := aM96_ ((q96x6_ : w.heap.size ≤ gb105)); have n3_ := aM96_ ((q96x6_ : w.heap.size ≤ gb105)); clear HB; have HB := n0_; have BK105 := n1_; have GW105 := n2_; have GE105 := n3_; clear n0_ n1_ n2_ n3_; clear hb hbox hg) | ((with_reducible refine gate_dst (N := 3) rfl ?_); refine box_event ?hg (N := 3) ?hd (cs := #[.int .i8 a1_0, .int .i8 a1_1, .int .i16 a1_2, .int .i16 a1_3, .int .i16 a1_4]) (t := 77) ?hr ?_; (case hd => rfl); (case hg => rfl); (case hr => first | (go_simp; done) | (go_simp; rfl)); intro gb106 hg w20 hbox hb; have n0_ := aM96_ (blk_below (g := gb105) (o := .cells #[.int .i8 a0_0, .int .i8 a0_1, .int .i16 a0_2, .int .i16 a0_3, .int .i16 a0_4] 77 (0, 0)) q96x2_ hb); have n1_ := aM96_ (below_step q96x1_ hb); have n2_ := aM96_ (hbox); have n3_ := aM96_ ((q96x7_ : w.heap.size ≤ gb106)); have n4_ := aM96_ ((q96x7_ : w.heap.size ≤ gb106)); have n5_ := aM96_ ((q96x4_ : gb105 ≠ gb106)); have n6_ := aM96_ ((q96x5_ : gb106 ≠ gb105)); clear BK105; clear HB; have BK105 := n0_; have HB := n1_; have BK106 := n2_; have GW106 := n3_; have GE106 := n4_; have NB105_106 := n5_; have NB106_105 := n6_; clear n0_ n1_ n2_ n3_ n4_ n5_ n6_; clear hb hbox hg; have hnb21 := NB105_106.out; have hnc21 := NB106_105.out; have hcz22_0 : w20.cell? ⟨gb105, 0, none⟩ = some (.int .i8 a0_0) := (kC96_ BK105.out 0).trans rfl; have hcz22_1 : w20.cell? ⟨gb105, 1, none⟩ = some (.int .i8 a0_1) := (kC96_ BK105.out 1).trans rfl; have hcz22_2 : w20.cell? ⟨gb105, 2, none⟩ = some (.int .i16 a0_2) := (kC96_ BK105.out 2).trans rfl; have hcz22_3 : w20.cell? ⟨gb105, 3, none⟩ = some (.int .i16 a0_3) := (kC96_ BK105.out 3).trans rfl; have hcz22_4 : w20.cell? ⟨gb105, 4, none⟩ = some (.int .i16 a0_4) := (kC96_ BK105.out 4).trans rfl; have hfz22_0 := blk_frozen BK105.out 0; have hfz22_1 := blk_frozen BK105.out 1; have hfz22_2 := blk_frozen BK105.out 2; have hfz22_3 := blk_frozen BK105.out 3; have hfz22_4 := blk_frozen BK105.out 4; have hcz23_0 : w20.cell? ⟨gb106, 0, none⟩ = some (.int .i8 a1_0) := (kC96_ BK106.out 0).trans rfl; have hcz23_1 : w20.cell? ⟨gb106, 1, none⟩ = some (.int .i8 a1_1) := (kC96_ BK106.out 1).trans rfl; have hcz23_2 : w20.cell? ⟨gb106, 2, none⟩ = some (.int .i16 a1_2) := (kC96_ BK106.out 2).trans rfl; have hcz23_3 : w20.cell? ⟨gb106, 3, none⟩ = some (.int .i16 a1_3) := (kC96_ BK106.out 3).trans rfl; have hcz23_4 : w20.cell? ⟨gb106, 4, none⟩ = some (.int .i16 a1_4) := (kC96_ BK106.out 4).trans rfl; have hfz23_0 := blk_frozen BK106.out 0; have hfz23_1 := blk_frozen BK106.out 1; have hfz23_2 := blk_frozen BK106.out 2; have hfz23_3 := blk_frozen BK106.out 3; have hfz23_4 := blk_frozen BK106.out 4))
  go_ret
  exact ⟨by first | rfl | (simp [errW_none, errW_some] <;> rfl) | (simp [*, errW_none, errW_some] <;> rfl), by repeat (first | (with_reducible first | exact HB.out | apply below_alloc | apply pw_below_drewN | apply below_drew1 | refine below_set ?_ GE105.out | refine below_set ?_ GE106.out) | exact HB.out)⟩
 rw [if_pos c4] at H
 have c4b0 : (a0_1 == a1_1) = true := beq_iff_eq.mpr c4
 have c4b1 : (a0_1 != a1_1) = false := bne_eq_false_iff_eq.mpr c4
 clear c4
 replace H := Option.bind_eq_some_iff.mp H
 obtain ⟨t107, A50, H⟩ := H
 replace H : (if t107 = true then (some true) else (some false)) = some r := H
 have A5 := aM96_ A50
 clear A50
 by_cases c6 : t107 = true
 ·subst c6
  have H1 : (some true) = some r := by rw [if_pos rfl] at H; exact H
  clear H
  have H := H1
  clear H1
  obtain rfl := Option.some.inj H
  go_enter Try.func96, Try.ntmps96
  go_wp2_with (first | ((with_reducible refine gate_dst (N := 2) rfl ?_); refine box_event ?hg (N := 2) ?hd (cs := #[.int .i8 a0_0, .int .i8 a0_1, .int .i16 a0_2, .int .i16 a0_3, .int .i16 a0_4]) (t := 77) ?hr ?_; (case hd => rfl); (case hg => rfl); (case hr => first | (go_simp; done) | (go_simp; rfl)); intro gb105 hg w7 hbox hb; have n0_ := aM96_ (below_step q96x3_ hb); have n1_ := aM96_ (hbox); have n2_ := aM96_ ((q96x6_ : w.heap.size ≤ gb105)); have n3_ := aM96_ ((q96x6_ : w.heap.size ≤ gb105)); clear HB; have HB := n0_; have BK105 := n1_; have GW105 := n2_; have GE105 := n3_; clear n0_ n1_ n2_ n3_; clear hb hbox hg) | ((with_reducible refine gate_dst (N := 3) rfl ?_); refine box_event ?hg (N := 3) ?hd (cs := #[.int .i8 a1_0, .int .i8 a1_1, .int .i16 a1_2, .int .i16 a1_3, .int .i16 a1_4]) (t := 77) ?hr ?_; (case hd => rfl); (case hg => rfl); (case hr => first | (go_simp; done) | (go_simp; rfl)); intro gb106 hg w8 hbox hb; have n0_ := aM96_ (blk_below (g := gb105) (o := .cells #[.int .i8 a0_0, .int .i8 a0_1, .int .i16 a0_2, .int .i16 a0_3, .int .i16 a0_4] 77 (0, 0)) q96x2_ hb); have n1_ := aM96_ (below_step q96x1_ hb); have n2_ := aM96_ (hbox); have n3_ := aM96_ ((q96x7_ : w.heap.size ≤ gb106)); have n4_ := aM96_ ((q96x7_ : w.heap.size ≤ gb106)); have n5_ := aM96_ ((q96x4_ : gb105 ≠ gb106)); have n6_ := aM96_ ((q96x5_ : gb106 ≠ gb105)); clear BK105; clear HB; have BK105 := n0_; have HB := n1_; have BK106 := n2_; have GW106 := n3_; have GE106 := n4_; have NB105_106 := n5_; have NB106_105 := n6_; clear n0_ n1_ n2_ n3_ n4_ n5_ n6_; clear hb hbox hg; have hnb9 := NB105_106.out; have hnc9 := NB106_105.out; have hcz10_0 : w8.cell? ⟨gb105, 0, none⟩ = some (.int .i8 a0_0) := (kC96_ BK105.out 0).trans rfl; have hcz10_1 : w8.cell? ⟨gb105, 1, none⟩ = some (.int .i8 a0_1) := (kC96_ BK105.out 1).trans rfl; have hcz10_2 : w8.cell? ⟨gb105, 2, none⟩ = some (.int .i16 a0_2) := (kC96_ BK105.out 2).trans rfl; have hcz10_3 : w8.cell? ⟨gb105, 3, none⟩ = some (.int .i16 a0_3) := (kC96_ BK105.out 3).trans rfl; have hcz10_4 : w8.cell? ⟨gb105, 4, none⟩ = some (.int .i16 a0_4) := (kC96_ BK105.out 4).trans rfl; have hfz10_0 := blk_frozen BK105.out 0; have hfz10_1 := blk_frozen BK105.out 1; have hfz10_2 := blk_frozen BK105.out 2; have hfz10_3 := blk_frozen BK105.out 3; have hfz10_4 := blk_frozen BK105.out 4; have hcz11_0 : w8.cell? ⟨gb106, 0, none⟩ = some (.int .i8 a1_0) := (kC96_ BK106.out 0).trans rfl; have hcz11_1 : w8.cell? ⟨gb106, 1, none⟩ = some (.int .i8 a1_1) := (kC96_ BK106.out 1).trans rfl; have hcz11_2 : w8.cell? ⟨gb106, 2, none⟩ = some (.int .i16 a1_2) := (kC96_ BK106.out 2).trans rfl; have hcz11_3 : w8.cell? ⟨gb106, 3, none⟩ = some (.int .i16 a1_3) := (kC96_ BK106.out 3).trans rfl; have hcz11_4 : w8.cell? ⟨gb106, 4, none⟩ = some (.int .i16 a1_4) := (kC96_ BK106.out 4).trans rfl; have hfz11_0 := blk_frozen BK106.out 0; have hfz11_1 := blk_frozen BK106.out 1; have hfz11_2 := blk_frozen BK106.out 2; have hfz11_3 := blk_frozen BK106.out 3; have hfz11_4 := blk_frozen BK106.out 4) | ((with_reducible refine gate_callee (f := 144) rfl ?_); refine goesL_ (some 19) rfl rfl Try.func144 (by kernel_rfl) rfl #[.agg #[.int .i16 a0_2, .int .i16 a0_3, .int .i16 a0_4], .agg #[.int .i16 a1_2, .int .i16 a1_3, .int .i16 a1_4]] rfl (by (try simp only [List.map_toArray, List.map_cons, List.map_nil]); first | done | rfl | (simp only [List.length_drop, List.length_take]; rfl)) ?_; (with_reducible refine (laws_eqInt16A3.calls k a0_2 a0_3 a0_4 a1_2 a1_3 a1_4 true _ A5.out).mono ?_); rintro e w12 ⟨rfl, hb⟩; refine ⟨_, rfl, ?_⟩; have n0_ := aM96_ (blk_below (g := gb105) (o := .cells #[.int .i8 a0_0, .int .i8 a0_1, .int .i16 a0_2, .int .i16 a0_3, .int .i16 a0_4] 77 (0, 0)) q96x2_ hb); have n1_ := aM96_ (blk_below (g := gb106) (o := .cells #[.int .i8 a1_0, .int .i8 a1_1, .int .i16 a1_2, .int .i16 a1_3, .int .i16 a1_4] 77 (0, 0)) (by (with_reducible repeat (first | refine blk_drewN ?_ _ | refine blk_drew ?_ | refine blk_alloc ?_ _)); exact BK106.out) hb); have n2_ := aM96_ (below_step q96x8_ hb); clear BK105; clear BK106; clear HB; have BK105 := n0_; have BK106 := n1_; have HB := n2_; clear n0_ n1_ n2_; (try clear hb); (try clear hb2); (try clear hk); (try clear hi)))
  go_ret
  exact ⟨by first | rfl | (simp [errW_none, errW_some] <;> rfl) | (simp [*, errW_none, errW_some] <;> rfl), by repeat (first | (with_reducible first | exact HB.out | apply below_alloc | apply pw_below_drewN | apply below_drew1 | refine below_set ?_ GE105.out | refine below_set ?_ GE106.out) | exact HB.out)⟩
 replace c6 := Bool.eq_false_iff.mpr c6
 subst c6
 have H1 : (some false) = some r := by rw [if_neg (show ¬ (false = true) by decide)] at H; exact H
 clear H
 have H := H1
 clear H1
 obtain rfl := Option.some.inj H
 go_enter Try.func96, Try.ntmps96
 go_wp2_with (first | ((with_reducible refine gate_dst (N := 2) rfl ?_); refine box_event ?hg (N := 2) ?hd (cs := #[.int .i8 a0_0, .int .i8 a0_1, .int .i16 a0_2, .int .i16 a0_3, .int .i16 a0_4]) (t := 77) ?hr ?_; (case hd => rfl); (case hg => rfl); (case hr => first | (go_simp; done) | (go_simp; rfl)); intro gb105 hg w13 hbox hb; have n0_ := aM96_ (below_step q96x3_ hb); have n1_ := aM96_ (hbox); have n2_ := aM96_ ((q96x6_ : w.heap.size ≤ gb105)); have n3_ := aM96_ ((q96x6_ : w.heap.size ≤ gb105)); clear HB; have HB := n0_; have BK105 := n1_; have GW105 := n2_; have GE105 := n3_; clear n0_ n1_ n2_ n3_; clear hb hbox hg) | ((with_reducible refine gate_dst (N := 3) rfl ?_); refine box_event ?hg (N := 3) ?hd (cs := #[.int .i8 a1_0, .int .i8 a1_1, .int .i16 a1_2, .int .i16 a1_3, .int .i16 a1_4]) (t := 77) ?hr ?_; (case hd => rfl); (case hg => rfl); (case hr => first | (go_simp; done) | (go_simp; rfl)); intro gb106 hg w14 hbox hb; have n0_ := aM96_ (blk_below (g := gb105) (o := .cells #[.int .i8 a0_0, .int .i8 a0_1, .int .i16 a0_2, .int .i16 a0_3, .int .i16 a0_4] 77 (0, 0)) q96x2_ hb); have n1_ := aM96_ (below_step q96x1_ hb); have n2_ := aM96_ (hbox); have n3_ := aM96_ ((q96x7_ : w.heap.size ≤ gb106)); have n4_ := aM96_ ((q96x7_ : w.heap.size ≤ gb106)); have n5_ := aM96_ ((q96x4_ : gb105 ≠ gb106)); have n6_ := aM96_ ((q96x5_ : gb106 ≠ gb105)); clear BK105; clear HB; have BK105 := n0_; have HB := n1_; have BK106 := n2_; have GW106 := n3_; have GE106 := n4_; have NB105_106 := n5_; have NB106_105 := n6_; clear n0_ n1_ n2_ n3_ n4_ n5_ n6_; clear hb hbox hg; have hnb15 := NB105_106.out; have hnc15 := NB106_105.out; have hcz16_0 : w14.cell? ⟨gb105, 0, none⟩ = some (.int .i8 a0_0) := (kC96_ BK105.out 0).trans rfl; have hcz16_1 : w14.cell? ⟨gb105, 1, none⟩ = some (.int .i8 a0_1) := (kC96_ BK105.out 1).trans rfl; have hcz16_2 : w14.cell? ⟨gb105, 2, none⟩ = some (.int .i16 a0_2) := (kC96_ BK105.out 2).trans rfl; have hcz16_3 : w14.cell? ⟨gb105, 3, none⟩ = some (.int .i16 a0_3) := (kC96_ BK105.out 3).trans rfl; have hcz16_4 : w14.cell? ⟨gb105, 4, none⟩ = some (.int .i16 a0_4) := (kC96_ BK105.out 4).trans rfl; have hfz16_0 := blk_frozen BK105.out 0; have hfz16_1 := blk_frozen BK105.out 1; have hfz16_2 := blk_frozen BK105.out 2; have hfz16_3 := blk_frozen BK105.out 3; have hfz16_4 := blk_frozen BK105.out 4; have hcz17_0 : w14.cell? ⟨gb106, 0, none⟩ = some (.int .i8 a1_0) := (kC96_ BK106.out 0).trans rfl; have hcz17_1 : w14.cell? ⟨gb106, 1, none⟩ = some (.int .i8 a1_1) := (kC96_ BK106.out 1).trans rfl; have hcz17_2 : w14.cell? ⟨gb106, 2, none⟩ = some (.int .i16 a1_2) := (kC96_ BK106.out 2).trans rfl; have hcz17_3 : w14.cell? ⟨gb106, 3, none⟩ = some (.int .i16 a1_3) := (kC96_ BK106.out 3).trans rfl; have hcz17_4 : w14.cell? ⟨gb106, 4, none⟩ = some (.int .i16 a1_4) := (kC96_ BK106.out 4).trans rfl; have hfz17_0 := blk_frozen BK106.out 0; have hfz17_1 := blk_frozen BK106.out 1; have hfz17_2 := blk_frozen BK106.out 2; have hfz17_3 := blk_frozen BK106.out 3; have hfz17_4 := blk_frozen BK106.out 4) | ((with_reducible refine gate_callee (f := 144) rfl ?_); refine goesL_ (some 19) rfl rfl Try.func144 (by kernel_rfl) rfl #[.agg #[.int .i16 a0_2, .int .i16 a0_3, .int .i16 a0_4], .agg #[.int .i16 a1_2, .int .i16 a1_3, .int .i16 a1_4]] rfl (by (try simp only [List.map_toArray, List.map_cons, List.map_nil]); first | done | rfl | (simp only [List.length_drop, List.length_take]; rfl)) ?_; (with_reducible refine (laws_eqInt16A3.calls k a0_2 a0_3 a0_4 a1_2 a1_3 a1_4 false _ A5.out).mono ?_); rintro e w18 ⟨rfl, hb⟩; refine ⟨_, rfl, ?_⟩; have n0_ := aM96_ (blk_below (g := gb105) (o := .cells #[.int .i8 a0_0, .int .i8 a0_1, .int .i16 a0_2, .int .i16 a0_3, .int .i16 a0_4] 77 (0, 0)) q96x2_ hb); have n1_ := aM96_ (blk_below (g := gb106) (o := .cells #[.int .i8 a1_0, .int .i8 a1_1, .int .i16 a1_2, .int .i16 a1_3, .int .i16 a1_4] 77 (0, 0)) (by (with_reducible repeat (first | refine blk_drewN ?_ _ | refine blk_drew ?_ | refine blk_alloc ?_ _)); exact BK106.out) hb); have n2_ := aM96_ (below_step q96x8_ hb); clear BK105; clear BK106; clear HB; have BK105 := n0_; have BK106 := n1_; have HB := n2_; clear n0_ n1_ n2_; (try clear hb); (try clear hb2); (try clear hk); (try clear hi)))
 go_ret
 exact ⟨by first | rfl | (simp [errW_none, errW_some] <;> rfl) | (simp [*, errW_none, errW_some] <;> rfl), by repeat (first | (with_reducible first | exact HB.out | apply below_alloc | apply pw_below_drewN | apply below_drew1 | refine below_set ?_ GE105.out | refine below_set ?_ GE106.out) | exact HB.out)⟩
set_option linter.defProp false

theorem q57x1_ {P : Prop} (h : P := by first | (with_reducible assumption) | assumption) : P := h
theorem q57x2_ {P : Prop} (h : P := by intro w'; go_simp; with_reducible rfl) : P := h
theorem q57x3_ {P : Prop} (h : P := by simp only [Act.put, List.setIfInBounds_toArray, List.set_cons_zero, List.set_cons_succ, i64_w, i32_w]; rfl) : P := h
theorem q57x4_ {P : Prop} (h : P := by rintro w' ⟨s0, s1, s2, s3, s4, s5, s6, s7, s8, s9⟩; go_simp; with_reducible rfl) : P := h
/-! ### laws_eqForkS: function 57 -/
def laws_eqForkS.l0 : Nat → List (S77) → List (S77) → Int → Option (Bool)
 | 0, _, _, _ => none
 | k + 1, x0, x1, x5 => if x5 < (x0.length : Int) then (if 0 ≤ x5 then (if x5 < (x1.length : Int) then ((laws_eqFork.f k ((rd_T77 x0 x5).f0) ((rd_T77 x0 x5).f1) ((rd_T77 x0 x5).f2.f0) ((rd_T77 x0 x5).f2.f1) ((rd_T77 x0 x5).f2.f2) ((rd_T77 x1 x5).f0) ((rd_T77 x1 x5).f1) ((rd_T77 x1 x5).f2.f0) ((rd_T77 x1 x5).f2.f1) ((rd_T77 x1 x5).f2.f2)).bind fun t110 => (if t110 = true then (laws_eqForkS.l0 k x0 x1 (wrap64 (x5 + 1))) else (some false))) else (none)) else (none)) else (some true)
def laws_eqForkS.f (k : Nat) (l0 : List (S77)) (l1 : List (S77)) : Option (Bool) := if (l0.length : Int) = (l1.length : Int) then (laws_eqForkS.l0 k l0 l1 0) else (some false)
theorem laws_eqForkS.mono_l : ∀ k, (∀ y0 y1 y2, LeO (laws_eqForkS.l0 k y0 y1 y2) (laws_eqForkS.l0 (k + 1) y0 y1 y2))
 | 0 => fun _ _ _ r h => by simp [laws_eqForkS.l0] at h
 | k + 1 => by
  have ih0 := laws_eqForkS.mono_l k
  intro y0 y1 y2
  unfold laws_eqForkS.l0
  repeat' first
  | (with_reducible exact ih0 _ _ _)
  | (with_reducible exact laws_eqFork.mono _ _ _ _ _ _ _ _ _ _ _)
  | (with_reducible exact LeO.refl _)
  | (with_reducible exact LeO.none _)
  | (with_reducible refine LeO.ite ?_ ?_)
  | (with_reducible refine LeO.bind ?_ (fun _ => ?_))
  | exact ih0 _ _ _
  | exact laws_eqFork.mono _ _ _ _ _ _ _ _ _ _ _
  | exact LeO.none _
  | refine LeO.ite ?_ ?_
  | refine LeO.bind ?_ (fun _ => ?_)
theorem laws_eqForkS.mono : ∀ a0 a1 k, LeO (laws_eqForkS.f k a0 a1) (laws_eqForkS.f (k + 1) a0 a1) := by
 intro a0 a1 k
 have ih0 := laws_eqForkS.mono_l k
 unfold laws_eqForkS.f
 repeat' first
   | (with_reducible exact ih0 _ _ _)
   | (with_reducible exact laws_eqFork.mono _ _ _ _ _ _ _ _ _ _ _)
   | (with_reducible exact LeO.refl _)
   | (with_reducible exact LeO.none _)
   | (with_reducible refine LeO.ite ?_ ?_)
   | (with_reducible refine LeO.bind ?_ (fun _ => ?_))
   | exact ih0 _ _ _
   | exact laws_eqFork.mono _ _ _ _ _ _ _ _ _ _ _
   | exact LeO.none _
   | refine LeO.ite ?_ ?_
   | refine LeO.bind ?_ (fun _ => ?_)
def laws_eqForkS.T6 : Bool × List (List Nat × List Nat) := (true, [([], []), ([], []), ([0, 1], [0, 1]), ([2], [2]), ([], []), ([], []), ([4, 5], [4, 5]), ([6], [6]), ([3, 7], [3, 7]), ([8], [8])])
def laws_eqForkS.B6 : List Nat := [0, 0, 3, 7, 0, 0, 48, 112, 255, 511]
theorem laws_eqForkS.tab6 : rtab .any (opsOf Try.f57 6) = laws_eqForkS.T6 := by kernel_rfl
theorem laws_eqForkS.bits6 : waitsOk laws_eqForkS.T6.2 laws_eqForkS.B6 = true := by kernel_rfl
set_option maxHeartbeats 8000000 in
set_option maxRecDepth 100000 in
theorem laws_eqForkS.calls (k : Nat) (A0 : Option Addr) (c0 : Nat) (l0 : List (S77)) (A1 : Option Addr) (c1 : Nat) (l1 : List (S77)) (r : Bool) (w : World) (hr0 : Kd.C k77 w A0 l0.length l0) (hc0 : l0.length ≤ c0) (hr1 : Kd.C k77 w A1 l1.length l1) (hc1 : l1.length ≤ c1) (h : laws_eqForkS.f k l0 l1 = some r) :
  Calls Try.prog 57 #[.slice A0 l0.length c0, .slice A1 l1.length c1] w fun e w' => e = .returned (.bool r) ∧ Below w.heap.size w w' := by
 have hu77 := Try.underlying77
 have HR0 := Aside0.mk hr0
 have HC0 := Aside0.mk hc0
 clear hr0 hc0
 have HR1 := Aside0.mk hr1
 have HC1 := Aside0.mk hc1
 clear hr1 hc1
 have HB := Aside0.mk (Below.refl w.heap.size w)
 have H : (if (l0.length : Int) = (l1.length : Int) then (laws_eqForkS.l0 k l0 l1 0) else (some false)) = some r := h
 clear h
 by_cases c3 : (l0.length : Int) = (l1.length : Int)
 rotate_left
 ·rw [if_neg c3] at H
  have c3b0 : ((l0.length : Int) == (l1.length : Int)) = false := beq_eq_false_iff_ne.mpr c3
  have c3b1 : ((l0.length : Int) != (l1.length : Int)) = true := bne_iff_ne.mpr c3
  have c3b2 : (l0.length == l1.length) = false := by first | simpa using c3 | (simp at c3 ⊢; omega)
  obtain rfl := Option.some.inj H
  go_enter Try.func57, Try.ntmps57
  go_wp2
  go_ret
  exact ⟨by first | rfl | (simp [errW_none, errW_some] <;> rfl) | (simp [*, errW_none, errW_some] <;> rfl), by repeat (first | (with_reducible first | exact HB.out | apply below_alloc | apply pw_below_drewN | apply below_drew1) | exact HB.out)⟩

 rw [if_pos c3] at H
 have c3b0 : ((l0.length : Int) == (l1.length : Int)) = true := beq_iff_eq.mpr c3
 have c3b1 : ((l0.length : Int) != (l1.length : Int)) = false := bne_eq_false_iff_eq.mpr c3
 have c3b2 : (l0.length == l1.length) = true := by first | simpa using c3 | (simp at c3 ⊢; omega)
 clear c3
 have H' := Aside0.mk H
 clear H
 go_enter Try.func57, Try.ntmps57
 go_wp2
 go_loopg [5] k (fun kq v5 w' => ∃ (x5_1 : Int), v5 = .int .i64 x5_1 ∧ Aside0 (laws_eqForkS.l0 kq l0 l1 x5_1 = some r) ∧ Aside0 (kq ≤ k) ∧ Aside0 (Below w.heap.size w w'))
 case atStart => exact ⟨(0), (by first | rfl | (simp; done) | (simp [*]; done)), H', ⟨Nat.le_refl _⟩, ⟨by repeat (first | (with_reducible first | exact HB.out | apply below_alloc | apply pw_below_drewN | apply below_drew1) | exact HB.out)⟩⟩
 case round =>
  clear H'
  try clear c1
  try clear p2
  try clear c3
  try clear c3b0
  try clear c3b1
  try clear c3b2
  obtain ⟨x5_1, rfl, HA, HK1, HB⟩ := hrel
  cases gk with
  | zero => exact absurd HA.out (by simp [laws_eqForkS.l0])
  | succ k1 =>
   have H := HA.out
   clear HA
   simp only [laws_eqForkS.l0] at H
   by_cases c4 : x5_1 < (l0.length : Int)
   rotate_left
   ·rw [if_neg c4] at H
    have c4b0 : decide (x5_1 < (l0.length : Int)) = false := decide_eq_false c4
    clear c4
    obtain rfl := Option.some.inj H
    go_wp2
    go_ret
    exact ⟨by first | rfl | (simp [errW_none, errW_some] <;> rfl) | (simp [*, errW_none, errW_some] <;> rfl), by repeat (first | (with_reducible first | exact HB.out | apply below_alloc | apply pw_below_drewN | apply below_drew1) | exact HB.out)⟩
   rw [if_pos c4] at H
   have c4b0 : decide (x5_1 < (l0.length : Int)) = true := decide_eq_true c4
   clear c4
   by_cases c5 : 0 ≤ x5_1
   rotate_left
   ·rw [if_neg c5] at H
    exact absurd H (by simp)
   rw [if_pos c5] at H
   have c5b0 : decide (0 ≤ x5_1) = true := decide_eq_true c5
   clear c5
   by_cases c6 : x5_1 < (l1.length : Int)
   rotate_left
   ·rw [if_neg c6] at H
    exact absurd H (by simp)
   rw [if_pos c6] at H
   have c6b0 : decide (x5_1 < (l1.length : Int)) = true := decide_eq_true c6
   clear c6
   replace H := Option.bind_eq_some_iff.mp H
   obtain ⟨t110, A70, H⟩ := H
   replace H : (if t110 = true then (laws_eqForkS.l0 k1 l0 l1 (wrap64 (x5_1 + 1))) else (some false)) = some r := H
   have A7 := Aside0.mk A70
   clear A70
   by_cases c8 : t110 = true
   ·subst c8
    have H1 : (laws_eqForkS.l0 k1 l0 l1 (wrap64 (x5_1 + 1))) = some r := by rw [if_pos rfl] at H; exact H
    clear H
    have H := H1
    clear H1
    have H' := Aside0.mk H
    clear H
    try go_wp2
    have n0_ := Aside0.mk (below_drew1 HB.out)
    clear HB
    have HB := n0_
    clear n0_
    have p108 : 0 ≤ (x5_1 : Int) := of_decide_eq_true q57x1_
    have q108 : x5_1 < (l0.length : Int) := of_decide_eq_true q57x1_
    obtain ⟨ad108, e108, hx108_0, hx108_1, hx108_2, hx108_3, hx108_4⟩ := at_T77 HR0.out x5_1 p108 q108
    have hw108_4 := hx108_4
    have hw108_3 := hx108_3
    have hw108_2 := hx108_2
    have hw108_1 := hx108_1
    have hw108_0 := hx108_0
    cases e108
    replace hx108_0 := (HB.out.cell (World.block_lt_of_cell? w _ hx108_0)).trans hx108_0
    replace hx108_1 := (HB.out.cell (World.block_lt_of_cell? w _ hx108_1)).trans hx108_1
    replace hx108_2 := (HB.out.cell (World.block_lt_of_cell? w _ hx108_2)).trans hx108_2
    replace hx108_3 := (HB.out.cell (World.block_lt_of_cell? w _ hx108_3)).trans hx108_3
    replace hx108_4 := (HB.out.cell (World.block_lt_of_cell? w _ hx108_4)).trans hx108_4
    replace p108 := eq_true p108
    replace q108 := eq_true q108
    have p109 : 0 ≤ (x5_1 : Int) := of_decide_eq_true q57x1_
    have q109 : x5_1 < (l1.length : Int) := of_decide_eq_true q57x1_
    obtain ⟨ad109, e109, hx109_0, hx109_1, hx109_2, hx109_3, hx109_4⟩ := at_T77 HR1.out x5_1 p109 q109
    have hw109_4 := hx109_4
    have hw109_3 := hx109_3
    have hw109_2 := hx109_2
    have hw109_1 := hx109_1
    have hw109_0 := hx109_0
    cases e109
    replace hx109_0 := (HB.out.cell (World.block_lt_of_cell? w _ hx109_0)).trans hx109_0
    replace hx109_1 := (HB.out.cell (World.block_lt_of_cell? w _ hx109_1)).trans hx109_1
    replace hx109_2 := (HB.out.cell (World.block_lt_of_cell? w _ hx109_2)).trans hx109_2
    replace hx109_3 := (HB.out.cell (World.block_lt_of_cell? w _ hx109_3)).trans hx109_3
    replace hx109_4 := (HB.out.cell (World.block_lt_of_cell? w _ hx109_4)).trans hx109_4
    replace p109 := eq_true p109
    replace q109 := eq_true q109
    refine start_ (n := 10) (S := fun w' => w'.cell? (ad108.add ((x5_1).toNat * 5)) = some (.int .i8 ((rd_T77 l0 x5_1).f0)) ∧ w'.cell? ⟨(ad108.add ((x5_1).toNat * 5)).block, (ad108.add ((x5_1).toNat * 5)).off + 1, none⟩ = some (.int .i8 ((rd_T77 l0 x5_1).f1)) ∧ w'.cell? ⟨(ad108.add ((x5_1).toNat * 5)).block, (ad108.add ((x5_1).toNat * 5)).off + 2, none⟩ = some (.int .i16 ((rd_T77 l0 x5_1).f2.f0)) ∧ w'.cell? ⟨(ad108.add ((x5_1).toNat * 5)).block, (ad108.add ((x5_1).toNat * 5)).off + 3, none⟩ = some (.int .i16 ((rd_T77 l0 x5_1).f2.f1)) ∧ w'.cell? ⟨(ad108.add ((x5_1).toNat * 5)).block, (ad108.add ((x5_1).toNat * 5)).off + 4, none⟩ = some (.int .i16 ((rd_T77 l0 x5_1).f2.f2)) ∧ w'.cell? (ad109.add ((x5_1).toNat * 5)) = some (.int .i8 ((rd_T77 l1 x5_1).f0)) ∧ w'.cell? ⟨(ad109.add ((x5_1).toNat * 5)).block, (ad109.add ((x5_1).toNat * 5)).off + 1, none⟩ = some (.int .i8 ((rd_T77 l1 x5_1).f1)) ∧ w'.cell? ⟨(ad109.add ((x5_1).toNat * 5)).block, (ad109.add ((x5_1).toNat * 5)).off + 2, none⟩ = some (.int .i16 ((rd_T77 l1 x5_1).f2.f0)) ∧ w'.cell? ⟨(ad109.add ((x5_1).toNat * 5)).block, (ad109.add ((x5_1).toNat * 5)).off + 3, none⟩ = some (.int .i16 ((rd_T77 l1 x5_1).f2.f1)) ∧ w'.cell? ⟨(ad109.add ((x5_1).toNat * 5)).block, (ad109.add ((x5_1).toNat * 5)).off + 4, none⟩ = some (.int .i16 ((rd_T77 l1 x5_1).f2.f2))) (ds := []) #[false, false, false, false, false, false, false, false, false, false] (by kernel_rfl) rfl rfl ⟨((HB.out.cell (World.block_lt_of_cell? w _ hw108_0)).trans hw108_0), ((HB.out.cell (World.block_lt_of_cell? w _ hw108_1)).trans hw108_1), ((HB.out.cell (World.block_lt_of_cell? w _ hw108_2)).trans hw108_2), ((HB.out.cell (World.block_lt_of_cell? w _ hw108_3)).trans hw108_3), ((HB.out.cell (World.block_lt_of_cell? w _ hw108_4)).trans hw108_4), ((HB.out.cell (World.block_lt_of_cell? w _ hw109_0)).trans hw109_0), ((HB.out.cell (World.block_lt_of_cell? w _ hw109_1)).trans hw109_1), ((HB.out.cell (World.block_lt_of_cell? w _ hw109_2)).trans hw109_2), ((HB.out.cell (World.block_lt_of_cell? w _ hw109_3)).trans hw109_3), ((HB.out.cell (World.block_lt_of_cell? w _ hw109_4)).trans hw109_4)⟩ (fun hHeld => ?_); refine with_tabW laws_eqForkS.tab6 laws_eqForkS.bits6 (fun HT_ HW_ => ?_)
    generalize wr.drew = w9 at HB hx108_0 hx108_1 hx108_2 hx108_3 hx108_4 hx109_0 hx109_1 hx109_2 hx109_3 hx109_4 hHeld ⊢
    refine pure_ (i := 0) (N := some 17) (v := ?_) (a' := ?_) #[true, false, false, false, false, false, false, false, false, false] rfl rfl (any_of HT_.out (by kernel_rfl)) (fun _ _ _ h => h) (Or.inl ⟨by rfl, ?_⟩) ?_ ?_
    rotate_left
    ·exact q57x2_
    rotate_left
    ·exact q57x3_
    refine pure_ (i := 1) (N := some 18) (v := ?_) (a' := ?_) #[true, true, false, false, false, false, false, false, false, false] rfl rfl (any_of HT_.out (by kernel_rfl)) (fun _ _ _ h => h) (Or.inl ⟨by rfl, ?_⟩) ?_ ?_
    rotate_left
    ·exact q57x2_
    rotate_left
    ·exact q57x3_
    refine pure_ (i := 2) (N := some 19) (v := ?_) (a' := ?_) #[true, true, true, false, false, false, false, false, false, false] rfl rfl (any_of HT_.out (by kernel_rfl)) (fun _ _ _ h => h) (Or.inl ⟨by rfl, ?_⟩) ?_ ?_
    rotate_left
    ·exact q57x2_
    rotate_left
    ·exact q57x3_
    refine pure_ (i := 4) (N := some 21) (v := ?_) (a' := ?_) #[true, true, true, false, true, false, false, false, false, false] rfl rfl (any_of HT_.out (by kernel_rfl)) (fun _ _ _ h => h) (Or.inl ⟨by rfl, ?_⟩) ?_ ?_
    rotate_left
    ·exact q57x2_
    rotate_left
    ·exact q57x3_
    refine pure_ (i := 5) (N := some 22) (v := ?_) (a' := ?_) #[true, true, true, false, true, true, false, false, false, false] rfl rfl (any_of HT_.out (by kernel_rfl)) (fun _ _ _ h => h) (Or.inl ⟨by rfl, ?_⟩) ?_ ?_
    rotate_left
    ·exact q57x2_
    rotate_left
    ·exact q57x3_
    refine pure_ (i := 6) (N := some 23) (v := ?_) (a' := ?_) #[true, true, true, false, true, true, true, false, false, false] rfl rfl (any_of HT_.out (by kernel_rfl)) (fun _ _ _ h => h) (Or.inl ⟨by rfl, ?_⟩) ?_ ?_
    rotate_left
    ·exact q57x2_
    rotate_left
    ·exact q57x3_
    refine take_ (i := 3) (N := some 20) (v := ?_) (a' := ?_) #[true, true, true, true, true, true, true, false, false, false] rfl rfl (take_ofW HT_.out HW_.out (by kernel_rfl)) (fun _ _ _ h => h) (Or.inl ⟨by rfl, ?_⟩) hHeld ?_ ?_
    rotate_left
    ·exact q57x4_
    rotate_left
    ·exact q57x3_
    refine take_ (i := 7) (N := some 24) (v := ?_) (a' := ?_) #[true, true, true, true, true, true, true, true, false, false] rfl rfl (take_ofW HT_.out HW_.out (by kernel_rfl)) (fun _ _ _ h => h) (Or.inl ⟨by rfl, ?_⟩) hHeld ?_ ?_
    rotate_left
    ·exact q57x4_
    rotate_left
    ·exact q57x3_
    refine one_ (i := 8) (N := some 25) #[true, true, true, true, true, true, true, true, true, false] rfl rfl (one_of HT_.out (by kernel_rfl)) (by decide) (fun K hK => ?_)
    refine goes_ Try.func96 (by kernel_rfl) rfl #[.agg #[.int .i8 ((rd_T77 l0 x5_1).f0), .int .i8 ((rd_T77 l0 x5_1).f1), .int .i16 ((rd_T77 l0 x5_1).f2.f0), .int .i16 ((rd_T77 l0 x5_1).f2.f1), .int .i16 ((rd_T77 l0 x5_1).f2.f2)], .agg #[.int .i8 ((rd_T77 l1 x5_1).f0), .int .i8 ((rd_T77 l1 x5_1).f1), .int .i16 ((rd_T77 l1 x5_1).f2.f0), .int .i16 ((rd_T77 l1 x5_1).f2.f1), .int .i16 ((rd_T77 l1 x5_1).f2.f2)]] (by rfl) rfl rfl (by (try simp only [List.map_toArray, List.map_cons, List.map_nil]); first | done | rfl | (simp only [List.length_drop, List.length_take]; rfl)) ?_
    with_reducible refine (laws_eqFork.calls k1 ((rd_T77 l0 x5_1).f0) ((rd_T77 l0 x5_1).f1) ((rd_T77 l0 x5_1).f2.f0) ((rd_T77 l0 x5_1).f2.f1) ((rd_T77 l0 x5_1).f2.f2) ((rd_T77 l1 x5_1).f0) ((rd_T77 l1 x5_1).f1) ((rd_T77 l1 x5_1).f2.f0) ((rd_T77 l1 x5_1).f2.f1) ((rd_T77 l1 x5_1).f2.f2) true _ A7.out).mono ?_
    rintro e w10 ⟨rfl, hb⟩
    refine ⟨_, rfl, ?_⟩
    have n0_ := Aside0.mk (below_step (by repeat (first | (with_reducible first | exact HB.out | apply below_alloc | apply pw_below_drewN | apply below_drew1) | exact HB.out)) hb)
    clear HB
    have HB := n0_
    clear n0_
    (try clear hb)
    (try clear hb2)
    (try clear hk)
    (try clear hi)
    refine hK.out _ _ ⟨((HB.out.cell (World.block_lt_of_cell? w _ hw108_0)).trans hw108_0), ((HB.out.cell (World.block_lt_of_cell? w _ hw108_1)).trans hw108_1), ((HB.out.cell (World.block_lt_of_cell? w _ hw108_2)).trans hw108_2), ((HB.out.cell (World.block_lt_of_cell? w _ hw108_3)).trans hw108_3), ((HB.out.cell (World.block_lt_of_cell? w _ hw108_4)).trans hw108_4), ((HB.out.cell (World.block_lt_of_cell? w _ hw109_0)).trans hw109_0), ((HB.out.cell (World.block_lt_of_cell? w _ hw109_1)).trans hw109_1), ((HB.out.cell (World.block_lt_of_cell? w _ hw109_2)).trans hw109_2), ((HB.out.cell (World.block_lt_of_cell? w _ hw109_3)).trans hw109_3), ((HB.out.cell (World.block_lt_of_cell? w _ hw109_4)).trans hw109_4)⟩ (fun hHeld => ?_)
    clear hK K
    refine norm_ (a' := ?_) ?_ ?_
    rotate_left
    ·show Act.put _ (some 25) _ = _
     simp only [Act.put, List.setIfInBounds_toArray, List.set_cons_zero, List.set_cons_succ, i64_w, i32_w]
     rfl
    refine pure_ (i := 9) (N := some 26) (v := ?_) (a' := ?_) #[true, true, true, true, true, true, true, true, true, true] rfl rfl (any_of HT_.out (by kernel_rfl)) (fun _ _ _ h => h) (Or.inl ⟨by rfl, ?_⟩) ?_ ?_
    rotate_left
    ·exact q57x2_
    rotate_left
    ·exact q57x3_
    refine done_ (done_of HT_.out (by kernel_rfl)) ?_
    try go_wp2
    go_roundg k1
    case measure => have := HK1.out; omega
    case rel => exact ⟨(wrap64 (x5_1 + 1)), (by first | rfl | (simp; done) | (simp [*]; done)), H', ⟨by have := HK1.out; omega⟩, ⟨by repeat (first | (with_reducible first | exact HB.out | apply below_alloc | apply pw_below_drewN | apply below_drew1) | exact HB.out)⟩⟩
   replace c8 := Bool.eq_false_iff.mpr c8
   subst c8
   have H1 : (some false) = some r := by rw [if_neg (show ¬ (false = true) by decide)] at H; exact H
   clear H
   have H := H1
   clear H1
   obtain rfl := Option.some.inj H
   try go_wp2
   have n0_ := Aside0.mk (below_drew1 HB.out)
   clear HB
   have HB := n0_
   clear n0_
   have p108 : 0 ≤ (x5_1 : Int) := of_decide_eq_true q57x1_
   have q108 : x5_1 < (l0.length : Int) := of_decide_eq_true q57x1_
   obtain ⟨ad108, e108, hx108_0, hx108_1, hx108_2, hx108_3, hx108_4⟩ := at_T77 HR0.out x5_1 p108 q108
   have hw108_4 := hx108_4
   have hw108_3 := hx108_3
   have hw108_2 := hx108_2
   have hw108_1 := hx108_1
   have hw108_0 := hx108_0
   cases e108
   replace hx108_0 := (HB.out.cell (World.block_lt_of_cell? w _ hx108_0)).trans hx108_0
   replace hx108_1 := (HB.out.cell (World.block_lt_of_cell? w _ hx108_1)).trans hx108_1
   replace hx108_2 := (HB.out.cell (World.block_lt_of_cell? w _ hx108_2)).trans hx108_2
   replace hx108_3 := (HB.out.cell (World.block_lt_of_cell? w _ hx108_3)).trans hx108_3
   replace hx108_4 := (HB.out.cell (World.block_lt_of_cell? w _ hx108_4)).trans hx108_4
   replace p108 := eq_true p108
   replace q108 := eq_true q108
   have p109 : 0 ≤ (x5_1 : Int) := of_decide_eq_true q57x1_
   have q109 : x5_1 < (l1.length : Int) := of_decide_eq_true q57x1_
   obtain ⟨ad109, e109, hx109_0, hx109_1, hx109_2, hx109_3, hx109_4⟩ := at_T77 HR1.out x5_1 p109 q109
   have hw109_4 := hx109_4
   have hw109_3 := hx109_3
   have hw109_2 := hx109_2
   have hw109_1 := hx109_1
   have hw109_0 := hx109_0
   cases e109
   replace hx109_0 := (HB.out.cell (World.block_lt_of_cell? w _ hx109_0)).trans hx109_0
   replace hx109_1 := (HB.out.cell (World.block_lt_of_cell? w _ hx109_1)).trans hx109_1
   replace hx109_2 := (HB.out.cell (World.block_lt_of_cell? w _ hx109_2)).trans hx109_2
   replace hx109_3 := (HB.out.cell (World.block_lt_of_cell? w _ hx109_3)).trans hx109_3
   replace hx109_4 := (HB.out.cell (World.block_lt_of_cell? w _ hx109_4)).trans hx109_4
   replace p109 := eq_true p109
   replace q109 := eq_true q109
   refine start_ (n := 10) (S := fun w' => w'.cell? (ad108.add ((x5_1).toNat * 5)) = some (.int .i8 ((rd_T77 l0 x5_1).f0)) ∧ w'.cell? ⟨(ad108.add ((x5_1).toNat * 5)).block, (ad108.add ((x5_1).toNat * 5)).off + 1, none⟩ = some (.int .i8 ((rd_T77 l0 x5_1).f1)) ∧ w'.cell? ⟨(ad108.add ((x5_1).toNat * 5)).block, (ad108.add ((x5_1).toNat * 5)).off + 2, none⟩ = some (.int .i16 ((rd_T77 l0 x5_1).f2.f0)) ∧ w'.cell? ⟨(ad108.add ((x5_1).toNat * 5)).block, (ad108.add ((x5_1).toNat * 5)).off + 3, none⟩ = some (.int .i16 ((rd_T77 l0 x5_1).f2.f1)) ∧ w'.cell? ⟨(ad108.add ((x5_1).toNat * 5)).block, (ad108.add ((x5_1).toNat * 5)).off + 4, none⟩ = some (.int .i16 ((rd_T77 l0 x5_1).f2.f2)) ∧ w'.cell? (ad109.add ((x5_1).toNat * 5)) = some (.int .i8 ((rd_T77 l1 x5_1).f0)) ∧ w'.cell? ⟨(ad109.add ((x5_1).toNat * 5)).block, (ad109.add ((x5_1).toNat * 5)).off + 1, none⟩ = some (.int .i8 ((rd_T77 l1 x5_1).f1)) ∧ w'.cell? ⟨(ad109.add ((x5_1).toNat * 5)).block, (ad109.add ((x5_1).toNat * 5)).off + 2, none⟩ = some (.int .i16 ((rd_T77 l1 x5_1).f2.f0)) ∧ w'.cell? ⟨(ad109.add ((x5_1).toNat * 5)).block, (ad109.add ((x5_1).toNat * 5)).off + 3, none⟩ = some (.int .i16 ((rd_T77 l1 x5_1).f2.f1)) ∧ w'.cell? ⟨(ad109.add ((x5_1).toNat * 5)).block, (ad109.add ((x5_1).toNat * 5)).off + 4, none⟩ = some (.int .i16 ((rd_T77 l1 x5_1).f2.f2))) (ds := []) #[false, false, false, false, false, false, false, false, false, false] (by kernel_rfl) rfl rfl ⟨((HB.out.cell (World.block_lt_of_cell? w _ hw108_0)).trans hw108_0), ((HB.out.cell (World.block_lt_of_cell? w _ hw108_1)).trans hw108_1), ((HB.out.cell (World.block_lt_of_cell? w _ hw108_2)).trans hw108_2), ((HB.out.cell (World.block_lt_of_cell? w _ hw108_3)).trans hw108_3), ((HB.out.cell (World.block_lt_of_cell? w _ hw108_4)).trans hw108_4), ((HB.out.cell (World.block_lt_of_cell? w _ hw109_0)).trans hw109_0), ((HB.out.cell (World.block_lt_of_cell? w _ hw109_1)).trans hw109_1), ((HB.out.cell (World.block_lt_of_cell? w _ hw109_2)).trans hw109_2), ((HB.out.cell (World.block_lt_of_cell? w _ hw109_3)).trans hw109_3), ((HB.out.cell (World.block_lt_of_cell? w _ hw109_4)).trans hw109_4)⟩ (fun hHeld => ?_); refine with_tabW laws_eqForkS.tab6 laws_eqForkS.bits6 (fun HT_ HW_ => ?_)
   generalize wr.drew = w11 at HB hx108_0 hx108_1 hx108_2 hx108_3 hx108_4 hx109_0 hx109_1 hx109_2 hx109_3 hx109_4 hHeld ⊢
   refine pure_ (i := 0) (N := some 17) (v := ?_) (a' := ?_) #[true, false, false, false, false, false, false, false, false, false] rfl rfl (any_of HT_.out (by kernel_rfl)) (fun _ _ _ h => h) (Or.inl ⟨by rfl, ?_⟩) ?_ ?_
   rotate_left
   ·exact q57x2_
   rotate_left
   ·exact q57x3_
   refine pure_ (i := 1) (N := some 18) (v := ?_) (a' := ?_) #[true, true, false, false, false, false, false, false, false, false] rfl rfl (any_of HT_.out (by kernel_rfl)) (fun _ _ _ h => h) (Or.inl ⟨by rfl, ?_⟩) ?_ ?_
   rotate_left
   ·exact q57x2_
   rotate_left
   ·exact q57x3_
   refine pure_ (i := 2) (N := some 19) (v := ?_) (a' := ?_) #[true, true, true, false, false, false, false, false, false, false] rfl rfl (any_of HT_.out (by kernel_rfl)) (fun _ _ _ h => h) (Or.inl ⟨by rfl, ?_⟩) ?_ ?_
   rotate_left
   ·exact q57x2_
   rotate_left
   ·exact q57x3_
   refine pure_ (i := 4) (N := some 21) (v := ?_) (a' := ?_) #[true, true, true, false, true, false, false, false, false, false] rfl rfl (any_of HT_.out (by kernel_rfl)) (fun _ _ _ h => h) (Or.inl ⟨by rfl, ?_⟩) ?_ ?_
   rotate_left
   ·exact q57x2_
   rotate_left
   ·exact q57x3_
   refine pure_ (i := 5) (N := some 22) (v := ?_) (a' := ?_) #[true, true, true, false, true, true, false, false, false, false] rfl rfl (any_of HT_.out (by kernel_rfl)) (fun _ _ _ h => h) (Or.inl ⟨by rfl, ?_⟩) ?_ ?_
   rotate_left
   ·exact q57x2_
   rotate_left
   ·exact q57x3_
   refine pure_ (i := 6) (N := some 23) (v := ?_) (a' := ?_) #[true, true, true, false, true, true, true, false, false, false] rfl rfl (any_of HT_.out (by kernel_rfl)) (fun _ _ _ h => h) (Or.inl ⟨by rfl, ?_⟩) ?_ ?_
   rotate_left
   ·exact q57x2_
   rotate_left
   ·exact q57x3_
   refine take_ (i := 3) (N := some 20) (v := ?_) (a' := ?_) #[true, true, true, true, true, true, true, false, false, false] rfl rfl (take_ofW HT_.out HW_.out (by kernel_rfl)) (fun _ _ _ h => h) (Or.inl ⟨by rfl, ?_⟩) hHeld ?_ ?_
   rotate_left
   ·exact q57x4_
   rotate_left
   ·exact q57x3_
   refine take_ (i := 7) (N := some 24) (v := ?_) (a' := ?_) #[true, true, true, true, true, true, true, true, false, false] rfl rfl (take_ofW HT_.out HW_.out (by kernel_rfl)) (fun _ _ _ h => h) (Or.inl ⟨by rfl, ?_⟩) hHeld ?_ ?_
   rotate_left
   ·exact q57x4_
   rotate_left
   ·exact q57x3_
   refine one_ (i := 8) (N := some 25) #[true, true, true, true, true, true, true, true, true, false] rfl rfl (one_of HT_.out (by kernel_rfl)) (by decide) (fun K hK => ?_)
   refine goes_ Try.func96 (by kernel_rfl) rfl #[.agg #[.int .i8 ((rd_T77 l0 x5_1).f0), .int .i8 ((rd_T77 l0 x5_1).f1), .int .i16 ((rd_T77 l0 x5_1).f2.f0), .int .i16 ((rd_T77 l0 x5_1).f2.f1), .int .i16 ((rd_T77 l0 x5_1).f2.f2)], .agg #[.int .i8 ((rd_T77 l1 x5_1).f0), .int .i8 ((rd_T77 l1 x5_1).f1), .int .i16 ((rd_T77 l1 x5_1).f2.f0), .int .i16 ((rd_T77 l1 x5_1).f2.f1), .int .i16 ((rd_T77 l1 x5_1).f2.f2)]] (by rfl) rfl rfl (by (try simp only [List.map_toArray, List.map_cons, List.map_nil]); first | done | rfl | (simp only [List.length_drop, List.length_take]; rfl)) ?_
   with_reducible refine (laws_eqFork.calls k1 ((rd_T77 l0 x5_1).f0) ((rd_T77 l0 x5_1).f1) ((rd_T77 l0 x5_1).f2.f0) ((rd_T77 l0 x5_1).f2.f1) ((rd_T77 l0 x5_1).f2.f2) ((rd_T77 l1 x5_1).f0) ((rd_T77 l1 x5_1).f1) ((rd_T77 l1 x5_1).f2.f0) ((rd_T77 l1 x5_1).f2.f1) ((rd_T77 l1 x5_1).f2.f2) false _ A7.out).mono ?_
   rintro e w12 ⟨rfl, hb⟩
   refine ⟨_, rfl, ?_⟩
   have n0_ := Aside0.mk (below_step (by repeat (first | (with_reducible first | exact HB.out | apply below_alloc | apply pw_below_drewN | apply below_drew1) | exact HB.out)) hb)
   clear HB
   have HB := n0_
   clear n0_
   (try clear hb)
   (try clear hb2)
   (try clear hk)
   (try clear hi)
   refine hK.out _ _ ⟨((HB.out.cell (World.block_lt_of_cell? w _ hw108_0)).trans hw108_0), ((HB.out.cell (World.block_lt_of_cell? w _ hw108_1)).trans hw108_1), ((HB.out.cell (World.block_lt_of_cell? w _ hw108_2)).trans hw108_2), ((HB.out.cell (World.block_lt_of_cell? w _ hw108_3)).trans hw108_3), ((HB.out.cell (World.block_lt_of_cell? w _ hw108_4)).trans hw108_4), ((HB.out.cell (World.block_lt_of_cell? w _ hw109_0)).trans hw109_0), ((HB.out.cell (World.block_lt_of_cell? w _ hw109_1)).trans hw109_1), ((HB.out.cell (World.block_lt_of_cell? w _ hw109_2)).trans hw109_2), ((HB.out.cell (World.block_lt_of_cell? w _ hw109_3)).trans hw109_3), ((HB.out.cell (World.block_lt_of_cell? w _ hw109_4)).trans hw109_4)⟩ (fun hHeld => ?_)
   clear hK K
   refine norm_ (a' := ?_) ?_ ?_
   rotate_left
   ·show Act.put _ (some 25) _ = _
    simp only [Act.put, List.setIfInBounds_toArray, List.set_cons_zero, List.set_cons_succ, i64_w, i32_w]
    rfl
   refine pure_ (i := 9) (N := some 26) (v := ?_) (a' := ?_) #[true, true, true, true, true, true, true, true, true, true] rfl rfl (any_of HT_.out (by kernel_rfl)) (fun _ _ _ h => h) (Or.inl ⟨by rfl, ?_⟩) ?_ ?_
   rotate_left
   ·exact q57x2_
   rotate_left
   ·exact q57x3_
   refine done_ (done_of HT_.out (by kernel_rfl)) ?_
   try go_wp2
   go_ret
   exact ⟨by first | rfl | (simp [errW_none, errW_some] <;> rfl) | (simp [*, errW_none, errW_some] <;> rfl), by repeat (first | (with_reducible first | exact HB.out | apply below_alloc | apply pw_below_drewN | apply below_drew1) | exact HB.out)⟩
/-! ### laws_eqTree: function 17 -/
def laws_eqTree.f (k : Nat) (l0_0 : List (S77)) (l1_0 : List (S77)) : Option (Bool) := (laws_eqForkS.f k l0_0 l1_0).bind fun t113 => (if t113 = true then (some true) else (some false))
theorem laws_eqTree.mono : ∀ a0 a1 k, LeO (laws_eqTree.f k a0 a1) (laws_eqTree.f (k + 1) a0 a1) := by
  intro a0 a1 k
  unfold laws_eqTree.f
  repeat' first
      | (with_reducible exact laws_eqForkS.mono _ _ _)
      | (with_reducible exact LeO.refl _)
      | (with_reducible exact LeO.none _)
      | (with_reducible refine LeO.ite ?_ ?_)
      | (with_reducible refine LeO.bind ?_ (fun _ => ?_))
      | exact laws_eqForkS.mono _ _ _
      | exact LeO.none _
      | refine LeO.ite ?_ ?_
      | refine LeO.bind ?_ (fun _ => ?_)
set_option maxHeartbeats 8000000 in
set_option maxRecDepth 100000 in
theorem laws_eqTree.calls (k : Nat) (A0_0 : Option Addr) (c0_0 : Nat) (l0_0 : List (S77)) (A1_0 : Option Addr) (c1_0 : Nat) (l1_0 : List (S77)) (r : Bool) (w : World) (hr0_0 : Kd.C k77 w A0_0 l0_0.length l0_0) (hc0_0 : l0_0.length ≤ c0_0) (hr1_0 : Kd.C k77 w A1_0 l1_0.length l1_0) (hc1_0 : l1_0.length ≤ c1_0) (h : laws_eqTree.f k l0_0 l1_0 = some r) :
    Calls Try.prog 17 #[.agg #[.slice A0_0 l0_0.length c0_0], .agg #[.slice A1_0 l1_0.length c1_0]] w fun e w' => e = .returned (.bool r) ∧ Below w.heap.size w w' := by
  have hu24 := Try.underlying24
  have HR0_0 := Aside0.mk hr0_0
  have HC0_0 := Aside0.mk hc0_0
  clear hr0_0 hc0_0
  have HR1_0 := Aside0.mk hr1_0
  have HC1_0 := Aside0.mk hc1_0
  clear hr1_0 hc1_0
  have HB := Aside0.mk (Below.refl w.heap.size w)
  have H : ((laws_eqForkS.f k l0_0 l1_0).bind fun t113 => (if t113 = true then (some true) else (some false))) = some r := h
  clear h
  replace H := Option.bind_eq_some_iff.mp H
  obtain ⟨t113, A30, H⟩ := H
  replace H : (if t113 = true then (some true) else (some false)) = some r := H
  have A3 := Aside0.mk A30
  clear A30
  by_cases c4 : t113 = true
  · subst c4
    have H1 : (some true) = some r := by rw [if_pos rfl] at H; exact H
    clear H
    have H := H1
    clear H1
    obtain rfl := Option.some.inj H
    go_enter Try.func17, Try.ntmps17
    go_wp2_with (first | ((with_reducible refine gate_dst (N := 2) rfl ?_); refine box_event ?hg (N := 2) ?hd (cs := #[.slice A0_0 l0_0.length c0_0]) (t := 24) ?hr ?_; (case hd => rfl); (case hg => rfl); (case hr => first | (go_simp; done) | (go_simp; rfl)); intro gb111 hg w5 hbox hb; have n0_ := Aside0.mk (below_step (by repeat (first | (with_reducible first | exact HB.out | apply below_alloc | apply pw_below_drewN | apply below_drew1) | exact HB.out)) hb); have n1_ := Aside0.mk (hbox); have n2_ := Aside0.mk ((by rw [hg]; exact (below_size (by repeat (first | (with_reducible first | exact HB.out | apply below_alloc | apply pw_below_drewN | apply below_drew1) | exact HB.out))) : w.heap.size ≤ gb111)); have n3_ := Aside0.mk ((by rw [hg]; exact (below_size (by repeat (first | (with_reducible first | exact HB.out | apply below_alloc | apply pw_below_drewN | apply below_drew1) | exact HB.out))) : w.heap.size ≤ gb111)); clear HB; have HB := n0_; have BK111 := n1_; have GW111 := n2_; have GE111 := n3_; clear n0_ n1_ n2_ n3_; clear hb hbox hg) | ((with_reducible refine gate_dst (N := 3) rfl ?_); refine box_event ?hg (N := 3) ?hd (cs := #[.slice A1_0 l1_0.length c1_0]) (t := 24) ?hr ?_; (case hd => rfl); (case hg => rfl); (case hr => first | (go_simp; done) | (go_simp; rfl)); intro gb112 hg w6 hbox hb; have n0_ := Aside0.mk (blk_below (g := gb111) (o := .cells #[.slice A0_0 l0_0.length c0_0] 24 (0, 0)) (by (with_reducible repeat (first | refine blk_drewN ?_ _ | refine blk_drew ?_ | refine blk_alloc ?_ _)); exact BK111.out) hb); have n1_ := Aside0.mk (below_step (by repeat (first | (with_reducible first | exact HB.out | apply below_alloc | apply pw_below_drewN | apply below_drew1 | refine below_set ?_ GE111.out) | exact HB.out)) hb); have n2_ := Aside0.mk (hbox); have n3_ := Aside0.mk ((by rw [hg]; exact (below_size (by repeat (first | (with_reducible first | exact HB.out | apply below_alloc | apply pw_below_drewN | apply below_drew1 | refine below_set ?_ GE111.out) | exact HB.out))) : w.heap.size ≤ gb112)); have n4_ := Aside0.mk ((by rw [hg]; exact (below_size (by repeat (first | (with_reducible first | exact HB.out | apply below_alloc | apply pw_below_drewN | apply below_drew1 | refine below_set ?_ GE111.out) | exact HB.out))) : w.heap.size ≤ gb112)); have n5_ := Aside0.mk ((by rw [hg]; exact Nat.ne_of_lt (blk_lt (g := gb111) (o := .cells #[.slice A0_0 l0_0.length c0_0] 24 (0, 0)) (by (with_reducible repeat (first | refine blk_drewN ?_ _ | refine blk_drew ?_ | refine blk_alloc ?_ _)); exact BK111.out)) : gb111 ≠ gb112)); have n6_ := Aside0.mk ((by rw [hg]; exact Nat.ne_of_gt (blk_lt (g := gb111) (o := .cells #[.slice A0_0 l0_0.length c0_0] 24 (0, 0)) (by (with_reducible repeat (first | refine blk_drewN ?_ _ | refine blk_drew ?_ | refine blk_alloc ?_ _)); exact BK111.out)) : gb112 ≠ gb111)); clear BK111; clear HB; have BK111 := n0_; have HB := n1_; have BK112 := n2_; have GW112 := n3_; have GE112 := n4_; have NB111_112 := n5_; have NB112_111 := n6_; clear n0_ n1_ n2_ n3_ n4_ n5_ n6_; clear hb hbox hg; have hnb7 := NB111_112.out; have hnc7 := NB112_111.out; have hcz8_0 : w6.cell? ⟨gb111, 0, none⟩ = some (.slice A0_0 l0_0.length c0_0) := (blk_cell BK111.out 0).trans rfl; have hfz8_0 := blk_frozen BK111.out 0; have hcz9_0 : w6.cell? ⟨gb112, 0, none⟩ = some (.slice A1_0 l1_0.length c1_0) := (blk_cell BK112.out 0).trans rfl; have hfz9_0 := blk_frozen BK112.out 0) | ((with_reducible refine gate_callee (f := 57) rfl ?_); refine goesL_ (some 9) rfl rfl Try.func57 (by kernel_rfl) rfl #[.slice A0_0 l0_0.length c0_0, .slice A1_0 l1_0.length c1_0] rfl (by (try simp only [List.map_toArray, List.map_cons, List.map_nil]); first | done | rfl | (simp only [List.length_drop, List.length_take]; rfl)) ?_; (with_reducible refine (laws_eqForkS.calls k _ _ l0_0 _ _ l1_0 true _ ?side1 ?side2 ?side3 ?side4 A3.out).mono ?_); (case side1 => repeat (first | exact (Kd.C_below HR0_0.out HB.out) | (with_reducible refine Kd.C_alloc ?_ _) | (with_reducible refine Kd.C_drewN ?_ _) | (with_reducible refine Kd.C_drew ?_))); (case side2 => exact HC0_0.out); (case side3 => repeat (first | exact (Kd.C_below HR1_0.out HB.out) | (with_reducible refine Kd.C_alloc ?_ _) | (with_reducible refine Kd.C_drewN ?_ _) | (with_reducible refine Kd.C_drew ?_))); (case side4 => exact HC1_0.out); rintro e w10 ⟨rfl, hb⟩; refine ⟨_, rfl, ?_⟩; have n0_ := Aside0.mk (blk_below (g := gb111) (o := .cells #[.slice A0_0 l0_0.length c0_0] 24 (0, 0)) (by (with_reducible repeat (first | refine blk_drewN ?_ _ | refine blk_drew ?_ | refine blk_alloc ?_ _)); exact BK111.out) hb); have n1_ := Aside0.mk (blk_below (g := gb112) (o := .cells #[.slice A1_0 l1_0.length c1_0] 24 (0, 0)) (by (with_reducible repeat (first | refine blk_drewN ?_ _ | refine blk_drew ?_ | refine blk_alloc ?_ _)); exact BK112.out) hb); have n2_ := Aside0.mk (below_step (by repeat (first | (with_reducible first | exact HB.out | apply below_alloc | apply pw_below_drewN | apply below_drew1 | refine below_set ?_ GE111.out | refine below_set ?_ GE112.out) | exact HB.out)) hb); clear BK111; clear BK112; clear HB; have BK111 := n0_; have BK112 := n1_; have HB := n2_; clear n0_ n1_ n2_; (try clear hb); (try clear hb2); (try clear hk); (try clear hi)))
    go_ret
    exact ⟨by first | rfl | (simp [errW_none, errW_some] <;> rfl) | (simp [*, errW_none, errW_some] <;> rfl), by repeat (first | (with_reducible first | exact HB.out | apply below_alloc | apply pw_below_drewN | apply below_drew1 | refine below_set ?_ GE111.out | refine below_set ?_ GE112.out) | exact HB.out)⟩
  · replace c4 := Bool.eq_false_iff.mpr c4
    subst c4
    have H1 : (some false) = some r := by rw [if_neg (show ¬ (false = true) by decide)] at H; exact H
    clear H
    have H := H1
    clear H1
    obtain rfl := Option.some.inj H
    go_enter Try.func17, Try.ntmps17
    go_wp2_with (first | ((with_reducible refine gate_dst (N := 2) rfl ?_); refine box_event ?hg (N := 2) ?hd (cs := #[.slice A0_0 l0_0.length c0_0]) (t := 24) ?hr ?_; (case hd => rfl); (case hg => rfl); (case hr => first | (go_simp; done) | (go_simp; rfl)); intro gb111 hg w11 hbox hb; have n0_ := Aside0.mk (below_step (by repeat (first | (with_reducible first | exact HB.out | apply below_alloc | apply pw_below_drewN | apply below_drew1) | exact HB.out)) hb); have n1_ := Aside0.mk (hbox); have n2_ := Aside0.mk ((by rw [hg]; exact (below_size (by repeat (first | (with_reducible first | exact HB.out | apply below_alloc | apply pw_below_drewN | apply below_drew1) | exact HB.out))) : w.heap.size ≤ gb111)); have n3_ := Aside0.mk ((by rw [hg]; exact (below_size (by repeat (first | (with_reducible first | exact HB.out | apply below_alloc | apply pw_below_drewN | apply below_drew1) | exact HB.out))) : w.heap.size ≤ gb111)); clear HB; have HB := n0_; have BK111 := n1_; have GW111 := n2_; have GE111 := n3_; clear n0_ n1_ n2_ n3_; clear hb hbox hg) | ((with_reducible refine gate_dst (N := 3) rfl ?_); refine box_event ?hg (N := 3) ?hd (cs := #[.slice A1_0 l1_0.length c1_0]) (t := 24) ?hr ?_; (case hd => rfl); (case hg => rfl); (case hr => first | (go_simp; done) | (go_simp; rfl)); intro gb112 hg w12 hbox hb; have n0_ := Aside0.mk (blk_below (g := gb111) (o := .cells #[.slice A0_0 l0_0.length c0_0] 24 (0, 0)) (by (with_reducible repeat (first | refine blk_drewN ?_ _ | refine blk_drew ?_ | refine blk_alloc ?_ _)); exact BK111.out) hb); have n1_ := Aside0.mk (below_step (by repeat (first | (with_reducible first | exact HB.out | apply below_alloc | apply pw_below_drewN | apply below_drew1 | refine below_set ?_ GE111.out) | exact HB.out)) hb); have n2_ := Aside0.mk (hbox); have n3_ := Aside0.mk ((by rw [hg]; exact (below_size (by repeat (first | (with_reducible first | exact HB.out | apply below_alloc | apply pw_below_drewN | apply below_drew1 | refine below_set ?_ GE111.out) | exact HB.out))) : w.heap.size ≤ gb112)); have n4_ := Aside0.mk ((by rw [hg]; exact (below_size (by repeat (first | (with_reducible first | exact HB.out | apply below_alloc | apply pw_below_drewN | apply below_drew1 | refine below_set ?_ GE111.out) | exact HB.out))) : w.heap.size ≤ gb112)); have n5_ := Aside0.mk ((by rw [hg]; exact Nat.ne_of_lt (blk_lt (g := gb111) (o := .cells #[.slice A0_0 l0_0.length c0_0] 24 (0, 0)) (by (with_reducible repeat (first | refine blk_drewN ?_ _ | refine blk_drew ?_ | refine blk_alloc ?_ _)); exact BK111.out)) : gb111 ≠ gb112)); have n6_ := Aside0.mk ((by rw [hg]; exact Nat.ne_of_gt (blk_lt (g := gb111) (o := .cells #[.slice A0_0 l0_0.length c0_0] 24 (0, 0)) (by (with_reducible repeat (first | refine blk_drewN ?_ _ | refine blk_drew ?_ | refine blk_alloc ?_ _)); exact BK111.out)) : gb112 ≠ gb111)); clear BK111; clear HB; have BK111 := n0_; have HB := n1_; have BK112 := n2_; have GW112 := n3_; have GE112 := n4_; have NB111_112 := n5_; have NB112_111 := n6_; clear n0_ n1_ n2_ n3_ n4_ n5_ n6_; clear hb hbox hg; have hnb13 := NB111_112.out; have hnc13 := NB112_111.out; have hcz14_0 : w12.cell? ⟨gb111, 0, none⟩ = some (.slice A0_0 l0_0.length c0_0) := (blk_cell BK111.out 0).trans rfl; have hfz14_0 := blk_frozen BK111.out 0; have hcz15_0 : w12.cell? ⟨gb112, 0, none⟩ = some (.slice A1_0 l1_0.length c1_0) := (blk_cell BK112.out 0).trans rfl; have hfz15_0 := blk_frozen BK112.out 0) | ((with_reducible refine gate_callee (f := 57) rfl ?_); refine goesL_ (some 9) rfl rfl Try.func57 (by kernel_rfl) rfl #[.slice A0_0 l0_0.length c0_0, .slice A1_0 l1_0.length c1_0] rfl (by (try simp only [List.map_toArray, List.map_cons, List.map_nil]); first | done | rfl | (simp only [List.length_drop, List.length_take]; rfl)) ?_; (with_reducible refine (laws_eqForkS.calls k _ _ l0_0 _ _ l1_0 false _ ?side1 ?side2 ?side3 ?side4 A3.out).mono ?_); (case side1 => repeat (first | exact (Kd.C_below HR0_0.out HB.out) | (with_reducible refine Kd.C_alloc ?_ _) | (with_reducible refine Kd.C_drewN ?_ _) | (with_reducible refine Kd.C_drew ?_))); (case side2 => exact HC0_0.out); (case side3 => repeat (first | exact (Kd.C_below HR1_0.out HB.out) | (with_reducible refine Kd.C_alloc ?_ _) | (with_reducible refine Kd.C_drewN ?_ _) | (with_reducible refine Kd.C_drew ?_))); (case side4 => exact HC1_0.out); rintro e w16 ⟨rfl, hb⟩; refine ⟨_, rfl, ?_⟩; have n0_ := Aside0.mk (blk_below (g := gb111) (o := .cells #[.slice A0_0 l0_0.length c0_0] 24 (0, 0)) (by (with_reducible repeat (first | refine blk_drewN ?_ _ | refine blk_drew ?_ | refine blk_alloc ?_ _)); exact BK111.out) hb); have n1_ := Aside0.mk (blk_below (g := gb112) (o := .cells #[.slice A1_0 l1_0.length c1_0] 24 (0, 0)) (by (with_reducible repeat (first | refine blk_drewN ?_ _ | refine blk_drew ?_ | refine blk_alloc ?_ _)); exact BK112.out) hb); have n2_ := Aside0.mk (below_step (by repeat (first | (with_reducible first | exact HB.out | apply below_alloc | apply pw_below_drewN | apply below_drew1 | refine below_set ?_ GE111.out | refine below_set ?_ GE112.out) | exact HB.out)) hb); clear BK111; clear BK112; clear HB; have BK111 := n0_; have BK112 := n1_; have HB := n2_; clear n0_ n1_ n2_; (try clear hb); (try clear hb2); (try clear hk); (try clear hi)))
    go_ret
    exact ⟨by first | rfl | (simp [errW_none, errW_some] <;> rfl) | (simp [*, errW_none, errW_some] <;> rfl), by repeat (first | (with_reducible first | exact HB.out | apply below_alloc | apply pw_below_drewN | apply below_drew1 | refine below_set ?_ GE111.out | refine below_set ?_ GE112.out) | exact HB.out)⟩

/-! ### laws_szForkS: function 60 -/
def laws_szForkS.f (l0 : List (S129)) (a1 : Int) : Option (Int) := if (wrap64 (a1 - (l0.length : Int))) < 0 then (some (-1)) else (some (wrap64 (a1 - (l0.length : Int))))
set_option maxHeartbeats 8000000 in
set_option maxRecDepth 100000 in
theorem laws_szForkS.calls (A0 : Option Addr) (c0 : Nat) (l0 : List (S129)) (a1 : Int) (r : Int) (w : World) (hr0 : Kd.C k129 w A0 l0.length l0) (hc0 : l0.length ≤ c0) (h : laws_szForkS.f l0 a1 = some r) :
    Calls Try.prog 60 #[.slice A0 l0.length c0, .int .i64 a1] w fun e w' => e = .returned (.int .i64 r) ∧ Drawn0 w w' := by
  have HR0 := Aside0.mk hr0
  have HC0 := Aside0.mk hc0
  clear hr0 hc0
  have H : (if (wrap64 (a1 - (l0.length : Int))) < 0 then (some (-1)) else (some (wrap64 (a1 - (l0.length : Int))))) = some r := h
  clear h
  by_cases c3 : (wrap64 (a1 - (l0.length : Int))) < 0
  · rw [if_pos c3] at H
    have c3b0 : decide ((wrap64 (a1 - (l0.length : Int))) < 0) = true := decide_eq_true c3
    clear c3
    obtain rfl := Option.some.inj H
    go_enter Try.func60, Try.ntmps60
    go_wp2
    go_ret
    exact ⟨by first | rfl | (simp; done) | (simp [*]; done), by repeat (first | exact Drawn0.refl _ | apply Drawn0.step)⟩
  · rw [if_neg c3] at H
    have c3b0 : decide ((wrap64 (a1 - (l0.length : Int))) < 0) = false := decide_eq_false c3
    clear c3
    obtain rfl := Option.some.inj H
    go_enter Try.func60, Try.ntmps60
    go_wp2
    go_ret
    exact ⟨by first | rfl | (simp; done) | (simp [*]; done), by repeat (first | exact Drawn0.refl _ | apply Drawn0.step)⟩

/-! ### laws_szTree: function 24 -/
def laws_szTree.f (l0_0 : List (S129)) (a1 : Int) : Option (Int) := (laws_szForkS.f l0_0 a1).bind fun t115 => (if t115 < 0 then (some (-1)) else (some t115))
set_option maxHeartbeats 8000000 in
set_option maxRecDepth 100000 in
theorem laws_szTree.calls (A0_0 : Option Addr) (c0_0 : Nat) (l0_0 : List (S129)) (a1 : Int) (r : Int) (w : World) (hr0_0 : Kd.C k129 w A0_0 l0_0.length l0_0) (hc0_0 : l0_0.length ≤ c0_0) (h : laws_szTree.f l0_0 a1 = some r) :
    Calls Try.prog 24 #[.agg #[.slice A0_0 l0_0.length c0_0], .int .i64 a1] w fun e w' => e = .returned (.int .i64 r) ∧ Below w.heap.size w w' := by
  have hu31 := Try.underlying31
  have HR0_0 := Aside0.mk hr0_0
  have HC0_0 := Aside0.mk hc0_0
  clear hr0_0 hc0_0
  have HB := Aside0.mk (Below.refl w.heap.size w)
  have H : ((laws_szForkS.f l0_0 a1).bind fun t115 => (if t115 < 0 then (some (-1)) else (some t115))) = some r := h
  clear h
  replace H := Option.bind_eq_some_iff.mp H
  obtain ⟨t115, A30, H⟩ := H
  replace H : (if t115 < 0 then (some (-1)) else (some t115)) = some r := H
  have A3 := Aside0.mk A30
  clear A30
  by_cases c4 : t115 < 0
  · rw [if_pos c4] at H
    have c4b0 : decide (t115 < 0) = true := decide_eq_true c4
    clear c4
    obtain rfl := Option.some.inj H
    go_enter Try.func24, Try.ntmps24
    go_wp2_with (first | ((with_reducible refine gate_dst (N := 2) rfl ?_); refine box_event ?hg (N := 2) ?hd (cs := #[.slice A0_0 l0_0.length c0_0]) (t := 31) ?hr ?_; (case hd => rfl); (case hg => rfl); (case hr => first | (go_simp; done) | (go_simp; rfl)); intro gb114 hg w5 hbox hb; have n0_ := Aside0.mk (below_step (by repeat (first | (with_reducible first | exact HB.out | apply below_alloc | apply pw_below_drewN | apply below_drew1) | exact HB.out)) hb); have n1_ := Aside0.mk (hbox); have n2_ := Aside0.mk ((by rw [hg]; exact (below_size (by repeat (first | (with_reducible first | exact HB.out | apply below_alloc | apply pw_below_drewN | apply below_drew1) | exact HB.out))) : w.heap.size ≤ gb114)); have n3_ := Aside0.mk ((by rw [hg]; exact (below_size (by repeat (first | (with_reducible first | exact HB.out | apply below_alloc | apply pw_below_drewN | apply below_drew1) | exact HB.out))) : w.heap.size ≤ gb114)); clear HB; have HB := n0_; have BK114 := n1_; have GW114 := n2_; have GE114 := n3_; clear n0_ n1_ n2_ n3_; clear hb hbox hg; have hcz6_0 : w5.cell? ⟨gb114, 0, none⟩ = some (.slice A0_0 l0_0.length c0_0) := (blk_cell BK114.out 0).trans rfl; have hfz6_0 := blk_frozen BK114.out 0) | ((with_reducible refine gate_callee (f := 60) rfl ?_); refine goesL_ (some 8) rfl rfl Try.func60 (by kernel_rfl) rfl #[.slice A0_0 l0_0.length c0_0, .int .i64 a1] rfl (by (try simp only [List.map_toArray, List.map_cons, List.map_nil]); first | done | rfl | (simp only [List.length_drop, List.length_take]; rfl)) ?_; (with_reducible refine (laws_szForkS.calls _ _ l0_0 a1 t115 _ ?side1 ?side2 A3.out).mono ?_); (case side1 => repeat (first | exact (Kd.C_below HR0_0.out HB.out) | (with_reducible refine Kd.C_alloc ?_ _) | (with_reducible refine Kd.C_drewN ?_ _) | (with_reducible refine Kd.C_drew ?_))); (case side2 => exact HC0_0.out); rintro e w' ⟨rfl, ⟨nd, rfl⟩⟩; refine ⟨_, rfl, ?_⟩))
    go_ret
    exact ⟨by first | rfl | (simp [errW_none, errW_some] <;> rfl) | (simp [*, errW_none, errW_some] <;> rfl), by repeat (first | (with_reducible first | exact HB.out | apply below_alloc | apply pw_below_drewN | apply below_drew1 | refine below_set ?_ GE114.out) | exact HB.out)⟩
  · rw [if_neg c4] at H
    have c4b0 : decide (t115 < 0) = false := decide_eq_false c4
    clear c4
    obtain rfl := Option.some.inj H
    go_enter Try.func24, Try.ntmps24
    go_wp2_with (first | ((with_reducible refine gate_dst (N := 2) rfl ?_); refine box_event ?hg (N := 2) ?hd (cs := #[.slice A0_0 l0_0.length c0_0]) (t := 31) ?hr ?_; (case hd => rfl); (case hg => rfl); (case hr => first | (go_simp; done) | (go_simp; rfl)); intro gb114 hg w7 hbox hb; have n0_ := Aside0.mk (below_step (by repeat (first | (with_reducible first | exact HB.out | apply below_alloc | apply pw_below_drewN | apply below_drew1) | exact HB.out)) hb); have n1_ := Aside0.mk (hbox); have n2_ := Aside0.mk ((by rw [hg]; exact (below_size (by repeat (first | (with_reducible first | exact HB.out | apply below_alloc | apply pw_below_drewN | apply below_drew1) | exact HB.out))) : w.heap.size ≤ gb114)); have n3_ := Aside0.mk ((by rw [hg]; exact (below_size (by repeat (first | (with_reducible first | exact HB.out | apply below_alloc | apply pw_below_drewN | apply below_drew1) | exact HB.out))) : w.heap.size ≤ gb114)); clear HB; have HB := n0_; have BK114 := n1_; have GW114 := n2_; have GE114 := n3_; clear n0_ n1_ n2_ n3_; clear hb hbox hg; have hcz8_0 : w7.cell? ⟨gb114, 0, none⟩ = some (.slice A0_0 l0_0.length c0_0) := (blk_cell BK114.out 0).trans rfl; have hfz8_0 := blk_frozen BK114.out 0) | ((with_reducible refine gate_callee (f := 60) rfl ?_); refine goesL_ (some 8) rfl rfl Try.func60 (by kernel_rfl) rfl #[.slice A0_0 l0_0.length c0_0, .int .i64 a1] rfl (by (try simp only [List.map_toArray, List.map_cons, List.map_nil]); first | done | rfl | (simp only [List.length_drop, List.length_take]; rfl)) ?_; (with_reducible refine (laws_szForkS.calls _ _ l0_0 a1 t115 _ ?side1 ?side2 A3.out).mono ?_); (case side1 => repeat (first | exact (Kd.C_below HR0_0.out HB.out) | (with_reducible refine Kd.C_alloc ?_ _) | (with_reducible refine Kd.C_drewN ?_ _) | (with_reducible refine Kd.C_drew ?_))); (case side2 => exact HC0_0.out); rintro e w' ⟨rfl, ⟨nd, rfl⟩⟩; refine ⟨_, rfl, ?_⟩))
    go_ret
    exact ⟨by first | rfl | (simp [errW_none, errW_some] <;> rfl) | (simp [*, errW_none, errW_some] <;> rfl), by repeat (first | (with_reducible first | exact HB.out | apply below_alloc | apply pw_below_drewN | apply below_drew1 | refine below_set ?_ GE114.out) | exact HB.out)⟩

set_option linter.defProp false

theorem q145x1_ {P : Prop} (h : P := by (with_reducible repeat (first | refine blk_drewN ?_ _ | refine blk_drew ?_ | refine blk_alloc ?_ _)); exact BK116.out) : P := h
theorem q145x2_ {P : Prop} (h : P := by repeat (first | (with_reducible first | exact HB.out | apply below_alloc | apply pw_below_drewN | apply below_drew1 | refine below_set ?_ GE116.out | refine below_set ?_ GE117.out) | exact HB.out)) : P := h
theorem q145x3_ {P : Prop} (h : P := by (with_reducible repeat (first | refine blk_drewN ?_ _ | refine blk_drew ?_ | refine blk_alloc ?_ _)); exact BK117.out) : P := h
theorem q145x4_ {P : Prop} (h : P := by repeat (first | (with_reducible first | exact HB.out | apply below_alloc | apply pw_below_drewN | apply below_drew1 | refine below_set ?_ GE116.out) | exact HB.out)) : P := h
theorem q145x5_ {P : Prop} (h : P := by repeat (first | (with_reducible first | exact HB.out | apply below_alloc | apply pw_below_drewN | apply below_drew1) | exact HB.out)) : P := h
theorem q145x6_ {P : Prop} (h : P := by rw [hw]; exact (by repeat (first | (with_reducible first | exact HB.out | apply below_alloc | apply pw_below_drewN | apply below_drew1 | refine below_set ?_ GE116.out | refine below_set ?_ GE117.out | refine below_set ?_ GE118.out) | exact HB.out))) : P := h
/-! ### laws_toInt16A3: function 145 -/
def laws_toInt16A3.l0 : Nat → Int → Int → Int → Int → Int → Int → Int → Option (Int × Int × Int)
 | 0, _, _, _, _, _, _, _ => none
 | k + 1, x4, x117000, x117001, x117002, x119000, x119001, x119002 => if x4 < 3 then (if 0 ≤ x4 then (laws_toInt16A3.l0 k (wrap64 (x4 + 1)) x117000 x117001 x117002 (aput 0 x4 (rd [x117000, x117001, x117002] x4) x119000) (aput 1 x4 (rd [x117000, x117001, x117002] x4) x119001) (aput 2 x4 (rd [x117000, x117001, x117002] x4) x119002)) else (none)) else (some (x119000, x119001, x119002))
def laws_toInt16A3.f (k : Nat) (a0_0 : Int) (a0_1 : Int) (a0_2 : Int) : Option (Int × Int × Int) := laws_toInt16A3.l0 k 0 a0_0 a0_1 a0_2 0 0 0
theorem laws_toInt16A3.mono_l : ∀ k, (∀ y0 y1 y2 y3 y4 y5 y6, LeO (laws_toInt16A3.l0 k y0 y1 y2 y3 y4 y5 y6) (laws_toInt16A3.l0 (k + 1) y0 y1 y2 y3 y4 y5 y6))
 | 0 => fun _ _ _ _ _ _ _ r h => by simp [laws_toInt16A3.l0] at h
 | k + 1 => by
  have ih0 := laws_toInt16A3.mono_l k
  intro y0 y1 y2 y3 y4 y5 y6
  unfold laws_toInt16A3.l0
  repeat' first
  | (with_reducible exact ih0 _ _ _ _ _ _ _)
  | (with_reducible exact LeO.refl _)
  | (with_reducible exact LeO.none _)
  | (with_reducible refine LeO.ite ?_ ?_)
  | (with_reducible refine LeO.bind ?_ (fun _ => ?_))
  | exact ih0 _ _ _ _ _ _ _
  | exact LeO.none _
  | refine LeO.ite ?_ ?_
  | refine LeO.bind ?_ (fun _ => ?_)
theorem laws_toInt16A3.mono : ∀ a0 a1 a2 k, LeO (laws_toInt16A3.f k a0 a1 a2) (laws_toInt16A3.f (k + 1) a0 a1 a2) := by
 intro a0 a1 a2 k
 have ih0 := laws_toInt16A3.mono_l k
 unfold laws_toInt16A3.f
 repeat' first
   | (with_reducible exact ih0 _ _ _ _ _ _ _)
   | (with_reducible exact LeO.refl _)
   | (with_reducible exact LeO.none _)
   | (with_reducible refine LeO.ite ?_ ?_)
   | (with_reducible refine LeO.bind ?_ (fun _ => ?_))
   | exact ih0 _ _ _ _ _ _ _
   | exact LeO.none _
   | refine LeO.ite ?_ ?_
   | refine LeO.bind ?_ (fun _ => ?_)
set_option maxHeartbeats 8000000 in
set_option maxRecDepth 100000 in
theorem laws_toInt16A3.calls (k : Nat) (a0_0 : Int) (a0_1 : Int) (a0_2 : Int) (r1 : Int) (r2 : Int) (r3 : Int) (w : World) (h : laws_toInt16A3.f k a0_0 a0_1 a0_2 = some (r1, r2, r3)) :
  Calls Try.prog 145 #[.agg #[.int .i16 a0_0, .int .i16 a0_1, .int .i16 a0_2]] w fun e w' => e = .returned (.agg #[.int .i16 r1, .int .i16 r2, .int .i16 r3]) ∧ Below w.heap.size w w' := by
 have hu75 := Try.underlying75
 have HB := Aside0.mk (Below.refl w.heap.size w)
 have H : (laws_toInt16A3.l0 k 0 a0_0 a0_1 a0_2 0 0 0) = some (r1, r2, r3) := h
 clear h
 have H' := Aside0.mk H
 clear H
 go_enter Try.func145, Try.ntmps145
 go_wp2_with (first | ((with_reducible refine gate_dst (N := 1) rfl ?_); refine box_event ?hg (N := 1) ?hd (cs := #[.int .i16 a0_0, .int .i16 a0_1, .int .i16 a0_2]) (t := 75) ?hr ?_; (case hd => rfl); (case hg => rfl); (case hr => first | (go_simp; done) | (go_simp; rfl)); intro gb116 hg w2 hbox hb; have n0_ := Aside0.mk (below_step q145x5_ hb); have n1_ := Aside0.mk (hbox); have n2_ := Aside0.mk ((by rw [hg]; exact (below_size q145x5_) : w.heap.size ≤ gb116)); have n3_ := Aside0.mk ((by rw [hg]; exact (below_size q145x5_) : w.heap.size ≤ gb116)); clear HB; have HB := n0_; have BK116 := n1_; have GW116 := n2_; have GE116 := n3_; clear n0_ n1_ n2_ n3_; clear hb hbox hg) | ((with_reducible refine gate_dst (N := 2) rfl ?_); refine box_event ?hg (N := 2) ?hd (cs := #[.int .i16 0, .int .i16 0, .int .i16 0]) (t := 75) ?hr ?_; (case hd => rfl); (case hg => rfl); (case hr => first | (go_simp; done) | (go_simp; rfl)); intro gb117 hg w3 hbox hb; have n0_ := Aside0.mk (blk_below (g := gb116) (o := .cells #[.int .i16 a0_0, .int .i16 a0_1, .int .i16 a0_2] 75 (0, 0)) q145x1_ hb); have n1_ := Aside0.mk (below_step q145x4_ hb); have n2_ := Aside0.mk (hbox); have n3_ := Aside0.mk ((by rw [hg]; exact (below_size q145x4_) : w.heap.size ≤ gb117)); have n4_ := Aside0.mk ((by rw [hg]; exact (below_size q145x4_) : w.heap.size ≤ gb117)); have n5_ := Aside0.mk ((by rw [hg]; exact Nat.ne_of_lt (blk_lt (g := gb116) (o := .cells #[.int .i16 a0_0, .int .i16 a0_1, .int .i16 a0_2] 75 (0, 0)) q145x1_) : gb116 ≠ gb117)); have n6_ := Aside0.mk ((by rw [hg]; exact Nat.ne_of_gt (blk_lt (g := gb116) (o := .cells #[.int .i16 a0_0, .int .i16 a0_1, .int .i16 a0_2] 75 (0, 0)) q145x1_) : gb117 ≠ gb116)); clear BK116; clear HB; have BK116 := n0_; have HB := n1_; have BK117 := n2_; have GW117 := n3_; have GE117 := n4_; have NB116_117 := n5_; have NB117_116 := n6_; clear n0_ n1_ n2_ n3_ n4_ n5_ n6_; clear hb hbox hg) | ((with_reducible refine gate_dst (N := 3) rfl ?_); refine box_event ?hg (N := 3) ?hd (cs := #[.int .i16 0, .int .i16 0, .int .i16 0]) (t := 75) ?hr ?_; (case hd => rfl); (case hg => rfl); (case hr => first | (go_simp; done) | (go_simp; rfl)); intro gb118 hg w4 hbox hb; have n0_ := Aside0.mk (blk_below (g := gb116) (o := .cells #[.int .i16 a0_0, .int .i16 a0_1, .int .i16 a0_2] 75 (0, 0)) q145x1_ hb); have n1_ := Aside0.mk (blk_below (g := gb117) (o := .cells #[.int .i16 0, .int .i16 0, .int .i16 0] 75 (0, 0)) q145x3_ hb); have n2_ := Aside0.mk (below_step q145x2_ hb); have n3_ := Aside0.mk (hbox); have n4_ := Aside0.mk ((by rw [hg]; exact (below_size q145x2_) : w.heap.size ≤ gb118)); have n5_ := Aside0.mk ((by rw [hg]; exact (below_size q145x2_) : w.heap.size ≤ gb118)); have n6_ := Aside0.mk ((by rw [hg]; exact Nat.ne_of_lt (blk_lt (g := gb116) (o := .cells #[.int .i16 a0_0, .int .i16 a0_1, .int .i16 a0_2] 75 (0, 0)) q145x1_) : gb116 ≠ gb118)); have n7_ := Aside0.mk ((by rw [hg]; exact Nat.ne_of_gt (blk_lt (g := gb116) (o := .cells #[.int .i16 a0_0, .int .i16 a0_1, .int .i16 a0_2] 75 (0, 0)) q145x1_) : gb118 ≠ gb116)); have n8_ := Aside0.mk ((by rw [hg]; exact Nat.ne_of_lt (blk_lt (g := gb117) (o := .cells #[.int .i16 0, .int .i16 0, .int .i16 0] 75 (0, 0)) q145x3_) : gb117 ≠ gb118)); have n9_ := Aside0.mk ((by rw [hg]; exact Nat.ne_of_gt (blk_lt (g := gb117) (o := .cells #[.int .i16 0, .int .i16 0, .int .i16 0] 75 (0, 0)) q145x3_) : gb118 ≠ gb117)); clear BK116; clear BK117; clear HB; have BK116 := n0_; have BK117 := n1_; have HB := n2_; have BK118 := n3_; have GW118 := n4_; have GE118 := n5_; have NB116_118 := n6_; have NB118_116 := n7_; have NB117_118 := n8_; have NB118_117 := n9_; clear n0_ n1_ n2_ n3_ n4_ n5_ n6_ n7_ n8_ n9_; clear hb hbox hg))
 go_loopg [4] k (fun kq v4 w' => ∃ (x4_1 : Int) (x119000_1 : Int) (x119001_1 : Int) (x119002_1 : Int), v4 = .int .i64 x4_1 ∧ Aside0 (laws_toInt16A3.l0 kq x4_1 a0_0 a0_1 a0_2 x119000_1 x119001_1 x119002_1 = some (r1, r2, r3)) ∧ Aside0 (kq ≤ k) ∧ Aside0 (w'.heap[gb116]? = some (.cells #[.int .i16 a0_0, .int .i16 a0_1, .int .i16 a0_2] 75 (0, 0))) ∧ Aside0 (w'.heap[gb117]? = some (.cells #[.int .i16 0, .int .i16 0, .int .i16 0] 75 (0, 0))) ∧ Aside0 (w'.heap[gb118]? = some (.cells #[.int .i16 x119000_1, .int .i16 x119001_1, .int .i16 x119002_1] 75 (0, 0))) ∧ Aside0 (Below w.heap.size w w'))
 case atStart => exact ⟨(0), (0), (0), (0), (by first | rfl | (simp; done) | (simp [*]; done)), H', ⟨Nat.le_refl _⟩, ⟨by (with_reducible repeat (first | refine blk_drewN ?_ _ | refine blk_drew ?_ | refine blk_alloc ?_ _)); exact BK116.out⟩, ⟨by (with_reducible repeat (first | refine blk_drewN ?_ _ | refine blk_drew ?_ | refine blk_alloc ?_ _)); exact BK117.out⟩, ⟨by (with_reducible repeat (first | refine blk_drewN ?_ _ | refine blk_drew ?_ | refine blk_alloc ?_ _)); exact BK118.out⟩, ⟨by repeat (first | (with_reducible first | exact HB.out | apply below_alloc | apply pw_below_drewN | apply below_drew1 | refine below_set ?_ GE116.out | refine below_set ?_ GE117.out | refine below_set ?_ GE118.out) | exact HB.out)⟩⟩
 case round =>
  clear H'
  try clear c1
  try clear p2
  obtain ⟨x4_1, x119000_1, x119001_1, x119002_1, rfl, HA, HK1, BK116, BK117, BK118, HB⟩ := hrel
  cases gk with
  | zero => exact absurd HA.out (by simp [laws_toInt16A3.l0])
  | succ k1 =>
   have H := HA.out
   clear HA
   simp only [laws_toInt16A3.l0] at H
   by_cases c5 : x4_1 < 3
   rotate_left
   ·rw [if_neg c5] at H
    have c5b0 : decide (x4_1 < 3) = false := decide_eq_false c5
    clear c5
    simp only [Option.some.injEq, Prod.mk.injEq] at H
    obtain ⟨rfl, rfl, rfl⟩ := H
    have hnb13 := NB118_116.out
    have hnc13 := NB116_118.out
    have hnb14 := NB118_117.out
    have hnc14 := NB117_118.out
    have hcz15_0 : wr.cell? ⟨gb118, 0, none⟩ = some (.int .i16 x119000_1) := (blk_cell BK118.out 0).trans rfl
    have hcz15_1 : wr.cell? ⟨gb118, 1, none⟩ = some (.int .i16 x119001_1) := (blk_cell BK118.out 1).trans rfl
    have hcz15_2 : wr.cell? ⟨gb118, 2, none⟩ = some (.int .i16 x119002_1) := (blk_cell BK118.out 2).trans rfl
    have hfz15_0 := blk_frozen BK118.out 0
    have hfz15_1 := blk_frozen BK118.out 1
    have hfz15_2 := blk_frozen BK118.out 2
    have hnb16 := NB117_116.out
    have hnc16 := NB116_117.out
    have hcz17_0 : wr.cell? ⟨gb117, 0, none⟩ = some (.int .i16 0) := (blk_cell BK117.out 0).trans rfl
    have hcz17_1 : wr.cell? ⟨gb117, 1, none⟩ = some (.int .i16 0) := (blk_cell BK117.out 1).trans rfl
    have hcz17_2 : wr.cell? ⟨gb117, 2, none⟩ = some (.int .i16 0) := (blk_cell BK117.out 2).trans rfl
    have hfz17_0 := blk_frozen BK117.out 0
    have hfz17_1 := blk_frozen BK117.out 1
    have hfz17_2 := blk_frozen BK117.out 2
    go_wp2_with (first | ((with_reducible refine gate_store (t := 75) (p := 2) rfl ?_); refine store_event (t := 75) (p := 2) (v := ?vo_w18) (w1 := (((wr.setCell ⟨gb117, 0, none⟩ (.int .i16 x119000_1)).setCell ⟨gb117, 1, none⟩ (.int .i16 x119001_1)).setCell ⟨gb117, 2, none⟩ (.int .i16 x119002_1))) ?hg ?ho ?hn ?hr ?_; (case ho => rfl); (case hg => rfl); (case hn => rfl); (case hr => first | (go_simp; done) | (go_simp; rfl)); intro w18 hw; have n0_ : Aside0 (w18.heap[gb116]? = some (.cells #[.int .i16 a0_0, .int .i16 a0_1, .int .i16 a0_2] 75 (0, 0))) := ⟨(by rw [hw]; exact (by (with_reducible repeat (first | refine blk_drewN ?_ _ | refine blk_drew ?_ | refine blk_alloc ?_ _)); refine blk_far ?_ NB116_117.out _; (with_reducible repeat (first | refine blk_drewN ?_ _ | refine blk_drew ?_ | refine blk_alloc ?_ _)); refine blk_far ?_ NB116_117.out _; (with_reducible repeat (first | refine blk_drewN ?_ _ | refine blk_drew ?_ | refine blk_alloc ?_ _)); refine blk_far ?_ NB116_117.out _; (with_reducible repeat (first | refine blk_drewN ?_ _ | refine blk_drew ?_ | refine blk_alloc ?_ _)); exact BK116.out))⟩; have n1_ : Aside0 (w18.heap[gb117]? = some (.cells #[.int .i16 x119000_1, .int .i16 x119001_1, .int .i16 x119002_1] 75 (0, 0))) := ⟨(by rw [hw]; exact (by (with_reducible repeat (first | refine blk_drewN ?_ _ | refine blk_drew ?_ | refine blk_alloc ?_ _)); refine blk_put (cs := #[.int .i16 x119000_1, .int .i16 x119001_1, .int .i16 0]) ?_ 2 _ rfl; (with_reducible repeat (first | refine blk_drewN ?_ _ | refine blk_drew ?_ | refine blk_alloc ?_ _)); refine blk_put (cs := #[.int .i16 x119000_1, .int .i16 0, .int .i16 0]) ?_ 1 _ rfl; (with_reducible repeat (first | refine blk_drewN ?_ _ | refine blk_drew ?_ | refine blk_alloc ?_ _)); refine blk_put (cs := #[.int .i16 0, .int .i16 0, .int .i16 0]) ?_ 0 _ rfl; (with_reducible repeat (first | refine blk_drewN ?_ _ | refine blk_drew ?_ | refine blk_alloc ?_ _)); exact BK117.out))⟩; have n2_ : Aside0 (w18.heap[gb118]? = some (.cells #[.int .i16 x119000_1, .int .i16 x119001_1, .int .i16 x119002_1] 75 (0, 0))) := ⟨(by rw [hw]; exact (by (with_reducible repeat (first | refine blk_drewN ?_ _ | refine blk_drew ?_ | refine blk_alloc ?_ _)); refine blk_far ?_ NB118_117.out _; (with_reducible repeat (first | refine blk_drewN ?_ _ | refine blk_drew ?_ | refine blk_alloc ?_ _)); refine blk_far ?_ NB118_117.out _; (with_reducible repeat (first | refine blk_drewN ?_ _ | refine blk_drew ?_ | refine blk_alloc ?_ _)); refine blk_far ?_ NB118_117.out _; (with_reducible repeat (first | refine blk_drewN ?_ _ | refine blk_drew ?_ | refine blk_alloc ?_ _)); exact BK118.out))⟩; have n3_ : Aside0 (Below w.heap.size w w18) := ⟨q145x6_⟩; clear hw; clear BK116; clear BK117; clear BK118; clear HB; have BK116 := n0_; have BK117 := n1_; have BK118 := n2_; have HB := n3_; clear n0_ n1_ n2_ n3_))
    refine bodyPost_ret (results_cell_row rfl _ _ gb117 75 #[.int .i16 x119000_1, .int .i16 x119001_1, .int .i16 x119002_1] (0, 0) _ rfl q145x3_ Try.underlying75 rfl (by kernel_rfl)) rfl ?_
    exact ⟨by first | rfl | (simp [errW_none, errW_some] <;> rfl) | (simp [*, errW_none, errW_some] <;> rfl), by repeat (first | (with_reducible first | exact HB.out | apply below_alloc | apply pw_below_drewN | apply below_drew1 | refine below_set ?_ GE116.out | refine below_set ?_ GE117.out | refine below_set ?_ GE118.out) | exact HB.out)⟩

   rw [if_pos c5] at H
   have c5b0 : decide (x4_1 < 3) = true := decide_eq_true c5
   clear c5
   by_cases c6 : 0 ≤ x4_1
   rotate_left
   ·rw [if_neg c6] at H
    exact absurd H (by simp)
   rw [if_pos c6] at H
   have c6b0 : decide (0 ≤ x4_1) = true := decide_eq_true c6
   clear c6
   have H' := Aside0.mk H
   clear H
   have hnb7 := NB116_117.out
   have hnc7 := NB117_116.out
   have hnb8 := NB116_118.out
   have hnc8 := NB118_116.out
   have hcz9_0 : wr.cell? ⟨gb116, 0, none⟩ = some (.int .i16 a0_0) := (blk_cell BK116.out 0).trans rfl
   have hcz9_1 : wr.cell? ⟨gb116, 1, none⟩ = some (.int .i16 a0_1) := (blk_cell BK116.out 1).trans rfl
   have hcz9_2 : wr.cell? ⟨gb116, 2, none⟩ = some (.int .i16 a0_2) := (blk_cell BK116.out 2).trans rfl
   have hfz9_0 := blk_frozen BK116.out 0
   have hfz9_1 := blk_frozen BK116.out 1
   have hfz9_2 := blk_frozen BK116.out 2
   have HP119 := Aside0.mk (show 0 ≤ (x4_1 : Int) ∧ (x4_1 : Int) < 3 from ⟨of_decide_eq_true (by first | (with_reducible assumption) | assumption), of_decide_eq_true (by first | (with_reducible assumption) | assumption)⟩)
   have hx119_0 : wr.cell? ⟨gb116, (x4_1 : Int).toNat, none⟩ = some (.int .i16 (rd [a0_0, a0_1, a0_2] x4_1)) := (by (rcases (show x4_1 = 0 ∨ x4_1 = 1 ∨ x4_1 = 2 from (by have h_ := HP119.out; omega)) with rfl | rfl | rfl <;> first | exact (blk_cell BK116.out 0).trans rfl | exact (blk_cell BK116.out 1).trans rfl | exact (blk_cell BK116.out 2).trans rfl))
   have hx119_1 : wr.cell? ((⟨gb116, 0, none⟩ : Addr).add (x4_1 : Int).toNat) = some (.int .i16 (rd [a0_0, a0_1, a0_2] x4_1)) := (congrArg _ (add_plain _ _)).trans hx119_0
   have hpz119 := eq_true HP119.out.1
   have hpy119 := eq_true HP119.out.2
   have hnb10 := NB118_117.out
   have hnc10 := NB117_118.out
   have hcz11_0 : wr.cell? ⟨gb118, 0, none⟩ = some (.int .i16 x119000_1) := (blk_cell BK118.out 0).trans rfl
   have hcz11_1 : wr.cell? ⟨gb118, 1, none⟩ = some (.int .i16 x119001_1) := (blk_cell BK118.out 1).trans rfl
   have hcz11_2 : wr.cell? ⟨gb118, 2, none⟩ = some (.int .i16 x119002_1) := (blk_cell BK118.out 2).trans rfl
   have hfz11_0 := blk_frozen BK118.out 0
   have hfz11_1 := blk_frozen BK118.out 1
   have hfz11_2 := blk_frozen BK118.out 2
   have HP120 := Aside0.mk (show 0 ≤ (x4_1 : Int) ∧ (x4_1 : Int) < 3 from ⟨of_decide_eq_true (by first | (with_reducible assumption) | assumption), of_decide_eq_true (by first | (with_reducible assumption) | assumption)⟩)
   have hx120_0 : wr.cell? ⟨gb118, (x4_1 : Int).toNat, none⟩ = some (.int .i16 (rd [x119000_1, x119001_1, x119002_1] x4_1)) := (by (rcases (show x4_1 = 0 ∨ x4_1 = 1 ∨ x4_1 = 2 from (by have h_ := HP120.out; omega)) with rfl | rfl | rfl <;> first | exact (blk_cell BK118.out 0).trans rfl | exact (blk_cell BK118.out 1).trans rfl | exact (blk_cell BK118.out 2).trans rfl))
   have hx120_1 : wr.cell? ((⟨gb118, 0, none⟩ : Addr).add (x4_1 : Int).toNat) = some (.int .i16 (rd [x119000_1, x119001_1, x119002_1] x4_1)) := (congrArg _ (add_plain _ _)).trans hx120_0
   have hf120_0 := blk_frozen BK118.out ((x4_1 : Int).toNat)
   have hpz120 := eq_true HP120.out.1
   have hpy120 := eq_true HP120.out.2
   go_wp2_with (first | ((with_reducible refine gate_store (t := 74) (p := 13) rfl ?_); refine store_event (t := 74) (p := 13) (v := ?vo_w12) (w1 := (wr.setCell ⟨gb118, (x4_1 : Int).toNat, none⟩ (.int .i16 (rd [a0_0, a0_1, a0_2] x4_1)))) ?hg ?ho ?hn ?hr ?_; (case ho => rfl); (case hg => rfl); (case hn => rfl); (case hr => first | (go_simp; done) | (go_simp; rfl)); intro w12 hw; have n0_ : Aside0 (w12.heap[gb116]? = some (.cells #[.int .i16 a0_0, .int .i16 a0_1, .int .i16 a0_2] 75 (0, 0))) := ⟨(by rw [hw]; exact (by (with_reducible repeat (first | refine blk_drewN ?_ _ | refine blk_drew ?_ | refine blk_alloc ?_ _)); refine blk_far ?_ NB116_118.out _; (with_reducible repeat (first | refine blk_drewN ?_ _ | refine blk_drew ?_ | refine blk_alloc ?_ _)); exact BK116.out))⟩; have n1_ : Aside0 (w12.heap[gb117]? = some (.cells #[.int .i16 0, .int .i16 0, .int .i16 0] 75 (0, 0))) := ⟨(by rw [hw]; exact (by (with_reducible repeat (first | refine blk_drewN ?_ _ | refine blk_drew ?_ | refine blk_alloc ?_ _)); refine blk_far ?_ NB117_118.out _; (with_reducible repeat (first | refine blk_drewN ?_ _ | refine blk_drew ?_ | refine blk_alloc ?_ _)); exact BK117.out))⟩; have n2_ : Aside0 (w12.heap[gb118]? = some (.cells #[.int .i16 (aput 0 x4_1 (rd [a0_0, a0_1, a0_2] x4_1) x119000_1), .int .i16 (aput 1 x4_1 (rd [a0_0, a0_1, a0_2] x4_1) x119001_1), .int .i16 (aput 2 x4_1 (rd [a0_0, a0_1, a0_2] x4_1) x119002_1)] 75 (0, 0))) := ⟨(by rw [hw]; exact (by (with_reducible repeat (first | refine blk_drewN ?_ _ | refine blk_drew ?_ | refine blk_alloc ?_ _)); refine blk_put (cs := #[.int .i16 x119000_1, .int .i16 x119001_1, .int .i16 x119002_1]) ?_ ((x4_1 : Int).toNat) _ (by rcases (show x4_1 = 0 ∨ x4_1 = 1 ∨ x4_1 = 2 from (by have h_ := HP120.out; omega)) with rfl | rfl | rfl <;> rfl); (with_reducible repeat (first | refine blk_drewN ?_ _ | refine blk_drew ?_ | refine blk_alloc ?_ _)); exact BK118.out))⟩; have n3_ : Aside0 (Below w.heap.size w w12) := ⟨q145x6_⟩; clear hw; clear BK116; clear BK117; clear BK118; clear HB; have BK116 := n0_; have BK117 := n1_; have BK118 := n2_; have HB := n3_; clear n0_ n1_ n2_ n3_))
   go_roundg k1
   case measure => have := HK1.out; omega
   case rel => exact ⟨(wrap64 (x4_1 + 1)), ((aput 0 x4_1 (rd [a0_0, a0_1, a0_2] x4_1) x119000_1)), ((aput 1 x4_1 (rd [a0_0, a0_1, a0_2] x4_1) x119001_1)), ((aput 2 x4_1 (rd [a0_0, a0_1, a0_2] x4_1) x119002_1)), (by first | rfl | (simp; done) | (simp [*]; done)), H', ⟨by have := HK1.out; omega⟩, ⟨by (with_reducible repeat (first | refine blk_drewN ?_ _ | refine blk_drew ?_ | refine blk_alloc ?_ _)); exact BK116.out⟩, ⟨by (with_reducible repeat (first | refine blk_drewN ?_ _ | refine blk_drew ?_ | refine blk_alloc ?_ _)); exact BK117.out⟩, ⟨by (with_reducible repeat (first | refine blk_drewN ?_ _ | refine blk_drew ?_ | refine blk_alloc ?_ _)); exact BK118.out⟩, ⟨by repeat (first | (with_reducible first | exact HB.out | apply below_alloc | apply pw_below_drewN | apply below_drew1 | refine below_set ?_ GE116.out | refine below_set ?_ GE117.out | refine below_set ?_ GE118.out) | exact HB.out)⟩⟩
end Go.Proofs.Ytlccefmimpmgjaa.MFnExactIsProductive
