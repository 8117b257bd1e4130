/- Functions of the program as Lean functions, and the proof that the code comes to what they say. Written by a program of this session (myprint.py). -/
import Derived.Test.YtbomadebdekjjaaMFnExactValueAtx0
import Derived.Test.YtbomadebdekjjaaMFnExactValueAtx4
import Derived.Test.YtbomadebdekjjaaMFnExactValueAtx6
import Derived.Test.YtbomadebdekjjaaMFnExactValueAtx7
namespace Go.Proofs.Ytbomadebdekjjaa.MFnExactValueAt
open Go.RowKit Go.Proofs.Ytbomadebdekjjaa.MOpen Go.Proofs.YtbomadebdekjjaaW.PrintWords Go.Proofs.YtbomadebdekjjaaW.PrintLast Go.Proofs.YtbomadebdekjjaaW.PrintMore
attribute [local go_sem] max2_int min2_int max_two min_two max_three min_three max_four min_four   -- for this text's walks alone
set_option linter.unusedVariables false
set_option linter.unusedSimpArgs false

set_option linter.defProp false
def bS61_ := @below_set
def aM61_ := @Aside0.mk
def kC61_ := @blk_cell
theorem q61x1_ {P : Prop} (h : P := by repeat (first | (with_reducible first | exact HK.out | apply KeepBut.set_ | apply keep_drewN | apply keep_drew | apply keep_alloc | refine keep_far ?_ GW289.out _ | refine keep_far ?_ GW290.out _ | refine keep_far ?_ GW292.out _) | exact HK.out)) : P := h
theorem q61x2_ {P : Prop} (h : P := by (with_reducible repeat (first | refine blk_drewN ?_ _ | refine blk_drew ?_ | refine blk_alloc ?_ _)); exact BK289.out) : P := h
theorem q61x3_ {P : Prop} (h : P := by (with_reducible repeat (first | refine blk_drewN ?_ _ | refine blk_drew ?_ | refine blk_alloc ?_ _)); exact BK290.out) : P := h
theorem q61x4_ {P : Prop} (h : P := by repeat (first | (with_reducible first | exact HK.out | apply KeepBut.set_ | apply keep_drewN | apply keep_drew | apply keep_alloc | refine keep_far ?_ GW289.out _ | refine keep_far ?_ GW290.out _) | exact HK.out)) : P := h
theorem q61x5_ {P : Prop} (h : P := by repeat (first | (with_reducible first | exact HK.out | apply KeepBut.set_ | apply keep_drewN | apply keep_drew | apply keep_alloc | refine keep_far ?_ GW289.out _) | exact HK.out)) : P := h
theorem q61x6_ {P : Prop} (h : P := by (with_reducible repeat (first | refine blk_drewN ?_ _ | refine blk_drew ?_ | refine blk_alloc ?_ _)); exact BK292.out) : P := h
theorem q61x7_ {P : Prop} (h : P := by repeat (first | (with_reducible first | exact HK.out | apply KeepBut.set_ | apply keep_drewN | apply keep_drew | apply keep_alloc) | exact HK.out)) : P := h
theorem q61x8_ {P : Prop} (h : P := by rw [hw]; exact (by repeat (first | (with_reducible first | exact HB.out | apply below_alloc | apply pw_below_drewN | apply below_drew1 | refine bS61_ ?_ (IsS79.ge HI0.out) | refine bS61_ ?_ GE289.out | refine bS61_ ?_ GE290.out | refine bS61_ ?_ GE292.out) | exact HB.out))) : P := h
theorem q61x9_ {P : Prop} (h : P := by rw [hw]; exact (by repeat (first | (with_reducible first | exact HI0.out | apply IsS79.alloc | apply IsS79.drewN | apply IsS79.drew | apply IsS79.set_0 | refine IsS79.far ?_ NB0_289.out _ | refine IsS79.far ?_ NB0_290.out _ | refine IsS79.far ?_ NB0_292.out _) | exact HI0.out))) : P := h
theorem q61x10_ {P : Prop} (h : P := by first | (rw [add_block]; exact hne295_0) | (show (Addr.add _ _).block ≠ _; rw [add_block]; exact hne295_0) | exact hne295_0) : P := h
theorem q61x11_ {P : Prop} (h : P := by first | (rw [add_block]; exact hne295_1) | (show (Addr.add _ _).block ≠ _; rw [add_block]; exact hne295_1) | exact hne295_1) : P := h
theorem q61x12_ {P : Prop} (h : P := by first | (rw [add_block]; exact hne295_2) | (show (Addr.add _ _).block ≠ _; rw [add_block]; exact hne295_2) | exact hne295_2) : P := h
theorem q61x13_ {P : Prop} (h : P := by first | (rw [add_block]; exact hne295_3) | (show (Addr.add _ _).block ≠ _; rw [add_block]; exact hne295_3) | exact hne295_3) : P := h
theorem q61x14_ {P : Prop} (h : P := by first | (rw [add_block]; exact hne295_4) | (show (Addr.add _ _).block ≠ _; rw [add_block]; exact hne295_4) | exact hne295_4) : P := h
theorem q61x15_ {P : Prop} (h : P := by first | (rw [add_block]; exact hne295_5) | (show (Addr.add _ _).block ≠ _; rw [add_block]; exact hne295_5) | exact hne295_5) : P := h
theorem q61x16_ {P : Prop} (h : P := by first | (rw [add_block]; exact hne295_6) | (show (Addr.add _ _).block ≠ _; rw [add_block]; exact hne295_6) | exact hne295_6) : P := h
theorem q61x17_ {P : Prop} (h : P := by rw [hg]; exact Nat.ne_of_lt (blk_lt (g := gb289) (o := .cells #[.bool a2.f0, .int .u32 a2.f1.f0, .int .u32 a2.f1.f1, .int .u32 a2.f1.f2, .int .u32 a2.f1.f3, .int .u32 a2.f1.f4, .int .u32 a2.f1.f5] 25 (0, 0)) q61x2_)) : P := h
theorem q61x18_ {P : Prop} (h : P := by rw [hg]; exact Nat.ne_of_gt (blk_lt (g := gb289) (o := .cells #[.bool a2.f0, .int .u32 a2.f1.f0, .int .u32 a2.f1.f1, .int .u32 a2.f1.f2, .int .u32 a2.f1.f3, .int .u32 a2.f1.f4, .int .u32 a2.f1.f5] 25 (0, 0)) q61x2_)) : P := h
theorem q61x19_ {P : Prop} (h : P := by (try simp only [List.map_toArray, List.map_cons, List.map_nil]); first | done | rfl | (simp only [List.length_drop, List.length_take]; rfl) | (simp only [List.drop_one]; done) | (simp only [List.drop_one]; rfl)) : P := h
theorem q61x20_ {P : Prop} (h : P := by intro w'; go_simp; with_reducible rfl) : P := h
theorem q61x21_ {P : Prop} (h : P := by simp only [Act.put, List.setIfInBounds_toArray, List.set_cons_zero, List.set_cons_succ, i64_w, i32_w]; rfl) : P := h
theorem q61x22_ {P : Prop} (h : P := by rintro w' ⟨s0, s1, s2, s3, s4, s5, s6, s7, s8, s9, s10, s11, s12, s13, s14, s15, s16, s17, s18, s19, s20⟩; go_simp; with_reducible rfl) : P := h
/-! ### impl_calc_valueAt: function 61 -/
def impl_calc_valueAt.l0 : Nat → List (S24) → Int → Int → Int → Bool → S24 → S24 → Option (S24 × Bool)
 | 0, _, _, _, _, _, _, _ => none
 | k + 1, x1, x3, x9, x11, x1000, x290000, x293000 => if x11 ≥ 0 then ((impl_calc_mul.f k x1000 x293000 x290000).bind fun bt293 => (if 0 ≤ x11 then (if x11 < (x1.length : Int) then ((impl_calc_up.f k bt293.2 (rd_T24 x1 x11) (wrap64 (x3 * (wrap64 (x9 - x11))))).bind fun bt296 => ((impl_calc_add.f k bt296.2 bt293.1 bt296.1).bind fun bt298 => (impl_calc_valueAt.l0 k x1 x3 x9 (wrap64 (x11 - 1)) bt298.2 x290000 bt298.1))) else (none)) else (none))) else (some (x293000, x1000))
def impl_calc_valueAt.f (k : Nat) (s0_0 : Bool) (l1 : List (S24)) (a2 : S24) (a3 : Int) : Option (S24 × Bool) := if 0 ≤ (wrap64 ((l1.length : Int) - 1)) then (if (wrap64 ((l1.length : Int) - 1)) < (l1.length : Int) then (impl_calc_valueAt.l0 k l1 a3 (wrap64 ((l1.length : Int) - 1)) (wrap64 ((wrap64 ((l1.length : Int) - 1)) - 1)) s0_0 a2 (rd_T24 l1 (wrap64 ((l1.length : Int) - 1)))) else (none)) else (none)
theorem impl_calc_valueAt.mono_l : ∀ k, (∀ y0 y1 y2 y3 y4 y5 y6, LeO (impl_calc_valueAt.l0 k y0 y1 y2 y3 y4 y5 y6) (impl_calc_valueAt.l0 (k + 1) y0 y1 y2 y3 y4 y5 y6))
 | 0 => fun _ _ _ _ _ _ _ r h => by simp [impl_calc_valueAt.l0] at h
 | k + 1 => by
  have ih0 := impl_calc_valueAt.mono_l k
  intro y0 y1 y2 y3 y4 y5 y6
  unfold impl_calc_valueAt.l0
  repeat' first
  | (with_reducible exact ih0 _ _ _ _ _ _ _)
  | (with_reducible exact impl_calc_add.mono _ _ _ _)
  | (with_reducible exact impl_calc_mul.mono _ _ _ _)
  | (with_reducible exact impl_calc_up.mono _ _ _ _)
  | (with_reducible exact LeO.refl _)
  | (with_reducible exact LeO.none _)
  | (with_reducible refine LeO.ite ?_ ?_)
  | (with_reducible refine LeO.bind ?_ (fun _ => ?_))
  | exact ih0 _ _ _ _ _ _ _
  | exact impl_calc_add.mono _ _ _ _
  | exact impl_calc_mul.mono _ _ _ _
  | exact impl_calc_up.mono _ _ _ _
  | exact LeO.none _
  | refine LeO.ite ?_ ?_
  | refine LeO.bind ?_ (fun _ => ?_)
theorem impl_calc_valueAt.mono : ∀ a0 a1 a2 a3 k, LeO (impl_calc_valueAt.f k a0 a1 a2 a3) (impl_calc_valueAt.f (k + 1) a0 a1 a2 a3) := by
 intro a0 a1 a2 a3 k
 have ih0 := impl_calc_valueAt.mono_l k
 unfold impl_calc_valueAt.f
 repeat' first
   | (with_reducible exact ih0 _ _ _ _ _ _ _)
   | (with_reducible exact impl_calc_add.mono _ _ _ _)
   | (with_reducible exact impl_calc_mul.mono _ _ _ _)
   | (with_reducible exact impl_calc_up.mono _ _ _ _)
   | (with_reducible exact LeO.refl _)
   | (with_reducible exact LeO.none _)
   | (with_reducible refine LeO.ite ?_ ?_)
   | (with_reducible refine LeO.bind ?_ (fun _ => ?_))
   | exact ih0 _ _ _ _ _ _ _
   | exact impl_calc_add.mono _ _ _ _
   | exact impl_calc_mul.mono _ _ _ _
   | exact impl_calc_up.mono _ _ _ _
   | exact LeO.none _
   | refine LeO.ite ?_ ?_
   | refine LeO.bind ?_ (fun _ => ?_)
def impl_calc_valueAt.T6 : Bool × List (List Nat × List Nat) := (true, [([], []), ([], []), ([], []), ([], []), ([1, 2, 3], [1, 2, 3]), ([], []), ([], []), ([], []), ([6, 7], [6, 7]), ([8], [8]), ([], []), ([], []), ([], []), ([11, 12], [11, 12]), ([10, 13], [10, 13]), ([5, 9, 14, 4], [5, 9, 14]), ([0, 4, 15, 15], [0, 4, 15]), ([16, 16, 0, 1, 2, 3, 4, 5, 6, 7, 8, 9, 10, 11, 12, 13, 14, 15, 16], [16])])
def impl_calc_valueAt.B6 : List Nat := [0, 0, 0, 0, 14, 0, 0, 0, 192, 448, 0, 0, 0, 6144, 15360, 32766, 65535, 131071]
theorem impl_calc_valueAt.tab6 : rtab .any (opsOf Try.f61 6) = impl_calc_valueAt.T6 := by kernel_rfl
theorem impl_calc_valueAt.bits6 : waitsOk impl_calc_valueAt.T6.2 impl_calc_valueAt.B6 = true := by kernel_rfl
set_option maxHeartbeats 8000000 in
set_option maxRecDepth 100000 in
theorem impl_calc_valueAt.calls (k : Nat) (g : Nat) (s0_0 : Bool) (A1 : Option Addr) (c1 : Nat) (l1 : List (S24)) (a2 : S24) (a3 : Int) (r1 : S24) (r2 : Bool) (w0 w : World) (hI : IsS79 w0 w g s0_0) (hB : Below w0.heap.size w0 w) (hr1 : ∀ W_, KeepBut w W_ g none → Kd.C k24 W_ A1 l1.length l1) (hc1 : l1.length ≤ c1) (h : impl_calc_valueAt.f k s0_0 l1 a2 a3 = some (r1, r2)) :
  Calls Try.prog 61 #[.pointer (some ⟨g, 0, none⟩), .slice A1 l1.length c1, .agg #[.bool a2.f0, .int .u32 a2.f1.f0, .int .u32 a2.f1.f1, .int .u32 a2.f1.f2, .int .u32 a2.f1.f3, .int .u32 a2.f1.f4, .int .u32 a2.f1.f5], .int .i64 a3] w fun e w' => e = .returned (.agg #[.bool r1.f0, .int .u32 r1.f1.f0, .int .u32 r1.f1.f1, .int .u32 r1.f1.f2, .int .u32 r1.f1.f3, .int .u32 r1.f1.f4, .int .u32 r1.f1.f5]) ∧ IsS79 w0 w' g r2 ∧ Below w0.heap.size w0 w' ∧ KeepBut w w' g none := by
 have hu25 := Try.underlying25
 have HR1 := aM61_ hr1
 have HC1 := aM61_ hc1
 clear hr1 hc1
 have HI0 := aM61_ hI
 have HK := aM61_ (KeepBut.refl w g none)
 have HL := aM61_ hB.size
 clear hI
 have HW0 := aM61_ hB.size
 have HB := aM61_ hB
 clear hB
 have H : (if 0 ≤ (wrap64 ((l1.length : Int) - 1)) then (if (wrap64 ((l1.length : Int) - 1)) < (l1.length : Int) then (impl_calc_valueAt.l0 k l1 a3 (wrap64 ((l1.length : Int) - 1)) (wrap64 ((wrap64 ((l1.length : Int) - 1)) - 1)) s0_0 a2 (rd_T24 l1 (wrap64 ((l1.length : Int) - 1)))) else (none)) else (none)) = some (r1, r2) := h
 clear h
 obtain ⟨ji5, hji5⟩ : ∃ j_ : Int, (wrap64 ((l1.length : Int) - 1)) = j_ := ⟨_, rfl⟩
 replace H : (if 0 ≤ (ji5) then (if (ji5) < (l1.length : Int) then (impl_calc_valueAt.l0 k l1 a3 ji5 (wrap64 ((ji5) - 1)) s0_0 a2 (rd_T24 l1 (ji5))) else (none)) else (none)) = some (r1, r2) := by first | (rw [hji5] at H; exact H) | (simp only [hji5] at H ⊢; exact H)
 have hji5w : (IntKind.i64.wrap ((l1.length : Int) - 1)) = ji5 := (i64_w _).trans hji5
 by_cases c6 : 0 ≤ (ji5)
 rotate_left
 ·rw [if_neg c6] at H
  exact absurd H (by simp)

 rw [if_pos c6] at H
 have c6b0 : decide (0 ≤ (ji5)) = true := decide_eq_true c6
 clear c6
 by_cases c7 : (ji5) < (l1.length : Int)
 rotate_left
 ·rw [if_neg c7] at H
  exact absurd H (by simp)
 rw [if_pos c7] at H
 have c7b0 : decide ((ji5) < (l1.length : Int)) = true := decide_eq_true c7
 clear c7
 have H' := aM61_ H
 clear H
 go_enter Try.func61, Try.ntmps61
 go_wp2_with (first | ((with_reducible refine gate_dst (N := 6) rfl ?_); refine box_event ?hg (N := 6) ?hd (cs := #[.bool a2.f0, .int .u32 a2.f1.f0, .int .u32 a2.f1.f1, .int .u32 a2.f1.f2, .int .u32 a2.f1.f3, .int .u32 a2.f1.f4, .int .u32 a2.f1.f5]) (t := 25) ?hr ?_; (case hd => rfl); (case hg => rfl); (case hr => first | (go_simp; done) | (go_simp; rfl)); intro gb289 hg w8 hbox hb; have n0_ := aM61_ (IsS79.below (by repeat (first | (with_reducible first | exact HI0.out | apply IsS79.alloc | apply IsS79.drewN | apply IsS79.drew | apply IsS79.set_0) | exact HI0.out)) hb); have n1_ := aM61_ (KeepBut.trans q61x7_ (KeepBut.of_below hb g none) (.inl rfl)); have n2_ := aM61_ (below_step (by repeat (first | (with_reducible first | exact HB.out | apply below_alloc | apply pw_below_drewN | apply below_drew1 | refine bS61_ ?_ (IsS79.ge HI0.out)) | exact HB.out)) hb); have n3_ := aM61_ (hbox); have n4_ := aM61_ ((by rw [hg]; exact (keep_size (w := w) (g := g) (row := none) q61x7_) : w.heap.size ≤ gb289)); have n5_ := aM61_ ((Nat.le_trans HW0.out (by rw [hg]; exact (keep_size (w := w) (g := g) (row := none) q61x7_) : w.heap.size ≤ gb289) : w0.heap.size ≤ gb289)); have n6_ := aM61_ ((by rw [hg]; exact Nat.ne_of_lt (IsS79.lt (show IsS79 w0 _ g s0_0 from by repeat (first | (with_reducible first | exact HI0.out | apply IsS79.alloc | apply IsS79.drewN | apply IsS79.drew | apply IsS79.set_0) | exact HI0.out))) : g ≠ gb289)); have n7_ := aM61_ ((by rw [hg]; exact Nat.ne_of_gt (IsS79.lt (show IsS79 w0 _ g s0_0 from by repeat (first | (with_reducible first | exact HI0.out | apply IsS79.alloc | apply IsS79.drewN | apply IsS79.drew | apply IsS79.set_0) | exact HI0.out))) : gb289 ≠ g)); clear HI0 HK HB; have HI0 := n0_; have HK := n1_; have HB := n2_; have BK289 := n3_; have GW289 := n4_; have GE289 := n5_; have NB0_289 := n6_; have NB289_0 := n7_; clear n0_ n1_ n2_ n3_ n4_ n5_ n6_ n7_; clear hb hbox hg) | ((with_reducible refine gate_dst (N := 8) rfl ?_); refine box_event ?hg (N := 8) ?hd (cs := #[.bool false, .int .u32 0, .int .u32 0, .int .u32 0, .int .u32 0, .int .u32 0, .int .u32 0]) (t := 25) ?hr ?_; (case hd => rfl); (case hg => rfl); (case hr => first | (go_simp; done) | (go_simp; rfl)); intro gb290 hg w9 hbox hb; have n0_ := aM61_ (IsS79.below (by repeat (first | (with_reducible first | exact HI0.out | apply IsS79.alloc | apply IsS79.drewN | apply IsS79.drew | apply IsS79.set_0 | refine IsS79.far ?_ NB0_289.out _) | exact HI0.out)) hb); have n1_ := aM61_ (blk_below (g := gb289) (o := .cells #[.bool a2.f0, .int .u32 a2.f1.f0, .int .u32 a2.f1.f1, .int .u32 a2.f1.f2, .int .u32 a2.f1.f3, .int .u32 a2.f1.f4, .int .u32 a2.f1.f5] 25 (0, 0)) q61x2_ hb); have n2_ := aM61_ (KeepBut.trans q61x5_ (KeepBut.of_below hb g none) (.inl rfl)); have n3_ := aM61_ (below_step (by repeat (first | (with_reducible first | exact HB.out | apply below_alloc | apply pw_below_drewN | apply below_drew1 | refine bS61_ ?_ (IsS79.ge HI0.out) | refine bS61_ ?_ GE289.out) | exact HB.out)) hb); have n4_ := aM61_ (hbox); have n5_ := aM61_ ((by rw [hg]; exact (keep_size (w := w) (g := g) (row := none) q61x5_) : w.heap.size ≤ gb290)); have n6_ := aM61_ ((Nat.le_trans HW0.out (by rw [hg]; exact (keep_size (w := w) (g := g) (row := none) q61x5_) : w.heap.size ≤ gb290) : w0.heap.size ≤ gb290)); have n7_ := aM61_ ((q61x17_ : gb289 ≠ gb290)); have n8_ := aM61_ ((q61x18_ : gb290 ≠ gb289)); have n9_ := aM61_ ((by rw [hg]; exact Nat.ne_of_lt (IsS79.lt (show IsS79 w0 _ g s0_0 from by repeat (first | (with_reducible first | exact HI0.out | apply IsS79.alloc | apply IsS79.drewN | apply IsS79.drew | apply IsS79.set_0 | refine IsS79.far ?_ NB0_289.out _) | exact HI0.out))) : g ≠ gb290)); have n10_ := aM61_ ((by rw [hg]; exact Nat.ne_of_gt (IsS79.lt (show IsS79 w0 _ g s0_0 from by repeat (first | (with_reducible first | exact HI0.out | apply IsS79.alloc | apply IsS79.drewN | apply IsS79.drew | apply IsS79.set_0 | refine IsS79.far ?_ NB0_289.out _) | exact HI0.out))) : gb290 ≠ g)); clear HI0 BK289 HK HB; have HI0 := n0_; have BK289 := n1_; have HK := n2_; have HB := n3_; have BK290 := n4_; have GW290 := n5_; have GE290 := n6_; have NB289_290 := n7_; have NB290_289 := n8_; have NB0_290 := n9_; have NB290_0 := n10_; clear n0_ n1_ n2_ n3_ n4_ n5_ n6_ n7_ n8_ n9_ n10_; clear hb hbox hg; have p291 : 0 ≤ ((ji5) : Int) := of_decide_eq_true (by first | (with_reducible assumption) | assumption); have q291 : (ji5) < (l1.length : Int) := of_decide_eq_true (by first | (with_reducible assumption) | assumption); obtain ⟨ad291, e291, hx291_0, hx291_1, hx291_2, hx291_3, hx291_4, hx291_5, hx291_6⟩ := at_T24 (Kd.C_foot_now HR1.out HK.out) (ji5) p291 q291; cases e291; replace p291 := eq_true p291; replace q291 := eq_true q291) | ((with_reducible refine gate_dst (N := 10) rfl ?_); refine box_event ?hg (N := 10) ?hd (cs := #[.bool false, .int .u32 0, .int .u32 0, .int .u32 0, .int .u32 0, .int .u32 0, .int .u32 0]) (t := 25) ?hr ?_; (case hd => rfl); (case hg => rfl); (case hr => first | (go_simp; done) | (go_simp; rfl)); intro gb292 hg w10 hbox hb; have n0_ := aM61_ (IsS79.below (by repeat (first | (with_reducible first | exact HI0.out | apply IsS79.alloc | apply IsS79.drewN | apply IsS79.drew | apply IsS79.set_0 | refine IsS79.far ?_ NB0_289.out _ | refine IsS79.far ?_ NB0_290.out _) | exact HI0.out)) hb); have n1_ := aM61_ (blk_below (g := gb289) (o := .cells #[.bool a2.f0, .int .u32 a2.f1.f0, .int .u32 a2.f1.f1, .int .u32 a2.f1.f2, .int .u32 a2.f1.f3, .int .u32 a2.f1.f4, .int .u32 a2.f1.f5] 25 (0, 0)) q61x2_ hb); have n2_ := aM61_ (blk_below (g := gb290) (o := .cells #[.bool false, .int .u32 0, .int .u32 0, .int .u32 0, .int .u32 0, .int .u32 0, .int .u32 0] 25 (0, 0)) q61x3_ hb); have n3_ := aM61_ (KeepBut.trans q61x4_ (KeepBut.of_below hb g none) (.inl rfl)); have n4_ := aM61_ (below_step (by repeat (first | (with_reducible first | exact HB.out | apply below_alloc | apply pw_below_drewN | apply below_drew1 | refine bS61_ ?_ (IsS79.ge HI0.out) | refine bS61_ ?_ GE289.out | refine bS61_ ?_ GE290.out) | exact HB.out)) hb); have n5_ := aM61_ (hbox); have n6_ := aM61_ ((by rw [hg]; exact (keep_size (w := w) (g := g) (row := none) q61x4_) : w.heap.size ≤ gb292)); have n7_ := aM61_ ((Nat.le_trans HW0.out (by rw [hg]; exact (keep_size (w := w) (g := g) (row := none) q61x4_) : w.heap.size ≤ gb292) : w0.heap.size ≤ gb292)); have n8_ := aM61_ ((q61x17_ : gb289 ≠ gb292)); have n9_ := aM61_ ((q61x18_ : gb292 ≠ gb289)); have n10_ := aM61_ ((by rw [hg]; exact Nat.ne_of_lt (blk_lt (g := gb290) (o := .cells #[.bool false, .int .u32 0, .int .u32 0, .int .u32 0, .int .u32 0, .int .u32 0, .int .u32 0] 25 (0, 0)) q61x3_) : gb290 ≠ gb292)); have n11_ := aM61_ ((by rw [hg]; exact Nat.ne_of_gt (blk_lt (g := gb290) (o := .cells #[.bool false, .int .u32 0, .int .u32 0, .int .u32 0, .int .u32 0, .int .u32 0, .int .u32 0] 25 (0, 0)) q61x3_) : gb292 ≠ gb290)); have n12_ := aM61_ ((by rw [hg]; exact Nat.ne_of_lt (IsS79.lt (show IsS79 w0 _ g s0_0 from by repeat (first | (with_reducible first | exact HI0.out | apply IsS79.alloc | apply IsS79.drewN | apply IsS79.drew | apply IsS79.set_0 | refine IsS79.far ?_ NB0_289.out _ | refine IsS79.far ?_ NB0_290.out _) | exact HI0.out))) : g ≠ gb292)); have n13_ := aM61_ ((by rw [hg]; exact Nat.ne_of_gt (IsS79.lt (show IsS79 w0 _ g s0_0 from by repeat (first | (with_reducible first | exact HI0.out | apply IsS79.alloc | apply IsS79.drewN | apply IsS79.drew | apply IsS79.set_0 | refine IsS79.far ?_ NB0_289.out _ | refine IsS79.far ?_ NB0_290.out _) | exact HI0.out))) : gb292 ≠ g)); clear HI0 BK289 BK290 HK HB; have HI0 := n0_; have BK289 := n1_; have BK290 := n2_; have HK := n3_; have HB := n4_; have BK292 := n5_; have GW292 := n6_; have GE292 := n7_; have NB289_292 := n8_; have NB292_289 := n9_; have NB290_292 := n10_; have NB292_290 := n11_; have NB0_292 := n12_; have NB292_0 := n13_; clear n0_ n1_ n2_ n3_ n4_ n5_ n6_ n7_ n8_ n9_ n10_ n11_ n12_ n13_; clear hb hbox hg; have hnb11 := NB292_289.out; have hnc11 := NB289_292.out; have hnb12 := NB292_290.out; have hnc12 := NB290_292.out; have hnb13 := NB292_0.out; have hnc13 := NB0_292.out; obtain ⟨hcz14_0, hcz14_1, hcz14_2, hcz14_3, hcz14_4, hcz14_5, hcz14_6⟩ := cells7_ (show w10.heap[gb292]? = some (.cells #[.bool false, .int .u32 0, .int .u32 0, .int .u32 0, .int .u32 0, .int .u32 0, .int .u32 0] 25 (0, 0)) from BK292.out); obtain ⟨hfz14_0, hfz14_1, hfz14_2, hfz14_3, hfz14_4, hfz14_5, hfz14_6⟩ := frozen7_ BK292.out) | ((with_reducible refine gate_store (t := 25) (p := 10) rfl ?_); refine store_event (t := 25) (p := 10) (v := ?vo_w15) (w1 := (World.setCell (World.setCell (World.setCell (World.setCell (World.setCell (World.setCell (World.setCell w10 ⟨gb292, 0, none⟩ (.bool ((rd_T24 l1 (ji5)).f0))) ⟨gb292, 1, none⟩ (.int .u32 ((rd_T24 l1 (ji5)).f1.f0))) ⟨gb292, 2, none⟩ (.int .u32 ((rd_T24 l1 (ji5)).f1.f1))) ⟨gb292, 3, none⟩ (.int .u32 ((rd_T24 l1 (ji5)).f1.f2))) ⟨gb292, 4, none⟩ (.int .u32 ((rd_T24 l1 (ji5)).f1.f3))) ⟨gb292, 5, none⟩ (.int .u32 ((rd_T24 l1 (ji5)).f1.f4))) ⟨gb292, 6, none⟩ (.int .u32 ((rd_T24 l1 (ji5)).f1.f5)))) ?hg ?ho ?hn ?hr ?_; (case ho => rfl); (case hg => rfl); (case hn => rfl); (case hr => first | ((try simp only [Act.put, List.setIfInBounds_toArray, List.set_cons_zero, List.set_cons_succ]); exact run_put7_ rfl (show _ = Value.pointer (some ⟨gb292, 0, none⟩) from by rfl) (show _ = Value.agg #[.bool ((rd_T24 l1 (ji5)).f0), .int .u32 ((rd_T24 l1 (ji5)).f1.f0), .int .u32 ((rd_T24 l1 (ji5)).f1.f1), .int .u32 ((rd_T24 l1 (ji5)).f1.f2), .int .u32 ((rd_T24 l1 (ji5)).f1.f3), .int .u32 ((rd_T24 l1 (ji5)).f1.f4), .int .u32 ((rd_T24 l1 (ji5)).f1.f5)] from by rfl) BK292.out (by kernel_rfl) (by rfl)) | (go_simp; done) | (go_simp; rfl)); intro w15 hw; have n0_ : Aside0 (w15.heap[gb289]? = some (.cells #[.bool a2.f0, .int .u32 a2.f1.f0, .int .u32 a2.f1.f1, .int .u32 a2.f1.f2, .int .u32 a2.f1.f3, .int .u32 a2.f1.f4, .int .u32 a2.f1.f5] 25 (0, 0))) := ⟨(by rw [hw]; exact (by (with_reducible repeat (first | refine blk_drewN ?_ _ | refine blk_drew ?_ | refine blk_alloc ?_ _ | refine blk_far ?_ NB289_292.out _)); (with_reducible repeat (first | refine blk_drewN ?_ _ | refine blk_drew ?_ | refine blk_alloc ?_ _)); exact BK289.out))⟩; have n1_ : Aside0 (w15.heap[gb290]? = some (.cells #[.bool false, .int .u32 0, .int .u32 0, .int .u32 0, .int .u32 0, .int .u32 0, .int .u32 0] 25 (0, 0))) := ⟨(by rw [hw]; exact (by (with_reducible repeat (first | refine blk_drewN ?_ _ | refine blk_drew ?_ | refine blk_alloc ?_ _ | refine blk_far ?_ NB290_292.out _)); (with_reducible repeat (first | refine blk_drewN ?_ _ | refine blk_drew ?_ | refine blk_alloc ?_ _)); exact BK290.out))⟩; have n2_ : Aside0 (w15.heap[gb292]? = some (.cells #[.bool ((rd_T24 l1 (ji5)).f0), .int .u32 ((rd_T24 l1 (ji5)).f1.f0), .int .u32 ((rd_T24 l1 (ji5)).f1.f1), .int .u32 ((rd_T24 l1 (ji5)).f1.f2), .int .u32 ((rd_T24 l1 (ji5)).f1.f3), .int .u32 ((rd_T24 l1 (ji5)).f1.f4), .int .u32 ((rd_T24 l1 (ji5)).f1.f5)] 25 (0, 0))) := ⟨(by rw [hw]; exact (by (with_reducible repeat (first | refine blk_drewN ?_ _ | refine blk_drew ?_ | refine blk_alloc ?_ _)); refine puts7_ (.bool false) (.int .u32 0) (.int .u32 0) (.int .u32 0) (.int .u32 0) (.int .u32 0) (.int .u32 0) ?_; (with_reducible repeat (first | refine blk_drewN ?_ _ | refine blk_drew ?_ | refine blk_alloc ?_ _)); exact BK292.out))⟩; have n3_ : Aside0 (IsS79 w0 w15 g s0_0) := ⟨q61x9_⟩; have n4_ : Aside0 (KeepBut w w15 g none) := ⟨(by rw [hw]; exact q61x1_)⟩; have n5_ : Aside0 (Below w0.heap.size w0 w15) := ⟨q61x8_⟩; clear hw; clear BK289; clear BK290; clear BK292; clear HI0; clear HK; clear HB; have BK289 := n0_; have BK290 := n1_; have BK292 := n2_; have HI0 := n3_; have HK := n4_; have HB := n5_; clear n0_ n1_ n2_ n3_ n4_ n5_))
 go_loopg [11] k (fun kq v11 w' => ∃ (x11_1 : Int) (x1000_1 : Bool) (x293000_1 : S24), v11 = .int .i64 x11_1 ∧ Aside0 (impl_calc_valueAt.l0 kq l1 a3 ji5 x11_1 x1000_1 a2 x293000_1 = some (r1, r2)) ∧ Aside0 (kq ≤ k) ∧ Aside0 (w'.heap[gb289]? = some (.cells #[.bool a2.f0, .int .u32 a2.f1.f0, .int .u32 a2.f1.f1, .int .u32 a2.f1.f2, .int .u32 a2.f1.f3, .int .u32 a2.f1.f4, .int .u32 a2.f1.f5] 25 (0, 0))) ∧ Aside0 (w'.heap[gb290]? = some (.cells #[.bool false, .int .u32 0, .int .u32 0, .int .u32 0, .int .u32 0, .int .u32 0, .int .u32 0] 25 (0, 0))) ∧ Aside0 (w'.heap[gb292]? = some (.cells #[.bool x293000_1.f0, .int .u32 x293000_1.f1.f0, .int .u32 x293000_1.f1.f1, .int .u32 x293000_1.f1.f2, .int .u32 x293000_1.f1.f3, .int .u32 x293000_1.f1.f4, .int .u32 x293000_1.f1.f5] 25 (0, 0))) ∧ Aside0 (IsS79 w0 w' g x1000_1) ∧ Aside0 (KeepBut w w' g none) ∧ Aside0 (Below w0.heap.size w0 w'))
 case atStart => exact ⟨(wrap64 ((ji5) - 1)), (s0_0), ((rd_T24 l1 (ji5))), (by first | rfl | (simp; done) | (simp only [← hji5] <;> (first | rfl | simp)) | (simp [*]; done)), H', ⟨Nat.le_refl _⟩, ⟨by (with_reducible repeat (first | refine blk_drewN ?_ _ | refine blk_drew ?_ | refine blk_alloc ?_ _)); exact BK289.out⟩, ⟨by (with_reducible repeat (first | refine blk_drewN ?_ _ | refine blk_drew ?_ | refine blk_alloc ?_ _)); exact BK290.out⟩, ⟨by (with_reducible repeat (first | refine blk_drewN ?_ _ | refine blk_drew ?_ | refine blk_alloc ?_ _)); exact BK292.out⟩, ⟨by repeat (first | (with_reducible first | exact HI0.out | apply IsS79.alloc | apply IsS79.drewN | apply IsS79.drew | apply IsS79.set_0 | refine IsS79.far ?_ NB0_289.out _ | refine IsS79.far ?_ NB0_290.out _ | refine IsS79.far ?_ NB0_292.out _) | exact HI0.out)⟩, ⟨by repeat (first | (with_reducible first | exact HK.out | apply KeepBut.set_ | apply keep_drewN | apply keep_drew | apply keep_alloc | refine keep_far ?_ GW289.out _ | refine keep_far ?_ GW290.out _ | refine keep_far ?_ GW292.out _) | exact HK.out)⟩, ⟨by repeat (first | (with_reducible first | exact HB.out | apply below_alloc | apply pw_below_drewN | apply below_drew1 | refine bS61_ ?_ (IsS79.ge HI0.out) | refine bS61_ ?_ GE289.out | refine bS61_ ?_ GE290.out | refine bS61_ ?_ GE292.out) | exact HB.out)⟩⟩
 case round =>
  clear H'
  try clear c1
  try clear p2
  try clear q2
  try clear hx2
  try clear c6
  try clear c6b0
  try clear p6
  try clear c7
  try clear c7b0
  try clear c11
  try clear c12
  try clear c13
  try clear hcz14_0 hcz14_1 hcz14_2 hcz14_3 hcz14_4 hcz14_5 hcz14_6
  try clear hfz14_0 hfz14_1 hfz14_2 hfz14_3 hfz14_4 hfz14_5 hfz14_6
  try clear hx291_0
  try clear hx291_1
  try clear hx291_2
  try clear hx291_3
  try clear hx291_4
  try clear hx291_5
  try clear hx291_6
  try clear p291
  try clear q291
  obtain ⟨x11_1, x1000_1, x293000_1, rfl, HA, HK1, BK289, BK290, BK292, HI0, HK, HB⟩ := hrel
  cases gk with
  | zero => exact absurd HA.out (by simp [impl_calc_valueAt.l0])
  | succ k1 =>
   have H := HA.out
   clear HA
   simp only [impl_calc_valueAt.l0] at H
   by_cases c16 : x11_1 ≥ 0
   rotate_left
   ·rw [if_neg c16] at H
    have c16b0 : decide (0 ≤ x11_1) = false := decide_eq_false c16
    clear c16
    simp only [Option.some.injEq, Prod.mk.injEq] at H
    obtain ⟨rfl, rfl⟩ := H
    have hnb33 := NB292_289.out
    have hnc33 := NB289_292.out
    have hnb34 := NB292_290.out
    have hnc34 := NB290_292.out
    have hnb35 := NB292_0.out
    have hnc35 := NB0_292.out
    obtain ⟨hcz36_0, hcz36_1, hcz36_2, hcz36_3, hcz36_4, hcz36_5, hcz36_6⟩ := cells7_ (show wr.heap[gb292]? = some (.cells #[.bool x293000_1.f0, .int .u32 x293000_1.f1.f0, .int .u32 x293000_1.f1.f1, .int .u32 x293000_1.f1.f2, .int .u32 x293000_1.f1.f3, .int .u32 x293000_1.f1.f4, .int .u32 x293000_1.f1.f5] 25 (0, 0)) from BK292.out)
    obtain ⟨hfz36_0, hfz36_1, hfz36_2, hfz36_3, hfz36_4, hfz36_5, hfz36_6⟩ := frozen7_ BK292.out
    have hnb37 := NB290_289.out
    have hnc37 := NB289_290.out
    have hnb38 := NB290_0.out
    have hnc38 := NB0_290.out
    obtain ⟨hcz39_0, hcz39_1, hcz39_2, hcz39_3, hcz39_4, hcz39_5, hcz39_6⟩ := cells7_ (show wr.heap[gb290]? = some (.cells #[.bool false, .int .u32 0, .int .u32 0, .int .u32 0, .int .u32 0, .int .u32 0, .int .u32 0] 25 (0, 0)) from BK290.out)
    obtain ⟨hfz39_0, hfz39_1, hfz39_2, hfz39_3, hfz39_4, hfz39_5, hfz39_6⟩ := frozen7_ BK290.out
    go_wp2_with (first | ((with_reducible refine gate_store (t := 25) (p := 8) rfl ?_); refine store_event (t := 25) (p := 8) (v := ?vo_w40) (w1 := (World.setCell (World.setCell (World.setCell (World.setCell (World.setCell (World.setCell (World.setCell wr ⟨gb290, 0, none⟩ (.bool x293000_1.f0)) ⟨gb290, 1, none⟩ (.int .u32 x293000_1.f1.f0)) ⟨gb290, 2, none⟩ (.int .u32 x293000_1.f1.f1)) ⟨gb290, 3, none⟩ (.int .u32 x293000_1.f1.f2)) ⟨gb290, 4, none⟩ (.int .u32 x293000_1.f1.f3)) ⟨gb290, 5, none⟩ (.int .u32 x293000_1.f1.f4)) ⟨gb290, 6, none⟩ (.int .u32 x293000_1.f1.f5))) ?hg ?ho ?hn ?hr ?_; (case ho => rfl); (case hg => rfl); (case hn => rfl); (case hr => first | ((try simp only [Act.put, List.setIfInBounds_toArray, List.set_cons_zero, List.set_cons_succ]); exact run_put7_ rfl (show _ = Value.pointer (some ⟨gb290, 0, none⟩) from by rfl) (show _ = Value.agg #[.bool x293000_1.f0, .int .u32 x293000_1.f1.f0, .int .u32 x293000_1.f1.f1, .int .u32 x293000_1.f1.f2, .int .u32 x293000_1.f1.f3, .int .u32 x293000_1.f1.f4, .int .u32 x293000_1.f1.f5] from by rfl) BK290.out (by kernel_rfl) (by rfl)) | (go_simp; done) | (go_simp; rfl)); intro w40 hw; have n0_ : Aside0 (w40.heap[gb289]? = some (.cells #[.bool a2.f0, .int .u32 a2.f1.f0, .int .u32 a2.f1.f1, .int .u32 a2.f1.f2, .int .u32 a2.f1.f3, .int .u32 a2.f1.f4, .int .u32 a2.f1.f5] 25 (0, 0))) := ⟨(by rw [hw]; exact (by (with_reducible repeat (first | refine blk_drewN ?_ _ | refine blk_drew ?_ | refine blk_alloc ?_ _ | refine blk_far ?_ NB289_290.out _)); (with_reducible repeat (first | refine blk_drewN ?_ _ | refine blk_drew ?_ | refine blk_alloc ?_ _)); exact BK289.out))⟩; have n1_ : Aside0 (w40.heap[gb290]? = some (.cells #[.bool x293000_1.f0, .int .u32 x293000_1.f1.f0, .int .u32 x293000_1.f1.f1, .int .u32 x293000_1.f1.f2, .int .u32 x293000_1.f1.f3, .int .u32 x293000_1.f1.f4, .int .u32 x293000_1.f1.f5] 25 (0, 0))) := ⟨(by rw [hw]; exact (by (with_reducible repeat (first | refine blk_drewN ?_ _ | refine blk_drew ?_ | refine blk_alloc ?_ _)); refine puts7_ (.bool false) (.int .u32 0) (.int .u32 0) (.int .u32 0) (.int .u32 0) (.int .u32 0) (.int .u32 0) ?_; (with_reducible repeat (first | refine blk_drewN ?_ _ | refine blk_drew ?_ | refine blk_alloc ?_ _)); exact BK290.out))⟩; have n2_ : Aside0 (w40.heap[gb292]? = some (.cells #[.bool x293000_1.f0, .int .u32 x293000_1.f1.f0, .int .u32 x293000_1.f1.f1, .int .u32 x293000_1.f1.f2, .int .u32 x293000_1.f1.f3, .int .u32 x293000_1.f1.f4, .int .u32 x293000_1.f1.f5] 25 (0, 0))) := ⟨(by rw [hw]; exact (by (with_reducible repeat (first | refine blk_drewN ?_ _ | refine blk_drew ?_ | refine blk_alloc ?_ _ | refine blk_far ?_ NB292_290.out _)); (with_reducible repeat (first | refine blk_drewN ?_ _ | refine blk_drew ?_ | refine blk_alloc ?_ _)); exact BK292.out))⟩; have n3_ : Aside0 (IsS79 w0 w40 g x1000_1) := ⟨q61x9_⟩; have n4_ : Aside0 (KeepBut w w40 g none) := ⟨(by rw [hw]; exact q61x1_)⟩; have n5_ : Aside0 (Below w0.heap.size w0 w40) := ⟨q61x8_⟩; clear hw; clear BK289; clear BK290; clear BK292; clear HI0; clear HK; clear HB; have BK289 := n0_; have BK290 := n1_; have BK292 := n2_; have HI0 := n3_; have HK := n4_; have HB := n5_; clear n0_ n1_ n2_ n3_ n4_ n5_))
    refine bodyPost_ret (results_cell_row rfl _ _ gb290 25 #[.bool x293000_1.f0, .int .u32 x293000_1.f1.f0, .int .u32 x293000_1.f1.f1, .int .u32 x293000_1.f1.f2, .int .u32 x293000_1.f1.f3, .int .u32 x293000_1.f1.f4, .int .u32 x293000_1.f1.f5] (0, 0) _ rfl q61x3_ Try.underlying25 rfl (by kernel_rfl)) rfl ?_
    exact ⟨by first | rfl | (simp [errW_none, errW_some] <;> rfl) | (simp only [← hji5]; first | rfl | (simp [errW_none, errW_some] <;> rfl)) | (simp [*, errW_none, errW_some] <;> rfl), by repeat (first | (with_reducible first | exact HI0.out | apply IsS79.alloc | apply IsS79.drewN | apply IsS79.drew | apply IsS79.set_0 | refine IsS79.far ?_ NB0_289.out _ | refine IsS79.far ?_ NB0_290.out _ | refine IsS79.far ?_ NB0_292.out _) | exact HI0.out), by repeat (first | (with_reducible first | exact HB.out | apply below_alloc | apply pw_below_drewN | apply below_drew1 | refine bS61_ ?_ (IsS79.ge HI0.out) | refine bS61_ ?_ GE289.out | refine bS61_ ?_ GE290.out | refine bS61_ ?_ GE292.out) | exact HB.out), by repeat (first | (with_reducible first | exact HK.out | apply KeepBut.set_ | apply keep_drewN | apply keep_drew | apply keep_alloc | refine keep_far ?_ GW289.out _ | refine keep_far ?_ GW290.out _ | refine keep_far ?_ GW292.out _) | exact HK.out)⟩
   rw [if_pos c16] at H
   have c16b0 : decide (0 ≤ x11_1) = true := decide_eq_true c16
   clear c16
   replace H := Option.bind_eq_some_iff.mp H
   obtain ⟨⟨t293, t294⟩, A170, H⟩ := H
   replace H : (if 0 ≤ x11_1 then (if x11_1 < (l1.length : Int) then ((impl_calc_up.f k1 t294 (rd_T24 l1 x11_1) (wrap64 (a3 * (wrap64 (ji5 - x11_1))))).bind fun bt296 => ((impl_calc_add.f k1 bt296.2 t293 bt296.1).bind fun bt298 => (impl_calc_valueAt.l0 k1 l1 a3 ji5 (wrap64 (x11_1 - 1)) bt298.2 a2 bt298.1))) else (none)) else (none)) = some (r1, r2) := H
   have A17 := aM61_ A170
   clear A170
   have c18 : 0 ≤ x11_1 := of_decide_eq_true c16b0
   rw [if_pos c18] at H
   clear c18
   by_cases c19 : x11_1 < (l1.length : Int)
   rotate_left
   ·rw [if_neg c19] at H
    exact absurd H (by simp)
   rw [if_pos c19] at H
   have c19b0 : decide (x11_1 < (l1.length : Int)) = true := decide_eq_true c19
   clear c19
   replace H := Option.bind_eq_some_iff.mp H
   obtain ⟨⟨t296, t297⟩, A200, H⟩ := H
   replace H : ((impl_calc_add.f k1 t297 t293 t296).bind fun bt298 => (impl_calc_valueAt.l0 k1 l1 a3 ji5 (wrap64 (x11_1 - 1)) bt298.2 a2 bt298.1)) = some (r1, r2) := H
   have A20 := aM61_ A200
   clear A200
   replace H := Option.bind_eq_some_iff.mp H
   obtain ⟨⟨t298, t299⟩, A210, H⟩ := H
   replace H : (impl_calc_valueAt.l0 k1 l1 a3 ji5 (wrap64 (x11_1 - 1)) t299 a2 t298) = some (r1, r2) := H
   have A21 := aM61_ A210
   clear A210
   have H' := aM61_ H
   clear H
   try go_wp2
   have n0_ := aM61_ (blk_drew BK289.out)
   have n1_ := aM61_ (blk_drew BK290.out)
   have n2_ := aM61_ (blk_drew BK292.out)
   have n3_ := aM61_ (IsS79.drew HI0.out)
   have n4_ := aM61_ (keep_drew HK.out)
   have n5_ := aM61_ (below_drew1 HB.out)
   clear BK289 BK290 BK292 HI0 HK HB
   have BK289 := n0_
   have BK290 := n1_
   have BK292 := n2_
   have HI0 := n3_
   have HK := n4_
   have HB := n5_
   clear n0_ n1_ n2_ n3_ n4_ n5_
   have p295 : 0 ≤ (x11_1 : Int) := of_decide_eq_true (by first | (with_reducible assumption) | assumption)
   have q295 : x11_1 < (l1.length : Int) := of_decide_eq_true (by first | (with_reducible assumption) | assumption)
   obtain ⟨ad295, e295, hx295_0, hx295_1, hx295_2, hx295_3, hx295_4, hx295_5, hx295_6⟩ := at_T24 (Kd.C_foot_now HR1.out HK.out) x11_1 p295 q295
   have hw295_6 := hx295_6
   have hw295_5 := hx295_5
   have hw295_4 := hx295_4
   have hw295_3 := hx295_3
   have hw295_2 := hx295_2
   have hw295_1 := hx295_1
   have hw295_0 := hx295_0
   obtain rfl : ad291 = ad295 := (by injection e295)
   have hne295_6 := (show (⟨(ad291.add ((x11_1).toNat * 7)).block, (ad291.add ((x11_1).toNat * 7)).off + 6, none⟩ : Addr).block ≠ g from by first | (rw [add_block]; exact Kd.foot_ne HR1.out (by omega) (by decide)) | (show (Addr.add _ _).block ≠ _; rw [add_block]; exact Kd.foot_ne HR1.out (by omega) (by decide)) | exact Kd.foot_ne HR1.out (by omega) (by decide) | (dsimp only; exact Kd.foot_ne HR1.out (by omega) (by decide)))
   have hlt295_6 := (Kd.foot_lt HR1.out (by omega) (by decide))
   have hne295_5 := (show (⟨(ad291.add ((x11_1).toNat * 7)).block, (ad291.add ((x11_1).toNat * 7)).off + 5, none⟩ : Addr).block ≠ g from by first | (rw [add_block]; exact Kd.foot_ne HR1.out (by omega) (by decide)) | (show (Addr.add _ _).block ≠ _; rw [add_block]; exact Kd.foot_ne HR1.out (by omega) (by decide)) | exact Kd.foot_ne HR1.out (by omega) (by decide) | (dsimp only; exact Kd.foot_ne HR1.out (by omega) (by decide)))
   have hlt295_5 := (Kd.foot_lt HR1.out (by omega) (by decide))
   have hne295_4 := (show (⟨(ad291.add ((x11_1).toNat * 7)).block, (ad291.add ((x11_1).toNat * 7)).off + 4, none⟩ : Addr).block ≠ g from by first | (rw [add_block]; exact Kd.foot_ne HR1.out (by omega) (by decide)) | (show (Addr.add _ _).block ≠ _; rw [add_block]; exact Kd.foot_ne HR1.out (by omega) (by decide)) | exact Kd.foot_ne HR1.out (by omega) (by decide) | (dsimp only; exact Kd.foot_ne HR1.out (by omega) (by decide)))
   have hlt295_4 := (Kd.foot_lt HR1.out (by omega) (by decide))
   have hne295_3 := (show (⟨(ad291.add ((x11_1).toNat * 7)).block, (ad291.add ((x11_1).toNat * 7)).off + 3, none⟩ : Addr).block ≠ g from by first | (rw [add_block]; exact Kd.foot_ne HR1.out (by omega) (by decide)) | (show (Addr.add _ _).block ≠ _; rw [add_block]; exact Kd.foot_ne HR1.out (by omega) (by decide)) | exact Kd.foot_ne HR1.out (by omega) (by decide) | (dsimp only; exact Kd.foot_ne HR1.out (by omega) (by decide)))
   have hlt295_3 := (Kd.foot_lt HR1.out (by omega) (by decide))
   have hne295_2 := (show (⟨(ad291.add ((x11_1).toNat * 7)).block, (ad291.add ((x11_1).toNat * 7)).off + 2, none⟩ : Addr).block ≠ g from by first | (rw [add_block]; exact Kd.foot_ne HR1.out (by omega) (by decide)) | (show (Addr.add _ _).block ≠ _; rw [add_block]; exact Kd.foot_ne HR1.out (by omega) (by decide)) | exact Kd.foot_ne HR1.out (by omega) (by decide) | (dsimp only; exact Kd.foot_ne HR1.out (by omega) (by decide)))
   have hlt295_2 := (Kd.foot_lt HR1.out (by omega) (by decide))
   have hne295_1 := (show (⟨(ad291.add ((x11_1).toNat * 7)).block, (ad291.add ((x11_1).toNat * 7)).off + 1, none⟩ : Addr).block ≠ g from by first | (rw [add_block]; exact Kd.foot_ne HR1.out (by omega) (by decide)) | (show (Addr.add _ _).block ≠ _; rw [add_block]; exact Kd.foot_ne HR1.out (by omega) (by decide)) | exact Kd.foot_ne HR1.out (by omega) (by decide) | (dsimp only; exact Kd.foot_ne HR1.out (by omega) (by decide)))
   have hlt295_1 := (Kd.foot_lt HR1.out (by omega) (by decide))
   have hne295_0 := (show ((ad291.add ((x11_1).toNat * 7)) : Addr).block ≠ g from by first | (rw [add_block]; exact Kd.foot_ne HR1.out (by omega) (by decide)) | (show (Addr.add _ _).block ≠ _; rw [add_block]; exact Kd.foot_ne HR1.out (by omega) (by decide)) | exact Kd.foot_ne HR1.out (by omega) (by decide) | (dsimp only; exact Kd.foot_ne HR1.out (by omega) (by decide)))
   have hlt295_0 := (Kd.foot_lt HR1.out (by omega) (by decide))
   replace p295 := eq_true p295
   replace q295 := eq_true q295
   refine start_ (n := 18) (S := fun w' => w'.cell? ⟨gb292, 0, none⟩ = some (.bool x293000_1.f0) ∧ w'.cell? ⟨gb292, 1, none⟩ = some (.int .u32 x293000_1.f1.f0) ∧ w'.cell? ⟨gb292, 2, none⟩ = some (.int .u32 x293000_1.f1.f1) ∧ w'.cell? ⟨gb292, 3, none⟩ = some (.int .u32 x293000_1.f1.f2) ∧ w'.cell? ⟨gb292, 4, none⟩ = some (.int .u32 x293000_1.f1.f3) ∧ w'.cell? ⟨gb292, 5, none⟩ = some (.int .u32 x293000_1.f1.f4) ∧ w'.cell? ⟨gb292, 6, none⟩ = some (.int .u32 x293000_1.f1.f5) ∧ w'.cell? ⟨gb289, 0, none⟩ = some (.bool a2.f0) ∧ w'.cell? ⟨gb289, 1, none⟩ = some (.int .u32 a2.f1.f0) ∧ w'.cell? ⟨gb289, 2, none⟩ = some (.int .u32 a2.f1.f1) ∧ w'.cell? ⟨gb289, 3, none⟩ = some (.int .u32 a2.f1.f2) ∧ w'.cell? ⟨gb289, 4, none⟩ = some (.int .u32 a2.f1.f3) ∧ w'.cell? ⟨gb289, 5, none⟩ = some (.int .u32 a2.f1.f4) ∧ w'.cell? ⟨gb289, 6, none⟩ = some (.int .u32 a2.f1.f5) ∧ w'.cell? (ad291.add ((x11_1).toNat * 7)) = some (.bool ((rd_T24 l1 x11_1).f0)) ∧ w'.cell? ⟨(ad291.add ((x11_1).toNat * 7)).block, (ad291.add ((x11_1).toNat * 7)).off + 1, none⟩ = some (.int .u32 ((rd_T24 l1 x11_1).f1.f0)) ∧ w'.cell? ⟨(ad291.add ((x11_1).toNat * 7)).block, (ad291.add ((x11_1).toNat * 7)).off + 2, none⟩ = some (.int .u32 ((rd_T24 l1 x11_1).f1.f1)) ∧ w'.cell? ⟨(ad291.add ((x11_1).toNat * 7)).block, (ad291.add ((x11_1).toNat * 7)).off + 3, none⟩ = some (.int .u32 ((rd_T24 l1 x11_1).f1.f2)) ∧ w'.cell? ⟨(ad291.add ((x11_1).toNat * 7)).block, (ad291.add ((x11_1).toNat * 7)).off + 4, none⟩ = some (.int .u32 ((rd_T24 l1 x11_1).f1.f3)) ∧ w'.cell? ⟨(ad291.add ((x11_1).toNat * 7)).block, (ad291.add ((x11_1).toNat * 7)).off + 5, none⟩ = some (.int .u32 ((rd_T24 l1 x11_1).f1.f4)) ∧ w'.cell? ⟨(ad291.add ((x11_1).toNat * 7)).block, (ad291.add ((x11_1).toNat * 7)).off + 6, none⟩ = some (.int .u32 ((rd_T24 l1 x11_1).f1.f5))) (ds := [17]) #[false, false, false, false, false, false, false, false, false, false, false, false, false, false, false, false, false, false] (by kernel_rfl) rfl rfl ⟨(kC61_ BK292.out 0).trans rfl, (kC61_ BK292.out 1).trans rfl, (kC61_ BK292.out 2).trans rfl, (kC61_ BK292.out 3).trans rfl, (kC61_ BK292.out 4).trans rfl, (kC61_ BK292.out 5).trans rfl, (kC61_ BK292.out 6).trans rfl, (kC61_ BK289.out 0).trans rfl, (kC61_ BK289.out 1).trans rfl, (kC61_ BK289.out 2).trans rfl, (kC61_ BK289.out 3).trans rfl, (kC61_ BK289.out 4).trans rfl, (kC61_ BK289.out 5).trans rfl, (kC61_ BK289.out 6).trans rfl, hx295_0, hx295_1, hx295_2, hx295_3, hx295_4, hx295_5, hx295_6⟩ (fun hHeld => ?_); refine with_tabW impl_calc_valueAt.tab6 impl_calc_valueAt.bits6 (fun HT_ HW_ => ?_)
   generalize wr.drew = w22 at BK289 BK290 BK292 HI0 HK HB hx295_0 hx295_1 hx295_2 hx295_3 hx295_4 hx295_5 hx295_6 hHeld ⊢
   refine pure_ (i := 0) (N := some 25) (v := ?_) (a' := ?_) #[true, false, false, false, false, false, false, false, false, false, false, false, false, false, false, false, false, false] rfl rfl (any_of HT_.out (by kernel_rfl)) (fun _ _ _ h => h) (Or.inl ⟨by rfl, ?_⟩) ?_ ?_
   rotate_left
   ·exact q61x20_
   rotate_left
   ·exact q61x21_
   refine pure_ (i := 1) (N := some 26) (v := ?_) (a' := ?_) #[true, true, false, false, false, false, false, false, false, false, false, false, false, false, false, false, false, false] rfl rfl (any_of HT_.out (by kernel_rfl)) (fun _ _ _ h => h) (Or.inl ⟨by rfl, ?_⟩) ?_ ?_
   rotate_left
   ·exact q61x20_
   rotate_left
   ·exact q61x21_
   refine pure_ (i := 5) (N := some 30) (v := ?_) (a' := ?_) #[true, true, false, false, false, true, false, false, false, false, false, false, false, false, false, false, false, false] rfl rfl (any_of HT_.out (by kernel_rfl)) (fun _ _ _ h => h) (Or.inl ⟨by rfl, ?_⟩) ?_ ?_
   rotate_left
   ·exact q61x20_
   rotate_left
   ·exact q61x21_
   refine pure_ (i := 6) (N := some 31) (v := ?_) (a' := ?_) #[true, true, false, false, false, true, true, false, false, false, false, false, false, false, false, false, false, false] rfl rfl (any_of HT_.out (by kernel_rfl)) (fun _ _ _ h => h) (Or.inl ⟨by rfl, ?_⟩) ?_ ?_
   rotate_left
   ·exact q61x20_
   rotate_left
   ·exact q61x21_
   refine pure_ (i := 7) (N := some 32) (v := ?_) (a' := ?_) #[true, true, false, false, false, true, true, true, false, false, false, false, false, false, false, false, false, false] rfl rfl (any_of HT_.out (by kernel_rfl)) (fun _ _ _ h => h) (Or.inl ⟨by rfl, ?_⟩) ?_ ?_
   rotate_left
   ·exact q61x20_
   rotate_left
   ·exact q61x21_
   refine pure_ (i := 8) (N := some 33) (v := ?_) (a' := ?_) #[true, true, false, false, false, true, true, true, true, false, false, false, false, false, false, false, false, false] rfl rfl (any_of HT_.out (by kernel_rfl)) (fun _ _ _ h => h) (Or.inl ⟨by rfl, ?_⟩) ?_ ?_
   rotate_left
   ·exact q61x20_
   rotate_left
   ·exact q61x21_
   refine pure_ (i := 10) (N := some 35) (v := ?_) (a' := ?_) #[true, true, false, false, false, true, true, true, true, false, true, false, false, false, false, false, false, false] rfl rfl (any_of HT_.out (by kernel_rfl)) (fun _ _ _ h => h) (Or.inl ⟨by rfl, ?_⟩) ?_ ?_
   rotate_left
   ·exact q61x20_
   rotate_left
   ·exact q61x21_
   refine pure_ (i := 11) (N := some 36) (v := ?_) (a' := ?_) #[true, true, false, false, false, true, true, true, true, false, true, true, false, false, false, false, false, false] rfl rfl (any_of HT_.out (by kernel_rfl)) (fun _ _ _ h => h) (Or.inl ⟨by rfl, ?_⟩) ?_ ?_
   rotate_left
   ·exact q61x20_
   rotate_left
   ·exact q61x21_
   refine pure_ (i := 12) (N := some 37) (v := ?_) (a' := ?_) #[true, true, false, false, false, true, true, true, true, false, true, true, true, false, false, false, false, false] rfl rfl (any_of HT_.out (by kernel_rfl)) (fun _ _ _ h => h) (Or.inl ⟨by rfl, ?_⟩) ?_ ?_
   rotate_left
   ·exact q61x20_
   rotate_left
   ·exact q61x21_
   refine pure_ (i := 13) (N := some 38) (v := ?_) (a' := ?_) #[true, true, false, false, false, true, true, true, true, false, true, true, true, true, false, false, false, false] rfl rfl (any_of HT_.out (by kernel_rfl)) (fun _ _ _ h => h) (Or.inl ⟨by rfl, ?_⟩) ?_ ?_
   rotate_left
   ·exact q61x20_
   rotate_left
   ·exact q61x21_
   refine pure_ (i := 14) (N := some 39) (v := ?_) (a' := ?_) #[true, true, false, false, false, true, true, true, true, false, true, true, true, true, true, false, false, false] rfl rfl (any_of HT_.out (by kernel_rfl)) (fun _ _ _ h => h) (Or.inl ⟨by rfl, ?_⟩) ?_ ?_
   rotate_left
   ·exact q61x20_
   rotate_left
   ·exact q61x21_
   refine take_ (i := 2) (N := some 27) (v := ?_) (a' := ?_) #[true, true, true, false, false, true, true, true, true, false, true, true, true, true, true, false, false, false] rfl rfl (take_ofW HT_.out HW_.out (by kernel_rfl)) (fun _ _ _ h => h) (Or.inl ⟨by rfl, ?_⟩) hHeld ?_ ?_
   rotate_left
   ·exact q61x22_
   rotate_left
   ·exact q61x21_
   refine take_ (i := 3) (N := some 28) (v := ?_) (a' := ?_) #[true, true, true, true, false, true, true, true, true, false, true, true, true, true, true, false, false, false] rfl rfl (take_ofW HT_.out HW_.out (by kernel_rfl)) (fun _ _ _ h => h) (Or.inl ⟨by rfl, ?_⟩) hHeld ?_ ?_
   rotate_left
   ·exact q61x22_
   rotate_left
   ·exact q61x21_
   refine take_ (i := 9) (N := some 34) (v := ?_) (a' := ?_) #[true, true, true, true, false, true, true, true, true, true, true, true, true, true, true, false, false, false] rfl rfl (take_ofW HT_.out HW_.out (by kernel_rfl)) (fun _ _ _ h => h) (Or.inl ⟨by rfl, ?_⟩) hHeld ?_ ?_
   rotate_left
   ·exact q61x22_
   rotate_left
   ·exact q61x21_
   refine one_ (i := 4) (N := some 29) #[true, true, true, true, true, true, true, true, true, true, true, true, true, true, true, false, false, false] rfl rfl (one_of HT_.out (by kernel_rfl)) (by decide) (fun K hK => ?_)
   refine goes_ Try.func90 (by kernel_rfl) rfl #[.pointer (some ⟨g, 0, none⟩), .agg #[.bool x293000_1.f0, .int .u32 x293000_1.f1.f0, .int .u32 x293000_1.f1.f1, .int .u32 x293000_1.f1.f2, .int .u32 x293000_1.f1.f3, .int .u32 x293000_1.f1.f4, .int .u32 x293000_1.f1.f5], .agg #[.bool a2.f0, .int .u32 a2.f1.f0, .int .u32 a2.f1.f1, .int .u32 a2.f1.f2, .int .u32 a2.f1.f3, .int .u32 a2.f1.f4, .int .u32 a2.f1.f5]] (by rfl) rfl rfl q61x19_ ?_
   with_reducible refine (impl_calc_mul.calls k1 g x1000_1 x293000_1 a2 t293 t294 w0 _ ?side1 ?side2 A17.out).mono ?_
   (case side1 => repeat (first | (with_reducible first | exact HI0.out | apply IsS79.alloc | apply IsS79.drewN | apply IsS79.drew | apply IsS79.set_0 | refine IsS79.far ?_ NB0_289.out _ | refine IsS79.far ?_ NB0_290.out _ | refine IsS79.far ?_ NB0_292.out _) | exact HI0.out))
   (case side2 => repeat (first | (with_reducible first | exact HB.out | apply below_alloc | apply pw_below_drewN | apply below_drew1 | refine bS61_ ?_ (IsS79.ge HI0.out) | refine bS61_ ?_ GE289.out | refine bS61_ ?_ GE290.out | refine bS61_ ?_ GE292.out) | exact HB.out))
   rintro e w23 ⟨rfl, hi, hb, hk⟩
   have HS14_ := keep_cell hk (hHeld.2.2.2.2.2.2.2.2.2.2.2.2.2.2.1) q61x10_
   have HS15_ := keep_cell hk (hHeld.2.2.2.2.2.2.2.2.2.2.2.2.2.2.2.1) q61x11_
   have HS16_ := keep_cell hk (hHeld.2.2.2.2.2.2.2.2.2.2.2.2.2.2.2.2.1) q61x12_
   have HS17_ := keep_cell hk (hHeld.2.2.2.2.2.2.2.2.2.2.2.2.2.2.2.2.2.1) q61x13_
   have HS18_ := keep_cell hk (hHeld.2.2.2.2.2.2.2.2.2.2.2.2.2.2.2.2.2.2.1) q61x14_
   have HS19_ := keep_cell hk (hHeld.2.2.2.2.2.2.2.2.2.2.2.2.2.2.2.2.2.2.2.1) q61x15_
   have HS20_ := keep_cell hk (hHeld.2.2.2.2.2.2.2.2.2.2.2.2.2.2.2.2.2.2.2.2) q61x16_
   refine ⟨_, rfl, ?_⟩
   have n0_ := aM61_ (KeepBut.blk hk (g' := gb289) (o := .cells #[.bool a2.f0, .int .u32 a2.f1.f0, .int .u32 a2.f1.f1, .int .u32 a2.f1.f2, .int .u32 a2.f1.f3, .int .u32 a2.f1.f4, .int .u32 a2.f1.f5] 25 (0, 0)) q61x2_ NB289_0.out (by simp))
   have n1_ := aM61_ (KeepBut.blk hk (g' := gb290) (o := .cells #[.bool false, .int .u32 0, .int .u32 0, .int .u32 0, .int .u32 0, .int .u32 0, .int .u32 0] 25 (0, 0)) q61x3_ NB290_0.out (by simp))
   have n2_ := aM61_ (KeepBut.blk hk (g' := gb292) (o := .cells #[.bool x293000_1.f0, .int .u32 x293000_1.f1.f0, .int .u32 x293000_1.f1.f1, .int .u32 x293000_1.f1.f2, .int .u32 x293000_1.f1.f3, .int .u32 x293000_1.f1.f4, .int .u32 x293000_1.f1.f5] 25 (0, 0)) q61x6_ NB292_0.out (by simp))
   have n3_ := aM61_ (KeepBut.trans q61x1_ hk (.inl rfl))
   have n4_ := aM61_ (hb)
   have n5_ := aM61_ (hi)
   clear BK289 BK290 BK292 HK HB HI0
   have BK289 := n0_
   have BK290 := n1_
   have BK292 := n2_
   have HK := n3_
   have HB := n4_
   have HI0 := n5_
   clear n0_ n1_ n2_ n3_ n4_ n5_
   (try clear hb)
   (try clear hb2)
   (try clear hk)
   (try clear hi)
   refine hK.out _ _ ⟨(kC61_ BK292.out 0).trans rfl, (kC61_ BK292.out 1).trans rfl, (kC61_ BK292.out 2).trans rfl, (kC61_ BK292.out 3).trans rfl, (kC61_ BK292.out 4).trans rfl, (kC61_ BK292.out 5).trans rfl, (kC61_ BK292.out 6).trans rfl, (kC61_ BK289.out 0).trans rfl, (kC61_ BK289.out 1).trans rfl, (kC61_ BK289.out 2).trans rfl, (kC61_ BK289.out 3).trans rfl, (kC61_ BK289.out 4).trans rfl, (kC61_ BK289.out 5).trans rfl, (kC61_ BK289.out 6).trans rfl, HS14_, HS15_, HS16_, HS17_, HS18_, HS19_, HS20_⟩ (fun hHeld => ?_)
   clear hK K
   refine norm_ (a' := ?_) ?_ ?_
   rotate_left
   ·show Act.put _ (some 29) _ = _
    simp only [Act.put, List.setIfInBounds_toArray, List.set_cons_zero, List.set_cons_succ, i64_w, i32_w]
    rfl
   refine one_ (i := 15) (N := some 40) #[true, true, true, true, true, true, true, true, true, true, true, true, true, true, true, true, false, false] rfl rfl (one_of HT_.out (by kernel_rfl)) (by decide) (fun K hK => ?_)
   refine goes_ Try.func95 (by kernel_rfl) rfl #[.pointer (some ⟨g, 0, none⟩), .agg #[.bool ((rd_T24 l1 x11_1).f0), .int .u32 ((rd_T24 l1 x11_1).f1.f0), .int .u32 ((rd_T24 l1 x11_1).f1.f1), .int .u32 ((rd_T24 l1 x11_1).f1.f2), .int .u32 ((rd_T24 l1 x11_1).f1.f3), .int .u32 ((rd_T24 l1 x11_1).f1.f4), .int .u32 ((rd_T24 l1 x11_1).f1.f5)], .int .i64 (wrap64 (a3 * (wrap64 (ji5 - x11_1))))] (by rfl) rfl rfl (by (try simp only [List.map_toArray, List.map_cons, List.map_nil]); first | done | (simp only [hji5]; rfl) | rfl | (simp only [List.length_drop, List.length_take]; rfl) | (simp only [List.drop_one]; done) | (simp only [List.drop_one]; rfl)) ?_
   with_reducible refine (impl_calc_up.calls k1 g t294 (rd_T24 l1 x11_1) (wrap64 (a3 * (wrap64 (ji5 - x11_1)))) t296 t297 w0 _ ?side1 ?side2 A20.out).mono ?_
   (case side1 => repeat (first | (with_reducible first | exact HI0.out | apply IsS79.alloc | apply IsS79.drewN | apply IsS79.drew | apply IsS79.set_0 | refine IsS79.far ?_ NB0_289.out _ | refine IsS79.far ?_ NB0_290.out _ | refine IsS79.far ?_ NB0_292.out _) | exact HI0.out))
   (case side2 => repeat (first | (with_reducible first | exact HB.out | apply below_alloc | apply pw_below_drewN | apply below_drew1 | refine bS61_ ?_ (IsS79.ge HI0.out) | refine bS61_ ?_ GE289.out | refine bS61_ ?_ GE290.out | refine bS61_ ?_ GE292.out) | exact HB.out))
   rintro e w24 ⟨rfl, hi, hb, hk⟩
   have HS14_ := keep_cell hk (hHeld.2.2.2.2.2.2.2.2.2.2.2.2.2.2.1) q61x10_
   have HS15_ := keep_cell hk (hHeld.2.2.2.2.2.2.2.2.2.2.2.2.2.2.2.1) q61x11_
   have HS16_ := keep_cell hk (hHeld.2.2.2.2.2.2.2.2.2.2.2.2.2.2.2.2.1) q61x12_
   have HS17_ := keep_cell hk (hHeld.2.2.2.2.2.2.2.2.2.2.2.2.2.2.2.2.2.1) q61x13_
   have HS18_ := keep_cell hk (hHeld.2.2.2.2.2.2.2.2.2.2.2.2.2.2.2.2.2.2.1) q61x14_
   have HS19_ := keep_cell hk (hHeld.2.2.2.2.2.2.2.2.2.2.2.2.2.2.2.2.2.2.2.1) q61x15_
   have HS20_ := keep_cell hk (hHeld.2.2.2.2.2.2.2.2.2.2.2.2.2.2.2.2.2.2.2.2) q61x16_
   refine ⟨_, rfl, ?_⟩
   have n0_ := aM61_ (KeepBut.blk hk (g' := gb289) (o := .cells #[.bool a2.f0, .int .u32 a2.f1.f0, .int .u32 a2.f1.f1, .int .u32 a2.f1.f2, .int .u32 a2.f1.f3, .int .u32 a2.f1.f4, .int .u32 a2.f1.f5] 25 (0, 0)) q61x2_ NB289_0.out (by simp))
   have n1_ := aM61_ (KeepBut.blk hk (g' := gb290) (o := .cells #[.bool false, .int .u32 0, .int .u32 0, .int .u32 0, .int .u32 0, .int .u32 0, .int .u32 0] 25 (0, 0)) q61x3_ NB290_0.out (by simp))
   have n2_ := aM61_ (KeepBut.blk hk (g' := gb292) (o := .cells #[.bool x293000_1.f0, .int .u32 x293000_1.f1.f0, .int .u32 x293000_1.f1.f1, .int .u32 x293000_1.f1.f2, .int .u32 x293000_1.f1.f3, .int .u32 x293000_1.f1.f4, .int .u32 x293000_1.f1.f5] 25 (0, 0)) q61x6_ NB292_0.out (by simp))
   have n3_ := aM61_ (KeepBut.trans q61x1_ hk (.inl rfl))
   have n4_ := aM61_ (hb)
   have n5_ := aM61_ (hi)
   clear BK289 BK290 BK292 HK HB HI0
   have BK289 := n0_
   have BK290 := n1_
   have BK292 := n2_
   have HK := n3_
   have HB := n4_
   have HI0 := n5_
   clear n0_ n1_ n2_ n3_ n4_ n5_
   (try clear hb)
   (try clear hb2)
   (try clear hk)
   (try clear hi)
   refine hK.out _ _ ⟨(kC61_ BK292.out 0).trans rfl, (kC61_ BK292.out 1).trans rfl, (kC61_ BK292.out 2).trans rfl, (kC61_ BK292.out 3).trans rfl, (kC61_ BK292.out 4).trans rfl, (kC61_ BK292.out 5).trans rfl, (kC61_ BK292.out 6).trans rfl, (kC61_ BK289.out 0).trans rfl, (kC61_ BK289.out 1).trans rfl, (kC61_ BK289.out 2).trans rfl, (kC61_ BK289.out 3).trans rfl, (kC61_ BK289.out 4).trans rfl, (kC61_ BK289.out 5).trans rfl, (kC61_ BK289.out 6).trans rfl, HS14_, HS15_, HS16_, HS17_, HS18_, HS19_, HS20_⟩ (fun hHeld => ?_)
   clear hK K
   refine norm_ (a' := ?_) ?_ ?_
   rotate_left
   ·show Act.put _ (some 40) _ = _
    simp only [Act.put, List.setIfInBounds_toArray, List.set_cons_zero, List.set_cons_succ, i64_w, i32_w]
    rfl
   refine one_ (i := 16) (N := some 41) #[true, true, true, true, true, true, true, true, true, true, true, true, true, true, true, true, true, false] rfl rfl (one_of HT_.out (by kernel_rfl)) (by decide) (fun K hK => ?_)
   refine goes_ Try.func89 (by kernel_rfl) rfl #[.pointer (some ⟨g, 0, none⟩), .agg #[.bool t293.f0, .int .u32 t293.f1.f0, .int .u32 t293.f1.f1, .int .u32 t293.f1.f2, .int .u32 t293.f1.f3, .int .u32 t293.f1.f4, .int .u32 t293.f1.f5], .agg #[.bool t296.f0, .int .u32 t296.f1.f0, .int .u32 t296.f1.f1, .int .u32 t296.f1.f2, .int .u32 t296.f1.f3, .int .u32 t296.f1.f4, .int .u32 t296.f1.f5]] (by rfl) rfl rfl q61x19_ ?_
   with_reducible refine (impl_calc_add.calls k1 g t297 t293 t296 t298 t299 w0 _ ?side1 ?side2 A21.out).mono ?_
   (case side1 => repeat (first | (with_reducible first | exact HI0.out | apply IsS79.alloc | apply IsS79.drewN | apply IsS79.drew | apply IsS79.set_0 | refine IsS79.far ?_ NB0_289.out _ | refine IsS79.far ?_ NB0_290.out _ | refine IsS79.far ?_ NB0_292.out _) | exact HI0.out))
   (case side2 => repeat (first | (with_reducible first | exact HB.out | apply below_alloc | apply pw_below_drewN | apply below_drew1 | refine bS61_ ?_ (IsS79.ge HI0.out) | refine bS61_ ?_ GE289.out | refine bS61_ ?_ GE290.out | refine bS61_ ?_ GE292.out) | exact HB.out))
   rintro e w25 ⟨rfl, hi, hb, hk⟩
   have HS14_ := keep_cell hk (hHeld.2.2.2.2.2.2.2.2.2.2.2.2.2.2.1) q61x10_
   have HS15_ := keep_cell hk (hHeld.2.2.2.2.2.2.2.2.2.2.2.2.2.2.2.1) q61x11_
   have HS16_ := keep_cell hk (hHeld.2.2.2.2.2.2.2.2.2.2.2.2.2.2.2.2.1) q61x12_
   have HS17_ := keep_cell hk (hHeld.2.2.2.2.2.2.2.2.2.2.2.2.2.2.2.2.2.1) q61x13_
   have HS18_ := keep_cell hk (hHeld.2.2.2.2.2.2.2.2.2.2.2.2.2.2.2.2.2.2.1) q61x14_
   have HS19_ := keep_cell hk (hHeld.2.2.2.2.2.2.2.2.2.2.2.2.2.2.2.2.2.2.2.1) q61x15_
   have HS20_ := keep_cell hk (hHeld.2.2.2.2.2.2.2.2.2.2.2.2.2.2.2.2.2.2.2.2) q61x16_
   refine ⟨_, rfl, ?_⟩
   have n0_ := aM61_ (KeepBut.blk hk (g' := gb289) (o := .cells #[.bool a2.f0, .int .u32 a2.f1.f0, .int .u32 a2.f1.f1, .int .u32 a2.f1.f2, .int .u32 a2.f1.f3, .int .u32 a2.f1.f4, .int .u32 a2.f1.f5] 25 (0, 0)) q61x2_ NB289_0.out (by simp))
   have n1_ := aM61_ (KeepBut.blk hk (g' := gb290) (o := .cells #[.bool false, .int .u32 0, .int .u32 0, .int .u32 0, .int .u32 0, .int .u32 0, .int .u32 0] 25 (0, 0)) q61x3_ NB290_0.out (by simp))
   have n2_ := aM61_ (KeepBut.blk hk (g' := gb292) (o := .cells #[.bool x293000_1.f0, .int .u32 x293000_1.f1.f0, .int .u32 x293000_1.f1.f1, .int .u32 x293000_1.f1.f2, .int .u32 x293000_1.f1.f3, .int .u32 x293000_1.f1.f4, .int .u32 x293000_1.f1.f5] 25 (0, 0)) q61x6_ NB292_0.out (by simp))
   have n3_ := aM61_ (KeepBut.trans q61x1_ hk (.inl rfl))
   have n4_ := aM61_ (hb)
   have n5_ := aM61_ (hi)
   clear BK289 BK290 BK292 HK HB HI0
   have BK289 := n0_
   have BK290 := n1_
   have BK292 := n2_
   have HK := n3_
   have HB := n4_
   have HI0 := n5_
   clear n0_ n1_ n2_ n3_ n4_ n5_
   (try clear hb)
   (try clear hb2)
   (try clear hk)
   (try clear hi)
   refine hK.out _ _ ⟨(kC61_ BK292.out 0).trans rfl, (kC61_ BK292.out 1).trans rfl, (kC61_ BK292.out 2).trans rfl, (kC61_ BK292.out 3).trans rfl, (kC61_ BK292.out 4).trans rfl, (kC61_ BK292.out 5).trans rfl, (kC61_ BK292.out 6).trans rfl, (kC61_ BK289.out 0).trans rfl, (kC61_ BK289.out 1).trans rfl, (kC61_ BK289.out 2).trans rfl, (kC61_ BK289.out 3).trans rfl, (kC61_ BK289.out 4).trans rfl, (kC61_ BK289.out 5).trans rfl, (kC61_ BK289.out 6).trans rfl, HS14_, HS15_, HS16_, HS17_, HS18_, HS19_, HS20_⟩ (fun hHeld => ?_)
   clear hK K
   refine norm_ (a' := ?_) ?_ ?_
   rotate_left
   ·show Act.put _ (some 41) _ = _
    simp only [Act.put, List.setIfInBounds_toArray, List.set_cons_zero, List.set_cons_succ, i64_w, i32_w]
    rfl
   refine last_store_ (i := 17) (w1 := (World.setCell (World.setCell (World.setCell (World.setCell (World.setCell (World.setCell (World.setCell w25 ⟨gb292, 0, none⟩ (.bool t298.f0)) ⟨gb292, 1, none⟩ (.int .u32 t298.f1.f0)) ⟨gb292, 2, none⟩ (.int .u32 t298.f1.f1)) ⟨gb292, 3, none⟩ (.int .u32 t298.f1.f2)) ⟨gb292, 4, none⟩ (.int .u32 t298.f1.f3)) ⟨gb292, 5, none⟩ (.int .u32 t298.f1.f4)) ⟨gb292, 6, none⟩ (.int .u32 t298.f1.f5))) #[true, true, true, true, true, true, true, true, true, true, true, true, true, true, true, true, true, true] rfl rfl (by kernel_rfl) (by decide) (by rfl) (run_put7_ rfl (show _ = Value.pointer (some ⟨gb292, 0, none⟩) from by rfl) (show _ = Value.agg #[.bool t298.f0, .int .u32 t298.f1.f0, .int .u32 t298.f1.f1, .int .u32 t298.f1.f2, .int .u32 t298.f1.f3, .int .u32 t298.f1.f4, .int .u32 t298.f1.f5] from by rfl) q61x6_ (by kernel_rfl) (by rfl)) ?_
   refine done_ (done_of HT_.out (by kernel_rfl)) ?_
   try go_wp2
   go_roundg k1
   case measure => have := HK1.out; omega
   case rel => exact ⟨(wrap64 (x11_1 - 1)), (t299), (t298), (by first | rfl | (simp; done) | (simp [*]; done)), H', ⟨by have := HK1.out; omega⟩, ⟨by (with_reducible repeat (first | refine blk_drewN ?_ _ | refine blk_drew ?_ | refine blk_alloc ?_ _ | refine blk_far ?_ NB289_292.out _)); (with_reducible repeat (first | refine blk_drewN ?_ _ | refine blk_drew ?_ | refine blk_alloc ?_ _)); exact BK289.out⟩, ⟨by (with_reducible repeat (first | refine blk_drewN ?_ _ | refine blk_drew ?_ | refine blk_alloc ?_ _ | refine blk_far ?_ NB290_292.out _)); (with_reducible repeat (first | refine blk_drewN ?_ _ | refine blk_drew ?_ | refine blk_alloc ?_ _)); exact BK290.out⟩, ⟨by (with_reducible repeat (first | refine blk_drewN ?_ _ | refine blk_drew ?_ | refine blk_alloc ?_ _)); refine puts7_ (.bool x293000_1.f0) (.int .u32 x293000_1.f1.f0) (.int .u32 x293000_1.f1.f1) (.int .u32 x293000_1.f1.f2) (.int .u32 x293000_1.f1.f3) (.int .u32 x293000_1.f1.f4) (.int .u32 x293000_1.f1.f5) ?_; (with_reducible repeat (first | refine blk_drewN ?_ _ | refine blk_drew ?_ | refine blk_alloc ?_ _)); exact BK292.out⟩, ⟨by repeat (first | (with_reducible first | exact HI0.out | apply IsS79.alloc | apply IsS79.drewN | apply IsS79.drew | apply IsS79.set_0 | refine IsS79.far ?_ NB0_289.out _ | refine IsS79.far ?_ NB0_290.out _ | refine IsS79.far ?_ NB0_292.out _) | exact HI0.out)⟩, ⟨by repeat (first | (with_reducible first | exact HK.out | apply KeepBut.set_ | apply keep_drewN | apply keep_drew | apply keep_alloc | refine keep_far ?_ GW289.out _ | refine keep_far ?_ GW290.out _ | refine keep_far ?_ GW292.out _) | exact HK.out)⟩, ⟨by repeat (first | (with_reducible first | exact HB.out | apply below_alloc | apply pw_below_drewN | apply below_drew1 | refine bS61_ ?_ (IsS79.ge HI0.out) | refine bS61_ ?_ GE289.out | refine bS61_ ?_ GE290.out | refine bS61_ ?_ GE292.out) | exact HB.out)⟩⟩
/-! ### impl_WideOf: function 88 -/
def impl_WideOf.f (a0 : Int) : Option (S24) := if -9223372036854775808 ≤ a0 ∧ a0 < 9223372036854775808 then some (wenc a0) else none
theorem impl_WideOf.calls (a0 : Int) (r : S24) (w : World) (h : impl_WideOf.f a0 = some r) :
    Calls Try.prog 88 #[.int .i64 a0] w fun e w' => e = .returned (.agg #[.bool r.f0, .int .u32 r.f1.f0, .int .u32 r.f1.f1, .int .u32 r.f1.f2, .int .u32 r.f1.f3, .int .u32 r.f1.f4, .int .u32 r.f1.f5]) ∧ Below w.heap.size w w' := by
 unfold impl_WideOf.f at h
 split at h
 · rename_i c
   obtain rfl := Option.some.inj h
   exact Wide.iOf w a0 c.1 c.2
 · exact absurd h (by simp)


/-! ### impl_widen: function 62 -/
def impl_widen.l0 : Nat → List (S24) → List Int → Int → Int → Option ((List (S24)))
  | 0, _, _, _, _ => none
  | k + 1, x3, x9, x10, x11 => if x11 < x10 then (if 0 ≤ x11 then (if x11 < (x9.length : Int) then ((impl_WideOf.f (rd x9 x11)).bind fun t307 => (if x11 < (x3.length : Int) then (impl_widen.l0 k (x3.set (x11 : Int).toNat t307) x9 x10 (wrap64 (x11 + 1))) else (none))) else (none)) else (none)) else (some x3)
def impl_widen.f (k : Nat) (l0 : List Int) : Option ((List (S24))) := if 0 ≤ (l0.length : Int) then (if ((l0.length : Int) : Int).toNat ≤ 10052677739666 then (impl_widen.l0 k (List.replicate ((l0.length : Int) : Int).toNat z24) l0 (l0.length : Int) 0) else (none)) else (none)
theorem impl_widen.mono_l : ∀ k, (∀ y0 y1 y2 y3, LeO (impl_widen.l0 k y0 y1 y2 y3) (impl_widen.l0 (k + 1) y0 y1 y2 y3))
  | 0 => fun _ _ _ _ r h => by simp [impl_widen.l0] at h
  | k + 1 => by
    have ih0 := impl_widen.mono_l k
    · intro y0 y1 y2 y3
      unfold impl_widen.l0
      repeat' first
      | (with_reducible exact ih0 _ _ _ _)
      | (with_reducible exact LeO.refl _)
      | (with_reducible exact LeO.none _)
      | (with_reducible refine LeO.ite ?_ ?_)
      | (with_reducible refine LeO.bind ?_ (fun _ => ?_))
      | exact ih0 _ _ _ _
      | exact LeO.none _
      | refine LeO.ite ?_ ?_
      | refine LeO.bind ?_ (fun _ => ?_)
theorem impl_widen.mono : ∀ a0 k, LeO (impl_widen.f k a0) (impl_widen.f (k + 1) a0) := by
  intro a0 k
  have ih0 := impl_widen.mono_l k
  unfold impl_widen.f
  repeat' first
      | (with_reducible exact ih0 _ _ _ _)
      | (with_reducible exact LeO.refl _)
      | (with_reducible exact LeO.none _)
      | (with_reducible refine LeO.ite ?_ ?_)
      | (with_reducible refine LeO.bind ?_ (fun _ => ?_))
      | exact ih0 _ _ _ _
      | exact LeO.none _
      | refine LeO.ite ?_ ?_
      | refine LeO.bind ?_ (fun _ => ?_)
set_option maxHeartbeats 8000000 in
set_option maxRecDepth 100000 in
theorem impl_widen.calls (k : Nat) (A0 : Option Addr) (c0 : Nat) (l0 : List Int) (r : List (S24)) (w : World) (hr0 : Kd.C (Kd.int .i64) w A0 l0.length l0) (hc0 : l0.length ≤ c0) (h : impl_widen.f k l0 = some r) :
    Calls Try.prog 62 #[.slice A0 l0.length c0] w fun e w' => ∃ v0_ : Value, e = .returned (v0_) ∧ Kd.R k24 25 w' w.heap.size (fun _ => True) v0_ r ∧ Below w.heap.size w w' := by
  have hu25 := Try.underlying25
  have HR0 := Aside0.mk hr0
  have HC0 := Aside0.mk hc0
  clear hr0 hc0
  have HB := Aside0.mk (Below.refl w.heap.size w)
  have H : (if 0 ≤ (l0.length : Int) then (if ((l0.length : Int) : Int).toNat ≤ 10052677739666 then (impl_widen.l0 k (List.replicate ((l0.length : Int) : Int).toNat z24) l0 (l0.length : Int) 0) else (none)) else (none)) = some r := h
  clear h
  by_cases c2 : 0 ≤ (l0.length : Int)
  · rw [if_pos c2] at H
    have c2b0 := eq_true c2
    have c2b1 : decide (0 ≤ (l0.length : Int)) = true := decide_eq_true c2
    clear c2
    by_cases c3 : ((l0.length : Int) : Int).toNat ≤ 10052677739666
    · rw [if_pos c3] at H
      have c3b0 := eq_true c3
      have c3b1 : decide (((l0.length : Int) : Int).toNat ≤ 10052677739666) = true := decide_eq_true c3
      clear c3
      obtain ⟨y303, hy303⟩ : ∃ y_ : List (S24), y_ = (List.replicate ((l0.length : Int) : Int).toNat z24) := ⟨_, rfl⟩
      replace H : (impl_widen.l0 k y303 l0 (l0.length : Int) 0) = some r := by first | (rw [hy303]; with_reducible exact H) | (have H2_ := (Option.bind_some _ _).symm.trans H; rw [hy303]; with_reducible exact H2_) | (have H2_ := (Option.bind_some _ _).symm.trans H; with_reducible exact H2_) | with_reducible exact H | (rw [hy303]; exact H) | exact H
      have Ny303 := Aside0.mk hy303
      clear hy303
      have H' := Aside0.mk H
      clear H
      go_enter Try.func62, Try.ntmps62
      go_wp2_with (first | ((with_reducible refine gate_dst (N := 8) rfl ?_); refine Kd.R_make k24 _ 25 rfl (N := 8) rfl 47 _ _ rfl (l0.length : Int) rfl rfl Try.underlying47 (.agg #[(.bool false), (.int .u32 0), (.int .u32 0), (.int .u32 0), (.int .u32 0), (.int .u32 0), (.int .u32 0)]) 28 info25 rfl (by decide) (by omega) z24 (ok := fun _ => True) (okp := fun _ => True) (k24_mkM _ _ _ z24 ) (fun _ hk => hk) trivial (of_decide_eq_true (by first | (with_reducible assumption) | assumption)) (Nat.le_trans (Nat.mul_le_mul_right _ (of_decide_eq_true (by first | (with_reducible assumption) | assumption) : (l0.length : Int).toNat ≤ 10052677739666)) (by omega)) (Below.refl _ _) (Nat.le_refl _) ?_; intro v304 w4 ho5 hb hg_ hnew_; clear hg_ hnew_; (first | rw [← Ny303.out] at ho5 | (simp only [Int.reduceToNat] at ho5; rw [← Ny303.out] at ho5)); have n0_ := Aside0.mk (Kd.R_lower ho5 (below_size (by repeat (first | (with_reducible first | exact HB.out | apply below_alloc | apply pw_below_drewN | apply below_drew1) | exact HB.out)))); have n1_ := Aside0.mk (below_step (by repeat (first | (with_reducible first | exact HB.out | apply below_alloc | apply pw_below_drewN | apply below_drew1) | exact HB.out)) hb); clear HB; have HO305 := n0_; have HB := n1_; clear n0_ n1_; clear hb ho5))
      go_loopg [11] k (fun kq v11 w' => ∃ (x3_1 : List (S24)) (x11_1 : Int), v11 = .int .i64 x11_1 ∧ Aside0 (impl_widen.l0 kq x3_1 l0 (l0.length : Int) x11_1 = some r) ∧ Aside0 (kq ≤ k) ∧ Aside0 (Kd.R k24 25 w' w.heap.size (fun _ => True) v304 x3_1) ∧ Aside0 (Below w.heap.size w w'))
      case atStart => exact ⟨(y303), (0), (by first | rfl | (simp; done) | (simp [*]; done)), H', ⟨Nat.le_refl _⟩, ⟨by (with_reducible repeat (first | apply Kd.R_alloc | apply Kd.R_drewN | apply Kd.R_drew)); exact HO305.out⟩, ⟨by repeat (first | (with_reducible first | exact HB.out | apply below_alloc | apply pw_below_drewN | apply below_drew1) | exact HB.out)⟩⟩
      case round =>
        clear H'
        try clear c2
        try clear c2b0
        try clear c2b1
        try clear p2
        try clear c3
        try clear c3b0
        try clear c3b1
        obtain ⟨x3_1, x11_1, rfl, HA, HK1, HO_3, HB⟩ := hrel
        cases gk with
        | zero => exact absurd HA.out (by simp [impl_widen.l0])
        | succ k1 =>
          have H := HA.out
          clear HA
          simp only [impl_widen.l0] at H
          by_cases c6 : x11_1 < (l0.length : Int)
          · rw [if_pos c6] at H
            have c6b0 : decide (x11_1 < (l0.length : Int)) = true := decide_eq_true c6
            clear c6
            by_cases c7 : 0 ≤ x11_1
            · rw [if_pos c7] at H
              have c7b0 : decide (0 ≤ x11_1) = true := decide_eq_true c7
              clear c7
              have c8 : x11_1 < (l0.length : Int) := of_decide_eq_true c6b0
              rw [if_pos c8] at H
              clear c8
              replace H := Option.bind_eq_some_iff.mp H
              obtain ⟨t307, A90, H⟩ := H
              replace H : (if x11_1 < (x3_1.length : Int) then (impl_widen.l0 k1 (x3_1.set (x11_1 : Int).toNat t307) l0 (l0.length : Int) (wrap64 (x11_1 + 1))) else (none)) = some r := H
              have A9 := Aside0.mk A90
              clear A90
              by_cases c10 : x11_1 < (x3_1.length : Int)
              · rw [if_pos c10] at H
                have c10b0 : decide (x11_1 < (x3_1.length : Int)) = true := decide_eq_true c10
                clear c10
                obtain ⟨y308, hy308⟩ : ∃ y_ : List (S24), y_ = (x3_1.set (x11_1 : Int).toNat t307) := ⟨_, rfl⟩
                replace H : (impl_widen.l0 k1 y308 l0 (l0.length : Int) (wrap64 (x11_1 + 1))) = some r := by first | (rw [hy308]; with_reducible exact H) | (have H2_ := (Option.bind_some _ _).symm.trans H; rw [hy308]; with_reducible exact H2_) | (have H2_ := (Option.bind_some _ _).symm.trans H; with_reducible exact H2_) | with_reducible exact H | (rw [hy308]; exact H) | exact H
                have Ny308 := Aside0.mk hy308
                clear hy308
                have H' := Aside0.mk H
                clear H
                have p306 : 0 ≤ (x11_1 : Int) := of_decide_eq_true (by first | (with_reducible assumption) | assumption)
                have q306 : x11_1 < (l0.length : Int) := of_decide_eq_true (by first | (with_reducible assumption) | assumption)
                obtain ⟨ad306, e306, hx306_0⟩ := Kd.at_int HR0.out x11_1 p306 q306
                cases e306
                replace hx306_0 := (HB.out.cell (World.block_lt_of_cell? w _ hx306_0)).trans hx306_0
                replace p306 := eq_true p306
                replace q306 := eq_true q306
                go_wp2_with (first | ((with_reducible refine gate_callee (f := 88) rfl ?_); refine goesL_ (some 19) rfl rfl Try.func88 (by kernel_rfl) rfl #[.int .i64 (rd l0 x11_1)] rfl (by (try simp only [List.map_toArray, List.map_cons, List.map_nil]); first | done | rfl | (simp only [List.length_drop, List.length_take]; rfl) | (simp only [List.drop_one]; done) | (simp only [List.drop_one]; rfl)) ?_; (with_reducible refine (impl_WideOf.calls (rd l0 x11_1) t307 _ A9.out).mono ?_); rintro e w12 ⟨rfl, hb⟩; refine ⟨_, rfl, ?_⟩; have n0_ := Aside0.mk (Kd.R_below (by (with_reducible repeat (first | apply Kd.R_alloc | apply Kd.R_drewN | apply Kd.R_drew)); exact HO_3.out) hb); have n1_ := Aside0.mk (below_step (by repeat (first | (with_reducible first | exact HB.out | apply below_alloc | apply pw_below_drewN | apply below_drew1) | exact HB.out)) hb); clear HO_3 HB; have HO_3 := n0_; have HB := n1_; clear n0_ n1_; (try clear hb); (try clear hb2); (try clear hk); (try clear hi); have p11 : 0 ≤ (x11_1 : Int) := of_decide_eq_true (by first | (with_reducible assumption) | assumption); have q11 : (x11_1 : Int) < ((x3_1.length : Int) : Int) := of_decide_eq_true (by first | (with_reducible assumption) | assumption); obtain ⟨go11, co11, eo11, gb11, gl11, cl11, HG11⟩ := Kd.R_form HO_3.out (by omega); (first | cases eo11 | (injection eo11 with ea_ en_ ec_; (first | subst ea_ | (injection ea_ with ea_; subst ea_)); subst ec_; clear en_)); have GB11 := Aside0.mk gb11; have GG11 := Aside0.mk HG11; clear gb11 gl11 HG11; obtain ⟨ce11, hcl11, hM11, hcc11, hfr11⟩ := Kd.R_elem HO_3.out z24 (x11_1 : Int) p11 q11; obtain rfl := k24_openM hM11; have hx11_0 : w12.cell? ⟨go11, (x11_1 : Int).toNat * 7, none⟩ = some (.bool ((rd_T24 x3_1 x11_1).f0)) := hcc11 0 _ rfl; have hx11_1 : w12.cell? ⟨go11, (x11_1 : Int).toNat * 7 + 1, none⟩ = some (.int .u32 ((rd_T24 x3_1 x11_1).f1.f0)) := hcc11 1 _ rfl; have hx11_2 : w12.cell? ⟨go11, (x11_1 : Int).toNat * 7 + 2, none⟩ = some (.int .u32 ((rd_T24 x3_1 x11_1).f1.f1)) := hcc11 2 _ rfl; have hx11_3 : w12.cell? ⟨go11, (x11_1 : Int).toNat * 7 + 3, none⟩ = some (.int .u32 ((rd_T24 x3_1 x11_1).f1.f2)) := hcc11 3 _ rfl; have hx11_4 : w12.cell? ⟨go11, (x11_1 : Int).toNat * 7 + 4, none⟩ = some (.int .u32 ((rd_T24 x3_1 x11_1).f1.f3)) := hcc11 4 _ rfl; have hx11_5 : w12.cell? ⟨go11, (x11_1 : Int).toNat * 7 + 5, none⟩ = some (.int .u32 ((rd_T24 x3_1 x11_1).f1.f4)) := hcc11 5 _ rfl; have hx11_6 : w12.cell? ⟨go11, (x11_1 : Int).toNat * 7 + 6, none⟩ = some (.int .u32 ((rd_T24 x3_1 x11_1).f1.f5)) := hcc11 6 _ rfl; have hf11_0 : w12.frozen? ⟨go11, (x11_1 : Int).toNat * 7, none⟩ = false := hfr11 0; have hf11_1 : w12.frozen? ⟨go11, (x11_1 : Int).toNat * 7 + 1, none⟩ = false := hfr11 1; have hf11_2 : w12.frozen? ⟨go11, (x11_1 : Int).toNat * 7 + 2, none⟩ = false := hfr11 2; have hf11_3 : w12.frozen? ⟨go11, (x11_1 : Int).toNat * 7 + 3, none⟩ = false := hfr11 3; have hf11_4 : w12.frozen? ⟨go11, (x11_1 : Int).toNat * 7 + 4, none⟩ = false := hfr11 4; have hf11_5 : w12.frozen? ⟨go11, (x11_1 : Int).toNat * 7 + 5, none⟩ = false := hfr11 5; have hf11_6 : w12.frozen? ⟨go11, (x11_1 : Int).toNat * 7 + 6, none⟩ = false := hfr11 6; clear hcl11 hcc11 hfr11 hM11; replace p11 := eq_true p11; replace q11 := eq_true q11; have HX13 := Aside0.mk (show Kd.R k24 25 w12 w.heap.size (fun _ => True) (.slice (some ⟨go11, 0, none⟩) x3_1.length co11) x3_1 from (by (with_reducible repeat (first | apply Kd.R_alloc | apply Kd.R_drewN | apply Kd.R_drew)); exact HO_3.out)); obtain ⟨ce13, hcl13, hM13, hcc13, hfr13⟩ := Kd.R_elem HX13.out z24 (x11_1 : Int) (of_decide_eq_true (by first | (with_reducible assumption) | assumption)) (by have h_ : (x11_1 : Int) < ((x3_1.length : Int) : Int) := of_decide_eq_true (by first | (with_reducible assumption) | assumption); first | exact h_ | (have e_ := (Kd.R_reads' HO_3.out).1; omega) | simpa using h_); obtain rfl := k24_openM hM13; have HP13 := Kd.R_seg HX13.out (x11_1 : Int) (of_decide_eq_true (by first | (with_reducible assumption) | assumption)) (by have h_ : (x11_1 : Int) < ((x3_1.length : Int) : Int) := of_decide_eq_true (by first | (with_reducible assumption) | assumption); first | exact h_ | (have e_ := (Kd.R_reads' HO_3.out).1; omega) | simpa using h_) (seg := [.bool t307.f0, .int .u32 t307.f1.f0, .int .u32 t307.f1.f1, .int .u32 t307.f1.f2, .int .u32 t307.f1.f3, .int .u32 t307.f1.f4, .int .u32 t307.f1.f5]) (j := 0) hcl13 hcc13 (show 7 ≤ 7 from by decide) (x' := t307) (k24_mkM _ _ _ t307 ) (fun _ hk => hk); have hx13_0 := hcc13 0 _ rfl; (try simp only [show (k24).sz = 7 from rfl, Nat.mul_one, Nat.add_zero] at hx13_0); have hf13_0 := hfr13 0; (try simp only [show (k24).sz = 7 from rfl, Nat.mul_one, Nat.add_zero] at hf13_0); have hx13_1 := hcc13 1 _ rfl; (try simp only [show (k24).sz = 7 from rfl, Nat.mul_one, Nat.add_zero] at hx13_1); have hf13_1 := hfr13 1; (try simp only [show (k24).sz = 7 from rfl, Nat.mul_one, Nat.add_zero] at hf13_1); have hx13_2 := hcc13 2 _ rfl; (try simp only [show (k24).sz = 7 from rfl, Nat.mul_one, Nat.add_zero] at hx13_2); have hf13_2 := hfr13 2; (try simp only [show (k24).sz = 7 from rfl, Nat.mul_one, Nat.add_zero] at hf13_2); have hx13_3 := hcc13 3 _ rfl; (try simp only [show (k24).sz = 7 from rfl, Nat.mul_one, Nat.add_zero] at hx13_3); have hf13_3 := hfr13 3; (try simp only [show (k24).sz = 7 from rfl, Nat.mul_one, Nat.add_zero] at hf13_3); have hx13_4 := hcc13 4 _ rfl; (try simp only [show (k24).sz = 7 from rfl, Nat.mul_one, Nat.add_zero] at hx13_4); have hf13_4 := hfr13 4; (try simp only [show (k24).sz = 7 from rfl, Nat.mul_one, Nat.add_zero] at hf13_4); have hx13_5 := hcc13 5 _ rfl; (try simp only [show (k24).sz = 7 from rfl, Nat.mul_one, Nat.add_zero] at hx13_5); have hf13_5 := hfr13 5; (try simp only [show (k24).sz = 7 from rfl, Nat.mul_one, Nat.add_zero] at hf13_5); have hx13_6 := hcc13 6 _ rfl; (try simp only [show (k24).sz = 7 from rfl, Nat.mul_one, Nat.add_zero] at hx13_6); have hf13_6 := hfr13 6; (try simp only [show (k24).sz = 7 from rfl, Nat.mul_one, Nat.add_zero] at hf13_6); clear hcl13 hcc13 hfr13 hM13) | ((with_reducible refine gate_store (t := 25) (p := 20) rfl ?_); refine store_event (t := 25) (p := 20) (v := ?vo_w14) (w1 := (((((((w12.setCell ⟨go11, (x11_1 : Int).toNat * 7, none⟩ (.bool t307.f0)).setCell ⟨go11, (x11_1 : Int).toNat * 7 + 1, none⟩ (.int .u32 t307.f1.f0)).setCell ⟨go11, (x11_1 : Int).toNat * 7 + 2, none⟩ (.int .u32 t307.f1.f1)).setCell ⟨go11, (x11_1 : Int).toNat * 7 + 3, none⟩ (.int .u32 t307.f1.f2)).setCell ⟨go11, (x11_1 : Int).toNat * 7 + 4, none⟩ (.int .u32 t307.f1.f3)).setCell ⟨go11, (x11_1 : Int).toNat * 7 + 5, none⟩ (.int .u32 t307.f1.f4)).setCell ⟨go11, (x11_1 : Int).toNat * 7 + 6, none⟩ (.int .u32 t307.f1.f5))) ?hg ?ho ?hn ?hr ?_; (case ho => rfl); (case hg => rfl); (case hn => rfl); (case hr => first | (go_simp; done) | (go_simp; rfl)); intro w14 hw; have hg : w12.grownBy w14 (some go11) := (by rw [hw]; exact HP13.2); have hp_ : Kd.R k24 25 w14 w.heap.size (fun _ => True) (.slice (some ⟨go11, 0, none⟩) x3_1.length co11) y308 := (by rw [hw, Ny308.out]; exact HP13.1); clear HP13; have n0_ := Aside0.mk (hp_); have n1_ := Aside0.mk ((by rw [hw]; exact below_set (below_set (below_set (below_set (below_set (below_set (below_set (HB.out) GB11.out) GB11.out) GB11.out) GB11.out) GB11.out) GB11.out) GB11.out : Below w.heap.size w w14)); clear HO_3 HB; have HO_3 := n0_; have HB := n1_; clear n0_ n1_; clear hg hw hp_))
                go_roundg k1
                case measure => have := HK1.out; omega
                case rel => exact ⟨(y308), (wrap64 (x11_1 + 1)), (by first | rfl | (simp; done) | (simp [*]; done)), H', ⟨by have := HK1.out; omega⟩, ⟨by (with_reducible repeat (first | apply Kd.R_alloc | apply Kd.R_drewN | apply Kd.R_drew)); exact HO_3.out⟩, ⟨by repeat (first | (with_reducible first | exact HB.out | apply below_alloc | apply pw_below_drewN | apply below_drew1) | exact HB.out)⟩⟩
              · rw [if_neg c10] at H
                exact absurd H (by simp)
            · rw [if_neg c7] at H
              exact absurd H (by simp)
          · rw [if_neg c6] at H
            have c6b0 : decide (x11_1 < (l0.length : Int)) = false := decide_eq_false c6
            clear c6
            obtain rfl := Option.some.inj H
            go_wp2
            go_ret
            exact ⟨_, by first | rfl | (simp [errW_none, errW_some] <;> rfl) | (simp [*, errW_none, errW_some] <;> rfl), by (with_reducible repeat (first | apply Kd.R_alloc | apply Kd.R_drewN | apply Kd.R_drew)); exact HO_3.out, by repeat (first | (with_reducible first | exact HB.out | apply below_alloc | apply pw_below_drewN | apply below_drew1) | exact HB.out)⟩
    · rw [if_neg c3] at H
      exact absurd H (by simp)
  · rw [if_neg c2] at H
    exact absurd H (by simp)

/-! ### impl_ValueAt: function 19, by hand -/
def impl_ValueAt.f (k : Nat) (l0 : List Int) (a1 : S24) (a2 : Int) : Option (S24 × Int) := (impl_ValidPoly.f k l0).bind fun t => if t = true then ((impl_ValidWide.f a1).bind fun u => if u = true then ((impl_placesOk.f a2).bind fun v => if v = true then ((impl_widen.f k l0).bind fun ws => (impl_calc_valueAt.f k false ws a1 a2).bind fun z => impl_calc_told.f z.2 z.1) else some ((⟨false, (⟨0, 0, 0, 0, 0, 0⟩ : S23)⟩ : S24), 2)) else some ((⟨false, (⟨0, 0, 0, 0, 0, 0⟩ : S23)⟩ : S24), 1)) else some ((⟨false, (⟨0, 0, 0, 0, 0, 0⟩ : S23)⟩ : S24), 1)
theorem impl_ValueAt.mono : ∀ a0 a1 a2 k, LeO (impl_ValueAt.f k a0 a1 a2) (impl_ValueAt.f (k + 1) a0 a1 a2) := fun _ _ _ k =>
  LeO.bind (impl_ValidPoly.mono _ k) (fun _ => LeO.ite (LeO.bind (LeO.refl _) (fun _ => LeO.ite (LeO.bind (LeO.refl _) (fun _ => LeO.ite (LeO.bind (impl_widen.mono _ k) (fun _ => LeO.bind (impl_calc_valueAt.mono _ _ _ _ k) (fun _ => LeO.refl _))) (LeO.refl _))) (LeO.refl _))) (LeO.refl _))
theorem below_drawn {w w' : World} (h : Drawn0 w w') : Below w.heap.size w w' := by
  obtain ⟨nd, rfl⟩ := h
  exact pw_below_drewN (Below.refl _ _) nd
theorem is79_ {w0 W : World} {g : Nat} {f : Bool} (h : W.heap[g]? = some (.cells #[.bool f] 79 (0, 0))) (k : w0.heap.size ≤ g) : IsS79 w0 W g f := ⟨h, k⟩
theorem OBkeep0 {w0 w w1 : World} {g U : Nat} {cs cs' : Array Value} {bl : List (Nat × Array Value × Nat)} (h : Wide.OB w0.heap.size w0 w ((g, cs, U) :: bl)) (hk : KeepBut w w1 g none) (hB : Below w0.heap.size w0 w1) (hI : w1.heap[g]? = some (.cells cs' U (0, 0))) : Wide.OB w0.heap.size w0 w1 ((g, cs', U) :: bl) := by
  have hp := List.pairwise_cons.1 h.nd
  refine ⟨fun p hp2 => ?_, List.pairwise_cons.2 ⟨fun q hq => hp.1 q hq, hp.2⟩, hB, Nat.le_trans h.sz hk.1⟩
  rcases List.mem_cons.1 hp2 with rfl | hp2
  · exact ⟨hI, h.ge 0 rfl⟩
  · exact ⟨hk.blk (h.m p (List.mem_cons_of_mem _ hp2)).1 (hp.1 p hp2).symm (by simp), (h.m p (List.mem_cons_of_mem _ hp2)).2⟩
open Go.Proofs.Ytbomadebdekjjaa.Wide in
set_option maxHeartbeats 8000000 in
set_option maxRecDepth 100000 in
theorem impl_ValueAt.calls (k : Nat) (A0 : Option Addr) (c0 : Nat) (l0 : List Int) (a1 : S24) (a2 : Int) (r1 : S24) (r2 : Int) (w : World) (hr0 : Kd.C (Kd.int .i64) w A0 l0.length l0) (hc0 : l0.length ≤ c0) (h : impl_ValueAt.f k l0 a1 a2 = some (r1, r2)) :
    Calls Try.prog 19 #[.slice A0 l0.length c0, .agg #[.bool a1.f0, .int .u32 a1.f1.f0, .int .u32 a1.f1.f1, .int .u32 a1.f1.f2, .int .u32 a1.f1.f3, .int .u32 a1.f1.f4, .int .u32 a1.f1.f5], .int .i64 a2] w fun e w' => e = .returned (.tuple #[.agg #[.bool r1.f0, .int .u32 r1.f1.f0, .int .u32 r1.f1.f1, .int .u32 r1.f1.f2, .int .u32 r1.f1.f3, .int .u32 r1.f1.f4, .int .u32 r1.f1.f5], .int .i64 r2]) ∧ Below w.heap.size w w' := by
  have HR := Aside0.mk hr0
  have HC := Aside0.mk hc0
  have hu25 := Try.underlying25
  have hu79 := Try.underlying79
  have HO := Aside0.mk (OB.start w)
  unfold impl_ValueAt.f at h
  obtain ⟨t, h1, h⟩ := Option.bind_eq_some_iff.mp h
  have H1 := Aside0.mk h1
  clear h1 hr0 hc0
  cases t with
  | false =>
    rw [if_neg (by decide)] at h
    obtain ⟨rfl, rfl⟩ := Prod.mk.inj (Option.some.inj h)
    go_enter Try.func19, Try.ntmps19
    go_wp2_with (first | ((with_reducible refine gate_dst (N := 4) rfl ?_); refine box_event ?hg (N := 4) ?hd (cs := #[.bool a1.f0, .int .u32 a1.f1.f0, .int .u32 a1.f1.f1, .int .u32 a1.f1.f2, .int .u32 a1.f1.f3, .int .u32 a1.f1.f4, .int .u32 a1.f1.f5]) (t := 25) ?hr ?_; (case hd => rfl); (case hg => rfl); (case hr => first | (go_simp; done) | (go_simp; rfl)); intro g1 hg w1 hbox hb; replace HO := Aside0.mk (HO.out.box hg hbox hb); clear hg hbox hb) | ((with_reducible refine gate_dst (N := 6) rfl ?_); refine box_event ?hg (N := 6) ?hd (cs := #[.bool false, .int .u32 0, .int .u32 0, .int .u32 0, .int .u32 0, .int .u32 0, .int .u32 0]) (t := 25) ?hr ?_; (case hd => rfl); (case hg => rfl); (case hr => first | (go_simp; done) | (go_simp; rfl)); intro g2 hg w2 hbox hb; replace HO := Aside0.mk (HO.out.box hg hbox hb); clear hg hbox hb) | (go_at_call 57; (with_reducible refine (impl_ValidPoly.calls k A0 c0 l0 _ _ ?s1 HC.out H1.out).mono ?_); (case s1 => exact Kd.C_below HR.out HO.out.bel); rintro e w4 ⟨rfl, hd⟩; replace HO := Aside0.mk (HO.out.below (below_drawn hd)); clear hd; obtain ⟨h0, h1, h2, h3, h4, h5, h6⟩ := cells7_ (HO.out.at 1 rfl)) | ((with_reducible refine gate_store (t := 25) (p := 6) rfl ?_); refine store_event (t := 25) (p := 6) (v := ?vo_1) (w1 := (World.setCell (World.setCell (World.setCell (World.setCell (World.setCell (World.setCell (World.setCell w4 ⟨g2, 0, none⟩ (.bool false)) ⟨g2, 1, none⟩ (.int .u32 0)) ⟨g2, 2, none⟩ (.int .u32 0)) ⟨g2, 3, none⟩ (.int .u32 0)) ⟨g2, 4, none⟩ (.int .u32 0)) ⟨g2, 5, none⟩ (.int .u32 0)) ⟨g2, 6, none⟩ (.int .u32 0))) ?hg ?ho ?hn ?hr ?_; (case ho => rfl); (case hg => rfl); (case hn => rfl); (case hr => (try simp only [Act.put, List.setIfInBounds_toArray, List.set_cons_zero, List.set_cons_succ]); exact run_put7_ rfl (show _ = Value.pointer (some ⟨g2, 0, none⟩) from by rfl) (show _ = Value.agg #[.bool false, .int .u32 0, .int .u32 0, .int .u32 0, .int .u32 0, .int .u32 0, .int .u32 0] from by rfl) (HO.out.at 0 rfl) (by kernel_rfl) (by rfl)); intro w9 hw; replace HO := Aside0.mk (HO.out.put7 0 rfl hw rfl); clear hw))
    refine bodyPost_ret (results_list (rs := [.cell 6 25, .tmp 7]) rfl (by simp) (.cell g2 25 #[.bool false, .int .u32 0, .int .u32 0, .int .u32 0, .int .u32 0, .int .u32 0, .int .u32 0] (0, 0) _ rfl (HO.out.at 0 rfl) Try.underlying25 rfl (by kernel_rfl) (.tmp .nil))) rfl ?_
    exact ⟨rfl, HO.out.bel⟩
  | true =>
    rw [if_pos rfl] at h
    obtain ⟨u, h2, h⟩ := Option.bind_eq_some_iff.mp h
    have H2 := Aside0.mk h2
    clear h2
    cases u with
    | false =>
      rw [if_neg (by decide)] at h
      obtain ⟨rfl, rfl⟩ := Prod.mk.inj (Option.some.inj h)
      go_enter Try.func19, Try.ntmps19
      go_wp2_with (first | ((with_reducible refine gate_dst (N := 4) rfl ?_); refine box_event ?hg (N := 4) ?hd (cs := #[.bool a1.f0, .int .u32 a1.f1.f0, .int .u32 a1.f1.f1, .int .u32 a1.f1.f2, .int .u32 a1.f1.f3, .int .u32 a1.f1.f4, .int .u32 a1.f1.f5]) (t := 25) ?hr ?_; (case hd => rfl); (case hg => rfl); (case hr => first | (go_simp; done) | (go_simp; rfl)); intro g1 hg w1 hbox hb; replace HO := Aside0.mk (HO.out.box hg hbox hb); clear hg hbox hb) | ((with_reducible refine gate_dst (N := 6) rfl ?_); refine box_event ?hg (N := 6) ?hd (cs := #[.bool false, .int .u32 0, .int .u32 0, .int .u32 0, .int .u32 0, .int .u32 0, .int .u32 0]) (t := 25) ?hr ?_; (case hd => rfl); (case hg => rfl); (case hr => first | (go_simp; done) | (go_simp; rfl)); intro g2 hg w2 hbox hb; replace HO := Aside0.mk (HO.out.box hg hbox hb); clear hg hbox hb) | (go_at_call 57; (with_reducible refine (impl_ValidPoly.calls k A0 c0 l0 _ _ ?s1 HC.out H1.out).mono ?_); (case s1 => exact Kd.C_below HR.out HO.out.bel); rintro e w4 ⟨rfl, hd⟩; replace HO := Aside0.mk (HO.out.below (below_drawn hd)); clear hd; obtain ⟨h0, h1, h2, h3, h4, h5, h6⟩ := cells7_ (HO.out.at 1 rfl)) | (go_at_call 58; (with_reducible refine (impl_ValidWide.calls a1 _ _ H2.out).mono ?_); rintro e w5 ⟨rfl, hb⟩; replace HO := Aside0.mk (HO.out.below hb); clear hb) | ((with_reducible refine gate_store (t := 25) (p := 6) rfl ?_); refine store_event (t := 25) (p := 6) (v := ?vo_2) (w1 := (World.setCell (World.setCell (World.setCell (World.setCell (World.setCell (World.setCell (World.setCell w5 ⟨g2, 0, none⟩ (.bool false)) ⟨g2, 1, none⟩ (.int .u32 0)) ⟨g2, 2, none⟩ (.int .u32 0)) ⟨g2, 3, none⟩ (.int .u32 0)) ⟨g2, 4, none⟩ (.int .u32 0)) ⟨g2, 5, none⟩ (.int .u32 0)) ⟨g2, 6, none⟩ (.int .u32 0))) ?hg ?ho ?hn ?hr ?_; (case ho => rfl); (case hg => rfl); (case hn => rfl); (case hr => (try simp only [Act.put, List.setIfInBounds_toArray, List.set_cons_zero, List.set_cons_succ]); exact run_put7_ rfl (show _ = Value.pointer (some ⟨g2, 0, none⟩) from by rfl) (show _ = Value.agg #[.bool false, .int .u32 0, .int .u32 0, .int .u32 0, .int .u32 0, .int .u32 0, .int .u32 0] from by rfl) (HO.out.at 0 rfl) (by kernel_rfl) (by rfl)); intro w9 hw; replace HO := Aside0.mk (HO.out.put7 0 rfl hw rfl); clear hw))
      refine bodyPost_ret (results_list (rs := [.cell 6 25, .tmp 7]) rfl (by simp) (.cell g2 25 #[.bool false, .int .u32 0, .int .u32 0, .int .u32 0, .int .u32 0, .int .u32 0, .int .u32 0] (0, 0) _ rfl (HO.out.at 0 rfl) Try.underlying25 rfl (by kernel_rfl) (.tmp .nil))) rfl ?_
      exact ⟨rfl, HO.out.bel⟩
    | true =>
      rw [if_pos rfl] at h
      obtain ⟨v, h3, h⟩ := Option.bind_eq_some_iff.mp h
      have H3 := Aside0.mk h3
      clear h3
      cases v with
      | false =>
        rw [if_neg (by decide)] at h
        obtain ⟨rfl, rfl⟩ := Prod.mk.inj (Option.some.inj h)
        go_enter Try.func19, Try.ntmps19
        go_wp2_with (first | ((with_reducible refine gate_dst (N := 4) rfl ?_); refine box_event ?hg (N := 4) ?hd (cs := #[.bool a1.f0, .int .u32 a1.f1.f0, .int .u32 a1.f1.f1, .int .u32 a1.f1.f2, .int .u32 a1.f1.f3, .int .u32 a1.f1.f4, .int .u32 a1.f1.f5]) (t := 25) ?hr ?_; (case hd => rfl); (case hg => rfl); (case hr => first | (go_simp; done) | (go_simp; rfl)); intro g1 hg w1 hbox hb; replace HO := Aside0.mk (HO.out.box hg hbox hb); clear hg hbox hb) | ((with_reducible refine gate_dst (N := 6) rfl ?_); refine box_event ?hg (N := 6) ?hd (cs := #[.bool false, .int .u32 0, .int .u32 0, .int .u32 0, .int .u32 0, .int .u32 0, .int .u32 0]) (t := 25) ?hr ?_; (case hd => rfl); (case hg => rfl); (case hr => first | (go_simp; done) | (go_simp; rfl)); intro g2 hg w2 hbox hb; replace HO := Aside0.mk (HO.out.box hg hbox hb); clear hg hbox hb) | (go_at_call 57; (with_reducible refine (impl_ValidPoly.calls k A0 c0 l0 _ _ ?s1 HC.out H1.out).mono ?_); (case s1 => exact Kd.C_below HR.out HO.out.bel); rintro e w4 ⟨rfl, hd⟩; replace HO := Aside0.mk (HO.out.below (below_drawn hd)); clear hd; obtain ⟨h0, h1, h2, h3, h4, h5, h6⟩ := cells7_ (HO.out.at 1 rfl)) | (go_at_call 58; (with_reducible refine (impl_ValidWide.calls a1 _ _ H2.out).mono ?_); rintro e w5 ⟨rfl, hb⟩; replace HO := Aside0.mk (HO.out.below hb); clear hb) | (go_at_call 59; (with_reducible refine (impl_placesOk.calls a2 _ _ H3.out).mono ?_); rintro e w6 ⟨rfl, hd⟩; replace HO := Aside0.mk (HO.out.below (below_drawn hd)); clear hd) | ((with_reducible refine gate_store (t := 25) (p := 6) rfl ?_); refine store_event (t := 25) (p := 6) (v := ?vo_3) (w1 := (World.setCell (World.setCell (World.setCell (World.setCell (World.setCell (World.setCell (World.setCell w6 ⟨g2, 0, none⟩ (.bool false)) ⟨g2, 1, none⟩ (.int .u32 0)) ⟨g2, 2, none⟩ (.int .u32 0)) ⟨g2, 3, none⟩ (.int .u32 0)) ⟨g2, 4, none⟩ (.int .u32 0)) ⟨g2, 5, none⟩ (.int .u32 0)) ⟨g2, 6, none⟩ (.int .u32 0))) ?hg ?ho ?hn ?hr ?_; (case ho => rfl); (case hg => rfl); (case hn => rfl); (case hr => (try simp only [Act.put, List.setIfInBounds_toArray, List.set_cons_zero, List.set_cons_succ]); exact run_put7_ rfl (show _ = Value.pointer (some ⟨g2, 0, none⟩) from by rfl) (show _ = Value.agg #[.bool false, .int .u32 0, .int .u32 0, .int .u32 0, .int .u32 0, .int .u32 0, .int .u32 0] from by rfl) (HO.out.at 0 rfl) (by kernel_rfl) (by rfl)); intro w9 hw; replace HO := Aside0.mk (HO.out.put7 0 rfl hw rfl); clear hw))
        refine bodyPost_ret (results_list (rs := [.cell 6 25, .tmp 7]) rfl (by simp) (.cell g2 25 #[.bool false, .int .u32 0, .int .u32 0, .int .u32 0, .int .u32 0, .int .u32 0, .int .u32 0] (0, 0) _ rfl (HO.out.at 0 rfl) Try.underlying25 rfl (by kernel_rfl) (.tmp .nil))) rfl ?_
        exact ⟨rfl, HO.out.bel⟩
      | true =>
        rw [if_pos rfl] at h
        obtain ⟨ws, h4, h⟩ := Option.bind_eq_some_iff.mp h
        obtain ⟨⟨z1, z2⟩, h5, h6⟩ := Option.bind_eq_some_iff.mp h
        have H4 := Aside0.mk h4
        have H5 := Aside0.mk h5
        have H6 := Aside0.mk h6
        clear h h4 h5 h6
        go_enter Try.func19, Try.ntmps19
        go_wp2_with (first | ((with_reducible refine gate_dst (N := 4) rfl ?_); refine box_event ?hg (N := 4) ?hd (cs := #[.bool a1.f0, .int .u32 a1.f1.f0, .int .u32 a1.f1.f1, .int .u32 a1.f1.f2, .int .u32 a1.f1.f3, .int .u32 a1.f1.f4, .int .u32 a1.f1.f5]) (t := 25) ?hr ?_; (case hd => rfl); (case hg => rfl); (case hr => first | (go_simp; done) | (go_simp; rfl)); intro g1 hg w1 hbox hb; replace HO := Aside0.mk (HO.out.box hg hbox hb); clear hg hbox hb) | ((with_reducible refine gate_dst (N := 6) rfl ?_); refine box_event ?hg (N := 6) ?hd (cs := #[.bool false, .int .u32 0, .int .u32 0, .int .u32 0, .int .u32 0, .int .u32 0, .int .u32 0]) (t := 25) ?hr ?_; (case hd => rfl); (case hg => rfl); (case hr => first | (go_simp; done) | (go_simp; rfl)); intro g2 hg w2 hbox hb; replace HO := Aside0.mk (HO.out.box hg hbox hb); clear hg hbox hb) | (go_at_call 57; (with_reducible refine (impl_ValidPoly.calls k A0 c0 l0 _ _ ?s1 HC.out H1.out).mono ?_); (case s1 => exact Kd.C_below HR.out HO.out.bel); rintro e w4 ⟨rfl, hd⟩; replace HO := Aside0.mk (HO.out.below (below_drawn hd)); clear hd; obtain ⟨h0, h1, h2, h3, h4, h5, h6⟩ := cells7_ (HO.out.at 1 rfl)) | (go_at_call 58; (with_reducible refine (impl_ValidWide.calls a1 _ _ H2.out).mono ?_); rintro e w5 ⟨rfl, hb⟩; replace HO := Aside0.mk (HO.out.below hb); clear hb) | (go_at_call 59; (with_reducible refine (impl_placesOk.calls a2 _ _ H3.out).mono ?_); rintro e w6 ⟨rfl, hd⟩; replace HO := Aside0.mk (HO.out.below (below_drawn hd)); clear hd) | ((with_reducible refine gate_dst (N := 8) rfl ?_); refine box_event ?hg (N := 8) ?hd (cs := #[.bool false]) (t := 79) ?hr ?_; (case hd => rfl); (case hg => rfl); (case hr => first | (go_simp; done) | (go_simp; rfl)); intro g3 hg w7 hbox hb; replace HO := Aside0.mk (HO.out.box hg hbox hb); clear hg hbox hb; have fr0 := HO.out.fr 0 rfl 0; have k0 := HO.out.cell 0 rfl 0 rfl) | ((with_reducible refine gate_store (t := 79) (p := 8) rfl ?_); refine store_event (t := 79) (p := 8) (v := ?vo_4) (w1 := (World.setCell w7 ⟨g3, 0, none⟩ (.bool false))) ?hg ?ho ?hn ?hr ?_; (case ho => rfl); (case hg => rfl); (case hn => rfl); (case hr => first | (go_simp; done) | (go_simp; rfl)); intro w8 hw; replace HO := Aside0.mk (HO.out.seth 0 rfl 0 _ hw rfl); clear k0 fr0; clear hw))
        replace HO := Aside0.mk HO.out.drew
        refine start_ (n := 10) (S := fun w' => w'.cell? ⟨g1, 0, none⟩ = some (.bool a1.f0) ∧ w'.cell? ⟨g1, 1, none⟩ = some (.int .u32 a1.f1.f0) ∧ w'.cell? ⟨g1, 2, none⟩ = some (.int .u32 a1.f1.f1) ∧ w'.cell? ⟨g1, 3, none⟩ = some (.int .u32 a1.f1.f2) ∧ w'.cell? ⟨g1, 4, none⟩ = some (.int .u32 a1.f1.f3) ∧ w'.cell? ⟨g1, 5, none⟩ = some (.int .u32 a1.f1.f4) ∧ w'.cell? ⟨g1, 6, none⟩ = some (.int .u32 a1.f1.f5)) (ds := [8]) #[false, false, false, false, false, false, false, false, false, false] (by kernel_rfl) rfl rfl ⟨HO.out.cell 2 rfl 0 rfl, HO.out.cell 2 rfl 1 rfl, HO.out.cell 2 rfl 2 rfl, HO.out.cell 2 rfl 3 rfl, HO.out.cell 2 rfl 4 rfl, HO.out.cell 2 rfl 5 rfl, HO.out.cell 2 rfl 6 rfl⟩ (fun hHeld => ?_)
        refine pure_ (i := 0) (N := some 23) (v := ?_) (a' := ?_) #[true, false, false, false, false, false, false, false, false, false] rfl rfl (by kernel_rfl) (fun _ _ _ h => h) (Or.inl ⟨by rfl, ?_⟩) ?_ ?_
        rotate_left
        · intro w'
          go_simp
          with_reducible rfl
        rotate_left
        · simp only [Act.put, List.setIfInBounds_toArray, List.set_cons_zero, List.set_cons_succ, i64_w, i32_w]
          rfl
        refine pure_ (i := 3) (N := some 26) (v := ?_) (a' := ?_) #[true, false, false, true, false, false, false, false, false, false] rfl rfl (by kernel_rfl) (fun _ _ _ h => h) (Or.inl ⟨by rfl, ?_⟩) ?_ ?_
        rotate_left
        · intro w'
          go_simp
          with_reducible rfl
        rotate_left
        · simp only [Act.put, List.setIfInBounds_toArray, List.set_cons_zero, List.set_cons_succ, i64_w, i32_w]
          rfl
        refine take_ (i := 2) (N := some 25) (v := ?_) (a' := ?_) #[true, false, true, true, false, false, false, false, false, false] rfl rfl (by kernel_rfl) (fun _ _ _ h => h) (Or.inl ⟨by rfl, ?_⟩) hHeld ?_ ?_
        rotate_left
        · rintro w' ⟨s0, s1, s2, s3, s4, s5, s6⟩
          go_simp
          with_reducible rfl
        rotate_left
        · simp only [Act.put, List.setIfInBounds_toArray, List.set_cons_zero, List.set_cons_succ, i64_w, i32_w]
          rfl
        refine one_ (i := 1) (N := some 24) #[true, true, true, true, false, false, false, false, false, false] rfl rfl (by kernel_rfl) (by decide) (fun K hK => ?_)
        refine goes_ Try.func62 (by kernel_rfl) rfl #[.slice A0 l0.length c0] (by rfl) rfl rfl (by simp only [List.map_toArray, List.map_cons, List.map_nil]; rfl) ?_
        with_reducible refine (impl_widen.calls k A0 c0 l0 ws _ (Kd.C_below HR.out HO.out.bel) HC.out H4.out).mono ?_
        rintro e w11 ⟨v0, rfl, hK, hb⟩
        refine ⟨_, rfl, ?_⟩
        obtain ⟨A1, c1, rfl⟩ := Kd.R_slice hK
        replace HO := Aside0.mk (HO.out.below hb)
        have HK := Aside0.mk hK
        clear hb hK
        refine hK.out _ _ ⟨HO.out.cell 2 rfl 0 rfl, HO.out.cell 2 rfl 1 rfl, HO.out.cell 2 rfl 2 rfl, HO.out.cell 2 rfl 3 rfl, HO.out.cell 2 rfl 4 rfl, HO.out.cell 2 rfl 5 rfl, HO.out.cell 2 rfl 6 rfl⟩ (fun hHeld => ?_)
        clear hK K
        refine norm_ (a' := ?_) ?_ ?_
        rotate_left
        · show Act.put _ (some 24) _ = _
          simp only [Act.put, List.setIfInBounds_toArray, List.set_cons_zero, List.set_cons_succ, i64_w, i32_w]
          rfl
        refine one_ (i := 4) (N := some 27) #[true, true, true, true, true, false, false, false, false, false] rfl rfl (by kernel_rfl) (by decide) (fun K hK => ?_)
        refine goes_ Try.func61 (by kernel_rfl) rfl #[.pointer (some ⟨g3, 0, none⟩), .slice A1 ws.length c1, .agg #[.bool a1.f0, .int .u32 a1.f1.f0, .int .u32 a1.f1.f1, .int .u32 a1.f1.f2, .int .u32 a1.f1.f3, .int .u32 a1.f1.f4, .int .u32 a1.f1.f5], .int .i64 a2] (by rfl) rfl rfl (by simp only [List.map_toArray, List.map_cons, List.map_nil]; rfl) ?_
        with_reducible refine (impl_calc_valueAt.calls k g3 false A1 c1 ws a1 a2 z1 z2 w w11 (is79_ (HO.out.at 0 rfl) (HO.out.ge 0 rfl)) HO.out.bel (Kd.C_foot_own (Kd.R_types HK.out (HO.out.at 0 rfl) (by decide)) (fun _ hk => hk.2)) (Kd.R_reads' HK.out).2.1 H5.out).mono ?_
        rintro e w12 ⟨rfl, hI2, hB2, hk2⟩
        refine ⟨_, rfl, ?_⟩
        replace HO := Aside0.mk (OBkeep0 HO.out hk2 hB2 hI2.1)
        clear hI2 hB2 hk2 HK
        refine hK.out _ _ ⟨HO.out.cell 2 rfl 0 rfl, HO.out.cell 2 rfl 1 rfl, HO.out.cell 2 rfl 2 rfl, HO.out.cell 2 rfl 3 rfl, HO.out.cell 2 rfl 4 rfl, HO.out.cell 2 rfl 5 rfl, HO.out.cell 2 rfl 6 rfl⟩ (fun hHeld => ?_)
        clear hK K
        refine norm_ (a' := ?_) ?_ ?_
        rotate_left
        · show Act.put _ (some 27) _ = _
          simp only [Act.put, List.setIfInBounds_toArray, List.set_cons_zero, List.set_cons_succ, i64_w, i32_w]
          rfl
        refine one_ (i := 5) (N := some 28) #[true, true, true, true, true, true, false, false, false, false] rfl rfl (by kernel_rfl) (by decide) (fun K hK => ?_)
        refine goes_ Try.func60 (by kernel_rfl) rfl #[.pointer (some ⟨g3, 0, none⟩), .agg #[.bool z1.f0, .int .u32 z1.f1.f0, .int .u32 z1.f1.f1, .int .u32 z1.f1.f2, .int .u32 z1.f1.f3, .int .u32 z1.f1.f4, .int .u32 z1.f1.f5]] (by rfl) rfl rfl (by simp only [List.map_toArray, List.map_cons, List.map_nil]; rfl) ?_
        with_reducible refine (impl_calc_told.calls g3 0 z2 z1 r1 r2 _ (HO.out.cell 0 rfl 0 rfl) H6.out).mono ?_
        rintro e w13 ⟨rfl, hb⟩
        refine ⟨_, rfl, ?_⟩
        replace HO := Aside0.mk (HO.out.below hb)
        clear hb
        refine hK.out _ _ ⟨HO.out.cell 2 rfl 0 rfl, HO.out.cell 2 rfl 1 rfl, HO.out.cell 2 rfl 2 rfl, HO.out.cell 2 rfl 3 rfl, HO.out.cell 2 rfl 4 rfl, HO.out.cell 2 rfl 5 rfl, HO.out.cell 2 rfl 6 rfl⟩ (fun hHeld => ?_)
        clear hK K
        refine norm_ (a' := ?_) ?_ ?_
        rotate_left
        · show Act.put _ (some 28) _ = _
          simp only [Act.put, List.setIfInBounds_toArray, List.set_cons_zero, List.set_cons_succ, i64_w, i32_w]
          rfl
        refine pure_ (i := 6) (N := some 29) (v := ?_) (a' := ?_) #[true, true, true, true, true, true, true, false, false, false] rfl rfl (by kernel_rfl) (fun _ _ _ h => h) (Or.inl ⟨by rfl, ?_⟩) ?_ ?_
        rotate_left
        · intro w'
          go_simp
          with_reducible rfl
        rotate_left
        · simp only [Act.put, List.setIfInBounds_toArray, List.set_cons_zero, List.set_cons_succ, i64_w, i32_w]
          rfl
        refine pure_ (i := 7) (N := some 30) (v := ?_) (a' := ?_) #[true, true, true, true, true, true, true, true, false, false] rfl rfl (by kernel_rfl) (fun _ _ _ h => h) (Or.inl ⟨by rfl, ?_⟩) ?_ ?_
        rotate_left
        · intro w'
          go_simp
          with_reducible rfl
        rotate_left
        · simp only [Act.put, List.setIfInBounds_toArray, List.set_cons_zero, List.set_cons_succ, i64_w, i32_w]
          rfl
        refine last_store_ (i := 8) (w1 := (World.setCell (World.setCell (World.setCell (World.setCell (World.setCell (World.setCell (World.setCell w13 ⟨g2, 0, none⟩ (.bool r1.f0)) ⟨g2, 1, none⟩ (.int .u32 r1.f1.f0)) ⟨g2, 2, none⟩ (.int .u32 r1.f1.f1)) ⟨g2, 3, none⟩ (.int .u32 r1.f1.f2)) ⟨g2, 4, none⟩ (.int .u32 r1.f1.f3)) ⟨g2, 5, none⟩ (.int .u32 r1.f1.f4)) ⟨g2, 6, none⟩ (.int .u32 r1.f1.f5))) #[true, true, true, true, true, true, true, true, true, false] rfl rfl (by kernel_rfl) (by decide) (by rfl) (run_put7_ rfl (show _ = Value.pointer (some ⟨g2, 0, none⟩) from by rfl) (show _ = Value.agg #[.bool r1.f0, .int .u32 r1.f1.f0, .int .u32 r1.f1.f1, .int .u32 r1.f1.f2, .int .u32 r1.f1.f3, .int .u32 r1.f1.f4, .int .u32 r1.f1.f5] from by rfl) (HO.out.at 1 rfl) (by kernel_rfl) (by rfl)) ?_
        refine pure_ (i := 9) (N := some 7) (v := ?_) (a' := ?_) #[true, true, true, true, true, true, true, true, true, true] rfl rfl (by kernel_rfl) (fun _ _ _ h => h) (Or.inl ⟨by rfl, ?_⟩) ?_ ?_
        rotate_left
        · intro w'
          go_simp
          with_reducible rfl
        rotate_left
        · simp only [Act.put, List.setIfInBounds_toArray, List.set_cons_zero, List.set_cons_succ, i64_w, i32_w]
          rfl
        refine done_ (by kernel_rfl) ?_
        generalize hw_ : (World.setCell (World.setCell (World.setCell (World.setCell (World.setCell (World.setCell (World.setCell w13 ⟨g2, 0, none⟩ (.bool r1.f0)) ⟨g2, 1, none⟩ (.int .u32 r1.f1.f0)) ⟨g2, 2, none⟩ (.int .u32 r1.f1.f1)) ⟨g2, 3, none⟩ (.int .u32 r1.f1.f2)) ⟨g2, 4, none⟩ (.int .u32 r1.f1.f3)) ⟨g2, 5, none⟩ (.int .u32 r1.f1.f4)) ⟨g2, 6, none⟩ (.int .u32 r1.f1.f5)) = w20
        replace HO := Aside0.mk (HO.out.put7 1 rfl hw_.symm rfl)
        clear hw_
        go_wp2
        refine bodyPost_ret (results_list (rs := [.cell 6 25, .tmp 7]) rfl (by simp) (.cell g2 25 #[.bool r1.f0, .int .u32 r1.f1.f0, .int .u32 r1.f1.f1, .int .u32 r1.f1.f2, .int .u32 r1.f1.f3, .int .u32 r1.f1.f4, .int .u32 r1.f1.f5] (0, 0) _ rfl (HO.out.at 1 rfl) Try.underlying25 rfl (by kernel_rfl) (.tmp .nil))) rfl ?_
        exact ⟨rfl, HO.out.bel⟩

end Go.Proofs.Ytbomadebdekjjaa.MFnExactValueAt
