/- Functions of the program as Lean functions, and the proof that the code comes to what they say. Written by a program of this session (myprint.py). -/
import Derived.Test.YtlccefmimpmgjaaMFnExactReachedTreex0
import Derived.Test.YtlccefmimpmgjaaMFnExactReachedTreex6
import Derived.Test.YtlccefmimpmgjaaMFnExactReachedTreex7
namespace Go.Proofs.Ytlccefmimpmgjaa.MFnExactReachedTree
open Go.RowKit Go.Proofs.Ytlccefmimpmgjaa.MOpen Go.Proofs.YtlccefmimpmgjaaW.PrintWords Go.Proofs.YtlccefmimpmgjaaW.PrintLast Go.Proofs.YtlccefmimpmgjaaW.PrintMore
attribute [local go_sem] max2_int min2_int max_two min_two max_three min_three max_four min_four   -- for this text's walks alone
set_option linter.unusedVariables false
set_option linter.unusedSimpArgs false

set_option linter.defProp false
def kA107_ := @blk_alloc
def kN107_ := @blk_drewN
def kD107_ := @blk_drew
def aM107_ := @Aside0.mk
theorem q107x1_ {P : Prop} (h : P := by repeat (first | (with_reducible first | exact HB.out | apply below_alloc | apply pw_below_drewN | apply below_drew1 | refine below_set ?_ GE256.out | refine below_set ?_ GE257.out) | exact HB.out)) : P := h
theorem q107x2_ {P : Prop} (h : P := by (with_reducible repeat (first | refine kN107_ ?_ _ | refine kD107_ ?_ | refine kA107_ ?_ _)); exact BK256.out) : P := h
theorem q107x3_ {P : Prop} (h : P := by first | (with_reducible assumption) | assumption) : P := h
theorem q107x4_ {P : Prop} (h : P := by (with_reducible repeat (first | refine kN107_ ?_ _ | refine kD107_ ?_ | refine kA107_ ?_ _)); exact BK257.out) : P := h
theorem q107x5_ {P : Prop} (h : P := by repeat (first | (with_reducible first | exact HB.out | apply below_alloc | apply pw_below_drewN | apply below_drew1 | refine below_set ?_ GE256.out | refine below_set ?_ GE257.out | refine below_set ?_ GE263.out) | exact HB.out)) : P := h
theorem q107x6_ {P : Prop} (h : P := by repeat (first | (with_reducible first | exact HB.out | apply below_alloc | apply pw_below_drewN | apply below_drew1 | refine below_set ?_ GE256.out) | exact HB.out)) : P := h
theorem q107x7_ {P : Prop} (h : P := by repeat (first | (with_reducible first | exact HB.out | apply below_alloc | apply pw_below_drewN | apply below_drew1) | exact HB.out)) : P := h
theorem q107x8_ {P : Prop} (h : P := by (with_reducible repeat (first | refine kN107_ ?_ _ | refine kD107_ ?_ | refine kA107_ ?_ _)); exact BK263.out) : P := h
theorem q107x9_ {P : Prop} (h : P := by (with_reducible repeat (first | apply Kd.R_alloc | apply Kd.R_drewN | apply Kd.R_drew)); exact HO_7.out) : P := h
/-! ### impl_Tree_renamed_c108_2: function 107 -/
mutual
def impl_Tree_renamed_c108_2.l0 : Nat → List (S77) → List Int → Int → Int → List Int → List (S77) → Option ((List (S77)))
 | 0, _, _, _, _, _, _ => none
 | k + 1, x7, x15, x16, x17, x3000, x257000 => if x17 < x16 then (if 0 ≤ x17 then (if x17 < (x15.length : Int) then (if 0 ≤ (rd x15 x17) then (if (rd x15 x17) < (x257000.length : Int) then ((impl_Fork_ways.f ((rd_T77 x257000 (rd x15 x17)).f0) ((rd_T77 x257000 (rd x15 x17)).f1) ((rd_T77 x257000 (rd x15 x17)).f2.f0) ((rd_T77 x257000 (rd x15 x17)).f2.f1) ((rd_T77 x257000 (rd x15 x17)).f2.f2)).bind fun t264 => (impl_Tree_renamed_c108_2.l1 k x7 x17 x15 x16 x17 (t264.length : Int) 0 x3000 x257000 ((rd_T77 x257000 (rd x15 x17)).f0) ((rd_T77 x257000 (rd x15 x17)).f1) ((rd_T77 x257000 (rd x15 x17)).f2.f0) ((rd_T77 x257000 (rd x15 x17)).f2.f1) ((rd_T77 x257000 (rd x15 x17)).f2.f2))) else (none)) else (none)) else (none)) else (none)) else (some x7)
def impl_Tree_renamed_c108_2.l1 : Nat → List (S77) → Int → List Int → Int → Int → Int → Int → List Int → List (S77) → Int → Int → Int → Int → Int → Option ((List (S77)))
 | 0, _, _, _, _, _, _, _, _, _, _, _, _, _, _ => none
 | k + 1, x7, x8, x15, x16, x17, x28, x29, x3000, x257000, x264000, x264001, x264002, x264003, x264004 => if x29 < x28 then (if 0 ≤ x29 then (if x29 < 3 then ((impl_Tree_reachedOnly_1.f k (rd [x264002, x264003, x264004] x29) x3000).bind fun t267 => (impl_Tree_renamed_c108_2.l1 k x7 x8 x15 x16 x17 x28 (wrap64 (x29 + 1)) x3000 x257000 x264000 x264001 (aput 0 x29 t267 x264002) (aput 1 x29 t267 x264003) (aput 2 x29 t267 x264004))) else (none)) else (none)) else (if 0 ≤ x8 then (if x8 < (x7.length : Int) then (impl_Tree_renamed_c108_2.l0 k (x7.set (x8 : Int).toNat (⟨x264000, x264001, (⟨x264002, x264003, x264004⟩ : S75)⟩ : S77)) x15 x16 (wrap64 (x17 + 1)) x3000 x257000) else (none)) else (none))
end
def impl_Tree_renamed_c108_2.f (k : Nat) (l0_0 : List (S77)) (l1 : List Int) (l2_0 : List Int) : Option ((List (S77))) := if 0 ≤ (l1.length : Int) then (if ((l1.length : Int) : Int).toNat ≤ 35184372088832 then (impl_Tree_renamed_c108_2.l0 k (List.replicate ((l1.length : Int) : Int).toNat z77) l1 (l1.length : Int) 0 l2_0 l0_0) else (none)) else (none)
theorem impl_Tree_renamed_c108_2.mono_l : ∀ k, (∀ y0 y1 y2 y3 y4 y5, LeO (impl_Tree_renamed_c108_2.l0 k y0 y1 y2 y3 y4 y5) (impl_Tree_renamed_c108_2.l0 (k + 1) y0 y1 y2 y3 y4 y5)) ∧ (∀ y0 y1 y2 y3 y4 y5 y6 y7 y8 y9 y10 y11 y12 y13, LeO (impl_Tree_renamed_c108_2.l1 k y0 y1 y2 y3 y4 y5 y6 y7 y8 y9 y10 y11 y12 y13) (impl_Tree_renamed_c108_2.l1 (k + 1) y0 y1 y2 y3 y4 y5 y6 y7 y8 y9 y10 y11 y12 y13))
 | 0 => ⟨fun _ _ _ _ _ _ r h => by simp [impl_Tree_renamed_c108_2.l0] at h, fun _ _ _ _ _ _ _ _ _ _ _ _ _ _ r h => by simp [impl_Tree_renamed_c108_2.l1] at h⟩
 | k + 1 => by
  obtain ⟨ih0, ih1⟩ := impl_Tree_renamed_c108_2.mono_l k
  refine ⟨?_, ?_⟩
  ·intro y0 y1 y2 y3 y4 y5
   unfold impl_Tree_renamed_c108_2.l0
   repeat' first
   | (with_reducible exact ih0 _ _ _ _ _ _)
   | (with_reducible exact ih1 _ _ _ _ _ _ _ _ _ _ _ _ _ _)
   | (with_reducible exact impl_Tree_reachedOnly_1.mono _ _ _)
   | (with_reducible exact LeO.refl _)
   | (with_reducible exact LeO.none _)
   | (with_reducible refine LeO.ite ?_ ?_)
   | (with_reducible refine LeO.bind ?_ (fun _ => ?_))
   | exact ih0 _ _ _ _ _ _
   | exact ih1 _ _ _ _ _ _ _ _ _ _ _ _ _ _
   | exact impl_Tree_reachedOnly_1.mono _ _ _
   | exact LeO.none _
   | refine LeO.ite ?_ ?_
   | refine LeO.bind ?_ (fun _ => ?_)
  intro y0 y1 y2 y3 y4 y5 y6 y7 y8 y9 y10 y11 y12 y13
  unfold impl_Tree_renamed_c108_2.l1
  repeat' first
  | (with_reducible exact ih0 _ _ _ _ _ _)
  | (with_reducible exact ih1 _ _ _ _ _ _ _ _ _ _ _ _ _ _)
  | (with_reducible exact impl_Tree_reachedOnly_1.mono _ _ _)
  | (with_reducible exact LeO.refl _)
  | (with_reducible exact LeO.none _)
  | (with_reducible refine LeO.ite ?_ ?_)
  | (with_reducible refine LeO.bind ?_ (fun _ => ?_))
  | exact ih0 _ _ _ _ _ _
  | exact ih1 _ _ _ _ _ _ _ _ _ _ _ _ _ _
  | exact impl_Tree_reachedOnly_1.mono _ _ _
  | exact LeO.none _
  | refine LeO.ite ?_ ?_
  | refine LeO.bind ?_ (fun _ => ?_)
theorem impl_Tree_renamed_c108_2.mono : ∀ a0 a1 a2 k, LeO (impl_Tree_renamed_c108_2.f k a0 a1 a2) (impl_Tree_renamed_c108_2.f (k + 1) a0 a1 a2) := by
 intro a0 a1 a2 k
 obtain ⟨ih0, ih1⟩ := impl_Tree_renamed_c108_2.mono_l k
 unfold impl_Tree_renamed_c108_2.f
 repeat' first
   | (with_reducible exact ih0 _ _ _ _ _ _)
   | (with_reducible exact ih1 _ _ _ _ _ _ _ _ _ _ _ _ _ _)
   | (with_reducible exact impl_Tree_reachedOnly_1.mono _ _ _)
   | (with_reducible exact LeO.refl _)
   | (with_reducible exact LeO.none _)
   | (with_reducible refine LeO.ite ?_ ?_)
   | (with_reducible refine LeO.bind ?_ (fun _ => ?_))
   | exact ih0 _ _ _ _ _ _
   | exact ih1 _ _ _ _ _ _ _ _ _ _ _ _ _ _
   | exact impl_Tree_reachedOnly_1.mono _ _ _
   | exact LeO.none _
   | refine LeO.ite ?_ ?_
   | refine LeO.bind ?_ (fun _ => ?_)
set_option maxHeartbeats 8000000 in
set_option maxRecDepth 100000 in
theorem impl_Tree_renamed_c108_2.calls (k : Nat) (A0_0 : Option Addr) (c0_0 : Nat) (l0_0 : List (S77)) (A1 : Option Addr) (c1 : Nat) (l1 : List Int) (B2_ O2_ : Nat) (A2_0 : Option Addr) (c2_0 : Nat) (l2_0 : List Int) (r : List (S77)) (w : World) (hr0_0 : Kd.C k77 w A0_0 l0_0.length l0_0) (hc0_0 : l0_0.length ≤ c0_0) (hr1 : Kd.C (Kd.int .i16) w A1 l1.length l1) (hc1 : l1.length ≤ c1) (hr2_0 : Kd.C (Kd.int .i16) w A2_0 l2_0.length l2_0) (hc2_0 : l2_0.length ≤ c2_0) (hq2_ : w.cell? ⟨B2_, O2_, none⟩ = some (.slice A2_0 l2_0.length c2_0)) (h : impl_Tree_renamed_c108_2.f k l0_0 l1 l2_0 = some r) :
  Calls Try.prog 107 #[.agg #[.slice A0_0 l0_0.length c0_0], .slice A1 l1.length c1, .func (.func 108) #[] #[.pointer (some ⟨B2_, O2_, none⟩)]] w fun e w' => ∃ v0_ : Value, e = .returned (.agg #[v0_]) ∧ Kd.R k77 77 w' w.heap.size (fun _ => True) v0_ r ∧ Below w.heap.size w w' := by
 have hu24 := Try.underlying24
 have hu77 := Try.underlying77
 have HR0_0 := aM107_ hr0_0
 have HC0_0 := aM107_ hc0_0
 clear hr0_0 hc0_0
 have HR1 := aM107_ hr1
 have HC1 := aM107_ hc1
 clear hr1 hc1
 have HR2_0 := aM107_ hr2_0
 have HC2_0 := aM107_ hc2_0
 clear hr2_0 hc2_0
 have HQ2_ := aM107_ hq2_
 clear hq2_
 have HB := aM107_ (Below.refl w.heap.size w)
 have H : (if 0 ≤ (l1.length : Int) then (if ((l1.length : Int) : Int).toNat ≤ 35184372088832 then (impl_Tree_renamed_c108_2.l0 k (List.replicate ((l1.length : Int) : Int).toNat z77) l1 (l1.length : Int) 0 l2_0 l0_0) else (none)) else (none)) = some r := h
 clear h
 by_cases c4 : 0 ≤ (l1.length : Int)
 rotate_left
 ·rw [if_neg c4] at H
  exact absurd H (by simp)

 rw [if_pos c4] at H
 have c4b0 := eq_true c4
 have c4b1 : decide (0 ≤ (l1.length : Int)) = true := decide_eq_true c4
 clear c4
 by_cases c5 : ((l1.length : Int) : Int).toNat ≤ 35184372088832
 rotate_left
 ·rw [if_neg c5] at H
  exact absurd H (by simp)
 rw [if_pos c5] at H
 have c5b0 := eq_true c5
 have c5b1 : decide (((l1.length : Int) : Int).toNat ≤ 35184372088832) = true := decide_eq_true c5
 clear c5
 obtain ⟨y258, hy258⟩ : ∃ y_ : List (S77), y_ = (List.replicate ((l1.length : Int) : Int).toNat z77) := ⟨_, rfl⟩
 replace H : (impl_Tree_renamed_c108_2.l0 k y258 l1 (l1.length : Int) 0 l2_0 l0_0) = some r := by first | (rw [hy258]; with_reducible exact H) | (have H2_ := (Option.bind_some _ _).symm.trans H; rw [hy258]; with_reducible exact H2_) | (have H2_ := (Option.bind_some _ _).symm.trans H; with_reducible exact H2_) | with_reducible exact H | (rw [hy258]; exact H) | exact H
 have Ny258 := aM107_ hy258
 clear hy258
 have H' := aM107_ H
 clear H
 go_enter Try.func107, Try.ntmps107
 go_wp2_with (first | ((with_reducible refine gate_dst (N := 3) rfl ?_); refine box_event ?hg (N := 3) ?hd (cs := #[.slice A0_0 l0_0.length c0_0]) (t := 24) ?hr ?_; (case hd => rfl); (case hg => rfl); (case hr => first | (go_simp; done) | (go_simp; rfl)); intro gb256 hg w6 hbox hb; have n0_ := aM107_ (below_step q107x7_ hb); have n1_ := aM107_ (hbox); have n2_ := aM107_ ((by rw [hg]; exact (below_size q107x7_) : w.heap.size ≤ gb256)); have n3_ := aM107_ ((by rw [hg]; exact (below_size q107x7_) : w.heap.size ≤ gb256)); clear HB; have HB := n0_; have BK256 := n1_; have GW256 := n2_; have GE256 := n3_; clear n0_ n1_ n2_ n3_; clear hb hbox hg) | ((with_reducible refine gate_dst (N := 6) rfl ?_); refine box_event ?hg (N := 6) ?hd (cs := #[.slice none 0 0]) (t := 24) ?hr ?_; (case hd => rfl); (case hg => rfl); (case hr => first | (go_simp; done) | (go_simp; rfl)); intro gb257 hg w7 hbox hb; have n0_ := aM107_ (blk_below (g := gb256) (o := .cells #[.slice A0_0 l0_0.length c0_0] 24 (0, 0)) q107x2_ hb); have n1_ := aM107_ (below_step q107x6_ hb); have n2_ := aM107_ (hbox); have n3_ := aM107_ ((by rw [hg]; exact (below_size q107x6_) : w.heap.size ≤ gb257)); have n4_ := aM107_ ((by rw [hg]; exact (below_size q107x6_) : w.heap.size ≤ gb257)); have n5_ := aM107_ ((by rw [hg]; exact Nat.ne_of_lt (blk_lt (g := gb256) (o := .cells #[.slice A0_0 l0_0.length c0_0] 24 (0, 0)) q107x2_) : gb256 ≠ gb257)); have n6_ := aM107_ ((by rw [hg]; exact Nat.ne_of_gt (blk_lt (g := gb256) (o := .cells #[.slice A0_0 l0_0.length c0_0] 24 (0, 0)) q107x2_) : gb257 ≠ gb256)); clear BK256; clear HB; have BK256 := n0_; have HB := n1_; have BK257 := n2_; have GW257 := n3_; have GE257 := n4_; have NB256_257 := n5_; have NB257_256 := n6_; clear n0_ n1_ n2_ n3_ n4_ n5_ n6_; clear hb hbox hg) | ((with_reducible refine gate_dst (N := 14) rfl ?_); refine Kd.R_make k77 _ 77 rfl (N := 14) rfl 22 _ _ rfl (l1.length : Int) rfl rfl Try.underlying22 (.agg #[(.int .i8 0), (.int .i8 0), (.int .i16 0), (.int .i16 0), (.int .i16 0)]) 8 info77 rfl (by decide) (by omega) z77 (ok := fun _ => True) (okp := fun _ => True) (k77_mkM _ _ _ z77 ) (fun _ hk => hk) trivial (of_decide_eq_true q107x3_) (Nat.le_trans (Nat.mul_le_mul_right _ (of_decide_eq_true q107x3_ : (l1.length : Int).toNat ≤ 35184372088832)) (by omega)) (Below.refl _ _) (Nat.le_refl _) ?_; intro v259 w8 ho9 hb hg_ hnew_; clear hg_ hnew_; (first | rw [← Ny258.out] at ho9 | (simp only [Int.reduceToNat] at ho9; rw [← Ny258.out] at ho9)); have n0_ := aM107_ (Kd.R_lower ho9 (below_size q107x1_)); have n1_ := aM107_ (blk_below (g := gb256) (o := .cells #[.slice A0_0 l0_0.length c0_0] 24 (0, 0)) q107x2_ hb); have n2_ := aM107_ (blk_below (g := gb257) (o := .cells #[.slice none 0 0] 24 (0, 0)) q107x4_ hb); have n3_ := aM107_ (below_step q107x1_ hb); clear BK256; clear BK257; clear HB; have HO260 := n0_; have BK256 := n1_; have BK257 := n2_; have HB := n3_; clear n0_ n1_ n2_ n3_; clear hb ho9))
 go_loopg [17] k (fun kq v17 w' => ∃ (x7_1 : List (S77)) (x17_1 : Int), v17 = .int .i64 x17_1 ∧ Aside0 (impl_Tree_renamed_c108_2.l0 kq x7_1 l1 (l1.length : Int) x17_1 l2_0 l0_0 = some r) ∧ Aside0 (kq ≤ k) ∧ Aside0 (Kd.R k77 77 w' w.heap.size (fun _ => True) v259 x7_1) ∧ Aside0 (w'.heap[gb256]? = some (.cells #[(.slice A0_0 l0_0.length c0_0)] 24 (0, 0))) ∧ Aside0 (w'.heap[gb257]? = some (.cells #[(.slice none 0 0)] 24 (0, 0))) ∧ Aside0 (Below w.heap.size w w'))
 case atStart => exact ⟨(y258), (0), (by first | rfl | (simp; done) | (simp [*]; done)), H', ⟨Nat.le_refl _⟩, ⟨by (with_reducible repeat (first | apply Kd.R_alloc | apply Kd.R_drewN | apply Kd.R_drew)); exact HO260.out⟩, ⟨by (with_reducible repeat (first | refine kN107_ ?_ _ | refine kD107_ ?_ | refine kA107_ ?_ _)); exact BK256.out⟩, ⟨by (with_reducible repeat (first | refine kN107_ ?_ _ | refine kD107_ ?_ | refine kA107_ ?_ _)); exact BK257.out⟩, ⟨by repeat (first | (with_reducible first | exact HB.out | apply below_alloc | apply pw_below_drewN | apply below_drew1 | refine below_set ?_ GE256.out | refine below_set ?_ GE257.out) | exact HB.out)⟩⟩
 case round =>
  clear H'
  try clear c1
  try clear c2
  try clear p2
  try clear q2
  try clear c4
  try clear c4b0
  try clear c4b1
  try clear c5
  try clear c5b0
  try clear c5b1
  try clear c7
  obtain ⟨x7_1, x17_1, rfl, HA, HK1, HO_7, BK256, BK257, HB⟩ := hrel
  cases gk with
  | zero => exact absurd HA.out (by simp [impl_Tree_renamed_c108_2.l0])
  | succ k1 =>
   have H := HA.out
   clear HA
   simp only [impl_Tree_renamed_c108_2.l0] at H
   by_cases c10 : x17_1 < (l1.length : Int)
   rotate_left
   ·rw [if_neg c10] at H
    have c10b0 : decide (x17_1 < (l1.length : Int)) = false := decide_eq_false c10
    clear c10
    obtain rfl := Option.some.inj H
    obtain ⟨Ao40, co40, eo40⟩ := Kd.R_slice HO_7.out
    subst eo40
    have hnb41 := NB257_256.out
    have hnc41 := NB256_257.out
    have hcz42_0 : wr.cell? ⟨gb257, 0, none⟩ = some (.slice none 0 0) := (blk_cell BK257.out 0).trans rfl
    have hfz42_0 := blk_frozen BK257.out 0
    go_wp2_with (first | ((with_reducible refine gate_store (t := 24) (p := 6) rfl ?_); refine store_event (t := 24) (p := 6) (v := ?vo_w43) (w1 := (wr.setCell ⟨gb257, 0, none⟩ (.slice Ao40 x7_1.length co40))) ?hg ?ho ?hn ?hr ?_; (case ho => rfl); (case hg => rfl); (case hn => rfl); (case hr => first | (go_simp; done) | (go_simp; rfl)); intro w43 hw; have n0_ : Aside0 (Kd.R k77 77 w43 w.heap.size (fun _ => True) (.slice Ao40 x7_1.length co40) x7_1) := ⟨(by rw [hw]; exact (by (with_reducible repeat (first | apply Kd.R_alloc | apply Kd.R_drewN | apply Kd.R_drew)); exact Kd.R_mono (Kd.R_far (p := ⟨gb257, 0, none⟩) (Kd.R_types HO_7.out BK257.out (by decide)) (fun _ hk => hk.2) (.slice Ao40 x7_1.length co40)) (fun _ hk => trivial)))⟩; have n1_ : Aside0 (w43.heap[gb256]? = some (.cells #[.slice A0_0 l0_0.length c0_0] 24 (0, 0))) := ⟨(by rw [hw]; exact (by (with_reducible repeat (first | refine kN107_ ?_ _ | refine kD107_ ?_ | refine kA107_ ?_ _)); refine blk_far ?_ NB256_257.out _; (with_reducible repeat (first | refine kN107_ ?_ _ | refine kD107_ ?_ | refine kA107_ ?_ _)); exact BK256.out))⟩; have n2_ : Aside0 (w43.heap[gb257]? = some (.cells #[.slice Ao40 x7_1.length co40] 24 (0, 0))) := ⟨(by rw [hw]; exact (by (with_reducible repeat (first | refine kN107_ ?_ _ | refine kD107_ ?_ | refine kA107_ ?_ _)); refine blk_put (cs := #[.slice none 0 0]) ?_ 0 _ rfl; (with_reducible repeat (first | refine kN107_ ?_ _ | refine kD107_ ?_ | refine kA107_ ?_ _)); exact BK257.out))⟩; have n3_ : Aside0 (Below w.heap.size w w43) := ⟨(by rw [hw]; exact q107x1_)⟩; clear hw; clear HO_7; clear BK256; clear BK257; clear HB; have HO_7 := n0_; have BK256 := n1_; have BK257 := n2_; have HB := n3_; clear n0_ n1_ n2_ n3_))
    refine bodyPost_ret (results_cell_row rfl _ _ gb257 24 #[.slice Ao40 x7_1.length co40] (0, 0) _ rfl q107x4_ Try.underlying24 rfl (by kernel_rfl)) rfl ?_
    exact ⟨_, by first | rfl | (simp [errW_none, errW_some] <;> rfl) | (simp [*, errW_none, errW_some] <;> rfl), by (with_reducible repeat (first | apply Kd.R_alloc | apply Kd.R_drewN | apply Kd.R_drew)); exact HO_7.out, by repeat (first | (with_reducible first | exact HB.out | apply below_alloc | apply pw_below_drewN | apply below_drew1 | refine below_set ?_ GE256.out | refine below_set ?_ GE257.out) | exact HB.out)⟩
   rw [if_pos c10] at H
   have c10b0 : decide (x17_1 < (l1.length : Int)) = true := decide_eq_true c10
   clear c10
   by_cases c11 : 0 ≤ x17_1
   rotate_left
   ·rw [if_neg c11] at H
    exact absurd H (by simp)
   rw [if_pos c11] at H
   have c11b0 : decide (0 ≤ x17_1) = true := decide_eq_true c11
   clear c11
   have c12 : x17_1 < (l1.length : Int) := of_decide_eq_true c10b0
   rw [if_pos c12] at H
   clear c12
   by_cases c13 : 0 ≤ (rd l1 x17_1)
   rotate_left
   ·rw [if_neg c13] at H
    exact absurd H (by simp)
   rw [if_pos c13] at H
   have c13b0 : decide (0 ≤ (rd l1 x17_1)) = true := decide_eq_true c13
   clear c13
   by_cases c14 : (rd l1 x17_1) < (l0_0.length : Int)
   rotate_left
   ·rw [if_neg c14] at H
    exact absurd H (by simp)
   rw [if_pos c14] at H
   have c14b0 : decide ((rd l1 x17_1) < (l0_0.length : Int)) = true := decide_eq_true c14
   clear c14
   replace H := Option.bind_eq_some_iff.mp H
   obtain ⟨t264, A150, H⟩ := H
   replace H : (impl_Tree_renamed_c108_2.l1 k1 x7_1 x17_1 l1 (l1.length : Int) x17_1 (t264.length : Int) 0 l2_0 l0_0 ((rd_T77 l0_0 (rd l1 x17_1)).f0) ((rd_T77 l0_0 (rd l1 x17_1)).f1) ((rd_T77 l0_0 (rd l1 x17_1)).f2.f0) ((rd_T77 l0_0 (rd l1 x17_1)).f2.f1) ((rd_T77 l0_0 (rd l1 x17_1)).f2.f2)) = some r := H
   have A15 := aM107_ A150
   clear A150
   have H' := aM107_ H
   clear H
   have p261 : 0 ≤ (x17_1 : Int) := of_decide_eq_true q107x3_
   have q261 : x17_1 < (l1.length : Int) := of_decide_eq_true q107x3_
   obtain ⟨ad261, e261, hx261_0⟩ := Kd.at_int HR1.out x17_1 p261 q261
   cases e261
   replace hx261_0 := (HB.out.cell (World.block_lt_of_cell? w _ hx261_0)).trans hx261_0
   replace p261 := eq_true p261
   replace q261 := eq_true q261
   have hnb16 := NB256_257.out
   have hnc16 := NB257_256.out
   have hcz17_0 : wr.cell? ⟨gb256, 0, none⟩ = some (.slice A0_0 l0_0.length c0_0) := (blk_cell BK256.out 0).trans rfl
   have hfz17_0 := blk_frozen BK256.out 0
   have p262 : 0 ≤ ((rd l1 x17_1) : Int) := of_decide_eq_true q107x3_
   have q262 : (rd l1 x17_1) < (l0_0.length : Int) := of_decide_eq_true q107x3_
   obtain ⟨ad262, e262, hx262_0, hx262_1, hx262_2, hx262_3, hx262_4⟩ := at_T77 HR0_0.out (rd l1 x17_1) p262 q262
   cases e262
   replace hx262_0 := (HB.out.cell (World.block_lt_of_cell? w _ hx262_0)).trans hx262_0
   replace hx262_1 := (HB.out.cell (World.block_lt_of_cell? w _ hx262_1)).trans hx262_1
   replace hx262_2 := (HB.out.cell (World.block_lt_of_cell? w _ hx262_2)).trans hx262_2
   replace hx262_3 := (HB.out.cell (World.block_lt_of_cell? w _ hx262_3)).trans hx262_3
   replace hx262_4 := (HB.out.cell (World.block_lt_of_cell? w _ hx262_4)).trans hx262_4
   replace p262 := eq_true p262
   replace q262 := eq_true q262
   go_wp2_with (first | ((with_reducible refine gate_dst (N := 10) rfl ?_); refine box_event ?hg (N := 10) ?hd (cs := #[.int .i8 0, .int .i8 0, .int .i16 0, .int .i16 0, .int .i16 0]) (t := 77) ?hr ?_; (case hd => rfl); (case hg => rfl); (case hr => first | (go_simp; done) | (go_simp; rfl)); intro gb263 hg w18 hbox hb; have n0_ := aM107_ (Kd.R_below (Kd.R_elderB q107x9_ gb263 (Nat.le_of_eq hg.symm)) hb); have n1_ := aM107_ (blk_below (g := gb256) (o := .cells #[.slice (some ad262) l0_0.length c0_0] 24 (0, 0)) q107x2_ hb); have n2_ := aM107_ (blk_below (g := gb257) (o := .cells #[.slice none 0 0] 24 (0, 0)) q107x4_ hb); have n3_ := aM107_ (below_step q107x1_ hb); have n4_ := aM107_ (hbox); have n5_ := aM107_ ((by rw [hg]; exact (below_size q107x1_) : w.heap.size ≤ gb263)); have n6_ := aM107_ ((by rw [hg]; exact (below_size q107x1_) : w.heap.size ≤ gb263)); have n7_ := aM107_ ((by rw [hg]; exact Nat.ne_of_lt (blk_lt (g := gb256) (o := .cells #[.slice (some ad262) l0_0.length c0_0] 24 (0, 0)) q107x2_) : gb256 ≠ gb263)); have n8_ := aM107_ ((by rw [hg]; exact Nat.ne_of_gt (blk_lt (g := gb256) (o := .cells #[.slice (some ad262) l0_0.length c0_0] 24 (0, 0)) q107x2_) : gb263 ≠ gb256)); have n9_ := aM107_ ((by rw [hg]; exact Nat.ne_of_lt (blk_lt (g := gb257) (o := .cells #[.slice none 0 0] 24 (0, 0)) q107x4_) : gb257 ≠ gb263)); have n10_ := aM107_ ((by rw [hg]; exact Nat.ne_of_gt (blk_lt (g := gb257) (o := .cells #[.slice none 0 0] 24 (0, 0)) q107x4_) : gb263 ≠ gb257)); clear HO_7; clear BK256; clear BK257; clear HB; have HO_7 := n0_; have BK256 := n1_; have BK257 := n2_; have HB := n3_; have BK263 := n4_; have GW263 := n5_; have GE263 := n6_; have NB256_263 := n7_; have NB263_256 := n8_; have NB257_263 := n9_; have NB263_257 := n10_; clear n0_ n1_ n2_ n3_ n4_ n5_ n6_ n7_ n8_ n9_ n10_; clear hb hbox hg; have hnb19 := NB263_256.out; have hnc19 := NB256_263.out; have hnb20 := NB263_257.out; have hnc20 := NB257_263.out; have hcz21_0 : w18.cell? ⟨gb263, 0, none⟩ = some (.int .i8 0) := (blk_cell BK263.out 0).trans rfl; have hcz21_1 : w18.cell? ⟨gb263, 1, none⟩ = some (.int .i8 0) := (blk_cell BK263.out 1).trans rfl; have hcz21_2 : w18.cell? ⟨gb263, 2, none⟩ = some (.int .i16 0) := (blk_cell BK263.out 2).trans rfl; have hcz21_3 : w18.cell? ⟨gb263, 3, none⟩ = some (.int .i16 0) := (blk_cell BK263.out 3).trans rfl; have hcz21_4 : w18.cell? ⟨gb263, 4, none⟩ = some (.int .i16 0) := (blk_cell BK263.out 4).trans rfl; have hfz21_0 := blk_frozen BK263.out 0; have hfz21_1 := blk_frozen BK263.out 1; have hfz21_2 := blk_frozen BK263.out 2; have hfz21_3 := blk_frozen BK263.out 3; have hfz21_4 := blk_frozen BK263.out 4) | ((with_reducible refine gate_store (t := 77) (p := 10) rfl ?_); refine store_event (t := 77) (p := 10) (v := ?vo_w22) (w1 := (((((w18.setCell ⟨gb263, 0, none⟩ (.int .i8 ((rd_T77 l0_0 (rd l1 x17_1)).f0))).setCell ⟨gb263, 1, none⟩ (.int .i8 ((rd_T77 l0_0 (rd l1 x17_1)).f1))).setCell ⟨gb263, 2, none⟩ (.int .i16 ((rd_T77 l0_0 (rd l1 x17_1)).f2.f0))).setCell ⟨gb263, 3, none⟩ (.int .i16 ((rd_T77 l0_0 (rd l1 x17_1)).f2.f1))).setCell ⟨gb263, 4, none⟩ (.int .i16 ((rd_T77 l0_0 (rd l1 x17_1)).f2.f2)))) ?hg ?ho ?hn ?hr ?_; (case ho => rfl); (case hg => rfl); (case hn => rfl); (case hr => first | (go_simp; done) | (go_simp; rfl)); intro w22 hw; have n0_ : Aside0 (Kd.R k77 77 w22 w.heap.size (fun k_ => k_ ≠ gb263) v259 x7_1) := ⟨(by rw [hw]; exact (by (with_reducible repeat (first | apply Kd.R_alloc | apply Kd.R_drewN | apply Kd.R_drew)); exact Kd.R_mono (Kd.R_far (p := ⟨gb263, 4, none⟩) (Kd.R_far (p := ⟨gb263, 3, none⟩) (Kd.R_far (p := ⟨gb263, 2, none⟩) (Kd.R_far (p := ⟨gb263, 1, none⟩) (Kd.R_far (p := ⟨gb263, 0, none⟩) (Kd.R_mono HO_7.out (fun k_ hk => (⟨hk, hk.2⟩ : _ ∧ k_ ≠ gb263))) (fun _ hk => hk.2) (.int .i8 ((rd_T77 l0_0 (rd l1 x17_1)).f0))) (fun _ hk => hk.2) (.int .i8 ((rd_T77 l0_0 (rd l1 x17_1)).f1))) (fun _ hk => hk.2) (.int .i16 ((rd_T77 l0_0 (rd l1 x17_1)).f2.f0))) (fun _ hk => hk.2) (.int .i16 ((rd_T77 l0_0 (rd l1 x17_1)).f2.f1))) (fun _ hk => hk.2) (.int .i16 ((rd_T77 l0_0 (rd l1 x17_1)).f2.f2))) (fun _ hk => hk.1.2)))⟩; have n1_ : Aside0 (w22.heap[gb256]? = some (.cells #[.slice (some ad262) l0_0.length c0_0] 24 (0, 0))) := ⟨(by rw [hw]; exact (by (with_reducible repeat (first | refine kN107_ ?_ _ | refine kD107_ ?_ | refine kA107_ ?_ _)); refine blk_far ?_ NB256_263.out _; (with_reducible repeat (first | refine kN107_ ?_ _ | refine kD107_ ?_ | refine kA107_ ?_ _)); refine blk_far ?_ NB256_263.out _; (with_reducible repeat (first | refine kN107_ ?_ _ | refine kD107_ ?_ | refine kA107_ ?_ _)); refine blk_far ?_ NB256_263.out _; (with_reducible repeat (first | refine kN107_ ?_ _ | refine kD107_ ?_ | refine kA107_ ?_ _)); refine blk_far ?_ NB256_263.out _; (with_reducible repeat (first | refine kN107_ ?_ _ | refine kD107_ ?_ | refine kA107_ ?_ _)); refine blk_far ?_ NB256_263.out _; (with_reducible repeat (first | refine kN107_ ?_ _ | refine kD107_ ?_ | refine kA107_ ?_ _)); exact BK256.out))⟩; have n2_ : Aside0 (w22.heap[gb257]? = some (.cells #[.slice none 0 0] 24 (0, 0))) := ⟨(by rw [hw]; exact (by (with_reducible repeat (first | refine kN107_ ?_ _ | refine kD107_ ?_ | refine kA107_ ?_ _)); refine blk_far ?_ NB257_263.out _; (with_reducible repeat (first | refine kN107_ ?_ _ | refine kD107_ ?_ | refine kA107_ ?_ _)); refine blk_far ?_ NB257_263.out _; (with_reducible repeat (first | refine kN107_ ?_ _ | refine kD107_ ?_ | refine kA107_ ?_ _)); refine blk_far ?_ NB257_263.out _; (with_reducible repeat (first | refine kN107_ ?_ _ | refine kD107_ ?_ | refine kA107_ ?_ _)); refine blk_far ?_ NB257_263.out _; (with_reducible repeat (first | refine kN107_ ?_ _ | refine kD107_ ?_ | refine kA107_ ?_ _)); refine blk_far ?_ NB257_263.out _; (with_reducible repeat (first | refine kN107_ ?_ _ | refine kD107_ ?_ | refine kA107_ ?_ _)); exact BK257.out))⟩; have n3_ : Aside0 (w22.heap[gb263]? = some (.cells #[.int .i8 ((rd_T77 l0_0 (rd l1 x17_1)).f0), .int .i8 ((rd_T77 l0_0 (rd l1 x17_1)).f1), .int .i16 ((rd_T77 l0_0 (rd l1 x17_1)).f2.f0), .int .i16 ((rd_T77 l0_0 (rd l1 x17_1)).f2.f1), .int .i16 ((rd_T77 l0_0 (rd l1 x17_1)).f2.f2)] 77 (0, 0))) := ⟨(by rw [hw]; exact (by (with_reducible repeat (first | refine kN107_ ?_ _ | refine kD107_ ?_ | refine kA107_ ?_ _)); refine blk_put (cs := #[.int .i8 ((rd_T77 l0_0 (rd l1 x17_1)).f0), .int .i8 ((rd_T77 l0_0 (rd l1 x17_1)).f1), .int .i16 ((rd_T77 l0_0 (rd l1 x17_1)).f2.f0), .int .i16 ((rd_T77 l0_0 (rd l1 x17_1)).f2.f1), .int .i16 0]) ?_ 4 _ rfl; (with_reducible repeat (first | refine kN107_ ?_ _ | refine kD107_ ?_ | refine kA107_ ?_ _)); refine blk_put (cs := #[.int .i8 ((rd_T77 l0_0 (rd l1 x17_1)).f0), .int .i8 ((rd_T77 l0_0 (rd l1 x17_1)).f1), .int .i16 ((rd_T77 l0_0 (rd l1 x17_1)).f2.f0), .int .i16 0, .int .i16 0]) ?_ 3 _ rfl; (with_reducible repeat (first | refine kN107_ ?_ _ | refine kD107_ ?_ | refine kA107_ ?_ _)); refine blk_put (cs := #[.int .i8 ((rd_T77 l0_0 (rd l1 x17_1)).f0), .int .i8 ((rd_T77 l0_0 (rd l1 x17_1)).f1), .int .i16 0, .int .i16 0, .int .i16 0]) ?_ 2 _ rfl; (with_reducible repeat (first | refine kN107_ ?_ _ | refine kD107_ ?_ | refine kA107_ ?_ _)); refine blk_put (cs := #[.int .i8 ((rd_T77 l0_0 (rd l1 x17_1)).f0), .int .i8 0, .int .i16 0, .int .i16 0, .int .i16 0]) ?_ 1 _ rfl; (with_reducible repeat (first | refine kN107_ ?_ _ | refine kD107_ ?_ | refine kA107_ ?_ _)); refine blk_put (cs := #[.int .i8 0, .int .i8 0, .int .i16 0, .int .i16 0, .int .i16 0]) ?_ 0 _ rfl; (with_reducible repeat (first | refine kN107_ ?_ _ | refine kD107_ ?_ | refine kA107_ ?_ _)); exact BK263.out))⟩; have n4_ : Aside0 (Below w.heap.size w w22) := ⟨(by rw [hw]; exact q107x5_)⟩; clear hw; clear HO_7; clear BK256; clear BK257; clear BK263; clear HB; have HO_7 := n0_; have BK256 := n1_; have BK257 := n2_; have BK263 := n3_; have HB := n4_; clear n0_ n1_ n2_ n3_ n4_) | ((with_reducible refine gate_callee (f := 103) rfl ?_); refine goesL_ (some 27) rfl rfl Try.func103 (by kernel_rfl) rfl #[.pointer (some ⟨gb263, 0, none⟩)] rfl (by (try simp only [List.map_toArray, List.map_cons, List.map_nil]); first | done | rfl | (simp only [List.length_drop, List.length_take]; rfl)) ?_; (with_reducible refine (impl_Fork_ways.calls ⟨gb263, 0, none⟩ ((rd_T77 l0_0 (rd l1 x17_1)).f0) ((rd_T77 l0_0 (rd l1 x17_1)).f1) ((rd_T77 l0_0 (rd l1 x17_1)).f2.f0) ((rd_T77 l0_0 (rd l1 x17_1)).f2.f1) ((rd_T77 l0_0 (rd l1 x17_1)).f2.f2) t264 _ ?side1 A15.out).mono ?_); (case side1 => exact (blk_cell (g := gb263) (t := 77) (cs := #[.int .i8 ((rd_T77 l0_0 (rd l1 x17_1)).f0), .int .i8 ((rd_T77 l0_0 (rd l1 x17_1)).f1), .int .i16 ((rd_T77 l0_0 (rd l1 x17_1)).f2.f0), .int .i16 ((rd_T77 l0_0 (rd l1 x17_1)).f2.f1), .int .i16 ((rd_T77 l0_0 (rd l1 x17_1)).f2.f2)]) q107x8_ 0).trans rfl); rintro e w' ⟨rfl, ⟨nd, rfl⟩⟩; refine ⟨_, rfl, ?_⟩))
   go_loopg [29] k1 (fun kq v29 w' => ∃ (x29_2 : Int) (x264002_2 : Int) (x264003_2 : Int) (x264004_2 : Int), v29 = .int .i64 x29_2 ∧ Aside0 (impl_Tree_renamed_c108_2.l1 kq x7_1 x17_1 l1 (l1.length : Int) x17_1 (t264.length : Int) x29_2 l2_0 l0_0 ((rd_T77 l0_0 (rd l1 x17_1)).f0) ((rd_T77 l0_0 (rd l1 x17_1)).f1) x264002_2 x264003_2 x264004_2 = some r) ∧ Aside0 (kq ≤ k1) ∧ Aside0 (Kd.R k77 77 w' w.heap.size (fun k_ => k_ ≠ gb263) v259 x7_1) ∧ Aside0 (w'.heap[gb256]? = some (.cells #[(.slice (some ad262) l0_0.length c0_0)] 24 (0, 0))) ∧ Aside0 (w'.heap[gb257]? = some (.cells #[(.slice none 0 0)] 24 (0, 0))) ∧ Aside0 (w'.heap[gb263]? = some (.cells #[.int .i8 ((rd_T77 l0_0 (rd l1 x17_1)).f0), .int .i8 ((rd_T77 l0_0 (rd l1 x17_1)).f1), .int .i16 x264002_2, .int .i16 x264003_2, .int .i16 x264004_2] 77 (0, 0))) ∧ Aside0 (Below w.heap.size w w'))
   case atStart => exact ⟨(0), ((rd_T77 l0_0 (rd l1 x17_1)).f2.f0), ((rd_T77 l0_0 (rd l1 x17_1)).f2.f1), ((rd_T77 l0_0 (rd l1 x17_1)).f2.f2), (by first | rfl | (simp; done) | (simp [*]; done)), H', ⟨Nat.le_refl _⟩, ⟨by (with_reducible repeat (first | apply Kd.R_alloc | apply Kd.R_drewN | apply Kd.R_drew)); exact HO_7.out⟩, ⟨by (with_reducible repeat (first | refine kN107_ ?_ _ | refine kD107_ ?_ | refine kA107_ ?_ _)); exact BK256.out⟩, ⟨by (with_reducible repeat (first | refine kN107_ ?_ _ | refine kD107_ ?_ | refine kA107_ ?_ _)); exact BK257.out⟩, ⟨by (with_reducible repeat (first | refine kN107_ ?_ _ | refine kD107_ ?_ | refine kA107_ ?_ _)); exact BK263.out⟩, ⟨by repeat (first | (with_reducible first | exact HB.out | apply below_alloc | apply pw_below_drewN | apply below_drew1 | refine below_set ?_ GE256.out | refine below_set ?_ GE257.out | refine below_set ?_ GE263.out) | exact HB.out)⟩⟩
   case round =>
    clear H'
    try clear c1
    try clear c2
    try clear p2
    try clear q2
    try clear hx2
    try clear c4
    try clear c4b0
    try clear c4b1
    try clear c5
    try clear c5b0
    try clear c5b1
    try clear c7
    try clear c10
    try clear c10b0
    try clear c11
    try clear c11b0
    try clear c12
    try clear c13
    try clear c13b0
    try clear c14
    try clear c14b0
    try clear c16
    try clear c19
    try clear c20
    try clear hcz17_0
    try clear hcz21_0
    try clear hcz21_1
    try clear hcz21_2
    try clear hcz21_3
    try clear hcz21_4
    try clear hfz17_0
    try clear hfz21_0
    try clear hfz21_1
    try clear hfz21_2
    try clear hfz21_3
    try clear hfz21_4
    try clear hx261_0
    try clear hx262_0
    try clear hx262_1
    try clear hx262_2
    try clear hx262_3
    try clear hx262_4
    try clear p2
    try clear p261
    try clear p262
    try clear q2
    try clear q261
    try clear q262
    obtain ⟨x29_2, x264002_2, x264003_2, x264004_2, rfl, HA, HK2, HO_7, BK256, BK257, BK263, HB⟩ := hrel
    cases gk with
    | zero => exact absurd HA.out (by simp [impl_Tree_renamed_c108_2.l1])
    | succ k2 =>
     have H := HA.out
     clear HA
     simp only [impl_Tree_renamed_c108_2.l1] at H
     by_cases c23 : x29_2 < (t264.length : Int)
     rotate_left
     ·rw [if_neg c23] at H
      have c23b0 : decide (x29_2 < (t264.length : Int)) = false := decide_eq_false c23
      clear c23
      by_cases c32 : 0 ≤ x17_1
      rotate_left
      ·rw [if_neg c32] at H
       exact absurd H (by simp)
      rw [if_pos c32] at H
      have c32b0 : decide (0 ≤ x17_1) = true := decide_eq_true c32
      clear c32
      by_cases c33 : x17_1 < (x7_1.length : Int)
      rotate_left
      ·rw [if_neg c33] at H
       exact absurd H (by simp)
      rw [if_pos c33] at H
      have c33b0 : decide (x17_1 < (x7_1.length : Int)) = true := decide_eq_true c33
      clear c33
      obtain ⟨y269, hy269⟩ : ∃ y_ : List (S77), y_ = (x7_1.set (x17_1 : Int).toNat (⟨((rd_T77 l0_0 (rd l1 x17_1)).f0), ((rd_T77 l0_0 (rd l1 x17_1)).f1), (⟨x264002_2, x264003_2, x264004_2⟩ : S75)⟩ : S77)) := ⟨_, rfl⟩
      replace H : (impl_Tree_renamed_c108_2.l0 k2 y269 l1 (l1.length : Int) (wrap64 (x17_1 + 1)) l2_0 l0_0) = some r := by first | (rw [hy269]; with_reducible exact H) | (have H2_ := (Option.bind_some _ _).symm.trans H; rw [hy269]; with_reducible exact H2_) | (have H2_ := (Option.bind_some _ _).symm.trans H; with_reducible exact H2_) | with_reducible exact H | (rw [hy269]; exact H) | exact H
      have Ny269 := aM107_ hy269
      clear hy269
      have H' := aM107_ H
      clear H
      have hnb35 := NB263_256.out
      have hnc35 := NB256_263.out
      have hnb36 := NB263_257.out
      have hnc36 := NB257_263.out
      have hcz37_0 : wr.cell? ⟨gb263, 0, none⟩ = some (.int .i8 ((rd_T77 l0_0 (rd l1 x17_1)).f0)) := (blk_cell BK263.out 0).trans rfl
      have hcz37_1 : wr.cell? ⟨gb263, 1, none⟩ = some (.int .i8 ((rd_T77 l0_0 (rd l1 x17_1)).f1)) := (blk_cell BK263.out 1).trans rfl
      have hcz37_2 : wr.cell? ⟨gb263, 2, none⟩ = some (.int .i16 x264002_2) := (blk_cell BK263.out 2).trans rfl
      have hcz37_3 : wr.cell? ⟨gb263, 3, none⟩ = some (.int .i16 x264003_2) := (blk_cell BK263.out 3).trans rfl
      have hcz37_4 : wr.cell? ⟨gb263, 4, none⟩ = some (.int .i16 x264004_2) := (blk_cell BK263.out 4).trans rfl
      have hfz37_0 := blk_frozen BK263.out 0
      have hfz37_1 := blk_frozen BK263.out 1
      have hfz37_2 := blk_frozen BK263.out 2
      have hfz37_3 := blk_frozen BK263.out 3
      have hfz37_4 := blk_frozen BK263.out 4
      have p34 : 0 ≤ (x17_1 : Int) := of_decide_eq_true q107x3_
      have q34 : (x17_1 : Int) < ((x7_1.length : Int) : Int) := of_decide_eq_true q107x3_
      obtain ⟨go34, co34, eo34, gb34, gl34, cl34, HG34⟩ := Kd.R_form HO_7.out (by omega)
      (first | cases eo34 | (injection eo34 with ea_ en_ ec_; (first | subst ea_ | (injection ea_ with ea_; subst ea_)); subst ec_; clear en_))
      have GB34 := aM107_ gb34
      have GG34 := aM107_ HG34
      clear gb34 gl34 HG34
      obtain ⟨ce34, hcl34, hM34, hcc34, hfr34⟩ := Kd.R_elem HO_7.out z77 (x17_1 : Int) p34 q34
      obtain rfl := k77_openM hM34
      have hx34_0 : wr.cell? ⟨go34, (x17_1 : Int).toNat * 5, none⟩ = some (.int .i8 ((rd_T77 x7_1 x17_1).f0)) := hcc34 0 _ rfl
      have hx34_1 : wr.cell? ⟨go34, (x17_1 : Int).toNat * 5 + 1, none⟩ = some (.int .i8 ((rd_T77 x7_1 x17_1).f1)) := hcc34 1 _ rfl
      have hx34_2 : wr.cell? ⟨go34, (x17_1 : Int).toNat * 5 + 2, none⟩ = some (.int .i16 ((rd_T77 x7_1 x17_1).f2.f0)) := hcc34 2 _ rfl
      have hx34_3 : wr.cell? ⟨go34, (x17_1 : Int).toNat * 5 + 3, none⟩ = some (.int .i16 ((rd_T77 x7_1 x17_1).f2.f1)) := hcc34 3 _ rfl
      have hx34_4 : wr.cell? ⟨go34, (x17_1 : Int).toNat * 5 + 4, none⟩ = some (.int .i16 ((rd_T77 x7_1 x17_1).f2.f2)) := hcc34 4 _ rfl
      have hf34_0 : wr.frozen? ⟨go34, (x17_1 : Int).toNat * 5, none⟩ = false := hfr34 0
      have hf34_1 : wr.frozen? ⟨go34, (x17_1 : Int).toNat * 5 + 1, none⟩ = false := hfr34 1
      have hf34_2 : wr.frozen? ⟨go34, (x17_1 : Int).toNat * 5 + 2, none⟩ = false := hfr34 2
      have hf34_3 : wr.frozen? ⟨go34, (x17_1 : Int).toNat * 5 + 3, none⟩ = false := hfr34 3
      have hf34_4 : wr.frozen? ⟨go34, (x17_1 : Int).toNat * 5 + 4, none⟩ = false := hfr34 4
      clear hcl34 hcc34 hfr34 hM34
      replace p34 := eq_true p34
      replace q34 := eq_true q34
      have HX38 := aM107_ (show Kd.R k77 77 wr w.heap.size (fun k_ => k_ ≠ gb263) (.slice (some ⟨go34, 0, none⟩) x7_1.length co34) x7_1 from q107x9_)
      obtain ⟨ce38, hcl38, hM38, hcc38, hfr38⟩ := Kd.R_elem HX38.out z77 (x17_1 : Int) (of_decide_eq_true q107x3_) (by have h_ : (x17_1 : Int) < ((x7_1.length : Int) : Int) := of_decide_eq_true q107x3_; first | exact h_ | (have e_ := (Kd.R_reads' HO_7.out).1; omega) | simpa using h_)
      obtain rfl := k77_openM hM38
      have HP38 := Kd.R_seg HX38.out (x17_1 : Int) (of_decide_eq_true q107x3_) (by have h_ : (x17_1 : Int) < ((x7_1.length : Int) : Int) := of_decide_eq_true q107x3_; first | exact h_ | (have e_ := (Kd.R_reads' HO_7.out).1; omega) | simpa using h_) (seg := [.int .i8 ((rd_T77 l0_0 (rd l1 x17_1)).f0), .int .i8 ((rd_T77 l0_0 (rd l1 x17_1)).f1), .int .i16 x264002_2, .int .i16 x264003_2, .int .i16 x264004_2]) (j := 0) hcl38 hcc38 (show 5 ≤ 5 from by decide) (x' := (⟨((rd_T77 l0_0 (rd l1 x17_1)).f0), ((rd_T77 l0_0 (rd l1 x17_1)).f1), (⟨x264002_2, x264003_2, x264004_2⟩ : S75)⟩ : S77)) (k77_mkM _ _ _ (⟨((rd_T77 l0_0 (rd l1 x17_1)).f0), ((rd_T77 l0_0 (rd l1 x17_1)).f1), (⟨x264002_2, x264003_2, x264004_2⟩ : S75)⟩ : S77) ) (fun _ hk => hk)
      have hx38_0 := hcc38 0 _ rfl
      (try simp only [show (k77).sz = 5 from rfl, Nat.mul_one, Nat.add_zero] at hx38_0)
      have hf38_0 := hfr38 0
      (try simp only [show (k77).sz = 5 from rfl, Nat.mul_one, Nat.add_zero] at hf38_0)
      have hx38_1 := hcc38 1 _ rfl
      (try simp only [show (k77).sz = 5 from rfl, Nat.mul_one, Nat.add_zero] at hx38_1)
      have hf38_1 := hfr38 1
      (try simp only [show (k77).sz = 5 from rfl, Nat.mul_one, Nat.add_zero] at hf38_1)
      have hx38_2 := hcc38 2 _ rfl
      (try simp only [show (k77).sz = 5 from rfl, Nat.mul_one, Nat.add_zero] at hx38_2)
      have hf38_2 := hfr38 2
      (try simp only [show (k77).sz = 5 from rfl, Nat.mul_one, Nat.add_zero] at hf38_2)
      have hx38_3 := hcc38 3 _ rfl
      (try simp only [show (k77).sz = 5 from rfl, Nat.mul_one, Nat.add_zero] at hx38_3)
      have hf38_3 := hfr38 3
      (try simp only [show (k77).sz = 5 from rfl, Nat.mul_one, Nat.add_zero] at hf38_3)
      have hx38_4 := hcc38 4 _ rfl
      (try simp only [show (k77).sz = 5 from rfl, Nat.mul_one, Nat.add_zero] at hx38_4)
      have hf38_4 := hfr38 4
      (try simp only [show (k77).sz = 5 from rfl, Nat.mul_one, Nat.add_zero] at hf38_4)
      clear hcl38 hcc38 hfr38 hM38
      go_wp2_with (first | ((with_reducible refine gate_store (t := 77) (p := 45) rfl ?_); refine store_event (t := 77) (p := 45) (v := ?vo_w39) (w1 := (((((wr.setCell ⟨go34, (x17_1 : Int).toNat * 5, none⟩ (.int .i8 ((rd_T77 l0_0 (rd l1 x17_1)).f0))).setCell ⟨go34, (x17_1 : Int).toNat * 5 + 1, none⟩ (.int .i8 ((rd_T77 l0_0 (rd l1 x17_1)).f1))).setCell ⟨go34, (x17_1 : Int).toNat * 5 + 2, none⟩ (.int .i16 x264002_2)).setCell ⟨go34, (x17_1 : Int).toNat * 5 + 3, none⟩ (.int .i16 x264003_2)).setCell ⟨go34, (x17_1 : Int).toNat * 5 + 4, none⟩ (.int .i16 x264004_2))) ?hg ?ho ?hn ?hr ?_; (case ho => rfl); (case hg => rfl); (case hn => rfl); (case hr => first | (go_simp; done) | (go_simp; rfl)); intro w39 hw; have hg : wr.grownBy w39 (some go34) := (by rw [hw]; exact HP38.2); have hp_ : Kd.R k77 77 w39 w.heap.size (fun k_ => k_ ≠ gb263) (.slice (some ⟨go34, 0, none⟩) x7_1.length co34) y269 := (by rw [hw, Ny269.out]; exact HP38.1); clear HP38; have n0_ := aM107_ (hp_); have n1_ := aM107_ (blk_grown (g := gb256) (o := .cells #[.slice (some ad262) l0_0.length c0_0] 24 (0, 0)) q107x2_ hg (Kd.R_ne HO_7.out BK256.out (by decide))); have n2_ := aM107_ (blk_grown (g := gb257) (o := .cells #[.slice none 0 0] 24 (0, 0)) q107x4_ hg (Kd.R_ne HO_7.out BK257.out (by decide))); have n3_ := aM107_ (blk_grown (g := gb263) (o := .cells #[.int .i8 ((rd_T77 l0_0 (rd l1 x17_1)).f0), .int .i8 ((rd_T77 l0_0 (rd l1 x17_1)).f1), .int .i16 x264002_2, .int .i16 x264003_2, .int .i16 x264004_2] 77 (0, 0)) q107x8_ hg (Kd.R_away HO_7.out (fun _ hk => hk))); have n4_ := aM107_ ((by rw [hw]; exact below_set (below_set (below_set (below_set (below_set (HB.out) GB34.out) GB34.out) GB34.out) GB34.out) GB34.out : Below w.heap.size w w39)); clear HO_7; clear BK256; clear BK257; clear BK263; clear HB; have HO_7 := n0_; have BK256 := n1_; have BK257 := n2_; have BK263 := n3_; have HB := n4_; clear n0_ n1_ n2_ n3_ n4_; clear hg hw hp_))
      go_roundg k2
      case measure => have := HK1.out; have := HK2.out; omega
      case rel => exact ⟨(y269), (wrap64 (x17_1 + 1)), (by first | rfl | (simp; done) | (simp [*]; done)), H', ⟨by have := HK1.out; have := HK2.out; omega⟩, ⟨by (with_reducible repeat (first | apply Kd.R_alloc | apply Kd.R_drewN | apply Kd.R_drew)); exact Kd.R_mono HO_7.out (fun _ hk => trivial)⟩, ⟨by (with_reducible repeat (first | refine kN107_ ?_ _ | refine kD107_ ?_ | refine kA107_ ?_ _)); exact BK256.out⟩, ⟨by (with_reducible repeat (first | refine kN107_ ?_ _ | refine kD107_ ?_ | refine kA107_ ?_ _)); exact BK257.out⟩, ⟨by repeat (first | (with_reducible first | exact HB.out | apply below_alloc | apply pw_below_drewN | apply below_drew1 | refine below_set ?_ GE256.out | refine below_set ?_ GE257.out | refine below_set ?_ GE263.out) | exact HB.out)⟩⟩
     rw [if_pos c23] at H
     have c23b0 : decide (x29_2 < (t264.length : Int)) = true := decide_eq_true c23
     clear c23
     by_cases c24 : 0 ≤ x29_2
     rotate_left
     ·rw [if_neg c24] at H
      exact absurd H (by simp)
     rw [if_pos c24] at H
     have c24b0 : decide (0 ≤ x29_2) = true := decide_eq_true c24
     clear c24
     by_cases c25 : x29_2 < 3
     rotate_left
     ·rw [if_neg c25] at H
      exact absurd H (by simp)
     rw [if_pos c25] at H
     have c25b0 : decide (x29_2 < 3) = true := decide_eq_true c25
     clear c25
     replace H := Option.bind_eq_some_iff.mp H
     obtain ⟨t267, A260, H⟩ := H
     replace H : (impl_Tree_renamed_c108_2.l1 k2 x7_1 x17_1 l1 (l1.length : Int) x17_1 (t264.length : Int) (wrap64 (x29_2 + 1)) l2_0 l0_0 ((rd_T77 l0_0 (rd l1 x17_1)).f0) ((rd_T77 l0_0 (rd l1 x17_1)).f1) (aput 0 x29_2 t267 x264002_2) (aput 1 x29_2 t267 x264003_2) (aput 2 x29_2 t267 x264004_2)) = some r := H
     have A26 := aM107_ A260
     clear A260
     have H' := aM107_ H
     clear H
     have hnb27 := NB263_256.out
     have hnc27 := NB256_263.out
     have hnb28 := NB263_257.out
     have hnc28 := NB257_263.out
     have hcz29_0 : wr.cell? ⟨gb263, 0, none⟩ = some (.int .i8 ((rd_T77 l0_0 (rd l1 x17_1)).f0)) := (blk_cell BK263.out 0).trans rfl
     have hcz29_1 : wr.cell? ⟨gb263, 1, none⟩ = some (.int .i8 ((rd_T77 l0_0 (rd l1 x17_1)).f1)) := (blk_cell BK263.out 1).trans rfl
     have hcz29_2 : wr.cell? ⟨gb263, 2, none⟩ = some (.int .i16 x264002_2) := (blk_cell BK263.out 2).trans rfl
     have hcz29_3 : wr.cell? ⟨gb263, 3, none⟩ = some (.int .i16 x264003_2) := (blk_cell BK263.out 3).trans rfl
     have hcz29_4 : wr.cell? ⟨gb263, 4, none⟩ = some (.int .i16 x264004_2) := (blk_cell BK263.out 4).trans rfl
     have hfz29_0 := blk_frozen BK263.out 0
     have hfz29_1 := blk_frozen BK263.out 1
     have hfz29_2 := blk_frozen BK263.out 2
     have hfz29_3 := blk_frozen BK263.out 3
     have hfz29_4 := blk_frozen BK263.out 4
     have HP266 := aM107_ (show 0 ≤ (x29_2 : Int) ∧ (x29_2 : Int) < 3 from ⟨of_decide_eq_true q107x3_, of_decide_eq_true q107x3_⟩)
     have hx266_0 : wr.cell? ⟨gb263, 2 + (x29_2 : Int).toNat, none⟩ = some (.int .i16 (rd [x264002_2, x264003_2, x264004_2] x29_2)) := (by (rcases (show x29_2 = 0 ∨ x29_2 = 1 ∨ x29_2 = 2 from (by have h_ := HP266.out; omega)) with rfl | rfl | rfl <;> first | exact (blk_cell BK263.out 2).trans rfl | exact (blk_cell BK263.out 3).trans rfl | exact (blk_cell BK263.out 4).trans rfl))
     have hx266_1 : wr.cell? ((⟨gb263, 2, none⟩ : Addr).add (x29_2 : Int).toNat) = some (.int .i16 (rd [x264002_2, x264003_2, x264004_2] x29_2)) := (congrArg _ (add_off _ _ _)).trans hx266_0
     have hpz266 := eq_true HP266.out.1
     have hpy266 := eq_true HP266.out.2
     go_wp2_with (first | (go_at_call 108; (with_reducible refine (impl_Tree_reachedOnly_1.calls k2 (rd [x264002_2, x264003_2, x264004_2] x29_2) B2_ O2_ A2_0 c2_0 l2_0 t267 _ ?side1 ?side2 ?side3 A26.out).mono ?_); (case side1 => repeat (first | exact (Kd.C_below HR2_0.out HB.out) | (with_reducible refine Kd.C_alloc ?_ _) | (with_reducible refine Kd.C_drewN ?_ _) | (with_reducible refine Kd.C_drew ?_))); (case side2 => exact HC2_0.out); (case side3 => obtain hz0_ := HQ2_.out; exact ((q107x5_ : Below w.heap.size w _).cell (World.block_lt_of_cell? w _ hz0_)).trans hz0_); rintro e w' ⟨rfl, ⟨nd, rfl⟩⟩; (try (rw [drewN_self wr]; generalize hq_ : World.drewN wr _ = wr; have n0_ : Aside0 (Kd.R k77 77 wr w.heap.size (fun k_ => k_ ≠ gb263) v259 x7_1) := ⟨by rw [← hq_]; exact q107x9_⟩; have n1_ : Aside0 (wr.heap[gb256]? = some (.cells #[.slice (some ad262) l0_0.length c0_0] 24 (0, 0))) := ⟨by rw [← hq_]; exact q107x2_⟩; have n2_ : Aside0 (wr.heap[gb257]? = some (.cells #[.slice none 0 0] 24 (0, 0))) := ⟨by rw [← hq_]; exact q107x4_⟩; have n3_ : Aside0 (wr.heap[gb263]? = some (.cells #[.int .i8 ((rd_T77 l0_0 (rd l1 x17_1)).f0), .int .i8 ((rd_T77 l0_0 (rd l1 x17_1)).f1), .int .i16 x264002_2, .int .i16 x264003_2, .int .i16 x264004_2] 77 (0, 0))) := ⟨by rw [← hq_]; exact q107x8_⟩; have n4_ : Aside0 (Below w.heap.size w wr) := ⟨by rw [← hq_]; exact q107x5_⟩; clear HO_7 BK256 BK257 BK263 HB hq_; have HO_7 := n0_; have BK256 := n1_; have BK257 := n2_; have BK263 := n3_; have HB := n4_; clear n0_ n1_ n2_ n3_ n4_)); have hcz30_0 : wr.cell? ⟨gb263, 0, none⟩ = some (.int .i8 ((rd_T77 l0_0 (rd l1 x17_1)).f0)) := (blk_cell BK263.out 0).trans rfl; have hcz30_1 : wr.cell? ⟨gb263, 1, none⟩ = some (.int .i8 ((rd_T77 l0_0 (rd l1 x17_1)).f1)) := (blk_cell BK263.out 1).trans rfl; have hcz30_2 : wr.cell? ⟨gb263, 2, none⟩ = some (.int .i16 x264002_2) := (blk_cell BK263.out 2).trans rfl; have hcz30_3 : wr.cell? ⟨gb263, 3, none⟩ = some (.int .i16 x264003_2) := (blk_cell BK263.out 3).trans rfl; have hcz30_4 : wr.cell? ⟨gb263, 4, none⟩ = some (.int .i16 x264004_2) := (blk_cell BK263.out 4).trans rfl; have hfz30_0 := blk_frozen BK263.out 0; have hfz30_1 := blk_frozen BK263.out 1; have hfz30_2 := blk_frozen BK263.out 2; have hfz30_3 := blk_frozen BK263.out 3; have hfz30_4 := blk_frozen BK263.out 4; have HP268 := aM107_ (show 0 ≤ (x29_2 : Int) ∧ (x29_2 : Int) < 3 from ⟨of_decide_eq_true q107x3_, of_decide_eq_true q107x3_⟩); have hx268_0 : wr.cell? ⟨gb263, 2 + (x29_2 : Int).toNat, none⟩ = some (.int .i16 (rd [x264002_2, x264003_2, x264004_2] x29_2)) := (by (rcases (show x29_2 = 0 ∨ x29_2 = 1 ∨ x29_2 = 2 from (by have h_ := HP268.out; omega)) with rfl | rfl | rfl <;> first | exact (blk_cell BK263.out 2).trans rfl | exact (blk_cell BK263.out 3).trans rfl | exact (blk_cell BK263.out 4).trans rfl)); have hx268_1 : wr.cell? ((⟨gb263, 2, none⟩ : Addr).add (x29_2 : Int).toNat) = some (.int .i16 (rd [x264002_2, x264003_2, x264004_2] x29_2)) := (congrArg _ (add_off _ _ _)).trans hx268_0; have hf268_0 := blk_frozen BK263.out (2 + (x29_2 : Int).toNat); have hpz268 := eq_true HP268.out.1; have hpy268 := eq_true HP268.out.2) | ((with_reducible refine gate_store (t := 74) (p := 40) rfl ?_); refine store_event (t := 74) (p := 40) (v := ?vo_w31) (w1 := (wr.setCell ⟨gb263, 2 + (x29_2 : Int).toNat, none⟩ (.int .i16 t267))) ?hg ?ho ?hn ?hr ?_; (case ho => rfl); (case hg => rfl); (case hn => rfl); (case hr => first | (go_simp; done) | (go_simp; rfl)); intro w31 hw; have n0_ : Aside0 (Kd.R k77 77 w31 w.heap.size (fun k_ => k_ ≠ gb263) v259 x7_1) := ⟨(by rw [hw]; exact (by (with_reducible repeat (first | apply Kd.R_alloc | apply Kd.R_drewN | apply Kd.R_drew)); exact Kd.R_mono (Kd.R_far (p := ⟨gb263, 2 + (x29_2 : Int).toNat, none⟩) (Kd.R_mono HO_7.out (fun k_ hk => (⟨hk, hk⟩ : _ ∧ k_ ≠ gb263))) (fun _ hk => hk.2) (.int .i16 t267)) (fun _ hk => hk.1)))⟩; have n1_ : Aside0 (w31.heap[gb256]? = some (.cells #[.slice (some ad262) l0_0.length c0_0] 24 (0, 0))) := ⟨(by rw [hw]; exact (by (with_reducible repeat (first | refine kN107_ ?_ _ | refine kD107_ ?_ | refine kA107_ ?_ _)); refine blk_far ?_ NB256_263.out _; (with_reducible repeat (first | refine kN107_ ?_ _ | refine kD107_ ?_ | refine kA107_ ?_ _)); exact BK256.out))⟩; have n2_ : Aside0 (w31.heap[gb257]? = some (.cells #[.slice none 0 0] 24 (0, 0))) := ⟨(by rw [hw]; exact (by (with_reducible repeat (first | refine kN107_ ?_ _ | refine kD107_ ?_ | refine kA107_ ?_ _)); refine blk_far ?_ NB257_263.out _; (with_reducible repeat (first | refine kN107_ ?_ _ | refine kD107_ ?_ | refine kA107_ ?_ _)); exact BK257.out))⟩; have n3_ : Aside0 (w31.heap[gb263]? = some (.cells #[.int .i8 ((rd_T77 l0_0 (rd l1 x17_1)).f0), .int .i8 ((rd_T77 l0_0 (rd l1 x17_1)).f1), .int .i16 (aput 0 x29_2 t267 x264002_2), .int .i16 (aput 1 x29_2 t267 x264003_2), .int .i16 (aput 2 x29_2 t267 x264004_2)] 77 (0, 0))) := ⟨(by rw [hw]; exact (by (with_reducible repeat (first | refine kN107_ ?_ _ | refine kD107_ ?_ | refine kA107_ ?_ _)); refine blk_put (cs := #[.int .i8 ((rd_T77 l0_0 (rd l1 x17_1)).f0), .int .i8 ((rd_T77 l0_0 (rd l1 x17_1)).f1), .int .i16 x264002_2, .int .i16 x264003_2, .int .i16 x264004_2]) ?_ (2 + (x29_2 : Int).toNat) _ (by rcases (show x29_2 = 0 ∨ x29_2 = 1 ∨ x29_2 = 2 from (by have h_ := HP268.out; omega)) with rfl | rfl | rfl <;> rfl); (with_reducible repeat (first | refine kN107_ ?_ _ | refine kD107_ ?_ | refine kA107_ ?_ _)); exact BK263.out))⟩; have n4_ : Aside0 (Below w.heap.size w w31) := ⟨(by rw [hw]; exact q107x5_)⟩; clear hw; clear HO_7; clear BK256; clear BK257; clear BK263; clear HB; have HO_7 := n0_; have BK256 := n1_; have BK257 := n2_; have BK263 := n3_; have HB := n4_; clear n0_ n1_ n2_ n3_ n4_))
     go_roundg k2
     case measure => have := HK1.out; have := HK2.out; omega
     case rel => exact ⟨(wrap64 (x29_2 + 1)), ((aput 0 x29_2 t267 x264002_2)), ((aput 1 x29_2 t267 x264003_2)), ((aput 2 x29_2 t267 x264004_2)), (by first | rfl | (simp; done) | (simp [*]; done)), H', ⟨by have := HK1.out; have := HK2.out; omega⟩, ⟨by (with_reducible repeat (first | apply Kd.R_alloc | apply Kd.R_drewN | apply Kd.R_drew)); exact HO_7.out⟩, ⟨by (with_reducible repeat (first | refine kN107_ ?_ _ | refine kD107_ ?_ | refine kA107_ ?_ _)); exact BK256.out⟩, ⟨by (with_reducible repeat (first | refine kN107_ ?_ _ | refine kD107_ ?_ | refine kA107_ ?_ _)); exact BK257.out⟩, ⟨by (with_reducible repeat (first | refine kN107_ ?_ _ | refine kD107_ ?_ | refine kA107_ ?_ _)); exact BK263.out⟩, ⟨by repeat (first | (with_reducible first | exact HB.out | apply below_alloc | apply pw_below_drewN | apply below_drew1 | refine below_set ?_ GE256.out | refine below_set ?_ GE257.out | refine below_set ?_ GE263.out) | exact HB.out)⟩⟩
@[go_sem] theorem impl_Tree_reachedOnly.run_make_ (P : Program) (fn : Fn) (first cap : Array Value) (w : World) : (Instr.makeFunc fn first cap).run P w = .ok (.func fn first cap) w := rfl
@[go_sem] theorem impl_Tree_reachedOnly.events_make_ (P : Program) (fn : Fn) (first cap : Array Value) (w : World) (es : Array Event) : (Instr.makeFunc fn first cap).events P w es = es := rfl
/-! ### impl_Tree_reachedOnly: function 72 -/
def impl_Tree_reachedOnly.f (k : Nat) (l0_0 : List (S77)) : Option ((List (S77))) := (impl_Tree_found.f k l0_0).bind fun t272 => ((impl_Tree_renamed_c108_2.f k l0_0 t272 t272).bind fun t276 => (some t276))
theorem impl_Tree_reachedOnly.mono : ∀ a0 k, LeO (impl_Tree_reachedOnly.f k a0) (impl_Tree_reachedOnly.f (k + 1) a0) := by
  intro a0 k
  unfold impl_Tree_reachedOnly.f
  repeat' first
      | (with_reducible exact impl_Tree_found.mono _ _)
      | (with_reducible exact impl_Tree_renamed_c108_2.mono _ _ _ _)
      | (with_reducible exact LeO.refl _)
      | (with_reducible exact LeO.none _)
      | (with_reducible refine LeO.ite ?_ ?_)
      | (with_reducible refine LeO.bind ?_ (fun _ => ?_))
      | exact impl_Tree_found.mono _ _
      | exact impl_Tree_renamed_c108_2.mono _ _ _ _
      | exact LeO.none _
      | refine LeO.ite ?_ ?_
      | refine LeO.bind ?_ (fun _ => ?_)
set_option maxHeartbeats 8000000 in
set_option maxRecDepth 100000 in
theorem impl_Tree_reachedOnly.calls (k : Nat) (A0_0 : Option Addr) (c0_0 : Nat) (l0_0 : List (S77)) (r : List (S77)) (w : World) (hr0_0 : Kd.C k77 w A0_0 l0_0.length l0_0) (hc0_0 : l0_0.length ≤ c0_0) (h : impl_Tree_reachedOnly.f k l0_0 = some r) :
    Calls Try.prog 72 #[.agg #[.slice A0_0 l0_0.length c0_0]] w fun e w' => ∃ v0_ : Value, e = .returned (.agg #[v0_]) ∧ Kd.R k77 77 w' w.heap.size (fun _ => True) v0_ r ∧ Below w.heap.size w w' := by
  have hu24 := Try.underlying24
  have HR0_0 := Aside0.mk hr0_0
  have HC0_0 := Aside0.mk hc0_0
  clear hr0_0 hc0_0
  have HB := Aside0.mk (Below.refl w.heap.size w)
  have H : ((impl_Tree_found.f k l0_0).bind fun t272 => ((impl_Tree_renamed_c108_2.f k l0_0 t272 t272).bind fun t276 => (some t276))) = some r := h
  clear h
  replace H := Option.bind_eq_some_iff.mp H
  obtain ⟨t272, A20, H⟩ := H
  replace H : ((impl_Tree_renamed_c108_2.f k l0_0 t272 t272).bind fun t276 => (some t276)) = some r := H
  have A2 := Aside0.mk A20
  clear A20
  replace H := Option.bind_eq_some_iff.mp H
  obtain ⟨t276, A30, H⟩ := H
  replace H : (some t276) = some r := H
  have A3 := Aside0.mk A30
  clear A30
  obtain rfl := Option.some.inj H
  go_enter Try.func72, Try.ntmps72
  go_wp2_with (first | ((with_reducible refine gate_dst (N := 1) rfl ?_); refine box_event ?hg (N := 1) ?hd (cs := #[.slice A0_0 l0_0.length c0_0]) (t := 24) ?hr ?_; (case hd => rfl); (case hg => rfl); (case hr => first | (go_simp; done) | (go_simp; rfl)); intro gb270 hg w4 hbox hb; have n0_ := Aside0.mk (below_step (by repeat (first | (with_reducible first | exact HB.out | apply below_alloc | apply pw_below_drewN | apply below_drew1) | exact HB.out)) hb); have n1_ := Aside0.mk (hbox); have n2_ := Aside0.mk ((by rw [hg]; exact (below_size (by repeat (first | (with_reducible first | exact HB.out | apply below_alloc | apply pw_below_drewN | apply below_drew1) | exact HB.out))) : w.heap.size ≤ gb270)); have n3_ := Aside0.mk ((by rw [hg]; exact (below_size (by repeat (first | (with_reducible first | exact HB.out | apply below_alloc | apply pw_below_drewN | apply below_drew1) | exact HB.out))) : w.heap.size ≤ gb270)); clear HB; have HB := n0_; have BK270 := n1_; have GW270 := n2_; have GE270 := n3_; clear n0_ n1_ n2_ n3_; clear hb hbox hg) | ((with_reducible refine gate_dst (N := 2) rfl ?_); refine box_event ?hg (N := 2) ?hd (cs := #[.slice none 0 0]) (t := 24) ?hr ?_; (case hd => rfl); (case hg => rfl); (case hr => first | (go_simp; done) | (go_simp; rfl)); intro gb271 hg w5 hbox hb; have n0_ := Aside0.mk (blk_below (g := gb270) (o := .cells #[.slice A0_0 l0_0.length c0_0] 24 (0, 0)) (by (with_reducible repeat (first | refine blk_drewN ?_ _ | refine blk_drew ?_ | refine blk_alloc ?_ _)); exact BK270.out) hb); have n1_ := Aside0.mk (below_step (by repeat (first | (with_reducible first | exact HB.out | apply below_alloc | apply pw_below_drewN | apply below_drew1 | refine below_set ?_ GE270.out) | exact HB.out)) hb); have n2_ := Aside0.mk (hbox); have n3_ := Aside0.mk ((by rw [hg]; exact (below_size (by repeat (first | (with_reducible first | exact HB.out | apply below_alloc | apply pw_below_drewN | apply below_drew1 | refine below_set ?_ GE270.out) | exact HB.out))) : w.heap.size ≤ gb271)); have n4_ := Aside0.mk ((by rw [hg]; exact (below_size (by repeat (first | (with_reducible first | exact HB.out | apply below_alloc | apply pw_below_drewN | apply below_drew1 | refine below_set ?_ GE270.out) | exact HB.out))) : w.heap.size ≤ gb271)); have n5_ := Aside0.mk ((by rw [hg]; exact Nat.ne_of_lt (blk_lt (g := gb270) (o := .cells #[.slice A0_0 l0_0.length c0_0] 24 (0, 0)) (by (with_reducible repeat (first | refine blk_drewN ?_ _ | refine blk_drew ?_ | refine blk_alloc ?_ _)); exact BK270.out)) : gb270 ≠ gb271)); have n6_ := Aside0.mk ((by rw [hg]; exact Nat.ne_of_gt (blk_lt (g := gb270) (o := .cells #[.slice A0_0 l0_0.length c0_0] 24 (0, 0)) (by (with_reducible repeat (first | refine blk_drewN ?_ _ | refine blk_drew ?_ | refine blk_alloc ?_ _)); exact BK270.out)) : gb271 ≠ gb270)); clear BK270; clear HB; have BK270 := n0_; have HB := n1_; have BK271 := n2_; have GW271 := n3_; have GE271 := n4_; have NB270_271 := n5_; have NB271_270 := n6_; clear n0_ n1_ n2_ n3_ n4_ n5_ n6_; clear hb hbox hg; have hnb6 := NB270_271.out; have hnc6 := NB271_270.out; have hcz7_0 : w5.cell? ⟨gb270, 0, none⟩ = some (.slice A0_0 l0_0.length c0_0) := (blk_cell BK270.out 0).trans rfl; have hfz7_0 := blk_frozen BK270.out 0) | ((with_reducible refine gate_callee (f := 101) rfl ?_); refine goesL_ (some 5) rfl rfl Try.func101 (by kernel_rfl) rfl #[.agg #[.slice A0_0 l0_0.length c0_0]] rfl (by (try simp only [List.map_toArray, List.map_cons, List.map_nil]); first | done | rfl | (simp only [List.length_drop, List.length_take]; rfl)) ?_; (with_reducible refine (impl_Tree_found.calls k _ _ l0_0 t272 _ ?side1 ?side2 A2.out).mono ?_); (case side1 => repeat (first | exact (Kd.C_below HR0_0.out HB.out) | (with_reducible refine Kd.C_alloc ?_ _) | (with_reducible refine Kd.C_drewN ?_ _) | (with_reducible refine Kd.C_drew ?_))); (case side2 => exact HC0_0.out); rintro e w8 ⟨v273, rfl, ho0, hb⟩; refine ⟨_, rfl, ?_⟩; have n0_ := Aside0.mk (Kd.R_lower ho0 (below_size (by repeat (first | (with_reducible first | exact HB.out | apply below_alloc | apply pw_below_drewN | apply below_drew1 | refine below_set ?_ GE270.out | refine below_set ?_ GE271.out) | exact HB.out)))); have n1_ := Aside0.mk (blk_below (g := gb270) (o := .cells #[.slice A0_0 l0_0.length c0_0] 24 (0, 0)) (by (with_reducible repeat (first | refine blk_drewN ?_ _ | refine blk_drew ?_ | refine blk_alloc ?_ _)); exact BK270.out) hb); have n2_ := Aside0.mk (blk_below (g := gb271) (o := .cells #[.slice none 0 0] 24 (0, 0)) (by (with_reducible repeat (first | refine blk_drewN ?_ _ | refine blk_drew ?_ | refine blk_alloc ?_ _)); exact BK271.out) hb); have n3_ := Aside0.mk (below_step (by repeat (first | (with_reducible first | exact HB.out | apply below_alloc | apply pw_below_drewN | apply below_drew1 | refine below_set ?_ GE270.out | refine below_set ?_ GE271.out) | exact HB.out)) hb); clear BK270; clear BK271; clear HB; have HO274 := n0_; have BK270 := n1_; have BK271 := n2_; have HB := n3_; clear n0_ n1_ n2_ n3_; (try clear hb); (try clear hb2); (try clear hk); (try clear hi); (try clear ho0)) | ((with_reducible refine gate_dst (N := 3) rfl ?_); refine box_event ?hg (N := 3) ?hd (cs := #[.slice none 0 0]) (t := 93) ?hr ?_; (case hd => rfl); (case hg => rfl); (case hr => first | (go_simp; done) | (go_simp; rfl)); intro gb275 hg w9 hbox hb; have n0_ := Aside0.mk (Kd.R_below (by (with_reducible repeat (first | apply Kd.R_alloc | apply Kd.R_drewN | apply Kd.R_drew)); exact HO274.out) hb); have n1_ := Aside0.mk (blk_below (g := gb270) (o := .cells #[.slice A0_0 l0_0.length c0_0] 24 (0, 0)) (by (with_reducible repeat (first | refine blk_drewN ?_ _ | refine blk_drew ?_ | refine blk_alloc ?_ _)); exact BK270.out) hb); have n2_ := Aside0.mk (blk_below (g := gb271) (o := .cells #[.slice none 0 0] 24 (0, 0)) (by (with_reducible repeat (first | refine blk_drewN ?_ _ | refine blk_drew ?_ | refine blk_alloc ?_ _)); exact BK271.out) hb); have n3_ := Aside0.mk (below_step (by repeat (first | (with_reducible first | exact HB.out | apply below_alloc | apply pw_below_drewN | apply below_drew1 | refine below_set ?_ GE270.out | refine below_set ?_ GE271.out) | exact HB.out)) hb); have n4_ := Aside0.mk (hbox); have n5_ := Aside0.mk ((by rw [hg]; exact (below_size (by repeat (first | (with_reducible first | exact HB.out | apply below_alloc | apply pw_below_drewN | apply below_drew1 | refine below_set ?_ GE270.out | refine below_set ?_ GE271.out) | exact HB.out))) : w.heap.size ≤ gb275)); have n6_ := Aside0.mk ((by rw [hg]; exact (below_size (by repeat (first | (with_reducible first | exact HB.out | apply below_alloc | apply pw_below_drewN | apply below_drew1 | refine below_set ?_ GE270.out | refine below_set ?_ GE271.out) | exact HB.out))) : w.heap.size ≤ gb275)); have n7_ := Aside0.mk ((by rw [hg]; exact Nat.ne_of_lt (blk_lt (g := gb270) (o := .cells #[.slice A0_0 l0_0.length c0_0] 24 (0, 0)) (by (with_reducible repeat (first | refine blk_drewN ?_ _ | refine blk_drew ?_ | refine blk_alloc ?_ _)); exact BK270.out)) : gb270 ≠ gb275)); have n8_ := Aside0.mk ((by rw [hg]; exact Nat.ne_of_gt (blk_lt (g := gb270) (o := .cells #[.slice A0_0 l0_0.length c0_0] 24 (0, 0)) (by (with_reducible repeat (first | refine blk_drewN ?_ _ | refine blk_drew ?_ | refine blk_alloc ?_ _)); exact BK270.out)) : gb275 ≠ gb270)); have n9_ := Aside0.mk ((by rw [hg]; exact Nat.ne_of_lt (blk_lt (g := gb271) (o := .cells #[.slice none 0 0] 24 (0, 0)) (by (with_reducible repeat (first | refine blk_drewN ?_ _ | refine blk_drew ?_ | refine blk_alloc ?_ _)); exact BK271.out)) : gb271 ≠ gb275)); have n10_ := Aside0.mk ((by rw [hg]; exact Nat.ne_of_gt (blk_lt (g := gb271) (o := .cells #[.slice none 0 0] 24 (0, 0)) (by (with_reducible repeat (first | refine blk_drewN ?_ _ | refine blk_drew ?_ | refine blk_alloc ?_ _)); exact BK271.out)) : gb275 ≠ gb271)); clear HO274; clear BK270; clear BK271; clear HB; have HO274 := n0_; have BK270 := n1_; have BK271 := n2_; have HB := n3_; have BK275 := n4_; have GW275 := n5_; have GE275 := n6_; have NB270_275 := n7_; have NB275_270 := n8_; have NB271_275 := n9_; have NB275_271 := n10_; clear n0_ n1_ n2_ n3_ n4_ n5_ n6_ n7_ n8_ n9_ n10_; clear hb hbox hg; obtain ⟨Ao10, co10, eo10⟩ := Kd.R_slice HO274.out; subst eo10; have hnb11 := NB275_270.out; have hnc11 := NB270_275.out; have hnb12 := NB275_271.out; have hnc12 := NB271_275.out; have hcz13_0 : w9.cell? ⟨gb275, 0, none⟩ = some (.slice none 0 0) := (blk_cell BK275.out 0).trans rfl; have hfz13_0 := blk_frozen BK275.out 0; have hcz14_0 : w9.cell? ⟨gb270, 0, none⟩ = some (.slice A0_0 l0_0.length c0_0) := (blk_cell BK270.out 0).trans rfl; have hfz14_0 := blk_frozen BK270.out 0) | ((with_reducible refine gate_callee (f := 107) rfl ?_); refine goesL_ (some 9) rfl rfl Try.func107 (by kernel_rfl) rfl #[.agg #[.slice A0_0 l0_0.length c0_0], .slice Ao10 t272.length co10, .func (.func 108) #[] #[.pointer (some ⟨gb275, 0, none⟩)]] rfl (by (try simp only [List.map_toArray, List.map_cons, List.map_nil]); first | done | rfl | (simp only [List.length_drop, List.length_take]; rfl)) ?_; (with_reducible refine (impl_Tree_renamed_c108_2.calls k _ _ l0_0 _ _ t272 gb275 0 Ao10 co10 t272 t276 _ ?side1 ?side2 ?side3 ?side4 ?side5 ?side6 ?side7 A3.out).mono ?_); (case side1 => exact Kd.C_below HR0_0.out (by repeat (first | (with_reducible first | exact HB.out | apply below_alloc | apply pw_below_drewN | apply below_drew1 | refine below_set ?_ GE270.out | refine below_set ?_ GE271.out | refine below_set ?_ GE275.out) | exact HB.out))); (case side2 => exact HC0_0.out); (case side3 => refine (Kd.R_reads' (e := 74) (base := w.heap.size) (ok := fun k_ => True) (n := t272.length) (c := co10) ?_).2.2; exact (by (with_reducible repeat (first | apply Kd.R_alloc | apply Kd.R_drewN | apply Kd.R_drew)); exact (Kd.R_mono (Kd.R_far (p := ⟨gb275, 0, none⟩) (Kd.R_types HO274.out BK275.out (by decide)) (fun _ hk => hk.2) (.slice Ao10 t272.length co10)) (fun _ h_ => h_.1)))); (case side4 => exact (Kd.R_reads' HO274.out).2.1); (case side5 => refine (Kd.R_reads' (e := 74) (base := w.heap.size) (ok := fun k_ => True) (n := t272.length) (c := co10) ?_).2.2; exact (by (with_reducible repeat (first | apply Kd.R_alloc | apply Kd.R_drewN | apply Kd.R_drew)); exact (Kd.R_mono (Kd.R_far (p := ⟨gb275, 0, none⟩) (Kd.R_types HO274.out BK275.out (by decide)) (fun _ hk => hk.2) (.slice Ao10 t272.length co10)) (fun _ h_ => h_.1)))); (case side6 => exact (Kd.R_reads' HO274.out).2.1); (case side7 => exact (blk_cell (g := gb275) (t := 93) (cs := #[.slice Ao10 t272.length co10]) (by (with_reducible repeat (first | refine blk_drewN ?_ _ | refine blk_drew ?_ | refine blk_alloc ?_ _)); refine blk_put (cs := #[.slice none 0 0]) ?_ 0 _ rfl; (with_reducible repeat (first | refine blk_drewN ?_ _ | refine blk_drew ?_ | refine blk_alloc ?_ _)); exact BK275.out) 0).trans rfl); rintro e w15 ⟨v277, rfl, ho0, hb⟩; refine ⟨_, rfl, ?_⟩; have n0_ := Aside0.mk (Kd.R_below (by (with_reducible repeat (first | apply Kd.R_alloc | apply Kd.R_drewN | apply Kd.R_drew)); exact (Kd.R_mono (Kd.R_far (p := ⟨gb275, 0, none⟩) (Kd.R_types HO274.out BK275.out (by decide)) (fun _ hk => hk.2) (.slice Ao10 t272.length co10)) (fun _ h_ => h_.1))) hb); have n1_ := Aside0.mk (Kd.R_lower ho0 (below_size (by repeat (first | (with_reducible first | exact HB.out | apply below_alloc | apply pw_below_drewN | apply below_drew1 | refine below_set ?_ GE270.out | refine below_set ?_ GE271.out | refine below_set ?_ GE275.out) | exact HB.out)))); have n2_ := Aside0.mk (blk_below (g := gb270) (o := .cells #[.slice A0_0 l0_0.length c0_0] 24 (0, 0)) (by (with_reducible repeat (first | refine blk_drewN ?_ _ | refine blk_drew ?_ | refine blk_alloc ?_ _)); refine blk_far ?_ NB270_275.out _; (with_reducible repeat (first | refine blk_drewN ?_ _ | refine blk_drew ?_ | refine blk_alloc ?_ _)); exact BK270.out) hb); have n3_ := Aside0.mk (blk_below (g := gb271) (o := .cells #[.slice none 0 0] 24 (0, 0)) (by (with_reducible repeat (first | refine blk_drewN ?_ _ | refine blk_drew ?_ | refine blk_alloc ?_ _)); refine blk_far ?_ NB271_275.out _; (with_reducible repeat (first | refine blk_drewN ?_ _ | refine blk_drew ?_ | refine blk_alloc ?_ _)); exact BK271.out) hb); have n4_ := Aside0.mk (blk_below (g := gb275) (o := .cells #[.slice Ao10 t272.length co10] 93 (0, 0)) (by (with_reducible repeat (first | refine blk_drewN ?_ _ | refine blk_drew ?_ | refine blk_alloc ?_ _)); refine blk_put (cs := #[.slice none 0 0]) ?_ 0 _ rfl; (with_reducible repeat (first | refine blk_drewN ?_ _ | refine blk_drew ?_ | refine blk_alloc ?_ _)); exact BK275.out) hb); have n5_ := Aside0.mk (below_step (by repeat (first | (with_reducible first | exact HB.out | apply below_alloc | apply pw_below_drewN | apply below_drew1 | refine below_set ?_ GE270.out | refine below_set ?_ GE271.out | refine below_set ?_ GE275.out) | exact HB.out)) hb); clear HO274; clear BK270; clear BK271; clear BK275; clear HB; have HO274 := n0_; have HO278 := n1_; have BK270 := n2_; have BK271 := n3_; have BK275 := n4_; have HB := n5_; clear n0_ n1_ n2_ n3_ n4_ n5_; (try clear hb); (try clear hb2); (try clear hk); (try clear hi); (try clear ho0); obtain ⟨Ao16, co16, eo16⟩ := Kd.R_slice HO278.out; subst eo16; have hcz17_0 : w15.cell? ⟨gb271, 0, none⟩ = some (.slice none 0 0) := (blk_cell BK271.out 0).trans rfl; have hfz17_0 := blk_frozen BK271.out 0))
  refine bodyPost_ret (results_cell_row rfl _ _ gb271 24 #[.slice Ao16 t276.length co16] (0, 0) _ rfl (by (with_reducible repeat (first | refine blk_drewN ?_ _ | refine blk_drew ?_ | refine blk_alloc ?_ _)); refine blk_put (cs := #[.slice none 0 0]) ?_ 0 _ rfl; (with_reducible repeat (first | refine blk_drewN ?_ _ | refine blk_drew ?_ | refine blk_alloc ?_ _)); exact BK271.out) Try.underlying24 rfl (by kernel_rfl)) rfl ?_
  exact ⟨_, by first | rfl | (simp [errW_none, errW_some] <;> rfl) | (simp [*, errW_none, errW_some] <;> rfl), by (with_reducible repeat (first | apply Kd.R_alloc | apply Kd.R_drewN | apply Kd.R_drew)); exact Kd.R_mono (Kd.R_far (p := ⟨gb271, 0, none⟩) (Kd.R_types HO278.out BK271.out (by decide)) (fun _ hk => hk.2) (.slice Ao16 t276.length co16)) (fun _ hk => trivial), by repeat (first | (with_reducible first | exact HB.out | apply below_alloc | apply pw_below_drewN | apply below_drew1 | refine below_set ?_ GE270.out | refine below_set ?_ GE271.out | refine below_set ?_ GE275.out) | exact HB.out)⟩

/-! ### impl_ReachedTree: function 33 -/
def impl_ReachedTree.f (k : Nat) (l0_0 : List (S77)) : Option ((List (S77)) × Int) := (impl_ValidTree.f k l0_0).bind fun t281 => (if t281 = true then ((impl_Tree_reachedOnly.f k l0_0).bind fun t282 => (some (t282, 0))) else (some (([] : List (S77)), 1)))
theorem impl_ReachedTree.mono : ∀ a0 k, LeO (impl_ReachedTree.f k a0) (impl_ReachedTree.f (k + 1) a0) := by
  intro a0 k
  unfold impl_ReachedTree.f
  repeat' first
      | (with_reducible exact impl_Tree_reachedOnly.mono _ _)
      | (with_reducible exact impl_ValidTree.mono _ _)
      | (with_reducible exact LeO.refl _)
      | (with_reducible exact LeO.none _)
      | (with_reducible refine LeO.ite ?_ ?_)
      | (with_reducible refine LeO.bind ?_ (fun _ => ?_))
      | exact impl_Tree_reachedOnly.mono _ _
      | exact impl_ValidTree.mono _ _
      | exact LeO.none _
      | refine LeO.ite ?_ ?_
      | refine LeO.bind ?_ (fun _ => ?_)
set_option maxHeartbeats 8000000 in
set_option maxRecDepth 100000 in
theorem impl_ReachedTree.calls (k : Nat) (A0_0 : Option Addr) (c0_0 : Nat) (l0_0 : List (S77)) (r1 : List (S77)) (r2 : Int) (w : World) (hr0_0 : Kd.C k77 w A0_0 l0_0.length l0_0) (hc0_0 : l0_0.length ≤ c0_0) (h : impl_ReachedTree.f k l0_0 = some (r1, r2)) :
    Calls Try.prog 33 #[.agg #[.slice A0_0 l0_0.length c0_0]] w fun e w' => ∃ v0_ : Value, e = .returned (.tuple #[.agg #[v0_], .int .i64 r2]) ∧ Kd.R k77 77 w' w.heap.size (fun _ => True) v0_ r1 ∧ Below w.heap.size w w' := by
  have hu24 := Try.underlying24
  have HR0_0 := Aside0.mk hr0_0
  have HC0_0 := Aside0.mk hc0_0
  clear hr0_0 hc0_0
  have HB := Aside0.mk (Below.refl w.heap.size w)
  have H : ((impl_ValidTree.f k l0_0).bind fun t281 => (if t281 = true then ((impl_Tree_reachedOnly.f k l0_0).bind fun t282 => (some (t282, 0))) else (some (([] : List (S77)), 1)))) = some (r1, r2) := h
  clear h
  replace H := Option.bind_eq_some_iff.mp H
  obtain ⟨t281, A20, H⟩ := H
  replace H : (if t281 = true then ((impl_Tree_reachedOnly.f k l0_0).bind fun t282 => (some (t282, 0))) else (some (([] : List (S77)), 1))) = some (r1, r2) := H
  have A2 := Aside0.mk A20
  clear A20
  by_cases c3 : t281 = true
  · subst c3
    have H1 : ((impl_Tree_reachedOnly.f k l0_0).bind fun t282 => (some (t282, 0))) = some (r1, r2) := by rw [if_pos rfl] at H; exact H
    clear H
    have H := H1
    clear H1
    replace H := Option.bind_eq_some_iff.mp H
    obtain ⟨t282, A40, H⟩ := H
    replace H : (some (t282, 0)) = some (r1, r2) := H
    have A4 := Aside0.mk A40
    clear A40
    simp only [Option.some.injEq, Prod.mk.injEq] at H
    obtain ⟨rfl, rfl⟩ := H
    go_enter Try.func33, Try.ntmps33
    go_wp2_with (first | ((with_reducible refine gate_dst (N := 1) rfl ?_); refine box_event ?hg (N := 1) ?hd (cs := #[.slice A0_0 l0_0.length c0_0]) (t := 24) ?hr ?_; (case hd => rfl); (case hg => rfl); (case hr => first | (go_simp; done) | (go_simp; rfl)); intro gb279 hg w5 hbox hb; have n0_ := Aside0.mk (below_step (by repeat (first | (with_reducible first | exact HB.out | apply below_alloc | apply pw_below_drewN | apply below_drew1) | exact HB.out)) hb); have n1_ := Aside0.mk (hbox); have n2_ := Aside0.mk ((by rw [hg]; exact (below_size (by repeat (first | (with_reducible first | exact HB.out | apply below_alloc | apply pw_below_drewN | apply below_drew1) | exact HB.out))) : w.heap.size ≤ gb279)); have n3_ := Aside0.mk ((by rw [hg]; exact (below_size (by repeat (first | (with_reducible first | exact HB.out | apply below_alloc | apply pw_below_drewN | apply below_drew1) | exact HB.out))) : w.heap.size ≤ gb279)); clear HB; have HB := n0_; have BK279 := n1_; have GW279 := n2_; have GE279 := n3_; clear n0_ n1_ n2_ n3_; clear hb hbox hg) | ((with_reducible refine gate_dst (N := 2) rfl ?_); refine box_event ?hg (N := 2) ?hd (cs := #[.slice none 0 0]) (t := 24) ?hr ?_; (case hd => rfl); (case hg => rfl); (case hr => first | (go_simp; done) | (go_simp; rfl)); intro gb280 hg w6 hbox hb; have n0_ := Aside0.mk (blk_below (g := gb279) (o := .cells #[.slice A0_0 l0_0.length c0_0] 24 (0, 0)) (by (with_reducible repeat (first | refine blk_drewN ?_ _ | refine blk_drew ?_ | refine blk_alloc ?_ _)); exact BK279.out) hb); have n1_ := Aside0.mk (below_step (by repeat (first | (with_reducible first | exact HB.out | apply below_alloc | apply pw_below_drewN | apply below_drew1 | refine below_set ?_ GE279.out) | exact HB.out)) hb); have n2_ := Aside0.mk (hbox); have n3_ := Aside0.mk ((by rw [hg]; exact (below_size (by repeat (first | (with_reducible first | exact HB.out | apply below_alloc | apply pw_below_drewN | apply below_drew1 | refine below_set ?_ GE279.out) | exact HB.out))) : w.heap.size ≤ gb280)); have n4_ := Aside0.mk ((by rw [hg]; exact (below_size (by repeat (first | (with_reducible first | exact HB.out | apply below_alloc | apply pw_below_drewN | apply below_drew1 | refine below_set ?_ GE279.out) | exact HB.out))) : w.heap.size ≤ gb280)); have n5_ := Aside0.mk ((by rw [hg]; exact Nat.ne_of_lt (blk_lt (g := gb279) (o := .cells #[.slice A0_0 l0_0.length c0_0] 24 (0, 0)) (by (with_reducible repeat (first | refine blk_drewN ?_ _ | refine blk_drew ?_ | refine blk_alloc ?_ _)); exact BK279.out)) : gb279 ≠ gb280)); have n6_ := Aside0.mk ((by rw [hg]; exact Nat.ne_of_gt (blk_lt (g := gb279) (o := .cells #[.slice A0_0 l0_0.length c0_0] 24 (0, 0)) (by (with_reducible repeat (first | refine blk_drewN ?_ _ | refine blk_drew ?_ | refine blk_alloc ?_ _)); exact BK279.out)) : gb280 ≠ gb279)); clear BK279; clear HB; have BK279 := n0_; have HB := n1_; have BK280 := n2_; have GW280 := n3_; have GE280 := n4_; have NB279_280 := n5_; have NB280_279 := n6_; clear n0_ n1_ n2_ n3_ n4_ n5_ n6_; clear hb hbox hg; have hnb7 := NB279_280.out; have hnc7 := NB280_279.out; have hcz8_0 : w6.cell? ⟨gb279, 0, none⟩ = some (.slice A0_0 l0_0.length c0_0) := (blk_cell BK279.out 0).trans rfl; have hfz8_0 := blk_frozen BK279.out 0) | ((with_reducible refine gate_callee (f := 29) rfl ?_); refine goesL_ (some 5) rfl rfl Try.func29 (by kernel_rfl) rfl #[.agg #[.slice A0_0 l0_0.length c0_0]] rfl (by (try simp only [List.map_toArray, List.map_cons, List.map_nil]); first | done | rfl | (simp only [List.length_drop, List.length_take]; rfl)) ?_; (with_reducible refine (impl_ValidTree.calls k _ _ l0_0 true _ ?side1 ?side2 A2.out).mono ?_); (case side1 => repeat (first | exact (Kd.C_below HR0_0.out HB.out) | (with_reducible refine Kd.C_alloc ?_ _) | (with_reducible refine Kd.C_drewN ?_ _) | (with_reducible refine Kd.C_drew ?_))); (case side2 => exact HC0_0.out); rintro e w9 ⟨rfl, hb⟩; refine ⟨_, rfl, ?_⟩; have n0_ := Aside0.mk (blk_below (g := gb279) (o := .cells #[.slice A0_0 l0_0.length c0_0] 24 (0, 0)) (by (with_reducible repeat (first | refine blk_drewN ?_ _ | refine blk_drew ?_ | refine blk_alloc ?_ _)); exact BK279.out) hb); have n1_ := Aside0.mk (blk_below (g := gb280) (o := .cells #[.slice none 0 0] 24 (0, 0)) (by (with_reducible repeat (first | refine blk_drewN ?_ _ | refine blk_drew ?_ | refine blk_alloc ?_ _)); exact BK280.out) hb); have n2_ := Aside0.mk (below_step (by repeat (first | (with_reducible first | exact HB.out | apply below_alloc | apply pw_below_drewN | apply below_drew1 | refine below_set ?_ GE279.out | refine below_set ?_ GE280.out) | exact HB.out)) hb); clear BK279; clear BK280; clear HB; have BK279 := n0_; have BK280 := n1_; have HB := n2_; clear n0_ n1_ n2_; (try clear hb); (try clear hb2); (try clear hk); (try clear hi); have hcz10_0 : w9.cell? ⟨gb279, 0, none⟩ = some (.slice A0_0 l0_0.length c0_0) := (blk_cell BK279.out 0).trans rfl; have hfz10_0 := blk_frozen BK279.out 0) | ((with_reducible refine gate_callee (f := 72) rfl ?_); refine goesL_ (some 9) rfl rfl Try.func72 (by kernel_rfl) rfl #[.agg #[.slice A0_0 l0_0.length c0_0]] rfl (by (try simp only [List.map_toArray, List.map_cons, List.map_nil]); first | done | rfl | (simp only [List.length_drop, List.length_take]; rfl)) ?_; (with_reducible refine (impl_Tree_reachedOnly.calls k _ _ l0_0 t282 _ ?side1 ?side2 A4.out).mono ?_); (case side1 => repeat (first | exact (Kd.C_below HR0_0.out HB.out) | (with_reducible refine Kd.C_alloc ?_ _) | (with_reducible refine Kd.C_drewN ?_ _) | (with_reducible refine Kd.C_drew ?_))); (case side2 => exact HC0_0.out); rintro e w11 ⟨v283, rfl, ho0, hb⟩; refine ⟨_, rfl, ?_⟩; have n0_ := Aside0.mk (Kd.R_lower ho0 (below_size (by repeat (first | (with_reducible first | exact HB.out | apply below_alloc | apply pw_below_drewN | apply below_drew1 | refine below_set ?_ GE279.out | refine below_set ?_ GE280.out) | exact HB.out)))); have n1_ := Aside0.mk (blk_below (g := gb279) (o := .cells #[.slice A0_0 l0_0.length c0_0] 24 (0, 0)) (by (with_reducible repeat (first | refine blk_drewN ?_ _ | refine blk_drew ?_ | refine blk_alloc ?_ _)); exact BK279.out) hb); have n2_ := Aside0.mk (blk_below (g := gb280) (o := .cells #[.slice none 0 0] 24 (0, 0)) (by (with_reducible repeat (first | refine blk_drewN ?_ _ | refine blk_drew ?_ | refine blk_alloc ?_ _)); exact BK280.out) hb); have n3_ := Aside0.mk (below_step (by repeat (first | (with_reducible first | exact HB.out | apply below_alloc | apply pw_below_drewN | apply below_drew1 | refine below_set ?_ GE279.out | refine below_set ?_ GE280.out) | exact HB.out)) hb); clear BK279; clear BK280; clear HB; have HO284 := n0_; have BK279 := n1_; have BK280 := n2_; have HB := n3_; clear n0_ n1_ n2_ n3_; (try clear hb); (try clear hb2); (try clear hk); (try clear hi); (try clear ho0); obtain ⟨Ao12, co12, eo12⟩ := Kd.R_slice HO284.out; subst eo12; have hcz13_0 : w11.cell? ⟨gb280, 0, none⟩ = some (.slice none 0 0) := (blk_cell BK280.out 0).trans rfl; have hfz13_0 := blk_frozen BK280.out 0))
    refine bodyPost_ret (results_ct rfl _ _ gb280 24 #[.slice Ao12 t282.length co12] (0, 0) _ rfl (by (with_reducible repeat (first | refine blk_drewN ?_ _ | refine blk_drew ?_ | refine blk_alloc ?_ _)); refine blk_put (cs := #[.slice none 0 0]) ?_ 0 _ rfl; (with_reducible repeat (first | refine blk_drewN ?_ _ | refine blk_drew ?_ | refine blk_alloc ?_ _)); exact BK280.out) Try.underlying24 rfl (by kernel_rfl)) rfl ?_
    exact ⟨_, by first | rfl | (simp [errW_none, errW_some] <;> rfl) | (simp [*, errW_none, errW_some] <;> rfl), by (with_reducible repeat (first | apply Kd.R_alloc | apply Kd.R_drewN | apply Kd.R_drew)); exact Kd.R_mono (Kd.R_far (p := ⟨gb280, 0, none⟩) (Kd.R_types HO284.out BK280.out (by decide)) (fun _ hk => hk.2) (.slice Ao12 t282.length co12)) (fun _ hk => trivial), by repeat (first | (with_reducible first | exact HB.out | apply below_alloc | apply pw_below_drewN | apply below_drew1 | refine below_set ?_ GE279.out | refine below_set ?_ GE280.out) | exact HB.out)⟩
  · replace c3 := Bool.eq_false_iff.mpr c3
    subst c3
    have H1 : (some (([] : List (S77)), 1)) = some (r1, r2) := by rw [if_neg (show ¬ (false = true) by decide)] at H; exact H
    clear H
    have H := H1
    clear H1
    simp only [Option.some.injEq, Prod.mk.injEq] at H
    obtain ⟨rfl, rfl⟩ := H
    go_enter Try.func33, Try.ntmps33
    go_wp2_with (first | ((with_reducible refine gate_dst (N := 1) rfl ?_); refine box_event ?hg (N := 1) ?hd (cs := #[.slice A0_0 l0_0.length c0_0]) (t := 24) ?hr ?_; (case hd => rfl); (case hg => rfl); (case hr => first | (go_simp; done) | (go_simp; rfl)); intro gb279 hg w14 hbox hb; have n0_ := Aside0.mk (below_step (by repeat (first | (with_reducible first | exact HB.out | apply below_alloc | apply pw_below_drewN | apply below_drew1) | exact HB.out)) hb); have n1_ := Aside0.mk (hbox); have n2_ := Aside0.mk ((by rw [hg]; exact (below_size (by repeat (first | (with_reducible first | exact HB.out | apply below_alloc | apply pw_below_drewN | apply below_drew1) | exact HB.out))) : w.heap.size ≤ gb279)); have n3_ := Aside0.mk ((by rw [hg]; exact (below_size (by repeat (first | (with_reducible first | exact HB.out | apply below_alloc | apply pw_below_drewN | apply below_drew1) | exact HB.out))) : w.heap.size ≤ gb279)); clear HB; have HB := n0_; have BK279 := n1_; have GW279 := n2_; have GE279 := n3_; clear n0_ n1_ n2_ n3_; clear hb hbox hg) | ((with_reducible refine gate_dst (N := 2) rfl ?_); refine box_event ?hg (N := 2) ?hd (cs := #[.slice none 0 0]) (t := 24) ?hr ?_; (case hd => rfl); (case hg => rfl); (case hr => first | (go_simp; done) | (go_simp; rfl)); intro gb280 hg w15 hbox hb; have n0_ := Aside0.mk (blk_below (g := gb279) (o := .cells #[.slice A0_0 l0_0.length c0_0] 24 (0, 0)) (by (with_reducible repeat (first | refine blk_drewN ?_ _ | refine blk_drew ?_ | refine blk_alloc ?_ _)); exact BK279.out) hb); have n1_ := Aside0.mk (below_step (by repeat (first | (with_reducible first | exact HB.out | apply below_alloc | apply pw_below_drewN | apply below_drew1 | refine below_set ?_ GE279.out) | exact HB.out)) hb); have n2_ := Aside0.mk (hbox); have n3_ := Aside0.mk ((by rw [hg]; exact (below_size (by repeat (first | (with_reducible first | exact HB.out | apply below_alloc | apply pw_below_drewN | apply below_drew1 | refine below_set ?_ GE279.out) | exact HB.out))) : w.heap.size ≤ gb280)); have n4_ := Aside0.mk ((by rw [hg]; exact (below_size (by repeat (first | (with_reducible first | exact HB.out | apply below_alloc | apply pw_below_drewN | apply below_drew1 | refine below_set ?_ GE279.out) | exact HB.out))) : w.heap.size ≤ gb280)); have n5_ := Aside0.mk ((by rw [hg]; exact Nat.ne_of_lt (blk_lt (g := gb279) (o := .cells #[.slice A0_0 l0_0.length c0_0] 24 (0, 0)) (by (with_reducible repeat (first | refine blk_drewN ?_ _ | refine blk_drew ?_ | refine blk_alloc ?_ _)); exact BK279.out)) : gb279 ≠ gb280)); have n6_ := Aside0.mk ((by rw [hg]; exact Nat.ne_of_gt (blk_lt (g := gb279) (o := .cells #[.slice A0_0 l0_0.length c0_0] 24 (0, 0)) (by (with_reducible repeat (first | refine blk_drewN ?_ _ | refine blk_drew ?_ | refine blk_alloc ?_ _)); exact BK279.out)) : gb280 ≠ gb279)); clear BK279; clear HB; have BK279 := n0_; have HB := n1_; have BK280 := n2_; have GW280 := n3_; have GE280 := n4_; have NB279_280 := n5_; have NB280_279 := n6_; clear n0_ n1_ n2_ n3_ n4_ n5_ n6_; clear hb hbox hg; have hnb16 := NB279_280.out; have hnc16 := NB280_279.out; have hcz17_0 : w15.cell? ⟨gb279, 0, none⟩ = some (.slice A0_0 l0_0.length c0_0) := (blk_cell BK279.out 0).trans rfl; have hfz17_0 := blk_frozen BK279.out 0) | ((with_reducible refine gate_callee (f := 29) rfl ?_); refine goesL_ (some 5) rfl rfl Try.func29 (by kernel_rfl) rfl #[.agg #[.slice A0_0 l0_0.length c0_0]] rfl (by (try simp only [List.map_toArray, List.map_cons, List.map_nil]); first | done | rfl | (simp only [List.length_drop, List.length_take]; rfl)) ?_; (with_reducible refine (impl_ValidTree.calls k _ _ l0_0 false _ ?side1 ?side2 A2.out).mono ?_); (case side1 => repeat (first | exact (Kd.C_below HR0_0.out HB.out) | (with_reducible refine Kd.C_alloc ?_ _) | (with_reducible refine Kd.C_drewN ?_ _) | (with_reducible refine Kd.C_drew ?_))); (case side2 => exact HC0_0.out); rintro e w18 ⟨rfl, hb⟩; refine ⟨_, rfl, ?_⟩; have n0_ := Aside0.mk (blk_below (g := gb279) (o := .cells #[.slice A0_0 l0_0.length c0_0] 24 (0, 0)) (by (with_reducible repeat (first | refine blk_drewN ?_ _ | refine blk_drew ?_ | refine blk_alloc ?_ _)); exact BK279.out) hb); have n1_ := Aside0.mk (blk_below (g := gb280) (o := .cells #[.slice none 0 0] 24 (0, 0)) (by (with_reducible repeat (first | refine blk_drewN ?_ _ | refine blk_drew ?_ | refine blk_alloc ?_ _)); exact BK280.out) hb); have n2_ := Aside0.mk (below_step (by repeat (first | (with_reducible first | exact HB.out | apply below_alloc | apply pw_below_drewN | apply below_drew1 | refine below_set ?_ GE279.out | refine below_set ?_ GE280.out) | exact HB.out)) hb); clear BK279; clear BK280; clear HB; have BK279 := n0_; have BK280 := n1_; have HB := n2_; clear n0_ n1_ n2_; (try clear hb); (try clear hb2); (try clear hk); (try clear hi); have hcz19_0 : w18.cell? ⟨gb280, 0, none⟩ = some (.slice none 0 0) := (blk_cell BK280.out 0).trans rfl; have hfz19_0 := blk_frozen BK280.out 0))
    refine bodyPost_ret (results_ct rfl _ _ gb280 24 #[.slice none 0 0] (0, 0) _ rfl (by (with_reducible repeat (first | refine blk_drewN ?_ _ | refine blk_drew ?_ | refine blk_alloc ?_ _)); refine blk_put (cs := #[.slice none 0 0]) ?_ 0 _ rfl; (with_reducible repeat (first | refine blk_drewN ?_ _ | refine blk_drew ?_ | refine blk_alloc ?_ _)); exact BK280.out) Try.underlying24 rfl (by kernel_rfl)) rfl ?_
    exact ⟨_, by first | rfl | (simp [errW_none, errW_some] <;> rfl) | (simp [*, errW_none, errW_some] <;> rfl), by first | exact Kd.R_nil _ _ _ _ _ | exact Kd.N_nil _ _ _ _ _ | exact Kd.V_nil _ _ _ _ _ | exact Kd.Q_nil _ _ _ _ _ | exact Kd.S_nil _ _ _ _ _, by repeat (first | (with_reducible first | exact HB.out | apply below_alloc | apply pw_below_drewN | apply below_drew1 | refine below_set ?_ GE279.out | refine below_set ?_ GE280.out) | exact HB.out)⟩

end Go.Proofs.Ytlccefmimpmgjaa.MFnExactReachedTree
