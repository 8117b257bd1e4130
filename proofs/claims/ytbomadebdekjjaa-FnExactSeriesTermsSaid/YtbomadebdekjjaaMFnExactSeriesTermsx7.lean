/- Functions of the program as Lean functions, and the proof that the code comes to what they say. Written by a program of this session (myprint.py). -/
import Derived.Test.YtbomadebdekjjaaMFnExactSeriesTermsx0
import Derived.Test.YtbomadebdekjjaaMFnExactSeriesTermsx2
import Derived.Test.YtbomadebdekjjaaMFnExactSeriesTermsx4
import Derived.Test.YtbomadebdekjjaaMFnExactSeriesTermsx6
namespace Go.Proofs.Ytbomadebdekjjaa.MFnExactSeriesTerms
open Go.RowKit Go.Proofs.Ytbomadebdekjjaa.MOpen Go.Proofs.YtbomadebdekjjaaW.PrintWords Go.Proofs.YtbomadebdekjjaaW.PrintLast Go.Proofs.YtbomadebdekjjaaW.PrintMore
attribute [local go_sem] max2_int min2_int max_two min_two max_three min_three max_four min_four   -- for this text's walks alone
set_option linter.unusedVariables false
set_option linter.unusedSimpArgs false

attribute [local go_sem high] eqA111
/-! ### spec_SeriesTerms: function 21 -/
def spec_SeriesTerms.f (k : Nat) (a0 : S40) (a1 : Int) : Option (Int × Int) := (spec_l05Limited.f a0 a1).bind fun t203 => (if t203 = 0 then ((spec_l05Sum.f k a0 a1).bind fun bt204 => (some (bt204.2, 0))) else (some (0, t203)))
theorem spec_SeriesTerms.mono : ∀ a0 a1 k, LeO (spec_SeriesTerms.f k a0 a1) (spec_SeriesTerms.f (k + 1) a0 a1) := by
  intro a0 a1 k
  unfold spec_SeriesTerms.f
  repeat' first
      | (with_reducible exact spec_l05Sum.mono _ _ _)
      | (with_reducible exact LeO.refl _)
      | (with_reducible exact LeO.none _)
      | (with_reducible refine LeO.ite ?_ ?_)
      | (with_reducible refine LeO.bind ?_ (fun _ => ?_))
      | exact spec_l05Sum.mono _ _ _
      | exact LeO.none _
      | refine LeO.ite ?_ ?_
      | refine LeO.bind ?_ (fun _ => ?_)
set_option maxHeartbeats 8000000 in
set_option maxRecDepth 100000 in
theorem spec_SeriesTerms.calls (k : Nat) (a0 : S40) (a1 : Int) (r1 : Int) (r2 : Int) (w : World) (h : spec_SeriesTerms.f k a0 a1 = some (r1, r2)) :
    Calls Try.prog 21 #[.agg #[.int .i64 a0.f0, .int .i64 a0.f1, .int .i64 a0.f2, .int .i64 a0.f3, .bool a0.f4], .int .i64 a1] w fun e w' => e = .returned (.tuple #[.int .i64 r1, .int .i64 r2]) ∧ Below w.heap.size w w' := by
  have hu44 := Try.underlying44
  have hu25 := Try.underlying25
  have HB := Aside0.mk (Below.refl w.heap.size w)
  have H : ((spec_l05Limited.f a0 a1).bind fun t203 => (if t203 = 0 then ((spec_l05Sum.f k a0 a1).bind fun bt204 => (some (bt204.2, 0))) else (some (0, t203)))) = some (r1, r2) := h
  clear h
  replace H := Option.bind_eq_some_iff.mp H
  obtain ⟨t203, A30, H⟩ := H
  replace H : (if t203 = 0 then ((spec_l05Sum.f k a0 a1).bind fun bt204 => (some (bt204.2, 0))) else (some (0, t203))) = some (r1, r2) := H
  have A3 := Aside0.mk A30
  clear A30
  by_cases c4 : t203 = 0
  · rw [if_pos c4] at H
    have c4b0 : (t203 == 0) = true := beq_iff_eq.mpr c4
    have c4b1 : (t203 != 0) = false := bne_eq_false_iff_eq.mpr c4
    clear c4
    replace H := Option.bind_eq_some_iff.mp H
    obtain ⟨⟨t204, t205⟩, A50, H⟩ := H
    replace H : (some (t205, 0)) = some (r1, r2) := H
    have A5 := Aside0.mk A50
    clear A50
    simp only [Option.some.injEq, Prod.mk.injEq] at H
    obtain ⟨rfl, rfl⟩ := H
    go_enter Try.func21, Try.ntmps21
    go_wp2_with (first | ((with_reducible refine gate_dst (N := 2) rfl ?_); refine box_event ?hg (N := 2) ?hd (cs := #[.int .i64 a0.f0, .int .i64 a0.f1, .int .i64 a0.f2, .int .i64 a0.f3, .bool a0.f4]) (t := 44) ?hr ?_; (case hd => rfl); (case hg => rfl); (case hr => first | (go_simp; done) | (go_simp; rfl)); intro gb202 hg w6 hbox hb; have n0_ := Aside0.mk (below_step (by repeat (first | (with_reducible first | exact HB.out | apply below_alloc | apply pw_below_drewN | apply below_drew1) | exact HB.out)) hb); have n1_ := Aside0.mk (hbox); have n2_ := Aside0.mk ((by rw [hg]; exact (below_size (by repeat (first | (with_reducible first | exact HB.out | apply below_alloc | apply pw_below_drewN | apply below_drew1) | exact HB.out))) : w.heap.size ≤ gb202)); have n3_ := Aside0.mk ((by rw [hg]; exact (below_size (by repeat (first | (with_reducible first | exact HB.out | apply below_alloc | apply pw_below_drewN | apply below_drew1) | exact HB.out))) : w.heap.size ≤ gb202)); clear HB; have HB := n0_; have BK202 := n1_; have GW202 := n2_; have GE202 := n3_; clear n0_ n1_ n2_ n3_; clear hb hbox hg) | ((with_reducible refine gate_callee (f := 63) rfl ?_); refine goesL_ (some 10) rfl rfl Try.func63 (by kernel_rfl) rfl #[.pointer (some ⟨gb202, 0, none⟩), .int .i64 a1] rfl (by (try simp only [List.map_toArray, List.map_cons, List.map_nil]); first | done | rfl | (simp only [List.length_drop, List.length_take]; rfl) | (simp only [List.drop_one]; done) | (simp only [List.drop_one]; rfl)) ?_; (with_reducible refine (spec_l05Limited.calls gb202 0 a0 a1 t203 _ ?side1 A3.out).mono ?_); (case side1 => exact ⟨(blk_cell (g := gb202) (t := 44) (cs := #[.int .i64 a0.f0, .int .i64 a0.f1, .int .i64 a0.f2, .int .i64 a0.f3, .bool a0.f4]) (by (with_reducible repeat (first | refine blk_drewN ?_ _ | refine blk_drew ?_ | refine blk_alloc ?_ _)); exact BK202.out) 0).trans rfl, (blk_cell (g := gb202) (t := 44) (cs := #[.int .i64 a0.f0, .int .i64 a0.f1, .int .i64 a0.f2, .int .i64 a0.f3, .bool a0.f4]) (by (with_reducible repeat (first | refine blk_drewN ?_ _ | refine blk_drew ?_ | refine blk_alloc ?_ _)); exact BK202.out) 1).trans rfl, (blk_cell (g := gb202) (t := 44) (cs := #[.int .i64 a0.f0, .int .i64 a0.f1, .int .i64 a0.f2, .int .i64 a0.f3, .bool a0.f4]) (by (with_reducible repeat (first | refine blk_drewN ?_ _ | refine blk_drew ?_ | refine blk_alloc ?_ _)); exact BK202.out) 2).trans rfl, (blk_cell (g := gb202) (t := 44) (cs := #[.int .i64 a0.f0, .int .i64 a0.f1, .int .i64 a0.f2, .int .i64 a0.f3, .bool a0.f4]) (by (with_reducible repeat (first | refine blk_drewN ?_ _ | refine blk_drew ?_ | refine blk_alloc ?_ _)); exact BK202.out) 3).trans rfl, (blk_cell (g := gb202) (t := 44) (cs := #[.int .i64 a0.f0, .int .i64 a0.f1, .int .i64 a0.f2, .int .i64 a0.f3, .bool a0.f4]) (by (with_reducible repeat (first | refine blk_drewN ?_ _ | refine blk_drew ?_ | refine blk_alloc ?_ _)); exact BK202.out) 4).trans rfl⟩); rintro e w' ⟨rfl, ⟨nd, rfl⟩⟩; refine ⟨_, rfl, ?_⟩; (try (rw [drewN_self w6]; generalize hq_ : World.drewN w6 _ = w6; have n0_ : Aside0 (w6.heap[gb202]? = some (.cells #[.int .i64 a0.f0, .int .i64 a0.f1, .int .i64 a0.f2, .int .i64 a0.f3, .bool a0.f4] 44 (0, 0))) := ⟨by rw [← hq_]; exact (by (with_reducible repeat (first | refine blk_drewN ?_ _ | refine blk_drew ?_ | refine blk_alloc ?_ _)); exact BK202.out)⟩; have n1_ : Aside0 (Below w.heap.size w w6) := ⟨by rw [← hq_]; exact (by repeat (first | (with_reducible first | exact HB.out | apply below_alloc | apply pw_below_drewN | apply below_drew1 | refine below_set ?_ GE202.out) | exact HB.out))⟩; clear BK202 HB hq_; have BK202 := n0_; have HB := n1_; clear n0_ n1_))) | ((with_reducible refine gate_callee (f := 64) rfl ?_); refine goesL_ (some 16) rfl rfl Try.func64 (by kernel_rfl) rfl #[.pointer (some ⟨gb202, 0, none⟩), .int .i64 a1] rfl (by (try simp only [List.map_toArray, List.map_cons, List.map_nil]); first | done | rfl | (simp only [List.length_drop, List.length_take]; rfl) | (simp only [List.drop_one]; done) | (simp only [List.drop_one]; rfl)) ?_; (with_reducible refine (spec_l05Sum.calls k gb202 0 a0 a1 t204 t205 _ ?side1 A5.out).mono ?_); (case side1 => exact ⟨(blk_cell (g := gb202) (t := 44) (cs := #[.int .i64 a0.f0, .int .i64 a0.f1, .int .i64 a0.f2, .int .i64 a0.f3, .bool a0.f4]) (by (with_reducible repeat (first | refine blk_drewN ?_ _ | refine blk_drew ?_ | refine blk_alloc ?_ _)); exact BK202.out) 0).trans rfl, (blk_cell (g := gb202) (t := 44) (cs := #[.int .i64 a0.f0, .int .i64 a0.f1, .int .i64 a0.f2, .int .i64 a0.f3, .bool a0.f4]) (by (with_reducible repeat (first | refine blk_drewN ?_ _ | refine blk_drew ?_ | refine blk_alloc ?_ _)); exact BK202.out) 1).trans rfl, (blk_cell (g := gb202) (t := 44) (cs := #[.int .i64 a0.f0, .int .i64 a0.f1, .int .i64 a0.f2, .int .i64 a0.f3, .bool a0.f4]) (by (with_reducible repeat (first | refine blk_drewN ?_ _ | refine blk_drew ?_ | refine blk_alloc ?_ _)); exact BK202.out) 2).trans rfl, (blk_cell (g := gb202) (t := 44) (cs := #[.int .i64 a0.f0, .int .i64 a0.f1, .int .i64 a0.f2, .int .i64 a0.f3, .bool a0.f4]) (by (with_reducible repeat (first | refine blk_drewN ?_ _ | refine blk_drew ?_ | refine blk_alloc ?_ _)); exact BK202.out) 3).trans rfl, (blk_cell (g := gb202) (t := 44) (cs := #[.int .i64 a0.f0, .int .i64 a0.f1, .int .i64 a0.f2, .int .i64 a0.f3, .bool a0.f4]) (by (with_reducible repeat (first | refine blk_drewN ?_ _ | refine blk_drew ?_ | refine blk_alloc ?_ _)); exact BK202.out) 4).trans rfl⟩); rintro e w7 ⟨rfl, hb⟩; refine ⟨_, rfl, ?_⟩; have n0_ := Aside0.mk (blk_below (g := gb202) (o := .cells #[.int .i64 a0.f0, .int .i64 a0.f1, .int .i64 a0.f2, .int .i64 a0.f3, .bool a0.f4] 44 (0, 0)) (by (with_reducible repeat (first | refine blk_drewN ?_ _ | refine blk_drew ?_ | refine blk_alloc ?_ _)); exact BK202.out) hb); have n1_ := Aside0.mk (below_step (by repeat (first | (with_reducible first | exact HB.out | apply below_alloc | apply pw_below_drewN | apply below_drew1 | refine below_set ?_ GE202.out) | exact HB.out)) hb); clear BK202 HB; have BK202 := n0_; have HB := n1_; clear n0_ n1_; (try clear hb); (try clear hb2); (try clear hk); (try clear hi)) | ((with_reducible refine gate_dst (N := 7) rfl ?_); refine box_event ?hg (N := 7) ?hd (cs := #[.bool false, .int .u32 0, .int .u32 0, .int .u32 0, .int .u32 0, .int .u32 0, .int .u32 0]) (t := 25) ?hr ?_; (case hd => rfl); (case hg => rfl); (case hr => first | (go_simp; done) | (go_simp; rfl)); intro gb206 hg w8 hbox hb; have n0_ := Aside0.mk (blk_below (g := gb202) (o := .cells #[.int .i64 a0.f0, .int .i64 a0.f1, .int .i64 a0.f2, .int .i64 a0.f3, .bool a0.f4] 44 (0, 0)) (by (with_reducible repeat (first | refine blk_drewN ?_ _ | refine blk_drew ?_ | refine blk_alloc ?_ _)); exact BK202.out) hb); have n1_ := Aside0.mk (below_step (by repeat (first | (with_reducible first | exact HB.out | apply below_alloc | apply pw_below_drewN | apply below_drew1 | refine below_set ?_ GE202.out) | exact HB.out)) hb); have n2_ := Aside0.mk (hbox); have n3_ := Aside0.mk ((by rw [hg]; exact (below_size (by repeat (first | (with_reducible first | exact HB.out | apply below_alloc | apply pw_below_drewN | apply below_drew1 | refine below_set ?_ GE202.out) | exact HB.out))) : w.heap.size ≤ gb206)); have n4_ := Aside0.mk ((by rw [hg]; exact (below_size (by repeat (first | (with_reducible first | exact HB.out | apply below_alloc | apply pw_below_drewN | apply below_drew1 | refine below_set ?_ GE202.out) | exact HB.out))) : w.heap.size ≤ gb206)); have n5_ := Aside0.mk ((by rw [hg]; exact Nat.ne_of_lt (blk_lt (g := gb202) (o := .cells #[.int .i64 a0.f0, .int .i64 a0.f1, .int .i64 a0.f2, .int .i64 a0.f3, .bool a0.f4] 44 (0, 0)) (by (with_reducible repeat (first | refine blk_drewN ?_ _ | refine blk_drew ?_ | refine blk_alloc ?_ _)); exact BK202.out)) : gb202 ≠ gb206)); have n6_ := Aside0.mk ((by rw [hg]; exact Nat.ne_of_gt (blk_lt (g := gb202) (o := .cells #[.int .i64 a0.f0, .int .i64 a0.f1, .int .i64 a0.f2, .int .i64 a0.f3, .bool a0.f4] 44 (0, 0)) (by (with_reducible repeat (first | refine blk_drewN ?_ _ | refine blk_drew ?_ | refine blk_alloc ?_ _)); exact BK202.out)) : gb206 ≠ gb202)); clear BK202 HB; have BK202 := n0_; have HB := n1_; have BK206 := n2_; have GW206 := n3_; have GE206 := n4_; have NB202_206 := n5_; have NB206_202 := n6_; clear n0_ n1_ n2_ n3_ n4_ n5_ n6_; clear hb hbox hg; have hnb9 := NB206_202.out; have hnc9 := NB202_206.out; obtain ⟨hcz10_0, hcz10_1, hcz10_2, hcz10_3, hcz10_4, hcz10_5, hcz10_6⟩ := cells7_ (show w8.heap[gb206]? = some (.cells #[.bool false, .int .u32 0, .int .u32 0, .int .u32 0, .int .u32 0, .int .u32 0, .int .u32 0] 25 (0, 0)) from BK206.out); obtain ⟨hfz10_0, hfz10_1, hfz10_2, hfz10_3, hfz10_4, hfz10_5, hfz10_6⟩ := frozen7_ BK206.out))
    go_ret2
    exact ⟨by first | rfl | (simp [errW_none, errW_some] <;> rfl) | (simp [*, errW_none, errW_some] <;> rfl), by repeat (first | (with_reducible first | exact HB.out | apply below_alloc | apply pw_below_drewN | apply below_drew1 | refine below_set ?_ GE202.out | refine below_set ?_ GE206.out) | exact HB.out)⟩
  · rw [if_neg c4] at H
    have c4b0 : (t203 == 0) = false := beq_eq_false_iff_ne.mpr c4
    have c4b1 : (t203 != 0) = true := bne_iff_ne.mpr c4
    simp only [Option.some.injEq, Prod.mk.injEq] at H
    obtain ⟨rfl, rfl⟩ := H
    go_enter Try.func21, Try.ntmps21
    go_wp2_with (first | ((with_reducible refine gate_dst (N := 2) rfl ?_); refine box_event ?hg (N := 2) ?hd (cs := #[.int .i64 a0.f0, .int .i64 a0.f1, .int .i64 a0.f2, .int .i64 a0.f3, .bool a0.f4]) (t := 44) ?hr ?_; (case hd => rfl); (case hg => rfl); (case hr => first | (go_simp; done) | (go_simp; rfl)); intro gb202 hg w11 hbox hb; have n0_ := Aside0.mk (below_step (by repeat (first | (with_reducible first | exact HB.out | apply below_alloc | apply pw_below_drewN | apply below_drew1) | exact HB.out)) hb); have n1_ := Aside0.mk (hbox); have n2_ := Aside0.mk ((by rw [hg]; exact (below_size (by repeat (first | (with_reducible first | exact HB.out | apply below_alloc | apply pw_below_drewN | apply below_drew1) | exact HB.out))) : w.heap.size ≤ gb202)); have n3_ := Aside0.mk ((by rw [hg]; exact (below_size (by repeat (first | (with_reducible first | exact HB.out | apply below_alloc | apply pw_below_drewN | apply below_drew1) | exact HB.out))) : w.heap.size ≤ gb202)); clear HB; have HB := n0_; have BK202 := n1_; have GW202 := n2_; have GE202 := n3_; clear n0_ n1_ n2_ n3_; clear hb hbox hg) | ((with_reducible refine gate_callee (f := 63) rfl ?_); refine goesL_ (some 10) rfl rfl Try.func63 (by kernel_rfl) rfl #[.pointer (some ⟨gb202, 0, none⟩), .int .i64 a1] rfl (by (try simp only [List.map_toArray, List.map_cons, List.map_nil]); first | done | rfl | (simp only [List.length_drop, List.length_take]; rfl) | (simp only [List.drop_one]; done) | (simp only [List.drop_one]; rfl)) ?_; (with_reducible refine (spec_l05Limited.calls gb202 0 a0 a1 t203 _ ?side1 A3.out).mono ?_); (case side1 => exact ⟨(blk_cell (g := gb202) (t := 44) (cs := #[.int .i64 a0.f0, .int .i64 a0.f1, .int .i64 a0.f2, .int .i64 a0.f3, .bool a0.f4]) (by (with_reducible repeat (first | refine blk_drewN ?_ _ | refine blk_drew ?_ | refine blk_alloc ?_ _)); exact BK202.out) 0).trans rfl, (blk_cell (g := gb202) (t := 44) (cs := #[.int .i64 a0.f0, .int .i64 a0.f1, .int .i64 a0.f2, .int .i64 a0.f3, .bool a0.f4]) (by (with_reducible repeat (first | refine blk_drewN ?_ _ | refine blk_drew ?_ | refine blk_alloc ?_ _)); exact BK202.out) 1).trans rfl, (blk_cell (g := gb202) (t := 44) (cs := #[.int .i64 a0.f0, .int .i64 a0.f1, .int .i64 a0.f2, .int .i64 a0.f3, .bool a0.f4]) (by (with_reducible repeat (first | refine blk_drewN ?_ _ | refine blk_drew ?_ | refine blk_alloc ?_ _)); exact BK202.out) 2).trans rfl, (blk_cell (g := gb202) (t := 44) (cs := #[.int .i64 a0.f0, .int .i64 a0.f1, .int .i64 a0.f2, .int .i64 a0.f3, .bool a0.f4]) (by (with_reducible repeat (first | refine blk_drewN ?_ _ | refine blk_drew ?_ | refine blk_alloc ?_ _)); exact BK202.out) 3).trans rfl, (blk_cell (g := gb202) (t := 44) (cs := #[.int .i64 a0.f0, .int .i64 a0.f1, .int .i64 a0.f2, .int .i64 a0.f3, .bool a0.f4]) (by (with_reducible repeat (first | refine blk_drewN ?_ _ | refine blk_drew ?_ | refine blk_alloc ?_ _)); exact BK202.out) 4).trans rfl⟩); rintro e w' ⟨rfl, ⟨nd, rfl⟩⟩; refine ⟨_, rfl, ?_⟩))
    go_ret2
    exact ⟨by first | rfl | (simp [errW_none, errW_some] <;> rfl) | (simp [*, errW_none, errW_some] <;> rfl), by repeat (first | (with_reducible first | exact HB.out | apply below_alloc | apply pw_below_drewN | apply below_drew1 | refine below_set ?_ GE202.out) | exact HB.out)⟩

set_option linter.defProp false

theorem q22x1_ {P : Prop} (h : P := by rw [hw]; exact (by repeat (first | (with_reducible first | exact HB.out | apply below_alloc | apply pw_below_drewN | apply below_drew1 | refine below_set ?_ GE207.out | refine below_set ?_ GE208.out | refine below_set ?_ GE209.out) | exact HB.out))) : P := h
theorem q22x2_ {P : Prop} (h : P := by rw [hw]; exact (by (with_reducible repeat (first | refine blk_drewN ?_ _ | refine blk_drew ?_ | refine blk_alloc ?_ _ | refine blk_far ?_ NB207_209.out _)); (with_reducible repeat (first | refine blk_drewN ?_ _ | refine blk_drew ?_ | refine blk_alloc ?_ _)); exact BK207.out)) : P := h
theorem q22x3_ {P : Prop} (h : P := by rw [hw]; exact (by (with_reducible repeat (first | refine blk_drewN ?_ _ | refine blk_drew ?_ | refine blk_alloc ?_ _ | refine blk_far ?_ NB208_209.out _)); (with_reducible repeat (first | refine blk_drewN ?_ _ | refine blk_drew ?_ | refine blk_alloc ?_ _)); exact BK208.out)) : P := h
theorem q22x4_ {P : Prop} (h : P := by (with_reducible repeat (first | refine blk_drewN ?_ _ | refine blk_drew ?_ | refine blk_alloc ?_ _)); exact BK207.out) : P := h
theorem q22x5_ {P : Prop} (h : P := by repeat (first | (with_reducible first | exact HB.out | apply below_alloc | apply pw_below_drewN | apply below_drew1 | refine below_set ?_ GE207.out | refine below_set ?_ GE208.out) | exact HB.out)) : P := h
theorem q22x6_ {P : Prop} (h : P := by (with_reducible repeat (first | refine blk_drewN ?_ _ | refine blk_drew ?_ | refine blk_alloc ?_ _)); exact BK208.out) : P := h
theorem q22x7_ {P : Prop} (h : P := by repeat (first | (with_reducible first | exact HB.out | apply below_alloc | apply pw_below_drewN | apply below_drew1 | refine below_set ?_ GE207.out) | exact HB.out)) : P := h
theorem q22x8_ {P : Prop} (h : P := by repeat (first | (with_reducible first | exact HB.out | apply below_alloc | apply pw_below_drewN | apply below_drew1) | exact HB.out)) : P := h
theorem q22x9_ {P : Prop} (h : P := by rw [hg]; exact Nat.ne_of_lt (blk_lt (g := gb207) (o := .cells #[.int .i64 a0.f0, .int .i64 a0.f1, .int .i64 a0.f2, .int .i64 a0.f3, .bool a0.f4] 41 (0, 0)) q22x4_)) : P := h
theorem q22x10_ {P : Prop} (h : P := by rw [hg]; exact Nat.ne_of_gt (blk_lt (g := gb207) (o := .cells #[.int .i64 a0.f0, .int .i64 a0.f1, .int .i64 a0.f2, .int .i64 a0.f3, .bool a0.f4] 41 (0, 0)) q22x4_)) : P := h
/-! ### laws_toSeries: function 22 -/
def laws_toSeries.f (a0 : S40) : Option (S40) := some a0
set_option maxHeartbeats 8000000 in
set_option maxRecDepth 100000 in
theorem laws_toSeries.calls (a0 : S40) (r : S40) (w : World) (h : laws_toSeries.f a0 = some r) :
  Calls Try.prog 22 #[.agg #[.int .i64 a0.f0, .int .i64 a0.f1, .int .i64 a0.f2, .int .i64 a0.f3, .bool a0.f4]] w fun e w' => e = .returned (.agg #[.int .i64 r.f0, .int .i64 r.f1, .int .i64 r.f2, .int .i64 r.f3, .bool r.f4]) ∧ Below w.heap.size w w' := by
 have hu41 := Try.underlying41
 have hu44 := Try.underlying44
 have HB := Aside0.mk (Below.refl w.heap.size w)
 have H : (some a0) = some r := h
 clear h
 obtain rfl := Option.some.inj H
 go_enter Try.func22, Try.ntmps22
 go_wp2_with (first | ((with_reducible refine gate_dst (N := 1) rfl ?_); refine box_event ?hg (N := 1) ?hd (cs := #[.int .i64 a0.f0, .int .i64 a0.f1, .int .i64 a0.f2, .int .i64 a0.f3, .bool a0.f4]) (t := 41) ?hr ?_; (case hd => rfl); (case hg => rfl); (case hr => first | (go_simp; done) | (go_simp; rfl)); intro gb207 hg w2 hbox hb; have n0_ := Aside0.mk (below_step q22x8_ hb); have n1_ := Aside0.mk (hbox); have n2_ := Aside0.mk ((by rw [hg]; exact (below_size q22x8_) : w.heap.size ≤ gb207)); have n3_ := Aside0.mk ((by rw [hg]; exact (below_size q22x8_) : w.heap.size ≤ gb207)); clear HB; have HB := n0_; have BK207 := n1_; have GW207 := n2_; have GE207 := n3_; clear n0_ n1_ n2_ n3_; clear hb hbox hg) | ((with_reducible refine gate_dst (N := 2) rfl ?_); refine box_event ?hg (N := 2) ?hd (cs := #[.int .i64 0, .int .i64 0, .int .i64 0, .int .i64 0, .bool false]) (t := 44) ?hr ?_; (case hd => rfl); (case hg => rfl); (case hr => first | (go_simp; done) | (go_simp; rfl)); intro gb208 hg w3 hbox hb; have n0_ := Aside0.mk (blk_below (g := gb207) (o := .cells #[.int .i64 a0.f0, .int .i64 a0.f1, .int .i64 a0.f2, .int .i64 a0.f3, .bool a0.f4] 41 (0, 0)) q22x4_ hb); have n1_ := Aside0.mk (below_step q22x7_ hb); have n2_ := Aside0.mk (hbox); have n3_ := Aside0.mk ((by rw [hg]; exact (below_size q22x7_) : w.heap.size ≤ gb208)); have n4_ := Aside0.mk ((by rw [hg]; exact (below_size q22x7_) : w.heap.size ≤ gb208)); have n5_ := Aside0.mk ((q22x9_ : gb207 ≠ gb208)); have n6_ := Aside0.mk ((q22x10_ : gb208 ≠ gb207)); clear BK207 HB; have BK207 := n0_; have HB := n1_; have BK208 := n2_; have GW208 := n3_; have GE208 := n4_; have NB207_208 := n5_; have NB208_207 := n6_; clear n0_ n1_ n2_ n3_ n4_ n5_ n6_; clear hb hbox hg) | ((with_reducible refine gate_dst (N := 3) rfl ?_); refine box_event ?hg (N := 3) ?hd (cs := #[.int .i64 0, .int .i64 0, .int .i64 0, .int .i64 0, .bool false]) (t := 44) ?hr ?_; (case hd => rfl); (case hg => rfl); (case hr => first | (go_simp; done) | (go_simp; rfl)); intro gb209 hg w4 hbox hb; have n0_ := Aside0.mk (blk_below (g := gb207) (o := .cells #[.int .i64 a0.f0, .int .i64 a0.f1, .int .i64 a0.f2, .int .i64 a0.f3, .bool a0.f4] 41 (0, 0)) q22x4_ hb); have n1_ := Aside0.mk (blk_below (g := gb208) (o := .cells #[.int .i64 0, .int .i64 0, .int .i64 0, .int .i64 0, .bool false] 44 (0, 0)) q22x6_ hb); have n2_ := Aside0.mk (below_step q22x5_ hb); have n3_ := Aside0.mk (hbox); have n4_ := Aside0.mk ((by rw [hg]; exact (below_size q22x5_) : w.heap.size ≤ gb209)); have n5_ := Aside0.mk ((by rw [hg]; exact (below_size q22x5_) : w.heap.size ≤ gb209)); have n6_ := Aside0.mk ((q22x9_ : gb207 ≠ gb209)); have n7_ := Aside0.mk ((q22x10_ : gb209 ≠ gb207)); have n8_ := Aside0.mk ((by rw [hg]; exact Nat.ne_of_lt (blk_lt (g := gb208) (o := .cells #[.int .i64 0, .int .i64 0, .int .i64 0, .int .i64 0, .bool false] 44 (0, 0)) q22x6_) : gb208 ≠ gb209)); have n9_ := Aside0.mk ((by rw [hg]; exact Nat.ne_of_gt (blk_lt (g := gb208) (o := .cells #[.int .i64 0, .int .i64 0, .int .i64 0, .int .i64 0, .bool false] 44 (0, 0)) q22x6_) : gb209 ≠ gb208)); clear BK207 BK208 HB; have BK207 := n0_; have BK208 := n1_; have HB := n2_; have BK209 := n3_; have GW209 := n4_; have GE209 := n5_; have NB207_209 := n6_; have NB209_207 := n7_; have NB208_209 := n8_; have NB209_208 := n9_; clear n0_ n1_ n2_ n3_ n4_ n5_ n6_ n7_ n8_ n9_; clear hb hbox hg; have hnb5 := NB207_208.out; have hnc5 := NB208_207.out; have hnb6 := NB207_209.out; have hnc6 := NB209_207.out; obtain ⟨hcz7_0, hcz7_1, hcz7_2, hcz7_3, hcz7_4⟩ := cells5_ (show w4.heap[gb207]? = some (.cells #[.int .i64 a0.f0, .int .i64 a0.f1, .int .i64 a0.f2, .int .i64 a0.f3, .bool a0.f4] 41 (0, 0)) from BK207.out); obtain ⟨hfz7_0, hfz7_1, hfz7_2, hfz7_3, hfz7_4⟩ := frozen5_ BK207.out; have hnb8 := NB209_208.out; have hnc8 := NB208_209.out; obtain ⟨hcz9_0, hcz9_1, hcz9_2, hcz9_3, hcz9_4⟩ := cells5_ (show w4.heap[gb209]? = some (.cells #[.int .i64 0, .int .i64 0, .int .i64 0, .int .i64 0, .bool false] 44 (0, 0)) from BK209.out); obtain ⟨hfz9_0, hfz9_1, hfz9_2, hfz9_3, hfz9_4⟩ := frozen5_ BK209.out) | ((with_reducible refine gate_store (t := 2) (p := 6) rfl ?_); refine store_event (t := 2) (p := 6) (v := ?vo_w10) (w1 := (World.setCell w4 ⟨gb209, 0, none⟩ (.int .i64 a0.f0))) ?hg ?ho ?hn ?hr ?_; (case ho => rfl); (case hg => rfl); (case hn => rfl); (case hr => first | (go_simp; done) | (go_simp; rfl)); intro w10 hw; have n0_ : Aside0 (w10.heap[gb207]? = some (.cells #[.int .i64 a0.f0, .int .i64 a0.f1, .int .i64 a0.f2, .int .i64 a0.f3, .bool a0.f4] 41 (0, 0))) := ⟨q22x2_⟩; have n1_ : Aside0 (w10.heap[gb208]? = some (.cells #[.int .i64 0, .int .i64 0, .int .i64 0, .int .i64 0, .bool false] 44 (0, 0))) := ⟨q22x3_⟩; have n2_ : Aside0 (w10.heap[gb209]? = some (.cells #[.int .i64 a0.f0, .int .i64 0, .int .i64 0, .int .i64 0, .bool false] 44 (0, 0))) := ⟨(by rw [hw]; exact (by (with_reducible repeat (first | refine blk_drewN ?_ _ | refine blk_drew ?_ | refine blk_alloc ?_ _)); refine blk_put (cs := #[.int .i64 0, .int .i64 0, .int .i64 0, .int .i64 0, .bool false]) ?_ 0 _ rfl; (with_reducible repeat (first | refine blk_drewN ?_ _ | refine blk_drew ?_ | refine blk_alloc ?_ _)); exact BK209.out))⟩; have n3_ : Aside0 (Below w.heap.size w w10) := ⟨q22x1_⟩; clear hw; clear BK207; clear BK208; clear BK209; clear HB; have BK207 := n0_; have BK208 := n1_; have BK209 := n2_; have HB := n3_; clear n0_ n1_ n2_ n3_; obtain ⟨hcz11_0, hcz11_1, hcz11_2, hcz11_3, hcz11_4⟩ := cells5_ (show w10.heap[gb207]? = some (.cells #[.int .i64 a0.f0, .int .i64 a0.f1, .int .i64 a0.f2, .int .i64 a0.f3, .bool a0.f4] 41 (0, 0)) from BK207.out); obtain ⟨hfz11_0, hfz11_1, hfz11_2, hfz11_3, hfz11_4⟩ := frozen5_ BK207.out; obtain ⟨hcz12_0, hcz12_1, hcz12_2, hcz12_3, hcz12_4⟩ := cells5_ (show w10.heap[gb209]? = some (.cells #[.int .i64 a0.f0, .int .i64 0, .int .i64 0, .int .i64 0, .bool false] 44 (0, 0)) from BK209.out); obtain ⟨hfz12_0, hfz12_1, hfz12_2, hfz12_3, hfz12_4⟩ := frozen5_ BK209.out) | ((with_reducible refine gate_store (t := 2) (p := 9) rfl ?_); refine store_event (t := 2) (p := 9) (v := ?vo_w13) (w1 := (World.setCell w10 ⟨gb209, 1, none⟩ (.int .i64 a0.f1))) ?hg ?ho ?hn ?hr ?_; (case ho => rfl); (case hg => rfl); (case hn => rfl); (case hr => first | (go_simp; done) | (go_simp; rfl)); intro w13 hw; have n0_ : Aside0 (w13.heap[gb207]? = some (.cells #[.int .i64 a0.f0, .int .i64 a0.f1, .int .i64 a0.f2, .int .i64 a0.f3, .bool a0.f4] 41 (0, 0))) := ⟨q22x2_⟩; have n1_ : Aside0 (w13.heap[gb208]? = some (.cells #[.int .i64 0, .int .i64 0, .int .i64 0, .int .i64 0, .bool false] 44 (0, 0))) := ⟨q22x3_⟩; have n2_ : Aside0 (w13.heap[gb209]? = some (.cells #[.int .i64 a0.f0, .int .i64 a0.f1, .int .i64 0, .int .i64 0, .bool false] 44 (0, 0))) := ⟨(by rw [hw]; exact (by (with_reducible repeat (first | refine blk_drewN ?_ _ | refine blk_drew ?_ | refine blk_alloc ?_ _)); refine blk_put (cs := #[.int .i64 a0.f0, .int .i64 0, .int .i64 0, .int .i64 0, .bool false]) ?_ 1 _ rfl; (with_reducible repeat (first | refine blk_drewN ?_ _ | refine blk_drew ?_ | refine blk_alloc ?_ _)); exact BK209.out))⟩; have n3_ : Aside0 (Below w.heap.size w w13) := ⟨q22x1_⟩; clear hw; clear BK207; clear BK208; clear BK209; clear HB; have BK207 := n0_; have BK208 := n1_; have BK209 := n2_; have HB := n3_; clear n0_ n1_ n2_ n3_; obtain ⟨hcz14_0, hcz14_1, hcz14_2, hcz14_3, hcz14_4⟩ := cells5_ (show w13.heap[gb207]? = some (.cells #[.int .i64 a0.f0, .int .i64 a0.f1, .int .i64 a0.f2, .int .i64 a0.f3, .bool a0.f4] 41 (0, 0)) from BK207.out); obtain ⟨hfz14_0, hfz14_1, hfz14_2, hfz14_3, hfz14_4⟩ := frozen5_ BK207.out; obtain ⟨hcz15_0, hcz15_1, hcz15_2, hcz15_3, hcz15_4⟩ := cells5_ (show w13.heap[gb209]? = some (.cells #[.int .i64 a0.f0, .int .i64 a0.f1, .int .i64 0, .int .i64 0, .bool false] 44 (0, 0)) from BK209.out); obtain ⟨hfz15_0, hfz15_1, hfz15_2, hfz15_3, hfz15_4⟩ := frozen5_ BK209.out) | ((with_reducible refine gate_store (t := 2) (p := 12) rfl ?_); refine store_event (t := 2) (p := 12) (v := ?vo_w16) (w1 := (World.setCell w13 ⟨gb209, 2, none⟩ (.int .i64 a0.f2))) ?hg ?ho ?hn ?hr ?_; (case ho => rfl); (case hg => rfl); (case hn => rfl); (case hr => first | (go_simp; done) | (go_simp; rfl)); intro w16 hw; have n0_ : Aside0 (w16.heap[gb207]? = some (.cells #[.int .i64 a0.f0, .int .i64 a0.f1, .int .i64 a0.f2, .int .i64 a0.f3, .bool a0.f4] 41 (0, 0))) := ⟨q22x2_⟩; have n1_ : Aside0 (w16.heap[gb208]? = some (.cells #[.int .i64 0, .int .i64 0, .int .i64 0, .int .i64 0, .bool false] 44 (0, 0))) := ⟨q22x3_⟩; have n2_ : Aside0 (w16.heap[gb209]? = some (.cells #[.int .i64 a0.f0, .int .i64 a0.f1, .int .i64 a0.f2, .int .i64 0, .bool false] 44 (0, 0))) := ⟨(by rw [hw]; exact (by (with_reducible repeat (first | refine blk_drewN ?_ _ | refine blk_drew ?_ | refine blk_alloc ?_ _)); refine blk_put (cs := #[.int .i64 a0.f0, .int .i64 a0.f1, .int .i64 0, .int .i64 0, .bool false]) ?_ 2 _ rfl; (with_reducible repeat (first | refine blk_drewN ?_ _ | refine blk_drew ?_ | refine blk_alloc ?_ _)); exact BK209.out))⟩; have n3_ : Aside0 (Below w.heap.size w w16) := ⟨q22x1_⟩; clear hw; clear BK207; clear BK208; clear BK209; clear HB; have BK207 := n0_; have BK208 := n1_; have BK209 := n2_; have HB := n3_; clear n0_ n1_ n2_ n3_; obtain ⟨hcz17_0, hcz17_1, hcz17_2, hcz17_3, hcz17_4⟩ := cells5_ (show w16.heap[gb207]? = some (.cells #[.int .i64 a0.f0, .int .i64 a0.f1, .int .i64 a0.f2, .int .i64 a0.f3, .bool a0.f4] 41 (0, 0)) from BK207.out); obtain ⟨hfz17_0, hfz17_1, hfz17_2, hfz17_3, hfz17_4⟩ := frozen5_ BK207.out; obtain ⟨hcz18_0, hcz18_1, hcz18_2, hcz18_3, hcz18_4⟩ := cells5_ (show w16.heap[gb209]? = some (.cells #[.int .i64 a0.f0, .int .i64 a0.f1, .int .i64 a0.f2, .int .i64 0, .bool false] 44 (0, 0)) from BK209.out); obtain ⟨hfz18_0, hfz18_1, hfz18_2, hfz18_3, hfz18_4⟩ := frozen5_ BK209.out) | ((with_reducible refine gate_store (t := 2) (p := 15) rfl ?_); refine store_event (t := 2) (p := 15) (v := ?vo_w19) (w1 := (World.setCell w16 ⟨gb209, 3, none⟩ (.int .i64 a0.f3))) ?hg ?ho ?hn ?hr ?_; (case ho => rfl); (case hg => rfl); (case hn => rfl); (case hr => first | (go_simp; done) | (go_simp; rfl)); intro w19 hw; have n0_ : Aside0 (w19.heap[gb207]? = some (.cells #[.int .i64 a0.f0, .int .i64 a0.f1, .int .i64 a0.f2, .int .i64 a0.f3, .bool a0.f4] 41 (0, 0))) := ⟨q22x2_⟩; have n1_ : Aside0 (w19.heap[gb208]? = some (.cells #[.int .i64 0, .int .i64 0, .int .i64 0, .int .i64 0, .bool false] 44 (0, 0))) := ⟨q22x3_⟩; have n2_ : Aside0 (w19.heap[gb209]? = some (.cells #[.int .i64 a0.f0, .int .i64 a0.f1, .int .i64 a0.f2, .int .i64 a0.f3, .bool false] 44 (0, 0))) := ⟨(by rw [hw]; exact (by (with_reducible repeat (first | refine blk_drewN ?_ _ | refine blk_drew ?_ | refine blk_alloc ?_ _)); refine blk_put (cs := #[.int .i64 a0.f0, .int .i64 a0.f1, .int .i64 a0.f2, .int .i64 0, .bool false]) ?_ 3 _ rfl; (with_reducible repeat (first | refine blk_drewN ?_ _ | refine blk_drew ?_ | refine blk_alloc ?_ _)); exact BK209.out))⟩; have n3_ : Aside0 (Below w.heap.size w w19) := ⟨q22x1_⟩; clear hw; clear BK207; clear BK208; clear BK209; clear HB; have BK207 := n0_; have BK208 := n1_; have BK209 := n2_; have HB := n3_; clear n0_ n1_ n2_ n3_; obtain ⟨hcz20_0, hcz20_1, hcz20_2, hcz20_3, hcz20_4⟩ := cells5_ (show w19.heap[gb207]? = some (.cells #[.int .i64 a0.f0, .int .i64 a0.f1, .int .i64 a0.f2, .int .i64 a0.f3, .bool a0.f4] 41 (0, 0)) from BK207.out); obtain ⟨hfz20_0, hfz20_1, hfz20_2, hfz20_3, hfz20_4⟩ := frozen5_ BK207.out; obtain ⟨hcz21_0, hcz21_1, hcz21_2, hcz21_3, hcz21_4⟩ := cells5_ (show w19.heap[gb209]? = some (.cells #[.int .i64 a0.f0, .int .i64 a0.f1, .int .i64 a0.f2, .int .i64 a0.f3, .bool false] 44 (0, 0)) from BK209.out); obtain ⟨hfz21_0, hfz21_1, hfz21_2, hfz21_3, hfz21_4⟩ := frozen5_ BK209.out) | ((with_reducible refine gate_store (t := 4) (p := 18) rfl ?_); refine store_event (t := 4) (p := 18) (v := ?vo_w22) (w1 := (World.setCell w19 ⟨gb209, 4, none⟩ (.bool a0.f4))) ?hg ?ho ?hn ?hr ?_; (case ho => rfl); (case hg => rfl); (case hn => rfl); (case hr => first | (go_simp; done) | (go_simp; rfl)); intro w22 hw; have n0_ : Aside0 (w22.heap[gb207]? = some (.cells #[.int .i64 a0.f0, .int .i64 a0.f1, .int .i64 a0.f2, .int .i64 a0.f3, .bool a0.f4] 41 (0, 0))) := ⟨q22x2_⟩; have n1_ : Aside0 (w22.heap[gb208]? = some (.cells #[.int .i64 0, .int .i64 0, .int .i64 0, .int .i64 0, .bool false] 44 (0, 0))) := ⟨q22x3_⟩; have n2_ : Aside0 (w22.heap[gb209]? = some (.cells #[.int .i64 a0.f0, .int .i64 a0.f1, .int .i64 a0.f2, .int .i64 a0.f3, .bool a0.f4] 44 (0, 0))) := ⟨(by rw [hw]; exact (by (with_reducible repeat (first | refine blk_drewN ?_ _ | refine blk_drew ?_ | refine blk_alloc ?_ _)); refine blk_put (cs := #[.int .i64 a0.f0, .int .i64 a0.f1, .int .i64 a0.f2, .int .i64 a0.f3, .bool false]) ?_ 4 _ rfl; (with_reducible repeat (first | refine blk_drewN ?_ _ | refine blk_drew ?_ | refine blk_alloc ?_ _)); exact BK209.out))⟩; have n3_ : Aside0 (Below w.heap.size w w22) := ⟨q22x1_⟩; clear hw; clear BK207; clear BK208; clear BK209; clear HB; have BK207 := n0_; have BK208 := n1_; have BK209 := n2_; have HB := n3_; clear n0_ n1_ n2_ n3_; obtain ⟨hcz23_0, hcz23_1, hcz23_2, hcz23_3, hcz23_4⟩ := cells5_ (show w22.heap[gb209]? = some (.cells #[.int .i64 a0.f0, .int .i64 a0.f1, .int .i64 a0.f2, .int .i64 a0.f3, .bool a0.f4] 44 (0, 0)) from BK209.out); obtain ⟨hfz23_0, hfz23_1, hfz23_2, hfz23_3, hfz23_4⟩ := frozen5_ BK209.out; obtain ⟨hcz24_0, hcz24_1, hcz24_2, hcz24_3, hcz24_4⟩ := cells5_ (show w22.heap[gb208]? = some (.cells #[.int .i64 0, .int .i64 0, .int .i64 0, .int .i64 0, .bool false] 44 (0, 0)) from BK208.out); obtain ⟨hfz24_0, hfz24_1, hfz24_2, hfz24_3, hfz24_4⟩ := frozen5_ BK208.out) | ((with_reducible refine gate_store (t := 44) (p := 2) rfl ?_); refine store_event (t := 44) (p := 2) (v := ?vo_w25) (w1 := (World.setCell (World.setCell (World.setCell (World.setCell (World.setCell w22 ⟨gb208, 0, none⟩ (.int .i64 a0.f0)) ⟨gb208, 1, none⟩ (.int .i64 a0.f1)) ⟨gb208, 2, none⟩ (.int .i64 a0.f2)) ⟨gb208, 3, none⟩ (.int .i64 a0.f3)) ⟨gb208, 4, none⟩ (.bool a0.f4))) ?hg ?ho ?hn ?hr ?_; (case ho => rfl); (case hg => rfl); (case hn => rfl); (case hr => first | ((try simp only [Act.put, List.setIfInBounds_toArray, List.set_cons_zero, List.set_cons_succ]); exact run_put5_ rfl (show _ = Value.pointer (some ⟨gb208, 0, none⟩) from by rfl) (show _ = Value.agg #[.int .i64 a0.f0, .int .i64 a0.f1, .int .i64 a0.f2, .int .i64 a0.f3, .bool a0.f4] from by rfl) BK208.out (by kernel_rfl) (by rfl)) | (go_simp; done) | (go_simp; rfl)); intro w25 hw; have n0_ : Aside0 (w25.heap[gb207]? = some (.cells #[.int .i64 a0.f0, .int .i64 a0.f1, .int .i64 a0.f2, .int .i64 a0.f3, .bool a0.f4] 41 (0, 0))) := ⟨(by rw [hw]; exact (by (with_reducible repeat (first | refine blk_drewN ?_ _ | refine blk_drew ?_ | refine blk_alloc ?_ _ | refine blk_far ?_ NB207_208.out _)); (with_reducible repeat (first | refine blk_drewN ?_ _ | refine blk_drew ?_ | refine blk_alloc ?_ _)); exact BK207.out))⟩; have n1_ : Aside0 (w25.heap[gb208]? = some (.cells #[.int .i64 a0.f0, .int .i64 a0.f1, .int .i64 a0.f2, .int .i64 a0.f3, .bool a0.f4] 44 (0, 0))) := ⟨(by rw [hw]; exact (by (with_reducible repeat (first | refine blk_drewN ?_ _ | refine blk_drew ?_ | refine blk_alloc ?_ _)); refine puts5_ (.int .i64 0) (.int .i64 0) (.int .i64 0) (.int .i64 0) (.bool false) ?_; (with_reducible repeat (first | refine blk_drewN ?_ _ | refine blk_drew ?_ | refine blk_alloc ?_ _)); exact BK208.out))⟩; have n2_ : Aside0 (w25.heap[gb209]? = some (.cells #[.int .i64 a0.f0, .int .i64 a0.f1, .int .i64 a0.f2, .int .i64 a0.f3, .bool a0.f4] 44 (0, 0))) := ⟨(by rw [hw]; exact (by (with_reducible repeat (first | refine blk_drewN ?_ _ | refine blk_drew ?_ | refine blk_alloc ?_ _ | refine blk_far ?_ NB209_208.out _)); (with_reducible repeat (first | refine blk_drewN ?_ _ | refine blk_drew ?_ | refine blk_alloc ?_ _)); exact BK209.out))⟩; have n3_ : Aside0 (Below w.heap.size w w25) := ⟨q22x1_⟩; clear hw; clear BK207; clear BK208; clear BK209; clear HB; have BK207 := n0_; have BK208 := n1_; have BK209 := n2_; have HB := n3_; clear n0_ n1_ n2_ n3_))
 refine bodyPost_ret (results_cell_row rfl _ _ gb208 44 #[.int .i64 a0.f0, .int .i64 a0.f1, .int .i64 a0.f2, .int .i64 a0.f3, .bool a0.f4] (0, 0) _ rfl q22x6_ Try.underlying44 rfl (by kernel_rfl)) rfl ?_
 exact ⟨by first | rfl | (simp [errW_none, errW_some] <;> rfl) | (simp [*, errW_none, errW_some] <;> rfl), by repeat (first | (with_reducible first | exact HB.out | apply below_alloc | apply pw_below_drewN | apply below_drew1 | refine below_set ?_ GE207.out | refine below_set ?_ GE208.out | refine below_set ?_ GE209.out) | exact HB.out)⟩

/-! ### impl_within: function 76 -/
def impl_within.f (a0 : Int) (a1 : Int) (a2 : Int) : Option (Bool) := if a0 ≥ a1 then (some (decide (a0 ≤ a2))) else (some false)
set_option maxHeartbeats 8000000 in
set_option maxRecDepth 100000 in
theorem impl_within.calls (a0 : Int) (a1 : Int) (a2 : Int) (r : Bool) (w : World) (h : impl_within.f a0 a1 a2 = some r) :
    Calls Try.prog 76 #[.int .i64 a0, .int .i64 a1, .int .i64 a2] w fun e w' => e = .returned (.bool r) ∧ Drawn0 w w' := by
  have H : (if a0 ≥ a1 then (some (decide (a0 ≤ a2))) else (some false)) = some r := h
  clear h
  by_cases c4 : a0 ≥ a1
  · rw [if_pos c4] at H
    have c4b0 : decide (a1 ≤ a0) = true := decide_eq_true c4
    clear c4
    obtain rfl := Option.some.inj H
    go_enter Try.func76, Try.ntmps76
    go_wp2
    go_ret
    exact ⟨by first | rfl | (simp; done) | (simp [*]; done), by repeat (first | exact Drawn0.refl _ | apply Drawn0.step)⟩
  · rw [if_neg c4] at H
    have c4b0 : decide (a1 ≤ a0) = false := decide_eq_false c4
    clear c4
    obtain rfl := Option.some.inj H
    go_enter Try.func76, Try.ntmps76
    go_wp2
    go_ret
    exact ⟨by first | rfl | (simp; done) | (simp [*]; done), by repeat (first | exact Drawn0.refl _ | apply Drawn0.step)⟩

/-! ### impl_placesOk: function 59 -/
def impl_placesOk.f (a0 : Int) : Option (Bool) := (impl_within.f a0 0 64).bind fun t210 => (some t210)
set_option maxHeartbeats 8000000 in
set_option maxRecDepth 100000 in
theorem impl_placesOk.calls (a0 : Int) (r : Bool) (w : World) (h : impl_placesOk.f a0 = some r) :
    Calls Try.prog 59 #[.int .i64 a0] w fun e w' => e = .returned (.bool r) ∧ Drawn0 w w' := by
  have H : ((impl_within.f a0 0 64).bind fun t210 => (some t210)) = some r := h
  clear h
  replace H := Option.bind_eq_some_iff.mp H
  obtain ⟨t210, A20, H⟩ := H
  replace H : (some t210) = some r := H
  have A2 := Aside0.mk A20
  clear A20
  obtain rfl := Option.some.inj H
  go_enter Try.func59, Try.ntmps59
  go_wp2_with (first | ((with_reducible refine gate_callee (f := 76) rfl ?_); refine goesL_ (some 4) rfl rfl Try.func76 (by kernel_rfl) rfl #[.int .i64 a0, .int .i64 0, .int .i64 64] rfl (by (try simp only [List.map_toArray, List.map_cons, List.map_nil]); first | done | rfl | (simp only [List.length_drop, List.length_take]; rfl) | (simp only [List.drop_one]; done) | (simp only [List.drop_one]; rfl)) ?_; (with_reducible refine (impl_within.calls a0 0 64 t210 _ A2.out).mono ?_); rintro e w' ⟨rfl, ⟨nd, rfl⟩⟩; refine ⟨_, rfl, ?_⟩))
  go_ret
  exact ⟨by first | rfl | (simp; done) | (simp [*]; done), by repeat (first | exact Drawn0.refl _ | apply Drawn0.step)⟩

/-! ### impl_ValidSeries: function 65 -/
def impl_ValidSeries.f (a0 : S40) : Option (Bool) := (impl_within.f a0.f1 2 1000).bind fun t212 => (if t212 = true then ((impl_within.f a0.f0 1 (wrap64 (Int.tdiv a0.f1 2))).bind fun t213 => (if t213 = true then ((impl_within.f a0.f2 1 1000).bind fun t214 => (if t214 = true then ((impl_within.f a0.f3 0 1000).bind fun t215 => (some t215)) else (some false))) else (some false))) else (some false))
set_option maxHeartbeats 8000000 in
set_option maxRecDepth 100000 in
theorem impl_ValidSeries.calls (a0 : S40) (r : Bool) (w : World) (h : impl_ValidSeries.f a0 = some r) :
    Calls Try.prog 65 #[.agg #[.int .i64 a0.f0, .int .i64 a0.f1, .int .i64 a0.f2, .int .i64 a0.f3, .bool a0.f4]] w fun e w' => e = .returned (.bool r) ∧ Below w.heap.size w w' := by
  have hu44 := Try.underlying44
  have HB := Aside0.mk (Below.refl w.heap.size w)
  have H : ((impl_within.f a0.f1 2 1000).bind fun t212 => (if t212 = true then ((impl_within.f a0.f0 1 (wrap64 (Int.tdiv a0.f1 2))).bind fun t213 => (if t213 = true then ((impl_within.f a0.f2 1 1000).bind fun t214 => (if t214 = true then ((impl_within.f a0.f3 0 1000).bind fun t215 => (some t215)) else (some false))) else (some false))) else (some false))) = some r := h
  clear h
  replace H := Option.bind_eq_some_iff.mp H
  obtain ⟨t212, A20, H⟩ := H
  replace H : (if t212 = true then ((impl_within.f a0.f0 1 (wrap64 (Int.tdiv a0.f1 2))).bind fun t213 => (if t213 = true then ((impl_within.f a0.f2 1 1000).bind fun t214 => (if t214 = true then ((impl_within.f a0.f3 0 1000).bind fun t215 => (some t215)) else (some false))) else (some false))) else (some false)) = some r := H
  have A2 := Aside0.mk A20
  clear A20
  by_cases c3 : t212 = true
  · subst c3
    have H1 : ((impl_within.f a0.f0 1 (wrap64 (Int.tdiv a0.f1 2))).bind fun t213 => (if t213 = true then ((impl_within.f a0.f2 1 1000).bind fun t214 => (if t214 = true then ((impl_within.f a0.f3 0 1000).bind fun t215 => (some t215)) else (some false))) else (some false))) = some r := by rw [if_pos rfl] at H; exact H
    clear H
    have H := H1
    clear H1
    replace H := Option.bind_eq_some_iff.mp H
    obtain ⟨t213, A40, H⟩ := H
    replace H : (if t213 = true then ((impl_within.f a0.f2 1 1000).bind fun t214 => (if t214 = true then ((impl_within.f a0.f3 0 1000).bind fun t215 => (some t215)) else (some false))) else (some false)) = some r := H
    have A4 := Aside0.mk A40
    clear A40
    by_cases c5 : t213 = true
    · subst c5
      have H1 : ((impl_within.f a0.f2 1 1000).bind fun t214 => (if t214 = true then ((impl_within.f a0.f3 0 1000).bind fun t215 => (some t215)) else (some false))) = some r := by rw [if_pos rfl] at H; exact H
      clear H
      have H := H1
      clear H1
      replace H := Option.bind_eq_some_iff.mp H
      obtain ⟨t214, A60, H⟩ := H
      replace H : (if t214 = true then ((impl_within.f a0.f3 0 1000).bind fun t215 => (some t215)) else (some false)) = some r := H
      have A6 := Aside0.mk A60
      clear A60
      by_cases c7 : t214 = true
      · subst c7
        have H1 : ((impl_within.f a0.f3 0 1000).bind fun t215 => (some t215)) = some r := by rw [if_pos rfl] at H; exact H
        clear H
        have H := H1
        clear H1
        replace H := Option.bind_eq_some_iff.mp H
        obtain ⟨t215, A80, H⟩ := H
        replace H : (some t215) = some r := H
        have A8 := Aside0.mk A80
        clear A80
        obtain rfl := Option.some.inj H
        go_enter Try.func65, Try.ntmps65
        go_wp2_with (first | ((with_reducible refine gate_dst (N := 1) rfl ?_); refine box_event ?hg (N := 1) ?hd (cs := #[.int .i64 a0.f0, .int .i64 a0.f1, .int .i64 a0.f2, .int .i64 a0.f3, .bool a0.f4]) (t := 44) ?hr ?_; (case hd => rfl); (case hg => rfl); (case hr => first | (go_simp; done) | (go_simp; rfl)); intro gb211 hg w9 hbox hb; have n0_ := Aside0.mk (below_step (by repeat (first | (with_reducible first | exact HB.out | apply below_alloc | apply pw_below_drewN | apply below_drew1) | exact HB.out)) hb); have n1_ := Aside0.mk (hbox); have n2_ := Aside0.mk ((by rw [hg]; exact (below_size (by repeat (first | (with_reducible first | exact HB.out | apply below_alloc | apply pw_below_drewN | apply below_drew1) | exact HB.out))) : w.heap.size ≤ gb211)); have n3_ := Aside0.mk ((by rw [hg]; exact (below_size (by repeat (first | (with_reducible first | exact HB.out | apply below_alloc | apply pw_below_drewN | apply below_drew1) | exact HB.out))) : w.heap.size ≤ gb211)); clear HB; have HB := n0_; have BK211 := n1_; have GW211 := n2_; have GE211 := n3_; clear n0_ n1_ n2_ n3_; clear hb hbox hg; obtain ⟨hcz10_0, hcz10_1, hcz10_2, hcz10_3, hcz10_4⟩ := cells5_ (show w9.heap[gb211]? = some (.cells #[.int .i64 a0.f0, .int .i64 a0.f1, .int .i64 a0.f2, .int .i64 a0.f3, .bool a0.f4] 44 (0, 0)) from BK211.out); obtain ⟨hfz10_0, hfz10_1, hfz10_2, hfz10_3, hfz10_4⟩ := frozen5_ BK211.out) | ((with_reducible refine gate_callee (f := 76) rfl ?_); refine goesL_ (some 5) rfl rfl Try.func76 (by kernel_rfl) rfl #[.int .i64 a0.f1, .int .i64 2, .int .i64 1000] rfl (by (try simp only [List.map_toArray, List.map_cons, List.map_nil]); first | done | rfl | (simp only [List.length_drop, List.length_take]; rfl) | (simp only [List.drop_one]; done) | (simp only [List.drop_one]; rfl)) ?_; (with_reducible refine (impl_within.calls a0.f1 2 1000 true _ A2.out).mono ?_); rintro e w' ⟨rfl, ⟨nd, rfl⟩⟩; refine ⟨_, rfl, ?_⟩) | (go_at_call 76; (with_reducible refine (impl_within.calls a0.f0 1 (wrap64 (Int.tdiv a0.f1 2)) true _ A4.out).mono ?_); rintro e w' ⟨rfl, ⟨nd, rfl⟩⟩) | (go_at_call 76; (with_reducible refine (impl_within.calls a0.f2 1 1000 true _ A6.out).mono ?_); rintro e w' ⟨rfl, ⟨nd, rfl⟩⟩) | (go_at_call 76; (with_reducible refine (impl_within.calls a0.f3 0 1000 t215 _ A8.out).mono ?_); rintro e w' ⟨rfl, ⟨nd, rfl⟩⟩))
        go_ret
        exact ⟨by first | rfl | (simp [errW_none, errW_some] <;> rfl) | (simp [*, errW_none, errW_some] <;> rfl), by repeat (first | (with_reducible first | exact HB.out | apply below_alloc | apply pw_below_drewN | apply below_drew1 | refine below_set ?_ GE211.out) | exact HB.out)⟩
      · replace c7 := Bool.eq_false_iff.mpr c7
        subst c7
        have H1 : (some false) = some r := by rw [if_neg (show ¬ (false = true) by decide)] at H; exact H
        clear H
        have H := H1
        clear H1
        obtain rfl := Option.some.inj H
        go_enter Try.func65, Try.ntmps65
        go_wp2_with (first | ((with_reducible refine gate_dst (N := 1) rfl ?_); refine box_event ?hg (N := 1) ?hd (cs := #[.int .i64 a0.f0, .int .i64 a0.f1, .int .i64 a0.f2, .int .i64 a0.f3, .bool a0.f4]) (t := 44) ?hr ?_; (case hd => rfl); (case hg => rfl); (case hr => first | (go_simp; done) | (go_simp; rfl)); intro gb211 hg w11 hbox hb; have n0_ := Aside0.mk (below_step (by repeat (first | (with_reducible first | exact HB.out | apply below_alloc | apply pw_below_drewN | apply below_drew1) | exact HB.out)) hb); have n1_ := Aside0.mk (hbox); have n2_ := Aside0.mk ((by rw [hg]; exact (below_size (by repeat (first | (with_reducible first | exact HB.out | apply below_alloc | apply pw_below_drewN | apply below_drew1) | exact HB.out))) : w.heap.size ≤ gb211)); have n3_ := Aside0.mk ((by rw [hg]; exact (below_size (by repeat (first | (with_reducible first | exact HB.out | apply below_alloc | apply pw_below_drewN | apply below_drew1) | exact HB.out))) : w.heap.size ≤ gb211)); clear HB; have HB := n0_; have BK211 := n1_; have GW211 := n2_; have GE211 := n3_; clear n0_ n1_ n2_ n3_; clear hb hbox hg; obtain ⟨hcz12_0, hcz12_1, hcz12_2, hcz12_3, hcz12_4⟩ := cells5_ (show w11.heap[gb211]? = some (.cells #[.int .i64 a0.f0, .int .i64 a0.f1, .int .i64 a0.f2, .int .i64 a0.f3, .bool a0.f4] 44 (0, 0)) from BK211.out); obtain ⟨hfz12_0, hfz12_1, hfz12_2, hfz12_3, hfz12_4⟩ := frozen5_ BK211.out) | ((with_reducible refine gate_callee (f := 76) rfl ?_); refine goesL_ (some 5) rfl rfl Try.func76 (by kernel_rfl) rfl #[.int .i64 a0.f1, .int .i64 2, .int .i64 1000] rfl (by (try simp only [List.map_toArray, List.map_cons, List.map_nil]); first | done | rfl | (simp only [List.length_drop, List.length_take]; rfl) | (simp only [List.drop_one]; done) | (simp only [List.drop_one]; rfl)) ?_; (with_reducible refine (impl_within.calls a0.f1 2 1000 true _ A2.out).mono ?_); rintro e w' ⟨rfl, ⟨nd, rfl⟩⟩; refine ⟨_, rfl, ?_⟩) | (go_at_call 76; (with_reducible refine (impl_within.calls a0.f0 1 (wrap64 (Int.tdiv a0.f1 2)) true _ A4.out).mono ?_); rintro e w' ⟨rfl, ⟨nd, rfl⟩⟩) | (go_at_call 76; (with_reducible refine (impl_within.calls a0.f2 1 1000 false _ A6.out).mono ?_); rintro e w' ⟨rfl, ⟨nd, rfl⟩⟩))
        go_ret
        exact ⟨by first | rfl | (simp [errW_none, errW_some] <;> rfl) | (simp [*, errW_none, errW_some] <;> rfl), by repeat (first | (with_reducible first | exact HB.out | apply below_alloc | apply pw_below_drewN | apply below_drew1 | refine below_set ?_ GE211.out) | exact HB.out)⟩
    · replace c5 := Bool.eq_false_iff.mpr c5
      subst c5
      have H1 : (some false) = some r := by rw [if_neg (show ¬ (false = true) by decide)] at H; exact H
      clear H
      have H := H1
      clear H1
      obtain rfl := Option.some.inj H
      go_enter Try.func65, Try.ntmps65
      go_wp2_with (first | ((with_reducible refine gate_dst (N := 1) rfl ?_); refine box_event ?hg (N := 1) ?hd (cs := #[.int .i64 a0.f0, .int .i64 a0.f1, .int .i64 a0.f2, .int .i64 a0.f3, .bool a0.f4]) (t := 44) ?hr ?_; (case hd => rfl); (case hg => rfl); (case hr => first | (go_simp; done) | (go_simp; rfl)); intro gb211 hg w13 hbox hb; have n0_ := Aside0.mk (below_step (by repeat (first | (with_reducible first | exact HB.out | apply below_alloc | apply pw_below_drewN | apply below_drew1) | exact HB.out)) hb); have n1_ := Aside0.mk (hbox); have n2_ := Aside0.mk ((by rw [hg]; exact (below_size (by repeat (first | (with_reducible first | exact HB.out | apply below_alloc | apply pw_below_drewN | apply below_drew1) | exact HB.out))) : w.heap.size ≤ gb211)); have n3_ := Aside0.mk ((by rw [hg]; exact (below_size (by repeat (first | (with_reducible first | exact HB.out | apply below_alloc | apply pw_below_drewN | apply below_drew1) | exact HB.out))) : w.heap.size ≤ gb211)); clear HB; have HB := n0_; have BK211 := n1_; have GW211 := n2_; have GE211 := n3_; clear n0_ n1_ n2_ n3_; clear hb hbox hg; obtain ⟨hcz14_0, hcz14_1, hcz14_2, hcz14_3, hcz14_4⟩ := cells5_ (show w13.heap[gb211]? = some (.cells #[.int .i64 a0.f0, .int .i64 a0.f1, .int .i64 a0.f2, .int .i64 a0.f3, .bool a0.f4] 44 (0, 0)) from BK211.out); obtain ⟨hfz14_0, hfz14_1, hfz14_2, hfz14_3, hfz14_4⟩ := frozen5_ BK211.out) | ((with_reducible refine gate_callee (f := 76) rfl ?_); refine goesL_ (some 5) rfl rfl Try.func76 (by kernel_rfl) rfl #[.int .i64 a0.f1, .int .i64 2, .int .i64 1000] rfl (by (try simp only [List.map_toArray, List.map_cons, List.map_nil]); first | done | rfl | (simp only [List.length_drop, List.length_take]; rfl) | (simp only [List.drop_one]; done) | (simp only [List.drop_one]; rfl)) ?_; (with_reducible refine (impl_within.calls a0.f1 2 1000 true _ A2.out).mono ?_); rintro e w' ⟨rfl, ⟨nd, rfl⟩⟩; refine ⟨_, rfl, ?_⟩) | (go_at_call 76; (with_reducible refine (impl_within.calls a0.f0 1 (wrap64 (Int.tdiv a0.f1 2)) false _ A4.out).mono ?_); rintro e w' ⟨rfl, ⟨nd, rfl⟩⟩))
      go_ret
      exact ⟨by first | rfl | (simp [errW_none, errW_some] <;> rfl) | (simp [*, errW_none, errW_some] <;> rfl), by repeat (first | (with_reducible first | exact HB.out | apply below_alloc | apply pw_below_drewN | apply below_drew1 | refine below_set ?_ GE211.out) | exact HB.out)⟩
  · replace c3 := Bool.eq_false_iff.mpr c3
    subst c3
    have H1 : (some false) = some r := by rw [if_neg (show ¬ (false = true) by decide)] at H; exact H
    clear H
    have H := H1
    clear H1
    obtain rfl := Option.some.inj H
    go_enter Try.func65, Try.ntmps65
    go_wp2_with (first | ((with_reducible refine gate_dst (N := 1) rfl ?_); refine box_event ?hg (N := 1) ?hd (cs := #[.int .i64 a0.f0, .int .i64 a0.f1, .int .i64 a0.f2, .int .i64 a0.f3, .bool a0.f4]) (t := 44) ?hr ?_; (case hd => rfl); (case hg => rfl); (case hr => first | (go_simp; done) | (go_simp; rfl)); intro gb211 hg w15 hbox hb; have n0_ := Aside0.mk (below_step (by repeat (first | (with_reducible first | exact HB.out | apply below_alloc | apply pw_below_drewN | apply below_drew1) | exact HB.out)) hb); have n1_ := Aside0.mk (hbox); have n2_ := Aside0.mk ((by rw [hg]; exact (below_size (by repeat (first | (with_reducible first | exact HB.out | apply below_alloc | apply pw_below_drewN | apply below_drew1) | exact HB.out))) : w.heap.size ≤ gb211)); have n3_ := Aside0.mk ((by rw [hg]; exact (below_size (by repeat (first | (with_reducible first | exact HB.out | apply below_alloc | apply pw_below_drewN | apply below_drew1) | exact HB.out))) : w.heap.size ≤ gb211)); clear HB; have HB := n0_; have BK211 := n1_; have GW211 := n2_; have GE211 := n3_; clear n0_ n1_ n2_ n3_; clear hb hbox hg; obtain ⟨hcz16_0, hcz16_1, hcz16_2, hcz16_3, hcz16_4⟩ := cells5_ (show w15.heap[gb211]? = some (.cells #[.int .i64 a0.f0, .int .i64 a0.f1, .int .i64 a0.f2, .int .i64 a0.f3, .bool a0.f4] 44 (0, 0)) from BK211.out); obtain ⟨hfz16_0, hfz16_1, hfz16_2, hfz16_3, hfz16_4⟩ := frozen5_ BK211.out) | ((with_reducible refine gate_callee (f := 76) rfl ?_); refine goesL_ (some 5) rfl rfl Try.func76 (by kernel_rfl) rfl #[.int .i64 a0.f1, .int .i64 2, .int .i64 1000] rfl (by (try simp only [List.map_toArray, List.map_cons, List.map_nil]); first | done | rfl | (simp only [List.length_drop, List.length_take]; rfl) | (simp only [List.drop_one]; done) | (simp only [List.drop_one]; rfl)) ?_; (with_reducible refine (impl_within.calls a0.f1 2 1000 false _ A2.out).mono ?_); rintro e w' ⟨rfl, ⟨nd, rfl⟩⟩; refine ⟨_, rfl, ?_⟩))
    go_ret
    exact ⟨by first | rfl | (simp [errW_none, errW_some] <;> rfl) | (simp [*, errW_none, errW_some] <;> rfl), by repeat (first | (with_reducible first | exact HB.out | apply below_alloc | apply pw_below_drewN | apply below_drew1 | refine below_set ?_ GE211.out) | exact HB.out)⟩

/-! ### impl_one: function 100 -/
def impl_one.f  : Option (S23) := some (⟨1, 0, 0, 0, 0, 0⟩ : S23)
set_option maxHeartbeats 8000000 in
set_option maxRecDepth 100000 in
theorem impl_one.calls  (r : S23) (w : World) (h : impl_one.f  = some r) :
    Calls Try.prog 100 #[] w fun e w' => e = .returned (.agg #[.int .u32 r.f0, .int .u32 r.f1, .int .u32 r.f2, .int .u32 r.f3, .int .u32 r.f4, .int .u32 r.f5]) ∧ Below w.heap.size w w' := by
  have hu111 := Try.underlying111
  have HB := Aside0.mk (Below.refl w.heap.size w)
  have H : (some (⟨1, 0, 0, 0, 0, 0⟩ : S23)) = some r := h
  clear h
  obtain rfl := Option.some.inj H
  go_enter Try.func100, Try.ntmps100
  go_wp2_with (first | ((with_reducible refine gate_dst (N := 0) rfl ?_); refine box_event ?hg (N := 0) ?hd (cs := #[.int .u32 0, .int .u32 0, .int .u32 0, .int .u32 0, .int .u32 0, .int .u32 0]) (t := 111) ?hr ?_; (case hd => rfl); (case hg => rfl); (case hr => first | (go_simp; done) | (go_simp; rfl)); intro gb216 hg w1 hbox hb; have n0_ := Aside0.mk (below_step (by repeat (first | (with_reducible first | exact HB.out | apply below_alloc | apply pw_below_drewN | apply below_drew1) | exact HB.out)) hb); have n1_ := Aside0.mk (hbox); have n2_ := Aside0.mk ((by rw [hg]; exact (below_size (by repeat (first | (with_reducible first | exact HB.out | apply below_alloc | apply pw_below_drewN | apply below_drew1) | exact HB.out))) : w.heap.size ≤ gb216)); have n3_ := Aside0.mk ((by rw [hg]; exact (below_size (by repeat (first | (with_reducible first | exact HB.out | apply below_alloc | apply pw_below_drewN | apply below_drew1) | exact HB.out))) : w.heap.size ≤ gb216)); clear HB; have HB := n0_; have BK216 := n1_; have GW216 := n2_; have GE216 := n3_; clear n0_ n1_ n2_ n3_; clear hb hbox hg; obtain ⟨hcz2_0, hcz2_1, hcz2_2, hcz2_3, hcz2_4, hcz2_5⟩ := cells6_ (show w1.heap[gb216]? = some (.cells #[.int .u32 0, .int .u32 0, .int .u32 0, .int .u32 0, .int .u32 0, .int .u32 0] 111 (0, 0)) from BK216.out); obtain ⟨hfz2_0, hfz2_1, hfz2_2, hfz2_3, hfz2_4, hfz2_5⟩ := frozen6_ BK216.out))
  refine bodyPost_ret (results_cell_row rfl _ _ gb216 111 #[.int .u32 1, .int .u32 0, .int .u32 0, .int .u32 0, .int .u32 0, .int .u32 0] (0, 0) _ rfl (by (with_reducible repeat (first | refine blk_drewN ?_ _ | refine blk_drew ?_ | refine blk_alloc ?_ _)); refine puts6_ (.int .u32 0) (.int .u32 0) (.int .u32 0) (.int .u32 0) (.int .u32 0) (.int .u32 0) ?_; (with_reducible repeat (first | refine blk_drewN ?_ _ | refine blk_drew ?_ | refine blk_alloc ?_ _)); exact BK216.out) Try.underlying111 rfl (by kernel_rfl)) rfl ?_
  exact ⟨by first | rfl | (simp [errW_none, errW_some] <;> rfl) | (simp [*, errW_none, errW_some] <;> rfl), by repeat (first | (with_reducible first | exact HB.out | apply below_alloc | apply pw_below_drewN | apply below_drew1 | refine below_set ?_ GE216.out) | exact HB.out)⟩

/-! ### impl_size_up: function 101, by hand -/
def impl_size_up.f (a0 : S23) (a1 : Int) : Option (S23) := (mun a0).bind fun m => if 0 ≤ a1 ∧ a1 < 192 then some (wlm (m * 2 ^ a1.toNat)) else none
theorem impl_size_up.calls (a0 : S23) (a1 : Int) (r : S23) (w : World) (h : impl_size_up.f a0 a1 = some r) :
    Calls Try.prog 101 #[.agg #[.int .u32 a0.f0, .int .u32 a0.f1, .int .u32 a0.f2, .int .u32 a0.f3, .int .u32 a0.f4, .int .u32 a0.f5], .int .i64 a1] w fun e w' => e = .returned (.agg #[.int .u32 r.f0, .int .u32 r.f1, .int .u32 r.f2, .int .u32 r.f3, .int .u32 r.f4, .int .u32 r.f5]) ∧ Below w.heap.size w w' := by
  unfold impl_size_up.f at h
  obtain ⟨m, hm, h2⟩ := Option.bind_eq_some_iff.mp h
  clear h
  obtain ⟨rfl, hx⟩ := mun_some hm
  have h := h2
  clear h2
  split at h
  · rename_i c
    obtain rfl := Option.some.inj h
    obtain ⟨b, rfl⟩ : ∃ b : Nat, a1 = (b : Int) := ⟨a1.toNat, by omega⟩
    exact Wide.iUp w m b hx (by omega)
  · exact absurd h (by simp)

set_option linter.defProp false
def kA102_ := @blk_alloc
def kN102_ := @blk_drewN
def kD102_ := @blk_drew
def bS102_ := @below_set
def aM102_ := @Aside0.mk
def kC102_ := @blk_cell
theorem q102x1_ {P : Prop} (h : P := by (with_reducible repeat (first | refine kN102_ ?_ _ | refine kD102_ ?_ | refine kA102_ ?_ _)); exact BK217.out) : P := h
theorem q102x2_ {P : Prop} (h : P := by rw [hw]; exact (by repeat (first | (with_reducible first | exact HB.out | apply below_alloc | apply pw_below_drewN | apply below_drew1 | refine bS102_ ?_ GE217.out | refine bS102_ ?_ GE218.out | refine bS102_ ?_ GE219.out | refine bS102_ ?_ GE220.out) | exact HB.out))) : P := h
theorem q102x3_ {P : Prop} (h : P := by (rcases (show (ji35) = 0 ∨ (ji35) = 1 ∨ (ji35) = 2 ∨ (ji35) = 3 ∨ (ji35) = 4 ∨ (ji35) = 5 ∨ (ji35) = 6 ∨ (ji35) = 7 ∨ (ji35) = 8 ∨ (ji35) = 9 ∨ (ji35) = 10 ∨ (ji35) = 11 from (by have h_ := HP226.out; omega)) with rfl | rfl | rfl | rfl | rfl | rfl | rfl | rfl | rfl | rfl | rfl | rfl <;> first | exact (kC102_ BK220.out 0).trans rfl | exact (kC102_ BK220.out 1).trans rfl | exact (kC102_ BK220.out 2).trans rfl | exact (kC102_ BK220.out 3).trans rfl | exact (kC102_ BK220.out 4).trans rfl | exact (kC102_ BK220.out 5).trans rfl | exact (kC102_ BK220.out 6).trans rfl | exact (kC102_ BK220.out 7).trans rfl | exact (kC102_ BK220.out 8).trans rfl | exact (kC102_ BK220.out 9).trans rfl | exact (kC102_ BK220.out 10).trans rfl | exact (kC102_ BK220.out 11).trans rfl)) : P := h
theorem q102x4_ {P : Prop} (h : P := by first | (with_reducible assumption) | assumption) : P := h
theorem q102x5_ {P : Prop} (h : P := by (with_reducible repeat (first | refine kN102_ ?_ _ | refine kD102_ ?_ | refine kA102_ ?_ _)); exact BK218.out) : P := h
theorem q102x6_ {P : Prop} (h : P := by (with_reducible repeat (first | refine kN102_ ?_ _ | refine kD102_ ?_ | refine kA102_ ?_ _)); exact BK219.out) : P := h
theorem q102x7_ {P : Prop} (h : P := by repeat (first | (with_reducible first | exact HB.out | apply below_alloc | apply pw_below_drewN | apply below_drew1 | refine bS102_ ?_ GE217.out | refine bS102_ ?_ GE218.out | refine bS102_ ?_ GE219.out) | exact HB.out)) : P := h
theorem q102x8_ {P : Prop} (h : P := by rw [hw]; exact (by (with_reducible repeat (first | refine kN102_ ?_ _ | refine kD102_ ?_ | refine kA102_ ?_ _)); refine puts6_ (.int .u32 x220000_2.f0) (.int .u32 x220000_2.f1) (.int .u32 x220000_2.f2) (.int .u32 x220000_2.f3) (.int .u32 x220000_2.f4) (.int .u32 x220000_2.f5) ?_; (with_reducible repeat (first | refine kN102_ ?_ _ | refine kD102_ ?_ | refine kA102_ ?_ _)); exact BK219.out)) : P := h
theorem q102x9_ {P : Prop} (h : P := by repeat (first | (with_reducible first | exact HB.out | apply below_alloc | apply pw_below_drewN | apply below_drew1 | refine bS102_ ?_ GE217.out | refine bS102_ ?_ GE218.out) | exact HB.out)) : P := h
theorem q102x10_ {P : Prop} (h : P := by rw [hg]; exact Nat.ne_of_lt (blk_lt (g := gb217) (o := .cells #[.int .u32 a0.f0, .int .u32 a0.f1, .int .u32 a0.f2, .int .u32 a0.f3, .int .u32 a0.f4, .int .u32 a0.f5] 111 (0, 0)) q102x1_)) : P := h
theorem q102x11_ {P : Prop} (h : P := by rw [hg]; exact Nat.ne_of_gt (blk_lt (g := gb217) (o := .cells #[.int .u32 a0.f0, .int .u32 a0.f1, .int .u32 a0.f2, .int .u32 a0.f3, .int .u32 a0.f4, .int .u32 a0.f5] 111 (0, 0)) q102x1_)) : P := h
theorem q102x12_ {P : Prop} (h : P := by repeat (first | (with_reducible first | exact HB.out | apply below_alloc | apply pw_below_drewN | apply below_drew1 | refine bS102_ ?_ GE217.out) | exact HB.out)) : P := h
theorem q102x13_ {P : Prop} (h : P := by rw [hw]; exact (by (with_reducible repeat (first | refine kN102_ ?_ _ | refine kD102_ ?_ | refine kA102_ ?_ _ | refine blk_far ?_ NB217_219.out _)); (with_reducible repeat (first | refine kN102_ ?_ _ | refine kD102_ ?_ | refine kA102_ ?_ _)); exact BK217.out)) : P := h
theorem q102x14_ {P : Prop} (h : P := by rw [hw]; exact (by (with_reducible repeat (first | refine kN102_ ?_ _ | refine kD102_ ?_ | refine kA102_ ?_ _ | refine blk_far ?_ NB218_219.out _)); (with_reducible repeat (first | refine kN102_ ?_ _ | refine kD102_ ?_ | refine kA102_ ?_ _)); exact BK218.out)) : P := h
theorem q102x15_ {P : Prop} (h : P := by rw [hw]; exact (by (with_reducible repeat (first | refine kN102_ ?_ _ | refine kD102_ ?_ | refine kA102_ ?_ _ | refine blk_far ?_ NB220_219.out _)); (with_reducible repeat (first | refine kN102_ ?_ _ | refine kD102_ ?_ | refine kA102_ ?_ _)); exact BK220.out)) : P := h
theorem q102x16_ {P : Prop} (h : P := by rw [hw]; exact (by (with_reducible repeat (first | refine kN102_ ?_ _ | refine kD102_ ?_ | refine kA102_ ?_ _ | refine blk_far ?_ NB217_220.out _)); (with_reducible repeat (first | refine kN102_ ?_ _ | refine kD102_ ?_ | refine kA102_ ?_ _)); exact BK217.out)) : P := h
theorem q102x17_ {P : Prop} (h : P := by rw [hw]; exact (by (with_reducible repeat (first | refine kN102_ ?_ _ | refine kD102_ ?_ | refine kA102_ ?_ _ | refine blk_far ?_ NB218_220.out _)); (with_reducible repeat (first | refine kN102_ ?_ _ | refine kD102_ ?_ | refine kA102_ ?_ _)); exact BK218.out)) : P := h
theorem q102x18_ {P : Prop} (h : P := by rw [hw]; exact (by (with_reducible repeat (first | refine kN102_ ?_ _ | refine kD102_ ?_ | refine kA102_ ?_ _ | refine blk_far ?_ NB219_220.out _)); (with_reducible repeat (first | refine kN102_ ?_ _ | refine kD102_ ?_ | refine kA102_ ?_ _)); exact BK219.out)) : P := h
theorem q102x19_ {P : Prop} (h : P := by first | rfl | (simp; done) | (simp [*]; done)) : P := h
theorem q102x20_ {P : Prop} (h : P := by repeat (first | (with_reducible first | exact HB.out | apply below_alloc | apply pw_below_drewN | apply below_drew1) | exact HB.out)) : P := h
theorem q102x21_ {P : Prop} (h : P := by rw [hg]; exact Nat.ne_of_lt (blk_lt (g := gb218) (o := .cells #[.int .u32 a1.f0, .int .u32 a1.f1, .int .u32 a1.f2, .int .u32 a1.f3, .int .u32 a1.f4, .int .u32 a1.f5] 111 (0, 0)) q102x5_)) : P := h
theorem q102x22_ {P : Prop} (h : P := by rw [hg]; exact Nat.ne_of_gt (blk_lt (g := gb218) (o := .cells #[.int .u32 a1.f0, .int .u32 a1.f1, .int .u32 a1.f2, .int .u32 a1.f3, .int .u32 a1.f4, .int .u32 a1.f5] 111 (0, 0)) q102x5_)) : P := h
/-! ### impl_size_times: function 102 -/
def impl_size_times.f (k : Nat) (a0 : S23) (a1 : S23) : Option (S23 × Bool) := (mun a0).bind fun m => (mun a1).bind fun n => if m * n < 4294967296 ^ 6 then some (wlm (m * n), false) else some (wlm 0, true)
theorem impl_size_times.mono : ∀ a0 a1 k, LeO (impl_size_times.f k a0 a1) (impl_size_times.f (k + 1) a0 a1) := by
 intros
 exact LeO.refl _
theorem impl_size_times.calls (k : Nat) (a0 : S23) (a1 : S23) (r1 : S23) (r2 : Bool) (w : World) (h : impl_size_times.f k a0 a1 = some (r1, r2)) :
  Calls Try.prog 102 #[.agg #[.int .u32 a0.f0, .int .u32 a0.f1, .int .u32 a0.f2, .int .u32 a0.f3, .int .u32 a0.f4, .int .u32 a0.f5], .agg #[.int .u32 a1.f0, .int .u32 a1.f1, .int .u32 a1.f2, .int .u32 a1.f3, .int .u32 a1.f4, .int .u32 a1.f5]] w fun e w' => e = .returned (.tuple #[.agg #[.int .u32 r1.f0, .int .u32 r1.f1, .int .u32 r1.f2, .int .u32 r1.f3, .int .u32 r1.f4, .int .u32 r1.f5], .bool r2]) ∧ Below w.heap.size w w' := by
 obtain ⟨m, hm, e⟩ := Option.bind_eq_some_iff.mp h
 obtain ⟨n, hn, e2⟩ := Option.bind_eq_some_iff.mp e
 clear e h
 have e := e2
 clear e2
 obtain ⟨rfl, hx⟩ := mun_some hm
 obtain ⟨rfl, hy⟩ := mun_some hn
 refine (Wide.iTimes w m n hx hy).mono ?_
 rintro e' w' ⟨rfl, hb⟩
 refine ⟨?_, hb⟩
 by_cases c : m * n < 4294967296 ^ 6
 · rw [if_pos c] at e
   obtain ⟨rfl, rfl⟩ := Prod.mk.inj (Option.some.inj e)
   rw [(Wide.timA_pos c).1, (Wide.timA_pos c).2]
   rfl
 · rw [if_neg c] at e
   obtain ⟨rfl, rfl⟩ := Prod.mk.inj (Option.some.inj e)
   rw [(Wide.timA_neg c).1, (Wide.timA_neg c).2]
   rfl


set_option linter.defProp false

theorem q103x1_ {P : Prop} (h : P := by repeat (first | (with_reducible first | exact HB.out | apply below_alloc | apply pw_below_drewN | apply below_drew1 | refine below_set ?_ GE227.out) | exact HB.out)) : P := h
theorem q103x2_ {P : Prop} (h : P := by repeat (first | (with_reducible first | exact HB.out | apply below_alloc | apply pw_below_drewN | apply below_drew1) | exact HB.out)) : P := h
theorem q103x3_ {P : Prop} (h : P := by (with_reducible repeat (first | refine blk_drewN ?_ _ | refine blk_drew ?_ | refine blk_alloc ?_ _)); exact BK227.out) : P := h
theorem q103x4_ {P : Prop} (h : P := by rw [hw]; exact (by repeat (first | (with_reducible first | exact HB.out | apply below_alloc | apply pw_below_drewN | apply below_drew1 | refine below_set ?_ GE227.out | refine below_set ?_ GE228.out) | exact HB.out))) : P := h
/-! ### impl_size_bySmall: function 103 -/
def impl_size_bySmall.f (k : Nat) (a0 : S23) (a1 : Int) : Option (S23 × Int) := (mun a0).bind fun m => if 0 < a1 ∧ a1 < 4294967296 then some (wlm (m / a1.toNat), ((m % a1.toNat : Nat) : Int)) else none
theorem impl_size_bySmall.mono : ∀ a0 a1 k, LeO (impl_size_bySmall.f k a0 a1) (impl_size_bySmall.f (k + 1) a0 a1) := by
 intros
 exact LeO.refl _
theorem impl_size_bySmall.calls (k : Nat) (a0 : S23) (a1 : Int) (r1 : S23) (r2 : Int) (w : World) (h : impl_size_bySmall.f k a0 a1 = some (r1, r2)) :
  Calls Try.prog 103 #[.agg #[.int .u32 a0.f0, .int .u32 a0.f1, .int .u32 a0.f2, .int .u32 a0.f3, .int .u32 a0.f4, .int .u32 a0.f5], .int .u32 a1] w fun e w' => e = .returned (.tuple #[.agg #[.int .u32 r1.f0, .int .u32 r1.f1, .int .u32 r1.f2, .int .u32 r1.f3, .int .u32 r1.f4, .int .u32 r1.f5], .int .u32 r2]) ∧ Below w.heap.size w w' := by
 obtain ⟨m, hm, e⟩ := Option.bind_eq_some_iff.mp h
 obtain ⟨rfl, hx⟩ := mun_some hm
 split at e
 · rename_i c
   obtain ⟨d, rfl⟩ : ∃ d : Nat, a1 = (d : Int) := ⟨a1.toNat, by omega⟩
   rw [Int.toNat_natCast] at e
   obtain ⟨rfl, rfl⟩ := Prod.mk.inj (Option.some.inj e)
   exact Wide.iSmall w m d hx (by omega)
 · exact absurd e (by simp)


set_option linter.defProp false
def kA66_ := @blk_alloc
def kN66_ := @blk_drewN
def kD66_ := @blk_drew
def aM66_ := @Aside0.mk
theorem q66x1_ {P : Prop} (h : P := by (with_reducible repeat (first | refine kN66_ ?_ _ | refine kD66_ ?_ | refine kA66_ ?_ _)); exact BK231.out) : P := h
theorem q66x2_ {P : Prop} (h : P := by (with_reducible repeat (first | refine kN66_ ?_ _ | refine kD66_ ?_ | refine kA66_ ?_ _)); exact BK235.out) : P := h
theorem q66x3_ {P : Prop} (h : P := by repeat (first | (with_reducible first | exact HB.out | apply below_alloc | apply pw_below_drewN | apply below_drew1 | refine below_set ?_ GE231.out | refine below_set ?_ GE235.out | refine below_set ?_ GE238.out) | exact HB.out)) : P := h
theorem q66x4_ {P : Prop} (h : P := by repeat (first | (with_reducible first | exact HB.out | apply below_alloc | apply pw_below_drewN | apply below_drew1 | refine below_set ?_ GE231.out | refine below_set ?_ GE235.out | refine below_set ?_ GE238.out | refine below_set ?_ GE244.out) | exact HB.out)) : P := h
theorem q66x5_ {P : Prop} (h : P := by (with_reducible repeat (first | refine kN66_ ?_ _ | refine kD66_ ?_ | refine kA66_ ?_ _)); exact BK238.out) : P := h
theorem q66x6_ {P : Prop} (h : P := by repeat (first | (with_reducible first | exact HB.out | apply below_alloc | apply pw_below_drewN | apply below_drew1 | refine below_set ?_ GE231.out | refine below_set ?_ GE235.out) | exact HB.out)) : P := h
theorem q66x7_ {P : Prop} (h : P := by repeat (first | (with_reducible first | exact HB.out | apply below_alloc | apply pw_below_drewN | apply below_drew1 | refine below_set ?_ GE231.out) | exact HB.out)) : P := h
theorem q66x8_ {P : Prop} (h : P := by (try simp only [List.map_toArray, List.map_cons, List.map_nil]); first | done | rfl | (simp only [List.length_drop, List.length_take]; rfl) | (simp only [List.drop_one]; done) | (simp only [List.drop_one]; rfl)) : P := h
theorem q66x9_ {P : Prop} (h : P := by rw [hg]; exact Nat.ne_of_lt (blk_lt (g := gb231) (o := .cells #[.int .i64 a0.f0, .int .i64 a0.f1, .int .i64 a0.f2, .int .i64 a0.f3, .bool a0.f4] 44 (0, 0)) q66x1_)) : P := h
theorem q66x10_ {P : Prop} (h : P := by rw [hg]; exact Nat.ne_of_gt (blk_lt (g := gb231) (o := .cells #[.int .i64 a0.f0, .int .i64 a0.f1, .int .i64 a0.f2, .int .i64 a0.f3, .bool a0.f4] 44 (0, 0)) q66x1_)) : P := h
theorem q66x11_ {P : Prop} (h : P := by rw [hg]; exact Nat.ne_of_lt (blk_lt (g := gb235) (o := .cells #[.int .u32 ((a0.f0) % 4294967296), .int .u32 0, .int .u32 0, .int .u32 0, .int .u32 0, .int .u32 0] 111 (0, 0)) q66x2_)) : P := h
theorem q66x12_ {P : Prop} (h : P := by rw [hg]; exact Nat.ne_of_gt (blk_lt (g := gb235) (o := .cells #[.int .u32 ((a0.f0) % 4294967296), .int .u32 0, .int .u32 0, .int .u32 0, .int .u32 0, .int .u32 0] 111 (0, 0)) q66x2_)) : P := h
theorem q66x13_ {P : Prop} (h : P := by (with_reducible repeat (first | refine kN66_ ?_ _ | refine kD66_ ?_ | refine kA66_ ?_ _)); exact BK244.out) : P := h
theorem q66x14_ {P : Prop} (h : P := by (with_reducible repeat (first | apply Kd.R_alloc | apply Kd.R_drewN | apply Kd.R_drew)); exact HO234.out) : P := h
theorem q66x15_ {P : Prop} (h : P := by (with_reducible repeat (first | apply Kd.R_alloc | apply Kd.R_drewN | apply Kd.R_drew)); exact HO241.out) : P := h
theorem q66x16_ {P : Prop} (h : P := by rw [hw]; exact (by (with_reducible repeat (first | refine kN66_ ?_ _ | refine kD66_ ?_ | refine kA66_ ?_ _ | refine blk_far ?_ NB231_238.out _)); (with_reducible repeat (first | refine kN66_ ?_ _ | refine kD66_ ?_ | refine kA66_ ?_ _)); exact BK231.out)) : P := h
theorem q66x17_ {P : Prop} (h : P := by rw [hw]; exact (by (with_reducible repeat (first | refine kN66_ ?_ _ | refine kD66_ ?_ | refine kA66_ ?_ _ | refine blk_far ?_ NB235_238.out _)); (with_reducible repeat (first | refine kN66_ ?_ _ | refine kD66_ ?_ | refine kA66_ ?_ _)); exact BK235.out)) : P := h
theorem q66x18_ {P : Prop} (h : P := by repeat (first | (with_reducible first | exact HB.out | apply below_alloc | apply pw_below_drewN | apply below_drew1) | exact HB.out)) : P := h
/-! ### impl_Series_parts: function 66 -/
def impl_Series_parts.l0 : Nat → List (S23) → S40 → S23 → S23 → Option ((List (S23)))
 | 0, _, _, _, _ => none
 | k + 1, x5, x232000, x236000, x239000 => if (!(x239000.f0 == 0) || (!(x239000.f1 == 0) || (!(x239000.f2 == 0) || (!(x239000.f3 == 0) || (!(x239000.f4 == 0) || (!(x239000.f5 == 0))))))) = true then (if x5.length < 5864062014805 then ((impl_size_times.f k x239000 x236000).bind fun bt242 => ((impl_size_bySmall.f k bt242.1 ((x232000.f1) % 4294967296)).bind fun bt245 => (impl_Series_parts.l0 k (x5 ++ [x239000]) x232000 x236000 bt245.1))) else (none)) else (some x5)
def impl_Series_parts.f (k : Nat) (a0 : S40) (a1 : Int) : Option ((List (S23))) := (impl_one.f).bind fun t236 => ((impl_size_up.f t236 (wrap64 (a1 + 10))).bind fun t237 => (impl_Series_parts.l0 k (([] : List (S23))) a0 (⟨(a0.f0) % 4294967296, 0, 0, 0, 0, 0⟩ : S23) t237))
theorem impl_Series_parts.mono_l : ∀ k, (∀ y0 y1 y2 y3, LeO (impl_Series_parts.l0 k y0 y1 y2 y3) (impl_Series_parts.l0 (k + 1) y0 y1 y2 y3))
 | 0 => fun _ _ _ _ r h => by simp [impl_Series_parts.l0] at h
 | k + 1 => by
  have ih0 := impl_Series_parts.mono_l k
  intro y0 y1 y2 y3
  unfold impl_Series_parts.l0
  repeat' first
  | (with_reducible exact ih0 _ _ _ _)
  | (with_reducible exact impl_size_bySmall.mono _ _ _)
  | (with_reducible exact impl_size_times.mono _ _ _)
  | (with_reducible exact LeO.refl _)
  | (with_reducible exact LeO.none _)
  | (with_reducible refine LeO.ite ?_ ?_)
  | (with_reducible refine LeO.bind ?_ (fun _ => ?_))
  | exact ih0 _ _ _ _
  | exact impl_size_bySmall.mono _ _ _
  | exact impl_size_times.mono _ _ _
  | exact LeO.none _
  | refine LeO.ite ?_ ?_
  | refine LeO.bind ?_ (fun _ => ?_)
theorem impl_Series_parts.mono : ∀ a0 a1 k, LeO (impl_Series_parts.f k a0 a1) (impl_Series_parts.f (k + 1) a0 a1) := by
 intro a0 a1 k
 have ih0 := impl_Series_parts.mono_l k
 unfold impl_Series_parts.f
 repeat' first
   | (with_reducible exact ih0 _ _ _ _)
   | (with_reducible exact impl_size_bySmall.mono _ _ _)
   | (with_reducible exact impl_size_times.mono _ _ _)
   | (with_reducible exact LeO.refl _)
   | (with_reducible exact LeO.none _)
   | (with_reducible refine LeO.ite ?_ ?_)
   | (with_reducible refine LeO.bind ?_ (fun _ => ?_))
   | exact ih0 _ _ _ _
   | exact impl_size_bySmall.mono _ _ _
   | exact impl_size_times.mono _ _ _
   | exact LeO.none _
   | refine LeO.ite ?_ ?_
   | refine LeO.bind ?_ (fun _ => ?_)
attribute [local go_sem high] Wide.eqA111
theorem OBfresh {b : Nat} {w0 w : World} {bl : List (Nat × Array Value × Nat)} (h : Wide.OB b w0 w bl) : Wide.okB bl w.heap.size := fun p hp e1 => by
  have := (Array.getElem?_eq_some_iff.1 (h.m p hp).1).1
  omega
theorem RBstart {α : Type} {d : Kd α} {e : Nat} {w0 w w1 : World} {bl : List (Nat × Array Value × Nat)} {v : Value} {xs : List α} (h : Wide.OB w0.heap.size w0 w bl) (ho : d.R e w1 w0.heap.size (Wide.okB bl) v xs) (hb : Below w0.heap.size w0 w1) (hg : w.grownBy w1 none) : Wide.RB d e w0 w1 bl v xs :=
  ⟨⟨fun p hp => ⟨blk_grown (h.m p hp).1 hg (by simp), (h.m p hp).2⟩, h.nd, hb, Nat.le_trans h.sz hg.size⟩, ho⟩
set_option maxHeartbeats 8000000 in
set_option maxRecDepth 100000 in
theorem impl_Series_parts.calls (k : Nat) (a0 : S40) (a1 : Int) (r : List (S23)) (w : World) (h : impl_Series_parts.f k a0 a1 = some r) :
  Calls Try.prog 66 #[.agg #[.int .i64 a0.f0, .int .i64 a0.f1, .int .i64 a0.f2, .int .i64 a0.f3, .bool a0.f4], .int .i64 a1] w fun e w' => ∃ v0_ : Value, e = .returned (v0_) ∧ Kd.R k23 111 w' w.heap.size (fun _ => True) v0_ r ∧ Below w.heap.size w w' := by
  have hu44 := Try.underlying44
  have hu111 := Try.underlying111
  unfold impl_Series_parts.f at h
  obtain ⟨t1, m1, h⟩ := Option.bind_eq_some_iff.mp h
  obtain ⟨t2, m2, h⟩ := Option.bind_eq_some_iff.mp h
  have M1 := Aside0.mk m1
  have M2 := Aside0.mk m2
  have H := Aside0.mk h
  clear h m1 m2
  have HO := Aside0.mk (Wide.OB.start w)
  go_enter Try.func66, Try.ntmps66
  go_wp2_with (first | ((with_reducible refine gate_dst (N := 2) rfl ?_); refine box_event ?hg (N := 2) ?hd (cs := #[.int .i64 a0.f0, .int .i64 a0.f1, .int .i64 a0.f2, .int .i64 a0.f3, .bool a0.f4]) (t := 44) ?hr ?_; (case hd => rfl); (case hg => rfl); (case hr => first | (go_simp; done) | (go_simp; rfl)); intro g1 hg w1 hbox hb; replace HO := Aside0.mk (HO.out.box hg hbox hb); clear hg hbox hb; obtain ⟨s0, s1, s2, s3, s4⟩ := cells5_ (HO.out.at 0 rfl)) | ((with_reducible refine gate_dst (N := 10) rfl ?_); refine Kd.R_lit k23 _ 111 ?hg (N := 10) ?hd (xs := ([] : List S23)) (inner := []) (ok := Wide.okB [(g1, #[.int .i64 a0.f0, .int .i64 a0.f1, .int .i64 a0.f2, .int .i64 a0.f3, .bool a0.f4], 44)]) (okp := fun _ => False) ?hr ?hp (fun _ hk => hk.elim) ?hf HO.out.bel HO.out.sz (by simp) ?_; (case hd => rfl); (case hg => rfl); (case hr => first | (go_simp; done) | (go_simp; rfl)); (case hp => exact Reps.none _ _); (case hf => exact OBfresh HO.out); intro v10 w2 ho hb hg hnew; replace HO := Aside0.mk (RBstart HO.out ho hb hg); clear ho hb hg hnew s0 s1 s2 s3 s4; obtain ⟨s0, s1, s2, s3, s4⟩ := cells5_ (HO.out.ob.at 0 rfl)) | ((with_reducible refine gate_dst (N := 6) rfl ?_); refine box_event ?hg (N := 6) ?hd (cs := #[.int .u32 0, .int .u32 0, .int .u32 0, .int .u32 0, .int .u32 0, .int .u32 0]) (t := 111) ?hr ?_; (case hd => rfl); (case hg => rfl); (case hr => first | (go_simp; done) | (go_simp; rfl)); intro g2 hg w3 hbox hb; replace HO := Aside0.mk (HO.out.box hg hbox hb); clear hg hbox hb) | ((with_reducible refine gate_store (t := 111) (p := 6) rfl ?_); refine store_event (t := 111) (p := 6) (v := ?vo_1) (w1 := (World.setCell (World.setCell (World.setCell (World.setCell (World.setCell (World.setCell w3 ⟨g2, 0, none⟩ (.int .u32 (a0.f0 % 4294967296))) ⟨g2, 1, none⟩ (.int .u32 0)) ⟨g2, 2, none⟩ (.int .u32 0)) ⟨g2, 3, none⟩ (.int .u32 0)) ⟨g2, 4, none⟩ (.int .u32 0)) ⟨g2, 5, none⟩ (.int .u32 0))) ?hg ?ho ?hn ?hr ?_; (case ho => rfl); (case hg => rfl); (case hn => rfl); (case hr => (try simp only [Act.put, List.setIfInBounds_toArray, List.set_cons_zero, List.set_cons_succ]); exact run_put6_ rfl (show _ = Value.pointer (some ⟨g2, 0, none⟩) from by rfl) (show _ = Value.agg #[.int .u32 (a0.f0 % 4294967296), .int .u32 0, .int .u32 0, .int .u32 0, .int .u32 0, .int .u32 0] from by rfl) (HO.out.ob.at 0 rfl) (by kernel_rfl) (by rfl)); intro w4 hw; replace HO := Aside0.mk (HO.out.put6 0 rfl hw rfl); clear hw; clear s0 s1 s2 s3 s4) | (go_at_call 100; (with_reducible refine (impl_one.calls t1 _ M1.out).mono ?_); rintro e w5 ⟨rfl, hb⟩; replace HO := Aside0.mk (HO.out.below hb); clear hb) | (go_at_call 101; (with_reducible refine (impl_size_up.calls t1 _ t2 _ M2.out).mono ?_); rintro e w6 ⟨rfl, hb⟩; replace HO := Aside0.mk (HO.out.below hb); clear hb) | ((with_reducible refine gate_dst (N := 7) rfl ?_); refine box_event ?hg (N := 7) ?hd (cs := #[.int .u32 0, .int .u32 0, .int .u32 0, .int .u32 0, .int .u32 0, .int .u32 0]) (t := 111) ?hr ?_; (case hd => rfl); (case hg => rfl); (case hr => first | (go_simp; done) | (go_simp; rfl)); intro g3 hg w7 hbox hb; replace HO := Aside0.mk (HO.out.box hg hbox hb); clear hg hbox hb) | ((with_reducible refine gate_store (t := 111) (p := 7) rfl ?_); refine store_event (t := 111) (p := 7) (v := ?vo_2) (w1 := (World.setCell (World.setCell (World.setCell (World.setCell (World.setCell (World.setCell w7 ⟨g3, 0, none⟩ (.int .u32 t2.f0)) ⟨g3, 1, none⟩ (.int .u32 t2.f1)) ⟨g3, 2, none⟩ (.int .u32 t2.f2)) ⟨g3, 3, none⟩ (.int .u32 t2.f3)) ⟨g3, 4, none⟩ (.int .u32 t2.f4)) ⟨g3, 5, none⟩ (.int .u32 t2.f5))) ?hg ?ho ?hn ?hr ?_; (case ho => rfl); (case hg => rfl); (case hn => rfl); (case hr => (try simp only [Act.put, List.setIfInBounds_toArray, List.set_cons_zero, List.set_cons_succ]); exact run_put6_ rfl (show _ = Value.pointer (some ⟨g3, 0, none⟩) from by rfl) (show _ = Value.agg #[.int .u32 t2.f0, .int .u32 t2.f1, .int .u32 t2.f2, .int .u32 t2.f3, .int .u32 t2.f4, .int .u32 t2.f5] from by rfl) (HO.out.ob.at 0 rfl) (by kernel_rfl) (by rfl)); intro w8 hw; replace HO := Aside0.mk (HO.out.put6 0 rfl hw rfl); clear hw))
  simp only [Act.put, List.setIfInBounds_toArray, List.set_cons_zero, List.set_cons_succ]
  go_loopg [5, 7] k (fun kq v5 v7 w' => ∃ (xs : List S23) (u : S23) (g3 : Nat), v7 = .pointer (some ⟨g3, 0, none⟩) ∧ Aside0 (impl_Series_parts.l0 kq xs a0 (⟨a0.f0 % 4294967296, 0, 0, 0, 0, 0⟩ : S23) u = some r) ∧ Aside0 (kq ≤ k) ∧ Aside0 (Wide.RB k23 111 w w' [(g3, #[.int .u32 u.f0, .int .u32 u.f1, .int .u32 u.f2, .int .u32 u.f3, .int .u32 u.f4, .int .u32 u.f5], 111), (g2, #[.int .u32 (a0.f0 % 4294967296), .int .u32 0, .int .u32 0, .int .u32 0, .int .u32 0, .int .u32 0], 111), (g1, #[.int .i64 a0.f0, .int .i64 a0.f1, .int .i64 a0.f2, .int .i64 a0.f3, .bool a0.f4], 44)] v5 xs))
  case atStart => exact ⟨_, _, _, rfl, H, ⟨Nat.le_refl _⟩, HO⟩
  case round =>
    clear HO H M1 M2
    obtain ⟨xs, u, g3, rfl, H, HK, HO⟩ := hrel
    cases gk with
    | zero => exact absurd H.out (by simp [impl_Series_parts.l0])
    | succ k1 =>
    have h := H.out
    clear H
    rw [impl_Series_parts.l0] at h
    obtain ⟨hm0, hm1, hm2, hm3, hm4, hm5⟩ := cells6_ (HO.out.ob.at 0 rfl)
    cases cz : (!(u.f0 == 0) || (!(u.f1 == 0) || (!(u.f2 == 0) || (!(u.f3 == 0) || (!(u.f4 == 0) || (!(u.f5 == 0))))))) with
    | false =>
      rw [cz, if_neg (by decide)] at h
      obtain rfl := Option.some.inj h
      clear h
      go_wp2
      go_ret
      exact ⟨_, rfl, Kd.R_mono HO.out.r (fun _ _ => trivial), HO.out.ob.bel⟩
    | true =>
      rw [cz, if_pos rfl] at h
      by_cases hl : xs.length < 5864062014805
      rotate_left
      · rw [if_neg hl] at h; exact absurd h (by simp)
      rw [if_pos hl] at h
      obtain ⟨⟨t3, t4⟩, m3, h⟩ := Option.bind_eq_some_iff.mp h
      obtain ⟨⟨t5, t6⟩, m5, h⟩ := Option.bind_eq_some_iff.mp h
      have HL := Aside0.mk hl
      have M3 := Aside0.mk m3
      have M5 := Aside0.mk m5
      have H := Aside0.mk h
      clear h m3 m5 hl
      go_wp2_with (first | ((with_reducible refine gate_builtin (b := .append) (xs := #[.tmp 22, .tmp 24]) rfl ?_); at_builtin; refine Kd.R_append k23 (w0 := w) w.heap.size rfl (.tmp 22) (.tmp 24) 86 111 (.agg #[(.int .u32 0), (.int .u32 0), (.int .u32 0), (.int .u32 0), (.int .u32 0), (.int .u32 0)]) 24 rfl Try.underlying86 info111 rfl (by decide) (by omega) u5 xs u [.int .u32 u.f0, .int .u32 u.f1, .int .u32 u.f2, .int .u32 u.f3, .int .u32 u.f4, .int .u32 u.f5] (Wide.okB [(g3, #[.int .u32 u.f0, .int .u32 u.f1, .int .u32 u.f2, .int .u32 u.f3, .int .u32 u.f4, .int .u32 u.f5], 111), (g2, #[.int .u32 (a0.f0 % 4294967296), .int .u32 0, .int .u32 0, .int .u32 0, .int .u32 0, .int .u32 0], 111), (g1, #[.int .i64 a0.f0, .int .i64 a0.f1, .int .i64 a0.f2, .int .i64 a0.f3, .bool a0.f4], 44)]) (fun _ => False) rfl rfl ?aP (fun _ hk => hk.elim) ?aF ?aO ?aB ?aS ?aL ?_; (case aP => exact k23_mkM _ _ _ u); (case aF => exact HO.out.fresh); (case aO => exact HO.out.r); (case aB => exact HO.out.ob.bel); (case aS => exact HO.out.ob.sz); (case aL => have := HL.out; omega); intro v6 w5 ho hb hg hat; replace HO := Aside0.mk (HO.out.grown ho hb hg); clear ho hb hg hat; obtain ⟨hm0, hm1, hm2, hm3, hm4, hm5⟩ := cells6_ (HO.out.ob.at 0 rfl); obtain ⟨hn0, hn1, hn2, hn3, hn4, hn5⟩ := cells6_ (HO.out.ob.at 1 rfl)) | (go_at_call 102; (with_reducible refine (impl_size_times.calls k1 u (⟨a0.f0 % 4294967296, 0, 0, 0, 0, 0⟩ : S23) t3 t4 _ M3.out).mono ?_); rintro e w6 ⟨rfl, hb⟩; replace HO := Aside0.mk (HO.out.below hb); clear hb; clear hm0 hm1 hm2 hm3 hm4 hm5 hn0 hn1 hn2 hn3 hn4 hn5) | ((with_reducible refine gate_dst (N := 8) rfl ?_); refine box_event ?hg (N := 8) ?hd (cs := #[.int .u32 0, .int .u32 0, .int .u32 0, .int .u32 0, .int .u32 0, .int .u32 0]) (t := 111) ?hr ?_; (case hd => rfl); (case hg => rfl); (case hr => first | (go_simp; done) | (go_simp; rfl)); intro g4 hg w7 hbox hb; replace HO := Aside0.mk (HO.out.box hg hbox hb); clear hg hbox hb) | ((with_reducible refine gate_store (t := 111) (p := 8) rfl ?_); refine store_event (t := 111) (p := 8) (v := ?vo_3) (w1 := (World.setCell (World.setCell (World.setCell (World.setCell (World.setCell (World.setCell w7 ⟨g4, 0, none⟩ (.int .u32 t3.f0)) ⟨g4, 1, none⟩ (.int .u32 t3.f1)) ⟨g4, 2, none⟩ (.int .u32 t3.f2)) ⟨g4, 3, none⟩ (.int .u32 t3.f3)) ⟨g4, 4, none⟩ (.int .u32 t3.f4)) ⟨g4, 5, none⟩ (.int .u32 t3.f5))) ?hg ?ho ?hn ?hr ?_; (case ho => rfl); (case hg => rfl); (case hn => rfl); (case hr => (try simp only [Act.put, List.setIfInBounds_toArray, List.set_cons_zero, List.set_cons_succ]); exact run_put6_ rfl (show _ = Value.pointer (some ⟨g4, 0, none⟩) from by rfl) (show _ = Value.agg #[.int .u32 t3.f0, .int .u32 t3.f1, .int .u32 t3.f2, .int .u32 t3.f3, .int .u32 t3.f4, .int .u32 t3.f5] from by rfl) (HO.out.ob.at 0 rfl) (by kernel_rfl) (by rfl)); intro w8 hw; replace HO := Aside0.mk (HO.out.put6 0 rfl hw rfl); clear hw; obtain ⟨hm0, hm1, hm2, hm3, hm4, hm5⟩ := cells6_ (HO.out.ob.at 0 rfl); obtain ⟨s0, s1, s2, s3, s4⟩ := cells5_ (HO.out.ob.at 3 rfl)) | (go_at_call 103; (with_reducible refine (impl_size_bySmall.calls k1 t3 _ t5 t6 _ M5.out).mono ?_); rintro e w9 ⟨rfl, hb⟩; replace HO := Aside0.mk (HO.out.below hb); clear hb; clear hm0 hm1 hm2 hm3 hm4 hm5; clear s0 s1 s2 s3 s4) | ((with_reducible refine gate_store (t := 111) (p := 7) rfl ?_); refine store_event (t := 111) (p := 7) (v := ?vo_4) (w1 := (World.setCell (World.setCell (World.setCell (World.setCell (World.setCell (World.setCell w9 ⟨g3, 0, none⟩ (.int .u32 t5.f0)) ⟨g3, 1, none⟩ (.int .u32 t5.f1)) ⟨g3, 2, none⟩ (.int .u32 t5.f2)) ⟨g3, 3, none⟩ (.int .u32 t5.f3)) ⟨g3, 4, none⟩ (.int .u32 t5.f4)) ⟨g3, 5, none⟩ (.int .u32 t5.f5))) ?hg ?ho ?hn ?hr ?_; (case ho => rfl); (case hg => rfl); (case hn => rfl); (case hr => (try simp only [Act.put, List.setIfInBounds_toArray, List.set_cons_zero, List.set_cons_succ]); exact run_put6_ rfl (show _ = Value.pointer (some ⟨g3, 0, none⟩) from by rfl) (show _ = Value.agg #[.int .u32 t5.f0, .int .u32 t5.f1, .int .u32 t5.f2, .int .u32 t5.f3, .int .u32 t5.f4, .int .u32 t5.f5] from by rfl) (HO.out.ob.at 1 rfl) (by kernel_rfl) (by rfl)); intro w11 hw; replace HO := Aside0.mk (HO.out.put6 1 rfl hw rfl); clear hw; obtain ⟨hm0, hm1, hm2, hm3, hm4, hm5⟩ := cells6_ (HO.out.ob.at 1 rfl)) | ((with_reducible refine gate_dst (N := 7) rfl ?_); refine box_event ?hg (N := 7) ?hd (cs := #[.int .u32 0, .int .u32 0, .int .u32 0, .int .u32 0, .int .u32 0, .int .u32 0]) (t := 111) ?hr ?_; (case hd => rfl); (case hg => rfl); (case hr => first | (go_simp; done) | (go_simp; rfl)); intro g5 hg w12 hbox hb; replace HO := Aside0.mk (HO.out.box hg hbox hb); clear hg hbox hb; clear hm0 hm1 hm2 hm3 hm4 hm5) | ((with_reducible refine gate_store (t := 111) (p := 7) rfl ?_); refine store_event (t := 111) (p := 7) (v := ?vo_5) (w1 := (World.setCell (World.setCell (World.setCell (World.setCell (World.setCell (World.setCell w12 ⟨g5, 0, none⟩ (.int .u32 t5.f0)) ⟨g5, 1, none⟩ (.int .u32 t5.f1)) ⟨g5, 2, none⟩ (.int .u32 t5.f2)) ⟨g5, 3, none⟩ (.int .u32 t5.f3)) ⟨g5, 4, none⟩ (.int .u32 t5.f4)) ⟨g5, 5, none⟩ (.int .u32 t5.f5))) ?hg ?ho ?hn ?hr ?_; (case ho => rfl); (case hg => rfl); (case hn => rfl); (case hr => (try simp only [Act.put, List.setIfInBounds_toArray, List.set_cons_zero, List.set_cons_succ]); exact run_put6_ rfl (show _ = Value.pointer (some ⟨g5, 0, none⟩) from by rfl) (show _ = Value.agg #[.int .u32 t5.f0, .int .u32 t5.f1, .int .u32 t5.f2, .int .u32 t5.f3, .int .u32 t5.f4, .int .u32 t5.f5] from by rfl) (HO.out.ob.at 0 rfl) (by kernel_rfl) (by rfl)); intro w13 hw; replace HO := Aside0.mk (HO.out.put6 0 rfl hw rfl); clear hw))
      simp only [Act.put, List.setIfInBounds_toArray, List.set_cons_zero, List.set_cons_succ]
      go_roundg k1
      case measure => omega
      case rel => exact ⟨xs ++ [u], t5, g5, rfl, H, ⟨by have := HK.out; omega⟩, ⟨HO.out.sub (.cons_cons _ (.cons _ (.cons _ (.refl _))))⟩⟩

/-! ### impl_SeriesTerms: function 23 -/
def impl_SeriesTerms.f (k : Nat) (a0 : S40) (a1 : Int) : Option (Int × Int) := (impl_ValidSeries.f a0).bind fun t249 => (if t249 = true then ((impl_placesOk.f a1).bind fun t250 => (if t250 = true then ((impl_Series_parts.f k a0 a1).bind fun t251 => (some ((t251.length : Int), 0))) else (some (0, 2)))) else (some (0, 1)))
theorem impl_SeriesTerms.mono : ∀ a0 a1 k, LeO (impl_SeriesTerms.f k a0 a1) (impl_SeriesTerms.f (k + 1) a0 a1) := by
  intro a0 a1 k
  unfold impl_SeriesTerms.f
  repeat' first
      | (with_reducible exact impl_Series_parts.mono _ _ _)
      | (with_reducible exact LeO.refl _)
      | (with_reducible exact LeO.none _)
      | (with_reducible refine LeO.ite ?_ ?_)
      | (with_reducible refine LeO.bind ?_ (fun _ => ?_))
      | exact impl_Series_parts.mono _ _ _
      | exact LeO.none _
      | refine LeO.ite ?_ ?_
      | refine LeO.bind ?_ (fun _ => ?_)
set_option maxHeartbeats 8000000 in
set_option maxRecDepth 100000 in
theorem impl_SeriesTerms.calls (k : Nat) (a0 : S40) (a1 : Int) (r1 : Int) (r2 : Int) (w : World) (h : impl_SeriesTerms.f k a0 a1 = some (r1, r2)) :
    Calls Try.prog 23 #[.agg #[.int .i64 a0.f0, .int .i64 a0.f1, .int .i64 a0.f2, .int .i64 a0.f3, .bool a0.f4], .int .i64 a1] w fun e w' => e = .returned (.tuple #[.int .i64 r1, .int .i64 r2]) ∧ Below w.heap.size w w' := by
  have hu44 := Try.underlying44
  have HB := Aside0.mk (Below.refl w.heap.size w)
  have H : ((impl_ValidSeries.f a0).bind fun t249 => (if t249 = true then ((impl_placesOk.f a1).bind fun t250 => (if t250 = true then ((impl_Series_parts.f k a0 a1).bind fun t251 => (some ((t251.length : Int), 0))) else (some (0, 2)))) else (some (0, 1)))) = some (r1, r2) := h
  clear h
  replace H := Option.bind_eq_some_iff.mp H
  obtain ⟨t249, A30, H⟩ := H
  replace H : (if t249 = true then ((impl_placesOk.f a1).bind fun t250 => (if t250 = true then ((impl_Series_parts.f k a0 a1).bind fun t251 => (some ((t251.length : Int), 0))) else (some (0, 2)))) else (some (0, 1))) = some (r1, r2) := H
  have A3 := Aside0.mk A30
  clear A30
  by_cases c4 : t249 = true
  · subst c4
    have H1 : ((impl_placesOk.f a1).bind fun t250 => (if t250 = true then ((impl_Series_parts.f k a0 a1).bind fun t251 => (some ((t251.length : Int), 0))) else (some (0, 2)))) = some (r1, r2) := by rw [if_pos rfl] at H; exact H
    clear H
    have H := H1
    clear H1
    replace H := Option.bind_eq_some_iff.mp H
    obtain ⟨t250, A50, H⟩ := H
    replace H : (if t250 = true then ((impl_Series_parts.f k a0 a1).bind fun t251 => (some ((t251.length : Int), 0))) else (some (0, 2))) = some (r1, r2) := H
    have A5 := Aside0.mk A50
    clear A50
    by_cases c6 : t250 = true
    · subst c6
      have H1 : ((impl_Series_parts.f k a0 a1).bind fun t251 => (some ((t251.length : Int), 0))) = some (r1, r2) := by rw [if_pos rfl] at H; exact H
      clear H
      have H := H1
      clear H1
      replace H := Option.bind_eq_some_iff.mp H
      obtain ⟨t251, A70, H⟩ := H
      replace H : (some ((t251.length : Int), 0)) = some (r1, r2) := H
      have A7 := Aside0.mk A70
      clear A70
      simp only [Option.some.injEq, Prod.mk.injEq] at H
      obtain ⟨rfl, rfl⟩ := H
      go_enter Try.func23, Try.ntmps23
      go_wp2_with (first | ((with_reducible refine gate_dst (N := 2) rfl ?_); refine box_event ?hg (N := 2) ?hd (cs := #[.int .i64 a0.f0, .int .i64 a0.f1, .int .i64 a0.f2, .int .i64 a0.f3, .bool a0.f4]) (t := 44) ?hr ?_; (case hd => rfl); (case hg => rfl); (case hr => first | (go_simp; done) | (go_simp; rfl)); intro gb248 hg w8 hbox hb; have n0_ := Aside0.mk (below_step (by repeat (first | (with_reducible first | exact HB.out | apply below_alloc | apply pw_below_drewN | apply below_drew1) | exact HB.out)) hb); have n1_ := Aside0.mk (hbox); have n2_ := Aside0.mk ((by rw [hg]; exact (below_size (by repeat (first | (with_reducible first | exact HB.out | apply below_alloc | apply pw_below_drewN | apply below_drew1) | exact HB.out))) : w.heap.size ≤ gb248)); have n3_ := Aside0.mk ((by rw [hg]; exact (below_size (by repeat (first | (with_reducible first | exact HB.out | apply below_alloc | apply pw_below_drewN | apply below_drew1) | exact HB.out))) : w.heap.size ≤ gb248)); clear HB; have HB := n0_; have BK248 := n1_; have GW248 := n2_; have GE248 := n3_; clear n0_ n1_ n2_ n3_; clear hb hbox hg; obtain ⟨hcz9_0, hcz9_1, hcz9_2, hcz9_3, hcz9_4⟩ := cells5_ (show w8.heap[gb248]? = some (.cells #[.int .i64 a0.f0, .int .i64 a0.f1, .int .i64 a0.f2, .int .i64 a0.f3, .bool a0.f4] 44 (0, 0)) from BK248.out); obtain ⟨hfz9_0, hfz9_1, hfz9_2, hfz9_3, hfz9_4⟩ := frozen5_ BK248.out) | ((with_reducible refine gate_callee (f := 65) rfl ?_); refine goesL_ (some 7) rfl rfl Try.func65 (by kernel_rfl) rfl #[.agg #[.int .i64 a0.f0, .int .i64 a0.f1, .int .i64 a0.f2, .int .i64 a0.f3, .bool a0.f4]] rfl (by (try simp only [List.map_toArray, List.map_cons, List.map_nil]); first | done | rfl | (simp only [List.length_drop, List.length_take]; rfl) | (simp only [List.drop_one]; done) | (simp only [List.drop_one]; rfl)) ?_; (with_reducible refine (impl_ValidSeries.calls a0 true _ A3.out).mono ?_); rintro e w10 ⟨rfl, hb⟩; refine ⟨_, rfl, ?_⟩; have n0_ := Aside0.mk (blk_below (g := gb248) (o := .cells #[.int .i64 a0.f0, .int .i64 a0.f1, .int .i64 a0.f2, .int .i64 a0.f3, .bool a0.f4] 44 (0, 0)) (by (with_reducible repeat (first | refine blk_drewN ?_ _ | refine blk_drew ?_ | refine blk_alloc ?_ _)); exact BK248.out) hb); have n1_ := Aside0.mk (below_step (by repeat (first | (with_reducible first | exact HB.out | apply below_alloc | apply pw_below_drewN | apply below_drew1 | refine below_set ?_ GE248.out) | exact HB.out)) hb); clear BK248 HB; have BK248 := n0_; have HB := n1_; clear n0_ n1_; (try clear hb); (try clear hb2); (try clear hk); (try clear hi)) | ((with_reducible refine gate_callee (f := 59) rfl ?_); refine goesL_ (some 10) rfl rfl Try.func59 (by kernel_rfl) rfl #[.int .i64 a1] rfl (by (try simp only [List.map_toArray, List.map_cons, List.map_nil]); first | done | rfl | (simp only [List.length_drop, List.length_take]; rfl) | (simp only [List.drop_one]; done) | (simp only [List.drop_one]; rfl)) ?_; (with_reducible refine (impl_placesOk.calls a1 true _ A5.out).mono ?_); rintro e w' ⟨rfl, ⟨nd, rfl⟩⟩; refine ⟨_, rfl, ?_⟩; obtain ⟨hcz11_0, hcz11_1, hcz11_2, hcz11_3, hcz11_4⟩ := cells5_ (show w10.heap[gb248]? = some (.cells #[.int .i64 a0.f0, .int .i64 a0.f1, .int .i64 a0.f2, .int .i64 a0.f3, .bool a0.f4] 44 (0, 0)) from BK248.out); obtain ⟨hfz11_0, hfz11_1, hfz11_2, hfz11_3, hfz11_4⟩ := frozen5_ BK248.out) | ((with_reducible refine gate_callee (f := 66) rfl ?_); refine goesL_ (some 14) rfl rfl Try.func66 (by kernel_rfl) rfl #[.agg #[.int .i64 a0.f0, .int .i64 a0.f1, .int .i64 a0.f2, .int .i64 a0.f3, .bool a0.f4], .int .i64 a1] rfl (by (try simp only [List.map_toArray, List.map_cons, List.map_nil]); first | done | rfl | (simp only [List.length_drop, List.length_take]; rfl) | (simp only [List.drop_one]; done) | (simp only [List.drop_one]; rfl)) ?_; (with_reducible refine (impl_Series_parts.calls k a0 a1 t251 _ A7.out).mono ?_); rintro e w12 ⟨v252, rfl, ho0, hb⟩; refine ⟨_, rfl, ?_⟩; have n0_ := Aside0.mk (Kd.R_lower ho0 (below_size (by repeat (first | (with_reducible first | exact HB.out | apply below_alloc | apply pw_below_drewN | apply below_drew1 | refine below_set ?_ GE248.out) | exact HB.out)))); have n1_ := Aside0.mk (blk_below (g := gb248) (o := .cells #[.int .i64 a0.f0, .int .i64 a0.f1, .int .i64 a0.f2, .int .i64 a0.f3, .bool a0.f4] 44 (0, 0)) (by (with_reducible repeat (first | refine blk_drewN ?_ _ | refine blk_drew ?_ | refine blk_alloc ?_ _)); exact BK248.out) hb); have n2_ := Aside0.mk (below_step (by repeat (first | (with_reducible first | exact HB.out | apply below_alloc | apply pw_below_drewN | apply below_drew1 | refine below_set ?_ GE248.out) | exact HB.out)) hb); clear BK248 HB; have HO253 := n0_; have BK248 := n1_; have HB := n2_; clear n0_ n1_ n2_; (try clear hb); (try clear hb2); (try clear hk); (try clear hi); (try clear ho0); obtain ⟨Ao13, co13, eo13⟩ := Kd.R_slice HO253.out; subst eo13))
      go_ret2
      exact ⟨by first | rfl | (simp [errW_none, errW_some] <;> rfl) | (simp [*, errW_none, errW_some] <;> rfl), by repeat (first | (with_reducible first | exact HB.out | apply below_alloc | apply pw_below_drewN | apply below_drew1 | refine below_set ?_ GE248.out) | exact HB.out)⟩
    · replace c6 := Bool.eq_false_iff.mpr c6
      subst c6
      have H1 : (some (0, 2)) = some (r1, r2) := by rw [if_neg (show ¬ (false = true) by decide)] at H; exact H
      clear H
      have H := H1
      clear H1
      simp only [Option.some.injEq, Prod.mk.injEq] at H
      obtain ⟨rfl, rfl⟩ := H
      go_enter Try.func23, Try.ntmps23
      go_wp2_with (first | ((with_reducible refine gate_dst (N := 2) rfl ?_); refine box_event ?hg (N := 2) ?hd (cs := #[.int .i64 a0.f0, .int .i64 a0.f1, .int .i64 a0.f2, .int .i64 a0.f3, .bool a0.f4]) (t := 44) ?hr ?_; (case hd => rfl); (case hg => rfl); (case hr => first | (go_simp; done) | (go_simp; rfl)); intro gb248 hg w14 hbox hb; have n0_ := Aside0.mk (below_step (by repeat (first | (with_reducible first | exact HB.out | apply below_alloc | apply pw_below_drewN | apply below_drew1) | exact HB.out)) hb); have n1_ := Aside0.mk (hbox); have n2_ := Aside0.mk ((by rw [hg]; exact (below_size (by repeat (first | (with_reducible first | exact HB.out | apply below_alloc | apply pw_below_drewN | apply below_drew1) | exact HB.out))) : w.heap.size ≤ gb248)); have n3_ := Aside0.mk ((by rw [hg]; exact (below_size (by repeat (first | (with_reducible first | exact HB.out | apply below_alloc | apply pw_below_drewN | apply below_drew1) | exact HB.out))) : w.heap.size ≤ gb248)); clear HB; have HB := n0_; have BK248 := n1_; have GW248 := n2_; have GE248 := n3_; clear n0_ n1_ n2_ n3_; clear hb hbox hg; obtain ⟨hcz15_0, hcz15_1, hcz15_2, hcz15_3, hcz15_4⟩ := cells5_ (show w14.heap[gb248]? = some (.cells #[.int .i64 a0.f0, .int .i64 a0.f1, .int .i64 a0.f2, .int .i64 a0.f3, .bool a0.f4] 44 (0, 0)) from BK248.out); obtain ⟨hfz15_0, hfz15_1, hfz15_2, hfz15_3, hfz15_4⟩ := frozen5_ BK248.out) | ((with_reducible refine gate_callee (f := 65) rfl ?_); refine goesL_ (some 7) rfl rfl Try.func65 (by kernel_rfl) rfl #[.agg #[.int .i64 a0.f0, .int .i64 a0.f1, .int .i64 a0.f2, .int .i64 a0.f3, .bool a0.f4]] rfl (by (try simp only [List.map_toArray, List.map_cons, List.map_nil]); first | done | rfl | (simp only [List.length_drop, List.length_take]; rfl) | (simp only [List.drop_one]; done) | (simp only [List.drop_one]; rfl)) ?_; (with_reducible refine (impl_ValidSeries.calls a0 true _ A3.out).mono ?_); rintro e w16 ⟨rfl, hb⟩; refine ⟨_, rfl, ?_⟩; have n0_ := Aside0.mk (blk_below (g := gb248) (o := .cells #[.int .i64 a0.f0, .int .i64 a0.f1, .int .i64 a0.f2, .int .i64 a0.f3, .bool a0.f4] 44 (0, 0)) (by (with_reducible repeat (first | refine blk_drewN ?_ _ | refine blk_drew ?_ | refine blk_alloc ?_ _)); exact BK248.out) hb); have n1_ := Aside0.mk (below_step (by repeat (first | (with_reducible first | exact HB.out | apply below_alloc | apply pw_below_drewN | apply below_drew1 | refine below_set ?_ GE248.out) | exact HB.out)) hb); clear BK248 HB; have BK248 := n0_; have HB := n1_; clear n0_ n1_; (try clear hb); (try clear hb2); (try clear hk); (try clear hi)) | ((with_reducible refine gate_callee (f := 59) rfl ?_); refine goesL_ (some 10) rfl rfl Try.func59 (by kernel_rfl) rfl #[.int .i64 a1] rfl (by (try simp only [List.map_toArray, List.map_cons, List.map_nil]); first | done | rfl | (simp only [List.length_drop, List.length_take]; rfl) | (simp only [List.drop_one]; done) | (simp only [List.drop_one]; rfl)) ?_; (with_reducible refine (impl_placesOk.calls a1 false _ A5.out).mono ?_); rintro e w' ⟨rfl, ⟨nd, rfl⟩⟩; refine ⟨_, rfl, ?_⟩))
      go_ret2
      exact ⟨by first | rfl | (simp [errW_none, errW_some] <;> rfl) | (simp [*, errW_none, errW_some] <;> rfl), by repeat (first | (with_reducible first | exact HB.out | apply below_alloc | apply pw_below_drewN | apply below_drew1 | refine below_set ?_ GE248.out) | exact HB.out)⟩
  · replace c4 := Bool.eq_false_iff.mpr c4
    subst c4
    have H1 : (some (0, 1)) = some (r1, r2) := by rw [if_neg (show ¬ (false = true) by decide)] at H; exact H
    clear H
    have H := H1
    clear H1
    simp only [Option.some.injEq, Prod.mk.injEq] at H
    obtain ⟨rfl, rfl⟩ := H
    go_enter Try.func23, Try.ntmps23
    go_wp2_with (first | ((with_reducible refine gate_dst (N := 2) rfl ?_); refine box_event ?hg (N := 2) ?hd (cs := #[.int .i64 a0.f0, .int .i64 a0.f1, .int .i64 a0.f2, .int .i64 a0.f3, .bool a0.f4]) (t := 44) ?hr ?_; (case hd => rfl); (case hg => rfl); (case hr => first | (go_simp; done) | (go_simp; rfl)); intro gb248 hg w17 hbox hb; have n0_ := Aside0.mk (below_step (by repeat (first | (with_reducible first | exact HB.out | apply below_alloc | apply pw_below_drewN | apply below_drew1) | exact HB.out)) hb); have n1_ := Aside0.mk (hbox); have n2_ := Aside0.mk ((by rw [hg]; exact (below_size (by repeat (first | (with_reducible first | exact HB.out | apply below_alloc | apply pw_below_drewN | apply below_drew1) | exact HB.out))) : w.heap.size ≤ gb248)); have n3_ := Aside0.mk ((by rw [hg]; exact (below_size (by repeat (first | (with_reducible first | exact HB.out | apply below_alloc | apply pw_below_drewN | apply below_drew1) | exact HB.out))) : w.heap.size ≤ gb248)); clear HB; have HB := n0_; have BK248 := n1_; have GW248 := n2_; have GE248 := n3_; clear n0_ n1_ n2_ n3_; clear hb hbox hg; obtain ⟨hcz18_0, hcz18_1, hcz18_2, hcz18_3, hcz18_4⟩ := cells5_ (show w17.heap[gb248]? = some (.cells #[.int .i64 a0.f0, .int .i64 a0.f1, .int .i64 a0.f2, .int .i64 a0.f3, .bool a0.f4] 44 (0, 0)) from BK248.out); obtain ⟨hfz18_0, hfz18_1, hfz18_2, hfz18_3, hfz18_4⟩ := frozen5_ BK248.out) | ((with_reducible refine gate_callee (f := 65) rfl ?_); refine goesL_ (some 7) rfl rfl Try.func65 (by kernel_rfl) rfl #[.agg #[.int .i64 a0.f0, .int .i64 a0.f1, .int .i64 a0.f2, .int .i64 a0.f3, .bool a0.f4]] rfl (by (try simp only [List.map_toArray, List.map_cons, List.map_nil]); first | done | rfl | (simp only [List.length_drop, List.length_take]; rfl) | (simp only [List.drop_one]; done) | (simp only [List.drop_one]; rfl)) ?_; (with_reducible refine (impl_ValidSeries.calls a0 false _ A3.out).mono ?_); rintro e w19 ⟨rfl, hb⟩; refine ⟨_, rfl, ?_⟩; have n0_ := Aside0.mk (blk_below (g := gb248) (o := .cells #[.int .i64 a0.f0, .int .i64 a0.f1, .int .i64 a0.f2, .int .i64 a0.f3, .bool a0.f4] 44 (0, 0)) (by (with_reducible repeat (first | refine blk_drewN ?_ _ | refine blk_drew ?_ | refine blk_alloc ?_ _)); exact BK248.out) hb); have n1_ := Aside0.mk (below_step (by repeat (first | (with_reducible first | exact HB.out | apply below_alloc | apply pw_below_drewN | apply below_drew1 | refine below_set ?_ GE248.out) | exact HB.out)) hb); clear BK248 HB; have BK248 := n0_; have HB := n1_; clear n0_ n1_; (try clear hb); (try clear hb2); (try clear hk); (try clear hi)))
    go_ret2
    exact ⟨by first | rfl | (simp [errW_none, errW_some] <;> rfl) | (simp [*, errW_none, errW_some] <;> rfl), by repeat (first | (with_reducible first | exact HB.out | apply below_alloc | apply pw_below_drewN | apply below_drew1 | refine below_set ?_ GE248.out) | exact HB.out)⟩

set_option linter.defProp false
def aM6_ := @Aside0.mk
theorem q6x1_ {P : Prop} (h : P := by (try simp only [List.map_toArray, List.map_cons, List.map_nil]); first | done | rfl | (simp only [List.length_drop, List.length_take]; rfl) | (simp only [List.drop_one]; done) | (simp only [List.drop_one]; rfl)) : P := h
theorem q6x2_ {P : Prop} (h : P := by repeat (first | (with_reducible first | exact HB.out | apply below_alloc | apply pw_below_drewN | apply below_drew1 | refine below_set ?_ GE254.out) | exact HB.out)) : P := h
theorem q6x3_ {P : Prop} (h : P := by (with_reducible repeat (first | refine blk_drewN ?_ _ | refine blk_drew ?_ | refine blk_alloc ?_ _)); exact BK254.out) : P := h
theorem q6x4_ {P : Prop} (h : P := by repeat (first | (with_reducible first | exact HB.out | apply below_alloc | apply pw_below_drewN | apply below_drew1) | exact HB.out)) : P := h
theorem q6x5_ {P : Prop} (h : P := by rw [hg]; exact (below_size q6x4_)) : P := h
/-! ### laws_FnExactSeriesTerms: function 6 -/
def laws_FnExactSeriesTerms.f (k : Nat) (a0 : S40) (a1 : Int) : Option (Bool) := (laws_toSeries.f a0).bind fun t255 => ((spec_SeriesTerms.f k t255 a1).bind fun bt256 => ((laws_toSeries.f a0).bind fun t258 => ((impl_SeriesTerms.f k t258 a1).bind fun bt259 => (if bt259.1 = bt256.1 then (if bt259.2 = bt256.2 then (some true) else (some false)) else (some false)))))
theorem laws_FnExactSeriesTerms.mono : ∀ a0 a1 k, LeO (laws_FnExactSeriesTerms.f k a0 a1) (laws_FnExactSeriesTerms.f (k + 1) a0 a1) := by
 intro a0 a1 k
 unfold laws_FnExactSeriesTerms.f
 repeat' first
   | (with_reducible exact impl_SeriesTerms.mono _ _ _)
   | (with_reducible exact spec_SeriesTerms.mono _ _ _)
   | (with_reducible exact LeO.refl _)
   | (with_reducible exact LeO.none _)
   | (with_reducible refine LeO.ite ?_ ?_)
   | (with_reducible refine LeO.bind ?_ (fun _ => ?_))
   | exact impl_SeriesTerms.mono _ _ _
   | exact spec_SeriesTerms.mono _ _ _
   | exact LeO.none _
   | refine LeO.ite ?_ ?_
   | refine LeO.bind ?_ (fun _ => ?_)
set_option maxHeartbeats 8000000 in
set_option maxRecDepth 100000 in
theorem laws_FnExactSeriesTerms.calls (k : Nat) (a0 : S40) (a1 : Int) (r : Bool) (w : World) (h : laws_FnExactSeriesTerms.f k a0 a1 = some r) :
  Calls Try.prog 6 #[.agg #[.int .i64 a0.f0, .int .i64 a0.f1, .int .i64 a0.f2, .int .i64 a0.f3, .bool a0.f4], .int .i64 a1] w fun e w' => e = .returned (.bool r) ∧ Below w.heap.size w w' := by
 have hu41 := Try.underlying41
 have HB := aM6_ (Below.refl w.heap.size w)
 have H : ((laws_toSeries.f a0).bind fun t255 => ((spec_SeriesTerms.f k t255 a1).bind fun bt256 => ((laws_toSeries.f a0).bind fun t258 => ((impl_SeriesTerms.f k t258 a1).bind fun bt259 => (if bt259.1 = bt256.1 then (if bt259.2 = bt256.2 then (some true) else (some false)) else (some false)))))) = some r := h
 clear h
 replace H := Option.bind_eq_some_iff.mp H
 obtain ⟨t255, A30, H⟩ := H
 replace H : ((spec_SeriesTerms.f k t255 a1).bind fun bt256 => ((laws_toSeries.f a0).bind fun t258 => ((impl_SeriesTerms.f k t258 a1).bind fun bt259 => (if bt259.1 = bt256.1 then (if bt259.2 = bt256.2 then (some true) else (some false)) else (some false))))) = some r := H
 have A3 := aM6_ A30
 clear A30
 replace H := Option.bind_eq_some_iff.mp H
 obtain ⟨⟨t256, t257⟩, A40, H⟩ := H
 replace H : ((laws_toSeries.f a0).bind fun t258 => ((impl_SeriesTerms.f k t258 a1).bind fun bt259 => (if bt259.1 = t256 then (if bt259.2 = t257 then (some true) else (some false)) else (some false)))) = some r := H
 have A4 := aM6_ A40
 clear A40
 replace H := Option.bind_eq_some_iff.mp H
 obtain ⟨t258, A50, H⟩ := H
 replace H : ((impl_SeriesTerms.f k t258 a1).bind fun bt259 => (if bt259.1 = t256 then (if bt259.2 = t257 then (some true) else (some false)) else (some false))) = some r := H
 have A5 := aM6_ A50
 clear A50
 replace H := Option.bind_eq_some_iff.mp H
 obtain ⟨⟨t259, t260⟩, A60, H⟩ := H
 replace H : (if t259 = t256 then (if t260 = t257 then (some true) else (some false)) else (some false)) = some r := H
 have A6 := aM6_ A60
 clear A60
 by_cases c7 : t259 = t256
 rotate_left
 ·rw [if_neg c7] at H
  have c7b0 : (t259 == t256) = false := beq_eq_false_iff_ne.mpr c7
  have c7b1 : (t259 != t256) = true := bne_iff_ne.mpr c7
  obtain rfl := Option.some.inj H
  go_enter Try.func6, Try.ntmps6
  go_wp2_with (first | ((with_reducible refine gate_dst (N := 2) rfl ?_); refine box_event ?hg (N := 2) ?hd (cs := #[.int .i64 a0.f0, .int .i64 a0.f1, .int .i64 a0.f2, .int .i64 a0.f3, .bool a0.f4]) (t := 41) ?hr ?_; (case hd => rfl); (case hg => rfl); (case hr => first | (go_simp; done) | (go_simp; rfl)); intro gb254 hg w23 hbox hb; have n0_ := aM6_ (below_step q6x4_ hb); have n1_ := aM6_ (hbox); have n2_ := aM6_ ((q6x5_ : w.heap.size ≤ gb254)); have n3_ := aM6_ ((q6x5_ : w.heap.size ≤ gb254)); clear HB; have HB := n0_; have BK254 := n1_; have GW254 := n2_; have GE254 := n3_; clear n0_ n1_ n2_ n3_; clear hb hbox hg; obtain ⟨hcz24_0, hcz24_1, hcz24_2, hcz24_3, hcz24_4⟩ := cells5_ (show w23.heap[gb254]? = some (.cells #[.int .i64 a0.f0, .int .i64 a0.f1, .int .i64 a0.f2, .int .i64 a0.f3, .bool a0.f4] 41 (0, 0)) from BK254.out); obtain ⟨hfz24_0, hfz24_1, hfz24_2, hfz24_3, hfz24_4⟩ := frozen5_ BK254.out) | ((with_reducible refine gate_callee (f := 22) rfl ?_); refine goesL_ (some 11) rfl rfl Try.func22 (by kernel_rfl) rfl #[.agg #[.int .i64 a0.f0, .int .i64 a0.f1, .int .i64 a0.f2, .int .i64 a0.f3, .bool a0.f4]] rfl q6x1_ ?_; (with_reducible refine (laws_toSeries.calls a0 t255 _ A3.out).mono ?_); rintro e w25 ⟨rfl, hb⟩; refine ⟨_, rfl, ?_⟩; have n0_ := aM6_ (blk_below (g := gb254) (o := .cells #[.int .i64 a0.f0, .int .i64 a0.f1, .int .i64 a0.f2, .int .i64 a0.f3, .bool a0.f4] 41 (0, 0)) q6x3_ hb); have n1_ := aM6_ (below_step q6x2_ hb); clear BK254 HB; have BK254 := n0_; have HB := n1_; clear n0_ n1_; (try clear hb); (try clear hb2); (try clear hk); (try clear hi)) | ((with_reducible refine gate_callee (f := 21) rfl ?_); refine goesL_ (some 13) rfl rfl Try.func21 (by kernel_rfl) rfl #[.agg #[.int .i64 t255.f0, .int .i64 t255.f1, .int .i64 t255.f2, .int .i64 t255.f3, .bool t255.f4], .int .i64 a1] rfl q6x1_ ?_; (with_reducible refine (spec_SeriesTerms.calls k t255 a1 t256 t257 _ A4.out).mono ?_); rintro e w26 ⟨rfl, hb⟩; refine ⟨_, rfl, ?_⟩; have n0_ := aM6_ (blk_below (g := gb254) (o := .cells #[.int .i64 a0.f0, .int .i64 a0.f1, .int .i64 a0.f2, .int .i64 a0.f3, .bool a0.f4] 41 (0, 0)) q6x3_ hb); have n1_ := aM6_ (below_step q6x2_ hb); clear BK254 HB; have BK254 := n0_; have HB := n1_; clear n0_ n1_; (try clear hb); (try clear hb2); (try clear hk); (try clear hi); obtain ⟨hcz27_0, hcz27_1, hcz27_2, hcz27_3, hcz27_4⟩ := cells5_ (show w26.heap[gb254]? = some (.cells #[.int .i64 a0.f0, .int .i64 a0.f1, .int .i64 a0.f2, .int .i64 a0.f3, .bool a0.f4] 41 (0, 0)) from BK254.out); obtain ⟨hfz27_0, hfz27_1, hfz27_2, hfz27_3, hfz27_4⟩ := frozen5_ BK254.out) | ((with_reducible refine gate_callee (f := 22) rfl ?_); refine goesL_ (some 18) rfl rfl Try.func22 (by kernel_rfl) rfl #[.agg #[.int .i64 a0.f0, .int .i64 a0.f1, .int .i64 a0.f2, .int .i64 a0.f3, .bool a0.f4]] rfl q6x1_ ?_; (with_reducible refine (laws_toSeries.calls a0 t258 _ A5.out).mono ?_); rintro e w28 ⟨rfl, hb⟩; refine ⟨_, rfl, ?_⟩; have n0_ := aM6_ (blk_below (g := gb254) (o := .cells #[.int .i64 a0.f0, .int .i64 a0.f1, .int .i64 a0.f2, .int .i64 a0.f3, .bool a0.f4] 41 (0, 0)) q6x3_ hb); have n1_ := aM6_ (below_step q6x2_ hb); clear BK254 HB; have BK254 := n0_; have HB := n1_; clear n0_ n1_; (try clear hb); (try clear hb2); (try clear hk); (try clear hi)) | ((with_reducible refine gate_callee (f := 23) rfl ?_); refine goesL_ (some 20) rfl rfl Try.func23 (by kernel_rfl) rfl #[.agg #[.int .i64 t258.f0, .int .i64 t258.f1, .int .i64 t258.f2, .int .i64 t258.f3, .bool t258.f4], .int .i64 a1] rfl q6x1_ ?_; (with_reducible refine (impl_SeriesTerms.calls k t258 a1 t259 t260 _ A6.out).mono ?_); rintro e w29 ⟨rfl, hb⟩; refine ⟨_, rfl, ?_⟩; have n0_ := aM6_ (blk_below (g := gb254) (o := .cells #[.int .i64 a0.f0, .int .i64 a0.f1, .int .i64 a0.f2, .int .i64 a0.f3, .bool a0.f4] 41 (0, 0)) q6x3_ hb); have n1_ := aM6_ (below_step q6x2_ hb); clear BK254 HB; have BK254 := n0_; have HB := n1_; clear n0_ n1_; (try clear hb); (try clear hb2); (try clear hk); (try clear hi)))
  go_ret
  exact ⟨by first | rfl | (simp [errW_none, errW_some] <;> rfl) | (simp [*, errW_none, errW_some] <;> rfl), by repeat (first | (with_reducible first | exact HB.out | apply below_alloc | apply pw_below_drewN | apply below_drew1 | refine below_set ?_ GE254.out) | exact HB.out)⟩

 rw [if_pos c7] at H
 have c7b0 : (t259 == t256) = true := beq_iff_eq.mpr c7
 have c7b1 : (t259 != t256) = false := bne_eq_false_iff_eq.mpr c7
 clear c7
 by_cases c8 : t260 = t257
 ·rw [if_pos c8] at H
  have c8b0 : (t260 == t257) = true := beq_iff_eq.mpr c8
  have c8b1 : (t260 != t257) = false := bne_eq_false_iff_eq.mpr c8
  clear c8
  obtain rfl := Option.some.inj H
  go_enter Try.func6, Try.ntmps6
  go_wp2_with (first | ((with_reducible refine gate_dst (N := 2) rfl ?_); refine box_event ?hg (N := 2) ?hd (cs := #[.int .i64 a0.f0, .int .i64 a0.f1, .int .i64 a0.f2, .int .i64 a0.f3, .bool a0.f4]) (t := 41) ?hr ?_; (case hd => rfl); (case hg => rfl); (case hr => first | (go_simp; done) | (go_simp; rfl)); intro gb254 hg w9 hbox hb; have n0_ := aM6_ (below_step q6x4_ hb); have n1_ := aM6_ (hbox); have n2_ := aM6_ ((q6x5_ : w.heap.size ≤ gb254)); have n3_ := aM6_ ((q6x5_ : w.heap.size ≤ gb254)); clear HB; have HB := n0_; have BK254 := n1_; have GW254 := n2_; have GE254 := n3_; clear n0_ n1_ n2_ n3_; clear hb hbox hg; obtain ⟨hcz10_0, hcz10_1, hcz10_2, hcz10_3, hcz10_4⟩ := cells5_ (show w9.heap[gb254]? = some (.cells #[.int .i64 a0.f0, .int .i64 a0.f1, .int .i64 a0.f2, .int .i64 a0.f3, .bool a0.f4] 41 (0, 0)) from BK254.out); obtain ⟨hfz10_0, hfz10_1, hfz10_2, hfz10_3, hfz10_4⟩ := frozen5_ BK254.out) | ((with_reducible refine gate_callee (f := 22) rfl ?_); refine goesL_ (some 11) rfl rfl Try.func22 (by kernel_rfl) rfl #[.agg #[.int .i64 a0.f0, .int .i64 a0.f1, .int .i64 a0.f2, .int .i64 a0.f3, .bool a0.f4]] rfl q6x1_ ?_; (with_reducible refine (laws_toSeries.calls a0 t255 _ A3.out).mono ?_); rintro e w11 ⟨rfl, hb⟩; refine ⟨_, rfl, ?_⟩; have n0_ := aM6_ (blk_below (g := gb254) (o := .cells #[.int .i64 a0.f0, .int .i64 a0.f1, .int .i64 a0.f2, .int .i64 a0.f3, .bool a0.f4] 41 (0, 0)) q6x3_ hb); have n1_ := aM6_ (below_step q6x2_ hb); clear BK254 HB; have BK254 := n0_; have HB := n1_; clear n0_ n1_; (try clear hb); (try clear hb2); (try clear hk); (try clear hi)) | ((with_reducible refine gate_callee (f := 21) rfl ?_); refine goesL_ (some 13) rfl rfl Try.func21 (by kernel_rfl) rfl #[.agg #[.int .i64 t255.f0, .int .i64 t255.f1, .int .i64 t255.f2, .int .i64 t255.f3, .bool t255.f4], .int .i64 a1] rfl q6x1_ ?_; (with_reducible refine (spec_SeriesTerms.calls k t255 a1 t256 t257 _ A4.out).mono ?_); rintro e w12 ⟨rfl, hb⟩; refine ⟨_, rfl, ?_⟩; have n0_ := aM6_ (blk_below (g := gb254) (o := .cells #[.int .i64 a0.f0, .int .i64 a0.f1, .int .i64 a0.f2, .int .i64 a0.f3, .bool a0.f4] 41 (0, 0)) q6x3_ hb); have n1_ := aM6_ (below_step q6x2_ hb); clear BK254 HB; have BK254 := n0_; have HB := n1_; clear n0_ n1_; (try clear hb); (try clear hb2); (try clear hk); (try clear hi); obtain ⟨hcz13_0, hcz13_1, hcz13_2, hcz13_3, hcz13_4⟩ := cells5_ (show w12.heap[gb254]? = some (.cells #[.int .i64 a0.f0, .int .i64 a0.f1, .int .i64 a0.f2, .int .i64 a0.f3, .bool a0.f4] 41 (0, 0)) from BK254.out); obtain ⟨hfz13_0, hfz13_1, hfz13_2, hfz13_3, hfz13_4⟩ := frozen5_ BK254.out) | ((with_reducible refine gate_callee (f := 22) rfl ?_); refine goesL_ (some 18) rfl rfl Try.func22 (by kernel_rfl) rfl #[.agg #[.int .i64 a0.f0, .int .i64 a0.f1, .int .i64 a0.f2, .int .i64 a0.f3, .bool a0.f4]] rfl q6x1_ ?_; (with_reducible refine (laws_toSeries.calls a0 t258 _ A5.out).mono ?_); rintro e w14 ⟨rfl, hb⟩; refine ⟨_, rfl, ?_⟩; have n0_ := aM6_ (blk_below (g := gb254) (o := .cells #[.int .i64 a0.f0, .int .i64 a0.f1, .int .i64 a0.f2, .int .i64 a0.f3, .bool a0.f4] 41 (0, 0)) q6x3_ hb); have n1_ := aM6_ (below_step q6x2_ hb); clear BK254 HB; have BK254 := n0_; have HB := n1_; clear n0_ n1_; (try clear hb); (try clear hb2); (try clear hk); (try clear hi)) | ((with_reducible refine gate_callee (f := 23) rfl ?_); refine goesL_ (some 20) rfl rfl Try.func23 (by kernel_rfl) rfl #[.agg #[.int .i64 t258.f0, .int .i64 t258.f1, .int .i64 t258.f2, .int .i64 t258.f3, .bool t258.f4], .int .i64 a1] rfl q6x1_ ?_; (with_reducible refine (impl_SeriesTerms.calls k t258 a1 t259 t260 _ A6.out).mono ?_); rintro e w15 ⟨rfl, hb⟩; refine ⟨_, rfl, ?_⟩; have n0_ := aM6_ (blk_below (g := gb254) (o := .cells #[.int .i64 a0.f0, .int .i64 a0.f1, .int .i64 a0.f2, .int .i64 a0.f3, .bool a0.f4] 41 (0, 0)) q6x3_ hb); have n1_ := aM6_ (below_step q6x2_ hb); clear BK254 HB; have BK254 := n0_; have HB := n1_; clear n0_ n1_; (try clear hb); (try clear hb2); (try clear hk); (try clear hi)))
  go_ret
  exact ⟨by first | rfl | (simp [errW_none, errW_some] <;> rfl) | (simp [*, errW_none, errW_some] <;> rfl), by repeat (first | (with_reducible first | exact HB.out | apply below_alloc | apply pw_below_drewN | apply below_drew1 | refine below_set ?_ GE254.out) | exact HB.out)⟩
 rw [if_neg c8] at H
 have c8b0 : (t260 == t257) = false := beq_eq_false_iff_ne.mpr c8
 have c8b1 : (t260 != t257) = true := bne_iff_ne.mpr c8
 obtain rfl := Option.some.inj H
 go_enter Try.func6, Try.ntmps6
 go_wp2_with (first | ((with_reducible refine gate_dst (N := 2) rfl ?_); refine box_event ?hg (N := 2) ?hd (cs := #[.int .i64 a0.f0, .int .i64 a0.f1, .int .i64 a0.f2, .int .i64 a0.f3, .bool a0.f4]) (t := 41) ?hr ?_; (case hd => rfl); (case hg => rfl); (case hr => first | (go_simp; done) | (go_simp; rfl)); intro gb254 hg w16 hbox hb; have n0_ := aM6_ (below_step q6x4_ hb); have n1_ := aM6_ (hbox); have n2_ := aM6_ ((q6x5_ : w.heap.size ≤ gb254)); have n3_ := aM6_ ((q6x5_ : w.heap.size ≤ gb254)); clear HB; have HB := n0_; have BK254 := n1_; have GW254 := n2_; have GE254 := n3_; clear n0_ n1_ n2_ n3_; clear hb hbox hg; obtain ⟨hcz17_0, hcz17_1, hcz17_2, hcz17_3, hcz17_4⟩ := cells5_ (show w16.heap[gb254]? = some (.cells #[.int .i64 a0.f0, .int .i64 a0.f1, .int .i64 a0.f2, .int .i64 a0.f3, .bool a0.f4] 41 (0, 0)) from BK254.out); obtain ⟨hfz17_0, hfz17_1, hfz17_2, hfz17_3, hfz17_4⟩ := frozen5_ BK254.out) | ((with_reducible refine gate_callee (f := 22) rfl ?_); refine goesL_ (some 11) rfl rfl Try.func22 (by kernel_rfl) rfl #[.agg #[.int .i64 a0.f0, .int .i64 a0.f1, .int .i64 a0.f2, .int .i64 a0.f3, .bool a0.f4]] rfl q6x1_ ?_; (with_reducible refine (laws_toSeries.calls a0 t255 _ A3.out).mono ?_); rintro e w18 ⟨rfl, hb⟩; refine ⟨_, rfl, ?_⟩; have n0_ := aM6_ (blk_below (g := gb254) (o := .cells #[.int .i64 a0.f0, .int .i64 a0.f1, .int .i64 a0.f2, .int .i64 a0.f3, .bool a0.f4] 41 (0, 0)) q6x3_ hb); have n1_ := aM6_ (below_step q6x2_ hb); clear BK254 HB; have BK254 := n0_; have HB := n1_; clear n0_ n1_; (try clear hb); (try clear hb2); (try clear hk); (try clear hi)) | ((with_reducible refine gate_callee (f := 21) rfl ?_); refine goesL_ (some 13) rfl rfl Try.func21 (by kernel_rfl) rfl #[.agg #[.int .i64 t255.f0, .int .i64 t255.f1, .int .i64 t255.f2, .int .i64 t255.f3, .bool t255.f4], .int .i64 a1] rfl q6x1_ ?_; (with_reducible refine (spec_SeriesTerms.calls k t255 a1 t256 t257 _ A4.out).mono ?_); rintro e w19 ⟨rfl, hb⟩; refine ⟨_, rfl, ?_⟩; have n0_ := aM6_ (blk_below (g := gb254) (o := .cells #[.int .i64 a0.f0, .int .i64 a0.f1, .int .i64 a0.f2, .int .i64 a0.f3, .bool a0.f4] 41 (0, 0)) q6x3_ hb); have n1_ := aM6_ (below_step q6x2_ hb); clear BK254 HB; have BK254 := n0_; have HB := n1_; clear n0_ n1_; (try clear hb); (try clear hb2); (try clear hk); (try clear hi); obtain ⟨hcz20_0, hcz20_1, hcz20_2, hcz20_3, hcz20_4⟩ := cells5_ (show w19.heap[gb254]? = some (.cells #[.int .i64 a0.f0, .int .i64 a0.f1, .int .i64 a0.f2, .int .i64 a0.f3, .bool a0.f4] 41 (0, 0)) from BK254.out); obtain ⟨hfz20_0, hfz20_1, hfz20_2, hfz20_3, hfz20_4⟩ := frozen5_ BK254.out) | ((with_reducible refine gate_callee (f := 22) rfl ?_); refine goesL_ (some 18) rfl rfl Try.func22 (by kernel_rfl) rfl #[.agg #[.int .i64 a0.f0, .int .i64 a0.f1, .int .i64 a0.f2, .int .i64 a0.f3, .bool a0.f4]] rfl q6x1_ ?_; (with_reducible refine (laws_toSeries.calls a0 t258 _ A5.out).mono ?_); rintro e w21 ⟨rfl, hb⟩; refine ⟨_, rfl, ?_⟩; have n0_ := aM6_ (blk_below (g := gb254) (o := .cells #[.int .i64 a0.f0, .int .i64 a0.f1, .int .i64 a0.f2, .int .i64 a0.f3, .bool a0.f4] 41 (0, 0)) q6x3_ hb); have n1_ := aM6_ (below_step q6x2_ hb); clear BK254 HB; have BK254 := n0_; have HB := n1_; clear n0_ n1_; (try clear hb); (try clear hb2); (try clear hk); (try clear hi)) | ((with_reducible refine gate_callee (f := 23) rfl ?_); refine goesL_ (some 20) rfl rfl Try.func23 (by kernel_rfl) rfl #[.agg #[.int .i64 t258.f0, .int .i64 t258.f1, .int .i64 t258.f2, .int .i64 t258.f3, .bool t258.f4], .int .i64 a1] rfl q6x1_ ?_; (with_reducible refine (impl_SeriesTerms.calls k t258 a1 t259 t260 _ A6.out).mono ?_); rintro e w22 ⟨rfl, hb⟩; refine ⟨_, rfl, ?_⟩; have n0_ := aM6_ (blk_below (g := gb254) (o := .cells #[.int .i64 a0.f0, .int .i64 a0.f1, .int .i64 a0.f2, .int .i64 a0.f3, .bool a0.f4] 41 (0, 0)) q6x3_ hb); have n1_ := aM6_ (below_step q6x2_ hb); clear BK254 HB; have BK254 := n0_; have HB := n1_; clear n0_ n1_; (try clear hb); (try clear hb2); (try clear hk); (try clear hi)))
 go_ret
 exact ⟨by first | rfl | (simp [errW_none, errW_some] <;> rfl) | (simp [*, errW_none, errW_some] <;> rfl), by repeat (first | (with_reducible first | exact HB.out | apply below_alloc | apply pw_below_drewN | apply below_drew1 | refine below_set ?_ GE254.out) | exact HB.out)⟩
/-! ### the law's arguments -/
def WF41 (x : S40) : Prop := ((-9223372036854775808) ≤ x.f0 ∧ x.f0 ≤ 9223372036854775807) ∧ ((-9223372036854775808) ≤ x.f1 ∧ x.f1 ≤ 9223372036854775807) ∧ ((-9223372036854775808) ≤ x.f2 ∧ x.f2 ≤ 9223372036854775807) ∧ ((-9223372036854775808) ≤ x.f3 ∧ x.f3 ≤ 9223372036854775807) ∧ (True)
set_option maxRecDepth 100000 in
theorem op41 {H : Type} {enc : TypeId × Value → H} {w : World} : Opens enc Try.prog w 41 k40 WF41 := by
 intro fuel cs x h hz
 obtain ⟨xs, m, rfl, rfl, hl, hn, hf⟩ := DataW.trod_struct Try.underlying41 h
 have hl0 : cs.length = 5 := hl.trans (by kernel_rfl)
 have hn0 : xs.length = 5 := hn
 obtain ⟨x0, xs0, rfl, hn1⟩ := consX_of hn0
 obtain ⟨x1, xs1, rfl, hn2⟩ := consX_of hn1
 obtain ⟨x2, xs2, rfl, hn3⟩ := consX_of hn2
 obtain ⟨x3, xs3, rfl, hn4⟩ := consX_of hn3
 obtain ⟨x4, xs4, rfl, hn5⟩ := consX_of hn4
 obtain rfl := List.eq_nil_of_length_eq_zero hn5
 obtain ⟨c0, cs0, rfl, hl1⟩ := cons_of hl0
 obtain ⟨c1, cs1, rfl, hl2⟩ := cons_of hl1
 obtain ⟨c2, cs2, rfl, hl3⟩ := cons_of hl2
 obtain ⟨c3, cs3, rfl, hl4⟩ := cons_of hl3
 obtain ⟨c4, cs4, rfl, hl5⟩ := cons_of hl4
 obtain rfl := List.eq_nil_of_length_eq_zero hl5
 have h0 : DataW.trod enc Try.prog w 0 (fun _ => true) true m 2 [c0] = some x0 := by
  have h_ : DataW.trod enc Try.prog w 0 (fun _ => true) true m 2 (([c0, c1, c2, c3, c4].drop 0).take (Try.prog.cellsOf 2)) = [x0, x1, x2, x3, x4][0]? := by
   have h2_ := hf 0 _ rfl
   exact h2_
  rw [show Try.prog.cellsOf 2 = 1 from by kernel_rfl] at h_
  exact h_
 obtain ⟨a0, hk0, hw0⟩ := (opens_int Try.underlying2 wfB_i64) _ _ _ h0 (weight_struct Try.underlying41 hz (j := 0) rfl rfl)
 have h1 : DataW.trod enc Try.prog w 0 (fun _ => true) true m 2 [c1] = some x1 := by
  have h_ : DataW.trod enc Try.prog w 0 (fun _ => true) true m 2 (([c0, c1, c2, c3, c4].drop 1).take (Try.prog.cellsOf 2)) = [x0, x1, x2, x3, x4][1]? := by
   have h2_ := hf 1 _ rfl
   exact h2_
  rw [show Try.prog.cellsOf 2 = 1 from by kernel_rfl] at h_
  exact h_
 obtain ⟨a1, hk1, hw1⟩ := (opens_int Try.underlying2 wfB_i64) _ _ _ h1 (weight_struct Try.underlying41 hz (j := 1) rfl rfl)
 have h2 : DataW.trod enc Try.prog w 0 (fun _ => true) true m 2 [c2] = some x2 := by
  have h_ : DataW.trod enc Try.prog w 0 (fun _ => true) true m 2 (([c0, c1, c2, c3, c4].drop 2).take (Try.prog.cellsOf 2)) = [x0, x1, x2, x3, x4][2]? := by
   have h2_ := hf 2 _ rfl
   exact h2_
  rw [show Try.prog.cellsOf 2 = 1 from by kernel_rfl] at h_
  exact h_
 obtain ⟨a2, hk2, hw2⟩ := (opens_int Try.underlying2 wfB_i64) _ _ _ h2 (weight_struct Try.underlying41 hz (j := 2) rfl rfl)
 have h3 : DataW.trod enc Try.prog w 0 (fun _ => true) true m 2 [c3] = some x3 := by
  have h_ : DataW.trod enc Try.prog w 0 (fun _ => true) true m 2 (([c0, c1, c2, c3, c4].drop 3).take (Try.prog.cellsOf 2)) = [x0, x1, x2, x3, x4][3]? := by
   have h2_ := hf 3 _ rfl
   exact h2_
  rw [show Try.prog.cellsOf 2 = 1 from by kernel_rfl] at h_
  exact h_
 obtain ⟨a3, hk3, hw3⟩ := (opens_int Try.underlying2 wfB_i64) _ _ _ h3 (weight_struct Try.underlying41 hz (j := 3) rfl rfl)
 have h4 : DataW.trod enc Try.prog w 0 (fun _ => true) true m 4 [c4] = some x4 := by
  have h_ : DataW.trod enc Try.prog w 0 (fun _ => true) true m 4 (([c0, c1, c2, c3, c4].drop 4).take (Try.prog.cellsOf 4)) = [x0, x1, x2, x3, x4][4]? := by
   have h2_ := hf 4 _ rfl
   exact h2_
  rw [show Try.prog.cellsOf 4 = 1 from by kernel_rfl] at h_
  exact h_
 obtain ⟨a4, hk4, hw4⟩ := (opens_bool Try.underlying4) _ _ _ h4 (weight_struct Try.underlying41 hz (j := 4) rfl rfl)
 exact ⟨⟨a0, a1, a2, a3, a4⟩, ⟨[c0], [c1, c2, c3, c4], rfl, hk0, ⟨[c1], [c2, c3, c4], rfl, hk1, ⟨[c2], [c3, c4], rfl, hk2, ⟨[c3], [c4], rfl, hk3, hk4⟩⟩⟩⟩, ⟨hw0, hw1, hw2, hw3, hw4⟩⟩
/-- THE ONE PURE STATEMENT of laws_FnExactSeriesTerms. -/
def laws_FnExactSeriesTerms.Pure : Prop := ∀ (x0 : S40) (x1 : Int), (WF41 x0) → ((-9223372036854775808) ≤ x1 ∧ x1 ≤ 9223372036854775807) → ∃ k, laws_FnExactSeriesTerms.f k x0 x1 = some true
theorem laws_FnExactSeriesTerms.walk (P_ : laws_FnExactSeriesTerms.Pure) (w : World) (x0 : S40) (hw0 : WF41 x0) (x1 : Int) (hw1 : (-9223372036854775808) ≤ x1 ∧ x1 ≤ 9223372036854775807) :
  Calls Try.prog 6 #[.agg #[.int .i64 x0.f0, .int .i64 x0.f1, .int .i64 x0.f2, .int .i64 x0.f3, .bool x0.f4], .int .i64 x1] w fun e w' => e = .returned (.bool true) ∧ Below w.heap.size w w' := by
 obtain ⟨k, h⟩ := P_ x0 x1 hw0 hw1
 refine (laws_FnExactSeriesTerms.calls k x0 x1 true w   h).mono ?_
 rintro e w' ⟨rfl, hd⟩
 exact ⟨rfl, hd⟩

end Go.Proofs.Ytbomadebdekjjaa.MFnExactSeriesTerms
