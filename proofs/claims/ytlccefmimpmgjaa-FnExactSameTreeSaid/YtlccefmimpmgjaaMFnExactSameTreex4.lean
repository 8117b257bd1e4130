/- Functions of the program as Lean functions, and the proof that the code comes to what they say. Written by a program of this session (myprint.py). -/
import Derived.Test.YtlccefmimpmgjaaMFnExactSameTreex0
import Derived.Test.YtlccefmimpmgjaaMFnExactSameTreex2
import Derived.Test.YtlccefmimpmgjaaMFnExactSameTreex3
namespace Go.Proofs.Ytlccefmimpmgjaa.MFnExactSameTree
open Go.RowKit Go.Proofs.Ytlccefmimpmgjaa.MOpen Go.Proofs.YtlccefmimpmgjaaW.PrintWords Go.Proofs.YtlccefmimpmgjaaW.PrintLast Go.Proofs.YtlccefmimpmgjaaW.PrintMore
attribute [local go_sem] max2_int min2_int max_two min_two max_three min_three max_four min_four   -- for this text's walks alone
set_option linter.unusedVariables false
set_option linter.unusedSimpArgs false

/-! ### laws_FnExactSameTree: function 6 -/
def laws_FnExactSameTree.f (k : Nat) (l0_0 : List (S129)) (l1_0 : List (S129)) : Option (Bool) := (laws_szTree.f l0_0 1048576).bind fun t155 => (if t155 < 0 then (some true) else ((laws_szTree.f l1_0 t155).bind fun t156 => (if t156 < 0 then (some true) else ((laws_toTree.f k l0_0).bind fun t157 => ((laws_toTree.f k l1_0).bind fun t160 => ((spec_SameTree.f k t157 t160).bind fun t163 => ((laws_toTree.f k l0_0).bind fun t164 => ((laws_toTree.f k l1_0).bind fun t168 => ((impl_SameTree.f k t164 t168).bind fun t172 => (if (t172 != t163) = true then (some false) else ((laws_toTree.f k l0_0).bind fun t173 => ((laws_eqTree.f k t164 t173).bind fun t176 => (if t176 = true then ((laws_toTree.f k l1_0).bind fun t177 => ((laws_eqTree.f k t168 t177).bind fun t180 => (if t180 = true then (some true) else (some false)))) else (some false))))))))))))))
theorem laws_FnExactSameTree.mono : ∀ a0 a1 k, LeO (laws_FnExactSameTree.f k a0 a1) (laws_FnExactSameTree.f (k + 1) a0 a1) := by
  intro a0 a1 k
  unfold laws_FnExactSameTree.f
  repeat' first
      | (with_reducible exact impl_SameTree.mono _ _ _)
      | (with_reducible exact laws_eqTree.mono _ _ _)
      | (with_reducible exact laws_toTree.mono _ _)
      | (with_reducible exact spec_SameTree.mono _ _ _)
      | (with_reducible exact LeO.refl _)
      | (with_reducible exact LeO.none _)
      | (with_reducible refine LeO.ite ?_ ?_)
      | (with_reducible refine LeO.bind ?_ (fun _ => ?_))
      | exact impl_SameTree.mono _ _ _
      | exact laws_eqTree.mono _ _ _
      | exact laws_toTree.mono _ _
      | exact spec_SameTree.mono _ _ _
      | exact LeO.none _
      | refine LeO.ite ?_ ?_
      | refine LeO.bind ?_ (fun _ => ?_)
set_option maxHeartbeats 8000000 in
set_option maxRecDepth 100000 in
theorem laws_FnExactSameTree.calls (k : Nat) (A0_0 : Option Addr) (c0_0 : Nat) (l0_0 : List (S129)) (A1_0 : Option Addr) (c1_0 : Nat) (l1_0 : List (S129)) (r : Bool) (w : World) (hr0_0 : Kd.C k129 w A0_0 l0_0.length l0_0) (hc0_0 : l0_0.length ≤ c0_0) (hr1_0 : Kd.C k129 w A1_0 l1_0.length l1_0) (hc1_0 : l1_0.length ≤ c1_0) (h : laws_FnExactSameTree.f k l0_0 l1_0 = some r) :
    Calls Try.prog 6 #[.agg #[.slice A0_0 l0_0.length c0_0], .agg #[.slice A1_0 l1_0.length c1_0]] w fun e w' => e = .returned (.bool r) ∧ Below w.heap.size w w' := by
  have hu31 := Try.underlying31
  have hu24 := Try.underlying24
  have HR0_0 := Aside0.mk hr0_0
  have HC0_0 := Aside0.mk hc0_0
  clear hr0_0 hc0_0
  have HR1_0 := Aside0.mk hr1_0
  have HC1_0 := Aside0.mk hc1_0
  clear hr1_0 hc1_0
  have HB := Aside0.mk (Below.refl w.heap.size w)
  have H : ((laws_szTree.f l0_0 1048576).bind fun t155 => (if t155 < 0 then (some true) else ((laws_szTree.f l1_0 t155).bind fun t156 => (if t156 < 0 then (some true) else ((laws_toTree.f k l0_0).bind fun t157 => ((laws_toTree.f k l1_0).bind fun t160 => ((spec_SameTree.f k t157 t160).bind fun t163 => ((laws_toTree.f k l0_0).bind fun t164 => ((laws_toTree.f k l1_0).bind fun t168 => ((impl_SameTree.f k t164 t168).bind fun t172 => (if (t172 != t163) = true then (some false) else ((laws_toTree.f k l0_0).bind fun t173 => ((laws_eqTree.f k t164 t173).bind fun t176 => (if t176 = true then ((laws_toTree.f k l1_0).bind fun t177 => ((laws_eqTree.f k t168 t177).bind fun t180 => (if t180 = true then (some true) else (some false)))) else (some false))))))))))))))) = some r := h
  clear h
  replace H := Option.bind_eq_some_iff.mp H
  obtain ⟨t155, A30, H⟩ := H
  replace H : (if t155 < 0 then (some true) else ((laws_szTree.f l1_0 t155).bind fun t156 => (if t156 < 0 then (some true) else ((laws_toTree.f k l0_0).bind fun t157 => ((laws_toTree.f k l1_0).bind fun t160 => ((spec_SameTree.f k t157 t160).bind fun t163 => ((laws_toTree.f k l0_0).bind fun t164 => ((laws_toTree.f k l1_0).bind fun t168 => ((impl_SameTree.f k t164 t168).bind fun t172 => (if (t172 != t163) = true then (some false) else ((laws_toTree.f k l0_0).bind fun t173 => ((laws_eqTree.f k t164 t173).bind fun t176 => (if t176 = true then ((laws_toTree.f k l1_0).bind fun t177 => ((laws_eqTree.f k t168 t177).bind fun t180 => (if t180 = true then (some true) else (some false)))) else (some false)))))))))))))) = some r := H
  have A3 := Aside0.mk A30
  clear A30
  by_cases c4 : t155 < 0
  · rw [if_pos c4] at H
    have c4b0 : decide (t155 < 0) = true := decide_eq_true c4
    clear c4
    obtain rfl := Option.some.inj H
    go_enter Try.func6, Try.ntmps6
    go_wp2_with (first | ((with_reducible refine gate_dst (N := 2) rfl ?_); refine box_event ?hg (N := 2) ?hd (cs := #[.slice A0_0 l0_0.length c0_0]) (t := 31) ?hr ?_; (case hd => rfl); (case hg => rfl); (case hr => first | (go_simp; done) | (go_simp; rfl)); intro gb153 hg w5 hbox hb; have n0_ := Aside0.mk (below_step (by repeat (first | (with_reducible first | exact HB.out | apply below_alloc | apply pw_below_drewN | apply below_drew1) | exact HB.out)) hb); have n1_ := Aside0.mk (hbox); have n2_ := Aside0.mk ((by rw [hg]; exact (below_size (by repeat (first | (with_reducible first | exact HB.out | apply below_alloc | apply pw_below_drewN | apply below_drew1) | exact HB.out))) : w.heap.size ≤ gb153)); have n3_ := Aside0.mk ((by rw [hg]; exact (below_size (by repeat (first | (with_reducible first | exact HB.out | apply below_alloc | apply pw_below_drewN | apply below_drew1) | exact HB.out))) : w.heap.size ≤ gb153)); clear HB; have HB := n0_; have BK153 := n1_; have GW153 := n2_; have GE153 := n3_; clear n0_ n1_ n2_ n3_; clear hb hbox hg) | ((with_reducible refine gate_dst (N := 3) rfl ?_); refine box_event ?hg (N := 3) ?hd (cs := #[.slice A1_0 l1_0.length c1_0]) (t := 31) ?hr ?_; (case hd => rfl); (case hg => rfl); (case hr => first | (go_simp; done) | (go_simp; rfl)); intro gb154 hg w6 hbox hb; have n0_ := Aside0.mk (blk_below (g := gb153) (o := .cells #[.slice A0_0 l0_0.length c0_0] 31 (0, 0)) (by (with_reducible repeat (first | refine blk_drewN ?_ _ | refine blk_drew ?_ | refine blk_alloc ?_ _)); exact BK153.out) hb); have n1_ := Aside0.mk (below_step (by repeat (first | (with_reducible first | exact HB.out | apply below_alloc | apply pw_below_drewN | apply below_drew1 | refine below_set ?_ GE153.out) | exact HB.out)) hb); have n2_ := Aside0.mk (hbox); have n3_ := Aside0.mk ((by rw [hg]; exact (below_size (by repeat (first | (with_reducible first | exact HB.out | apply below_alloc | apply pw_below_drewN | apply below_drew1 | refine below_set ?_ GE153.out) | exact HB.out))) : w.heap.size ≤ gb154)); have n4_ := Aside0.mk ((by rw [hg]; exact (below_size (by repeat (first | (with_reducible first | exact HB.out | apply below_alloc | apply pw_below_drewN | apply below_drew1 | refine below_set ?_ GE153.out) | exact HB.out))) : w.heap.size ≤ gb154)); have n5_ := Aside0.mk ((by rw [hg]; exact Nat.ne_of_lt (blk_lt (g := gb153) (o := .cells #[.slice A0_0 l0_0.length c0_0] 31 (0, 0)) (by (with_reducible repeat (first | refine blk_drewN ?_ _ | refine blk_drew ?_ | refine blk_alloc ?_ _)); exact BK153.out)) : gb153 ≠ gb154)); have n6_ := Aside0.mk ((by rw [hg]; exact Nat.ne_of_gt (blk_lt (g := gb153) (o := .cells #[.slice A0_0 l0_0.length c0_0] 31 (0, 0)) (by (with_reducible repeat (first | refine blk_drewN ?_ _ | refine blk_drew ?_ | refine blk_alloc ?_ _)); exact BK153.out)) : gb154 ≠ gb153)); clear BK153; clear HB; have BK153 := n0_; have HB := n1_; have BK154 := n2_; have GW154 := n3_; have GE154 := n4_; have NB153_154 := n5_; have NB154_153 := n6_; clear n0_ n1_ n2_ n3_ n4_ n5_ n6_; clear hb hbox hg; have hnb7 := NB153_154.out; have hnc7 := NB154_153.out; have hcz8_0 : w6.cell? ⟨gb153, 0, none⟩ = some (.slice A0_0 l0_0.length c0_0) := (blk_cell BK153.out 0).trans rfl; have hfz8_0 := blk_frozen BK153.out 0) | ((with_reducible refine gate_callee (f := 24) rfl ?_); refine goesL_ (some 12) rfl rfl Try.func24 (by kernel_rfl) rfl #[.agg #[.slice A0_0 l0_0.length c0_0], .int .i64 1048576] rfl (by (try simp only [List.map_toArray, List.map_cons, List.map_nil]); first | done | rfl | (simp only [List.length_drop, List.length_take]; rfl)) ?_; (with_reducible refine (laws_szTree.calls _ _ l0_0 1048576 t155 _ ?side1 ?side2 A3.out).mono ?_); (case side1 => repeat (first | exact (Kd.C_below HR0_0.out HB.out) | (with_reducible refine Kd.C_alloc ?_ _) | (with_reducible refine Kd.C_drewN ?_ _) | (with_reducible refine Kd.C_drew ?_))); (case side2 => exact HC0_0.out); rintro e w9 ⟨rfl, hb⟩; refine ⟨_, rfl, ?_⟩; have n0_ := Aside0.mk (blk_below (g := gb153) (o := .cells #[.slice A0_0 l0_0.length c0_0] 31 (0, 0)) (by (with_reducible repeat (first | refine blk_drewN ?_ _ | refine blk_drew ?_ | refine blk_alloc ?_ _)); exact BK153.out) hb); have n1_ := Aside0.mk (blk_below (g := gb154) (o := .cells #[.slice A1_0 l1_0.length c1_0] 31 (0, 0)) (by (with_reducible repeat (first | refine blk_drewN ?_ _ | refine blk_drew ?_ | refine blk_alloc ?_ _)); exact BK154.out) hb); have n2_ := Aside0.mk (below_step (by repeat (first | (with_reducible first | exact HB.out | apply below_alloc | apply pw_below_drewN | apply below_drew1 | refine below_set ?_ GE153.out | refine below_set ?_ GE154.out) | exact HB.out)) hb); clear BK153; clear BK154; clear HB; have BK153 := n0_; have BK154 := n1_; have HB := n2_; clear n0_ n1_ n2_; (try clear hb); (try clear hb2); (try clear hk); (try clear hi)))
    go_ret
    exact ⟨by first | rfl | (simp [errW_none, errW_some] <;> rfl) | (simp [*, errW_none, errW_some] <;> rfl), by repeat (first | (with_reducible first | exact HB.out | apply below_alloc | apply pw_below_drewN | apply below_drew1 | refine below_set ?_ GE153.out | refine below_set ?_ GE154.out) | exact HB.out)⟩
  · rw [if_neg c4] at H
    have c4b0 : decide (t155 < 0) = false := decide_eq_false c4
    clear c4
    replace H := Option.bind_eq_some_iff.mp H
    obtain ⟨t156, A100, H⟩ := H
    replace H : (if t156 < 0 then (some true) else ((laws_toTree.f k l0_0).bind fun t157 => ((laws_toTree.f k l1_0).bind fun t160 => ((spec_SameTree.f k t157 t160).bind fun t163 => ((laws_toTree.f k l0_0).bind fun t164 => ((laws_toTree.f k l1_0).bind fun t168 => ((impl_SameTree.f k t164 t168).bind fun t172 => (if (t172 != t163) = true then (some false) else ((laws_toTree.f k l0_0).bind fun t173 => ((laws_eqTree.f k t164 t173).bind fun t176 => (if t176 = true then ((laws_toTree.f k l1_0).bind fun t177 => ((laws_eqTree.f k t168 t177).bind fun t180 => (if t180 = true then (some true) else (some false)))) else (some false)))))))))))) = some r := H
    have A10 := Aside0.mk A100
    clear A100
    by_cases c11 : t156 < 0
    · rw [if_pos c11] at H
      have c11b0 : decide (t156 < 0) = true := decide_eq_true c11
      clear c11
      obtain rfl := Option.some.inj H
      go_enter Try.func6, Try.ntmps6
      go_wp2_with (first | ((with_reducible refine gate_dst (N := 2) rfl ?_); refine box_event ?hg (N := 2) ?hd (cs := #[.slice A0_0 l0_0.length c0_0]) (t := 31) ?hr ?_; (case hd => rfl); (case hg => rfl); (case hr => first | (go_simp; done) | (go_simp; rfl)); intro gb153 hg w12 hbox hb; have n0_ := Aside0.mk (below_step (by repeat (first | (with_reducible first | exact HB.out | apply below_alloc | apply pw_below_drewN | apply below_drew1) | exact HB.out)) hb); have n1_ := Aside0.mk (hbox); have n2_ := Aside0.mk ((by rw [hg]; exact (below_size (by repeat (first | (with_reducible first | exact HB.out | apply below_alloc | apply pw_below_drewN | apply below_drew1) | exact HB.out))) : w.heap.size ≤ gb153)); have n3_ := Aside0.mk ((by rw [hg]; exact (below_size (by repeat (first | (with_reducible first | exact HB.out | apply below_alloc | apply pw_below_drewN | apply below_drew1) | exact HB.out))) : w.heap.size ≤ gb153)); clear HB; have HB := n0_; have BK153 := n1_; have GW153 := n2_; have GE153 := n3_; clear n0_ n1_ n2_ n3_; clear hb hbox hg) | ((with_reducible refine gate_dst (N := 3) rfl ?_); refine box_event ?hg (N := 3) ?hd (cs := #[.slice A1_0 l1_0.length c1_0]) (t := 31) ?hr ?_; (case hd => rfl); (case hg => rfl); (case hr => first | (go_simp; done) | (go_simp; rfl)); intro gb154 hg w13 hbox hb; have n0_ := Aside0.mk (blk_below (g := gb153) (o := .cells #[.slice A0_0 l0_0.length c0_0] 31 (0, 0)) (by (with_reducible repeat (first | refine blk_drewN ?_ _ | refine blk_drew ?_ | refine blk_alloc ?_ _)); exact BK153.out) hb); have n1_ := Aside0.mk (below_step (by repeat (first | (with_reducible first | exact HB.out | apply below_alloc | apply pw_below_drewN | apply below_drew1 | refine below_set ?_ GE153.out) | exact HB.out)) hb); have n2_ := Aside0.mk (hbox); have n3_ := Aside0.mk ((by rw [hg]; exact (below_size (by repeat (first | (with_reducible first | exact HB.out | apply below_alloc | apply pw_below_drewN | apply below_drew1 | refine below_set ?_ GE153.out) | exact HB.out))) : w.heap.size ≤ gb154)); have n4_ := Aside0.mk ((by rw [hg]; exact (below_size (by repeat (first | (with_reducible first | exact HB.out | apply below_alloc | apply pw_below_drewN | apply below_drew1 | refine below_set ?_ GE153.out) | exact HB.out))) : w.heap.size ≤ gb154)); have n5_ := Aside0.mk ((by rw [hg]; exact Nat.ne_of_lt (blk_lt (g := gb153) (o := .cells #[.slice A0_0 l0_0.length c0_0] 31 (0, 0)) (by (with_reducible repeat (first | refine blk_drewN ?_ _ | refine blk_drew ?_ | refine blk_alloc ?_ _)); exact BK153.out)) : gb153 ≠ gb154)); have n6_ := Aside0.mk ((by rw [hg]; exact Nat.ne_of_gt (blk_lt (g := gb153) (o := .cells #[.slice A0_0 l0_0.length c0_0] 31 (0, 0)) (by (with_reducible repeat (first | refine blk_drewN ?_ _ | refine blk_drew ?_ | refine blk_alloc ?_ _)); exact BK153.out)) : gb154 ≠ gb153)); clear BK153; clear HB; have BK153 := n0_; have HB := n1_; have BK154 := n2_; have GW154 := n3_; have GE154 := n4_; have NB153_154 := n5_; have NB154_153 := n6_; clear n0_ n1_ n2_ n3_ n4_ n5_ n6_; clear hb hbox hg; have hnb14 := NB153_154.out; have hnc14 := NB154_153.out; have hcz15_0 : w13.cell? ⟨gb153, 0, none⟩ = some (.slice A0_0 l0_0.length c0_0) := (blk_cell BK153.out 0).trans rfl; have hfz15_0 := blk_frozen BK153.out 0) | ((with_reducible refine gate_callee (f := 24) rfl ?_); refine goesL_ (some 12) rfl rfl Try.func24 (by kernel_rfl) rfl #[.agg #[.slice A0_0 l0_0.length c0_0], .int .i64 1048576] rfl (by (try simp only [List.map_toArray, List.map_cons, List.map_nil]); first | done | rfl | (simp only [List.length_drop, List.length_take]; rfl)) ?_; (with_reducible refine (laws_szTree.calls _ _ l0_0 1048576 t155 _ ?side1 ?side2 A3.out).mono ?_); (case side1 => repeat (first | exact (Kd.C_below HR0_0.out HB.out) | (with_reducible refine Kd.C_alloc ?_ _) | (with_reducible refine Kd.C_drewN ?_ _) | (with_reducible refine Kd.C_drew ?_))); (case side2 => exact HC0_0.out); rintro e w16 ⟨rfl, hb⟩; refine ⟨_, rfl, ?_⟩; have n0_ := Aside0.mk (blk_below (g := gb153) (o := .cells #[.slice A0_0 l0_0.length c0_0] 31 (0, 0)) (by (with_reducible repeat (first | refine blk_drewN ?_ _ | refine blk_drew ?_ | refine blk_alloc ?_ _)); exact BK153.out) hb); have n1_ := Aside0.mk (blk_below (g := gb154) (o := .cells #[.slice A1_0 l1_0.length c1_0] 31 (0, 0)) (by (with_reducible repeat (first | refine blk_drewN ?_ _ | refine blk_drew ?_ | refine blk_alloc ?_ _)); exact BK154.out) hb); have n2_ := Aside0.mk (below_step (by repeat (first | (with_reducible first | exact HB.out | apply below_alloc | apply pw_below_drewN | apply below_drew1 | refine below_set ?_ GE153.out | refine below_set ?_ GE154.out) | exact HB.out)) hb); clear BK153; clear BK154; clear HB; have BK153 := n0_; have BK154 := n1_; have HB := n2_; clear n0_ n1_ n2_; (try clear hb); (try clear hb2); (try clear hk); (try clear hi); have hcz17_0 : w16.cell? ⟨gb154, 0, none⟩ = some (.slice A1_0 l1_0.length c1_0) := (blk_cell BK154.out 0).trans rfl; have hfz17_0 := blk_frozen BK154.out 0) | ((with_reducible refine gate_callee (f := 24) rfl ?_); refine goesL_ (some 17) rfl rfl Try.func24 (by kernel_rfl) rfl #[.agg #[.slice A1_0 l1_0.length c1_0], .int .i64 t155] rfl (by (try simp only [List.map_toArray, List.map_cons, List.map_nil]); first | done | rfl | (simp only [List.length_drop, List.length_take]; rfl)) ?_; (with_reducible refine (laws_szTree.calls _ _ l1_0 t155 t156 _ ?side1 ?side2 A10.out).mono ?_); (case side1 => repeat (first | exact (Kd.C_below HR1_0.out HB.out) | (with_reducible refine Kd.C_alloc ?_ _) | (with_reducible refine Kd.C_drewN ?_ _) | (with_reducible refine Kd.C_drew ?_))); (case side2 => exact HC1_0.out); rintro e w18 ⟨rfl, hb⟩; refine ⟨_, rfl, ?_⟩; have n0_ := Aside0.mk (blk_below (g := gb153) (o := .cells #[.slice A0_0 l0_0.length c0_0] 31 (0, 0)) (by (with_reducible repeat (first | refine blk_drewN ?_ _ | refine blk_drew ?_ | refine blk_alloc ?_ _)); exact BK153.out) hb); have n1_ := Aside0.mk (blk_below (g := gb154) (o := .cells #[.slice A1_0 l1_0.length c1_0] 31 (0, 0)) (by (with_reducible repeat (first | refine blk_drewN ?_ _ | refine blk_drew ?_ | refine blk_alloc ?_ _)); exact BK154.out) hb); have n2_ := Aside0.mk (below_step (by repeat (first | (with_reducible first | exact HB.out | apply below_alloc | apply pw_below_drewN | apply below_drew1 | refine below_set ?_ GE153.out | refine below_set ?_ GE154.out) | exact HB.out)) hb); clear BK153; clear BK154; clear HB; have BK153 := n0_; have BK154 := n1_; have HB := n2_; clear n0_ n1_ n2_; (try clear hb); (try clear hb2); (try clear hk); (try clear hi)))
      go_ret
      exact ⟨by first | rfl | (simp [errW_none, errW_some] <;> rfl) | (simp [*, errW_none, errW_some] <;> rfl), by repeat (first | (with_reducible first | exact HB.out | apply below_alloc | apply pw_below_drewN | apply below_drew1 | refine below_set ?_ GE153.out | refine below_set ?_ GE154.out) | exact HB.out)⟩
    · rw [if_neg c11] at H
      have c11b0 : decide (t156 < 0) = false := decide_eq_false c11
      clear c11
      replace H := Option.bind_eq_some_iff.mp H
      obtain ⟨t157, A190, H⟩ := H
      replace H : ((laws_toTree.f k l1_0).bind fun t160 => ((spec_SameTree.f k t157 t160).bind fun t163 => ((laws_toTree.f k l0_0).bind fun t164 => ((laws_toTree.f k l1_0).bind fun t168 => ((impl_SameTree.f k t164 t168).bind fun t172 => (if (t172 != t163) = true then (some false) else ((laws_toTree.f k l0_0).bind fun t173 => ((laws_eqTree.f k t164 t173).bind fun t176 => (if t176 = true then ((laws_toTree.f k l1_0).bind fun t177 => ((laws_eqTree.f k t168 t177).bind fun t180 => (if t180 = true then (some true) else (some false)))) else (some false)))))))))) = some r := H
      have A19 := Aside0.mk A190
      clear A190
      replace H := Option.bind_eq_some_iff.mp H
      obtain ⟨t160, A200, H⟩ := H
      replace H : ((spec_SameTree.f k t157 t160).bind fun t163 => ((laws_toTree.f k l0_0).bind fun t164 => ((laws_toTree.f k l1_0).bind fun t168 => ((impl_SameTree.f k t164 t168).bind fun t172 => (if (t172 != t163) = true then (some false) else ((laws_toTree.f k l0_0).bind fun t173 => ((laws_eqTree.f k t164 t173).bind fun t176 => (if t176 = true then ((laws_toTree.f k l1_0).bind fun t177 => ((laws_eqTree.f k t168 t177).bind fun t180 => (if t180 = true then (some true) else (some false)))) else (some false))))))))) = some r := H
      have A20 := Aside0.mk A200
      clear A200
      replace H := Option.bind_eq_some_iff.mp H
      obtain ⟨t163, A210, H⟩ := H
      replace H : ((laws_toTree.f k l0_0).bind fun t164 => ((laws_toTree.f k l1_0).bind fun t168 => ((impl_SameTree.f k t164 t168).bind fun t172 => (if (t172 != t163) = true then (some false) else ((laws_toTree.f k l0_0).bind fun t173 => ((laws_eqTree.f k t164 t173).bind fun t176 => (if t176 = true then ((laws_toTree.f k l1_0).bind fun t177 => ((laws_eqTree.f k t168 t177).bind fun t180 => (if t180 = true then (some true) else (some false)))) else (some false)))))))) = some r := H
      have A21 := Aside0.mk A210
      clear A210
      replace H := Option.bind_eq_some_iff.mp H
      obtain ⟨t164, A220, H⟩ := H
      replace H : ((laws_toTree.f k l1_0).bind fun t168 => ((impl_SameTree.f k t164 t168).bind fun t172 => (if (t172 != t163) = true then (some false) else ((laws_toTree.f k l0_0).bind fun t173 => ((laws_eqTree.f k t164 t173).bind fun t176 => (if t176 = true then ((laws_toTree.f k l1_0).bind fun t177 => ((laws_eqTree.f k t168 t177).bind fun t180 => (if t180 = true then (some true) else (some false)))) else (some false))))))) = some r := H
      have A22 := Aside0.mk A220
      clear A220
      replace H := Option.bind_eq_some_iff.mp H
      obtain ⟨t168, A230, H⟩ := H
      replace H : ((impl_SameTree.f k t164 t168).bind fun t172 => (if (t172 != t163) = true then (some false) else ((laws_toTree.f k l0_0).bind fun t173 => ((laws_eqTree.f k t164 t173).bind fun t176 => (if t176 = true then ((laws_toTree.f k l1_0).bind fun t177 => ((laws_eqTree.f k t168 t177).bind fun t180 => (if t180 = true then (some true) else (some false)))) else (some false)))))) = some r := H
      have A23 := Aside0.mk A230
      clear A230
      replace H := Option.bind_eq_some_iff.mp H
      obtain ⟨t172, A240, H⟩ := H
      replace H : (if (t172 != t163) = true then (some false) else ((laws_toTree.f k l0_0).bind fun t173 => ((laws_eqTree.f k t164 t173).bind fun t176 => (if t176 = true then ((laws_toTree.f k l1_0).bind fun t177 => ((laws_eqTree.f k t168 t177).bind fun t180 => (if t180 = true then (some true) else (some false)))) else (some false))))) = some r := H
      have A24 := Aside0.mk A240
      clear A240
      by_cases c25 : (t172 != t163) = true
      · rw [if_pos c25] at H
        have c25b0 : (t172 != t163) = true := c25
        (try (have c25b1 : decide (t172 = t163) = false := by simpa using c25))
        (try (have c25b2 : (t172 == t163) = false := by simpa using c25))
        (try (have c25b3 : ¬ (t172 = t163) := by simpa using c25))
        clear c25
        obtain rfl := Option.some.inj H
        go_enter Try.func6, Try.ntmps6
        try go_wp2_with (first | ((with_reducible refine gate_dst (N := 2) rfl ?_); refine box_event ?hg (N := 2) ?hd (cs := #[.slice A0_0 l0_0.length c0_0]) (t := 31) ?hr ?_; (case hd => rfl); (case hg => rfl); (case hr => first | (go_simp; done) | (go_simp; rfl)); intro gb153 hg w26 hbox hb; have n0_ := Aside0.mk (below_step (by repeat (first | (with_reducible first | exact HB.out | apply below_alloc | apply pw_below_drewN | apply below_drew1) | exact HB.out)) hb); have n1_ := Aside0.mk (hbox); have n2_ := Aside0.mk ((by rw [hg]; exact (below_size (by repeat (first | (with_reducible first | exact HB.out | apply below_alloc | apply pw_below_drewN | apply below_drew1) | exact HB.out))) : w.heap.size ≤ gb153)); have n3_ := Aside0.mk ((by rw [hg]; exact (below_size (by repeat (first | (with_reducible first | exact HB.out | apply below_alloc | apply pw_below_drewN | apply below_drew1) | exact HB.out))) : w.heap.size ≤ gb153)); clear HB; have HB := n0_; have BK153 := n1_; have GW153 := n2_; have GE153 := n3_; clear n0_ n1_ n2_ n3_; clear hb hbox hg) | ((with_reducible refine gate_dst (N := 3) rfl ?_); refine box_event ?hg (N := 3) ?hd (cs := #[.slice A1_0 l1_0.length c1_0]) (t := 31) ?hr ?_; (case hd => rfl); (case hg => rfl); (case hr => first | (go_simp; done) | (go_simp; rfl)); intro gb154 hg w27 hbox hb; have n0_ := Aside0.mk (blk_below (g := gb153) (o := .cells #[.slice A0_0 l0_0.length c0_0] 31 (0, 0)) (by (with_reducible repeat (first | refine blk_drewN ?_ _ | refine blk_drew ?_ | refine blk_alloc ?_ _)); exact BK153.out) hb); have n1_ := Aside0.mk (below_step (by repeat (first | (with_reducible first | exact HB.out | apply below_alloc | apply pw_below_drewN | apply below_drew1 | refine below_set ?_ GE153.out) | exact HB.out)) hb); have n2_ := Aside0.mk (hbox); have n3_ := Aside0.mk ((by rw [hg]; exact (below_size (by repeat (first | (with_reducible first | exact HB.out | apply below_alloc | apply pw_below_drewN | apply below_drew1 | refine below_set ?_ GE153.out) | exact HB.out))) : w.heap.size ≤ gb154)); have n4_ := Aside0.mk ((by rw [hg]; exact (below_size (by repeat (first | (with_reducible first | exact HB.out | apply below_alloc | apply pw_below_drewN | apply below_drew1 | refine below_set ?_ GE153.out) | exact HB.out))) : w.heap.size ≤ gb154)); have n5_ := Aside0.mk ((by rw [hg]; exact Nat.ne_of_lt (blk_lt (g := gb153) (o := .cells #[.slice A0_0 l0_0.length c0_0] 31 (0, 0)) (by (with_reducible repeat (first | refine blk_drewN ?_ _ | refine blk_drew ?_ | refine blk_alloc ?_ _)); exact BK153.out)) : gb153 ≠ gb154)); have n6_ := Aside0.mk ((by rw [hg]; exact Nat.ne_of_gt (blk_lt (g := gb153) (o := .cells #[.slice A0_0 l0_0.length c0_0] 31 (0, 0)) (by (with_reducible repeat (first | refine blk_drewN ?_ _ | refine blk_drew ?_ | refine blk_alloc ?_ _)); exact BK153.out)) : gb154 ≠ gb153)); clear BK153; clear HB; have BK153 := n0_; have HB := n1_; have BK154 := n2_; have GW154 := n3_; have GE154 := n4_; have NB153_154 := n5_; have NB154_153 := n6_; clear n0_ n1_ n2_ n3_ n4_ n5_ n6_; clear hb hbox hg; have hnb28 := NB153_154.out; have hnc28 := NB154_153.out; have hcz29_0 : w27.cell? ⟨gb153, 0, none⟩ = some (.slice A0_0 l0_0.length c0_0) := (blk_cell BK153.out 0).trans rfl; have hfz29_0 := blk_frozen BK153.out 0) | ((with_reducible refine gate_callee (f := 24) rfl ?_); refine goesL_ (some 12) rfl rfl Try.func24 (by kernel_rfl) rfl #[.agg #[.slice A0_0 l0_0.length c0_0], .int .i64 1048576] rfl (by (try simp only [List.map_toArray, List.map_cons, List.map_nil]); first | done | rfl | (simp only [List.length_drop, List.length_take]; rfl)) ?_; (with_reducible refine (laws_szTree.calls _ _ l0_0 1048576 t155 _ ?side1 ?side2 A3.out).mono ?_); (case side1 => repeat (first | exact (Kd.C_below HR0_0.out HB.out) | (with_reducible refine Kd.C_alloc ?_ _) | (with_reducible refine Kd.C_drewN ?_ _) | (with_reducible refine Kd.C_drew ?_))); (case side2 => exact HC0_0.out); rintro e w30 ⟨rfl, hb⟩; refine ⟨_, rfl, ?_⟩; have n0_ := Aside0.mk (blk_below (g := gb153) (o := .cells #[.slice A0_0 l0_0.length c0_0] 31 (0, 0)) (by (with_reducible repeat (first | refine blk_drewN ?_ _ | refine blk_drew ?_ | refine blk_alloc ?_ _)); exact BK153.out) hb); have n1_ := Aside0.mk (blk_below (g := gb154) (o := .cells #[.slice A1_0 l1_0.length c1_0] 31 (0, 0)) (by (with_reducible repeat (first | refine blk_drewN ?_ _ | refine blk_drew ?_ | refine blk_alloc ?_ _)); exact BK154.out) hb); have n2_ := Aside0.mk (below_step (by repeat (first | (with_reducible first | exact HB.out | apply below_alloc | apply pw_below_drewN | apply below_drew1 | refine below_set ?_ GE153.out | refine below_set ?_ GE154.out) | exact HB.out)) hb); clear BK153; clear BK154; clear HB; have BK153 := n0_; have BK154 := n1_; have HB := n2_; clear n0_ n1_ n2_; (try clear hb); (try clear hb2); (try clear hk); (try clear hi); have hcz31_0 : w30.cell? ⟨gb154, 0, none⟩ = some (.slice A1_0 l1_0.length c1_0) := (blk_cell BK154.out 0).trans rfl; have hfz31_0 := blk_frozen BK154.out 0) | ((with_reducible refine gate_callee (f := 24) rfl ?_); refine goesL_ (some 17) rfl rfl Try.func24 (by kernel_rfl) rfl #[.agg #[.slice A1_0 l1_0.length c1_0], .int .i64 t155] rfl (by (try simp only [List.map_toArray, List.map_cons, List.map_nil]); first | done | rfl | (simp only [List.length_drop, List.length_take]; rfl)) ?_; (with_reducible refine (laws_szTree.calls _ _ l1_0 t155 t156 _ ?side1 ?side2 A10.out).mono ?_); (case side1 => repeat (first | exact (Kd.C_below HR1_0.out HB.out) | (with_reducible refine Kd.C_alloc ?_ _) | (with_reducible refine Kd.C_drewN ?_ _) | (with_reducible refine Kd.C_drew ?_))); (case side2 => exact HC1_0.out); rintro e w32 ⟨rfl, hb⟩; refine ⟨_, rfl, ?_⟩; have n0_ := Aside0.mk (blk_below (g := gb153) (o := .cells #[.slice A0_0 l0_0.length c0_0] 31 (0, 0)) (by (with_reducible repeat (first | refine blk_drewN ?_ _ | refine blk_drew ?_ | refine blk_alloc ?_ _)); exact BK153.out) hb); have n1_ := Aside0.mk (blk_below (g := gb154) (o := .cells #[.slice A1_0 l1_0.length c1_0] 31 (0, 0)) (by (with_reducible repeat (first | refine blk_drewN ?_ _ | refine blk_drew ?_ | refine blk_alloc ?_ _)); exact BK154.out) hb); have n2_ := Aside0.mk (below_step (by repeat (first | (with_reducible first | exact HB.out | apply below_alloc | apply pw_below_drewN | apply below_drew1 | refine below_set ?_ GE153.out | refine below_set ?_ GE154.out) | exact HB.out)) hb); clear BK153; clear BK154; clear HB; have BK153 := n0_; have BK154 := n1_; have HB := n2_; clear n0_ n1_ n2_; (try clear hb); (try clear hb2); (try clear hk); (try clear hi)))
        have n0_ := Aside0.mk (blk_drew BK153.out)
        have n1_ := Aside0.mk (blk_drew BK154.out)
        have n2_ := Aside0.mk (below_drew1 HB.out)
        clear BK153
        clear BK154
        clear HB
        have BK153 := n0_
        have BK154 := n1_
        have HB := n2_
        clear n0_ n1_ n2_
        refine start_ (n := 6) (S := fun w' => w'.cell? ⟨gb153, 0, none⟩ = some (.slice A0_0 l0_0.length c0_0) ∧ w'.cell? ⟨gb154, 0, none⟩ = some (.slice A1_0 l1_0.length c1_0)) (ds := []) #[false, false, false, false, false, false] (by kernel_rfl) rfl rfl ⟨(blk_cell BK153.out 0).trans rfl, (blk_cell BK154.out 0).trans rfl⟩ (fun hHeld => ?_)
        generalize w32.drew = w33 at BK153 BK154 HB hHeld ⊢
        refine take_ (i := 0) (N := some 20) (v := ?_) (a' := ?_) #[true, false, false, false, false, false] rfl rfl (by kernel_rfl) (fun _ _ _ h => h) (Or.inl ⟨by rfl, ?_⟩) hHeld ?_ ?_
        rotate_left
        · rintro w' ⟨s0, s1⟩
          go_simp
          with_reducible rfl
        rotate_left
        · simp only [Act.put, List.setIfInBounds_toArray, List.set_cons_zero, List.set_cons_succ, i64_w, i32_w]
          rfl
        refine take_ (i := 2) (N := some 22) (v := ?_) (a' := ?_) #[true, false, true, false, false, false] rfl rfl (by kernel_rfl) (fun _ _ _ h => h) (Or.inl ⟨by rfl, ?_⟩) hHeld ?_ ?_
        rotate_left
        · rintro w' ⟨s0, s1⟩
          go_simp
          with_reducible rfl
        rotate_left
        · simp only [Act.put, List.setIfInBounds_toArray, List.set_cons_zero, List.set_cons_succ, i64_w, i32_w]
          rfl
        refine one_ (i := 1) (N := some 21) #[true, true, true, false, false, false] rfl rfl (by kernel_rfl) (by decide) (fun K hK => ?_)
        refine goes_ Try.func26 (by kernel_rfl) rfl #[.agg #[.slice A0_0 l0_0.length c0_0]] (by rfl) rfl rfl (by (try simp only [List.map_toArray, List.map_cons, List.map_nil]); first | done | rfl | (simp only [List.length_drop, List.length_take]; rfl)) ?_
        with_reducible refine (laws_toTree.calls k _ _ l0_0 t157 _ ?side1 ?side2 A19.out).mono ?_
        (case side1 => repeat (first | exact (Kd.C_below HR0_0.out HB.out) | (with_reducible refine Kd.C_alloc ?_ _) | (with_reducible refine Kd.C_drewN ?_ _) | (with_reducible refine Kd.C_drew ?_)))
        (case side2 => exact HC0_0.out)
        rintro e w34 ⟨v158, rfl, ho0, hb⟩
        refine ⟨_, rfl, ?_⟩
        have n0_ := Aside0.mk (Kd.R_lower ho0 (below_size (by repeat (first | (with_reducible first | exact HB.out | apply below_alloc | apply pw_below_drewN | apply below_drew1 | refine below_set ?_ GE153.out | refine below_set ?_ GE154.out) | exact HB.out))))
        have n1_ := Aside0.mk (blk_below (g := gb153) (o := .cells #[.slice A0_0 l0_0.length c0_0] 31 (0, 0)) (by (with_reducible repeat (first | refine blk_drewN ?_ _ | refine blk_drew ?_ | refine blk_alloc ?_ _)); exact BK153.out) hb)
        have n2_ := Aside0.mk (blk_below (g := gb154) (o := .cells #[.slice A1_0 l1_0.length c1_0] 31 (0, 0)) (by (with_reducible repeat (first | refine blk_drewN ?_ _ | refine blk_drew ?_ | refine blk_alloc ?_ _)); exact BK154.out) hb)
        have n3_ := Aside0.mk (below_step (by repeat (first | (with_reducible first | exact HB.out | apply below_alloc | apply pw_below_drewN | apply below_drew1 | refine below_set ?_ GE153.out | refine below_set ?_ GE154.out) | exact HB.out)) hb)
        clear BK153
        clear BK154
        clear HB
        have HO159 := n0_
        have BK153 := n1_
        have BK154 := n2_
        have HB := n3_
        clear n0_ n1_ n2_ n3_
        (try clear hb)
        (try clear hb2)
        (try clear hk)
        (try clear hi)
        (try clear ho0)
        refine hK.out _ _ ⟨(blk_cell BK153.out 0).trans rfl, (blk_cell BK154.out 0).trans rfl⟩ (fun hHeld => ?_)
        clear hK K
        refine norm_ (a' := ?_) ?_ ?_
        rotate_left
        · show Act.put _ (some 21) _ = _
          simp only [Act.put, List.setIfInBounds_toArray, List.set_cons_zero, List.set_cons_succ, i64_w, i32_w]
          rfl
        refine one_ (i := 3) (N := some 23) #[true, true, true, true, false, false] rfl rfl (by kernel_rfl) (by decide) (fun K hK => ?_)
        refine goes_ Try.func26 (by kernel_rfl) rfl #[.agg #[.slice A1_0 l1_0.length c1_0]] (by rfl) rfl rfl (by (try simp only [List.map_toArray, List.map_cons, List.map_nil]); first | done | rfl | (simp only [List.length_drop, List.length_take]; rfl)) ?_
        with_reducible refine (laws_toTree.calls k _ _ l1_0 t160 _ ?side1 ?side2 A20.out).mono ?_
        (case side1 => repeat (first | exact (Kd.C_below HR1_0.out HB.out) | (with_reducible refine Kd.C_alloc ?_ _) | (with_reducible refine Kd.C_drewN ?_ _) | (with_reducible refine Kd.C_drew ?_)))
        (case side2 => exact HC1_0.out)
        rintro e w35 ⟨v161, rfl, ho0, hb⟩
        refine ⟨_, rfl, ?_⟩
        have n0_ := Aside0.mk (Kd.R_elder' (by (with_reducible repeat (first | apply Kd.R_alloc | apply Kd.R_drewN | apply Kd.R_drew)); exact HO159.out) (Kd.R_base ho0) hb)
        have n1_ := Aside0.mk (Kd.R_lower (Kd.R_new' ho0 (Kd.R_lt (by (with_reducible repeat (first | apply Kd.R_alloc | apply Kd.R_drewN | apply Kd.R_drew)); exact HO159.out))) (below_size (by repeat (first | (with_reducible first | exact HB.out | apply below_alloc | apply pw_below_drewN | apply below_drew1 | refine below_set ?_ GE153.out | refine below_set ?_ GE154.out) | exact HB.out))))
        have n2_ := Aside0.mk (blk_below (g := gb153) (o := .cells #[.slice A0_0 l0_0.length c0_0] 31 (0, 0)) (by (with_reducible repeat (first | refine blk_drewN ?_ _ | refine blk_drew ?_ | refine blk_alloc ?_ _)); exact BK153.out) hb)
        have n3_ := Aside0.mk (blk_below (g := gb154) (o := .cells #[.slice A1_0 l1_0.length c1_0] 31 (0, 0)) (by (with_reducible repeat (first | refine blk_drewN ?_ _ | refine blk_drew ?_ | refine blk_alloc ?_ _)); exact BK154.out) hb)
        have n4_ := Aside0.mk (below_step (by repeat (first | (with_reducible first | exact HB.out | apply below_alloc | apply pw_below_drewN | apply below_drew1 | refine below_set ?_ GE153.out | refine below_set ?_ GE154.out) | exact HB.out)) hb)
        clear HO159
        clear BK153
        clear BK154
        clear HB
        have HO159 := n0_
        have HO162 := n1_
        have BK153 := n2_
        have BK154 := n3_
        have HB := n4_
        clear n0_ n1_ n2_ n3_ n4_
        (try clear hb)
        (try clear hb2)
        (try clear hk)
        (try clear hi)
        (try clear ho0)
        obtain ⟨Ao36, co36, eo36⟩ := Kd.R_slice HO159.out
        (first | subst eo36 | (injection eo36 with f1_ f2_ f3_; have f4_ := f1_.symm; have f5_ := f3_.symm; clear f1_ f2_ f3_; subst f4_; subst f5_))
        obtain ⟨Ao37, co37, eo37⟩ := Kd.R_slice HO162.out
        (first | subst eo37 | (injection eo37 with f1_ f2_ f3_; have f4_ := f1_.symm; have f5_ := f3_.symm; clear f1_ f2_ f3_; subst f4_; subst f5_))
        refine hK.out _ _ ⟨(blk_cell BK153.out 0).trans rfl, (blk_cell BK154.out 0).trans rfl⟩ (fun hHeld => ?_)
        clear hK K
        refine norm_ (a' := ?_) ?_ ?_
        rotate_left
        · show Act.put _ (some 23) _ = _
          simp only [Act.put, List.setIfInBounds_toArray, List.set_cons_zero, List.set_cons_succ, i64_w, i32_w]
          rfl
        refine one_ (i := 4) (N := some 24) #[true, true, true, true, true, false] rfl rfl (by kernel_rfl) (by decide) (fun K hK => ?_)
        refine goes_ Try.func25 (by kernel_rfl) rfl #[.agg #[.slice Ao36 t157.length co36], .agg #[.slice Ao37 t160.length co37]] (by rfl) rfl rfl (by (try simp only [List.map_toArray, List.map_cons, List.map_nil]); first | done | rfl | (simp only [List.length_drop, List.length_take]; rfl)) ?_
        with_reducible refine (spec_SameTree.calls k _ _ t157 _ _ t160 t163 _ ?side1 ?side2 ?side3 ?side4 A21.out).mono ?_
        (case side1 => repeat (first | exact (Kd.R_reads' HO159.out).2.2 | (with_reducible refine Kd.C_alloc ?_ _) | (with_reducible refine Kd.C_drewN ?_ _) | (with_reducible refine Kd.C_drew ?_)))
        (case side2 => exact (Kd.R_reads' HO159.out).2.1)
        (case side3 => repeat (first | exact (Kd.R_reads' HO162.out).2.2 | (with_reducible refine Kd.C_alloc ?_ _) | (with_reducible refine Kd.C_drewN ?_ _) | (with_reducible refine Kd.C_drew ?_)))
        (case side4 => exact (Kd.R_reads' HO162.out).2.1)
        rintro e w38 ⟨rfl, hb⟩
        refine ⟨_, rfl, ?_⟩
        have n0_ := Aside0.mk (Kd.R_below (by (with_reducible repeat (first | apply Kd.R_alloc | apply Kd.R_drewN | apply Kd.R_drew)); exact HO159.out) hb)
        have n1_ := Aside0.mk (Kd.R_below (by (with_reducible repeat (first | apply Kd.R_alloc | apply Kd.R_drewN | apply Kd.R_drew)); exact HO162.out) hb)
        have n2_ := Aside0.mk (blk_below (g := gb153) (o := .cells #[.slice A0_0 l0_0.length c0_0] 31 (0, 0)) (by (with_reducible repeat (first | refine blk_drewN ?_ _ | refine blk_drew ?_ | refine blk_alloc ?_ _)); exact BK153.out) hb)
        have n3_ := Aside0.mk (blk_below (g := gb154) (o := .cells #[.slice A1_0 l1_0.length c1_0] 31 (0, 0)) (by (with_reducible repeat (first | refine blk_drewN ?_ _ | refine blk_drew ?_ | refine blk_alloc ?_ _)); exact BK154.out) hb)
        have n4_ := Aside0.mk (below_step (by repeat (first | (with_reducible first | exact HB.out | apply below_alloc | apply pw_below_drewN | apply below_drew1 | refine below_set ?_ GE153.out | refine below_set ?_ GE154.out) | exact HB.out)) hb)
        clear HO159
        clear HO162
        clear BK153
        clear BK154
        clear HB
        have HO159 := n0_
        have HO162 := n1_
        have BK153 := n2_
        have BK154 := n3_
        have HB := n4_
        clear n0_ n1_ n2_ n3_ n4_
        (try clear hb)
        (try clear hb2)
        (try clear hk)
        (try clear hi)
        refine hK.out _ _ ⟨(blk_cell BK153.out 0).trans rfl, (blk_cell BK154.out 0).trans rfl⟩ (fun hHeld => ?_)
        clear hK K
        refine norm_ (a' := ?_) ?_ ?_
        rotate_left
        · show Act.put _ (some 24) _ = _
          simp only [Act.put, List.setIfInBounds_toArray, List.set_cons_zero, List.set_cons_succ, i64_w, i32_w]
          rfl
        refine pure_ (i := 5) (N := some 6) (v := ?_) (a' := ?_) #[true, true, true, true, true, true] rfl rfl (by kernel_rfl) (fun _ _ _ h => h) (Or.inl ⟨by rfl, ?_⟩) ?_ ?_
        rotate_left
        · intro w'
          go_simp
          with_reducible rfl
        rotate_left
        · simp only [Act.put, List.setIfInBounds_toArray, List.set_cons_zero, List.set_cons_succ, i64_w, i32_w]
          rfl
        refine done_ (by kernel_rfl) ?_
        have hcz39_0 : w38.cell? ⟨gb153, 0, none⟩ = some (.slice A0_0 l0_0.length c0_0) := (blk_cell BK153.out 0).trans rfl
        have hfz39_0 := blk_frozen BK153.out 0
        try go_wp2_with (first | ((with_reducible refine gate_callee (f := 26) rfl ?_); refine goesL_ (some 26) rfl rfl Try.func26 (by kernel_rfl) rfl #[.agg #[.slice A0_0 l0_0.length c0_0]] rfl (by (try simp only [List.map_toArray, List.map_cons, List.map_nil]); first | done | rfl | (simp only [List.length_drop, List.length_take]; rfl)) ?_; (with_reducible refine (laws_toTree.calls k _ _ l0_0 t164 _ ?side1 ?side2 A22.out).mono ?_); (case side1 => repeat (first | exact (Kd.C_below HR0_0.out HB.out) | (with_reducible refine Kd.C_alloc ?_ _) | (with_reducible refine Kd.C_drewN ?_ _) | (with_reducible refine Kd.C_drew ?_))); (case side2 => exact HC0_0.out); rintro e w40 ⟨v165, rfl, ho0, hb⟩; refine ⟨_, rfl, ?_⟩; have n0_ := Aside0.mk (Kd.R_elder' (by (with_reducible repeat (first | apply Kd.R_alloc | apply Kd.R_drewN | apply Kd.R_drew)); exact HO159.out) (Kd.R_base ho0) hb); have n1_ := Aside0.mk (Kd.R_elder' (by (with_reducible repeat (first | apply Kd.R_alloc | apply Kd.R_drewN | apply Kd.R_drew)); exact HO162.out) (Kd.R_base ho0) hb); have n2_ := Aside0.mk (Kd.R_lower (Kd.R_new' (Kd.R_new' ho0 (Kd.R_lt (by (with_reducible repeat (first | apply Kd.R_alloc | apply Kd.R_drewN | apply Kd.R_drew)); exact HO159.out))) (Kd.R_lt (by (with_reducible repeat (first | apply Kd.R_alloc | apply Kd.R_drewN | apply Kd.R_drew)); exact HO162.out))) (below_size (by repeat (first | (with_reducible first | exact HB.out | apply below_alloc | apply pw_below_drewN | apply below_drew1 | refine below_set ?_ GE153.out | refine below_set ?_ GE154.out) | exact HB.out)))); have n3_ := Aside0.mk (blk_below (g := gb153) (o := .cells #[.slice A0_0 l0_0.length c0_0] 31 (0, 0)) (by (with_reducible repeat (first | refine blk_drewN ?_ _ | refine blk_drew ?_ | refine blk_alloc ?_ _)); exact BK153.out) hb); have n4_ := Aside0.mk (blk_below (g := gb154) (o := .cells #[.slice A1_0 l1_0.length c1_0] 31 (0, 0)) (by (with_reducible repeat (first | refine blk_drewN ?_ _ | refine blk_drew ?_ | refine blk_alloc ?_ _)); exact BK154.out) hb); have n5_ := Aside0.mk (below_step (by repeat (first | (with_reducible first | exact HB.out | apply below_alloc | apply pw_below_drewN | apply below_drew1 | refine below_set ?_ GE153.out | refine below_set ?_ GE154.out) | exact HB.out)) hb); clear HO159; clear HO162; clear BK153; clear BK154; clear HB; have HO159 := n0_; have HO162 := n1_; have HO166 := n2_; have BK153 := n3_; have BK154 := n4_; have HB := n5_; clear n0_ n1_ n2_ n3_ n4_ n5_; (try clear hb); (try clear hb2); (try clear hk); (try clear hi); (try clear ho0)) | ((with_reducible refine gate_dst (N := 7) rfl ?_); refine box_event ?hg (N := 7) ?hd (cs := #[.slice none 0 0]) (t := 24) ?hr ?_; (case hd => rfl); (case hg => rfl); (case hr => first | (go_simp; done) | (go_simp; rfl)); intro gb167 hg w41 hbox hb; have n0_ := Aside0.mk (Kd.R_below (by (with_reducible repeat (first | apply Kd.R_alloc | apply Kd.R_drewN | apply Kd.R_drew)); exact HO159.out) hb); have n1_ := Aside0.mk (Kd.R_below (by (with_reducible repeat (first | apply Kd.R_alloc | apply Kd.R_drewN | apply Kd.R_drew)); exact HO162.out) hb); have n2_ := Aside0.mk (Kd.R_below (by (with_reducible repeat (first | apply Kd.R_alloc | apply Kd.R_drewN | apply Kd.R_drew)); exact HO166.out) hb); have n3_ := Aside0.mk (blk_below (g := gb153) (o := .cells #[.slice A0_0 l0_0.length c0_0] 31 (0, 0)) (by (with_reducible repeat (first | refine blk_drewN ?_ _ | refine blk_drew ?_ | refine blk_alloc ?_ _)); exact BK153.out) hb); have n4_ := Aside0.mk (blk_below (g := gb154) (o := .cells #[.slice A1_0 l1_0.length c1_0] 31 (0, 0)) (by (with_reducible repeat (first | refine blk_drewN ?_ _ | refine blk_drew ?_ | refine blk_alloc ?_ _)); exact BK154.out) hb); have n5_ := Aside0.mk (below_step (by repeat (first | (with_reducible first | exact HB.out | apply below_alloc | apply pw_below_drewN | apply below_drew1 | refine below_set ?_ GE153.out | refine below_set ?_ GE154.out) | exact HB.out)) hb); have n6_ := Aside0.mk (hbox); have n7_ := Aside0.mk ((by rw [hg]; exact (below_size (by repeat (first | (with_reducible first | exact HB.out | apply below_alloc | apply pw_below_drewN | apply below_drew1 | refine below_set ?_ GE153.out | refine below_set ?_ GE154.out) | exact HB.out))) : w.heap.size ≤ gb167)); have n8_ := Aside0.mk ((by rw [hg]; exact (below_size (by repeat (first | (with_reducible first | exact HB.out | apply below_alloc | apply pw_below_drewN | apply below_drew1 | refine below_set ?_ GE153.out | refine below_set ?_ GE154.out) | exact HB.out))) : w.heap.size ≤ gb167)); have n9_ := Aside0.mk ((by rw [hg]; exact Nat.ne_of_lt (blk_lt (g := gb153) (o := .cells #[.slice A0_0 l0_0.length c0_0] 31 (0, 0)) (by (with_reducible repeat (first | refine blk_drewN ?_ _ | refine blk_drew ?_ | refine blk_alloc ?_ _)); exact BK153.out)) : gb153 ≠ gb167)); have n10_ := Aside0.mk ((by rw [hg]; exact Nat.ne_of_gt (blk_lt (g := gb153) (o := .cells #[.slice A0_0 l0_0.length c0_0] 31 (0, 0)) (by (with_reducible repeat (first | refine blk_drewN ?_ _ | refine blk_drew ?_ | refine blk_alloc ?_ _)); exact BK153.out)) : gb167 ≠ gb153)); have n11_ := Aside0.mk ((by rw [hg]; exact Nat.ne_of_lt (blk_lt (g := gb154) (o := .cells #[.slice A1_0 l1_0.length c1_0] 31 (0, 0)) (by (with_reducible repeat (first | refine blk_drewN ?_ _ | refine blk_drew ?_ | refine blk_alloc ?_ _)); exact BK154.out)) : gb154 ≠ gb167)); have n12_ := Aside0.mk ((by rw [hg]; exact Nat.ne_of_gt (blk_lt (g := gb154) (o := .cells #[.slice A1_0 l1_0.length c1_0] 31 (0, 0)) (by (with_reducible repeat (first | refine blk_drewN ?_ _ | refine blk_drew ?_ | refine blk_alloc ?_ _)); exact BK154.out)) : gb167 ≠ gb154)); clear HO159; clear HO162; clear HO166; clear BK153; clear BK154; clear HB; have HO159 := n0_; have HO162 := n1_; have HO166 := n2_; have BK153 := n3_; have BK154 := n4_; have HB := n5_; have BK167 := n6_; have GW167 := n7_; have GE167 := n8_; have NB153_167 := n9_; have NB167_153 := n10_; have NB154_167 := n11_; have NB167_154 := n12_; clear n0_ n1_ n2_ n3_ n4_ n5_ n6_ n7_ n8_ n9_ n10_ n11_ n12_; clear hb hbox hg; obtain ⟨Ao42, co42, eo42⟩ := Kd.R_slice HO166.out; subst eo42; have hnb43 := NB167_153.out; have hnc43 := NB153_167.out; have hnb44 := NB167_154.out; have hnc44 := NB154_167.out; have hcz45_0 : w41.cell? ⟨gb167, 0, none⟩ = some (.slice none 0 0) := (blk_cell BK167.out 0).trans rfl; have hfz45_0 := blk_frozen BK167.out 0; have hcz46_0 : w41.cell? ⟨gb154, 0, none⟩ = some (.slice A1_0 l1_0.length c1_0) := (blk_cell BK154.out 0).trans rfl; have hfz46_0 := blk_frozen BK154.out 0) | ((with_reducible refine gate_callee (f := 26) rfl ?_); refine goesL_ (some 28) rfl rfl Try.func26 (by kernel_rfl) rfl #[.agg #[.slice A1_0 l1_0.length c1_0]] rfl (by (try simp only [List.map_toArray, List.map_cons, List.map_nil]); first | done | rfl | (simp only [List.length_drop, List.length_take]; rfl)) ?_; (with_reducible refine (laws_toTree.calls k _ _ l1_0 t168 _ ?side1 ?side2 A23.out).mono ?_); (case side1 => exact Kd.C_below HR1_0.out (by repeat (first | (with_reducible first | exact HB.out | apply below_alloc | apply pw_below_drewN | apply below_drew1 | refine below_set ?_ GE153.out | refine below_set ?_ GE154.out | refine below_set ?_ GE167.out) | exact HB.out))); (case side2 => exact HC1_0.out); rintro e w47 ⟨v169, rfl, ho0, hb⟩; refine ⟨_, rfl, ?_⟩; have n0_ := Aside0.mk (Kd.R_elder' (by (with_reducible repeat (first | apply Kd.R_alloc | apply Kd.R_drewN | apply Kd.R_drew)); exact (Kd.R_mono (Kd.R_far (p := ⟨gb167, 0, none⟩) (Kd.R_types HO159.out BK167.out (by decide)) (fun _ hk => hk.2) (.slice Ao42 t164.length co42)) (fun _ h_ => h_.1))) (Kd.R_base ho0) hb); have n1_ := Aside0.mk (Kd.R_elder' (by (with_reducible repeat (first | apply Kd.R_alloc | apply Kd.R_drewN | apply Kd.R_drew)); exact (Kd.R_mono (Kd.R_far (p := ⟨gb167, 0, none⟩) (Kd.R_types HO162.out BK167.out (by decide)) (fun _ hk => hk.2) (.slice Ao42 t164.length co42)) (fun _ h_ => h_.1))) (Kd.R_base ho0) hb); have n2_ := Aside0.mk (Kd.R_elder' (by (with_reducible repeat (first | apply Kd.R_alloc | apply Kd.R_drewN | apply Kd.R_drew)); exact (Kd.R_mono (Kd.R_far (p := ⟨gb167, 0, none⟩) (Kd.R_types HO166.out BK167.out (by decide)) (fun _ hk => hk.2) (.slice Ao42 t164.length co42)) (fun _ h_ => h_.1))) (Kd.R_base ho0) hb); have n3_ := Aside0.mk (Kd.R_lower (Kd.R_new' (Kd.R_new' (Kd.R_new' ho0 (Kd.R_lt (by (with_reducible repeat (first | apply Kd.R_alloc | apply Kd.R_drewN | apply Kd.R_drew)); exact (Kd.R_mono (Kd.R_far (p := ⟨gb167, 0, none⟩) (Kd.R_types HO159.out BK167.out (by decide)) (fun _ hk => hk.2) (.slice Ao42 t164.length co42)) (fun _ h_ => h_.1))))) (Kd.R_lt (by (with_reducible repeat (first | apply Kd.R_alloc | apply Kd.R_drewN | apply Kd.R_drew)); exact (Kd.R_mono (Kd.R_far (p := ⟨gb167, 0, none⟩) (Kd.R_types HO162.out BK167.out (by decide)) (fun _ hk => hk.2) (.slice Ao42 t164.length co42)) (fun _ h_ => h_.1))))) (Kd.R_lt (by (with_reducible repeat (first | apply Kd.R_alloc | apply Kd.R_drewN | apply Kd.R_drew)); exact (Kd.R_mono (Kd.R_far (p := ⟨gb167, 0, none⟩) (Kd.R_types HO166.out BK167.out (by decide)) (fun _ hk => hk.2) (.slice Ao42 t164.length co42)) (fun _ h_ => h_.1))))) (below_size (by repeat (first | (with_reducible first | exact HB.out | apply below_alloc | apply pw_below_drewN | apply below_drew1 | refine below_set ?_ GE153.out | refine below_set ?_ GE154.out | refine below_set ?_ GE167.out) | exact HB.out)))); have n4_ := Aside0.mk (blk_below (g := gb153) (o := .cells #[.slice A0_0 l0_0.length c0_0] 31 (0, 0)) (by (with_reducible repeat (first | refine blk_drewN ?_ _ | refine blk_drew ?_ | refine blk_alloc ?_ _)); refine blk_far ?_ NB153_167.out _; (with_reducible repeat (first | refine blk_drewN ?_ _ | refine blk_drew ?_ | refine blk_alloc ?_ _)); exact BK153.out) hb); have n5_ := Aside0.mk (blk_below (g := gb154) (o := .cells #[.slice A1_0 l1_0.length c1_0] 31 (0, 0)) (by (with_reducible repeat (first | refine blk_drewN ?_ _ | refine blk_drew ?_ | refine blk_alloc ?_ _)); refine blk_far ?_ NB154_167.out _; (with_reducible repeat (first | refine blk_drewN ?_ _ | refine blk_drew ?_ | refine blk_alloc ?_ _)); exact BK154.out) hb); have n6_ := Aside0.mk (blk_below (g := gb167) (o := .cells #[.slice Ao42 t164.length co42] 24 (0, 0)) (by (with_reducible repeat (first | refine blk_drewN ?_ _ | refine blk_drew ?_ | refine blk_alloc ?_ _)); refine blk_put (cs := #[.slice none 0 0]) ?_ 0 _ rfl; (with_reducible repeat (first | refine blk_drewN ?_ _ | refine blk_drew ?_ | refine blk_alloc ?_ _)); exact BK167.out) hb); have n7_ := Aside0.mk (below_step (by repeat (first | (with_reducible first | exact HB.out | apply below_alloc | apply pw_below_drewN | apply below_drew1 | refine below_set ?_ GE153.out | refine below_set ?_ GE154.out | refine below_set ?_ GE167.out) | exact HB.out)) hb); clear HO159; clear HO162; clear HO166; clear BK153; clear BK154; clear BK167; clear HB; have HO159 := n0_; have HO162 := n1_; have HO166 := n2_; have HO170 := n3_; have BK153 := n4_; have BK154 := n5_; have BK167 := n6_; have HB := n7_; clear n0_ n1_ n2_ n3_ n4_ n5_ n6_ n7_; (try clear hb); (try clear hb2); (try clear hk); (try clear hi); (try clear ho0)) | ((with_reducible refine gate_dst (N := 8) rfl ?_); refine box_event ?hg (N := 8) ?hd (cs := #[.slice none 0 0]) (t := 24) ?hr ?_; (case hd => rfl); (case hg => rfl); (case hr => first | (go_simp; done) | (go_simp; rfl)); intro gb171 hg w48 hbox hb; have n0_ := Aside0.mk (Kd.R_below (by (with_reducible repeat (first | apply Kd.R_alloc | apply Kd.R_drewN | apply Kd.R_drew)); exact HO159.out) hb); have n1_ := Aside0.mk (Kd.R_below (by (with_reducible repeat (first | apply Kd.R_alloc | apply Kd.R_drewN | apply Kd.R_drew)); exact HO162.out) hb); have n2_ := Aside0.mk (Kd.R_below (by (with_reducible repeat (first | apply Kd.R_alloc | apply Kd.R_drewN | apply Kd.R_drew)); exact HO166.out) hb); have n3_ := Aside0.mk (Kd.R_below (by (with_reducible repeat (first | apply Kd.R_alloc | apply Kd.R_drewN | apply Kd.R_drew)); exact HO170.out) hb); have n4_ := Aside0.mk (blk_below (g := gb153) (o := .cells #[.slice A0_0 l0_0.length c0_0] 31 (0, 0)) (by (with_reducible repeat (first | refine blk_drewN ?_ _ | refine blk_drew ?_ | refine blk_alloc ?_ _)); exact BK153.out) hb); have n5_ := Aside0.mk (blk_below (g := gb154) (o := .cells #[.slice A1_0 l1_0.length c1_0] 31 (0, 0)) (by (with_reducible repeat (first | refine blk_drewN ?_ _ | refine blk_drew ?_ | refine blk_alloc ?_ _)); exact BK154.out) hb); have n6_ := Aside0.mk (blk_below (g := gb167) (o := .cells #[.slice Ao42 t164.length co42] 24 (0, 0)) (by (with_reducible repeat (first | refine blk_drewN ?_ _ | refine blk_drew ?_ | refine blk_alloc ?_ _)); exact BK167.out) hb); have n7_ := Aside0.mk (below_step (by repeat (first | (with_reducible first | exact HB.out | apply below_alloc | apply pw_below_drewN | apply below_drew1 | refine below_set ?_ GE153.out | refine below_set ?_ GE154.out | refine below_set ?_ GE167.out) | exact HB.out)) hb); have n8_ := Aside0.mk (hbox); have n9_ := Aside0.mk ((by rw [hg]; exact (below_size (by repeat (first | (with_reducible first | exact HB.out | apply below_alloc | apply pw_below_drewN | apply below_drew1 | refine below_set ?_ GE153.out | refine below_set ?_ GE154.out | refine below_set ?_ GE167.out) | exact HB.out))) : w.heap.size ≤ gb171)); have n10_ := Aside0.mk ((by rw [hg]; exact (below_size (by repeat (first | (with_reducible first | exact HB.out | apply below_alloc | apply pw_below_drewN | apply below_drew1 | refine below_set ?_ GE153.out | refine below_set ?_ GE154.out | refine below_set ?_ GE167.out) | exact HB.out))) : w.heap.size ≤ gb171)); have n11_ := Aside0.mk ((by rw [hg]; exact Nat.ne_of_lt (blk_lt (g := gb153) (o := .cells #[.slice A0_0 l0_0.length c0_0] 31 (0, 0)) (by (with_reducible repeat (first | refine blk_drewN ?_ _ | refine blk_drew ?_ | refine blk_alloc ?_ _)); exact BK153.out)) : gb153 ≠ gb171)); have n12_ := Aside0.mk ((by rw [hg]; exact Nat.ne_of_gt (blk_lt (g := gb153) (o := .cells #[.slice A0_0 l0_0.length c0_0] 31 (0, 0)) (by (with_reducible repeat (first | refine blk_drewN ?_ _ | refine blk_drew ?_ | refine blk_alloc ?_ _)); exact BK153.out)) : gb171 ≠ gb153)); have n13_ := Aside0.mk ((by rw [hg]; exact Nat.ne_of_lt (blk_lt (g := gb154) (o := .cells #[.slice A1_0 l1_0.length c1_0] 31 (0, 0)) (by (with_reducible repeat (first | refine blk_drewN ?_ _ | refine blk_drew ?_ | refine blk_alloc ?_ _)); exact BK154.out)) : gb154 ≠ gb171)); have n14_ := Aside0.mk ((by rw [hg]; exact Nat.ne_of_gt (blk_lt (g := gb154) (o := .cells #[.slice A1_0 l1_0.length c1_0] 31 (0, 0)) (by (with_reducible repeat (first | refine blk_drewN ?_ _ | refine blk_drew ?_ | refine blk_alloc ?_ _)); exact BK154.out)) : gb171 ≠ gb154)); have n15_ := Aside0.mk ((by rw [hg]; exact Nat.ne_of_lt (blk_lt (g := gb167) (o := .cells #[.slice Ao42 t164.length co42] 24 (0, 0)) (by (with_reducible repeat (first | refine blk_drewN ?_ _ | refine blk_drew ?_ | refine blk_alloc ?_ _)); exact BK167.out)) : gb167 ≠ gb171)); have n16_ := Aside0.mk ((by rw [hg]; exact Nat.ne_of_gt (blk_lt (g := gb167) (o := .cells #[.slice Ao42 t164.length co42] 24 (0, 0)) (by (with_reducible repeat (first | refine blk_drewN ?_ _ | refine blk_drew ?_ | refine blk_alloc ?_ _)); exact BK167.out)) : gb171 ≠ gb167)); clear HO159; clear HO162; clear HO166; clear HO170; clear BK153; clear BK154; clear BK167; clear HB; have HO159 := n0_; have HO162 := n1_; have HO166 := n2_; have HO170 := n3_; have BK153 := n4_; have BK154 := n5_; have BK167 := n6_; have HB := n7_; have BK171 := n8_; have GW171 := n9_; have GE171 := n10_; have NB153_171 := n11_; have NB171_153 := n12_; have NB154_171 := n13_; have NB171_154 := n14_; have NB167_171 := n15_; have NB171_167 := n16_; clear n0_ n1_ n2_ n3_ n4_ n5_ n6_ n7_ n8_ n9_ n10_ n11_ n12_ n13_ n14_ n15_ n16_; clear hb hbox hg; obtain ⟨Ao49, co49, eo49⟩ := Kd.R_slice HO170.out; subst eo49; have hnb50 := NB171_153.out; have hnc50 := NB153_171.out; have hnb51 := NB171_154.out; have hnc51 := NB154_171.out; have hnb52 := NB171_167.out; have hnc52 := NB167_171.out; have hcz53_0 : w48.cell? ⟨gb171, 0, none⟩ = some (.slice none 0 0) := (blk_cell BK171.out 0).trans rfl; have hfz53_0 := blk_frozen BK171.out 0; have hcz54_0 : w48.cell? ⟨gb167, 0, none⟩ = some (.slice Ao42 t164.length co42) := (blk_cell BK167.out 0).trans rfl; have hfz54_0 := blk_frozen BK167.out 0) | ((with_reducible refine gate_callee (f := 27) rfl ?_); refine goesL_ (some 31) rfl rfl Try.func27 (by kernel_rfl) rfl #[.agg #[.slice Ao42 t164.length co42], .agg #[.slice Ao49 t168.length co49]] rfl (by (try simp only [List.map_toArray, List.map_cons, List.map_nil]); first | done | rfl | (simp only [List.length_drop, List.length_take]; rfl)) ?_; (with_reducible refine (impl_SameTree.calls k _ _ t164 _ _ t168 t172 _ ?side1 ?side2 ?side3 ?side4 A24.out).mono ?_); (case side1 => refine (Kd.R_reads' (e := 77) (base := w.heap.size) (ok := fun k_ => (((True ∧ some k_ ≠ (.slice Ao36 t157.length co36 : Value).ownBlock) ∧ some k_ ≠ (.slice Ao37 t160.length co37 : Value).ownBlock) ∧ some k_ ≠ (.slice Ao49 t168.length co49 : Value).ownBlock)) (n := t164.length) (c := co42) ?_).2.2; exact (by (with_reducible repeat (first | apply Kd.R_alloc | apply Kd.R_drewN | apply Kd.R_drew)); exact (Kd.R_mono (Kd.R_far (p := ⟨gb171, 0, none⟩) (Kd.R_types HO166.out BK171.out (by decide)) (fun _ hk => hk.2) (.slice Ao49 t168.length co49)) (fun _ h_ => h_.1)))); (case side2 => exact (Kd.R_reads' HO166.out).2.1); (case side3 => refine (Kd.R_reads' (e := 77) (base := w.heap.size) (ok := fun k_ => (((True ∧ some k_ ≠ (.slice Ao36 t157.length co36 : Value).ownBlock) ∧ some k_ ≠ (.slice Ao37 t160.length co37 : Value).ownBlock) ∧ some k_ ≠ (.slice Ao42 t164.length co42 : Value).ownBlock)) (n := t168.length) (c := co49) ?_).2.2; exact (by (with_reducible repeat (first | apply Kd.R_alloc | apply Kd.R_drewN | apply Kd.R_drew)); exact (Kd.R_mono (Kd.R_far (p := ⟨gb171, 0, none⟩) (Kd.R_types HO170.out BK171.out (by decide)) (fun _ hk => hk.2) (.slice Ao49 t168.length co49)) (fun _ h_ => h_.1)))); (case side4 => exact (Kd.R_reads' HO170.out).2.1); rintro e w55 ⟨rfl, hb⟩; refine ⟨_, rfl, ?_⟩; have n0_ := Aside0.mk (Kd.R_below (by (with_reducible repeat (first | apply Kd.R_alloc | apply Kd.R_drewN | apply Kd.R_drew)); exact (Kd.R_mono (Kd.R_far (p := ⟨gb171, 0, none⟩) (Kd.R_types HO159.out BK171.out (by decide)) (fun _ hk => hk.2) (.slice Ao49 t168.length co49)) (fun _ h_ => h_.1))) hb); have n1_ := Aside0.mk (Kd.R_below (by (with_reducible repeat (first | apply Kd.R_alloc | apply Kd.R_drewN | apply Kd.R_drew)); exact (Kd.R_mono (Kd.R_far (p := ⟨gb171, 0, none⟩) (Kd.R_types HO162.out BK171.out (by decide)) (fun _ hk => hk.2) (.slice Ao49 t168.length co49)) (fun _ h_ => h_.1))) hb); have n2_ := Aside0.mk (Kd.R_below (by (with_reducible repeat (first | apply Kd.R_alloc | apply Kd.R_drewN | apply Kd.R_drew)); exact (Kd.R_mono (Kd.R_far (p := ⟨gb171, 0, none⟩) (Kd.R_types HO166.out BK171.out (by decide)) (fun _ hk => hk.2) (.slice Ao49 t168.length co49)) (fun _ h_ => h_.1))) hb); have n3_ := Aside0.mk (Kd.R_below (by (with_reducible repeat (first | apply Kd.R_alloc | apply Kd.R_drewN | apply Kd.R_drew)); exact (Kd.R_mono (Kd.R_far (p := ⟨gb171, 0, none⟩) (Kd.R_types HO170.out BK171.out (by decide)) (fun _ hk => hk.2) (.slice Ao49 t168.length co49)) (fun _ h_ => h_.1))) hb); have n4_ := Aside0.mk (blk_below (g := gb153) (o := .cells #[.slice A0_0 l0_0.length c0_0] 31 (0, 0)) (by (with_reducible repeat (first | refine blk_drewN ?_ _ | refine blk_drew ?_ | refine blk_alloc ?_ _)); refine blk_far ?_ NB153_171.out _; (with_reducible repeat (first | refine blk_drewN ?_ _ | refine blk_drew ?_ | refine blk_alloc ?_ _)); exact BK153.out) hb); have n5_ := Aside0.mk (blk_below (g := gb154) (o := .cells #[.slice A1_0 l1_0.length c1_0] 31 (0, 0)) (by (with_reducible repeat (first | refine blk_drewN ?_ _ | refine blk_drew ?_ | refine blk_alloc ?_ _)); refine blk_far ?_ NB154_171.out _; (with_reducible repeat (first | refine blk_drewN ?_ _ | refine blk_drew ?_ | refine blk_alloc ?_ _)); exact BK154.out) hb); have n6_ := Aside0.mk (blk_below (g := gb167) (o := .cells #[.slice Ao42 t164.length co42] 24 (0, 0)) (by (with_reducible repeat (first | refine blk_drewN ?_ _ | refine blk_drew ?_ | refine blk_alloc ?_ _)); refine blk_far ?_ NB167_171.out _; (with_reducible repeat (first | refine blk_drewN ?_ _ | refine blk_drew ?_ | refine blk_alloc ?_ _)); exact BK167.out) hb); have n7_ := Aside0.mk (blk_below (g := gb171) (o := .cells #[.slice Ao49 t168.length co49] 24 (0, 0)) (by (with_reducible repeat (first | refine blk_drewN ?_ _ | refine blk_drew ?_ | refine blk_alloc ?_ _)); refine blk_put (cs := #[.slice none 0 0]) ?_ 0 _ rfl; (with_reducible repeat (first | refine blk_drewN ?_ _ | refine blk_drew ?_ | refine blk_alloc ?_ _)); exact BK171.out) hb); have n8_ := Aside0.mk (below_step (by repeat (first | (with_reducible first | exact HB.out | apply below_alloc | apply pw_below_drewN | apply below_drew1 | refine below_set ?_ GE153.out | refine below_set ?_ GE154.out | refine below_set ?_ GE167.out | refine below_set ?_ GE171.out) | exact HB.out)) hb); clear HO159; clear HO162; clear HO166; clear HO170; clear BK153; clear BK154; clear BK167; clear BK171; clear HB; have HO159 := n0_; have HO162 := n1_; have HO166 := n2_; have HO170 := n3_; have BK153 := n4_; have BK154 := n5_; have BK167 := n6_; have BK171 := n7_; have HB := n8_; clear n0_ n1_ n2_ n3_ n4_ n5_ n6_ n7_ n8_; (try clear hb); (try clear hb2); (try clear hk); (try clear hi)))
        go_ret
        exact ⟨by first | rfl | (simp [errW_none, errW_some] <;> rfl) | (simp [*, errW_none, errW_some] <;> rfl), by repeat (first | (with_reducible first | exact HB.out | apply below_alloc | apply pw_below_drewN | apply below_drew1 | refine below_set ?_ GE153.out | refine below_set ?_ GE154.out | refine below_set ?_ GE167.out | refine below_set ?_ GE171.out) | exact HB.out)⟩
      · rw [if_neg c25] at H
        have c25b0 : (t172 != t163) = false := by simpa using c25
        (try (have c25b1 : decide (t172 = t163) = true := by simpa using c25))
        (try (have c25b2 : (t172 == t163) = true := by simpa using c25))
        clear c25
        replace H := Option.bind_eq_some_iff.mp H
        obtain ⟨t173, A560, H⟩ := H
        replace H : ((laws_eqTree.f k t164 t173).bind fun t176 => (if t176 = true then ((laws_toTree.f k l1_0).bind fun t177 => ((laws_eqTree.f k t168 t177).bind fun t180 => (if t180 = true then (some true) else (some false)))) else (some false))) = some r := H
        have A56 := Aside0.mk A560
        clear A560
        replace H := Option.bind_eq_some_iff.mp H
        obtain ⟨t176, A570, H⟩ := H
        replace H : (if t176 = true then ((laws_toTree.f k l1_0).bind fun t177 => ((laws_eqTree.f k t168 t177).bind fun t180 => (if t180 = true then (some true) else (some false)))) else (some false)) = some r := H
        have A57 := Aside0.mk A570
        clear A570
        by_cases c58 : t176 = true
        · subst c58
          have H1 : ((laws_toTree.f k l1_0).bind fun t177 => ((laws_eqTree.f k t168 t177).bind fun t180 => (if t180 = true then (some true) else (some false)))) = some r := by rw [if_pos rfl] at H; exact H
          clear H
          have H := H1
          clear H1
          replace H := Option.bind_eq_some_iff.mp H
          obtain ⟨t177, A590, H⟩ := H
          replace H : ((laws_eqTree.f k t168 t177).bind fun t180 => (if t180 = true then (some true) else (some false))) = some r := H
          have A59 := Aside0.mk A590
          clear A590
          replace H := Option.bind_eq_some_iff.mp H
          obtain ⟨t180, A600, H⟩ := H
          replace H : (if t180 = true then (some true) else (some false)) = some r := H
          have A60 := Aside0.mk A600
          clear A600
          by_cases c61 : t180 = true
          · subst c61
            have H1 : (some true) = some r := by rw [if_pos rfl] at H; exact H
            clear H
            have H := H1
            clear H1
            obtain rfl := Option.some.inj H
            go_enter Try.func6, Try.ntmps6
            try go_wp2_with (first | ((with_reducible refine gate_dst (N := 2) rfl ?_); refine box_event ?hg (N := 2) ?hd (cs := #[.slice A0_0 l0_0.length c0_0]) (t := 31) ?hr ?_; (case hd => rfl); (case hg => rfl); (case hr => first | (go_simp; done) | (go_simp; rfl)); intro gb153 hg w62 hbox hb; have n0_ := Aside0.mk (below_step (by repeat (first | (with_reducible first | exact HB.out | apply below_alloc | apply pw_below_drewN | apply below_drew1) | exact HB.out)) hb); have n1_ := Aside0.mk (hbox); have n2_ := Aside0.mk ((by rw [hg]; exact (below_size (by repeat (first | (with_reducible first | exact HB.out | apply below_alloc | apply pw_below_drewN | apply below_drew1) | exact HB.out))) : w.heap.size ≤ gb153)); have n3_ := Aside0.mk ((by rw [hg]; exact (below_size (by repeat (first | (with_reducible first | exact HB.out | apply below_alloc | apply pw_below_drewN | apply below_drew1) | exact HB.out))) : w.heap.size ≤ gb153)); clear HB; have HB := n0_; have BK153 := n1_; have GW153 := n2_; have GE153 := n3_; clear n0_ n1_ n2_ n3_; clear hb hbox hg) | ((with_reducible refine gate_dst (N := 3) rfl ?_); refine box_event ?hg (N := 3) ?hd (cs := #[.slice A1_0 l1_0.length c1_0]) (t := 31) ?hr ?_; (case hd => rfl); (case hg => rfl); (case hr => first | (go_simp; done) | (go_simp; rfl)); intro gb154 hg w63 hbox hb; have n0_ := Aside0.mk (blk_below (g := gb153) (o := .cells #[.slice A0_0 l0_0.length c0_0] 31 (0, 0)) (by (with_reducible repeat (first | refine blk_drewN ?_ _ | refine blk_drew ?_ | refine blk_alloc ?_ _)); exact BK153.out) hb); have n1_ := Aside0.mk (below_step (by repeat (first | (with_reducible first | exact HB.out | apply below_alloc | apply pw_below_drewN | apply below_drew1 | refine below_set ?_ GE153.out) | exact HB.out)) hb); have n2_ := Aside0.mk (hbox); have n3_ := Aside0.mk ((by rw [hg]; exact (below_size (by repeat (first | (with_reducible first | exact HB.out | apply below_alloc | apply pw_below_drewN | apply below_drew1 | refine below_set ?_ GE153.out) | exact HB.out))) : w.heap.size ≤ gb154)); have n4_ := Aside0.mk ((by rw [hg]; exact (below_size (by repeat (first | (with_reducible first | exact HB.out | apply below_alloc | apply pw_below_drewN | apply below_drew1 | refine below_set ?_ GE153.out) | exact HB.out))) : w.heap.size ≤ gb154)); have n5_ := Aside0.mk ((by rw [hg]; exact Nat.ne_of_lt (blk_lt (g := gb153) (o := .cells #[.slice A0_0 l0_0.length c0_0] 31 (0, 0)) (by (with_reducible repeat (first | refine blk_drewN ?_ _ | refine blk_drew ?_ | refine blk_alloc ?_ _)); exact BK153.out)) : gb153 ≠ gb154)); have n6_ := Aside0.mk ((by rw [hg]; exact Nat.ne_of_gt (blk_lt (g := gb153) (o := .cells #[.slice A0_0 l0_0.length c0_0] 31 (0, 0)) (by (with_reducible repeat (first | refine blk_drewN ?_ _ | refine blk_drew ?_ | refine blk_alloc ?_ _)); exact BK153.out)) : gb154 ≠ gb153)); clear BK153; clear HB; have BK153 := n0_; have HB := n1_; have BK154 := n2_; have GW154 := n3_; have GE154 := n4_; have NB153_154 := n5_; have NB154_153 := n6_; clear n0_ n1_ n2_ n3_ n4_ n5_ n6_; clear hb hbox hg; have hnb64 := NB153_154.out; have hnc64 := NB154_153.out; have hcz65_0 : w63.cell? ⟨gb153, 0, none⟩ = some (.slice A0_0 l0_0.length c0_0) := (blk_cell BK153.out 0).trans rfl; have hfz65_0 := blk_frozen BK153.out 0) | ((with_reducible refine gate_callee (f := 24) rfl ?_); refine goesL_ (some 12) rfl rfl Try.func24 (by kernel_rfl) rfl #[.agg #[.slice A0_0 l0_0.length c0_0], .int .i64 1048576] rfl (by (try simp only [List.map_toArray, List.map_cons, List.map_nil]); first | done | rfl | (simp only [List.length_drop, List.length_take]; rfl)) ?_; (with_reducible refine (laws_szTree.calls _ _ l0_0 1048576 t155 _ ?side1 ?side2 A3.out).mono ?_); (case side1 => repeat (first | exact (Kd.C_below HR0_0.out HB.out) | (with_reducible refine Kd.C_alloc ?_ _) | (with_reducible refine Kd.C_drewN ?_ _) | (with_reducible refine Kd.C_drew ?_))); (case side2 => exact HC0_0.out); rintro e w66 ⟨rfl, hb⟩; refine ⟨_, rfl, ?_⟩; have n0_ := Aside0.mk (blk_below (g := gb153) (o := .cells #[.slice A0_0 l0_0.length c0_0] 31 (0, 0)) (by (with_reducible repeat (first | refine blk_drewN ?_ _ | refine blk_drew ?_ | refine blk_alloc ?_ _)); exact BK153.out) hb); have n1_ := Aside0.mk (blk_below (g := gb154) (o := .cells #[.slice A1_0 l1_0.length c1_0] 31 (0, 0)) (by (with_reducible repeat (first | refine blk_drewN ?_ _ | refine blk_drew ?_ | refine blk_alloc ?_ _)); exact BK154.out) hb); have n2_ := Aside0.mk (below_step (by repeat (first | (with_reducible first | exact HB.out | apply below_alloc | apply pw_below_drewN | apply below_drew1 | refine below_set ?_ GE153.out | refine below_set ?_ GE154.out) | exact HB.out)) hb); clear BK153; clear BK154; clear HB; have BK153 := n0_; have BK154 := n1_; have HB := n2_; clear n0_ n1_ n2_; (try clear hb); (try clear hb2); (try clear hk); (try clear hi); have hcz67_0 : w66.cell? ⟨gb154, 0, none⟩ = some (.slice A1_0 l1_0.length c1_0) := (blk_cell BK154.out 0).trans rfl; have hfz67_0 := blk_frozen BK154.out 0) | ((with_reducible refine gate_callee (f := 24) rfl ?_); refine goesL_ (some 17) rfl rfl Try.func24 (by kernel_rfl) rfl #[.agg #[.slice A1_0 l1_0.length c1_0], .int .i64 t155] rfl (by (try simp only [List.map_toArray, List.map_cons, List.map_nil]); first | done | rfl | (simp only [List.length_drop, List.length_take]; rfl)) ?_; (with_reducible refine (laws_szTree.calls _ _ l1_0 t155 t156 _ ?side1 ?side2 A10.out).mono ?_); (case side1 => repeat (first | exact (Kd.C_below HR1_0.out HB.out) | (with_reducible refine Kd.C_alloc ?_ _) | (with_reducible refine Kd.C_drewN ?_ _) | (with_reducible refine Kd.C_drew ?_))); (case side2 => exact HC1_0.out); rintro e w68 ⟨rfl, hb⟩; refine ⟨_, rfl, ?_⟩; have n0_ := Aside0.mk (blk_below (g := gb153) (o := .cells #[.slice A0_0 l0_0.length c0_0] 31 (0, 0)) (by (with_reducible repeat (first | refine blk_drewN ?_ _ | refine blk_drew ?_ | refine blk_alloc ?_ _)); exact BK153.out) hb); have n1_ := Aside0.mk (blk_below (g := gb154) (o := .cells #[.slice A1_0 l1_0.length c1_0] 31 (0, 0)) (by (with_reducible repeat (first | refine blk_drewN ?_ _ | refine blk_drew ?_ | refine blk_alloc ?_ _)); exact BK154.out) hb); have n2_ := Aside0.mk (below_step (by repeat (first | (with_reducible first | exact HB.out | apply below_alloc | apply pw_below_drewN | apply below_drew1 | refine below_set ?_ GE153.out | refine below_set ?_ GE154.out) | exact HB.out)) hb); clear BK153; clear BK154; clear HB; have BK153 := n0_; have BK154 := n1_; have HB := n2_; clear n0_ n1_ n2_; (try clear hb); (try clear hb2); (try clear hk); (try clear hi)))
            have n0_ := Aside0.mk (blk_drew BK153.out)
            have n1_ := Aside0.mk (blk_drew BK154.out)
            have n2_ := Aside0.mk (below_drew1 HB.out)
            clear BK153
            clear BK154
            clear HB
            have BK153 := n0_
            have BK154 := n1_
            have HB := n2_
            clear n0_ n1_ n2_
            refine start_ (n := 6) (S := fun w' => w'.cell? ⟨gb153, 0, none⟩ = some (.slice A0_0 l0_0.length c0_0) ∧ w'.cell? ⟨gb154, 0, none⟩ = some (.slice A1_0 l1_0.length c1_0)) (ds := []) #[false, false, false, false, false, false] (by kernel_rfl) rfl rfl ⟨(blk_cell BK153.out 0).trans rfl, (blk_cell BK154.out 0).trans rfl⟩ (fun hHeld => ?_)
            generalize w68.drew = w69 at BK153 BK154 HB hHeld ⊢
            refine take_ (i := 0) (N := some 20) (v := ?_) (a' := ?_) #[true, false, false, false, false, false] rfl rfl (by kernel_rfl) (fun _ _ _ h => h) (Or.inl ⟨by rfl, ?_⟩) hHeld ?_ ?_
            rotate_left
            · rintro w' ⟨s0, s1⟩
              go_simp
              with_reducible rfl
            rotate_left
            · simp only [Act.put, List.setIfInBounds_toArray, List.set_cons_zero, List.set_cons_succ, i64_w, i32_w]
              rfl
            refine take_ (i := 2) (N := some 22) (v := ?_) (a' := ?_) #[true, false, true, false, false, false] rfl rfl (by kernel_rfl) (fun _ _ _ h => h) (Or.inl ⟨by rfl, ?_⟩) hHeld ?_ ?_
            rotate_left
            · rintro w' ⟨s0, s1⟩
              go_simp
              with_reducible rfl
            rotate_left
            · simp only [Act.put, List.setIfInBounds_toArray, List.set_cons_zero, List.set_cons_succ, i64_w, i32_w]
              rfl
            refine one_ (i := 1) (N := some 21) #[true, true, true, false, false, false] rfl rfl (by kernel_rfl) (by decide) (fun K hK => ?_)
            refine goes_ Try.func26 (by kernel_rfl) rfl #[.agg #[.slice A0_0 l0_0.length c0_0]] (by rfl) rfl rfl (by (try simp only [List.map_toArray, List.map_cons, List.map_nil]); first | done | rfl | (simp only [List.length_drop, List.length_take]; rfl)) ?_
            with_reducible refine (laws_toTree.calls k _ _ l0_0 t157 _ ?side1 ?side2 A19.out).mono ?_
            (case side1 => repeat (first | exact (Kd.C_below HR0_0.out HB.out) | (with_reducible refine Kd.C_alloc ?_ _) | (with_reducible refine Kd.C_drewN ?_ _) | (with_reducible refine Kd.C_drew ?_)))
            (case side2 => exact HC0_0.out)
            rintro e w70 ⟨v158, rfl, ho0, hb⟩
            refine ⟨_, rfl, ?_⟩
            have n0_ := Aside0.mk (Kd.R_lower ho0 (below_size (by repeat (first | (with_reducible first | exact HB.out | apply below_alloc | apply pw_below_drewN | apply below_drew1 | refine below_set ?_ GE153.out | refine below_set ?_ GE154.out) | exact HB.out))))
            have n1_ := Aside0.mk (blk_below (g := gb153) (o := .cells #[.slice A0_0 l0_0.length c0_0] 31 (0, 0)) (by (with_reducible repeat (first | refine blk_drewN ?_ _ | refine blk_drew ?_ | refine blk_alloc ?_ _)); exact BK153.out) hb)
            have n2_ := Aside0.mk (blk_below (g := gb154) (o := .cells #[.slice A1_0 l1_0.length c1_0] 31 (0, 0)) (by (with_reducible repeat (first | refine blk_drewN ?_ _ | refine blk_drew ?_ | refine blk_alloc ?_ _)); exact BK154.out) hb)
            have n3_ := Aside0.mk (below_step (by repeat (first | (with_reducible first | exact HB.out | apply below_alloc | apply pw_below_drewN | apply below_drew1 | refine below_set ?_ GE153.out | refine below_set ?_ GE154.out) | exact HB.out)) hb)
            clear BK153
            clear BK154
            clear HB
            have HO159 := n0_
            have BK153 := n1_
            have BK154 := n2_
            have HB := n3_
            clear n0_ n1_ n2_ n3_
            (try clear hb)
            (try clear hb2)
            (try clear hk)
            (try clear hi)
            (try clear ho0)
            refine hK.out _ _ ⟨(blk_cell BK153.out 0).trans rfl, (blk_cell BK154.out 0).trans rfl⟩ (fun hHeld => ?_)
            clear hK K
            refine norm_ (a' := ?_) ?_ ?_
            rotate_left
            · show Act.put _ (some 21) _ = _
              simp only [Act.put, List.setIfInBounds_toArray, List.set_cons_zero, List.set_cons_succ, i64_w, i32_w]
              rfl
            refine one_ (i := 3) (N := some 23) #[true, true, true, true, false, false] rfl rfl (by kernel_rfl) (by decide) (fun K hK => ?_)
            refine goes_ Try.func26 (by kernel_rfl) rfl #[.agg #[.slice A1_0 l1_0.length c1_0]] (by rfl) rfl rfl (by (try simp only [List.map_toArray, List.map_cons, List.map_nil]); first | done | rfl | (simp only [List.length_drop, List.length_take]; rfl)) ?_
            with_reducible refine (laws_toTree.calls k _ _ l1_0 t160 _ ?side1 ?side2 A20.out).mono ?_
            (case side1 => repeat (first | exact (Kd.C_below HR1_0.out HB.out) | (with_reducible refine Kd.C_alloc ?_ _) | (with_reducible refine Kd.C_drewN ?_ _) | (with_reducible refine Kd.C_drew ?_)))
            (case side2 => exact HC1_0.out)
            rintro e w71 ⟨v161, rfl, ho0, hb⟩
            refine ⟨_, rfl, ?_⟩
            have n0_ := Aside0.mk (Kd.R_elder' (by (with_reducible repeat (first | apply Kd.R_alloc | apply Kd.R_drewN | apply Kd.R_drew)); exact HO159.out) (Kd.R_base ho0) hb)
            have n1_ := Aside0.mk (Kd.R_lower (Kd.R_new' ho0 (Kd.R_lt (by (with_reducible repeat (first | apply Kd.R_alloc | apply Kd.R_drewN | apply Kd.R_drew)); exact HO159.out))) (below_size (by repeat (first | (with_reducible first | exact HB.out | apply below_alloc | apply pw_below_drewN | apply below_drew1 | refine below_set ?_ GE153.out | refine below_set ?_ GE154.out) | exact HB.out))))
            have n2_ := Aside0.mk (blk_below (g := gb153) (o := .cells #[.slice A0_0 l0_0.length c0_0] 31 (0, 0)) (by (with_reducible repeat (first | refine blk_drewN ?_ _ | refine blk_drew ?_ | refine blk_alloc ?_ _)); exact BK153.out) hb)
            have n3_ := Aside0.mk (blk_below (g := gb154) (o := .cells #[.slice A1_0 l1_0.length c1_0] 31 (0, 0)) (by (with_reducible repeat (first | refine blk_drewN ?_ _ | refine blk_drew ?_ | refine blk_alloc ?_ _)); exact BK154.out) hb)
            have n4_ := Aside0.mk (below_step (by repeat (first | (with_reducible first | exact HB.out | apply below_alloc | apply pw_below_drewN | apply below_drew1 | refine below_set ?_ GE153.out | refine below_set ?_ GE154.out) | exact HB.out)) hb)
            clear HO159
            clear BK153
            clear BK154
            clear HB
            have HO159 := n0_
            have HO162 := n1_
            have BK153 := n2_
            have BK154 := n3_
            have HB := n4_
            clear n0_ n1_ n2_ n3_ n4_
            (try clear hb)
            (try clear hb2)
            (try clear hk)
            (try clear hi)
            (try clear ho0)
            obtain ⟨Ao72, co72, eo72⟩ := Kd.R_slice HO159.out
            (first | subst eo72 | (injection eo72 with f1_ f2_ f3_; have f4_ := f1_.symm; have f5_ := f3_.symm; clear f1_ f2_ f3_; subst f4_; subst f5_))
            obtain ⟨Ao73, co73, eo73⟩ := Kd.R_slice HO162.out
            (first | subst eo73 | (injection eo73 with f1_ f2_ f3_; have f4_ := f1_.symm; have f5_ := f3_.symm; clear f1_ f2_ f3_; subst f4_; subst f5_))
            refine hK.out _ _ ⟨(blk_cell BK153.out 0).trans rfl, (blk_cell BK154.out 0).trans rfl⟩ (fun hHeld => ?_)
            clear hK K
            refine norm_ (a' := ?_) ?_ ?_
            rotate_left
            · show Act.put _ (some 23) _ = _
              simp only [Act.put, List.setIfInBounds_toArray, List.set_cons_zero, List.set_cons_succ, i64_w, i32_w]
              rfl
            refine one_ (i := 4) (N := some 24) #[true, true, true, true, true, false] rfl rfl (by kernel_rfl) (by decide) (fun K hK => ?_)
            refine goes_ Try.func25 (by kernel_rfl) rfl #[.agg #[.slice Ao72 t157.length co72], .agg #[.slice Ao73 t160.length co73]] (by rfl) rfl rfl (by (try simp only [List.map_toArray, List.map_cons, List.map_nil]); first | done | rfl | (simp only [List.length_drop, List.length_take]; rfl)) ?_
            with_reducible refine (spec_SameTree.calls k _ _ t157 _ _ t160 t163 _ ?side1 ?side2 ?side3 ?side4 A21.out).mono ?_
            (case side1 => repeat (first | exact (Kd.R_reads' HO159.out).2.2 | (with_reducible refine Kd.C_alloc ?_ _) | (with_reducible refine Kd.C_drewN ?_ _) | (with_reducible refine Kd.C_drew ?_)))
            (case side2 => exact (Kd.R_reads' HO159.out).2.1)
            (case side3 => repeat (first | exact (Kd.R_reads' HO162.out).2.2 | (with_reducible refine Kd.C_alloc ?_ _) | (with_reducible refine Kd.C_drewN ?_ _) | (with_reducible refine Kd.C_drew ?_)))
            (case side4 => exact (Kd.R_reads' HO162.out).2.1)
            rintro e w74 ⟨rfl, hb⟩
            refine ⟨_, rfl, ?_⟩
            have n0_ := Aside0.mk (Kd.R_below (by (with_reducible repeat (first | apply Kd.R_alloc | apply Kd.R_drewN | apply Kd.R_drew)); exact HO159.out) hb)
            have n1_ := Aside0.mk (Kd.R_below (by (with_reducible repeat (first | apply Kd.R_alloc | apply Kd.R_drewN | apply Kd.R_drew)); exact HO162.out) hb)
            have n2_ := Aside0.mk (blk_below (g := gb153) (o := .cells #[.slice A0_0 l0_0.length c0_0] 31 (0, 0)) (by (with_reducible repeat (first | refine blk_drewN ?_ _ | refine blk_drew ?_ | refine blk_alloc ?_ _)); exact BK153.out) hb)
            have n3_ := Aside0.mk (blk_below (g := gb154) (o := .cells #[.slice A1_0 l1_0.length c1_0] 31 (0, 0)) (by (with_reducible repeat (first | refine blk_drewN ?_ _ | refine blk_drew ?_ | refine blk_alloc ?_ _)); exact BK154.out) hb)
            have n4_ := Aside0.mk (below_step (by repeat (first | (with_reducible first | exact HB.out | apply below_alloc | apply pw_below_drewN | apply below_drew1 | refine below_set ?_ GE153.out | refine below_set ?_ GE154.out) | exact HB.out)) hb)
            clear HO159
            clear HO162
            clear BK153
            clear BK154
            clear HB
            have HO159 := n0_
            have HO162 := n1_
            have BK153 := n2_
            have BK154 := n3_
            have HB := n4_
            clear n0_ n1_ n2_ n3_ n4_
            (try clear hb)
            (try clear hb2)
            (try clear hk)
            (try clear hi)
            refine hK.out _ _ ⟨(blk_cell BK153.out 0).trans rfl, (blk_cell BK154.out 0).trans rfl⟩ (fun hHeld => ?_)
            clear hK K
            refine norm_ (a' := ?_) ?_ ?_
            rotate_left
            · show Act.put _ (some 24) _ = _
              simp only [Act.put, List.setIfInBounds_toArray, List.set_cons_zero, List.set_cons_succ, i64_w, i32_w]
              rfl
            refine pure_ (i := 5) (N := some 6) (v := ?_) (a' := ?_) #[true, true, true, true, true, true] rfl rfl (by kernel_rfl) (fun _ _ _ h => h) (Or.inl ⟨by rfl, ?_⟩) ?_ ?_
            rotate_left
            · intro w'
              go_simp
              with_reducible rfl
            rotate_left
            · simp only [Act.put, List.setIfInBounds_toArray, List.set_cons_zero, List.set_cons_succ, i64_w, i32_w]
              rfl
            refine done_ (by kernel_rfl) ?_
            have hcz75_0 : w74.cell? ⟨gb153, 0, none⟩ = some (.slice A0_0 l0_0.length c0_0) := (blk_cell BK153.out 0).trans rfl
            have hfz75_0 := blk_frozen BK153.out 0
            try go_wp2_with (first | ((with_reducible refine gate_callee (f := 26) rfl ?_); refine goesL_ (some 26) rfl rfl Try.func26 (by kernel_rfl) rfl #[.agg #[.slice A0_0 l0_0.length c0_0]] rfl (by (try simp only [List.map_toArray, List.map_cons, List.map_nil]); first | done | rfl | (simp only [List.length_drop, List.length_take]; rfl)) ?_; (with_reducible refine (laws_toTree.calls k _ _ l0_0 t164 _ ?side1 ?side2 A22.out).mono ?_); (case side1 => repeat (first | exact (Kd.C_below HR0_0.out HB.out) | (with_reducible refine Kd.C_alloc ?_ _) | (with_reducible refine Kd.C_drewN ?_ _) | (with_reducible refine Kd.C_drew ?_))); (case side2 => exact HC0_0.out); rintro e w76 ⟨v165, rfl, ho0, hb⟩; refine ⟨_, rfl, ?_⟩; have n0_ := Aside0.mk (Kd.R_elder' (by (with_reducible repeat (first | apply Kd.R_alloc | apply Kd.R_drewN | apply Kd.R_drew)); exact HO159.out) (Kd.R_base ho0) hb); have n1_ := Aside0.mk (Kd.R_elder' (by (with_reducible repeat (first | apply Kd.R_alloc | apply Kd.R_drewN | apply Kd.R_drew)); exact HO162.out) (Kd.R_base ho0) hb); have n2_ := Aside0.mk (Kd.R_lower (Kd.R_new' (Kd.R_new' ho0 (Kd.R_lt (by (with_reducible repeat (first | apply Kd.R_alloc | apply Kd.R_drewN | apply Kd.R_drew)); exact HO159.out))) (Kd.R_lt (by (with_reducible repeat (first | apply Kd.R_alloc | apply Kd.R_drewN | apply Kd.R_drew)); exact HO162.out))) (below_size (by repeat (first | (with_reducible first | exact HB.out | apply below_alloc | apply pw_below_drewN | apply below_drew1 | refine below_set ?_ GE153.out | refine below_set ?_ GE154.out) | exact HB.out)))); have n3_ := Aside0.mk (blk_below (g := gb153) (o := .cells #[.slice A0_0 l0_0.length c0_0] 31 (0, 0)) (by (with_reducible repeat (first | refine blk_drewN ?_ _ | refine blk_drew ?_ | refine blk_alloc ?_ _)); exact BK153.out) hb); have n4_ := Aside0.mk (blk_below (g := gb154) (o := .cells #[.slice A1_0 l1_0.length c1_0] 31 (0, 0)) (by (with_reducible repeat (first | refine blk_drewN ?_ _ | refine blk_drew ?_ | refine blk_alloc ?_ _)); exact BK154.out) hb); have n5_ := Aside0.mk (below_step (by repeat (first | (with_reducible first | exact HB.out | apply below_alloc | apply pw_below_drewN | apply below_drew1 | refine below_set ?_ GE153.out | refine below_set ?_ GE154.out) | exact HB.out)) hb); clear HO159; clear HO162; clear BK153; clear BK154; clear HB; have HO159 := n0_; have HO162 := n1_; have HO166 := n2_; have BK153 := n3_; have BK154 := n4_; have HB := n5_; clear n0_ n1_ n2_ n3_ n4_ n5_; (try clear hb); (try clear hb2); (try clear hk); (try clear hi); (try clear ho0)) | ((with_reducible refine gate_dst (N := 7) rfl ?_); refine box_event ?hg (N := 7) ?hd (cs := #[.slice none 0 0]) (t := 24) ?hr ?_; (case hd => rfl); (case hg => rfl); (case hr => first | (go_simp; done) | (go_simp; rfl)); intro gb167 hg w77 hbox hb; have n0_ := Aside0.mk (Kd.R_below (by (with_reducible repeat (first | apply Kd.R_alloc | apply Kd.R_drewN | apply Kd.R_drew)); exact HO159.out) hb); have n1_ := Aside0.mk (Kd.R_below (by (with_reducible repeat (first | apply Kd.R_alloc | apply Kd.R_drewN | apply Kd.R_drew)); exact HO162.out) hb); have n2_ := Aside0.mk (Kd.R_below (by (with_reducible repeat (first | apply Kd.R_alloc | apply Kd.R_drewN | apply Kd.R_drew)); exact HO166.out) hb); have n3_ := Aside0.mk (blk_below (g := gb153) (o := .cells #[.slice A0_0 l0_0.length c0_0] 31 (0, 0)) (by (with_reducible repeat (first | refine blk_drewN ?_ _ | refine blk_drew ?_ | refine blk_alloc ?_ _)); exact BK153.out) hb); have n4_ := Aside0.mk (blk_below (g := gb154) (o := .cells #[.slice A1_0 l1_0.length c1_0] 31 (0, 0)) (by (with_reducible repeat (first | refine blk_drewN ?_ _ | refine blk_drew ?_ | refine blk_alloc ?_ _)); exact BK154.out) hb); have n5_ := Aside0.mk (below_step (by repeat (first | (with_reducible first | exact HB.out | apply below_alloc | apply pw_below_drewN | apply below_drew1 | refine below_set ?_ GE153.out | refine below_set ?_ GE154.out) | exact HB.out)) hb); have n6_ := Aside0.mk (hbox); have n7_ := Aside0.mk ((by rw [hg]; exact (below_size (by repeat (first | (with_reducible first | exact HB.out | apply below_alloc | apply pw_below_drewN | apply below_drew1 | refine below_set ?_ GE153.out | refine below_set ?_ GE154.out) | exact HB.out))) : w.heap.size ≤ gb167)); have n8_ := Aside0.mk ((by rw [hg]; exact (below_size (by repeat (first | (with_reducible first | exact HB.out | apply below_alloc | apply pw_below_drewN | apply below_drew1 | refine below_set ?_ GE153.out | refine below_set ?_ GE154.out) | exact HB.out))) : w.heap.size ≤ gb167)); have n9_ := Aside0.mk ((by rw [hg]; exact Nat.ne_of_lt (blk_lt (g := gb153) (o := .cells #[.slice A0_0 l0_0.length c0_0] 31 (0, 0)) (by (with_reducible repeat (first | refine blk_drewN ?_ _ | refine blk_drew ?_ | refine blk_alloc ?_ _)); exact BK153.out)) : gb153 ≠ gb167)); have n10_ := Aside0.mk ((by rw [hg]; exact Nat.ne_of_gt (blk_lt (g := gb153) (o := .cells #[.slice A0_0 l0_0.length c0_0] 31 (0, 0)) (by (with_reducible repeat (first | refine blk_drewN ?_ _ | refine blk_drew ?_ | refine blk_alloc ?_ _)); exact BK153.out)) : gb167 ≠ gb153)); have n11_ := Aside0.mk ((by rw [hg]; exact Nat.ne_of_lt (blk_lt (g := gb154) (o := .cells #[.slice A1_0 l1_0.length c1_0] 31 (0, 0)) (by (with_reducible repeat (first | refine blk_drewN ?_ _ | refine blk_drew ?_ | refine blk_alloc ?_ _)); exact BK154.out)) : gb154 ≠ gb167)); have n12_ := Aside0.mk ((by rw [hg]; exact Nat.ne_of_gt (blk_lt (g := gb154) (o := .cells #[.slice A1_0 l1_0.length c1_0] 31 (0, 0)) (by (with_reducible repeat (first | refine blk_drewN ?_ _ | refine blk_drew ?_ | refine blk_alloc ?_ _)); exact BK154.out)) : gb167 ≠ gb154)); clear HO159; clear HO162; clear HO166; clear BK153; clear BK154; clear HB; have HO159 := n0_; have HO162 := n1_; have HO166 := n2_; have BK153 := n3_; have BK154 := n4_; have HB := n5_; have BK167 := n6_; have GW167 := n7_; have GE167 := n8_; have NB153_167 := n9_; have NB167_153 := n10_; have NB154_167 := n11_; have NB167_154 := n12_; clear n0_ n1_ n2_ n3_ n4_ n5_ n6_ n7_ n8_ n9_ n10_ n11_ n12_; clear hb hbox hg; obtain ⟨Ao78, co78, eo78⟩ := Kd.R_slice HO166.out; subst eo78; have hnb79 := NB167_153.out; have hnc79 := NB153_167.out; have hnb80 := NB167_154.out; have hnc80 := NB154_167.out; have hcz81_0 : w77.cell? ⟨gb167, 0, none⟩ = some (.slice none 0 0) := (blk_cell BK167.out 0).trans rfl; have hfz81_0 := blk_frozen BK167.out 0; have hcz82_0 : w77.cell? ⟨gb154, 0, none⟩ = some (.slice A1_0 l1_0.length c1_0) := (blk_cell BK154.out 0).trans rfl; have hfz82_0 := blk_frozen BK154.out 0) | ((with_reducible refine gate_callee (f := 26) rfl ?_); refine goesL_ (some 28) rfl rfl Try.func26 (by kernel_rfl) rfl #[.agg #[.slice A1_0 l1_0.length c1_0]] rfl (by (try simp only [List.map_toArray, List.map_cons, List.map_nil]); first | done | rfl | (simp only [List.length_drop, List.length_take]; rfl)) ?_; (with_reducible refine (laws_toTree.calls k _ _ l1_0 t168 _ ?side1 ?side2 A23.out).mono ?_); (case side1 => exact Kd.C_below HR1_0.out (by repeat (first | (with_reducible first | exact HB.out | apply below_alloc | apply pw_below_drewN | apply below_drew1 | refine below_set ?_ GE153.out | refine below_set ?_ GE154.out | refine below_set ?_ GE167.out) | exact HB.out))); (case side2 => exact HC1_0.out); rintro e w83 ⟨v169, rfl, ho0, hb⟩; refine ⟨_, rfl, ?_⟩; have n0_ := Aside0.mk (Kd.R_elder' (by (with_reducible repeat (first | apply Kd.R_alloc | apply Kd.R_drewN | apply Kd.R_drew)); exact (Kd.R_mono (Kd.R_far (p := ⟨gb167, 0, none⟩) (Kd.R_types HO159.out BK167.out (by decide)) (fun _ hk => hk.2) (.slice Ao78 t164.length co78)) (fun _ h_ => h_.1))) (Kd.R_base ho0) hb); have n1_ := Aside0.mk (Kd.R_elder' (by (with_reducible repeat (first | apply Kd.R_alloc | apply Kd.R_drewN | apply Kd.R_drew)); exact (Kd.R_mono (Kd.R_far (p := ⟨gb167, 0, none⟩) (Kd.R_types HO162.out BK167.out (by decide)) (fun _ hk => hk.2) (.slice Ao78 t164.length co78)) (fun _ h_ => h_.1))) (Kd.R_base ho0) hb); have n2_ := Aside0.mk (Kd.R_elder' (by (with_reducible repeat (first | apply Kd.R_alloc | apply Kd.R_drewN | apply Kd.R_drew)); exact (Kd.R_mono (Kd.R_far (p := ⟨gb167, 0, none⟩) (Kd.R_types HO166.out BK167.out (by decide)) (fun _ hk => hk.2) (.slice Ao78 t164.length co78)) (fun _ h_ => h_.1))) (Kd.R_base ho0) hb); have n3_ := Aside0.mk (Kd.R_lower (Kd.R_new' (Kd.R_new' (Kd.R_new' ho0 (Kd.R_lt (by (with_reducible repeat (first | apply Kd.R_alloc | apply Kd.R_drewN | apply Kd.R_drew)); exact (Kd.R_mono (Kd.R_far (p := ⟨gb167, 0, none⟩) (Kd.R_types HO159.out BK167.out (by decide)) (fun _ hk => hk.2) (.slice Ao78 t164.length co78)) (fun _ h_ => h_.1))))) (Kd.R_lt (by (with_reducible repeat (first | apply Kd.R_alloc | apply Kd.R_drewN | apply Kd.R_drew)); exact (Kd.R_mono (Kd.R_far (p := ⟨gb167, 0, none⟩) (Kd.R_types HO162.out BK167.out (by decide)) (fun _ hk => hk.2) (.slice Ao78 t164.length co78)) (fun _ h_ => h_.1))))) (Kd.R_lt (by (with_reducible repeat (first | apply Kd.R_alloc | apply Kd.R_drewN | apply Kd.R_drew)); exact (Kd.R_mono (Kd.R_far (p := ⟨gb167, 0, none⟩) (Kd.R_types HO166.out BK167.out (by decide)) (fun _ hk => hk.2) (.slice Ao78 t164.length co78)) (fun _ h_ => h_.1))))) (below_size (by repeat (first | (with_reducible first | exact HB.out | apply below_alloc | apply pw_below_drewN | apply below_drew1 | refine below_set ?_ GE153.out | refine below_set ?_ GE154.out | refine below_set ?_ GE167.out) | exact HB.out)))); have n4_ := Aside0.mk (blk_below (g := gb153) (o := .cells #[.slice A0_0 l0_0.length c0_0] 31 (0, 0)) (by (with_reducible repeat (first | refine blk_drewN ?_ _ | refine blk_drew ?_ | refine blk_alloc ?_ _)); refine blk_far ?_ NB153_167.out _; (with_reducible repeat (first | refine blk_drewN ?_ _ | refine blk_drew ?_ | refine blk_alloc ?_ _)); exact BK153.out) hb); have n5_ := Aside0.mk (blk_below (g := gb154) (o := .cells #[.slice A1_0 l1_0.length c1_0] 31 (0, 0)) (by (with_reducible repeat (first | refine blk_drewN ?_ _ | refine blk_drew ?_ | refine blk_alloc ?_ _)); refine blk_far ?_ NB154_167.out _; (with_reducible repeat (first | refine blk_drewN ?_ _ | refine blk_drew ?_ | refine blk_alloc ?_ _)); exact BK154.out) hb); have n6_ := Aside0.mk (blk_below (g := gb167) (o := .cells #[.slice Ao78 t164.length co78] 24 (0, 0)) (by (with_reducible repeat (first | refine blk_drewN ?_ _ | refine blk_drew ?_ | refine blk_alloc ?_ _)); refine blk_put (cs := #[.slice none 0 0]) ?_ 0 _ rfl; (with_reducible repeat (first | refine blk_drewN ?_ _ | refine blk_drew ?_ | refine blk_alloc ?_ _)); exact BK167.out) hb); have n7_ := Aside0.mk (below_step (by repeat (first | (with_reducible first | exact HB.out | apply below_alloc | apply pw_below_drewN | apply below_drew1 | refine below_set ?_ GE153.out | refine below_set ?_ GE154.out | refine below_set ?_ GE167.out) | exact HB.out)) hb); clear HO159; clear HO162; clear HO166; clear BK153; clear BK154; clear BK167; clear HB; have HO159 := n0_; have HO162 := n1_; have HO166 := n2_; have HO170 := n3_; have BK153 := n4_; have BK154 := n5_; have BK167 := n6_; have HB := n7_; clear n0_ n1_ n2_ n3_ n4_ n5_ n6_ n7_; (try clear hb); (try clear hb2); (try clear hk); (try clear hi); (try clear ho0)) | ((with_reducible refine gate_dst (N := 8) rfl ?_); refine box_event ?hg (N := 8) ?hd (cs := #[.slice none 0 0]) (t := 24) ?hr ?_; (case hd => rfl); (case hg => rfl); (case hr => first | (go_simp; done) | (go_simp; rfl)); intro gb171 hg w84 hbox hb; have n0_ := Aside0.mk (Kd.R_below (by (with_reducible repeat (first | apply Kd.R_alloc | apply Kd.R_drewN | apply Kd.R_drew)); exact HO159.out) hb); have n1_ := Aside0.mk (Kd.R_below (by (with_reducible repeat (first | apply Kd.R_alloc | apply Kd.R_drewN | apply Kd.R_drew)); exact HO162.out) hb); have n2_ := Aside0.mk (Kd.R_below (by (with_reducible repeat (first | apply Kd.R_alloc | apply Kd.R_drewN | apply Kd.R_drew)); exact HO166.out) hb); have n3_ := Aside0.mk (Kd.R_below (by (with_reducible repeat (first | apply Kd.R_alloc | apply Kd.R_drewN | apply Kd.R_drew)); exact HO170.out) hb); have n4_ := Aside0.mk (blk_below (g := gb153) (o := .cells #[.slice A0_0 l0_0.length c0_0] 31 (0, 0)) (by (with_reducible repeat (first | refine blk_drewN ?_ _ | refine blk_drew ?_ | refine blk_alloc ?_ _)); exact BK153.out) hb); have n5_ := Aside0.mk (blk_below (g := gb154) (o := .cells #[.slice A1_0 l1_0.length c1_0] 31 (0, 0)) (by (with_reducible repeat (first | refine blk_drewN ?_ _ | refine blk_drew ?_ | refine blk_alloc ?_ _)); exact BK154.out) hb); have n6_ := Aside0.mk (blk_below (g := gb167) (o := .cells #[.slice Ao78 t164.length co78] 24 (0, 0)) (by (with_reducible repeat (first | refine blk_drewN ?_ _ | refine blk_drew ?_ | refine blk_alloc ?_ _)); exact BK167.out) hb); have n7_ := Aside0.mk (below_step (by repeat (first | (with_reducible first | exact HB.out | apply below_alloc | apply pw_below_drewN | apply below_drew1 | refine below_set ?_ GE153.out | refine below_set ?_ GE154.out | refine below_set ?_ GE167.out) | exact HB.out)) hb); have n8_ := Aside0.mk (hbox); have n9_ := Aside0.mk ((by rw [hg]; exact (below_size (by repeat (first | (with_reducible first | exact HB.out | apply below_alloc | apply pw_below_drewN | apply below_drew1 | refine below_set ?_ GE153.out | refine below_set ?_ GE154.out | refine below_set ?_ GE167.out) | exact HB.out))) : w.heap.size ≤ gb171)); have n10_ := Aside0.mk ((by rw [hg]; exact (below_size (by repeat (first | (with_reducible first | exact HB.out | apply below_alloc | apply pw_below_drewN | apply below_drew1 | refine below_set ?_ GE153.out | refine below_set ?_ GE154.out | refine below_set ?_ GE167.out) | exact HB.out))) : w.heap.size ≤ gb171)); have n11_ := Aside0.mk ((by rw [hg]; exact Nat.ne_of_lt (blk_lt (g := gb153) (o := .cells #[.slice A0_0 l0_0.length c0_0] 31 (0, 0)) (by (with_reducible repeat (first | refine blk_drewN ?_ _ | refine blk_drew ?_ | refine blk_alloc ?_ _)); exact BK153.out)) : gb153 ≠ gb171)); have n12_ := Aside0.mk ((by rw [hg]; exact Nat.ne_of_gt (blk_lt (g := gb153) (o := .cells #[.slice A0_0 l0_0.length c0_0] 31 (0, 0)) (by (with_reducible repeat (first | refine blk_drewN ?_ _ | refine blk_drew ?_ | refine blk_alloc ?_ _)); exact BK153.out)) : gb171 ≠ gb153)); have n13_ := Aside0.mk ((by rw [hg]; exact Nat.ne_of_lt (blk_lt (g := gb154) (o := .cells #[.slice A1_0 l1_0.length c1_0] 31 (0, 0)) (by (with_reducible repeat (first | refine blk_drewN ?_ _ | refine blk_drew ?_ | refine blk_alloc ?_ _)); exact BK154.out)) : gb154 ≠ gb171)); have n14_ := Aside0.mk ((by rw [hg]; exact Nat.ne_of_gt (blk_lt (g := gb154) (o := .cells #[.slice A1_0 l1_0.length c1_0] 31 (0, 0)) (by (with_reducible repeat (first | refine blk_drewN ?_ _ | refine blk_drew ?_ | refine blk_alloc ?_ _)); exact BK154.out)) : gb171 ≠ gb154)); have n15_ := Aside0.mk ((by rw [hg]; exact Nat.ne_of_lt (blk_lt (g := gb167) (o := .cells #[.slice Ao78 t164.length co78] 24 (0, 0)) (by (with_reducible repeat (first | refine blk_drewN ?_ _ | refine blk_drew ?_ | refine blk_alloc ?_ _)); exact BK167.out)) : gb167 ≠ gb171)); have n16_ := Aside0.mk ((by rw [hg]; exact Nat.ne_of_gt (blk_lt (g := gb167) (o := .cells #[.slice Ao78 t164.length co78] 24 (0, 0)) (by (with_reducible repeat (first | refine blk_drewN ?_ _ | refine blk_drew ?_ | refine blk_alloc ?_ _)); exact BK167.out)) : gb171 ≠ gb167)); clear HO159; clear HO162; clear HO166; clear HO170; clear BK153; clear BK154; clear BK167; clear HB; have HO159 := n0_; have HO162 := n1_; have HO166 := n2_; have HO170 := n3_; have BK153 := n4_; have BK154 := n5_; have BK167 := n6_; have HB := n7_; have BK171 := n8_; have GW171 := n9_; have GE171 := n10_; have NB153_171 := n11_; have NB171_153 := n12_; have NB154_171 := n13_; have NB171_154 := n14_; have NB167_171 := n15_; have NB171_167 := n16_; clear n0_ n1_ n2_ n3_ n4_ n5_ n6_ n7_ n8_ n9_ n10_ n11_ n12_ n13_ n14_ n15_ n16_; clear hb hbox hg; obtain ⟨Ao85, co85, eo85⟩ := Kd.R_slice HO170.out; subst eo85; have hnb86 := NB171_153.out; have hnc86 := NB153_171.out; have hnb87 := NB171_154.out; have hnc87 := NB154_171.out; have hnb88 := NB171_167.out; have hnc88 := NB167_171.out; have hcz89_0 : w84.cell? ⟨gb171, 0, none⟩ = some (.slice none 0 0) := (blk_cell BK171.out 0).trans rfl; have hfz89_0 := blk_frozen BK171.out 0; have hcz90_0 : w84.cell? ⟨gb167, 0, none⟩ = some (.slice Ao78 t164.length co78) := (blk_cell BK167.out 0).trans rfl; have hfz90_0 := blk_frozen BK167.out 0) | ((with_reducible refine gate_callee (f := 27) rfl ?_); refine goesL_ (some 31) rfl rfl Try.func27 (by kernel_rfl) rfl #[.agg #[.slice Ao78 t164.length co78], .agg #[.slice Ao85 t168.length co85]] rfl (by (try simp only [List.map_toArray, List.map_cons, List.map_nil]); first | done | rfl | (simp only [List.length_drop, List.length_take]; rfl)) ?_; (with_reducible refine (impl_SameTree.calls k _ _ t164 _ _ t168 t172 _ ?side1 ?side2 ?side3 ?side4 A24.out).mono ?_); (case side1 => refine (Kd.R_reads' (e := 77) (base := w.heap.size) (ok := fun k_ => (((True ∧ some k_ ≠ (.slice Ao72 t157.length co72 : Value).ownBlock) ∧ some k_ ≠ (.slice Ao73 t160.length co73 : Value).ownBlock) ∧ some k_ ≠ (.slice Ao85 t168.length co85 : Value).ownBlock)) (n := t164.length) (c := co78) ?_).2.2; exact (by (with_reducible repeat (first | apply Kd.R_alloc | apply Kd.R_drewN | apply Kd.R_drew)); exact (Kd.R_mono (Kd.R_far (p := ⟨gb171, 0, none⟩) (Kd.R_types HO166.out BK171.out (by decide)) (fun _ hk => hk.2) (.slice Ao85 t168.length co85)) (fun _ h_ => h_.1)))); (case side2 => exact (Kd.R_reads' HO166.out).2.1); (case side3 => refine (Kd.R_reads' (e := 77) (base := w.heap.size) (ok := fun k_ => (((True ∧ some k_ ≠ (.slice Ao72 t157.length co72 : Value).ownBlock) ∧ some k_ ≠ (.slice Ao73 t160.length co73 : Value).ownBlock) ∧ some k_ ≠ (.slice Ao78 t164.length co78 : Value).ownBlock)) (n := t168.length) (c := co85) ?_).2.2; exact (by (with_reducible repeat (first | apply Kd.R_alloc | apply Kd.R_drewN | apply Kd.R_drew)); exact (Kd.R_mono (Kd.R_far (p := ⟨gb171, 0, none⟩) (Kd.R_types HO170.out BK171.out (by decide)) (fun _ hk => hk.2) (.slice Ao85 t168.length co85)) (fun _ h_ => h_.1)))); (case side4 => exact (Kd.R_reads' HO170.out).2.1); rintro e w91 ⟨rfl, hb⟩; refine ⟨_, rfl, ?_⟩; have n0_ := Aside0.mk (Kd.R_below (by (with_reducible repeat (first | apply Kd.R_alloc | apply Kd.R_drewN | apply Kd.R_drew)); exact (Kd.R_mono (Kd.R_far (p := ⟨gb171, 0, none⟩) (Kd.R_types HO159.out BK171.out (by decide)) (fun _ hk => hk.2) (.slice Ao85 t168.length co85)) (fun _ h_ => h_.1))) hb); have n1_ := Aside0.mk (Kd.R_below (by (with_reducible repeat (first | apply Kd.R_alloc | apply Kd.R_drewN | apply Kd.R_drew)); exact (Kd.R_mono (Kd.R_far (p := ⟨gb171, 0, none⟩) (Kd.R_types HO162.out BK171.out (by decide)) (fun _ hk => hk.2) (.slice Ao85 t168.length co85)) (fun _ h_ => h_.1))) hb); have n2_ := Aside0.mk (Kd.R_below (by (with_reducible repeat (first | apply Kd.R_alloc | apply Kd.R_drewN | apply Kd.R_drew)); exact (Kd.R_mono (Kd.R_far (p := ⟨gb171, 0, none⟩) (Kd.R_types HO166.out BK171.out (by decide)) (fun _ hk => hk.2) (.slice Ao85 t168.length co85)) (fun _ h_ => h_.1))) hb); have n3_ := Aside0.mk (Kd.R_below (by (with_reducible repeat (first | apply Kd.R_alloc | apply Kd.R_drewN | apply Kd.R_drew)); exact (Kd.R_mono (Kd.R_far (p := ⟨gb171, 0, none⟩) (Kd.R_types HO170.out BK171.out (by decide)) (fun _ hk => hk.2) (.slice Ao85 t168.length co85)) (fun _ h_ => h_.1))) hb); have n4_ := Aside0.mk (blk_below (g := gb153) (o := .cells #[.slice A0_0 l0_0.length c0_0] 31 (0, 0)) (by (with_reducible repeat (first | refine blk_drewN ?_ _ | refine blk_drew ?_ | refine blk_alloc ?_ _)); refine blk_far ?_ NB153_171.out _; (with_reducible repeat (first | refine blk_drewN ?_ _ | refine blk_drew ?_ | refine blk_alloc ?_ _)); exact BK153.out) hb); have n5_ := Aside0.mk (blk_below (g := gb154) (o := .cells #[.slice A1_0 l1_0.length c1_0] 31 (0, 0)) (by (with_reducible repeat (first | refine blk_drewN ?_ _ | refine blk_drew ?_ | refine blk_alloc ?_ _)); refine blk_far ?_ NB154_171.out _; (with_reducible repeat (first | refine blk_drewN ?_ _ | refine blk_drew ?_ | refine blk_alloc ?_ _)); exact BK154.out) hb); have n6_ := Aside0.mk (blk_below (g := gb167) (o := .cells #[.slice Ao78 t164.length co78] 24 (0, 0)) (by (with_reducible repeat (first | refine blk_drewN ?_ _ | refine blk_drew ?_ | refine blk_alloc ?_ _)); refine blk_far ?_ NB167_171.out _; (with_reducible repeat (first | refine blk_drewN ?_ _ | refine blk_drew ?_ | refine blk_alloc ?_ _)); exact BK167.out) hb); have n7_ := Aside0.mk (blk_below (g := gb171) (o := .cells #[.slice Ao85 t168.length co85] 24 (0, 0)) (by (with_reducible repeat (first | refine blk_drewN ?_ _ | refine blk_drew ?_ | refine blk_alloc ?_ _)); refine blk_put (cs := #[.slice none 0 0]) ?_ 0 _ rfl; (with_reducible repeat (first | refine blk_drewN ?_ _ | refine blk_drew ?_ | refine blk_alloc ?_ _)); exact BK171.out) hb); have n8_ := Aside0.mk (below_step (by repeat (first | (with_reducible first | exact HB.out | apply below_alloc | apply pw_below_drewN | apply below_drew1 | refine below_set ?_ GE153.out | refine below_set ?_ GE154.out | refine below_set ?_ GE167.out | refine below_set ?_ GE171.out) | exact HB.out)) hb); clear HO159; clear HO162; clear HO166; clear HO170; clear BK153; clear BK154; clear BK167; clear BK171; clear HB; have HO159 := n0_; have HO162 := n1_; have HO166 := n2_; have HO170 := n3_; have BK153 := n4_; have BK154 := n5_; have BK167 := n6_; have BK171 := n7_; have HB := n8_; clear n0_ n1_ n2_ n3_ n4_ n5_ n6_ n7_ n8_; (try clear hb); (try clear hb2); (try clear hk); (try clear hi)))
            have n0_ := Aside0.mk (Kd.R_drew HO159.out)
            have n1_ := Aside0.mk (Kd.R_drew HO162.out)
            have n2_ := Aside0.mk (Kd.R_drew HO166.out)
            have n3_ := Aside0.mk (Kd.R_drew HO170.out)
            have n4_ := Aside0.mk (blk_drew BK153.out)
            have n5_ := Aside0.mk (blk_drew BK154.out)
            have n6_ := Aside0.mk (blk_drew BK167.out)
            have n7_ := Aside0.mk (blk_drew BK171.out)
            have n8_ := Aside0.mk (below_drew1 HB.out)
            clear HO159
            clear HO162
            clear HO166
            clear HO170
            clear BK153
            clear BK154
            clear BK167
            clear BK171
            clear HB
            have HO159 := n0_
            have HO162 := n1_
            have HO166 := n2_
            have HO170 := n3_
            have BK153 := n4_
            have BK154 := n5_
            have BK167 := n6_
            have BK171 := n7_
            have HB := n8_
            clear n0_ n1_ n2_ n3_ n4_ n5_ n6_ n7_ n8_
            refine start_ (n := 5) (S := fun w' => w'.cell? ⟨gb167, 0, none⟩ = some (.slice Ao78 t164.length co78) ∧ w'.cell? ⟨gb153, 0, none⟩ = some (.slice A0_0 l0_0.length c0_0)) (ds := []) #[false, false, false, false, false] (by kernel_rfl) rfl rfl ⟨(blk_cell BK167.out 0).trans rfl, (blk_cell BK153.out 0).trans rfl⟩ (fun hHeld => ?_)
            generalize w91.drew = w92 at HO159 HO162 HO166 HO170 BK153 BK154 BK167 BK171 HB hHeld ⊢
            refine take_ (i := 0) (N := some 35) (v := ?_) (a' := ?_) #[true, false, false, false, false] rfl rfl (by kernel_rfl) (fun _ _ _ h => h) (Or.inl ⟨by rfl, ?_⟩) hHeld ?_ ?_
            rotate_left
            · rintro w' ⟨s0, s1⟩
              go_simp
              with_reducible rfl
            rotate_left
            · simp only [Act.put, List.setIfInBounds_toArray, List.set_cons_zero, List.set_cons_succ, i64_w, i32_w]
              rfl
            refine take_ (i := 1) (N := some 36) (v := ?_) (a' := ?_) #[true, true, false, false, false] rfl rfl (by kernel_rfl) (fun _ _ _ h => h) (Or.inl ⟨by rfl, ?_⟩) hHeld ?_ ?_
            rotate_left
            · rintro w' ⟨s0, s1⟩
              go_simp
              with_reducible rfl
            rotate_left
            · simp only [Act.put, List.setIfInBounds_toArray, List.set_cons_zero, List.set_cons_succ, i64_w, i32_w]
              rfl
            refine one_ (i := 2) (N := some 37) #[true, true, true, false, false] rfl rfl (by kernel_rfl) (by decide) (fun K hK => ?_)
            refine goes_ Try.func26 (by kernel_rfl) rfl #[.agg #[.slice A0_0 l0_0.length c0_0]] (by rfl) rfl rfl (by (try simp only [List.map_toArray, List.map_cons, List.map_nil]); first | done | rfl | (simp only [List.length_drop, List.length_take]; rfl)) ?_
            with_reducible refine (laws_toTree.calls k _ _ l0_0 t173 _ ?side1 ?side2 A56.out).mono ?_
            (case side1 => repeat (first | exact (Kd.C_below HR0_0.out HB.out) | (with_reducible refine Kd.C_alloc ?_ _) | (with_reducible refine Kd.C_drewN ?_ _) | (with_reducible refine Kd.C_drew ?_)))
            (case side2 => exact HC0_0.out)
            rintro e w93 ⟨v174, rfl, ho0, hb⟩
            refine ⟨_, rfl, ?_⟩
            have n0_ := Aside0.mk (Kd.R_elder' (by (with_reducible repeat (first | apply Kd.R_alloc | apply Kd.R_drewN | apply Kd.R_drew)); exact HO159.out) (Kd.R_base ho0) hb)
            have n1_ := Aside0.mk (Kd.R_elder' (by (with_reducible repeat (first | apply Kd.R_alloc | apply Kd.R_drewN | apply Kd.R_drew)); exact HO162.out) (Kd.R_base ho0) hb)
            have n2_ := Aside0.mk (Kd.R_elder' (by (with_reducible repeat (first | apply Kd.R_alloc | apply Kd.R_drewN | apply Kd.R_drew)); exact HO166.out) (Kd.R_base ho0) hb)
            have n3_ := Aside0.mk (Kd.R_elder' (by (with_reducible repeat (first | apply Kd.R_alloc | apply Kd.R_drewN | apply Kd.R_drew)); exact HO170.out) (Kd.R_base ho0) hb)
            have n4_ := Aside0.mk (Kd.R_lower (Kd.R_new' (Kd.R_new' (Kd.R_new' (Kd.R_new' ho0 (Kd.R_lt (by (with_reducible repeat (first | apply Kd.R_alloc | apply Kd.R_drewN | apply Kd.R_drew)); exact HO159.out))) (Kd.R_lt (by (with_reducible repeat (first | apply Kd.R_alloc | apply Kd.R_drewN | apply Kd.R_drew)); exact HO162.out))) (Kd.R_lt (by (with_reducible repeat (first | apply Kd.R_alloc | apply Kd.R_drewN | apply Kd.R_drew)); exact HO166.out))) (Kd.R_lt (by (with_reducible repeat (first | apply Kd.R_alloc | apply Kd.R_drewN | apply Kd.R_drew)); exact HO170.out))) (below_size (by repeat (first | (with_reducible first | exact HB.out | apply below_alloc | apply pw_below_drewN | apply below_drew1 | refine below_set ?_ GE153.out | refine below_set ?_ GE154.out | refine below_set ?_ GE167.out | refine below_set ?_ GE171.out) | exact HB.out))))
            have n5_ := Aside0.mk (blk_below (g := gb153) (o := .cells #[.slice A0_0 l0_0.length c0_0] 31 (0, 0)) (by (with_reducible repeat (first | refine blk_drewN ?_ _ | refine blk_drew ?_ | refine blk_alloc ?_ _)); exact BK153.out) hb)
            have n6_ := Aside0.mk (blk_below (g := gb154) (o := .cells #[.slice A1_0 l1_0.length c1_0] 31 (0, 0)) (by (with_reducible repeat (first | refine blk_drewN ?_ _ | refine blk_drew ?_ | refine blk_alloc ?_ _)); exact BK154.out) hb)
            have n7_ := Aside0.mk (blk_below (g := gb167) (o := .cells #[.slice Ao78 t164.length co78] 24 (0, 0)) (by (with_reducible repeat (first | refine blk_drewN ?_ _ | refine blk_drew ?_ | refine blk_alloc ?_ _)); exact BK167.out) hb)
            have n8_ := Aside0.mk (blk_below (g := gb171) (o := .cells #[.slice Ao85 t168.length co85] 24 (0, 0)) (by (with_reducible repeat (first | refine blk_drewN ?_ _ | refine blk_drew ?_ | refine blk_alloc ?_ _)); exact BK171.out) hb)
            have n9_ := Aside0.mk (below_step (by repeat (first | (with_reducible first | exact HB.out | apply below_alloc | apply pw_below_drewN | apply below_drew1 | refine below_set ?_ GE153.out | refine below_set ?_ GE154.out | refine below_set ?_ GE167.out | refine below_set ?_ GE171.out) | exact HB.out)) hb)
            clear HO159
            clear HO162
            clear HO166
            clear HO170
            clear BK153
            clear BK154
            clear BK167
            clear BK171
            clear HB
            have HO159 := n0_
            have HO162 := n1_
            have HO166 := n2_
            have HO170 := n3_
            have HO175 := n4_
            have BK153 := n5_
            have BK154 := n6_
            have BK167 := n7_
            have BK171 := n8_
            have HB := n9_
            clear n0_ n1_ n2_ n3_ n4_ n5_ n6_ n7_ n8_ n9_
            (try clear hb)
            (try clear hb2)
            (try clear hk)
            (try clear hi)
            (try clear ho0)
            obtain ⟨Ao94, co94, eo94⟩ := Kd.R_slice HO175.out
            (first | subst eo94 | (injection eo94 with f1_ f2_ f3_; have f4_ := f1_.symm; have f5_ := f3_.symm; clear f1_ f2_ f3_; subst f4_; subst f5_))
            refine hK.out _ _ ⟨(blk_cell BK167.out 0).trans rfl, (blk_cell BK153.out 0).trans rfl⟩ (fun hHeld => ?_)
            clear hK K
            refine norm_ (a' := ?_) ?_ ?_
            rotate_left
            · show Act.put _ (some 37) _ = _
              simp only [Act.put, List.setIfInBounds_toArray, List.set_cons_zero, List.set_cons_succ, i64_w, i32_w]
              rfl
            refine one_ (i := 3) (N := some 38) #[true, true, true, true, false] rfl rfl (by kernel_rfl) (by decide) (fun K hK => ?_)
            refine goes_ Try.func17 (by kernel_rfl) rfl #[.agg #[.slice Ao78 t164.length co78], .agg #[.slice Ao94 t173.length co94]] (by rfl) rfl rfl (by (try simp only [List.map_toArray, List.map_cons, List.map_nil]); first | done | rfl | (simp only [List.length_drop, List.length_take]; rfl)) ?_
            with_reducible refine (laws_eqTree.calls k _ _ t164 _ _ t173 true _ ?side1 ?side2 ?side3 ?side4 A57.out).mono ?_
            (case side1 => repeat (first | exact (Kd.R_reads' HO166.out).2.2 | (with_reducible refine Kd.C_alloc ?_ _) | (with_reducible refine Kd.C_drewN ?_ _) | (with_reducible refine Kd.C_drew ?_)))
            (case side2 => exact (Kd.R_reads' HO166.out).2.1)
            (case side3 => repeat (first | exact (Kd.R_reads' HO175.out).2.2 | (with_reducible refine Kd.C_alloc ?_ _) | (with_reducible refine Kd.C_drewN ?_ _) | (with_reducible refine Kd.C_drew ?_)))
            (case side4 => exact (Kd.R_reads' HO175.out).2.1)
            rintro e w95 ⟨rfl, hb⟩
            refine ⟨_, rfl, ?_⟩
            have n0_ := Aside0.mk (Kd.R_below (by (with_reducible repeat (first | apply Kd.R_alloc | apply Kd.R_drewN | apply Kd.R_drew)); exact HO159.out) hb)
            have n1_ := Aside0.mk (Kd.R_below (by (with_reducible repeat (first | apply Kd.R_alloc | apply Kd.R_drewN | apply Kd.R_drew)); exact HO162.out) hb)
            have n2_ := Aside0.mk (Kd.R_below (by (with_reducible repeat (first | apply Kd.R_alloc | apply Kd.R_drewN | apply Kd.R_drew)); exact HO166.out) hb)
            have n3_ := Aside0.mk (Kd.R_below (by (with_reducible repeat (first | apply Kd.R_alloc | apply Kd.R_drewN | apply Kd.R_drew)); exact HO170.out) hb)
            have n4_ := Aside0.mk (Kd.R_below (by (with_reducible repeat (first | apply Kd.R_alloc | apply Kd.R_drewN | apply Kd.R_drew)); exact HO175.out) hb)
            have n5_ := Aside0.mk (blk_below (g := gb153) (o := .cells #[.slice A0_0 l0_0.length c0_0] 31 (0, 0)) (by (with_reducible repeat (first | refine blk_drewN ?_ _ | refine blk_drew ?_ | refine blk_alloc ?_ _)); exact BK153.out) hb)
            have n6_ := Aside0.mk (blk_below (g := gb154) (o := .cells #[.slice A1_0 l1_0.length c1_0] 31 (0, 0)) (by (with_reducible repeat (first | refine blk_drewN ?_ _ | refine blk_drew ?_ | refine blk_alloc ?_ _)); exact BK154.out) hb)
            have n7_ := Aside0.mk (blk_below (g := gb167) (o := .cells #[.slice Ao78 t164.length co78] 24 (0, 0)) (by (with_reducible repeat (first | refine blk_drewN ?_ _ | refine blk_drew ?_ | refine blk_alloc ?_ _)); exact BK167.out) hb)
            have n8_ := Aside0.mk (blk_below (g := gb171) (o := .cells #[.slice Ao85 t168.length co85] 24 (0, 0)) (by (with_reducible repeat (first | refine blk_drewN ?_ _ | refine blk_drew ?_ | refine blk_alloc ?_ _)); exact BK171.out) hb)
            have n9_ := Aside0.mk (below_step (by repeat (first | (with_reducible first | exact HB.out | apply below_alloc | apply pw_below_drewN | apply below_drew1 | refine below_set ?_ GE153.out | refine below_set ?_ GE154.out | refine below_set ?_ GE167.out | refine below_set ?_ GE171.out) | exact HB.out)) hb)
            clear HO159
            clear HO162
            clear HO166
            clear HO170
            clear HO175
            clear BK153
            clear BK154
            clear BK167
            clear BK171
            clear HB
            have HO159 := n0_
            have HO162 := n1_
            have HO166 := n2_
            have HO170 := n3_
            have HO175 := n4_
            have BK153 := n5_
            have BK154 := n6_
            have BK167 := n7_
            have BK171 := n8_
            have HB := n9_
            clear n0_ n1_ n2_ n3_ n4_ n5_ n6_ n7_ n8_ n9_
            (try clear hb)
            (try clear hb2)
            (try clear hk)
            (try clear hi)
            refine hK.out _ _ ⟨(blk_cell BK167.out 0).trans rfl, (blk_cell BK153.out 0).trans rfl⟩ (fun hHeld => ?_)
            clear hK K
            refine norm_ (a' := ?_) ?_ ?_
            rotate_left
            · show Act.put _ (some 38) _ = _
              simp only [Act.put, List.setIfInBounds_toArray, List.set_cons_zero, List.set_cons_succ, i64_w, i32_w]
              rfl
            refine pure_ (i := 4) (N := some 39) (v := ?_) (a' := ?_) #[true, true, true, true, true] rfl rfl (by kernel_rfl) (fun _ _ _ h => h) (Or.inl ⟨by rfl, ?_⟩) ?_ ?_
            rotate_left
            · intro w'
              go_simp
              with_reducible rfl
            rotate_left
            · simp only [Act.put, List.setIfInBounds_toArray, List.set_cons_zero, List.set_cons_succ, i64_w, i32_w]
              rfl
            refine done_ (by kernel_rfl) ?_
            try go_wp2
            have n0_ := Aside0.mk (Kd.R_drew HO159.out)
            have n1_ := Aside0.mk (Kd.R_drew HO162.out)
            have n2_ := Aside0.mk (Kd.R_drew HO166.out)
            have n3_ := Aside0.mk (Kd.R_drew HO170.out)
            have n4_ := Aside0.mk (Kd.R_drew HO175.out)
            have n5_ := Aside0.mk (blk_drew BK153.out)
            have n6_ := Aside0.mk (blk_drew BK154.out)
            have n7_ := Aside0.mk (blk_drew BK167.out)
            have n8_ := Aside0.mk (blk_drew BK171.out)
            have n9_ := Aside0.mk (below_drew1 HB.out)
            clear HO159
            clear HO162
            clear HO166
            clear HO170
            clear HO175
            clear BK153
            clear BK154
            clear BK167
            clear BK171
            clear HB
            have HO159 := n0_
            have HO162 := n1_
            have HO166 := n2_
            have HO170 := n3_
            have HO175 := n4_
            have BK153 := n5_
            have BK154 := n6_
            have BK167 := n7_
            have BK171 := n8_
            have HB := n9_
            clear n0_ n1_ n2_ n3_ n4_ n5_ n6_ n7_ n8_ n9_
            refine start_ (n := 5) (S := fun w' => w'.cell? ⟨gb171, 0, none⟩ = some (.slice Ao85 t168.length co85) ∧ w'.cell? ⟨gb154, 0, none⟩ = some (.slice A1_0 l1_0.length c1_0)) (ds := []) #[false, false, false, false, false] (by kernel_rfl) rfl rfl ⟨(blk_cell BK171.out 0).trans rfl, (blk_cell BK154.out 0).trans rfl⟩ (fun hHeld => ?_)
            generalize w95.drew = w96 at HO159 HO162 HO166 HO170 HO175 BK153 BK154 BK167 BK171 HB hHeld ⊢
            refine take_ (i := 0) (N := some 40) (v := ?_) (a' := ?_) #[true, false, false, false, false] rfl rfl (by kernel_rfl) (fun _ _ _ h => h) (Or.inl ⟨by rfl, ?_⟩) hHeld ?_ ?_
            rotate_left
            · rintro w' ⟨s0, s1⟩
              go_simp
              with_reducible rfl
            rotate_left
            · simp only [Act.put, List.setIfInBounds_toArray, List.set_cons_zero, List.set_cons_succ, i64_w, i32_w]
              rfl
            refine take_ (i := 1) (N := some 41) (v := ?_) (a' := ?_) #[true, true, false, false, false] rfl rfl (by kernel_rfl) (fun _ _ _ h => h) (Or.inl ⟨by rfl, ?_⟩) hHeld ?_ ?_
            rotate_left
            · rintro w' ⟨s0, s1⟩
              go_simp
              with_reducible rfl
            rotate_left
            · simp only [Act.put, List.setIfInBounds_toArray, List.set_cons_zero, List.set_cons_succ, i64_w, i32_w]
              rfl
            refine one_ (i := 2) (N := some 42) #[true, true, true, false, false] rfl rfl (by kernel_rfl) (by decide) (fun K hK => ?_)
            refine goes_ Try.func26 (by kernel_rfl) rfl #[.agg #[.slice A1_0 l1_0.length c1_0]] (by rfl) rfl rfl (by (try simp only [List.map_toArray, List.map_cons, List.map_nil]); first | done | rfl | (simp only [List.length_drop, List.length_take]; rfl)) ?_
            with_reducible refine (laws_toTree.calls k _ _ l1_0 t177 _ ?side1 ?side2 A59.out).mono ?_
            (case side1 => repeat (first | exact (Kd.C_below HR1_0.out HB.out) | (with_reducible refine Kd.C_alloc ?_ _) | (with_reducible refine Kd.C_drewN ?_ _) | (with_reducible refine Kd.C_drew ?_)))
            (case side2 => exact HC1_0.out)
            rintro e w97 ⟨v178, rfl, ho0, hb⟩
            refine ⟨_, rfl, ?_⟩
            have n0_ := Aside0.mk (Kd.R_elder' (by (with_reducible repeat (first | apply Kd.R_alloc | apply Kd.R_drewN | apply Kd.R_drew)); exact HO159.out) (Kd.R_base ho0) hb)
            have n1_ := Aside0.mk (Kd.R_elder' (by (with_reducible repeat (first | apply Kd.R_alloc | apply Kd.R_drewN | apply Kd.R_drew)); exact HO162.out) (Kd.R_base ho0) hb)
            have n2_ := Aside0.mk (Kd.R_elder' (by (with_reducible repeat (first | apply Kd.R_alloc | apply Kd.R_drewN | apply Kd.R_drew)); exact HO166.out) (Kd.R_base ho0) hb)
            have n3_ := Aside0.mk (Kd.R_elder' (by (with_reducible repeat (first | apply Kd.R_alloc | apply Kd.R_drewN | apply Kd.R_drew)); exact HO170.out) (Kd.R_base ho0) hb)
            have n4_ := Aside0.mk (Kd.R_elder' (by (with_reducible repeat (first | apply Kd.R_alloc | apply Kd.R_drewN | apply Kd.R_drew)); exact HO175.out) (Kd.R_base ho0) hb)
            have n5_ := Aside0.mk (Kd.R_lower (Kd.R_new' (Kd.R_new' (Kd.R_new' (Kd.R_new' (Kd.R_new' ho0 (Kd.R_lt (by (with_reducible repeat (first | apply Kd.R_alloc | apply Kd.R_drewN | apply Kd.R_drew)); exact HO159.out))) (Kd.R_lt (by (with_reducible repeat (first | apply Kd.R_alloc | apply Kd.R_drewN | apply Kd.R_drew)); exact HO162.out))) (Kd.R_lt (by (with_reducible repeat (first | apply Kd.R_alloc | apply Kd.R_drewN | apply Kd.R_drew)); exact HO166.out))) (Kd.R_lt (by (with_reducible repeat (first | apply Kd.R_alloc | apply Kd.R_drewN | apply Kd.R_drew)); exact HO170.out))) (Kd.R_lt (by (with_reducible repeat (first | apply Kd.R_alloc | apply Kd.R_drewN | apply Kd.R_drew)); exact HO175.out))) (below_size (by repeat (first | (with_reducible first | exact HB.out | apply below_alloc | apply pw_below_drewN | apply below_drew1 | refine below_set ?_ GE153.out | refine below_set ?_ GE154.out | refine below_set ?_ GE167.out | refine below_set ?_ GE171.out) | exact HB.out))))
            have n6_ := Aside0.mk (blk_below (g := gb153) (o := .cells #[.slice A0_0 l0_0.length c0_0] 31 (0, 0)) (by (with_reducible repeat (first | refine blk_drewN ?_ _ | refine blk_drew ?_ | refine blk_alloc ?_ _)); exact BK153.out) hb)
            have n7_ := Aside0.mk (blk_below (g := gb154) (o := .cells #[.slice A1_0 l1_0.length c1_0] 31 (0, 0)) (by (with_reducible repeat (first | refine blk_drewN ?_ _ | refine blk_drew ?_ | refine blk_alloc ?_ _)); exact BK154.out) hb)
            have n8_ := Aside0.mk (blk_below (g := gb167) (o := .cells #[.slice Ao78 t164.length co78] 24 (0, 0)) (by (with_reducible repeat (first | refine blk_drewN ?_ _ | refine blk_drew ?_ | refine blk_alloc ?_ _)); exact BK167.out) hb)
            have n9_ := Aside0.mk (blk_below (g := gb171) (o := .cells #[.slice Ao85 t168.length co85] 24 (0, 0)) (by (with_reducible repeat (first | refine blk_drewN ?_ _ | refine blk_drew ?_ | refine blk_alloc ?_ _)); exact BK171.out) hb)
            have n10_ := Aside0.mk (below_step (by repeat (first | (with_reducible first | exact HB.out | apply below_alloc | apply pw_below_drewN | apply below_drew1 | refine below_set ?_ GE153.out | refine below_set ?_ GE154.out | refine below_set ?_ GE167.out | refine below_set ?_ GE171.out) | exact HB.out)) hb)
            clear HO159
            clear HO162
            clear HO166
            clear HO170
            clear HO175
            clear BK153
            clear BK154
            clear BK167
            clear BK171
            clear HB
            have HO159 := n0_
            have HO162 := n1_
            have HO166 := n2_
            have HO170 := n3_
            have HO175 := n4_
            have HO179 := n5_
            have BK153 := n6_
            have BK154 := n7_
            have BK167 := n8_
            have BK171 := n9_
            have HB := n10_
            clear n0_ n1_ n2_ n3_ n4_ n5_ n6_ n7_ n8_ n9_ n10_
            (try clear hb)
            (try clear hb2)
            (try clear hk)
            (try clear hi)
            (try clear ho0)
            obtain ⟨Ao98, co98, eo98⟩ := Kd.R_slice HO179.out
            (first | subst eo98 | (injection eo98 with f1_ f2_ f3_; have f4_ := f1_.symm; have f5_ := f3_.symm; clear f1_ f2_ f3_; subst f4_; subst f5_))
            refine hK.out _ _ ⟨(blk_cell BK171.out 0).trans rfl, (blk_cell BK154.out 0).trans rfl⟩ (fun hHeld => ?_)
            clear hK K
            refine norm_ (a' := ?_) ?_ ?_
            rotate_left
            · show Act.put _ (some 42) _ = _
              simp only [Act.put, List.setIfInBounds_toArray, List.set_cons_zero, List.set_cons_succ, i64_w, i32_w]
              rfl
            refine one_ (i := 3) (N := some 43) #[true, true, true, true, false] rfl rfl (by kernel_rfl) (by decide) (fun K hK => ?_)
            refine goes_ Try.func17 (by kernel_rfl) rfl #[.agg #[.slice Ao85 t168.length co85], .agg #[.slice Ao98 t177.length co98]] (by rfl) rfl rfl (by (try simp only [List.map_toArray, List.map_cons, List.map_nil]); first | done | rfl | (simp only [List.length_drop, List.length_take]; rfl)) ?_
            with_reducible refine (laws_eqTree.calls k _ _ t168 _ _ t177 true _ ?side1 ?side2 ?side3 ?side4 A60.out).mono ?_
            (case side1 => repeat (first | exact (Kd.R_reads' HO170.out).2.2 | (with_reducible refine Kd.C_alloc ?_ _) | (with_reducible refine Kd.C_drewN ?_ _) | (with_reducible refine Kd.C_drew ?_)))
            (case side2 => exact (Kd.R_reads' HO170.out).2.1)
            (case side3 => repeat (first | exact (Kd.R_reads' HO179.out).2.2 | (with_reducible refine Kd.C_alloc ?_ _) | (with_reducible refine Kd.C_drewN ?_ _) | (with_reducible refine Kd.C_drew ?_)))
            (case side4 => exact (Kd.R_reads' HO179.out).2.1)
            rintro e w99 ⟨rfl, hb⟩
            refine ⟨_, rfl, ?_⟩
            have n0_ := Aside0.mk (Kd.R_below (by (with_reducible repeat (first | apply Kd.R_alloc | apply Kd.R_drewN | apply Kd.R_drew)); exact HO159.out) hb)
            have n1_ := Aside0.mk (Kd.R_below (by (with_reducible repeat (first | apply Kd.R_alloc | apply Kd.R_drewN | apply Kd.R_drew)); exact HO162.out) hb)
            have n2_ := Aside0.mk (Kd.R_below (by (with_reducible repeat (first | apply Kd.R_alloc | apply Kd.R_drewN | apply Kd.R_drew)); exact HO166.out) hb)
            have n3_ := Aside0.mk (Kd.R_below (by (with_reducible repeat (first | apply Kd.R_alloc | apply Kd.R_drewN | apply Kd.R_drew)); exact HO170.out) hb)
            have n4_ := Aside0.mk (Kd.R_below (by (with_reducible repeat (first | apply Kd.R_alloc | apply Kd.R_drewN | apply Kd.R_drew)); exact HO175.out) hb)
            have n5_ := Aside0.mk (Kd.R_below (by (with_reducible repeat (first | apply Kd.R_alloc | apply Kd.R_drewN | apply Kd.R_drew)); exact HO179.out) hb)
            have n6_ := Aside0.mk (blk_below (g := gb153) (o := .cells #[.slice A0_0 l0_0.length c0_0] 31 (0, 0)) (by (with_reducible repeat (first | refine blk_drewN ?_ _ | refine blk_drew ?_ | refine blk_alloc ?_ _)); exact BK153.out) hb)
            have n7_ := Aside0.mk (blk_below (g := gb154) (o := .cells #[.slice A1_0 l1_0.length c1_0] 31 (0, 0)) (by (with_reducible repeat (first | refine blk_drewN ?_ _ | refine blk_drew ?_ | refine blk_alloc ?_ _)); exact BK154.out) hb)
            have n8_ := Aside0.mk (blk_below (g := gb167) (o := .cells #[.slice Ao78 t164.length co78] 24 (0, 0)) (by (with_reducible repeat (first | refine blk_drewN ?_ _ | refine blk_drew ?_ | refine blk_alloc ?_ _)); exact BK167.out) hb)
            have n9_ := Aside0.mk (blk_below (g := gb171) (o := .cells #[.slice Ao85 t168.length co85] 24 (0, 0)) (by (with_reducible repeat (first | refine blk_drewN ?_ _ | refine blk_drew ?_ | refine blk_alloc ?_ _)); exact BK171.out) hb)
            have n10_ := Aside0.mk (below_step (by repeat (first | (with_reducible first | exact HB.out | apply below_alloc | apply pw_below_drewN | apply below_drew1 | refine below_set ?_ GE153.out | refine below_set ?_ GE154.out | refine below_set ?_ GE167.out | refine below_set ?_ GE171.out) | exact HB.out)) hb)
            clear HO159
            clear HO162
            clear HO166
            clear HO170
            clear HO175
            clear HO179
            clear BK153
            clear BK154
            clear BK167
            clear BK171
            clear HB
            have HO159 := n0_
            have HO162 := n1_
            have HO166 := n2_
            have HO170 := n3_
            have HO175 := n4_
            have HO179 := n5_
            have BK153 := n6_
            have BK154 := n7_
            have BK167 := n8_
            have BK171 := n9_
            have HB := n10_
            clear n0_ n1_ n2_ n3_ n4_ n5_ n6_ n7_ n8_ n9_ n10_
            (try clear hb)
            (try clear hb2)
            (try clear hk)
            (try clear hi)
            refine hK.out _ _ ⟨(blk_cell BK171.out 0).trans rfl, (blk_cell BK154.out 0).trans rfl⟩ (fun hHeld => ?_)
            clear hK K
            refine norm_ (a' := ?_) ?_ ?_
            rotate_left
            · show Act.put _ (some 43) _ = _
              simp only [Act.put, List.setIfInBounds_toArray, List.set_cons_zero, List.set_cons_succ, i64_w, i32_w]
              rfl
            refine pure_ (i := 4) (N := some 44) (v := ?_) (a' := ?_) #[true, true, true, true, true] rfl rfl (by kernel_rfl) (fun _ _ _ h => h) (Or.inl ⟨by rfl, ?_⟩) ?_ ?_
            rotate_left
            · intro w'
              go_simp
              with_reducible rfl
            rotate_left
            · simp only [Act.put, List.setIfInBounds_toArray, List.set_cons_zero, List.set_cons_succ, i64_w, i32_w]
              rfl
            refine done_ (by kernel_rfl) ?_
            try go_wp2
            go_ret
            exact ⟨by first | rfl | (simp [errW_none, errW_some] <;> rfl) | (simp [*, errW_none, errW_some] <;> rfl), by repeat (first | (with_reducible first | exact HB.out | apply below_alloc | apply pw_below_drewN | apply below_drew1 | refine below_set ?_ GE153.out | refine below_set ?_ GE154.out | refine below_set ?_ GE167.out | refine below_set ?_ GE171.out) | exact HB.out)⟩
          · replace c61 := Bool.eq_false_iff.mpr c61
            subst c61
            have H1 : (some false) = some r := by rw [if_neg (show ¬ (false = true) by decide)] at H; exact H
            clear H
            have H := H1
            clear H1
            obtain rfl := Option.some.inj H
            go_enter Try.func6, Try.ntmps6
            try go_wp2_with (first | ((with_reducible refine gate_dst (N := 2) rfl ?_); refine box_event ?hg (N := 2) ?hd (cs := #[.slice A0_0 l0_0.length c0_0]) (t := 31) ?hr ?_; (case hd => rfl); (case hg => rfl); (case hr => first | (go_simp; done) | (go_simp; rfl)); intro gb153 hg w100 hbox hb; have n0_ := Aside0.mk (below_step (by repeat (first | (with_reducible first | exact HB.out | apply below_alloc | apply pw_below_drewN | apply below_drew1) | exact HB.out)) hb); have n1_ := Aside0.mk (hbox); have n2_ := Aside0.mk ((by rw [hg]; exact (below_size (by repeat (first | (with_reducible first | exact HB.out | apply below_alloc | apply pw_below_drewN | apply below_drew1) | exact HB.out))) : w.heap.size ≤ gb153)); have n3_ := Aside0.mk ((by rw [hg]; exact (below_size (by repeat (first | (with_reducible first | exact HB.out | apply below_alloc | apply pw_below_drewN | apply below_drew1) | exact HB.out))) : w.heap.size ≤ gb153)); clear HB; have HB := n0_; have BK153 := n1_; have GW153 := n2_; have GE153 := n3_; clear n0_ n1_ n2_ n3_; clear hb hbox hg) | ((with_reducible refine gate_dst (N := 3) rfl ?_); refine box_event ?hg (N := 3) ?hd (cs := #[.slice A1_0 l1_0.length c1_0]) (t := 31) ?hr ?_; (case hd => rfl); (case hg => rfl); (case hr => first | (go_simp; done) | (go_simp; rfl)); intro gb154 hg w101 hbox hb; have n0_ := Aside0.mk (blk_below (g := gb153) (o := .cells #[.slice A0_0 l0_0.length c0_0] 31 (0, 0)) (by (with_reducible repeat (first | refine blk_drewN ?_ _ | refine blk_drew ?_ | refine blk_alloc ?_ _)); exact BK153.out) hb); have n1_ := Aside0.mk (below_step (by repeat (first | (with_reducible first | exact HB.out | apply below_alloc | apply pw_below_drewN | apply below_drew1 | refine below_set ?_ GE153.out) | exact HB.out)) hb); have n2_ := Aside0.mk (hbox); have n3_ := Aside0.mk ((by rw [hg]; exact (below_size (by repeat (first | (with_reducible first | exact HB.out | apply below_alloc | apply pw_below_drewN | apply below_drew1 | refine below_set ?_ GE153.out) | exact HB.out))) : w.heap.size ≤ gb154)); have n4_ := Aside0.mk ((by rw [hg]; exact (below_size (by repeat (first | (with_reducible first | exact HB.out | apply below_alloc | apply pw_below_drewN | apply below_drew1 | refine below_set ?_ GE153.out) | exact HB.out))) : w.heap.size ≤ gb154)); have n5_ := Aside0.mk ((by rw [hg]; exact Nat.ne_of_lt (blk_lt (g := gb153) (o := .cells #[.slice A0_0 l0_0.length c0_0] 31 (0, 0)) (by (with_reducible repeat (first | refine blk_drewN ?_ _ | refine blk_drew ?_ | refine blk_alloc ?_ _)); exact BK153.out)) : gb153 ≠ gb154)); have n6_ := Aside0.mk ((by rw [hg]; exact Nat.ne_of_gt (blk_lt (g := gb153) (o := .cells #[.slice A0_0 l0_0.length c0_0] 31 (0, 0)) (by (with_reducible repeat (first | refine blk_drewN ?_ _ | refine blk_drew ?_ | refine blk_alloc ?_ _)); exact BK153.out)) : gb154 ≠ gb153)); clear BK153; clear HB; have BK153 := n0_; have HB := n1_; have BK154 := n2_; have GW154 := n3_; have GE154 := n4_; have NB153_154 := n5_; have NB154_153 := n6_; clear n0_ n1_ n2_ n3_ n4_ n5_ n6_; clear hb hbox hg; have hnb102 := NB153_154.out; have hnc102 := NB154_153.out; have hcz103_0 : w101.cell? ⟨gb153, 0, none⟩ = some (.slice A0_0 l0_0.length c0_0) := (blk_cell BK153.out 0).trans rfl; have hfz103_0 := blk_frozen BK153.out 0) | ((with_reducible refine gate_callee (f := 24) rfl ?_); refine goesL_ (some 12) rfl rfl Try.func24 (by kernel_rfl) rfl #[.agg #[.slice A0_0 l0_0.length c0_0], .int .i64 1048576] rfl (by (try simp only [List.map_toArray, List.map_cons, List.map_nil]); first | done | rfl | (simp only [List.length_drop, List.length_take]; rfl)) ?_; (with_reducible refine (laws_szTree.calls _ _ l0_0 1048576 t155 _ ?side1 ?side2 A3.out).mono ?_); (case side1 => repeat (first | exact (Kd.C_below HR0_0.out HB.out) | (with_reducible refine Kd.C_alloc ?_ _) | (with_reducible refine Kd.C_drewN ?_ _) | (with_reducible refine Kd.C_drew ?_))); (case side2 => exact HC0_0.out); rintro e w104 ⟨rfl, hb⟩; refine ⟨_, rfl, ?_⟩; have n0_ := Aside0.mk (blk_below (g := gb153) (o := .cells #[.slice A0_0 l0_0.length c0_0] 31 (0, 0)) (by (with_reducible repeat (first | refine blk_drewN ?_ _ | refine blk_drew ?_ | refine blk_alloc ?_ _)); exact BK153.out) hb); have n1_ := Aside0.mk (blk_below (g := gb154) (o := .cells #[.slice A1_0 l1_0.length c1_0] 31 (0, 0)) (by (with_reducible repeat (first | refine blk_drewN ?_ _ | refine blk_drew ?_ | refine blk_alloc ?_ _)); exact BK154.out) hb); have n2_ := Aside0.mk (below_step (by repeat (first | (with_reducible first | exact HB.out | apply below_alloc | apply pw_below_drewN | apply below_drew1 | refine below_set ?_ GE153.out | refine below_set ?_ GE154.out) | exact HB.out)) hb); clear BK153; clear BK154; clear HB; have BK153 := n0_; have BK154 := n1_; have HB := n2_; clear n0_ n1_ n2_; (try clear hb); (try clear hb2); (try clear hk); (try clear hi); have hcz105_0 : w104.cell? ⟨gb154, 0, none⟩ = some (.slice A1_0 l1_0.length c1_0) := (blk_cell BK154.out 0).trans rfl; have hfz105_0 := blk_frozen BK154.out 0) | ((with_reducible refine gate_callee (f := 24) rfl ?_); refine goesL_ (some 17) rfl rfl Try.func24 (by kernel_rfl) rfl #[.agg #[.slice A1_0 l1_0.length c1_0], .int .i64 t155] rfl (by (try simp only [List.map_toArray, List.map_cons, List.map_nil]); first | done | rfl | (simp only [List.length_drop, List.length_take]; rfl)) ?_; (with_reducible refine (laws_szTree.calls _ _ l1_0 t155 t156 _ ?side1 ?side2 A10.out).mono ?_); (case side1 => repeat (first | exact (Kd.C_below HR1_0.out HB.out) | (with_reducible refine Kd.C_alloc ?_ _) | (with_reducible refine Kd.C_drewN ?_ _) | (with_reducible refine Kd.C_drew ?_))); (case side2 => exact HC1_0.out); rintro e w106 ⟨rfl, hb⟩; refine ⟨_, rfl, ?_⟩; have n0_ := Aside0.mk (blk_below (g := gb153) (o := .cells #[.slice A0_0 l0_0.length c0_0] 31 (0, 0)) (by (with_reducible repeat (first | refine blk_drewN ?_ _ | refine blk_drew ?_ | refine blk_alloc ?_ _)); exact BK153.out) hb); have n1_ := Aside0.mk (blk_below (g := gb154) (o := .cells #[.slice A1_0 l1_0.length c1_0] 31 (0, 0)) (by (with_reducible repeat (first | refine blk_drewN ?_ _ | refine blk_drew ?_ | refine blk_alloc ?_ _)); exact BK154.out) hb); have n2_ := Aside0.mk (below_step (by repeat (first | (with_reducible first | exact HB.out | apply below_alloc | apply pw_below_drewN | apply below_drew1 | refine below_set ?_ GE153.out | refine below_set ?_ GE154.out) | exact HB.out)) hb); clear BK153; clear BK154; clear HB; have BK153 := n0_; have BK154 := n1_; have HB := n2_; clear n0_ n1_ n2_; (try clear hb); (try clear hb2); (try clear hk); (try clear hi)))
            have n0_ := Aside0.mk (blk_drew BK153.out)
            have n1_ := Aside0.mk (blk_drew BK154.out)
            have n2_ := Aside0.mk (below_drew1 HB.out)
            clear BK153
            clear BK154
            clear HB
            have BK153 := n0_
            have BK154 := n1_
            have HB := n2_
            clear n0_ n1_ n2_
            refine start_ (n := 6) (S := fun w' => w'.cell? ⟨gb153, 0, none⟩ = some (.slice A0_0 l0_0.length c0_0) ∧ w'.cell? ⟨gb154, 0, none⟩ = some (.slice A1_0 l1_0.length c1_0)) (ds := []) #[false, false, false, false, false, false] (by kernel_rfl) rfl rfl ⟨(blk_cell BK153.out 0).trans rfl, (blk_cell BK154.out 0).trans rfl⟩ (fun hHeld => ?_)
            generalize w106.drew = w107 at BK153 BK154 HB hHeld ⊢
            refine take_ (i := 0) (N := some 20) (v := ?_) (a' := ?_) #[true, false, false, false, false, false] rfl rfl (by kernel_rfl) (fun _ _ _ h => h) (Or.inl ⟨by rfl, ?_⟩) hHeld ?_ ?_
            rotate_left
            · rintro w' ⟨s0, s1⟩
              go_simp
              with_reducible rfl
            rotate_left
            · simp only [Act.put, List.setIfInBounds_toArray, List.set_cons_zero, List.set_cons_succ, i64_w, i32_w]
              rfl
            refine take_ (i := 2) (N := some 22) (v := ?_) (a' := ?_) #[true, false, true, false, false, false] rfl rfl (by kernel_rfl) (fun _ _ _ h => h) (Or.inl ⟨by rfl, ?_⟩) hHeld ?_ ?_
            rotate_left
            · rintro w' ⟨s0, s1⟩
              go_simp
              with_reducible rfl
            rotate_left
            · simp only [Act.put, List.setIfInBounds_toArray, List.set_cons_zero, List.set_cons_succ, i64_w, i32_w]
              rfl
            refine one_ (i := 1) (N := some 21) #[true, true, true, false, false, false] rfl rfl (by kernel_rfl) (by decide) (fun K hK => ?_)
            refine goes_ Try.func26 (by kernel_rfl) rfl #[.agg #[.slice A0_0 l0_0.length c0_0]] (by rfl) rfl rfl (by (try simp only [List.map_toArray, List.map_cons, List.map_nil]); first | done | rfl | (simp only [List.length_drop, List.length_take]; rfl)) ?_
            with_reducible refine (laws_toTree.calls k _ _ l0_0 t157 _ ?side1 ?side2 A19.out).mono ?_
            (case side1 => repeat (first | exact (Kd.C_below HR0_0.out HB.out) | (with_reducible refine Kd.C_alloc ?_ _) | (with_reducible refine Kd.C_drewN ?_ _) | (with_reducible refine Kd.C_drew ?_)))
            (case side2 => exact HC0_0.out)
            rintro e w108 ⟨v158, rfl, ho0, hb⟩
            refine ⟨_, rfl, ?_⟩
            have n0_ := Aside0.mk (Kd.R_lower ho0 (below_size (by repeat (first | (with_reducible first | exact HB.out | apply below_alloc | apply pw_below_drewN | apply below_drew1 | refine below_set ?_ GE153.out | refine below_set ?_ GE154.out) | exact HB.out))))
            have n1_ := Aside0.mk (blk_below (g := gb153) (o := .cells #[.slice A0_0 l0_0.length c0_0] 31 (0, 0)) (by (with_reducible repeat (first | refine blk_drewN ?_ _ | refine blk_drew ?_ | refine blk_alloc ?_ _)); exact BK153.out) hb)
            have n2_ := Aside0.mk (blk_below (g := gb154) (o := .cells #[.slice A1_0 l1_0.length c1_0] 31 (0, 0)) (by (with_reducible repeat (first | refine blk_drewN ?_ _ | refine blk_drew ?_ | refine blk_alloc ?_ _)); exact BK154.out) hb)
            have n3_ := Aside0.mk (below_step (by repeat (first | (with_reducible first | exact HB.out | apply below_alloc | apply pw_below_drewN | apply below_drew1 | refine below_set ?_ GE153.out | refine below_set ?_ GE154.out) | exact HB.out)) hb)
            clear BK153
            clear BK154
            clear HB
            have HO159 := n0_
            have BK153 := n1_
            have BK154 := n2_
            have HB := n3_
            clear n0_ n1_ n2_ n3_
            (try clear hb)
            (try clear hb2)
            (try clear hk)
            (try clear hi)
            (try clear ho0)
            refine hK.out _ _ ⟨(blk_cell BK153.out 0).trans rfl, (blk_cell BK154.out 0).trans rfl⟩ (fun hHeld => ?_)
            clear hK K
            refine norm_ (a' := ?_) ?_ ?_
            rotate_left
            · show Act.put _ (some 21) _ = _
              simp only [Act.put, List.setIfInBounds_toArray, List.set_cons_zero, List.set_cons_succ, i64_w, i32_w]
              rfl
            refine one_ (i := 3) (N := some 23) #[true, true, true, true, false, false] rfl rfl (by kernel_rfl) (by decide) (fun K hK => ?_)
            refine goes_ Try.func26 (by kernel_rfl) rfl #[.agg #[.slice A1_0 l1_0.length c1_0]] (by rfl) rfl rfl (by (try simp only [List.map_toArray, List.map_cons, List.map_nil]); first | done | rfl | (simp only [List.length_drop, List.length_take]; rfl)) ?_
            with_reducible refine (laws_toTree.calls k _ _ l1_0 t160 _ ?side1 ?side2 A20.out).mono ?_
            (case side1 => repeat (first | exact (Kd.C_below HR1_0.out HB.out) | (with_reducible refine Kd.C_alloc ?_ _) | (with_reducible refine Kd.C_drewN ?_ _) | (with_reducible refine Kd.C_drew ?_)))
            (case side2 => exact HC1_0.out)
            rintro e w109 ⟨v161, rfl, ho0, hb⟩
            refine ⟨_, rfl, ?_⟩
            have n0_ := Aside0.mk (Kd.R_elder' (by (with_reducible repeat (first | apply Kd.R_alloc | apply Kd.R_drewN | apply Kd.R_drew)); exact HO159.out) (Kd.R_base ho0) hb)
            have n1_ := Aside0.mk (Kd.R_lower (Kd.R_new' ho0 (Kd.R_lt (by (with_reducible repeat (first | apply Kd.R_alloc | apply Kd.R_drewN | apply Kd.R_drew)); exact HO159.out))) (below_size (by repeat (first | (with_reducible first | exact HB.out | apply below_alloc | apply pw_below_drewN | apply below_drew1 | refine below_set ?_ GE153.out | refine below_set ?_ GE154.out) | exact HB.out))))
            have n2_ := Aside0.mk (blk_below (g := gb153) (o := .cells #[.slice A0_0 l0_0.length c0_0] 31 (0, 0)) (by (with_reducible repeat (first | refine blk_drewN ?_ _ | refine blk_drew ?_ | refine blk_alloc ?_ _)); exact BK153.out) hb)
            have n3_ := Aside0.mk (blk_below (g := gb154) (o := .cells #[.slice A1_0 l1_0.length c1_0] 31 (0, 0)) (by (with_reducible repeat (first | refine blk_drewN ?_ _ | refine blk_drew ?_ | refine blk_alloc ?_ _)); exact BK154.out) hb)
            have n4_ := Aside0.mk (below_step (by repeat (first | (with_reducible first | exact HB.out | apply below_alloc | apply pw_below_drewN | apply below_drew1 | refine below_set ?_ GE153.out | refine below_set ?_ GE154.out) | exact HB.out)) hb)
            clear HO159
            clear BK153
            clear BK154
            clear HB
            have HO159 := n0_
            have HO162 := n1_
            have BK153 := n2_
            have BK154 := n3_
            have HB := n4_
            clear n0_ n1_ n2_ n3_ n4_
            (try clear hb)
            (try clear hb2)
            (try clear hk)
            (try clear hi)
            (try clear ho0)
            obtain ⟨Ao110, co110, eo110⟩ := Kd.R_slice HO159.out
            (first | subst eo110 | (injection eo110 with f1_ f2_ f3_; have f4_ := f1_.symm; have f5_ := f3_.symm; clear f1_ f2_ f3_; subst f4_; subst f5_))
            obtain ⟨Ao111, co111, eo111⟩ := Kd.R_slice HO162.out
            (first | subst eo111 | (injection eo111 with f1_ f2_ f3_; have f4_ := f1_.symm; have f5_ := f3_.symm; clear f1_ f2_ f3_; subst f4_; subst f5_))
            refine hK.out _ _ ⟨(blk_cell BK153.out 0).trans rfl, (blk_cell BK154.out 0).trans rfl⟩ (fun hHeld => ?_)
            clear hK K
            refine norm_ (a' := ?_) ?_ ?_
            rotate_left
            · show Act.put _ (some 23) _ = _
              simp only [Act.put, List.setIfInBounds_toArray, List.set_cons_zero, List.set_cons_succ, i64_w, i32_w]
              rfl
            refine one_ (i := 4) (N := some 24) #[true, true, true, true, true, false] rfl rfl (by kernel_rfl) (by decide) (fun K hK => ?_)
            refine goes_ Try.func25 (by kernel_rfl) rfl #[.agg #[.slice Ao110 t157.length co110], .agg #[.slice Ao111 t160.length co111]] (by rfl) rfl rfl (by (try simp only [List.map_toArray, List.map_cons, List.map_nil]); first | done | rfl | (simp only [List.length_drop, List.length_take]; rfl)) ?_
            with_reducible refine (spec_SameTree.calls k _ _ t157 _ _ t160 t163 _ ?side1 ?side2 ?side3 ?side4 A21.out).mono ?_
            (case side1 => repeat (first | exact (Kd.R_reads' HO159.out).2.2 | (with_reducible refine Kd.C_alloc ?_ _) | (with_reducible refine Kd.C_drewN ?_ _) | (with_reducible refine Kd.C_drew ?_)))
            (case side2 => exact (Kd.R_reads' HO159.out).2.1)
            (case side3 => repeat (first | exact (Kd.R_reads' HO162.out).2.2 | (with_reducible refine Kd.C_alloc ?_ _) | (with_reducible refine Kd.C_drewN ?_ _) | (with_reducible refine Kd.C_drew ?_)))
            (case side4 => exact (Kd.R_reads' HO162.out).2.1)
            rintro e w112 ⟨rfl, hb⟩
            refine ⟨_, rfl, ?_⟩
            have n0_ := Aside0.mk (Kd.R_below (by (with_reducible repeat (first | apply Kd.R_alloc | apply Kd.R_drewN | apply Kd.R_drew)); exact HO159.out) hb)
            have n1_ := Aside0.mk (Kd.R_below (by (with_reducible repeat (first | apply Kd.R_alloc | apply Kd.R_drewN | apply Kd.R_drew)); exact HO162.out) hb)
            have n2_ := Aside0.mk (blk_below (g := gb153) (o := .cells #[.slice A0_0 l0_0.length c0_0] 31 (0, 0)) (by (with_reducible repeat (first | refine blk_drewN ?_ _ | refine blk_drew ?_ | refine blk_alloc ?_ _)); exact BK153.out) hb)
            have n3_ := Aside0.mk (blk_below (g := gb154) (o := .cells #[.slice A1_0 l1_0.length c1_0] 31 (0, 0)) (by (with_reducible repeat (first | refine blk_drewN ?_ _ | refine blk_drew ?_ | refine blk_alloc ?_ _)); exact BK154.out) hb)
            have n4_ := Aside0.mk (below_step (by repeat (first | (with_reducible first | exact HB.out | apply below_alloc | apply pw_below_drewN | apply below_drew1 | refine below_set ?_ GE153.out | refine below_set ?_ GE154.out) | exact HB.out)) hb)
            clear HO159
            clear HO162
            clear BK153
            clear BK154
            clear HB
            have HO159 := n0_
            have HO162 := n1_
            have BK153 := n2_
            have BK154 := n3_
            have HB := n4_
            clear n0_ n1_ n2_ n3_ n4_
            (try clear hb)
            (try clear hb2)
            (try clear hk)
            (try clear hi)
            refine hK.out _ _ ⟨(blk_cell BK153.out 0).trans rfl, (blk_cell BK154.out 0).trans rfl⟩ (fun hHeld => ?_)
            clear hK K
            refine norm_ (a' := ?_) ?_ ?_
            rotate_left
            · show Act.put _ (some 24) _ = _
              simp only [Act.put, List.setIfInBounds_toArray, List.set_cons_zero, List.set_cons_succ, i64_w, i32_w]
              rfl
            refine pure_ (i := 5) (N := some 6) (v := ?_) (a' := ?_) #[true, true, true, true, true, true] rfl rfl (by kernel_rfl) (fun _ _ _ h => h) (Or.inl ⟨by rfl, ?_⟩) ?_ ?_
            rotate_left
            · intro w'
              go_simp
              with_reducible rfl
            rotate_left
            · simp only [Act.put, List.setIfInBounds_toArray, List.set_cons_zero, List.set_cons_succ, i64_w, i32_w]
              rfl
            refine done_ (by kernel_rfl) ?_
            have hcz113_0 : w112.cell? ⟨gb153, 0, none⟩ = some (.slice A0_0 l0_0.length c0_0) := (blk_cell BK153.out 0).trans rfl
            have hfz113_0 := blk_frozen BK153.out 0
            try go_wp2_with (first | ((with_reducible refine gate_callee (f := 26) rfl ?_); refine goesL_ (some 26) rfl rfl Try.func26 (by kernel_rfl) rfl #[.agg #[.slice A0_0 l0_0.length c0_0]] rfl (by (try simp only [List.map_toArray, List.map_cons, List.map_nil]); first | done | rfl | (simp only [List.length_drop, List.length_take]; rfl)) ?_; (with_reducible refine (laws_toTree.calls k _ _ l0_0 t164 _ ?side1 ?side2 A22.out).mono ?_); (case side1 => repeat (first | exact (Kd.C_below HR0_0.out HB.out) | (with_reducible refine Kd.C_alloc ?_ _) | (with_reducible refine Kd.C_drewN ?_ _) | (with_reducible refine Kd.C_drew ?_))); (case side2 => exact HC0_0.out); rintro e w114 ⟨v165, rfl, ho0, hb⟩; refine ⟨_, rfl, ?_⟩; have n0_ := Aside0.mk (Kd.R_elder' (by (with_reducible repeat (first | apply Kd.R_alloc | apply Kd.R_drewN | apply Kd.R_drew)); exact HO159.out) (Kd.R_base ho0) hb); have n1_ := Aside0.mk (Kd.R_elder' (by (with_reducible repeat (first | apply Kd.R_alloc | apply Kd.R_drewN | apply Kd.R_drew)); exact HO162.out) (Kd.R_base ho0) hb); have n2_ := Aside0.mk (Kd.R_lower (Kd.R_new' (Kd.R_new' ho0 (Kd.R_lt (by (with_reducible repeat (first | apply Kd.R_alloc | apply Kd.R_drewN | apply Kd.R_drew)); exact HO159.out))) (Kd.R_lt (by (with_reducible repeat (first | apply Kd.R_alloc | apply Kd.R_drewN | apply Kd.R_drew)); exact HO162.out))) (below_size (by repeat (first | (with_reducible first | exact HB.out | apply below_alloc | apply pw_below_drewN | apply below_drew1 | refine below_set ?_ GE153.out | refine below_set ?_ GE154.out) | exact HB.out)))); have n3_ := Aside0.mk (blk_below (g := gb153) (o := .cells #[.slice A0_0 l0_0.length c0_0] 31 (0, 0)) (by (with_reducible repeat (first | refine blk_drewN ?_ _ | refine blk_drew ?_ | refine blk_alloc ?_ _)); exact BK153.out) hb); have n4_ := Aside0.mk (blk_below (g := gb154) (o := .cells #[.slice A1_0 l1_0.length c1_0] 31 (0, 0)) (by (with_reducible repeat (first | refine blk_drewN ?_ _ | refine blk_drew ?_ | refine blk_alloc ?_ _)); exact BK154.out) hb); have n5_ := Aside0.mk (below_step (by repeat (first | (with_reducible first | exact HB.out | apply below_alloc | apply pw_below_drewN | apply below_drew1 | refine below_set ?_ GE153.out | refine below_set ?_ GE154.out) | exact HB.out)) hb); clear HO159; clear HO162; clear BK153; clear BK154; clear HB; have HO159 := n0_; have HO162 := n1_; have HO166 := n2_; have BK153 := n3_; have BK154 := n4_; have HB := n5_; clear n0_ n1_ n2_ n3_ n4_ n5_; (try clear hb); (try clear hb2); (try clear hk); (try clear hi); (try clear ho0)) | ((with_reducible refine gate_dst (N := 7) rfl ?_); refine box_event ?hg (N := 7) ?hd (cs := #[.slice none 0 0]) (t := 24) ?hr ?_; (case hd => rfl); (case hg => rfl); (case hr => first | (go_simp; done) | (go_simp; rfl)); intro gb167 hg w115 hbox hb; have n0_ := Aside0.mk (Kd.R_below (by (with_reducible repeat (first | apply Kd.R_alloc | apply Kd.R_drewN | apply Kd.R_drew)); exact HO159.out) hb); have n1_ := Aside0.mk (Kd.R_below (by (with_reducible repeat (first | apply Kd.R_alloc | apply Kd.R_drewN | apply Kd.R_drew)); exact HO162.out) hb); have n2_ := Aside0.mk (Kd.R_below (by (with_reducible repeat (first | apply Kd.R_alloc | apply Kd.R_drewN | apply Kd.R_drew)); exact HO166.out) hb); have n3_ := Aside0.mk (blk_below (g := gb153) (o := .cells #[.slice A0_0 l0_0.length c0_0] 31 (0, 0)) (by (with_reducible repeat (first | refine blk_drewN ?_ _ | refine blk_drew ?_ | refine blk_alloc ?_ _)); exact BK153.out) hb); have n4_ := Aside0.mk (blk_below (g := gb154) (o := .cells #[.slice A1_0 l1_0.length c1_0] 31 (0, 0)) (by (with_reducible repeat (first | refine blk_drewN ?_ _ | refine blk_drew ?_ | refine blk_alloc ?_ _)); exact BK154.out) hb); have n5_ := Aside0.mk (below_step (by repeat (first | (with_reducible first | exact HB.out | apply below_alloc | apply pw_below_drewN | apply below_drew1 | refine below_set ?_ GE153.out | refine below_set ?_ GE154.out) | exact HB.out)) hb); have n6_ := Aside0.mk (hbox); have n7_ := Aside0.mk ((by rw [hg]; exact (below_size (by repeat (first | (with_reducible first | exact HB.out | apply below_alloc | apply pw_below_drewN | apply below_drew1 | refine below_set ?_ GE153.out | refine below_set ?_ GE154.out) | exact HB.out))) : w.heap.size ≤ gb167)); have n8_ := Aside0.mk ((by rw [hg]; exact (below_size (by repeat (first | (with_reducible first | exact HB.out | apply below_alloc | apply pw_below_drewN | apply below_drew1 | refine below_set ?_ GE153.out | refine below_set ?_ GE154.out) | exact HB.out))) : w.heap.size ≤ gb167)); have n9_ := Aside0.mk ((by rw [hg]; exact Nat.ne_of_lt (blk_lt (g := gb153) (o := .cells #[.slice A0_0 l0_0.length c0_0] 31 (0, 0)) (by (with_reducible repeat (first | refine blk_drewN ?_ _ | refine blk_drew ?_ | refine blk_alloc ?_ _)); exact BK153.out)) : gb153 ≠ gb167)); have n10_ := Aside0.mk ((by rw [hg]; exact Nat.ne_of_gt (blk_lt (g := gb153) (o := .cells #[.slice A0_0 l0_0.length c0_0] 31 (0, 0)) (by (with_reducible repeat (first | refine blk_drewN ?_ _ | refine blk_drew ?_ | refine blk_alloc ?_ _)); exact BK153.out)) : gb167 ≠ gb153)); have n11_ := Aside0.mk ((by rw [hg]; exact Nat.ne_of_lt (blk_lt (g := gb154) (o := .cells #[.slice A1_0 l1_0.length c1_0] 31 (0, 0)) (by (with_reducible repeat (first | refine blk_drewN ?_ _ | refine blk_drew ?_ | refine blk_alloc ?_ _)); exact BK154.out)) : gb154 ≠ gb167)); have n12_ := Aside0.mk ((by rw [hg]; exact Nat.ne_of_gt (blk_lt (g := gb154) (o := .cells #[.slice A1_0 l1_0.length c1_0] 31 (0, 0)) (by (with_reducible repeat (first | refine blk_drewN ?_ _ | refine blk_drew ?_ | refine blk_alloc ?_ _)); exact BK154.out)) : gb167 ≠ gb154)); clear HO159; clear HO162; clear HO166; clear BK153; clear BK154; clear HB; have HO159 := n0_; have HO162 := n1_; have HO166 := n2_; have BK153 := n3_; have BK154 := n4_; have HB := n5_; have BK167 := n6_; have GW167 := n7_; have GE167 := n8_; have NB153_167 := n9_; have NB167_153 := n10_; have NB154_167 := n11_; have NB167_154 := n12_; clear n0_ n1_ n2_ n3_ n4_ n5_ n6_ n7_ n8_ n9_ n10_ n11_ n12_; clear hb hbox hg; obtain ⟨Ao116, co116, eo116⟩ := Kd.R_slice HO166.out; subst eo116; have hnb117 := NB167_153.out; have hnc117 := NB153_167.out; have hnb118 := NB167_154.out; have hnc118 := NB154_167.out; have hcz119_0 : w115.cell? ⟨gb167, 0, none⟩ = some (.slice none 0 0) := (blk_cell BK167.out 0).trans rfl; have hfz119_0 := blk_frozen BK167.out 0; have hcz120_0 : w115.cell? ⟨gb154, 0, none⟩ = some (.slice A1_0 l1_0.length c1_0) := (blk_cell BK154.out 0).trans rfl; have hfz120_0 := blk_frozen BK154.out 0) | ((with_reducible refine gate_callee (f := 26) rfl ?_); refine goesL_ (some 28) rfl rfl Try.func26 (by kernel_rfl) rfl #[.agg #[.slice A1_0 l1_0.length c1_0]] rfl (by (try simp only [List.map_toArray, List.map_cons, List.map_nil]); first | done | rfl | (simp only [List.length_drop, List.length_take]; rfl)) ?_; (with_reducible refine (laws_toTree.calls k _ _ l1_0 t168 _ ?side1 ?side2 A23.out).mono ?_); (case side1 => exact Kd.C_below HR1_0.out (by repeat (first | (with_reducible first | exact HB.out | apply below_alloc | apply pw_below_drewN | apply below_drew1 | refine below_set ?_ GE153.out | refine below_set ?_ GE154.out | refine below_set ?_ GE167.out) | exact HB.out))); (case side2 => exact HC1_0.out); rintro e w121 ⟨v169, rfl, ho0, hb⟩; refine ⟨_, rfl, ?_⟩; have n0_ := Aside0.mk (Kd.R_elder' (by (with_reducible repeat (first | apply Kd.R_alloc | apply Kd.R_drewN | apply Kd.R_drew)); exact (Kd.R_mono (Kd.R_far (p := ⟨gb167, 0, none⟩) (Kd.R_types HO159.out BK167.out (by decide)) (fun _ hk => hk.2) (.slice Ao116 t164.length co116)) (fun _ h_ => h_.1))) (Kd.R_base ho0) hb); have n1_ := Aside0.mk (Kd.R_elder' (by (with_reducible repeat (first | apply Kd.R_alloc | apply Kd.R_drewN | apply Kd.R_drew)); exact (Kd.R_mono (Kd.R_far (p := ⟨gb167, 0, none⟩) (Kd.R_types HO162.out BK167.out (by decide)) (fun _ hk => hk.2) (.slice Ao116 t164.length co116)) (fun _ h_ => h_.1))) (Kd.R_base ho0) hb); have n2_ := Aside0.mk (Kd.R_elder' (by (with_reducible repeat (first | apply Kd.R_alloc | apply Kd.R_drewN | apply Kd.R_drew)); exact (Kd.R_mono (Kd.R_far (p := ⟨gb167, 0, none⟩) (Kd.R_types HO166.out BK167.out (by decide)) (fun _ hk => hk.2) (.slice Ao116 t164.length co116)) (fun _ h_ => h_.1))) (Kd.R_base ho0) hb); have n3_ := Aside0.mk (Kd.R_lower (Kd.R_new' (Kd.R_new' (Kd.R_new' ho0 (Kd.R_lt (by (with_reducible repeat (first | apply Kd.R_alloc | apply Kd.R_drewN | apply Kd.R_drew)); exact (Kd.R_mono (Kd.R_far (p := ⟨gb167, 0, none⟩) (Kd.R_types HO159.out BK167.out (by decide)) (fun _ hk => hk.2) (.slice Ao116 t164.length co116)) (fun _ h_ => h_.1))))) (Kd.R_lt (by (with_reducible repeat (first | apply Kd.R_alloc | apply Kd.R_drewN | apply Kd.R_drew)); exact (Kd.R_mono (Kd.R_far (p := ⟨gb167, 0, none⟩) (Kd.R_types HO162.out BK167.out (by decide)) (fun _ hk => hk.2) (.slice Ao116 t164.length co116)) (fun _ h_ => h_.1))))) (Kd.R_lt (by (with_reducible repeat (first | apply Kd.R_alloc | apply Kd.R_drewN | apply Kd.R_drew)); exact (Kd.R_mono (Kd.R_far (p := ⟨gb167, 0, none⟩) (Kd.R_types HO166.out BK167.out (by decide)) (fun _ hk => hk.2) (.slice Ao116 t164.length co116)) (fun _ h_ => h_.1))))) (below_size (by repeat (first | (with_reducible first | exact HB.out | apply below_alloc | apply pw_below_drewN | apply below_drew1 | refine below_set ?_ GE153.out | refine below_set ?_ GE154.out | refine below_set ?_ GE167.out) | exact HB.out)))); have n4_ := Aside0.mk (blk_below (g := gb153) (o := .cells #[.slice A0_0 l0_0.length c0_0] 31 (0, 0)) (by (with_reducible repeat (first | refine blk_drewN ?_ _ | refine blk_drew ?_ | refine blk_alloc ?_ _)); refine blk_far ?_ NB153_167.out _; (with_reducible repeat (first | refine blk_drewN ?_ _ | refine blk_drew ?_ | refine blk_alloc ?_ _)); exact BK153.out) hb); have n5_ := Aside0.mk (blk_below (g := gb154) (o := .cells #[.slice A1_0 l1_0.length c1_0] 31 (0, 0)) (by (with_reducible repeat (first | refine blk_drewN ?_ _ | refine blk_drew ?_ | refine blk_alloc ?_ _)); refine blk_far ?_ NB154_167.out _; (with_reducible repeat (first | refine blk_drewN ?_ _ | refine blk_drew ?_ | refine blk_alloc ?_ _)); exact BK154.out) hb); have n6_ := Aside0.mk (blk_below (g := gb167) (o := .cells #[.slice Ao116 t164.length co116] 24 (0, 0)) (by (with_reducible repeat (first | refine blk_drewN ?_ _ | refine blk_drew ?_ | refine blk_alloc ?_ _)); refine blk_put (cs := #[.slice none 0 0]) ?_ 0 _ rfl; (with_reducible repeat (first | refine blk_drewN ?_ _ | refine blk_drew ?_ | refine blk_alloc ?_ _)); exact BK167.out) hb); have n7_ := Aside0.mk (below_step (by repeat (first | (with_reducible first | exact HB.out | apply below_alloc | apply pw_below_drewN | apply below_drew1 | refine below_set ?_ GE153.out | refine below_set ?_ GE154.out | refine below_set ?_ GE167.out) | exact HB.out)) hb); clear HO159; clear HO162; clear HO166; clear BK153; clear BK154; clear BK167; clear HB; have HO159 := n0_; have HO162 := n1_; have HO166 := n2_; have HO170 := n3_; have BK153 := n4_; have BK154 := n5_; have BK167 := n6_; have HB := n7_; clear n0_ n1_ n2_ n3_ n4_ n5_ n6_ n7_; (try clear hb); (try clear hb2); (try clear hk); (try clear hi); (try clear ho0)) | ((with_reducible refine gate_dst (N := 8) rfl ?_); refine box_event ?hg (N := 8) ?hd (cs := #[.slice none 0 0]) (t := 24) ?hr ?_; (case hd => rfl); (case hg => rfl); (case hr => first | (go_simp; done) | (go_simp; rfl)); intro gb171 hg w122 hbox hb; have n0_ := Aside0.mk (Kd.R_below (by (with_reducible repeat (first | apply Kd.R_alloc | apply Kd.R_drewN | apply Kd.R_drew)); exact HO159.out) hb); have n1_ := Aside0.mk (Kd.R_below (by (with_reducible repeat (first | apply Kd.R_alloc | apply Kd.R_drewN | apply Kd.R_drew)); exact HO162.out) hb); have n2_ := Aside0.mk (Kd.R_below (by (with_reducible repeat (first | apply Kd.R_alloc | apply Kd.R_drewN | apply Kd.R_drew)); exact HO166.out) hb); have n3_ := Aside0.mk (Kd.R_below (by (with_reducible repeat (first | apply Kd.R_alloc | apply Kd.R_drewN | apply Kd.R_drew)); exact HO170.out) hb); have n4_ := Aside0.mk (blk_below (g := gb153) (o := .cells #[.slice A0_0 l0_0.length c0_0] 31 (0, 0)) (by (with_reducible repeat (first | refine blk_drewN ?_ _ | refine blk_drew ?_ | refine blk_alloc ?_ _)); exact BK153.out) hb); have n5_ := Aside0.mk (blk_below (g := gb154) (o := .cells #[.slice A1_0 l1_0.length c1_0] 31 (0, 0)) (by (with_reducible repeat (first | refine blk_drewN ?_ _ | refine blk_drew ?_ | refine blk_alloc ?_ _)); exact BK154.out) hb); have n6_ := Aside0.mk (blk_below (g := gb167) (o := .cells #[.slice Ao116 t164.length co116] 24 (0, 0)) (by (with_reducible repeat (first | refine blk_drewN ?_ _ | refine blk_drew ?_ | refine blk_alloc ?_ _)); exact BK167.out) hb); have n7_ := Aside0.mk (below_step (by repeat (first | (with_reducible first | exact HB.out | apply below_alloc | apply pw_below_drewN | apply below_drew1 | refine below_set ?_ GE153.out | refine below_set ?_ GE154.out | refine below_set ?_ GE167.out) | exact HB.out)) hb); have n8_ := Aside0.mk (hbox); have n9_ := Aside0.mk ((by rw [hg]; exact (below_size (by repeat (first | (with_reducible first | exact HB.out | apply below_alloc | apply pw_below_drewN | apply below_drew1 | refine below_set ?_ GE153.out | refine below_set ?_ GE154.out | refine below_set ?_ GE167.out) | exact HB.out))) : w.heap.size ≤ gb171)); have n10_ := Aside0.mk ((by rw [hg]; exact (below_size (by repeat (first | (with_reducible first | exact HB.out | apply below_alloc | apply pw_below_drewN | apply below_drew1 | refine below_set ?_ GE153.out | refine below_set ?_ GE154.out | refine below_set ?_ GE167.out) | exact HB.out))) : w.heap.size ≤ gb171)); have n11_ := Aside0.mk ((by rw [hg]; exact Nat.ne_of_lt (blk_lt (g := gb153) (o := .cells #[.slice A0_0 l0_0.length c0_0] 31 (0, 0)) (by (with_reducible repeat (first | refine blk_drewN ?_ _ | refine blk_drew ?_ | refine blk_alloc ?_ _)); exact BK153.out)) : gb153 ≠ gb171)); have n12_ := Aside0.mk ((by rw [hg]; exact Nat.ne_of_gt (blk_lt (g := gb153) (o := .cells #[.slice A0_0 l0_0.length c0_0] 31 (0, 0)) (by (with_reducible repeat (first | refine blk_drewN ?_ _ | refine blk_drew ?_ | refine blk_alloc ?_ _)); exact BK153.out)) : gb171 ≠ gb153)); have n13_ := Aside0.mk ((by rw [hg]; exact Nat.ne_of_lt (blk_lt (g := gb154) (o := .cells #[.slice A1_0 l1_0.length c1_0] 31 (0, 0)) (by (with_reducible repeat (first | refine blk_drewN ?_ _ | refine blk_drew ?_ | refine blk_alloc ?_ _)); exact BK154.out)) : gb154 ≠ gb171)); have n14_ := Aside0.mk ((by rw [hg]; exact Nat.ne_of_gt (blk_lt (g := gb154) (o := .cells #[.slice A1_0 l1_0.length c1_0] 31 (0, 0)) (by (with_reducible repeat (first | refine blk_drewN ?_ _ | refine blk_drew ?_ | refine blk_alloc ?_ _)); exact BK154.out)) : gb171 ≠ gb154)); have n15_ := Aside0.mk ((by rw [hg]; exact Nat.ne_of_lt (blk_lt (g := gb167) (o := .cells #[.slice Ao116 t164.length co116] 24 (0, 0)) (by (with_reducible repeat (first | refine blk_drewN ?_ _ | refine blk_drew ?_ | refine blk_alloc ?_ _)); exact BK167.out)) : gb167 ≠ gb171)); have n16_ := Aside0.mk ((by rw [hg]; exact Nat.ne_of_gt (blk_lt (g := gb167) (o := .cells #[.slice Ao116 t164.length co116] 24 (0, 0)) (by (with_reducible repeat (first | refine blk_drewN ?_ _ | refine blk_drew ?_ | refine blk_alloc ?_ _)); exact BK167.out)) : gb171 ≠ gb167)); clear HO159; clear HO162; clear HO166; clear HO170; clear BK153; clear BK154; clear BK167; clear HB; have HO159 := n0_; have HO162 := n1_; have HO166 := n2_; have HO170 := n3_; have BK153 := n4_; have BK154 := n5_; have BK167 := n6_; have HB := n7_; have BK171 := n8_; have GW171 := n9_; have GE171 := n10_; have NB153_171 := n11_; have NB171_153 := n12_; have NB154_171 := n13_; have NB171_154 := n14_; have NB167_171 := n15_; have NB171_167 := n16_; clear n0_ n1_ n2_ n3_ n4_ n5_ n6_ n7_ n8_ n9_ n10_ n11_ n12_ n13_ n14_ n15_ n16_; clear hb hbox hg; obtain ⟨Ao123, co123, eo123⟩ := Kd.R_slice HO170.out; subst eo123; have hnb124 := NB171_153.out; have hnc124 := NB153_171.out; have hnb125 := NB171_154.out; have hnc125 := NB154_171.out; have hnb126 := NB171_167.out; have hnc126 := NB167_171.out; have hcz127_0 : w122.cell? ⟨gb171, 0, none⟩ = some (.slice none 0 0) := (blk_cell BK171.out 0).trans rfl; have hfz127_0 := blk_frozen BK171.out 0; have hcz128_0 : w122.cell? ⟨gb167, 0, none⟩ = some (.slice Ao116 t164.length co116) := (blk_cell BK167.out 0).trans rfl; have hfz128_0 := blk_frozen BK167.out 0) | ((with_reducible refine gate_callee (f := 27) rfl ?_); refine goesL_ (some 31) rfl rfl Try.func27 (by kernel_rfl) rfl #[.agg #[.slice Ao116 t164.length co116], .agg #[.slice Ao123 t168.length co123]] rfl (by (try simp only [List.map_toArray, List.map_cons, List.map_nil]); first | done | rfl | (simp only [List.length_drop, List.length_take]; rfl)) ?_; (with_reducible refine (impl_SameTree.calls k _ _ t164 _ _ t168 t172 _ ?side1 ?side2 ?side3 ?side4 A24.out).mono ?_); (case side1 => refine (Kd.R_reads' (e := 77) (base := w.heap.size) (ok := fun k_ => (((True ∧ some k_ ≠ (.slice Ao110 t157.length co110 : Value).ownBlock) ∧ some k_ ≠ (.slice Ao111 t160.length co111 : Value).ownBlock) ∧ some k_ ≠ (.slice Ao123 t168.length co123 : Value).ownBlock)) (n := t164.length) (c := co116) ?_).2.2; exact (by (with_reducible repeat (first | apply Kd.R_alloc | apply Kd.R_drewN | apply Kd.R_drew)); exact (Kd.R_mono (Kd.R_far (p := ⟨gb171, 0, none⟩) (Kd.R_types HO166.out BK171.out (by decide)) (fun _ hk => hk.2) (.slice Ao123 t168.length co123)) (fun _ h_ => h_.1)))); (case side2 => exact (Kd.R_reads' HO166.out).2.1); (case side3 => refine (Kd.R_reads' (e := 77) (base := w.heap.size) (ok := fun k_ => (((True ∧ some k_ ≠ (.slice Ao110 t157.length co110 : Value).ownBlock) ∧ some k_ ≠ (.slice Ao111 t160.length co111 : Value).ownBlock) ∧ some k_ ≠ (.slice Ao116 t164.length co116 : Value).ownBlock)) (n := t168.length) (c := co123) ?_).2.2; exact (by (with_reducible repeat (first | apply Kd.R_alloc | apply Kd.R_drewN | apply Kd.R_drew)); exact (Kd.R_mono (Kd.R_far (p := ⟨gb171, 0, none⟩) (Kd.R_types HO170.out BK171.out (by decide)) (fun _ hk => hk.2) (.slice Ao123 t168.length co123)) (fun _ h_ => h_.1)))); (case side4 => exact (Kd.R_reads' HO170.out).2.1); rintro e w129 ⟨rfl, hb⟩; refine ⟨_, rfl, ?_⟩; have n0_ := Aside0.mk (Kd.R_below (by (with_reducible repeat (first | apply Kd.R_alloc | apply Kd.R_drewN | apply Kd.R_drew)); exact (Kd.R_mono (Kd.R_far (p := ⟨gb171, 0, none⟩) (Kd.R_types HO159.out BK171.out (by decide)) (fun _ hk => hk.2) (.slice Ao123 t168.length co123)) (fun _ h_ => h_.1))) hb); have n1_ := Aside0.mk (Kd.R_below (by (with_reducible repeat (first | apply Kd.R_alloc | apply Kd.R_drewN | apply Kd.R_drew)); exact (Kd.R_mono (Kd.R_far (p := ⟨gb171, 0, none⟩) (Kd.R_types HO162.out BK171.out (by decide)) (fun _ hk => hk.2) (.slice Ao123 t168.length co123)) (fun _ h_ => h_.1))) hb); have n2_ := Aside0.mk (Kd.R_below (by (with_reducible repeat (first | apply Kd.R_alloc | apply Kd.R_drewN | apply Kd.R_drew)); exact (Kd.R_mono (Kd.R_far (p := ⟨gb171, 0, none⟩) (Kd.R_types HO166.out BK171.out (by decide)) (fun _ hk => hk.2) (.slice Ao123 t168.length co123)) (fun _ h_ => h_.1))) hb); have n3_ := Aside0.mk (Kd.R_below (by (with_reducible repeat (first | apply Kd.R_alloc | apply Kd.R_drewN | apply Kd.R_drew)); exact (Kd.R_mono (Kd.R_far (p := ⟨gb171, 0, none⟩) (Kd.R_types HO170.out BK171.out (by decide)) (fun _ hk => hk.2) (.slice Ao123 t168.length co123)) (fun _ h_ => h_.1))) hb); have n4_ := Aside0.mk (blk_below (g := gb153) (o := .cells #[.slice A0_0 l0_0.length c0_0] 31 (0, 0)) (by (with_reducible repeat (first | refine blk_drewN ?_ _ | refine blk_drew ?_ | refine blk_alloc ?_ _)); refine blk_far ?_ NB153_171.out _; (with_reducible repeat (first | refine blk_drewN ?_ _ | refine blk_drew ?_ | refine blk_alloc ?_ _)); exact BK153.out) hb); have n5_ := Aside0.mk (blk_below (g := gb154) (o := .cells #[.slice A1_0 l1_0.length c1_0] 31 (0, 0)) (by (with_reducible repeat (first | refine blk_drewN ?_ _ | refine blk_drew ?_ | refine blk_alloc ?_ _)); refine blk_far ?_ NB154_171.out _; (with_reducible repeat (first | refine blk_drewN ?_ _ | refine blk_drew ?_ | refine blk_alloc ?_ _)); exact BK154.out) hb); have n6_ := Aside0.mk (blk_below (g := gb167) (o := .cells #[.slice Ao116 t164.length co116] 24 (0, 0)) (by (with_reducible repeat (first | refine blk_drewN ?_ _ | refine blk_drew ?_ | refine blk_alloc ?_ _)); refine blk_far ?_ NB167_171.out _; (with_reducible repeat (first | refine blk_drewN ?_ _ | refine blk_drew ?_ | refine blk_alloc ?_ _)); exact BK167.out) hb); have n7_ := Aside0.mk (blk_below (g := gb171) (o := .cells #[.slice Ao123 t168.length co123] 24 (0, 0)) (by (with_reducible repeat (first | refine blk_drewN ?_ _ | refine blk_drew ?_ | refine blk_alloc ?_ _)); refine blk_put (cs := #[.slice none 0 0]) ?_ 0 _ rfl; (with_reducible repeat (first | refine blk_drewN ?_ _ | refine blk_drew ?_ | refine blk_alloc ?_ _)); exact BK171.out) hb); have n8_ := Aside0.mk (below_step (by repeat (first | (with_reducible first | exact HB.out | apply below_alloc | apply pw_below_drewN | apply below_drew1 | refine below_set ?_ GE153.out | refine below_set ?_ GE154.out | refine below_set ?_ GE167.out | refine below_set ?_ GE171.out) | exact HB.out)) hb); clear HO159; clear HO162; clear HO166; clear HO170; clear BK153; clear BK154; clear BK167; clear BK171; clear HB; have HO159 := n0_; have HO162 := n1_; have HO166 := n2_; have HO170 := n3_; have BK153 := n4_; have BK154 := n5_; have BK167 := n6_; have BK171 := n7_; have HB := n8_; clear n0_ n1_ n2_ n3_ n4_ n5_ n6_ n7_ n8_; (try clear hb); (try clear hb2); (try clear hk); (try clear hi)))
            have n0_ := Aside0.mk (Kd.R_drew HO159.out)
            have n1_ := Aside0.mk (Kd.R_drew HO162.out)
            have n2_ := Aside0.mk (Kd.R_drew HO166.out)
            have n3_ := Aside0.mk (Kd.R_drew HO170.out)
            have n4_ := Aside0.mk (blk_drew BK153.out)
            have n5_ := Aside0.mk (blk_drew BK154.out)
            have n6_ := Aside0.mk (blk_drew BK167.out)
            have n7_ := Aside0.mk (blk_drew BK171.out)
            have n8_ := Aside0.mk (below_drew1 HB.out)
            clear HO159
            clear HO162
            clear HO166
            clear HO170
            clear BK153
            clear BK154
            clear BK167
            clear BK171
            clear HB
            have HO159 := n0_
            have HO162 := n1_
            have HO166 := n2_
            have HO170 := n3_
            have BK153 := n4_
            have BK154 := n5_
            have BK167 := n6_
            have BK171 := n7_
            have HB := n8_
            clear n0_ n1_ n2_ n3_ n4_ n5_ n6_ n7_ n8_
            refine start_ (n := 5) (S := fun w' => w'.cell? ⟨gb167, 0, none⟩ = some (.slice Ao116 t164.length co116) ∧ w'.cell? ⟨gb153, 0, none⟩ = some (.slice A0_0 l0_0.length c0_0)) (ds := []) #[false, false, false, false, false] (by kernel_rfl) rfl rfl ⟨(blk_cell BK167.out 0).trans rfl, (blk_cell BK153.out 0).trans rfl⟩ (fun hHeld => ?_)
            generalize w129.drew = w130 at HO159 HO162 HO166 HO170 BK153 BK154 BK167 BK171 HB hHeld ⊢
            refine take_ (i := 0) (N := some 35) (v := ?_) (a' := ?_) #[true, false, false, false, false] rfl rfl (by kernel_rfl) (fun _ _ _ h => h) (Or.inl ⟨by rfl, ?_⟩) hHeld ?_ ?_
            rotate_left
            · rintro w' ⟨s0, s1⟩
              go_simp
              with_reducible rfl
            rotate_left
            · simp only [Act.put, List.setIfInBounds_toArray, List.set_cons_zero, List.set_cons_succ, i64_w, i32_w]
              rfl
            refine take_ (i := 1) (N := some 36) (v := ?_) (a' := ?_) #[true, true, false, false, false] rfl rfl (by kernel_rfl) (fun _ _ _ h => h) (Or.inl ⟨by rfl, ?_⟩) hHeld ?_ ?_
            rotate_left
            · rintro w' ⟨s0, s1⟩
              go_simp
              with_reducible rfl
            rotate_left
            · simp only [Act.put, List.setIfInBounds_toArray, List.set_cons_zero, List.set_cons_succ, i64_w, i32_w]
              rfl
            refine one_ (i := 2) (N := some 37) #[true, true, true, false, false] rfl rfl (by kernel_rfl) (by decide) (fun K hK => ?_)
            refine goes_ Try.func26 (by kernel_rfl) rfl #[.agg #[.slice A0_0 l0_0.length c0_0]] (by rfl) rfl rfl (by (try simp only [List.map_toArray, List.map_cons, List.map_nil]); first | done | rfl | (simp only [List.length_drop, List.length_take]; rfl)) ?_
            with_reducible refine (laws_toTree.calls k _ _ l0_0 t173 _ ?side1 ?side2 A56.out).mono ?_
            (case side1 => repeat (first | exact (Kd.C_below HR0_0.out HB.out) | (with_reducible refine Kd.C_alloc ?_ _) | (with_reducible refine Kd.C_drewN ?_ _) | (with_reducible refine Kd.C_drew ?_)))
            (case side2 => exact HC0_0.out)
            rintro e w131 ⟨v174, rfl, ho0, hb⟩
            refine ⟨_, rfl, ?_⟩
            have n0_ := Aside0.mk (Kd.R_elder' (by (with_reducible repeat (first | apply Kd.R_alloc | apply Kd.R_drewN | apply Kd.R_drew)); exact HO159.out) (Kd.R_base ho0) hb)
            have n1_ := Aside0.mk (Kd.R_elder' (by (with_reducible repeat (first | apply Kd.R_alloc | apply Kd.R_drewN | apply Kd.R_drew)); exact HO162.out) (Kd.R_base ho0) hb)
            have n2_ := Aside0.mk (Kd.R_elder' (by (with_reducible repeat (first | apply Kd.R_alloc | apply Kd.R_drewN | apply Kd.R_drew)); exact HO166.out) (Kd.R_base ho0) hb)
            have n3_ := Aside0.mk (Kd.R_elder' (by (with_reducible repeat (first | apply Kd.R_alloc | apply Kd.R_drewN | apply Kd.R_drew)); exact HO170.out) (Kd.R_base ho0) hb)
            have n4_ := Aside0.mk (Kd.R_lower (Kd.R_new' (Kd.R_new' (Kd.R_new' (Kd.R_new' ho0 (Kd.R_lt (by (with_reducible repeat (first | apply Kd.R_alloc | apply Kd.R_drewN | apply Kd.R_drew)); exact HO159.out))) (Kd.R_lt (by (with_reducible repeat (first | apply Kd.R_alloc | apply Kd.R_drewN | apply Kd.R_drew)); exact HO162.out))) (Kd.R_lt (by (with_reducible repeat (first | apply Kd.R_alloc | apply Kd.R_drewN | apply Kd.R_drew)); exact HO166.out))) (Kd.R_lt (by (with_reducible repeat (first | apply Kd.R_alloc | apply Kd.R_drewN | apply Kd.R_drew)); exact HO170.out))) (below_size (by repeat (first | (with_reducible first | exact HB.out | apply below_alloc | apply pw_below_drewN | apply below_drew1 | refine below_set ?_ GE153.out | refine below_set ?_ GE154.out | refine below_set ?_ GE167.out | refine below_set ?_ GE171.out) | exact HB.out))))
            have n5_ := Aside0.mk (blk_below (g := gb153) (o := .cells #[.slice A0_0 l0_0.length c0_0] 31 (0, 0)) (by (with_reducible repeat (first | refine blk_drewN ?_ _ | refine blk_drew ?_ | refine blk_alloc ?_ _)); exact BK153.out) hb)
            have n6_ := Aside0.mk (blk_below (g := gb154) (o := .cells #[.slice A1_0 l1_0.length c1_0] 31 (0, 0)) (by (with_reducible repeat (first | refine blk_drewN ?_ _ | refine blk_drew ?_ | refine blk_alloc ?_ _)); exact BK154.out) hb)
            have n7_ := Aside0.mk (blk_below (g := gb167) (o := .cells #[.slice Ao116 t164.length co116] 24 (0, 0)) (by (with_reducible repeat (first | refine blk_drewN ?_ _ | refine blk_drew ?_ | refine blk_alloc ?_ _)); exact BK167.out) hb)
            have n8_ := Aside0.mk (blk_below (g := gb171) (o := .cells #[.slice Ao123 t168.length co123] 24 (0, 0)) (by (with_reducible repeat (first | refine blk_drewN ?_ _ | refine blk_drew ?_ | refine blk_alloc ?_ _)); exact BK171.out) hb)
            have n9_ := Aside0.mk (below_step (by repeat (first | (with_reducible first | exact HB.out | apply below_alloc | apply pw_below_drewN | apply below_drew1 | refine below_set ?_ GE153.out | refine below_set ?_ GE154.out | refine below_set ?_ GE167.out | refine below_set ?_ GE171.out) | exact HB.out)) hb)
            clear HO159
            clear HO162
            clear HO166
            clear HO170
            clear BK153
            clear BK154
            clear BK167
            clear BK171
            clear HB
            have HO159 := n0_
            have HO162 := n1_
            have HO166 := n2_
            have HO170 := n3_
            have HO175 := n4_
            have BK153 := n5_
            have BK154 := n6_
            have BK167 := n7_
            have BK171 := n8_
            have HB := n9_
            clear n0_ n1_ n2_ n3_ n4_ n5_ n6_ n7_ n8_ n9_
            (try clear hb)
            (try clear hb2)
            (try clear hk)
            (try clear hi)
            (try clear ho0)
            obtain ⟨Ao132, co132, eo132⟩ := Kd.R_slice HO175.out
            (first | subst eo132 | (injection eo132 with f1_ f2_ f3_; have f4_ := f1_.symm; have f5_ := f3_.symm; clear f1_ f2_ f3_; subst f4_; subst f5_))
            refine hK.out _ _ ⟨(blk_cell BK167.out 0).trans rfl, (blk_cell BK153.out 0).trans rfl⟩ (fun hHeld => ?_)
            clear hK K
            refine norm_ (a' := ?_) ?_ ?_
            rotate_left
            · show Act.put _ (some 37) _ = _
              simp only [Act.put, List.setIfInBounds_toArray, List.set_cons_zero, List.set_cons_succ, i64_w, i32_w]
              rfl
            refine one_ (i := 3) (N := some 38) #[true, true, true, true, false] rfl rfl (by kernel_rfl) (by decide) (fun K hK => ?_)
            refine goes_ Try.func17 (by kernel_rfl) rfl #[.agg #[.slice Ao116 t164.length co116], .agg #[.slice Ao132 t173.length co132]] (by rfl) rfl rfl (by (try simp only [List.map_toArray, List.map_cons, List.map_nil]); first | done | rfl | (simp only [List.length_drop, List.length_take]; rfl)) ?_
            with_reducible refine (laws_eqTree.calls k _ _ t164 _ _ t173 true _ ?side1 ?side2 ?side3 ?side4 A57.out).mono ?_
            (case side1 => repeat (first | exact (Kd.R_reads' HO166.out).2.2 | (with_reducible refine Kd.C_alloc ?_ _) | (with_reducible refine Kd.C_drewN ?_ _) | (with_reducible refine Kd.C_drew ?_)))
            (case side2 => exact (Kd.R_reads' HO166.out).2.1)
            (case side3 => repeat (first | exact (Kd.R_reads' HO175.out).2.2 | (with_reducible refine Kd.C_alloc ?_ _) | (with_reducible refine Kd.C_drewN ?_ _) | (with_reducible refine Kd.C_drew ?_)))
            (case side4 => exact (Kd.R_reads' HO175.out).2.1)
            rintro e w133 ⟨rfl, hb⟩
            refine ⟨_, rfl, ?_⟩
            have n0_ := Aside0.mk (Kd.R_below (by (with_reducible repeat (first | apply Kd.R_alloc | apply Kd.R_drewN | apply Kd.R_drew)); exact HO159.out) hb)
            have n1_ := Aside0.mk (Kd.R_below (by (with_reducible repeat (first | apply Kd.R_alloc | apply Kd.R_drewN | apply Kd.R_drew)); exact HO162.out) hb)
            have n2_ := Aside0.mk (Kd.R_below (by (with_reducible repeat (first | apply Kd.R_alloc | apply Kd.R_drewN | apply Kd.R_drew)); exact HO166.out) hb)
            have n3_ := Aside0.mk (Kd.R_below (by (with_reducible repeat (first | apply Kd.R_alloc | apply Kd.R_drewN | apply Kd.R_drew)); exact HO170.out) hb)
            have n4_ := Aside0.mk (Kd.R_below (by (with_reducible repeat (first | apply Kd.R_alloc | apply Kd.R_drewN | apply Kd.R_drew)); exact HO175.out) hb)
            have n5_ := Aside0.mk (blk_below (g := gb153) (o := .cells #[.slice A0_0 l0_0.length c0_0] 31 (0, 0)) (by (with_reducible repeat (first | refine blk_drewN ?_ _ | refine blk_drew ?_ | refine blk_alloc ?_ _)); exact BK153.out) hb)
            have n6_ := Aside0.mk (blk_below (g := gb154) (o := .cells #[.slice A1_0 l1_0.length c1_0] 31 (0, 0)) (by (with_reducible repeat (first | refine blk_drewN ?_ _ | refine blk_drew ?_ | refine blk_alloc ?_ _)); exact BK154.out) hb)
            have n7_ := Aside0.mk (blk_below (g := gb167) (o := .cells #[.slice Ao116 t164.length co116] 24 (0, 0)) (by (with_reducible repeat (first | refine blk_drewN ?_ _ | refine blk_drew ?_ | refine blk_alloc ?_ _)); exact BK167.out) hb)
            have n8_ := Aside0.mk (blk_below (g := gb171) (o := .cells #[.slice Ao123 t168.length co123] 24 (0, 0)) (by (with_reducible repeat (first | refine blk_drewN ?_ _ | refine blk_drew ?_ | refine blk_alloc ?_ _)); exact BK171.out) hb)
            have n9_ := Aside0.mk (below_step (by repeat (first | (with_reducible first | exact HB.out | apply below_alloc | apply pw_below_drewN | apply below_drew1 | refine below_set ?_ GE153.out | refine below_set ?_ GE154.out | refine below_set ?_ GE167.out | refine below_set ?_ GE171.out) | exact HB.out)) hb)
            clear HO159
            clear HO162
            clear HO166
            clear HO170
            clear HO175
            clear BK153
            clear BK154
            clear BK167
            clear BK171
            clear HB
            have HO159 := n0_
            have HO162 := n1_
            have HO166 := n2_
            have HO170 := n3_
            have HO175 := n4_
            have BK153 := n5_
            have BK154 := n6_
            have BK167 := n7_
            have BK171 := n8_
            have HB := n9_
            clear n0_ n1_ n2_ n3_ n4_ n5_ n6_ n7_ n8_ n9_
            (try clear hb)
            (try clear hb2)
            (try clear hk)
            (try clear hi)
            refine hK.out _ _ ⟨(blk_cell BK167.out 0).trans rfl, (blk_cell BK153.out 0).trans rfl⟩ (fun hHeld => ?_)
            clear hK K
            refine norm_ (a' := ?_) ?_ ?_
            rotate_left
            · show Act.put _ (some 38) _ = _
              simp only [Act.put, List.setIfInBounds_toArray, List.set_cons_zero, List.set_cons_succ, i64_w, i32_w]
              rfl
            refine pure_ (i := 4) (N := some 39) (v := ?_) (a' := ?_) #[true, true, true, true, true] rfl rfl (by kernel_rfl) (fun _ _ _ h => h) (Or.inl ⟨by rfl, ?_⟩) ?_ ?_
            rotate_left
            · intro w'
              go_simp
              with_reducible rfl
            rotate_left
            · simp only [Act.put, List.setIfInBounds_toArray, List.set_cons_zero, List.set_cons_succ, i64_w, i32_w]
              rfl
            refine done_ (by kernel_rfl) ?_
            try go_wp2
            have n0_ := Aside0.mk (Kd.R_drew HO159.out)
            have n1_ := Aside0.mk (Kd.R_drew HO162.out)
            have n2_ := Aside0.mk (Kd.R_drew HO166.out)
            have n3_ := Aside0.mk (Kd.R_drew HO170.out)
            have n4_ := Aside0.mk (Kd.R_drew HO175.out)
            have n5_ := Aside0.mk (blk_drew BK153.out)
            have n6_ := Aside0.mk (blk_drew BK154.out)
            have n7_ := Aside0.mk (blk_drew BK167.out)
            have n8_ := Aside0.mk (blk_drew BK171.out)
            have n9_ := Aside0.mk (below_drew1 HB.out)
            clear HO159
            clear HO162
            clear HO166
            clear HO170
            clear HO175
            clear BK153
            clear BK154
            clear BK167
            clear BK171
            clear HB
            have HO159 := n0_
            have HO162 := n1_
            have HO166 := n2_
            have HO170 := n3_
            have HO175 := n4_
            have BK153 := n5_
            have BK154 := n6_
            have BK167 := n7_
            have BK171 := n8_
            have HB := n9_
            clear n0_ n1_ n2_ n3_ n4_ n5_ n6_ n7_ n8_ n9_
            refine start_ (n := 5) (S := fun w' => w'.cell? ⟨gb171, 0, none⟩ = some (.slice Ao123 t168.length co123) ∧ w'.cell? ⟨gb154, 0, none⟩ = some (.slice A1_0 l1_0.length c1_0)) (ds := []) #[false, false, false, false, false] (by kernel_rfl) rfl rfl ⟨(blk_cell BK171.out 0).trans rfl, (blk_cell BK154.out 0).trans rfl⟩ (fun hHeld => ?_)
            generalize w133.drew = w134 at HO159 HO162 HO166 HO170 HO175 BK153 BK154 BK167 BK171 HB hHeld ⊢
            refine take_ (i := 0) (N := some 40) (v := ?_) (a' := ?_) #[true, false, false, false, false] rfl rfl (by kernel_rfl) (fun _ _ _ h => h) (Or.inl ⟨by rfl, ?_⟩) hHeld ?_ ?_
            rotate_left
            · rintro w' ⟨s0, s1⟩
              go_simp
              with_reducible rfl
            rotate_left
            · simp only [Act.put, List.setIfInBounds_toArray, List.set_cons_zero, List.set_cons_succ, i64_w, i32_w]
              rfl
            refine take_ (i := 1) (N := some 41) (v := ?_) (a' := ?_) #[true, true, false, false, false] rfl rfl (by kernel_rfl) (fun _ _ _ h => h) (Or.inl ⟨by rfl, ?_⟩) hHeld ?_ ?_
            rotate_left
            · rintro w' ⟨s0, s1⟩
              go_simp
              with_reducible rfl
            rotate_left
            · simp only [Act.put, List.setIfInBounds_toArray, List.set_cons_zero, List.set_cons_succ, i64_w, i32_w]
              rfl
            refine one_ (i := 2) (N := some 42) #[true, true, true, false, false] rfl rfl (by kernel_rfl) (by decide) (fun K hK => ?_)
            refine goes_ Try.func26 (by kernel_rfl) rfl #[.agg #[.slice A1_0 l1_0.length c1_0]] (by rfl) rfl rfl (by (try simp only [List.map_toArray, List.map_cons, List.map_nil]); first | done | rfl | (simp only [List.length_drop, List.length_take]; rfl)) ?_
            with_reducible refine (laws_toTree.calls k _ _ l1_0 t177 _ ?side1 ?side2 A59.out).mono ?_
            (case side1 => repeat (first | exact (Kd.C_below HR1_0.out HB.out) | (with_reducible refine Kd.C_alloc ?_ _) | (with_reducible refine Kd.C_drewN ?_ _) | (with_reducible refine Kd.C_drew ?_)))
            (case side2 => exact HC1_0.out)
            rintro e w135 ⟨v178, rfl, ho0, hb⟩
            refine ⟨_, rfl, ?_⟩
            have n0_ := Aside0.mk (Kd.R_elder' (by (with_reducible repeat (first | apply Kd.R_alloc | apply Kd.R_drewN | apply Kd.R_drew)); exact HO159.out) (Kd.R_base ho0) hb)
            have n1_ := Aside0.mk (Kd.R_elder' (by (with_reducible repeat (first | apply Kd.R_alloc | apply Kd.R_drewN | apply Kd.R_drew)); exact HO162.out) (Kd.R_base ho0) hb)
            have n2_ := Aside0.mk (Kd.R_elder' (by (with_reducible repeat (first | apply Kd.R_alloc | apply Kd.R_drewN | apply Kd.R_drew)); exact HO166.out) (Kd.R_base ho0) hb)
            have n3_ := Aside0.mk (Kd.R_elder' (by (with_reducible repeat (first | apply Kd.R_alloc | apply Kd.R_drewN | apply Kd.R_drew)); exact HO170.out) (Kd.R_base ho0) hb)
            have n4_ := Aside0.mk (Kd.R_elder' (by (with_reducible repeat (first | apply Kd.R_alloc | apply Kd.R_drewN | apply Kd.R_drew)); exact HO175.out) (Kd.R_base ho0) hb)
            have n5_ := Aside0.mk (Kd.R_lower (Kd.R_new' (Kd.R_new' (Kd.R_new' (Kd.R_new' (Kd.R_new' ho0 (Kd.R_lt (by (with_reducible repeat (first | apply Kd.R_alloc | apply Kd.R_drewN | apply Kd.R_drew)); exact HO159.out))) (Kd.R_lt (by (with_reducible repeat (first | apply Kd.R_alloc | apply Kd.R_drewN | apply Kd.R_drew)); exact HO162.out))) (Kd.R_lt (by (with_reducible repeat (first | apply Kd.R_alloc | apply Kd.R_drewN | apply Kd.R_drew)); exact HO166.out))) (Kd.R_lt (by (with_reducible repeat (first | apply Kd.R_alloc | apply Kd.R_drewN | apply Kd.R_drew)); exact HO170.out))) (Kd.R_lt (by (with_reducible repeat (first | apply Kd.R_alloc | apply Kd.R_drewN | apply Kd.R_drew)); exact HO175.out))) (below_size (by repeat (first | (with_reducible first | exact HB.out | apply below_alloc | apply pw_below_drewN | apply below_drew1 | refine below_set ?_ GE153.out | refine below_set ?_ GE154.out | refine below_set ?_ GE167.out | refine below_set ?_ GE171.out) | exact HB.out))))
            have n6_ := Aside0.mk (blk_below (g := gb153) (o := .cells #[.slice A0_0 l0_0.length c0_0] 31 (0, 0)) (by (with_reducible repeat (first | refine blk_drewN ?_ _ | refine blk_drew ?_ | refine blk_alloc ?_ _)); exact BK153.out) hb)
            have n7_ := Aside0.mk (blk_below (g := gb154) (o := .cells #[.slice A1_0 l1_0.length c1_0] 31 (0, 0)) (by (with_reducible repeat (first | refine blk_drewN ?_ _ | refine blk_drew ?_ | refine blk_alloc ?_ _)); exact BK154.out) hb)
            have n8_ := Aside0.mk (blk_below (g := gb167) (o := .cells #[.slice Ao116 t164.length co116] 24 (0, 0)) (by (with_reducible repeat (first | refine blk_drewN ?_ _ | refine blk_drew ?_ | refine blk_alloc ?_ _)); exact BK167.out) hb)
            have n9_ := Aside0.mk (blk_below (g := gb171) (o := .cells #[.slice Ao123 t168.length co123] 24 (0, 0)) (by (with_reducible repeat (first | refine blk_drewN ?_ _ | refine blk_drew ?_ | refine blk_alloc ?_ _)); exact BK171.out) hb)
            have n10_ := Aside0.mk (below_step (by repeat (first | (with_reducible first | exact HB.out | apply below_alloc | apply pw_below_drewN | apply below_drew1 | refine below_set ?_ GE153.out | refine below_set ?_ GE154.out | refine below_set ?_ GE167.out | refine below_set ?_ GE171.out) | exact HB.out)) hb)
            clear HO159
            clear HO162
            clear HO166
            clear HO170
            clear HO175
            clear BK153
            clear BK154
            clear BK167
            clear BK171
            clear HB
            have HO159 := n0_
            have HO162 := n1_
            have HO166 := n2_
            have HO170 := n3_
            have HO175 := n4_
            have HO179 := n5_
            have BK153 := n6_
            have BK154 := n7_
            have BK167 := n8_
            have BK171 := n9_
            have HB := n10_
            clear n0_ n1_ n2_ n3_ n4_ n5_ n6_ n7_ n8_ n9_ n10_
            (try clear hb)
            (try clear hb2)
            (try clear hk)
            (try clear hi)
            (try clear ho0)
            obtain ⟨Ao136, co136, eo136⟩ := Kd.R_slice HO179.out
            (first | subst eo136 | (injection eo136 with f1_ f2_ f3_; have f4_ := f1_.symm; have f5_ := f3_.symm; clear f1_ f2_ f3_; subst f4_; subst f5_))
            refine hK.out _ _ ⟨(blk_cell BK171.out 0).trans rfl, (blk_cell BK154.out 0).trans rfl⟩ (fun hHeld => ?_)
            clear hK K
            refine norm_ (a' := ?_) ?_ ?_
            rotate_left
            · show Act.put _ (some 42) _ = _
              simp only [Act.put, List.setIfInBounds_toArray, List.set_cons_zero, List.set_cons_succ, i64_w, i32_w]
              rfl
            refine one_ (i := 3) (N := some 43) #[true, true, true, true, false] rfl rfl (by kernel_rfl) (by decide) (fun K hK => ?_)
            refine goes_ Try.func17 (by kernel_rfl) rfl #[.agg #[.slice Ao123 t168.length co123], .agg #[.slice Ao136 t177.length co136]] (by rfl) rfl rfl (by (try simp only [List.map_toArray, List.map_cons, List.map_nil]); first | done | rfl | (simp only [List.length_drop, List.length_take]; rfl)) ?_
            with_reducible refine (laws_eqTree.calls k _ _ t168 _ _ t177 false _ ?side1 ?side2 ?side3 ?side4 A60.out).mono ?_
            (case side1 => repeat (first | exact (Kd.R_reads' HO170.out).2.2 | (with_reducible refine Kd.C_alloc ?_ _) | (with_reducible refine Kd.C_drewN ?_ _) | (with_reducible refine Kd.C_drew ?_)))
            (case side2 => exact (Kd.R_reads' HO170.out).2.1)
            (case side3 => repeat (first | exact (Kd.R_reads' HO179.out).2.2 | (with_reducible refine Kd.C_alloc ?_ _) | (with_reducible refine Kd.C_drewN ?_ _) | (with_reducible refine Kd.C_drew ?_)))
            (case side4 => exact (Kd.R_reads' HO179.out).2.1)
            rintro e w137 ⟨rfl, hb⟩
            refine ⟨_, rfl, ?_⟩
            have n0_ := Aside0.mk (Kd.R_below (by (with_reducible repeat (first | apply Kd.R_alloc | apply Kd.R_drewN | apply Kd.R_drew)); exact HO159.out) hb)
            have n1_ := Aside0.mk (Kd.R_below (by (with_reducible repeat (first | apply Kd.R_alloc | apply Kd.R_drewN | apply Kd.R_drew)); exact HO162.out) hb)
            have n2_ := Aside0.mk (Kd.R_below (by (with_reducible repeat (first | apply Kd.R_alloc | apply Kd.R_drewN | apply Kd.R_drew)); exact HO166.out) hb)
            have n3_ := Aside0.mk (Kd.R_below (by (with_reducible repeat (first | apply Kd.R_alloc | apply Kd.R_drewN | apply Kd.R_drew)); exact HO170.out) hb)
            have n4_ := Aside0.mk (Kd.R_below (by (with_reducible repeat (first | apply Kd.R_alloc | apply Kd.R_drewN | apply Kd.R_drew)); exact HO175.out) hb)
            have n5_ := Aside0.mk (Kd.R_below (by (with_reducible repeat (first | apply Kd.R_alloc | apply Kd.R_drewN | apply Kd.R_drew)); exact HO179.out) hb)
            have n6_ := Aside0.mk (blk_below (g := gb153) (o := .cells #[.slice A0_0 l0_0.length c0_0] 31 (0, 0)) (by (with_reducible repeat (first | refine blk_drewN ?_ _ | refine blk_drew ?_ | refine blk_alloc ?_ _)); exact BK153.out) hb)
            have n7_ := Aside0.mk (blk_below (g := gb154) (o := .cells #[.slice A1_0 l1_0.length c1_0] 31 (0, 0)) (by (with_reducible repeat (first | refine blk_drewN ?_ _ | refine blk_drew ?_ | refine blk_alloc ?_ _)); exact BK154.out) hb)
            have n8_ := Aside0.mk (blk_below (g := gb167) (o := .cells #[.slice Ao116 t164.length co116] 24 (0, 0)) (by (with_reducible repeat (first | refine blk_drewN ?_ _ | refine blk_drew ?_ | refine blk_alloc ?_ _)); exact BK167.out) hb)
            have n9_ := Aside0.mk (blk_below (g := gb171) (o := .cells #[.slice Ao123 t168.length co123] 24 (0, 0)) (by (with_reducible repeat (first | refine blk_drewN ?_ _ | refine blk_drew ?_ | refine blk_alloc ?_ _)); exact BK171.out) hb)
            have n10_ := Aside0.mk (below_step (by repeat (first | (with_reducible first | exact HB.out | apply below_alloc | apply pw_below_drewN | apply below_drew1 | refine below_set ?_ GE153.out | refine below_set ?_ GE154.out | refine below_set ?_ GE167.out | refine below_set ?_ GE171.out) | exact HB.out)) hb)
            clear HO159
            clear HO162
            clear HO166
            clear HO170
            clear HO175
            clear HO179
            clear BK153
            clear BK154
            clear BK167
            clear BK171
            clear HB
            have HO159 := n0_
            have HO162 := n1_
            have HO166 := n2_
            have HO170 := n3_
            have HO175 := n4_
            have HO179 := n5_
            have BK153 := n6_
            have BK154 := n7_
            have BK167 := n8_
            have BK171 := n9_
            have HB := n10_
            clear n0_ n1_ n2_ n3_ n4_ n5_ n6_ n7_ n8_ n9_ n10_
            (try clear hb)
            (try clear hb2)
            (try clear hk)
            (try clear hi)
            refine hK.out _ _ ⟨(blk_cell BK171.out 0).trans rfl, (blk_cell BK154.out 0).trans rfl⟩ (fun hHeld => ?_)
            clear hK K
            refine norm_ (a' := ?_) ?_ ?_
            rotate_left
            · show Act.put _ (some 43) _ = _
              simp only [Act.put, List.setIfInBounds_toArray, List.set_cons_zero, List.set_cons_succ, i64_w, i32_w]
              rfl
            refine pure_ (i := 4) (N := some 44) (v := ?_) (a' := ?_) #[true, true, true, true, true] rfl rfl (by kernel_rfl) (fun _ _ _ h => h) (Or.inl ⟨by rfl, ?_⟩) ?_ ?_
            rotate_left
            · intro w'
              go_simp
              with_reducible rfl
            rotate_left
            · simp only [Act.put, List.setIfInBounds_toArray, List.set_cons_zero, List.set_cons_succ, i64_w, i32_w]
              rfl
            refine done_ (by kernel_rfl) ?_
            try go_wp2
            go_ret
            exact ⟨by first | rfl | (simp [errW_none, errW_some] <;> rfl) | (simp [*, errW_none, errW_some] <;> rfl), by repeat (first | (with_reducible first | exact HB.out | apply below_alloc | apply pw_below_drewN | apply below_drew1 | refine below_set ?_ GE153.out | refine below_set ?_ GE154.out | refine below_set ?_ GE167.out | refine below_set ?_ GE171.out) | exact HB.out)⟩
        · replace c58 := Bool.eq_false_iff.mpr c58
          subst c58
          have H1 : (some false) = some r := by rw [if_neg (show ¬ (false = true) by decide)] at H; exact H
          clear H
          have H := H1
          clear H1
          obtain rfl := Option.some.inj H
          go_enter Try.func6, Try.ntmps6
          try go_wp2_with (first | ((with_reducible refine gate_dst (N := 2) rfl ?_); refine box_event ?hg (N := 2) ?hd (cs := #[.slice A0_0 l0_0.length c0_0]) (t := 31) ?hr ?_; (case hd => rfl); (case hg => rfl); (case hr => first | (go_simp; done) | (go_simp; rfl)); intro gb153 hg w138 hbox hb; have n0_ := Aside0.mk (below_step (by repeat (first | (with_reducible first | exact HB.out | apply below_alloc | apply pw_below_drewN | apply below_drew1) | exact HB.out)) hb); have n1_ := Aside0.mk (hbox); have n2_ := Aside0.mk ((by rw [hg]; exact (below_size (by repeat (first | (with_reducible first | exact HB.out | apply below_alloc | apply pw_below_drewN | apply below_drew1) | exact HB.out))) : w.heap.size ≤ gb153)); have n3_ := Aside0.mk ((by rw [hg]; exact (below_size (by repeat (first | (with_reducible first | exact HB.out | apply below_alloc | apply pw_below_drewN | apply below_drew1) | exact HB.out))) : w.heap.size ≤ gb153)); clear HB; have HB := n0_; have BK153 := n1_; have GW153 := n2_; have GE153 := n3_; clear n0_ n1_ n2_ n3_; clear hb hbox hg) | ((with_reducible refine gate_dst (N := 3) rfl ?_); refine box_event ?hg (N := 3) ?hd (cs := #[.slice A1_0 l1_0.length c1_0]) (t := 31) ?hr ?_; (case hd => rfl); (case hg => rfl); (case hr => first | (go_simp; done) | (go_simp; rfl)); intro gb154 hg w139 hbox hb; have n0_ := Aside0.mk (blk_below (g := gb153) (o := .cells #[.slice A0_0 l0_0.length c0_0] 31 (0, 0)) (by (with_reducible repeat (first | refine blk_drewN ?_ _ | refine blk_drew ?_ | refine blk_alloc ?_ _)); exact BK153.out) hb); have n1_ := Aside0.mk (below_step (by repeat (first | (with_reducible first | exact HB.out | apply below_alloc | apply pw_below_drewN | apply below_drew1 | refine below_set ?_ GE153.out) | exact HB.out)) hb); have n2_ := Aside0.mk (hbox); have n3_ := Aside0.mk ((by rw [hg]; exact (below_size (by repeat (first | (with_reducible first | exact HB.out | apply below_alloc | apply pw_below_drewN | apply below_drew1 | refine below_set ?_ GE153.out) | exact HB.out))) : w.heap.size ≤ gb154)); have n4_ := Aside0.mk ((by rw [hg]; exact (below_size (by repeat (first | (with_reducible first | exact HB.out | apply below_alloc | apply pw_below_drewN | apply below_drew1 | refine below_set ?_ GE153.out) | exact HB.out))) : w.heap.size ≤ gb154)); have n5_ := Aside0.mk ((by rw [hg]; exact Nat.ne_of_lt (blk_lt (g := gb153) (o := .cells #[.slice A0_0 l0_0.length c0_0] 31 (0, 0)) (by (with_reducible repeat (first | refine blk_drewN ?_ _ | refine blk_drew ?_ | refine blk_alloc ?_ _)); exact BK153.out)) : gb153 ≠ gb154)); have n6_ := Aside0.mk ((by rw [hg]; exact Nat.ne_of_gt (blk_lt (g := gb153) (o := .cells #[.slice A0_0 l0_0.length c0_0] 31 (0, 0)) (by (with_reducible repeat (first | refine blk_drewN ?_ _ | refine blk_drew ?_ | refine blk_alloc ?_ _)); exact BK153.out)) : gb154 ≠ gb153)); clear BK153; clear HB; have BK153 := n0_; have HB := n1_; have BK154 := n2_; have GW154 := n3_; have GE154 := n4_; have NB153_154 := n5_; have NB154_153 := n6_; clear n0_ n1_ n2_ n3_ n4_ n5_ n6_; clear hb hbox hg; have hnb140 := NB153_154.out; have hnc140 := NB154_153.out; have hcz141_0 : w139.cell? ⟨gb153, 0, none⟩ = some (.slice A0_0 l0_0.length c0_0) := (blk_cell BK153.out 0).trans rfl; have hfz141_0 := blk_frozen BK153.out 0) | ((with_reducible refine gate_callee (f := 24) rfl ?_); refine goesL_ (some 12) rfl rfl Try.func24 (by kernel_rfl) rfl #[.agg #[.slice A0_0 l0_0.length c0_0], .int .i64 1048576] rfl (by (try simp only [List.map_toArray, List.map_cons, List.map_nil]); first | done | rfl | (simp only [List.length_drop, List.length_take]; rfl)) ?_; (with_reducible refine (laws_szTree.calls _ _ l0_0 1048576 t155 _ ?side1 ?side2 A3.out).mono ?_); (case side1 => repeat (first | exact (Kd.C_below HR0_0.out HB.out) | (with_reducible refine Kd.C_alloc ?_ _) | (with_reducible refine Kd.C_drewN ?_ _) | (with_reducible refine Kd.C_drew ?_))); (case side2 => exact HC0_0.out); rintro e w142 ⟨rfl, hb⟩; refine ⟨_, rfl, ?_⟩; have n0_ := Aside0.mk (blk_below (g := gb153) (o := .cells #[.slice A0_0 l0_0.length c0_0] 31 (0, 0)) (by (with_reducible repeat (first | refine blk_drewN ?_ _ | refine blk_drew ?_ | refine blk_alloc ?_ _)); exact BK153.out) hb); have n1_ := Aside0.mk (blk_below (g := gb154) (o := .cells #[.slice A1_0 l1_0.length c1_0] 31 (0, 0)) (by (with_reducible repeat (first | refine blk_drewN ?_ _ | refine blk_drew ?_ | refine blk_alloc ?_ _)); exact BK154.out) hb); have n2_ := Aside0.mk (below_step (by repeat (first | (with_reducible first | exact HB.out | apply below_alloc | apply pw_below_drewN | apply below_drew1 | refine below_set ?_ GE153.out | refine below_set ?_ GE154.out) | exact HB.out)) hb); clear BK153; clear BK154; clear HB; have BK153 := n0_; have BK154 := n1_; have HB := n2_; clear n0_ n1_ n2_; (try clear hb); (try clear hb2); (try clear hk); (try clear hi); have hcz143_0 : w142.cell? ⟨gb154, 0, none⟩ = some (.slice A1_0 l1_0.length c1_0) := (blk_cell BK154.out 0).trans rfl; have hfz143_0 := blk_frozen BK154.out 0) | ((with_reducible refine gate_callee (f := 24) rfl ?_); refine goesL_ (some 17) rfl rfl Try.func24 (by kernel_rfl) rfl #[.agg #[.slice A1_0 l1_0.length c1_0], .int .i64 t155] rfl (by (try simp only [List.map_toArray, List.map_cons, List.map_nil]); first | done | rfl | (simp only [List.length_drop, List.length_take]; rfl)) ?_; (with_reducible refine (laws_szTree.calls _ _ l1_0 t155 t156 _ ?side1 ?side2 A10.out).mono ?_); (case side1 => repeat (first | exact (Kd.C_below HR1_0.out HB.out) | (with_reducible refine Kd.C_alloc ?_ _) | (with_reducible refine Kd.C_drewN ?_ _) | (with_reducible refine Kd.C_drew ?_))); (case side2 => exact HC1_0.out); rintro e w144 ⟨rfl, hb⟩; refine ⟨_, rfl, ?_⟩; have n0_ := Aside0.mk (blk_below (g := gb153) (o := .cells #[.slice A0_0 l0_0.length c0_0] 31 (0, 0)) (by (with_reducible repeat (first | refine blk_drewN ?_ _ | refine blk_drew ?_ | refine blk_alloc ?_ _)); exact BK153.out) hb); have n1_ := Aside0.mk (blk_below (g := gb154) (o := .cells #[.slice A1_0 l1_0.length c1_0] 31 (0, 0)) (by (with_reducible repeat (first | refine blk_drewN ?_ _ | refine blk_drew ?_ | refine blk_alloc ?_ _)); exact BK154.out) hb); have n2_ := Aside0.mk (below_step (by repeat (first | (with_reducible first | exact HB.out | apply below_alloc | apply pw_below_drewN | apply below_drew1 | refine below_set ?_ GE153.out | refine below_set ?_ GE154.out) | exact HB.out)) hb); clear BK153; clear BK154; clear HB; have BK153 := n0_; have BK154 := n1_; have HB := n2_; clear n0_ n1_ n2_; (try clear hb); (try clear hb2); (try clear hk); (try clear hi)))
          have n0_ := Aside0.mk (blk_drew BK153.out)
          have n1_ := Aside0.mk (blk_drew BK154.out)
          have n2_ := Aside0.mk (below_drew1 HB.out)
          clear BK153
          clear BK154
          clear HB
          have BK153 := n0_
          have BK154 := n1_
          have HB := n2_
          clear n0_ n1_ n2_
          refine start_ (n := 6) (S := fun w' => w'.cell? ⟨gb153, 0, none⟩ = some (.slice A0_0 l0_0.length c0_0) ∧ w'.cell? ⟨gb154, 0, none⟩ = some (.slice A1_0 l1_0.length c1_0)) (ds := []) #[false, false, false, false, false, false] (by kernel_rfl) rfl rfl ⟨(blk_cell BK153.out 0).trans rfl, (blk_cell BK154.out 0).trans rfl⟩ (fun hHeld => ?_)
          generalize w144.drew = w145 at BK153 BK154 HB hHeld ⊢
          refine take_ (i := 0) (N := some 20) (v := ?_) (a' := ?_) #[true, false, false, false, false, false] rfl rfl (by kernel_rfl) (fun _ _ _ h => h) (Or.inl ⟨by rfl, ?_⟩) hHeld ?_ ?_
          rotate_left
          · rintro w' ⟨s0, s1⟩
            go_simp
            with_reducible rfl
          rotate_left
          · simp only [Act.put, List.setIfInBounds_toArray, List.set_cons_zero, List.set_cons_succ, i64_w, i32_w]
            rfl
          refine take_ (i := 2) (N := some 22) (v := ?_) (a' := ?_) #[true, false, true, false, false, false] rfl rfl (by kernel_rfl) (fun _ _ _ h => h) (Or.inl ⟨by rfl, ?_⟩) hHeld ?_ ?_
          rotate_left
          · rintro w' ⟨s0, s1⟩
            go_simp
            with_reducible rfl
          rotate_left
          · simp only [Act.put, List.setIfInBounds_toArray, List.set_cons_zero, List.set_cons_succ, i64_w, i32_w]
            rfl
          refine one_ (i := 1) (N := some 21) #[true, true, true, false, false, false] rfl rfl (by kernel_rfl) (by decide) (fun K hK => ?_)
          refine goes_ Try.func26 (by kernel_rfl) rfl #[.agg #[.slice A0_0 l0_0.length c0_0]] (by rfl) rfl rfl (by (try simp only [List.map_toArray, List.map_cons, List.map_nil]); first | done | rfl | (simp only [List.length_drop, List.length_take]; rfl)) ?_
          with_reducible refine (laws_toTree.calls k _ _ l0_0 t157 _ ?side1 ?side2 A19.out).mono ?_
          (case side1 => repeat (first | exact (Kd.C_below HR0_0.out HB.out) | (with_reducible refine Kd.C_alloc ?_ _) | (with_reducible refine Kd.C_drewN ?_ _) | (with_reducible refine Kd.C_drew ?_)))
          (case side2 => exact HC0_0.out)
          rintro e w146 ⟨v158, rfl, ho0, hb⟩
          refine ⟨_, rfl, ?_⟩
          have n0_ := Aside0.mk (Kd.R_lower ho0 (below_size (by repeat (first | (with_reducible first | exact HB.out | apply below_alloc | apply pw_below_drewN | apply below_drew1 | refine below_set ?_ GE153.out | refine below_set ?_ GE154.out) | exact HB.out))))
          have n1_ := Aside0.mk (blk_below (g := gb153) (o := .cells #[.slice A0_0 l0_0.length c0_0] 31 (0, 0)) (by (with_reducible repeat (first | refine blk_drewN ?_ _ | refine blk_drew ?_ | refine blk_alloc ?_ _)); exact BK153.out) hb)
          have n2_ := Aside0.mk (blk_below (g := gb154) (o := .cells #[.slice A1_0 l1_0.length c1_0] 31 (0, 0)) (by (with_reducible repeat (first | refine blk_drewN ?_ _ | refine blk_drew ?_ | refine blk_alloc ?_ _)); exact BK154.out) hb)
          have n3_ := Aside0.mk (below_step (by repeat (first | (with_reducible first | exact HB.out | apply below_alloc | apply pw_below_drewN | apply below_drew1 | refine below_set ?_ GE153.out | refine below_set ?_ GE154.out) | exact HB.out)) hb)
          clear BK153
          clear BK154
          clear HB
          have HO159 := n0_
          have BK153 := n1_
          have BK154 := n2_
          have HB := n3_
          clear n0_ n1_ n2_ n3_
          (try clear hb)
          (try clear hb2)
          (try clear hk)
          (try clear hi)
          (try clear ho0)
          refine hK.out _ _ ⟨(blk_cell BK153.out 0).trans rfl, (blk_cell BK154.out 0).trans rfl⟩ (fun hHeld => ?_)
          clear hK K
          refine norm_ (a' := ?_) ?_ ?_
          rotate_left
          · show Act.put _ (some 21) _ = _
            simp only [Act.put, List.setIfInBounds_toArray, List.set_cons_zero, List.set_cons_succ, i64_w, i32_w]
            rfl
          refine one_ (i := 3) (N := some 23) #[true, true, true, true, false, false] rfl rfl (by kernel_rfl) (by decide) (fun K hK => ?_)
          refine goes_ Try.func26 (by kernel_rfl) rfl #[.agg #[.slice A1_0 l1_0.length c1_0]] (by rfl) rfl rfl (by (try simp only [List.map_toArray, List.map_cons, List.map_nil]); first | done | rfl | (simp only [List.length_drop, List.length_take]; rfl)) ?_
          with_reducible refine (laws_toTree.calls k _ _ l1_0 t160 _ ?side1 ?side2 A20.out).mono ?_
          (case side1 => repeat (first | exact (Kd.C_below HR1_0.out HB.out) | (with_reducible refine Kd.C_alloc ?_ _) | (with_reducible refine Kd.C_drewN ?_ _) | (with_reducible refine Kd.C_drew ?_)))
          (case side2 => exact HC1_0.out)
          rintro e w147 ⟨v161, rfl, ho0, hb⟩
          refine ⟨_, rfl, ?_⟩
          have n0_ := Aside0.mk (Kd.R_elder' (by (with_reducible repeat (first | apply Kd.R_alloc | apply Kd.R_drewN | apply Kd.R_drew)); exact HO159.out) (Kd.R_base ho0) hb)
          have n1_ := Aside0.mk (Kd.R_lower (Kd.R_new' ho0 (Kd.R_lt (by (with_reducible repeat (first | apply Kd.R_alloc | apply Kd.R_drewN | apply Kd.R_drew)); exact HO159.out))) (below_size (by repeat (first | (with_reducible first | exact HB.out | apply below_alloc | apply pw_below_drewN | apply below_drew1 | refine below_set ?_ GE153.out | refine below_set ?_ GE154.out) | exact HB.out))))
          have n2_ := Aside0.mk (blk_below (g := gb153) (o := .cells #[.slice A0_0 l0_0.length c0_0] 31 (0, 0)) (by (with_reducible repeat (first | refine blk_drewN ?_ _ | refine blk_drew ?_ | refine blk_alloc ?_ _)); exact BK153.out) hb)
          have n3_ := Aside0.mk (blk_below (g := gb154) (o := .cells #[.slice A1_0 l1_0.length c1_0] 31 (0, 0)) (by (with_reducible repeat (first | refine blk_drewN ?_ _ | refine blk_drew ?_ | refine blk_alloc ?_ _)); exact BK154.out) hb)
          have n4_ := Aside0.mk (below_step (by repeat (first | (with_reducible first | exact HB.out | apply below_alloc | apply pw_below_drewN | apply below_drew1 | refine below_set ?_ GE153.out | refine below_set ?_ GE154.out) | exact HB.out)) hb)
          clear HO159
          clear BK153
          clear BK154
          clear HB
          have HO159 := n0_
          have HO162 := n1_
          have BK153 := n2_
          have BK154 := n3_
          have HB := n4_
          clear n0_ n1_ n2_ n3_ n4_
          (try clear hb)
          (try clear hb2)
          (try clear hk)
          (try clear hi)
          (try clear ho0)
          obtain ⟨Ao148, co148, eo148⟩ := Kd.R_slice HO159.out
          (first | subst eo148 | (injection eo148 with f1_ f2_ f3_; have f4_ := f1_.symm; have f5_ := f3_.symm; clear f1_ f2_ f3_; subst f4_; subst f5_))
          obtain ⟨Ao149, co149, eo149⟩ := Kd.R_slice HO162.out
          (first | subst eo149 | (injection eo149 with f1_ f2_ f3_; have f4_ := f1_.symm; have f5_ := f3_.symm; clear f1_ f2_ f3_; subst f4_; subst f5_))
          refine hK.out _ _ ⟨(blk_cell BK153.out 0).trans rfl, (blk_cell BK154.out 0).trans rfl⟩ (fun hHeld => ?_)
          clear hK K
          refine norm_ (a' := ?_) ?_ ?_
          rotate_left
          · show Act.put _ (some 23) _ = _
            simp only [Act.put, List.setIfInBounds_toArray, List.set_cons_zero, List.set_cons_succ, i64_w, i32_w]
            rfl
          refine one_ (i := 4) (N := some 24) #[true, true, true, true, true, false] rfl rfl (by kernel_rfl) (by decide) (fun K hK => ?_)
          refine goes_ Try.func25 (by kernel_rfl) rfl #[.agg #[.slice Ao148 t157.length co148], .agg #[.slice Ao149 t160.length co149]] (by rfl) rfl rfl (by (try simp only [List.map_toArray, List.map_cons, List.map_nil]); first | done | rfl | (simp only [List.length_drop, List.length_take]; rfl)) ?_
          with_reducible refine (spec_SameTree.calls k _ _ t157 _ _ t160 t163 _ ?side1 ?side2 ?side3 ?side4 A21.out).mono ?_
          (case side1 => repeat (first | exact (Kd.R_reads' HO159.out).2.2 | (with_reducible refine Kd.C_alloc ?_ _) | (with_reducible refine Kd.C_drewN ?_ _) | (with_reducible refine Kd.C_drew ?_)))
          (case side2 => exact (Kd.R_reads' HO159.out).2.1)
          (case side3 => repeat (first | exact (Kd.R_reads' HO162.out).2.2 | (with_reducible refine Kd.C_alloc ?_ _) | (with_reducible refine Kd.C_drewN ?_ _) | (with_reducible refine Kd.C_drew ?_)))
          (case side4 => exact (Kd.R_reads' HO162.out).2.1)
          rintro e w150 ⟨rfl, hb⟩
          refine ⟨_, rfl, ?_⟩
          have n0_ := Aside0.mk (Kd.R_below (by (with_reducible repeat (first | apply Kd.R_alloc | apply Kd.R_drewN | apply Kd.R_drew)); exact HO159.out) hb)
          have n1_ := Aside0.mk (Kd.R_below (by (with_reducible repeat (first | apply Kd.R_alloc | apply Kd.R_drewN | apply Kd.R_drew)); exact HO162.out) hb)
          have n2_ := Aside0.mk (blk_below (g := gb153) (o := .cells #[.slice A0_0 l0_0.length c0_0] 31 (0, 0)) (by (with_reducible repeat (first | refine blk_drewN ?_ _ | refine blk_drew ?_ | refine blk_alloc ?_ _)); exact BK153.out) hb)
          have n3_ := Aside0.mk (blk_below (g := gb154) (o := .cells #[.slice A1_0 l1_0.length c1_0] 31 (0, 0)) (by (with_reducible repeat (first | refine blk_drewN ?_ _ | refine blk_drew ?_ | refine blk_alloc ?_ _)); exact BK154.out) hb)
          have n4_ := Aside0.mk (below_step (by repeat (first | (with_reducible first | exact HB.out | apply below_alloc | apply pw_below_drewN | apply below_drew1 | refine below_set ?_ GE153.out | refine below_set ?_ GE154.out) | exact HB.out)) hb)
          clear HO159
          clear HO162
          clear BK153
          clear BK154
          clear HB
          have HO159 := n0_
          have HO162 := n1_
          have BK153 := n2_
          have BK154 := n3_
          have HB := n4_
          clear n0_ n1_ n2_ n3_ n4_
          (try clear hb)
          (try clear hb2)
          (try clear hk)
          (try clear hi)
          refine hK.out _ _ ⟨(blk_cell BK153.out 0).trans rfl, (blk_cell BK154.out 0).trans rfl⟩ (fun hHeld => ?_)
          clear hK K
          refine norm_ (a' := ?_) ?_ ?_
          rotate_left
          · show Act.put _ (some 24) _ = _
            simp only [Act.put, List.setIfInBounds_toArray, List.set_cons_zero, List.set_cons_succ, i64_w, i32_w]
            rfl
          refine pure_ (i := 5) (N := some 6) (v := ?_) (a' := ?_) #[true, true, true, true, true, true] rfl rfl (by kernel_rfl) (fun _ _ _ h => h) (Or.inl ⟨by rfl, ?_⟩) ?_ ?_
          rotate_left
          · intro w'
            go_simp
            with_reducible rfl
          rotate_left
          · simp only [Act.put, List.setIfInBounds_toArray, List.set_cons_zero, List.set_cons_succ, i64_w, i32_w]
            rfl
          refine done_ (by kernel_rfl) ?_
          have hcz151_0 : w150.cell? ⟨gb153, 0, none⟩ = some (.slice A0_0 l0_0.length c0_0) := (blk_cell BK153.out 0).trans rfl
          have hfz151_0 := blk_frozen BK153.out 0
          try go_wp2_with (first | ((with_reducible refine gate_callee (f := 26) rfl ?_); refine goesL_ (some 26) rfl rfl Try.func26 (by kernel_rfl) rfl #[.agg #[.slice A0_0 l0_0.length c0_0]] rfl (by (try simp only [List.map_toArray, List.map_cons, List.map_nil]); first | done | rfl | (simp only [List.length_drop, List.length_take]; rfl)) ?_; (with_reducible refine (laws_toTree.calls k _ _ l0_0 t164 _ ?side1 ?side2 A22.out).mono ?_); (case side1 => repeat (first | exact (Kd.C_below HR0_0.out HB.out) | (with_reducible refine Kd.C_alloc ?_ _) | (with_reducible refine Kd.C_drewN ?_ _) | (with_reducible refine Kd.C_drew ?_))); (case side2 => exact HC0_0.out); rintro e w152 ⟨v165, rfl, ho0, hb⟩; refine ⟨_, rfl, ?_⟩; have n0_ := Aside0.mk (Kd.R_elder' (by (with_reducible repeat (first | apply Kd.R_alloc | apply Kd.R_drewN | apply Kd.R_drew)); exact HO159.out) (Kd.R_base ho0) hb); have n1_ := Aside0.mk (Kd.R_elder' (by (with_reducible repeat (first | apply Kd.R_alloc | apply Kd.R_drewN | apply Kd.R_drew)); exact HO162.out) (Kd.R_base ho0) hb); have n2_ := Aside0.mk (Kd.R_lower (Kd.R_new' (Kd.R_new' ho0 (Kd.R_lt (by (with_reducible repeat (first | apply Kd.R_alloc | apply Kd.R_drewN | apply Kd.R_drew)); exact HO159.out))) (Kd.R_lt (by (with_reducible repeat (first | apply Kd.R_alloc | apply Kd.R_drewN | apply Kd.R_drew)); exact HO162.out))) (below_size (by repeat (first | (with_reducible first | exact HB.out | apply below_alloc | apply pw_below_drewN | apply below_drew1 | refine below_set ?_ GE153.out | refine below_set ?_ GE154.out) | exact HB.out)))); have n3_ := Aside0.mk (blk_below (g := gb153) (o := .cells #[.slice A0_0 l0_0.length c0_0] 31 (0, 0)) (by (with_reducible repeat (first | refine blk_drewN ?_ _ | refine blk_drew ?_ | refine blk_alloc ?_ _)); exact BK153.out) hb); have n4_ := Aside0.mk (blk_below (g := gb154) (o := .cells #[.slice A1_0 l1_0.length c1_0] 31 (0, 0)) (by (with_reducible repeat (first | refine blk_drewN ?_ _ | refine blk_drew ?_ | refine blk_alloc ?_ _)); exact BK154.out) hb); have n5_ := Aside0.mk (below_step (by repeat (first | (with_reducible first | exact HB.out | apply below_alloc | apply pw_below_drewN | apply below_drew1 | refine below_set ?_ GE153.out | refine below_set ?_ GE154.out) | exact HB.out)) hb); clear HO159; clear HO162; clear BK153; clear BK154; clear HB; have HO159 := n0_; have HO162 := n1_; have HO166 := n2_; have BK153 := n3_; have BK154 := n4_; have HB := n5_; clear n0_ n1_ n2_ n3_ n4_ n5_; (try clear hb); (try clear hb2); (try clear hk); (try clear hi); (try clear ho0)) | ((with_reducible refine gate_dst (N := 7) rfl ?_); refine box_event ?hg (N := 7) ?hd (cs := #[.slice none 0 0]) (t := 24) ?hr ?_; (case hd => rfl); (case hg => rfl); (case hr => first | (go_simp; done) | (go_simp; rfl)); intro gb167 hg w153 hbox hb; have n0_ := Aside0.mk (Kd.R_below (by (with_reducible repeat (first | apply Kd.R_alloc | apply Kd.R_drewN | apply Kd.R_drew)); exact HO159.out) hb); have n1_ := Aside0.mk (Kd.R_below (by (with_reducible repeat (first | apply Kd.R_alloc | apply Kd.R_drewN | apply Kd.R_drew)); exact HO162.out) hb); have n2_ := Aside0.mk (Kd.R_below (by (with_reducible repeat (first | apply Kd.R_alloc | apply Kd.R_drewN | apply Kd.R_drew)); exact HO166.out) hb); have n3_ := Aside0.mk (blk_below (g := gb153) (o := .cells #[.slice A0_0 l0_0.length c0_0] 31 (0, 0)) (by (with_reducible repeat (first | refine blk_drewN ?_ _ | refine blk_drew ?_ | refine blk_alloc ?_ _)); exact BK153.out) hb); have n4_ := Aside0.mk (blk_below (g := gb154) (o := .cells #[.slice A1_0 l1_0.length c1_0] 31 (0, 0)) (by (with_reducible repeat (first | refine blk_drewN ?_ _ | refine blk_drew ?_ | refine blk_alloc ?_ _)); exact BK154.out) hb); have n5_ := Aside0.mk (below_step (by repeat (first | (with_reducible first | exact HB.out | apply below_alloc | apply pw_below_drewN | apply below_drew1 | refine below_set ?_ GE153.out | refine below_set ?_ GE154.out) | exact HB.out)) hb); have n6_ := Aside0.mk (hbox); have n7_ := Aside0.mk ((by rw [hg]; exact (below_size (by repeat (first | (with_reducible first | exact HB.out | apply below_alloc | apply pw_below_drewN | apply below_drew1 | refine below_set ?_ GE153.out | refine below_set ?_ GE154.out) | exact HB.out))) : w.heap.size ≤ gb167)); have n8_ := Aside0.mk ((by rw [hg]; exact (below_size (by repeat (first | (with_reducible first | exact HB.out | apply below_alloc | apply pw_below_drewN | apply below_drew1 | refine below_set ?_ GE153.out | refine below_set ?_ GE154.out) | exact HB.out))) : w.heap.size ≤ gb167)); have n9_ := Aside0.mk ((by rw [hg]; exact Nat.ne_of_lt (blk_lt (g := gb153) (o := .cells #[.slice A0_0 l0_0.length c0_0] 31 (0, 0)) (by (with_reducible repeat (first | refine blk_drewN ?_ _ | refine blk_drew ?_ | refine blk_alloc ?_ _)); exact BK153.out)) : gb153 ≠ gb167)); have n10_ := Aside0.mk ((by rw [hg]; exact Nat.ne_of_gt (blk_lt (g := gb153) (o := .cells #[.slice A0_0 l0_0.length c0_0] 31 (0, 0)) (by (with_reducible repeat (first | refine blk_drewN ?_ _ | refine blk_drew ?_ | refine blk_alloc ?_ _)); exact BK153.out)) : gb167 ≠ gb153)); have n11_ := Aside0.mk ((by rw [hg]; exact Nat.ne_of_lt (blk_lt (g := gb154) (o := .cells #[.slice A1_0 l1_0.length c1_0] 31 (0, 0)) (by (with_reducible repeat (first | refine blk_drewN ?_ _ | refine blk_drew ?_ | refine blk_alloc ?_ _)); exact BK154.out)) : gb154 ≠ gb167)); have n12_ := Aside0.mk ((by rw [hg]; exact Nat.ne_of_gt (blk_lt (g := gb154) (o := .cells #[.slice A1_0 l1_0.length c1_0] 31 (0, 0)) (by (with_reducible repeat (first | refine blk_drewN ?_ _ | refine blk_drew ?_ | refine blk_alloc ?_ _)); exact BK154.out)) : gb167 ≠ gb154)); clear HO159; clear HO162; clear HO166; clear BK153; clear BK154; clear HB; have HO159 := n0_; have HO162 := n1_; have HO166 := n2_; have BK153 := n3_; have BK154 := n4_; have HB := n5_; have BK167 := n6_; have GW167 := n7_; have GE167 := n8_; have NB153_167 := n9_; have NB167_153 := n10_; have NB154_167 := n11_; have NB167_154 := n12_; clear n0_ n1_ n2_ n3_ n4_ n5_ n6_ n7_ n8_ n9_ n10_ n11_ n12_; clear hb hbox hg; obtain ⟨Ao154, co154, eo154⟩ := Kd.R_slice HO166.out; subst eo154; have hnb155 := NB167_153.out; have hnc155 := NB153_167.out; have hnb156 := NB167_154.out; have hnc156 := NB154_167.out; have hcz157_0 : w153.cell? ⟨gb167, 0, none⟩ = some (.slice none 0 0) := (blk_cell BK167.out 0).trans rfl; have hfz157_0 := blk_frozen BK167.out 0; have hcz158_0 : w153.cell? ⟨gb154, 0, none⟩ = some (.slice A1_0 l1_0.length c1_0) := (blk_cell BK154.out 0).trans rfl; have hfz158_0 := blk_frozen BK154.out 0) | ((with_reducible refine gate_callee (f := 26) rfl ?_); refine goesL_ (some 28) rfl rfl Try.func26 (by kernel_rfl) rfl #[.agg #[.slice A1_0 l1_0.length c1_0]] rfl (by (try simp only [List.map_toArray, List.map_cons, List.map_nil]); first | done | rfl | (simp only [List.length_drop, List.length_take]; rfl)) ?_; (with_reducible refine (laws_toTree.calls k _ _ l1_0 t168 _ ?side1 ?side2 A23.out).mono ?_); (case side1 => exact Kd.C_below HR1_0.out (by repeat (first | (with_reducible first | exact HB.out | apply below_alloc | apply pw_below_drewN | apply below_drew1 | refine below_set ?_ GE153.out | refine below_set ?_ GE154.out | refine below_set ?_ GE167.out) | exact HB.out))); (case side2 => exact HC1_0.out); rintro e w159 ⟨v169, rfl, ho0, hb⟩; refine ⟨_, rfl, ?_⟩; have n0_ := Aside0.mk (Kd.R_elder' (by (with_reducible repeat (first | apply Kd.R_alloc | apply Kd.R_drewN | apply Kd.R_drew)); exact (Kd.R_mono (Kd.R_far (p := ⟨gb167, 0, none⟩) (Kd.R_types HO159.out BK167.out (by decide)) (fun _ hk => hk.2) (.slice Ao154 t164.length co154)) (fun _ h_ => h_.1))) (Kd.R_base ho0) hb); have n1_ := Aside0.mk (Kd.R_elder' (by (with_reducible repeat (first | apply Kd.R_alloc | apply Kd.R_drewN | apply Kd.R_drew)); exact (Kd.R_mono (Kd.R_far (p := ⟨gb167, 0, none⟩) (Kd.R_types HO162.out BK167.out (by decide)) (fun _ hk => hk.2) (.slice Ao154 t164.length co154)) (fun _ h_ => h_.1))) (Kd.R_base ho0) hb); have n2_ := Aside0.mk (Kd.R_elder' (by (with_reducible repeat (first | apply Kd.R_alloc | apply Kd.R_drewN | apply Kd.R_drew)); exact (Kd.R_mono (Kd.R_far (p := ⟨gb167, 0, none⟩) (Kd.R_types HO166.out BK167.out (by decide)) (fun _ hk => hk.2) (.slice Ao154 t164.length co154)) (fun _ h_ => h_.1))) (Kd.R_base ho0) hb); have n3_ := Aside0.mk (Kd.R_lower (Kd.R_new' (Kd.R_new' (Kd.R_new' ho0 (Kd.R_lt (by (with_reducible repeat (first | apply Kd.R_alloc | apply Kd.R_drewN | apply Kd.R_drew)); exact (Kd.R_mono (Kd.R_far (p := ⟨gb167, 0, none⟩) (Kd.R_types HO159.out BK167.out (by decide)) (fun _ hk => hk.2) (.slice Ao154 t164.length co154)) (fun _ h_ => h_.1))))) (Kd.R_lt (by (with_reducible repeat (first | apply Kd.R_alloc | apply Kd.R_drewN | apply Kd.R_drew)); exact (Kd.R_mono (Kd.R_far (p := ⟨gb167, 0, none⟩) (Kd.R_types HO162.out BK167.out (by decide)) (fun _ hk => hk.2) (.slice Ao154 t164.length co154)) (fun _ h_ => h_.1))))) (Kd.R_lt (by (with_reducible repeat (first | apply Kd.R_alloc | apply Kd.R_drewN | apply Kd.R_drew)); exact (Kd.R_mono (Kd.R_far (p := ⟨gb167, 0, none⟩) (Kd.R_types HO166.out BK167.out (by decide)) (fun _ hk => hk.2) (.slice Ao154 t164.length co154)) (fun _ h_ => h_.1))))) (below_size (by repeat (first | (with_reducible first | exact HB.out | apply below_alloc | apply pw_below_drewN | apply below_drew1 | refine below_set ?_ GE153.out | refine below_set ?_ GE154.out | refine below_set ?_ GE167.out) | exact HB.out)))); have n4_ := Aside0.mk (blk_below (g := gb153) (o := .cells #[.slice A0_0 l0_0.length c0_0] 31 (0, 0)) (by (with_reducible repeat (first | refine blk_drewN ?_ _ | refine blk_drew ?_ | refine blk_alloc ?_ _)); refine blk_far ?_ NB153_167.out _; (with_reducible repeat (first | refine blk_drewN ?_ _ | refine blk_drew ?_ | refine blk_alloc ?_ _)); exact BK153.out) hb); have n5_ := Aside0.mk (blk_below (g := gb154) (o := .cells #[.slice A1_0 l1_0.length c1_0] 31 (0, 0)) (by (with_reducible repeat (first | refine blk_drewN ?_ _ | refine blk_drew ?_ | refine blk_alloc ?_ _)); refine blk_far ?_ NB154_167.out _; (with_reducible repeat (first | refine blk_drewN ?_ _ | refine blk_drew ?_ | refine blk_alloc ?_ _)); exact BK154.out) hb); have n6_ := Aside0.mk (blk_below (g := gb167) (o := .cells #[.slice Ao154 t164.length co154] 24 (0, 0)) (by (with_reducible repeat (first | refine blk_drewN ?_ _ | refine blk_drew ?_ | refine blk_alloc ?_ _)); refine blk_put (cs := #[.slice none 0 0]) ?_ 0 _ rfl; (with_reducible repeat (first | refine blk_drewN ?_ _ | refine blk_drew ?_ | refine blk_alloc ?_ _)); exact BK167.out) hb); have n7_ := Aside0.mk (below_step (by repeat (first | (with_reducible first | exact HB.out | apply below_alloc | apply pw_below_drewN | apply below_drew1 | refine below_set ?_ GE153.out | refine below_set ?_ GE154.out | refine below_set ?_ GE167.out) | exact HB.out)) hb); clear HO159; clear HO162; clear HO166; clear BK153; clear BK154; clear BK167; clear HB; have HO159 := n0_; have HO162 := n1_; have HO166 := n2_; have HO170 := n3_; have BK153 := n4_; have BK154 := n5_; have BK167 := n6_; have HB := n7_; clear n0_ n1_ n2_ n3_ n4_ n5_ n6_ n7_; (try clear hb); (try clear hb2); (try clear hk); (try clear hi); (try clear ho0)) | ((with_reducible refine gate_dst (N := 8) rfl ?_); refine box_event ?hg (N := 8) ?hd (cs := #[.slice none 0 0]) (t := 24) ?hr ?_; (case hd => rfl); (case hg => rfl); (case hr => first | (go_simp; done) | (go_simp; rfl)); intro gb171 hg w160 hbox hb; have n0_ := Aside0.mk (Kd.R_below (by (with_reducible repeat (first | apply Kd.R_alloc | apply Kd.R_drewN | apply Kd.R_drew)); exact HO159.out) hb); have n1_ := Aside0.mk (Kd.R_below (by (with_reducible repeat (first | apply Kd.R_alloc | apply Kd.R_drewN | apply Kd.R_drew)); exact HO162.out) hb); have n2_ := Aside0.mk (Kd.R_below (by (with_reducible repeat (first | apply Kd.R_alloc | apply Kd.R_drewN | apply Kd.R_drew)); exact HO166.out) hb); have n3_ := Aside0.mk (Kd.R_below (by (with_reducible repeat (first | apply Kd.R_alloc | apply Kd.R_drewN | apply Kd.R_drew)); exact HO170.out) hb); have n4_ := Aside0.mk (blk_below (g := gb153) (o := .cells #[.slice A0_0 l0_0.length c0_0] 31 (0, 0)) (by (with_reducible repeat (first | refine blk_drewN ?_ _ | refine blk_drew ?_ | refine blk_alloc ?_ _)); exact BK153.out) hb); have n5_ := Aside0.mk (blk_below (g := gb154) (o := .cells #[.slice A1_0 l1_0.length c1_0] 31 (0, 0)) (by (with_reducible repeat (first | refine blk_drewN ?_ _ | refine blk_drew ?_ | refine blk_alloc ?_ _)); exact BK154.out) hb); have n6_ := Aside0.mk (blk_below (g := gb167) (o := .cells #[.slice Ao154 t164.length co154] 24 (0, 0)) (by (with_reducible repeat (first | refine blk_drewN ?_ _ | refine blk_drew ?_ | refine blk_alloc ?_ _)); exact BK167.out) hb); have n7_ := Aside0.mk (below_step (by repeat (first | (with_reducible first | exact HB.out | apply below_alloc | apply pw_below_drewN | apply below_drew1 | refine below_set ?_ GE153.out | refine below_set ?_ GE154.out | refine below_set ?_ GE167.out) | exact HB.out)) hb); have n8_ := Aside0.mk (hbox); have n9_ := Aside0.mk ((by rw [hg]; exact (below_size (by repeat (first | (with_reducible first | exact HB.out | apply below_alloc | apply pw_below_drewN | apply below_drew1 | refine below_set ?_ GE153.out | refine below_set ?_ GE154.out | refine below_set ?_ GE167.out) | exact HB.out))) : w.heap.size ≤ gb171)); have n10_ := Aside0.mk ((by rw [hg]; exact (below_size (by repeat (first | (with_reducible first | exact HB.out | apply below_alloc | apply pw_below_drewN | apply below_drew1 | refine below_set ?_ GE153.out | refine below_set ?_ GE154.out | refine below_set ?_ GE167.out) | exact HB.out))) : w.heap.size ≤ gb171)); have n11_ := Aside0.mk ((by rw [hg]; exact Nat.ne_of_lt (blk_lt (g := gb153) (o := .cells #[.slice A0_0 l0_0.length c0_0] 31 (0, 0)) (by (with_reducible repeat (first | refine blk_drewN ?_ _ | refine blk_drew ?_ | refine blk_alloc ?_ _)); exact BK153.out)) : gb153 ≠ gb171)); have n12_ := Aside0.mk ((by rw [hg]; exact Nat.ne_of_gt (blk_lt (g := gb153) (o := .cells #[.slice A0_0 l0_0.length c0_0] 31 (0, 0)) (by (with_reducible repeat (first | refine blk_drewN ?_ _ | refine blk_drew ?_ | refine blk_alloc ?_ _)); exact BK153.out)) : gb171 ≠ gb153)); have n13_ := Aside0.mk ((by rw [hg]; exact Nat.ne_of_lt (blk_lt (g := gb154) (o := .cells #[.slice A1_0 l1_0.length c1_0] 31 (0, 0)) (by (with_reducible repeat (first | refine blk_drewN ?_ _ | refine blk_drew ?_ | refine blk_alloc ?_ _)); exact BK154.out)) : gb154 ≠ gb171)); have n14_ := Aside0.mk ((by rw [hg]; exact Nat.ne_of_gt (blk_lt (g := gb154) (o := .cells #[.slice A1_0 l1_0.length c1_0] 31 (0, 0)) (by (with_reducible repeat (first | refine blk_drewN ?_ _ | refine blk_drew ?_ | refine blk_alloc ?_ _)); exact BK154.out)) : gb171 ≠ gb154)); have n15_ := Aside0.mk ((by rw [hg]; exact Nat.ne_of_lt (blk_lt (g := gb167) (o := .cells #[.slice Ao154 t164.length co154] 24 (0, 0)) (by (with_reducible repeat (first | refine blk_drewN ?_ _ | refine blk_drew ?_ | refine blk_alloc ?_ _)); exact BK167.out)) : gb167 ≠ gb171)); have n16_ := Aside0.mk ((by rw [hg]; exact Nat.ne_of_gt (blk_lt (g := gb167) (o := .cells #[.slice Ao154 t164.length co154] 24 (0, 0)) (by (with_reducible repeat (first | refine blk_drewN ?_ _ | refine blk_drew ?_ | refine blk_alloc ?_ _)); exact BK167.out)) : gb171 ≠ gb167)); clear HO159; clear HO162; clear HO166; clear HO170; clear BK153; clear BK154; clear BK167; clear HB; have HO159 := n0_; have HO162 := n1_; have HO166 := n2_; have HO170 := n3_; have BK153 := n4_; have BK154 := n5_; have BK167 := n6_; have HB := n7_; have BK171 := n8_; have GW171 := n9_; have GE171 := n10_; have NB153_171 := n11_; have NB171_153 := n12_; have NB154_171 := n13_; have NB171_154 := n14_; have NB167_171 := n15_; have NB171_167 := n16_; clear n0_ n1_ n2_ n3_ n4_ n5_ n6_ n7_ n8_ n9_ n10_ n11_ n12_ n13_ n14_ n15_ n16_; clear hb hbox hg; obtain ⟨Ao161, co161, eo161⟩ := Kd.R_slice HO170.out; subst eo161; have hnb162 := NB171_153.out; have hnc162 := NB153_171.out; have hnb163 := NB171_154.out; have hnc163 := NB154_171.out; have hnb164 := NB171_167.out; have hnc164 := NB167_171.out; have hcz165_0 : w160.cell? ⟨gb171, 0, none⟩ = some (.slice none 0 0) := (blk_cell BK171.out 0).trans rfl; have hfz165_0 := blk_frozen BK171.out 0; have hcz166_0 : w160.cell? ⟨gb167, 0, none⟩ = some (.slice Ao154 t164.length co154) := (blk_cell BK167.out 0).trans rfl; have hfz166_0 := blk_frozen BK167.out 0) | ((with_reducible refine gate_callee (f := 27) rfl ?_); refine goesL_ (some 31) rfl rfl Try.func27 (by kernel_rfl) rfl #[.agg #[.slice Ao154 t164.length co154], .agg #[.slice Ao161 t168.length co161]] rfl (by (try simp only [List.map_toArray, List.map_cons, List.map_nil]); first | done | rfl | (simp only [List.length_drop, List.length_take]; rfl)) ?_; (with_reducible refine (impl_SameTree.calls k _ _ t164 _ _ t168 t172 _ ?side1 ?side2 ?side3 ?side4 A24.out).mono ?_); (case side1 => refine (Kd.R_reads' (e := 77) (base := w.heap.size) (ok := fun k_ => (((True ∧ some k_ ≠ (.slice Ao148 t157.length co148 : Value).ownBlock) ∧ some k_ ≠ (.slice Ao149 t160.length co149 : Value).ownBlock) ∧ some k_ ≠ (.slice Ao161 t168.length co161 : Value).ownBlock)) (n := t164.length) (c := co154) ?_).2.2; exact (by (with_reducible repeat (first | apply Kd.R_alloc | apply Kd.R_drewN | apply Kd.R_drew)); exact (Kd.R_mono (Kd.R_far (p := ⟨gb171, 0, none⟩) (Kd.R_types HO166.out BK171.out (by decide)) (fun _ hk => hk.2) (.slice Ao161 t168.length co161)) (fun _ h_ => h_.1)))); (case side2 => exact (Kd.R_reads' HO166.out).2.1); (case side3 => refine (Kd.R_reads' (e := 77) (base := w.heap.size) (ok := fun k_ => (((True ∧ some k_ ≠ (.slice Ao148 t157.length co148 : Value).ownBlock) ∧ some k_ ≠ (.slice Ao149 t160.length co149 : Value).ownBlock) ∧ some k_ ≠ (.slice Ao154 t164.length co154 : Value).ownBlock)) (n := t168.length) (c := co161) ?_).2.2; exact (by (with_reducible repeat (first | apply Kd.R_alloc | apply Kd.R_drewN | apply Kd.R_drew)); exact (Kd.R_mono (Kd.R_far (p := ⟨gb171, 0, none⟩) (Kd.R_types HO170.out BK171.out (by decide)) (fun _ hk => hk.2) (.slice Ao161 t168.length co161)) (fun _ h_ => h_.1)))); (case side4 => exact (Kd.R_reads' HO170.out).2.1); rintro e w167 ⟨rfl, hb⟩; refine ⟨_, rfl, ?_⟩; have n0_ := Aside0.mk (Kd.R_below (by (with_reducible repeat (first | apply Kd.R_alloc | apply Kd.R_drewN | apply Kd.R_drew)); exact (Kd.R_mono (Kd.R_far (p := ⟨gb171, 0, none⟩) (Kd.R_types HO159.out BK171.out (by decide)) (fun _ hk => hk.2) (.slice Ao161 t168.length co161)) (fun _ h_ => h_.1))) hb); have n1_ := Aside0.mk (Kd.R_below (by (with_reducible repeat (first | apply Kd.R_alloc | apply Kd.R_drewN | apply Kd.R_drew)); exact (Kd.R_mono (Kd.R_far (p := ⟨gb171, 0, none⟩) (Kd.R_types HO162.out BK171.out (by decide)) (fun _ hk => hk.2) (.slice Ao161 t168.length co161)) (fun _ h_ => h_.1))) hb); have n2_ := Aside0.mk (Kd.R_below (by (with_reducible repeat (first | apply Kd.R_alloc | apply Kd.R_drewN | apply Kd.R_drew)); exact (Kd.R_mono (Kd.R_far (p := ⟨gb171, 0, none⟩) (Kd.R_types HO166.out BK171.out (by decide)) (fun _ hk => hk.2) (.slice Ao161 t168.length co161)) (fun _ h_ => h_.1))) hb); have n3_ := Aside0.mk (Kd.R_below (by (with_reducible repeat (first | apply Kd.R_alloc | apply Kd.R_drewN | apply Kd.R_drew)); exact (Kd.R_mono (Kd.R_far (p := ⟨gb171, 0, none⟩) (Kd.R_types HO170.out BK171.out (by decide)) (fun _ hk => hk.2) (.slice Ao161 t168.length co161)) (fun _ h_ => h_.1))) hb); have n4_ := Aside0.mk (blk_below (g := gb153) (o := .cells #[.slice A0_0 l0_0.length c0_0] 31 (0, 0)) (by (with_reducible repeat (first | refine blk_drewN ?_ _ | refine blk_drew ?_ | refine blk_alloc ?_ _)); refine blk_far ?_ NB153_171.out _; (with_reducible repeat (first | refine blk_drewN ?_ _ | refine blk_drew ?_ | refine blk_alloc ?_ _)); exact BK153.out) hb); have n5_ := Aside0.mk (blk_below (g := gb154) (o := .cells #[.slice A1_0 l1_0.length c1_0] 31 (0, 0)) (by (with_reducible repeat (first | refine blk_drewN ?_ _ | refine blk_drew ?_ | refine blk_alloc ?_ _)); refine blk_far ?_ NB154_171.out _; (with_reducible repeat (first | refine blk_drewN ?_ _ | refine blk_drew ?_ | refine blk_alloc ?_ _)); exact BK154.out) hb); have n6_ := Aside0.mk (blk_below (g := gb167) (o := .cells #[.slice Ao154 t164.length co154] 24 (0, 0)) (by (with_reducible repeat (first | refine blk_drewN ?_ _ | refine blk_drew ?_ | refine blk_alloc ?_ _)); refine blk_far ?_ NB167_171.out _; (with_reducible repeat (first | refine blk_drewN ?_ _ | refine blk_drew ?_ | refine blk_alloc ?_ _)); exact BK167.out) hb); have n7_ := Aside0.mk (blk_below (g := gb171) (o := .cells #[.slice Ao161 t168.length co161] 24 (0, 0)) (by (with_reducible repeat (first | refine blk_drewN ?_ _ | refine blk_drew ?_ | refine blk_alloc ?_ _)); refine blk_put (cs := #[.slice none 0 0]) ?_ 0 _ rfl; (with_reducible repeat (first | refine blk_drewN ?_ _ | refine blk_drew ?_ | refine blk_alloc ?_ _)); exact BK171.out) hb); have n8_ := Aside0.mk (below_step (by repeat (first | (with_reducible first | exact HB.out | apply below_alloc | apply pw_below_drewN | apply below_drew1 | refine below_set ?_ GE153.out | refine below_set ?_ GE154.out | refine below_set ?_ GE167.out | refine below_set ?_ GE171.out) | exact HB.out)) hb); clear HO159; clear HO162; clear HO166; clear HO170; clear BK153; clear BK154; clear BK167; clear BK171; clear HB; have HO159 := n0_; have HO162 := n1_; have HO166 := n2_; have HO170 := n3_; have BK153 := n4_; have BK154 := n5_; have BK167 := n6_; have BK171 := n7_; have HB := n8_; clear n0_ n1_ n2_ n3_ n4_ n5_ n6_ n7_ n8_; (try clear hb); (try clear hb2); (try clear hk); (try clear hi)))
          have n0_ := Aside0.mk (Kd.R_drew HO159.out)
          have n1_ := Aside0.mk (Kd.R_drew HO162.out)
          have n2_ := Aside0.mk (Kd.R_drew HO166.out)
          have n3_ := Aside0.mk (Kd.R_drew HO170.out)
          have n4_ := Aside0.mk (blk_drew BK153.out)
          have n5_ := Aside0.mk (blk_drew BK154.out)
          have n6_ := Aside0.mk (blk_drew BK167.out)
          have n7_ := Aside0.mk (blk_drew BK171.out)
          have n8_ := Aside0.mk (below_drew1 HB.out)
          clear HO159
          clear HO162
          clear HO166
          clear HO170
          clear BK153
          clear BK154
          clear BK167
          clear BK171
          clear HB
          have HO159 := n0_
          have HO162 := n1_
          have HO166 := n2_
          have HO170 := n3_
          have BK153 := n4_
          have BK154 := n5_
          have BK167 := n6_
          have BK171 := n7_
          have HB := n8_
          clear n0_ n1_ n2_ n3_ n4_ n5_ n6_ n7_ n8_
          refine start_ (n := 5) (S := fun w' => w'.cell? ⟨gb167, 0, none⟩ = some (.slice Ao154 t164.length co154) ∧ w'.cell? ⟨gb153, 0, none⟩ = some (.slice A0_0 l0_0.length c0_0)) (ds := []) #[false, false, false, false, false] (by kernel_rfl) rfl rfl ⟨(blk_cell BK167.out 0).trans rfl, (blk_cell BK153.out 0).trans rfl⟩ (fun hHeld => ?_)
          generalize w167.drew = w168 at HO159 HO162 HO166 HO170 BK153 BK154 BK167 BK171 HB hHeld ⊢
          refine take_ (i := 0) (N := some 35) (v := ?_) (a' := ?_) #[true, false, false, false, false] rfl rfl (by kernel_rfl) (fun _ _ _ h => h) (Or.inl ⟨by rfl, ?_⟩) hHeld ?_ ?_
          rotate_left
          · rintro w' ⟨s0, s1⟩
            go_simp
            with_reducible rfl
          rotate_left
          · simp only [Act.put, List.setIfInBounds_toArray, List.set_cons_zero, List.set_cons_succ, i64_w, i32_w]
            rfl
          refine take_ (i := 1) (N := some 36) (v := ?_) (a' := ?_) #[true, true, false, false, false] rfl rfl (by kernel_rfl) (fun _ _ _ h => h) (Or.inl ⟨by rfl, ?_⟩) hHeld ?_ ?_
          rotate_left
          · rintro w' ⟨s0, s1⟩
            go_simp
            with_reducible rfl
          rotate_left
          · simp only [Act.put, List.setIfInBounds_toArray, List.set_cons_zero, List.set_cons_succ, i64_w, i32_w]
            rfl
          refine one_ (i := 2) (N := some 37) #[true, true, true, false, false] rfl rfl (by kernel_rfl) (by decide) (fun K hK => ?_)
          refine goes_ Try.func26 (by kernel_rfl) rfl #[.agg #[.slice A0_0 l0_0.length c0_0]] (by rfl) rfl rfl (by (try simp only [List.map_toArray, List.map_cons, List.map_nil]); first | done | rfl | (simp only [List.length_drop, List.length_take]; rfl)) ?_
          with_reducible refine (laws_toTree.calls k _ _ l0_0 t173 _ ?side1 ?side2 A56.out).mono ?_
          (case side1 => repeat (first | exact (Kd.C_below HR0_0.out HB.out) | (with_reducible refine Kd.C_alloc ?_ _) | (with_reducible refine Kd.C_drewN ?_ _) | (with_reducible refine Kd.C_drew ?_)))
          (case side2 => exact HC0_0.out)
          rintro e w169 ⟨v174, rfl, ho0, hb⟩
          refine ⟨_, rfl, ?_⟩
          have n0_ := Aside0.mk (Kd.R_elder' (by (with_reducible repeat (first | apply Kd.R_alloc | apply Kd.R_drewN | apply Kd.R_drew)); exact HO159.out) (Kd.R_base ho0) hb)
          have n1_ := Aside0.mk (Kd.R_elder' (by (with_reducible repeat (first | apply Kd.R_alloc | apply Kd.R_drewN | apply Kd.R_drew)); exact HO162.out) (Kd.R_base ho0) hb)
          have n2_ := Aside0.mk (Kd.R_elder' (by (with_reducible repeat (first | apply Kd.R_alloc | apply Kd.R_drewN | apply Kd.R_drew)); exact HO166.out) (Kd.R_base ho0) hb)
          have n3_ := Aside0.mk (Kd.R_elder' (by (with_reducible repeat (first | apply Kd.R_alloc | apply Kd.R_drewN | apply Kd.R_drew)); exact HO170.out) (Kd.R_base ho0) hb)
          have n4_ := Aside0.mk (Kd.R_lower (Kd.R_new' (Kd.R_new' (Kd.R_new' (Kd.R_new' ho0 (Kd.R_lt (by (with_reducible repeat (first | apply Kd.R_alloc | apply Kd.R_drewN | apply Kd.R_drew)); exact HO159.out))) (Kd.R_lt (by (with_reducible repeat (first | apply Kd.R_alloc | apply Kd.R_drewN | apply Kd.R_drew)); exact HO162.out))) (Kd.R_lt (by (with_reducible repeat (first | apply Kd.R_alloc | apply Kd.R_drewN | apply Kd.R_drew)); exact HO166.out))) (Kd.R_lt (by (with_reducible repeat (first | apply Kd.R_alloc | apply Kd.R_drewN | apply Kd.R_drew)); exact HO170.out))) (below_size (by repeat (first | (with_reducible first | exact HB.out | apply below_alloc | apply pw_below_drewN | apply below_drew1 | refine below_set ?_ GE153.out | refine below_set ?_ GE154.out | refine below_set ?_ GE167.out | refine below_set ?_ GE171.out) | exact HB.out))))
          have n5_ := Aside0.mk (blk_below (g := gb153) (o := .cells #[.slice A0_0 l0_0.length c0_0] 31 (0, 0)) (by (with_reducible repeat (first | refine blk_drewN ?_ _ | refine blk_drew ?_ | refine blk_alloc ?_ _)); exact BK153.out) hb)
          have n6_ := Aside0.mk (blk_below (g := gb154) (o := .cells #[.slice A1_0 l1_0.length c1_0] 31 (0, 0)) (by (with_reducible repeat (first | refine blk_drewN ?_ _ | refine blk_drew ?_ | refine blk_alloc ?_ _)); exact BK154.out) hb)
          have n7_ := Aside0.mk (blk_below (g := gb167) (o := .cells #[.slice Ao154 t164.length co154] 24 (0, 0)) (by (with_reducible repeat (first | refine blk_drewN ?_ _ | refine blk_drew ?_ | refine blk_alloc ?_ _)); exact BK167.out) hb)
          have n8_ := Aside0.mk (blk_below (g := gb171) (o := .cells #[.slice Ao161 t168.length co161] 24 (0, 0)) (by (with_reducible repeat (first | refine blk_drewN ?_ _ | refine blk_drew ?_ | refine blk_alloc ?_ _)); exact BK171.out) hb)
          have n9_ := Aside0.mk (below_step (by repeat (first | (with_reducible first | exact HB.out | apply below_alloc | apply pw_below_drewN | apply below_drew1 | refine below_set ?_ GE153.out | refine below_set ?_ GE154.out | refine below_set ?_ GE167.out | refine below_set ?_ GE171.out) | exact HB.out)) hb)
          clear HO159
          clear HO162
          clear HO166
          clear HO170
          clear BK153
          clear BK154
          clear BK167
          clear BK171
          clear HB
          have HO159 := n0_
          have HO162 := n1_
          have HO166 := n2_
          have HO170 := n3_
          have HO175 := n4_
          have BK153 := n5_
          have BK154 := n6_
          have BK167 := n7_
          have BK171 := n8_
          have HB := n9_
          clear n0_ n1_ n2_ n3_ n4_ n5_ n6_ n7_ n8_ n9_
          (try clear hb)
          (try clear hb2)
          (try clear hk)
          (try clear hi)
          (try clear ho0)
          obtain ⟨Ao170, co170, eo170⟩ := Kd.R_slice HO175.out
          (first | subst eo170 | (injection eo170 with f1_ f2_ f3_; have f4_ := f1_.symm; have f5_ := f3_.symm; clear f1_ f2_ f3_; subst f4_; subst f5_))
          refine hK.out _ _ ⟨(blk_cell BK167.out 0).trans rfl, (blk_cell BK153.out 0).trans rfl⟩ (fun hHeld => ?_)
          clear hK K
          refine norm_ (a' := ?_) ?_ ?_
          rotate_left
          · show Act.put _ (some 37) _ = _
            simp only [Act.put, List.setIfInBounds_toArray, List.set_cons_zero, List.set_cons_succ, i64_w, i32_w]
            rfl
          refine one_ (i := 3) (N := some 38) #[true, true, true, true, false] rfl rfl (by kernel_rfl) (by decide) (fun K hK => ?_)
          refine goes_ Try.func17 (by kernel_rfl) rfl #[.agg #[.slice Ao154 t164.length co154], .agg #[.slice Ao170 t173.length co170]] (by rfl) rfl rfl (by (try simp only [List.map_toArray, List.map_cons, List.map_nil]); first | done | rfl | (simp only [List.length_drop, List.length_take]; rfl)) ?_
          with_reducible refine (laws_eqTree.calls k _ _ t164 _ _ t173 false _ ?side1 ?side2 ?side3 ?side4 A57.out).mono ?_
          (case side1 => repeat (first | exact (Kd.R_reads' HO166.out).2.2 | (with_reducible refine Kd.C_alloc ?_ _) | (with_reducible refine Kd.C_drewN ?_ _) | (with_reducible refine Kd.C_drew ?_)))
          (case side2 => exact (Kd.R_reads' HO166.out).2.1)
          (case side3 => repeat (first | exact (Kd.R_reads' HO175.out).2.2 | (with_reducible refine Kd.C_alloc ?_ _) | (with_reducible refine Kd.C_drewN ?_ _) | (with_reducible refine Kd.C_drew ?_)))
          (case side4 => exact (Kd.R_reads' HO175.out).2.1)
          rintro e w171 ⟨rfl, hb⟩
          refine ⟨_, rfl, ?_⟩
          have n0_ := Aside0.mk (Kd.R_below (by (with_reducible repeat (first | apply Kd.R_alloc | apply Kd.R_drewN | apply Kd.R_drew)); exact HO159.out) hb)
          have n1_ := Aside0.mk (Kd.R_below (by (with_reducible repeat (first | apply Kd.R_alloc | apply Kd.R_drewN | apply Kd.R_drew)); exact HO162.out) hb)
          have n2_ := Aside0.mk (Kd.R_below (by (with_reducible repeat (first | apply Kd.R_alloc | apply Kd.R_drewN | apply Kd.R_drew)); exact HO166.out) hb)
          have n3_ := Aside0.mk (Kd.R_below (by (with_reducible repeat (first | apply Kd.R_alloc | apply Kd.R_drewN | apply Kd.R_drew)); exact HO170.out) hb)
          have n4_ := Aside0.mk (Kd.R_below (by (with_reducible repeat (first | apply Kd.R_alloc | apply Kd.R_drewN | apply Kd.R_drew)); exact HO175.out) hb)
          have n5_ := Aside0.mk (blk_below (g := gb153) (o := .cells #[.slice A0_0 l0_0.length c0_0] 31 (0, 0)) (by (with_reducible repeat (first | refine blk_drewN ?_ _ | refine blk_drew ?_ | refine blk_alloc ?_ _)); exact BK153.out) hb)
          have n6_ := Aside0.mk (blk_below (g := gb154) (o := .cells #[.slice A1_0 l1_0.length c1_0] 31 (0, 0)) (by (with_reducible repeat (first | refine blk_drewN ?_ _ | refine blk_drew ?_ | refine blk_alloc ?_ _)); exact BK154.out) hb)
          have n7_ := Aside0.mk (blk_below (g := gb167) (o := .cells #[.slice Ao154 t164.length co154] 24 (0, 0)) (by (with_reducible repeat (first | refine blk_drewN ?_ _ | refine blk_drew ?_ | refine blk_alloc ?_ _)); exact BK167.out) hb)
          have n8_ := Aside0.mk (blk_below (g := gb171) (o := .cells #[.slice Ao161 t168.length co161] 24 (0, 0)) (by (with_reducible repeat (first | refine blk_drewN ?_ _ | refine blk_drew ?_ | refine blk_alloc ?_ _)); exact BK171.out) hb)
          have n9_ := Aside0.mk (below_step (by repeat (first | (with_reducible first | exact HB.out | apply below_alloc | apply pw_below_drewN | apply below_drew1 | refine below_set ?_ GE153.out | refine below_set ?_ GE154.out | refine below_set ?_ GE167.out | refine below_set ?_ GE171.out) | exact HB.out)) hb)
          clear HO159
          clear HO162
          clear HO166
          clear HO170
          clear HO175
          clear BK153
          clear BK154
          clear BK167
          clear BK171
          clear HB
          have HO159 := n0_
          have HO162 := n1_
          have HO166 := n2_
          have HO170 := n3_
          have HO175 := n4_
          have BK153 := n5_
          have BK154 := n6_
          have BK167 := n7_
          have BK171 := n8_
          have HB := n9_
          clear n0_ n1_ n2_ n3_ n4_ n5_ n6_ n7_ n8_ n9_
          (try clear hb)
          (try clear hb2)
          (try clear hk)
          (try clear hi)
          refine hK.out _ _ ⟨(blk_cell BK167.out 0).trans rfl, (blk_cell BK153.out 0).trans rfl⟩ (fun hHeld => ?_)
          clear hK K
          refine norm_ (a' := ?_) ?_ ?_
          rotate_left
          · show Act.put _ (some 38) _ = _
            simp only [Act.put, List.setIfInBounds_toArray, List.set_cons_zero, List.set_cons_succ, i64_w, i32_w]
            rfl
          refine pure_ (i := 4) (N := some 39) (v := ?_) (a' := ?_) #[true, true, true, true, true] rfl rfl (by kernel_rfl) (fun _ _ _ h => h) (Or.inl ⟨by rfl, ?_⟩) ?_ ?_
          rotate_left
          · intro w'
            go_simp
            with_reducible rfl
          rotate_left
          · simp only [Act.put, List.setIfInBounds_toArray, List.set_cons_zero, List.set_cons_succ, i64_w, i32_w]
            rfl
          refine done_ (by kernel_rfl) ?_
          try go_wp2
          go_ret
          exact ⟨by first | rfl | (simp [errW_none, errW_some] <;> rfl) | (simp [*, errW_none, errW_some] <;> rfl), by repeat (first | (with_reducible first | exact HB.out | apply below_alloc | apply pw_below_drewN | apply below_drew1 | refine below_set ?_ GE153.out | refine below_set ?_ GE154.out | refine below_set ?_ GE167.out | refine below_set ?_ GE171.out) | exact HB.out)⟩

/-! ### the law's arguments -/
def WF75 (x : S75) : Prop := ((-32768) ≤ x.f0 ∧ x.f0 ≤ 32767) ∧ ((-32768) ≤ x.f1 ∧ x.f1 ≤ 32767) ∧ ((-32768) ≤ x.f2 ∧ x.f2 ≤ 32767)
set_option maxRecDepth 100000 in
theorem op75 {H : Type} {enc : TypeId × Value → H} {w : World} : Opens enc Try.prog w 75 k75 WF75 := by
  intro fuel cs x h hz
  obtain ⟨xs, m, rfl, rfl, hl, hn, hf⟩ := DataW.trod_array Try.underlying75 h
  have hl0 : cs.length = 3 := hl.trans (by kernel_rfl)
  have hn0 : xs.length = 3 := hn
  obtain ⟨x0, xs0, rfl, hn1⟩ := consX_of hn0
  obtain ⟨x1, xs1, rfl, hn2⟩ := consX_of hn1
  obtain ⟨x2, xs2, rfl, hn3⟩ := consX_of hn2
  obtain rfl := List.eq_nil_of_length_eq_zero hn3
  obtain ⟨c0, cs0, rfl, hl1⟩ := cons_of hl0
  obtain ⟨c1, cs1, rfl, hl2⟩ := cons_of hl1
  obtain ⟨c2, cs2, rfl, hl3⟩ := cons_of hl2
  obtain rfl := List.eq_nil_of_length_eq_zero hl3
  have h0 : DataW.trod enc Try.prog w 0 (fun _ => true) true m 74 [c0] = some x0 := by
    have h_ := hf 0 (by omega)
    rw [show Try.prog.cellsOf 74 = 1 from by kernel_rfl] at h_
    exact h_
  obtain ⟨a0, hk0, hw0⟩ := (opens_int Try.underlying74 wfB_i16) _ _ _ h0 (weight_array Try.underlying75 hz (j := 0) rfl)
  have h1 : DataW.trod enc Try.prog w 0 (fun _ => true) true m 74 [c1] = some x1 := by
    have h_ := hf 1 (by omega)
    rw [show Try.prog.cellsOf 74 = 1 from by kernel_rfl] at h_
    exact h_
  obtain ⟨a1, hk1, hw1⟩ := (opens_int Try.underlying74 wfB_i16) _ _ _ h1 (weight_array Try.underlying75 hz (j := 1) rfl)
  have h2 : DataW.trod enc Try.prog w 0 (fun _ => true) true m 74 [c2] = some x2 := by
    have h_ := hf 2 (by omega)
    rw [show Try.prog.cellsOf 74 = 1 from by kernel_rfl] at h_
    exact h_
  obtain ⟨a2, hk2, hw2⟩ := (opens_int Try.underlying74 wfB_i16) _ _ _ h2 (weight_array Try.underlying75 hz (j := 2) rfl)
  exact ⟨⟨a0, a1, a2⟩, ⟨[c0], [c1, c2], rfl, hk0, ⟨[c1], [c2], rfl, hk1, hk2⟩⟩, ⟨hw0, hw1, hw2⟩⟩
def WF129 (x : S129) : Prop := ((-128) ≤ x.f0 ∧ x.f0 ≤ 127) ∧ ((-128) ≤ x.f1 ∧ x.f1 ≤ 127) ∧ (WF75 x.f2)
set_option maxRecDepth 100000 in
theorem op129 {H : Type} {enc : TypeId × Value → H} {w : World} : Opens enc Try.prog w 129 k129 WF129 := by
  intro fuel cs x h hz
  obtain ⟨xs, m, rfl, rfl, hl, hn, hf⟩ := DataW.trod_struct Try.underlying129 h
  have hl0 : cs.length = 5 := hl.trans (by kernel_rfl)
  have hn0 : xs.length = 3 := hn
  obtain ⟨x0, xs0, rfl, hn1⟩ := consX_of hn0
  obtain ⟨x1, xs1, rfl, hn2⟩ := consX_of hn1
  obtain ⟨x2, xs2, rfl, hn3⟩ := consX_of hn2
  obtain rfl := List.eq_nil_of_length_eq_zero hn3
  obtain ⟨c0, cs0, rfl, hl1⟩ := cons_of hl0
  obtain ⟨c1, cs1, rfl, hl2⟩ := cons_of hl1
  obtain ⟨c2, cs2, rfl, hl3⟩ := cons_of hl2
  obtain ⟨c3, cs3, rfl, hl4⟩ := cons_of hl3
  obtain ⟨c4, cs4, rfl, hl5⟩ := cons_of hl4
  obtain rfl := List.eq_nil_of_length_eq_zero hl5
  have h0 : DataW.trod enc Try.prog w 0 (fun _ => true) true m 73 [c0] = some x0 := by
    have h_ : DataW.trod enc Try.prog w 0 (fun _ => true) true m 73 (([c0, c1, c2, c3, c4].drop 0).take (Try.prog.cellsOf 73)) = [x0, x1, x2][0]? := by
      have h2_ := hf 0 _ rfl
      exact h2_
    rw [show Try.prog.cellsOf 73 = 1 from by kernel_rfl] at h_
    exact h_
  obtain ⟨a0, hk0, hw0⟩ := (opens_int Try.underlying73 wfB_i8) _ _ _ h0 (weight_struct Try.underlying129 hz (j := 0) rfl rfl)
  have h1 : DataW.trod enc Try.prog w 0 (fun _ => true) true m 73 [c1] = some x1 := by
    have h_ : DataW.trod enc Try.prog w 0 (fun _ => true) true m 73 (([c0, c1, c2, c3, c4].drop 1).take (Try.prog.cellsOf 73)) = [x0, x1, x2][1]? := by
      have h2_ := hf 1 _ rfl
      exact h2_
    rw [show Try.prog.cellsOf 73 = 1 from by kernel_rfl] at h_
    exact h_
  obtain ⟨a1, hk1, hw1⟩ := (opens_int Try.underlying73 wfB_i8) _ _ _ h1 (weight_struct Try.underlying129 hz (j := 1) rfl rfl)
  have h2 : DataW.trod enc Try.prog w 0 (fun _ => true) true m 75 [c2, c3, c4] = some x2 := by
    have h_ : DataW.trod enc Try.prog w 0 (fun _ => true) true m 75 (([c0, c1, c2, c3, c4].drop 2).take (Try.prog.cellsOf 75)) = [x0, x1, x2][2]? := by
      have h2_ := hf 2 _ rfl
      exact h2_
    rw [show Try.prog.cellsOf 75 = 3 from by kernel_rfl] at h_
    exact h_
  obtain ⟨a2, hk2, hw2⟩ := op75 _ _ _ h2 (weight_struct Try.underlying129 hz (j := 2) rfl rfl)
  exact ⟨⟨a0, a1, a2⟩, ⟨[c0], [c1, c2, c3, c4], rfl, hk0, ⟨[c1], [c2, c3, c4], rfl, hk1, hk2⟩⟩, ⟨hw0, hw1, hw2⟩⟩
def WF31 (x : S31) : Prop := (x.f0.length * 8 ≤ 140737488351232 ∧ ∀ z_ ∈ x.f0, WF129 z_)
set_option maxRecDepth 100000 in
theorem op31 {H : Type} {enc : TypeId × Value → H} {w : World} : Opens enc Try.prog w 31 k31 WF31 := by
  intro fuel cs x h hz
  obtain ⟨xs, m, rfl, rfl, hl, hn, hf⟩ := DataW.trod_struct Try.underlying31 h
  have hl0 : cs.length = 1 := hl.trans (by kernel_rfl)
  have hn0 : xs.length = 1 := hn
  obtain ⟨x0, xs0, rfl, hn1⟩ := consX_of hn0
  obtain rfl := List.eq_nil_of_length_eq_zero hn1
  obtain ⟨c0, cs0, rfl, hl1⟩ := cons_of hl0
  obtain rfl := List.eq_nil_of_length_eq_zero hl1
  have h0 : DataW.trod enc Try.prog w 0 (fun _ => true) true m 29 [c0] = some x0 := by
    have h_ : DataW.trod enc Try.prog w 0 (fun _ => true) true m 29 (([c0].drop 0).take (Try.prog.cellsOf 29)) = [x0][0]? := by
      have h2_ := hf 0 _ rfl
      exact h2_
    rw [show Try.prog.cellsOf 29 = 1 from by kernel_rfl] at h_
    exact h_
  obtain ⟨a0, hk0, hw0⟩ := (opens_slice Try.underlying29 (by kernel_rfl) (by kernel_rfl) op129) _ _ _ h0 (weight_struct Try.underlying31 hz (j := 0) rfl rfl)
  exact ⟨⟨a0⟩, hk0, hw0⟩
/-- THE ONE PURE STATEMENT of laws_FnExactSameTree. -/
def laws_FnExactSameTree.Pure : Prop := ∀ (x0 : S31) (x1 : S31), (WF31 x0) → (WF31 x1) → ∃ k, laws_FnExactSameTree.f k x0.f0 x1.f0 = some true
theorem laws_FnExactSameTree.walk (P_ : laws_FnExactSameTree.Pure) (w : World) (x0 : S31) (A0_0 : Option Addr) (c0_0 : Nat) (hr0_0 : Kd.C k129 w A0_0 x0.f0.length x0.f0) (hc0_0 : x0.f0.length ≤ c0_0) (hw0 : WF31 x0) (x1 : S31) (A1_0 : Option Addr) (c1_0 : Nat) (hr1_0 : Kd.C k129 w A1_0 x1.f0.length x1.f0) (hc1_0 : x1.f0.length ≤ c1_0) (hw1 : WF31 x1) :
    Calls Try.prog 6 #[.agg #[.slice A0_0 x0.f0.length c0_0], .agg #[.slice A1_0 x1.f0.length c1_0]] w fun e w' => e = .returned (.bool true) ∧ Below w.heap.size w w' := by
  obtain ⟨k, h⟩ := P_ x0 x1 hw0 hw1
  refine (laws_FnExactSameTree.calls k _ _ x0.f0 _ _ x1.f0 true w hr0_0 hc0_0 hr1_0 hc1_0 h).mono ?_
  rintro e w' ⟨rfl, hd⟩
  exact ⟨rfl, hd⟩

end Go.Proofs.Ytlccefmimpmgjaa.MFnExactSameTree
