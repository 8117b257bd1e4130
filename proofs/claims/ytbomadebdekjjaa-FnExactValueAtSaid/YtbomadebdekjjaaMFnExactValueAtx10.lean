/- Functions of the program as Lean functions, and the proof that the code comes to what they say. Written by a program of this session (myprint.py). -/
import Derived.Test.YtbomadebdekjjaaMFnExactValueAtx0
import Derived.Test.YtbomadebdekjjaaMFnExactValueAtx4
import Derived.Test.YtbomadebdekjjaaMFnExactValueAtx6
import Derived.Test.YtbomadebdekjjaaMFnExactValueAtx8
import Derived.Test.YtbomadebdekjjaaMFnExactValueAtx9
namespace Go.Proofs.Ytbomadebdekjjaa.MFnExactValueAt
open Go.RowKit Go.Proofs.Ytbomadebdekjjaa.MOpen Go.Proofs.YtbomadebdekjjaaW.PrintWords Go.Proofs.YtbomadebdekjjaaW.PrintLast Go.Proofs.YtbomadebdekjjaaW.PrintMore
attribute [local go_sem] max2_int min2_int max_two min_two max_three min_three max_four min_four   -- for this text's walks alone
set_option linter.unusedVariables false
set_option linter.unusedSimpArgs false

set_option linter.defProp false
def aM5_ := @Aside0.mk
def kB5_ := @blk_below
def kC5_ := @blk_cell
theorem q5x1_ {P : Prop} (h : P := by (with_reducible repeat (first | refine blk_drewN ?_ _ | refine blk_drew ?_ | refine blk_alloc ?_ _)); exact BK311.out) : P := h
theorem q5x2_ {P : Prop} (h : P := by (try simp only [List.map_toArray, List.map_cons, List.map_nil]); first | done | rfl | (simp only [List.length_drop, List.length_take]; rfl) | (simp only [List.drop_one]; done) | (simp only [List.drop_one]; rfl)) : P := h
theorem q5x3_ {P : Prop} (h : P := by repeat (first | (with_reducible first | exact HB.out | apply below_alloc | apply pw_below_drewN | apply below_drew1 | refine below_set ?_ GE311.out | refine below_set ?_ GE318.out) | exact HB.out)) : P := h
theorem q5x4_ {P : Prop} (h : P := by repeat (first | (with_reducible first | exact HB.out | apply below_alloc | apply pw_below_drewN | apply below_drew1 | refine below_set ?_ GE311.out) | exact HB.out)) : P := h
theorem q5x5_ {P : Prop} (h : P := by (with_reducible repeat (first | refine blk_drewN ?_ _ | refine blk_drew ?_ | refine blk_alloc ?_ _)); exact BK318.out) : P := h
theorem q5x6_ {P : Prop} (h : P := by (with_reducible repeat (first | apply Kd.R_alloc | apply Kd.R_drewN | apply Kd.R_drew)); exact HO314.out) : P := h
theorem q5x7_ {P : Prop} (h : P := by repeat (first | (with_reducible first | exact HB.out | apply below_alloc | apply pw_below_drewN | apply below_drew1 | refine below_set ?_ GE311.out | refine below_set ?_ GE318.out | refine below_set ?_ GE325.out) | exact HB.out)) : P := h
theorem q5x8_ {P : Prop} (h : P := by rw [hg]; exact Nat.ne_of_lt (blk_lt (g := gb311) (o := .cells #[.bool a1.f0, .int .u32 a1.f1.f0, .int .u32 a1.f1.f1, .int .u32 a1.f1.f2, .int .u32 a1.f1.f3, .int .u32 a1.f1.f4, .int .u32 a1.f1.f5] 33 (0, 0)) q5x1_)) : P := h
theorem q5x9_ {P : Prop} (h : P := by rw [hg]; exact Nat.ne_of_gt (blk_lt (g := gb311) (o := .cells #[.bool a1.f0, .int .u32 a1.f1.f0, .int .u32 a1.f1.f1, .int .u32 a1.f1.f2, .int .u32 a1.f1.f3, .int .u32 a1.f1.f4, .int .u32 a1.f1.f5] 33 (0, 0)) q5x1_)) : P := h
theorem q5x10_ {P : Prop} (h : P := by (with_reducible repeat (first | apply Kd.R_alloc | apply Kd.R_drewN | apply Kd.R_drew)); exact (Kd.R_mono (Kd.R_far (p := ⟨gb318, 6, none⟩) (Kd.R_far (p := ⟨gb318, 5, none⟩) (Kd.R_far (p := ⟨gb318, 4, none⟩) (Kd.R_far (p := ⟨gb318, 3, none⟩) (Kd.R_far (p := ⟨gb318, 2, none⟩) (Kd.R_far (p := ⟨gb318, 1, none⟩) (Kd.R_far (p := ⟨gb318, 0, none⟩) (Kd.R_types HO314.out BK318.out (by decide)) (fun _ hk => hk.2) (.bool t316.f0)) (fun _ hk => hk.2) (.int .u32 t316.f1.f0)) (fun _ hk => hk.2) (.int .u32 t316.f1.f1)) (fun _ hk => hk.2) (.int .u32 t316.f1.f2)) (fun _ hk => hk.2) (.int .u32 t316.f1.f3)) (fun _ hk => hk.2) (.int .u32 t316.f1.f4)) (fun _ hk => hk.2) (.int .u32 t316.f1.f5)) (fun _ h_ => h_.1))) : P := h
theorem q5x11_ {P : Prop} (h : P := by (with_reducible repeat (first | apply Kd.R_alloc | apply Kd.R_drewN | apply Kd.R_drew)); exact (Kd.R_mono (Kd.R_far (p := ⟨gb325, 6, none⟩) (Kd.R_far (p := ⟨gb325, 5, none⟩) (Kd.R_far (p := ⟨gb325, 4, none⟩) (Kd.R_far (p := ⟨gb325, 3, none⟩) (Kd.R_far (p := ⟨gb325, 2, none⟩) (Kd.R_far (p := ⟨gb325, 1, none⟩) (Kd.R_far (p := ⟨gb325, 0, none⟩) (Kd.R_types HO314.out BK325.out (by decide)) (fun _ hk => hk.2) (.bool t323.f0)) (fun _ hk => hk.2) (.int .u32 t323.f1.f0)) (fun _ hk => hk.2) (.int .u32 t323.f1.f1)) (fun _ hk => hk.2) (.int .u32 t323.f1.f2)) (fun _ hk => hk.2) (.int .u32 t323.f1.f3)) (fun _ hk => hk.2) (.int .u32 t323.f1.f4)) (fun _ hk => hk.2) (.int .u32 t323.f1.f5)) (fun _ h_ => h_.1))) : P := h
theorem q5x12_ {P : Prop} (h : P := by (with_reducible repeat (first | apply Kd.R_alloc | apply Kd.R_drewN | apply Kd.R_drew)); exact (Kd.R_mono (Kd.R_far (p := ⟨gb325, 6, none⟩) (Kd.R_far (p := ⟨gb325, 5, none⟩) (Kd.R_far (p := ⟨gb325, 4, none⟩) (Kd.R_far (p := ⟨gb325, 3, none⟩) (Kd.R_far (p := ⟨gb325, 2, none⟩) (Kd.R_far (p := ⟨gb325, 1, none⟩) (Kd.R_far (p := ⟨gb325, 0, none⟩) (Kd.R_types HO321.out BK325.out (by decide)) (fun _ hk => hk.2) (.bool t323.f0)) (fun _ hk => hk.2) (.int .u32 t323.f1.f0)) (fun _ hk => hk.2) (.int .u32 t323.f1.f1)) (fun _ hk => hk.2) (.int .u32 t323.f1.f2)) (fun _ hk => hk.2) (.int .u32 t323.f1.f3)) (fun _ hk => hk.2) (.int .u32 t323.f1.f4)) (fun _ hk => hk.2) (.int .u32 t323.f1.f5)) (fun _ h_ => h_.1))) : P := h
theorem q5x13_ {P : Prop} (h : P := by repeat (first | (with_reducible first | exact HB.out | apply below_alloc | apply pw_below_drewN | apply below_drew1) | exact HB.out)) : P := h
theorem q5x14_ {P : Prop} (h : P := by (with_reducible repeat (first | refine blk_drewN ?_ _ | refine blk_drew ?_ | refine blk_alloc ?_ _)); refine puts7_ (.bool false) (.int .u32 0) (.int .u32 0) (.int .u32 0) (.int .u32 0) (.int .u32 0) (.int .u32 0) ?_; (with_reducible repeat (first | refine blk_drewN ?_ _ | refine blk_drew ?_ | refine blk_alloc ?_ _)); exact BK325.out) : P := h
theorem q5x15_ {P : Prop} (h : P := by (with_reducible repeat (first | apply Kd.R_alloc | apply Kd.R_drewN | apply Kd.R_drew)); exact HO_9.out) : P := h
theorem q5x16_ {P : Prop} (h : P := by simp only [putAll, Act.put, List.setIfInBounds_toArray, List.set_cons_zero, List.set_cons_succ]) : P := h
theorem q5x17_ {P : Prop} (h : P := by (with_reducible repeat (first | refine blk_drewN ?_ _ | refine blk_drew ?_ | refine blk_alloc ?_ _ | refine blk_far ?_ NB311_325.out _)); (with_reducible repeat (first | refine blk_drewN ?_ _ | refine blk_drew ?_ | refine blk_alloc ?_ _)); exact BK311.out) : P := h
theorem q5x18_ {P : Prop} (h : P := by (with_reducible repeat (first | refine blk_drewN ?_ _ | refine blk_drew ?_ | refine blk_alloc ?_ _ | refine blk_far ?_ NB318_325.out _)); (with_reducible repeat (first | refine blk_drewN ?_ _ | refine blk_drew ?_ | refine blk_alloc ?_ _)); exact BK318.out) : P := h
theorem q5x19_ {P : Prop} (h : P := by rw [hg]; exact (below_size q5x4_)) : P := h
theorem q5x20_ {P : Prop} (h : P := by (with_reducible repeat (first | apply Kd.R_alloc | apply Kd.R_drewN | apply Kd.R_drew)); exact HO321.out) : P := h
theorem q5x21_ {P : Prop} (h : P := by intro w'; go_simp; with_reducible rfl) : P := h
theorem q5x22_ {P : Prop} (h : P := by simp only [Act.put, List.setIfInBounds_toArray, List.set_cons_zero, List.set_cons_succ, i64_w, i32_w]; rfl) : P := h
theorem q5x23_ {P : Prop} (h : P := by show Act.put _ (some 7) _ = _; simp only [Act.put, List.setIfInBounds_toArray, List.set_cons_zero, List.set_cons_succ, i64_w, i32_w]; rfl) : P := h
theorem q5x24_ {P : Prop} (h : P := by show Act.put _ (some 19) _ = _; simp only [Act.put, List.setIfInBounds_toArray, List.set_cons_zero, List.set_cons_succ, i64_w, i32_w]; rfl) : P := h
theorem q5x25_ {P : Prop} (h : P := by show Act.put _ (some 21) _ = _; simp only [Act.put, List.setIfInBounds_toArray, List.set_cons_zero, List.set_cons_succ, i64_w, i32_w]; rfl) : P := h
/-! ### laws_FnExactValueAt: function 5 -/
def laws_FnExactValueAt.j0 : Nat → List Int → List Int → Bool → Option (Bool)
 | 0, _, _, _ => none
 | k + 1, x0, x9, x42 => if x42 = true then (some false) else ((laws_toInt64S.f k x0).bind fun t327 => ((laws_eqInt64S.f k x9 t327).bind fun t330 => (if t330 = true then (some true) else (some false))))
def laws_FnExactValueAt.f (k : Nat) (l0 : List Int) (a1 : S24) (a2 : Int) : Option (Bool) := if (l0.length : Int) > 1048576 then (some true) else ((laws_toInt64S.f k l0).bind fun t312 => ((laws_toWide.f k a1).bind fun t315 => ((spec_ValueAt.f k t312 t315 a2).bind fun bt316 => ((laws_toInt64S.f k l0).bind fun t319 => ((laws_toWide.f k a1).bind fun t322 => ((impl_ValueAt.f k t319 t322 a2).bind fun bt323 => ((laws_eqWide.f k bt323.1 bt316.1).bind fun t326 => (if t326 = true then (laws_FnExactValueAt.j0 k l0 t319 (bt323.2 != bt316.2)) else (laws_FnExactValueAt.j0 k l0 t319 true)))))))))
theorem laws_FnExactValueAt.mono_l : ∀ k, (∀ y0 y1 y2, LeO (laws_FnExactValueAt.j0 k y0 y1 y2) (laws_FnExactValueAt.j0 (k + 1) y0 y1 y2))
 | 0 => fun _ _ _ r h => by simp [laws_FnExactValueAt.j0] at h
 | k + 1 => by
  have ih0 := laws_FnExactValueAt.mono_l k
  intro y0 y1 y2
  unfold laws_FnExactValueAt.j0
  repeat' first
  | (with_reducible exact ih0 _ _ _)
  | (with_reducible exact impl_ValueAt.mono _ _ _ _)
  | (with_reducible exact laws_eqInt64S.mono _ _ _)
  | (with_reducible exact laws_eqWide.mono _ _ _)
  | (with_reducible exact laws_toInt64S.mono _ _)
  | (with_reducible exact laws_toWide.mono _ _)
  | (with_reducible exact spec_ValueAt.mono _ _ _ _)
  | (with_reducible exact LeO.refl _)
  | (with_reducible exact LeO.none _)
  | (with_reducible refine LeO.ite ?_ ?_)
  | (with_reducible refine LeO.bind ?_ (fun _ => ?_))
  | exact ih0 _ _ _
  | exact impl_ValueAt.mono _ _ _ _
  | exact laws_eqInt64S.mono _ _ _
  | exact laws_eqWide.mono _ _ _
  | exact laws_toInt64S.mono _ _
  | exact laws_toWide.mono _ _
  | exact spec_ValueAt.mono _ _ _ _
  | exact LeO.none _
  | refine LeO.ite ?_ ?_
  | refine LeO.bind ?_ (fun _ => ?_)
theorem laws_FnExactValueAt.mono : ∀ a0 a1 a2 k, LeO (laws_FnExactValueAt.f k a0 a1 a2) (laws_FnExactValueAt.f (k + 1) a0 a1 a2) := by
 intro a0 a1 a2 k
 have ih0 := laws_FnExactValueAt.mono_l k
 unfold laws_FnExactValueAt.f
 repeat' first
   | (with_reducible exact ih0 _ _ _)
   | (with_reducible exact impl_ValueAt.mono _ _ _ _)
   | (with_reducible exact laws_eqInt64S.mono _ _ _)
   | (with_reducible exact laws_eqWide.mono _ _ _)
   | (with_reducible exact laws_toInt64S.mono _ _)
   | (with_reducible exact laws_toWide.mono _ _)
   | (with_reducible exact spec_ValueAt.mono _ _ _ _)
   | (with_reducible exact LeO.refl _)
   | (with_reducible exact LeO.none _)
   | (with_reducible refine LeO.ite ?_ ?_)
   | (with_reducible refine LeO.bind ?_ (fun _ => ?_))
   | exact ih0 _ _ _
   | exact impl_ValueAt.mono _ _ _ _
   | exact laws_eqInt64S.mono _ _ _
   | exact laws_eqWide.mono _ _ _
   | exact laws_toInt64S.mono _ _
   | exact laws_toWide.mono _ _
   | exact spec_ValueAt.mono _ _ _ _
   | exact LeO.none _
   | refine LeO.ite ?_ ?_
   | refine LeO.bind ?_ (fun _ => ?_)
def laws_FnExactValueAt.T3 : Bool × List (List Nat × List Nat) := (true, [([], []), ([0], [0]), ([], []), ([2, 1], [2]), ([], []), ([1, 3, 4, 3], [1, 3, 4]), ([5], [5]), ([6], [6]), ([6], [6]), ([], []), ([9, 7, 5, 0, 1, 2, 3, 4, 5, 6, 7, 9], [7, 9]), ([8, 10, 0, 1, 2, 3, 4, 5, 6, 7, 8, 9, 10], [8])])
def laws_FnExactValueAt.B3 : List Nat := [0, 1, 0, 7, 0, 31, 63, 127, 127, 0, 767, 2047]
theorem laws_FnExactValueAt.tab3 : rtab .any (opsOf Try.f5 3) = laws_FnExactValueAt.T3 := by kernel_rfl
theorem laws_FnExactValueAt.bits3 : waitsOk laws_FnExactValueAt.T3.2 laws_FnExactValueAt.B3 = true := by kernel_rfl
set_option maxHeartbeats 8000000 in
set_option maxRecDepth 100000 in
theorem laws_FnExactValueAt.calls (k : Nat) (A0 : Option Addr) (c0 : Nat) (l0 : List Int) (a1 : S24) (a2 : Int) (r : Bool) (w : World) (hr0 : Kd.C (Kd.int .i64) w A0 l0.length l0) (hc0 : l0.length ≤ c0) (h : laws_FnExactValueAt.f k l0 a1 a2 = some r) :
  Calls Try.prog 5 #[.slice A0 l0.length c0, .agg #[.bool a1.f0, .int .u32 a1.f1.f0, .int .u32 a1.f1.f1, .int .u32 a1.f1.f2, .int .u32 a1.f1.f3, .int .u32 a1.f1.f4, .int .u32 a1.f1.f5], .int .i64 a2] w fun e w' => e = .returned (.bool r) ∧ Below w.heap.size w w' := by
 have hu33 := Try.underlying33
 have hu25 := Try.underlying25
 have HR0 := aM5_ hr0
 have HC0 := aM5_ hc0
 clear hr0 hc0
 have HB := aM5_ (Below.refl w.heap.size w)
 have H : (if (l0.length : Int) > 1048576 then (some true) else ((laws_toInt64S.f k l0).bind fun t312 => ((laws_toWide.f k a1).bind fun t315 => ((spec_ValueAt.f k t312 t315 a2).bind fun bt316 => ((laws_toInt64S.f k l0).bind fun t319 => ((laws_toWide.f k a1).bind fun t322 => ((impl_ValueAt.f k t319 t322 a2).bind fun bt323 => ((laws_eqWide.f k bt323.1 bt316.1).bind fun t326 => (if t326 = true then (laws_FnExactValueAt.j0 k l0 t319 (bt323.2 != bt316.2)) else (laws_FnExactValueAt.j0 k l0 t319 true)))))))))) = some r := h
 clear h
 by_cases c4 : (l0.length : Int) > 1048576
 ·rw [if_pos c4] at H
  have c4b0 : decide (1048576 < (l0.length : Int)) = true := decide_eq_true c4
  have c4b1 : decide (1048576 < l0.length) = true := decide_eq_true (by omega)
  clear c4
  obtain rfl := Option.some.inj H
  go_enter Try.func5, Try.ntmps5
  go_wp2_with (first | ((with_reducible refine gate_dst (N := 4) rfl ?_); refine box_event ?hg (N := 4) ?hd (cs := #[.bool a1.f0, .int .u32 a1.f1.f0, .int .u32 a1.f1.f1, .int .u32 a1.f1.f2, .int .u32 a1.f1.f3, .int .u32 a1.f1.f4, .int .u32 a1.f1.f5]) (t := 33) ?hr ?_; (case hd => rfl); (case hg => rfl); (case hr => first | (go_simp; done) | (go_simp; rfl)); intro gb311 hg w5 hbox hb; have n0_ := aM5_ (below_step q5x13_ hb); have n1_ := aM5_ (hbox); have n2_ := aM5_ ((by rw [hg]; exact (below_size q5x13_) : w.heap.size ≤ gb311)); have n3_ := aM5_ ((by rw [hg]; exact (below_size q5x13_) : w.heap.size ≤ gb311)); clear HB; have HB := n0_; have BK311 := n1_; have GW311 := n2_; have GE311 := n3_; clear n0_ n1_ n2_ n3_; clear hb hbox hg))
  go_ret
  exact ⟨by first | rfl | (simp [errW_none, errW_some] <;> rfl) | (simp [*, errW_none, errW_some] <;> rfl), by repeat (first | (with_reducible first | exact HB.out | apply below_alloc | apply pw_below_drewN | apply below_drew1 | refine below_set ?_ GE311.out) | exact HB.out)⟩
 rw [if_neg c4] at H
 have c4b0 : decide (1048576 < (l0.length : Int)) = false := decide_eq_false c4
 have c4b1 : decide (1048576 < l0.length) = false := decide_eq_false (by omega)
 clear c4
 replace H := Option.bind_eq_some_iff.mp H
 obtain ⟨t312, A60, H⟩ := H
 replace H : ((laws_toWide.f k a1).bind fun t315 => ((spec_ValueAt.f k t312 t315 a2).bind fun bt316 => ((laws_toInt64S.f k l0).bind fun t319 => ((laws_toWide.f k a1).bind fun t322 => ((impl_ValueAt.f k t319 t322 a2).bind fun bt323 => ((laws_eqWide.f k bt323.1 bt316.1).bind fun t326 => (if t326 = true then (laws_FnExactValueAt.j0 k l0 t319 (bt323.2 != bt316.2)) else (laws_FnExactValueAt.j0 k l0 t319 true)))))))) = some r := H
 have A6 := aM5_ A60
 clear A60
 replace H := Option.bind_eq_some_iff.mp H
 obtain ⟨t315, A70, H⟩ := H
 replace H : ((spec_ValueAt.f k t312 t315 a2).bind fun bt316 => ((laws_toInt64S.f k l0).bind fun t319 => ((laws_toWide.f k a1).bind fun t322 => ((impl_ValueAt.f k t319 t322 a2).bind fun bt323 => ((laws_eqWide.f k bt323.1 bt316.1).bind fun t326 => (if t326 = true then (laws_FnExactValueAt.j0 k l0 t319 (bt323.2 != bt316.2)) else (laws_FnExactValueAt.j0 k l0 t319 true))))))) = some r := H
 have A7 := aM5_ A70
 clear A70
 replace H := Option.bind_eq_some_iff.mp H
 obtain ⟨⟨t316, t317⟩, A80, H⟩ := H
 replace H : ((laws_toInt64S.f k l0).bind fun t319 => ((laws_toWide.f k a1).bind fun t322 => ((impl_ValueAt.f k t319 t322 a2).bind fun bt323 => ((laws_eqWide.f k bt323.1 t316).bind fun t326 => (if t326 = true then (laws_FnExactValueAt.j0 k l0 t319 (bt323.2 != t317)) else (laws_FnExactValueAt.j0 k l0 t319 true)))))) = some r := H
 have A8 := aM5_ A80
 clear A80
 replace H := Option.bind_eq_some_iff.mp H
 obtain ⟨t319, A90, H⟩ := H
 replace H : ((laws_toWide.f k a1).bind fun t322 => ((impl_ValueAt.f k t319 t322 a2).bind fun bt323 => ((laws_eqWide.f k bt323.1 t316).bind fun t326 => (if t326 = true then (laws_FnExactValueAt.j0 k l0 t319 (bt323.2 != t317)) else (laws_FnExactValueAt.j0 k l0 t319 true))))) = some r := H
 have A9 := aM5_ A90
 clear A90
 replace H := Option.bind_eq_some_iff.mp H
 obtain ⟨t322, A100, H⟩ := H
 replace H : ((impl_ValueAt.f k t319 t322 a2).bind fun bt323 => ((laws_eqWide.f k bt323.1 t316).bind fun t326 => (if t326 = true then (laws_FnExactValueAt.j0 k l0 t319 (bt323.2 != t317)) else (laws_FnExactValueAt.j0 k l0 t319 true)))) = some r := H
 have A10 := aM5_ A100
 clear A100
 replace H := Option.bind_eq_some_iff.mp H
 obtain ⟨⟨t323, t324⟩, A110, H⟩ := H
 replace H : ((laws_eqWide.f k t323 t316).bind fun t326 => (if t326 = true then (laws_FnExactValueAt.j0 k l0 t319 (t324 != t317)) else (laws_FnExactValueAt.j0 k l0 t319 true))) = some r := H
 have A11 := aM5_ A110
 clear A110
 have HC12 := aM5_ H
 clear H
 go_enter Try.func5, Try.ntmps5
 try go_wp2_with (first | ((with_reducible refine gate_dst (N := 4) rfl ?_); refine box_event ?hg (N := 4) ?hd (cs := #[.bool a1.f0, .int .u32 a1.f1.f0, .int .u32 a1.f1.f1, .int .u32 a1.f1.f2, .int .u32 a1.f1.f3, .int .u32 a1.f1.f4, .int .u32 a1.f1.f5]) (t := 33) ?hr ?_; (case hd => rfl); (case hg => rfl); (case hr => first | (go_simp; done) | (go_simp; rfl)); intro gb311 hg w13 hbox hb; have n0_ := aM5_ (below_step q5x13_ hb); have n1_ := aM5_ (hbox); have n2_ := aM5_ ((by rw [hg]; exact (below_size q5x13_) : w.heap.size ≤ gb311)); have n3_ := aM5_ ((by rw [hg]; exact (below_size q5x13_) : w.heap.size ≤ gb311)); clear HB; have HB := n0_; have BK311 := n1_; have GW311 := n2_; have GE311 := n3_; clear n0_ n1_ n2_ n3_; clear hb hbox hg))
 have n0_ := aM5_ (blk_drew BK311.out)
 have n1_ := aM5_ (below_drew1 HB.out)
 clear BK311 HB
 have BK311 := n0_
 have HB := n1_
 clear n0_ n1_
 refine start_ (n := 12) (S := fun w' => w'.cell? ⟨gb311, 0, none⟩ = some (.bool a1.f0) ∧ w'.cell? ⟨gb311, 1, none⟩ = some (.int .u32 a1.f1.f0) ∧ w'.cell? ⟨gb311, 2, none⟩ = some (.int .u32 a1.f1.f1) ∧ w'.cell? ⟨gb311, 3, none⟩ = some (.int .u32 a1.f1.f2) ∧ w'.cell? ⟨gb311, 4, none⟩ = some (.int .u32 a1.f1.f3) ∧ w'.cell? ⟨gb311, 5, none⟩ = some (.int .u32 a1.f1.f4) ∧ w'.cell? ⟨gb311, 6, none⟩ = some (.int .u32 a1.f1.f5)) (ds := []) #[false, false, false, false, false, false, false, false, false, false, false, false] (by kernel_rfl) rfl rfl ⟨(kC5_ BK311.out 0).trans rfl, (kC5_ BK311.out 1).trans rfl, (kC5_ BK311.out 2).trans rfl, (kC5_ BK311.out 3).trans rfl, (kC5_ BK311.out 4).trans rfl, (kC5_ BK311.out 5).trans rfl, (kC5_ BK311.out 6).trans rfl⟩ (fun hHeld => ?_); refine with_tabW laws_FnExactValueAt.tab3 laws_FnExactValueAt.bits3 (fun HT_ HW_ => ?_)
 generalize w13.drew = w14 at BK311 HB hHeld ⊢
 refine pure_ (i := 0) (N := some 16) (v := ?_) (a' := ?_) #[true, false, false, false, false, false, false, false, false, false, false, false] rfl rfl (any_of HT_.out (by kernel_rfl)) (fun _ _ _ h => h) (Or.inl ⟨by rfl, ?_⟩) ?_ ?_
 rotate_left
 ·exact q5x21_
 rotate_left
 ·exact q5x22_
 refine pure_ (i := 4) (N := some 20) (v := ?_) (a' := ?_) #[true, false, false, false, true, false, false, false, false, false, false, false] rfl rfl (any_of HT_.out (by kernel_rfl)) (fun _ _ _ h => h) (Or.inl ⟨by rfl, ?_⟩) ?_ ?_
 rotate_left
 ·exact q5x21_
 rotate_left
 ·exact q5x22_
 refine take_ (i := 2) (N := some 18) (v := ?_) (a' := ?_) #[true, false, true, false, true, false, false, false, false, false, false, false] rfl rfl (take_ofW HT_.out HW_.out (by kernel_rfl)) (fun _ _ _ h => h) (Or.inl ⟨by rfl, ?_⟩) hHeld ?_ ?_
 rotate_left
 ·rintro w' ⟨s0, s1, s2, s3, s4, s5, s6⟩
  go_simp
  with_reducible rfl
 rotate_left
 ·exact q5x22_
 refine join_ (σ := Value × Nat) 2 #[true, true, true, true, true, true, true, true, true, true, false, false] (fun s_ => [(17, s_.1), (19, .agg #[.bool t315.f0, .int .u32 t315.f1.f0, .int .u32 t315.f1.f1, .int .u32 t315.f1.f2, .int .u32 t315.f1.f3, .int .u32 t315.f1.f4, .int .u32 t315.f1.f5]), (21, .tuple #[.agg #[.bool t316.f0, .int .u32 t316.f1.f0, .int .u32 t316.f1.f1, .int .u32 t316.f1.f2, .int .u32 t316.f1.f3, .int .u32 t316.f1.f4, .int .u32 t316.f1.f5], .int .i64 t317]), (7, .pointer (some ⟨s_.2, 0, none⟩)), (15, .tuple #[.agg #[.bool t316.f0, .int .u32 t316.f1.f0, .int .u32 t316.f1.f1, .int .u32 t316.f1.f2, .int .u32 t316.f1.f3, .int .u32 t316.f1.f4, .int .u32 t316.f1.f5], .int .i64 t317]), (22, .agg #[.bool t316.f0, .int .u32 t316.f1.f0, .int .u32 t316.f1.f1, .int .u32 t316.f1.f2, .int .u32 t316.f1.f3, .int .u32 t316.f1.f4, .int .u32 t316.f1.f5]), (23, .int .i64 t317)]) (fun s_ w' => (w'.cell? ⟨gb311, 0, none⟩ = some (.bool a1.f0) ∧ w'.cell? ⟨gb311, 1, none⟩ = some (.int .u32 a1.f1.f0) ∧ w'.cell? ⟨gb311, 2, none⟩ = some (.int .u32 a1.f1.f1) ∧ w'.cell? ⟨gb311, 3, none⟩ = some (.int .u32 a1.f1.f2) ∧ w'.cell? ⟨gb311, 4, none⟩ = some (.int .u32 a1.f1.f3) ∧ w'.cell? ⟨gb311, 5, none⟩ = some (.int .u32 a1.f1.f4) ∧ w'.cell? ⟨gb311, 6, none⟩ = some (.int .u32 a1.f1.f5)) ∧ (Kd.R (Kd.int .i64) 2 w' w.heap.size (fun _ => True) s_.1 t312) ∧ (w'.heap[gb311]? = some (.cells #[.bool a1.f0, .int .u32 a1.f1.f0, .int .u32 a1.f1.f1, .int .u32 a1.f1.f2, .int .u32 a1.f1.f3, .int .u32 a1.f1.f4, .int .u32 a1.f1.f5] 33 (0, 0))) ∧ (w'.heap[s_.2]? = some (.cells #[.bool false, .int .u32 0, .int .u32 0, .int .u32 0, .int .u32 0, .int .u32 0, .int .u32 0] 25 (0, 0))) ∧ (w.heap.size ≤ s_.2) ∧ (w.heap.size ≤ s_.2) ∧ (gb311 ≠ s_.2) ∧ (s_.2 ≠ gb311) ∧ (Below w.heap.size w w')) ?_ ?_
 rotate_left
 ·intro hCont
  refine two_ (i := 1) (j := 9) (Ni := some 17) (Nj := some 7) #[true, true, true, false, true, false, false, false, false, false, false, false] #[true, false, true, false, true, false, false, false, false, true, false, false] rfl rfl rfl rfl (two_of HT_.out (by kernel_rfl)) (by decide) (by decide) (fun K hK => ?_) (fun K hK => ?_)
  rotate_left
  ·skip
   refine box_step ?hg (N := 7) ?hd (cs := #[.bool false, .int .u32 0, .int .u32 0, .int .u32 0, .int .u32 0, .int .u32 0, .int .u32 0]) (t := 25) ?hr ?_; (case hd => rfl); (case hg => rfl); (case hr => first | (go_simp; done) | (go_simp; rfl))
   intro gb318 hg w15 hbox hb
   have n0_ := aM5_ (kB5_ (g := gb311) (o := .cells #[.bool a1.f0, .int .u32 a1.f1.f0, .int .u32 a1.f1.f1, .int .u32 a1.f1.f2, .int .u32 a1.f1.f3, .int .u32 a1.f1.f4, .int .u32 a1.f1.f5] 33 (0, 0)) q5x1_ hb)
   have n1_ := aM5_ (below_step q5x4_ hb)
   have n2_ := aM5_ (hbox)
   have n3_ := aM5_ ((q5x19_ : w.heap.size ≤ gb318))
   have n4_ := aM5_ ((q5x19_ : w.heap.size ≤ gb318))
   have n5_ := aM5_ ((q5x8_ : gb311 ≠ gb318))
   have n6_ := aM5_ ((q5x9_ : gb318 ≠ gb311))
   clear BK311 HB
   have BK311 := n0_
   have HB := n1_
   have BK318 := n2_
   have GW318 := n3_
   have GE318 := n4_
   have NB311_318 := n5_
   have NB318_311 := n6_
   clear n0_ n1_ n2_ n3_ n4_ n5_ n6_ hb hbox hg
   refine hK.out _ _ ⟨(kC5_ BK311.out 0).trans rfl, (kC5_ BK311.out 1).trans rfl, (kC5_ BK311.out 2).trans rfl, (kC5_ BK311.out 3).trans rfl, (kC5_ BK311.out 4).trans rfl, (kC5_ BK311.out 5).trans rfl, (kC5_ BK311.out 6).trans rfl⟩ (fun hHeld => ?_)
   clear hK K
   refine norm_ (a' := ?_) ?_ ?_
   rotate_left
   ·exact q5x23_
   refine one_ (i := 1) (N := some 17) #[true, true, true, false, true, false, false, false, false, true, false, false] rfl rfl (one_of HT_.out (by kernel_rfl)) (by decide) (fun K hK => ?_)
   refine goes_ Try.func17 (by kernel_rfl) rfl #[.slice A0 l0.length c0] (by rfl) rfl rfl q5x2_ ?_
   with_reducible refine (laws_toInt64S.calls k _ _ l0 t312 _ ?side1 ?side2 A6.out).mono ?_
   (case side1 => repeat (first | exact (Kd.C_below HR0.out HB.out) | (with_reducible refine Kd.C_alloc ?_ _) | (with_reducible refine Kd.C_drewN ?_ _) | (with_reducible refine Kd.C_drew ?_)))
   (case side2 => exact HC0.out)
   rintro e w16 ⟨v313, rfl, ho0, hb⟩
   refine ⟨_, rfl, ?_⟩
   have n0_ := aM5_ (Kd.R_lower ho0 (below_size q5x3_))
   have n1_ := aM5_ (kB5_ (g := gb311) (o := .cells #[.bool a1.f0, .int .u32 a1.f1.f0, .int .u32 a1.f1.f1, .int .u32 a1.f1.f2, .int .u32 a1.f1.f3, .int .u32 a1.f1.f4, .int .u32 a1.f1.f5] 33 (0, 0)) q5x1_ hb)
   have n2_ := aM5_ (kB5_ (g := gb318) (o := .cells #[.bool false, .int .u32 0, .int .u32 0, .int .u32 0, .int .u32 0, .int .u32 0, .int .u32 0] 25 (0, 0)) q5x5_ hb)
   have n3_ := aM5_ (below_step q5x3_ hb)
   clear BK311 BK318 HB
   have HO314 := n0_
   have BK311 := n1_
   have BK318 := n2_
   have HB := n3_
   clear n0_ n1_ n2_ n3_
   (try clear hb)
   (try clear hb2)
   (try clear hk)
   (try clear hi)
   (try clear ho0)
   refine hK.out _ _ ⟨(kC5_ BK311.out 0).trans rfl, (kC5_ BK311.out 1).trans rfl, (kC5_ BK311.out 2).trans rfl, (kC5_ BK311.out 3).trans rfl, (kC5_ BK311.out 4).trans rfl, (kC5_ BK311.out 5).trans rfl, (kC5_ BK311.out 6).trans rfl⟩ (fun hHeld => ?_)
   clear hK K
   refine norm_ (a' := ?_) ?_ ?_
   rotate_left
   ·show Act.put _ (some 17) _ = _
    simp only [Act.put, List.setIfInBounds_toArray, List.set_cons_zero, List.set_cons_succ, i64_w, i32_w]
    rfl
   refine one_ (i := 3) (N := some 19) #[true, true, true, true, true, false, false, false, false, true, false, false] rfl rfl (one_of HT_.out (by kernel_rfl)) (by decide) (fun K hK => ?_)
   refine goes_ Try.func18 (by kernel_rfl) rfl #[.agg #[.bool a1.f0, .int .u32 a1.f1.f0, .int .u32 a1.f1.f1, .int .u32 a1.f1.f2, .int .u32 a1.f1.f3, .int .u32 a1.f1.f4, .int .u32 a1.f1.f5]] (by rfl) rfl rfl q5x2_ ?_
   with_reducible refine (laws_toWide.calls k a1 t315 _ A7.out).mono ?_
   rintro e w17 ⟨rfl, hb⟩
   refine ⟨_, rfl, ?_⟩
   have n0_ := aM5_ (Kd.R_below q5x6_ hb)
   have n1_ := aM5_ (kB5_ (g := gb311) (o := .cells #[.bool a1.f0, .int .u32 a1.f1.f0, .int .u32 a1.f1.f1, .int .u32 a1.f1.f2, .int .u32 a1.f1.f3, .int .u32 a1.f1.f4, .int .u32 a1.f1.f5] 33 (0, 0)) q5x1_ hb)
   have n2_ := aM5_ (kB5_ (g := gb318) (o := .cells #[.bool false, .int .u32 0, .int .u32 0, .int .u32 0, .int .u32 0, .int .u32 0, .int .u32 0] 25 (0, 0)) q5x5_ hb)
   have n3_ := aM5_ (below_step q5x3_ hb)
   clear HO314 BK311 BK318 HB
   have HO314 := n0_
   have BK311 := n1_
   have BK318 := n2_
   have HB := n3_
   clear n0_ n1_ n2_ n3_
   (try clear hb)
   (try clear hb2)
   (try clear hk)
   (try clear hi)
   obtain ⟨Ao18, co18, eo18⟩ := Kd.R_slice HO314.out
   (first | subst eo18 | (injection eo18 with f1_ f2_ f3_; have f4_ := f1_.symm; have f5_ := f3_.symm; clear f1_ f2_ f3_; subst f4_; subst f5_))
   refine hK.out _ _ ⟨(kC5_ BK311.out 0).trans rfl, (kC5_ BK311.out 1).trans rfl, (kC5_ BK311.out 2).trans rfl, (kC5_ BK311.out 3).trans rfl, (kC5_ BK311.out 4).trans rfl, (kC5_ BK311.out 5).trans rfl, (kC5_ BK311.out 6).trans rfl⟩ (fun hHeld => ?_)
   clear hK K
   refine norm_ (a' := ?_) ?_ ?_
   rotate_left
   ·exact q5x24_
   refine one_ (i := 5) (N := some 21) #[true, true, true, true, true, true, false, false, false, true, false, false] rfl rfl (one_of HT_.out (by kernel_rfl)) (by decide) (fun K hK => ?_)
   refine goes_ Try.func16 (by kernel_rfl) rfl #[.slice Ao18 t312.length co18, .agg #[.bool t315.f0, .int .u32 t315.f1.f0, .int .u32 t315.f1.f1, .int .u32 t315.f1.f2, .int .u32 t315.f1.f3, .int .u32 t315.f1.f4, .int .u32 t315.f1.f5], .int .i64 a2] (by rfl) rfl rfl q5x2_ ?_
   with_reducible refine (spec_ValueAt.calls k _ _ t312 t315 a2 t316 t317 _ ?side1 ?side2 A8.out).mono ?_
   (case side1 => repeat (first | exact (Kd.R_reads' HO314.out).2.2 | (with_reducible refine Kd.C_alloc ?_ _) | (with_reducible refine Kd.C_drewN ?_ _) | (with_reducible refine Kd.C_drew ?_)))
   (case side2 => exact (Kd.R_reads' HO314.out).2.1)
   rintro e w19 ⟨rfl, hb⟩
   refine ⟨_, rfl, ?_⟩
   have n0_ := aM5_ (Kd.R_below q5x6_ hb)
   have n1_ := aM5_ (kB5_ (g := gb311) (o := .cells #[.bool a1.f0, .int .u32 a1.f1.f0, .int .u32 a1.f1.f1, .int .u32 a1.f1.f2, .int .u32 a1.f1.f3, .int .u32 a1.f1.f4, .int .u32 a1.f1.f5] 33 (0, 0)) q5x1_ hb)
   have n2_ := aM5_ (kB5_ (g := gb318) (o := .cells #[.bool false, .int .u32 0, .int .u32 0, .int .u32 0, .int .u32 0, .int .u32 0, .int .u32 0] 25 (0, 0)) q5x5_ hb)
   have n3_ := aM5_ (below_step q5x3_ hb)
   clear HO314 BK311 BK318 HB
   have HO314 := n0_
   have BK311 := n1_
   have BK318 := n2_
   have HB := n3_
   clear n0_ n1_ n2_ n3_
   (try clear hb)
   (try clear hb2)
   (try clear hk)
   (try clear hi)
   refine hK.out _ _ ⟨(kC5_ BK311.out 0).trans rfl, (kC5_ BK311.out 1).trans rfl, (kC5_ BK311.out 2).trans rfl, (kC5_ BK311.out 3).trans rfl, (kC5_ BK311.out 4).trans rfl, (kC5_ BK311.out 5).trans rfl, (kC5_ BK311.out 6).trans rfl⟩ (fun hHeld => ?_)
   clear hK K
   refine norm_ (a' := ?_) ?_ ?_
   rotate_left
   ·exact q5x25_
   refine pure_ (i := 6) (N := some 15) (v := ?_) (a' := ?_) #[true, true, true, true, true, true, true, false, false, true, false, false] rfl rfl (any_of HT_.out (by kernel_rfl)) (fun _ _ _ h => h) (Or.inl ⟨by rfl, ?_⟩) ?_ ?_
   rotate_left
   ·exact q5x21_
   rotate_left
   ·exact q5x22_
   refine pure_ (i := 7) (N := some 22) (v := ?_) (a' := ?_) #[true, true, true, true, true, true, true, true, false, true, false, false] rfl rfl (any_of HT_.out (by kernel_rfl)) (fun _ _ _ h => h) (Or.inl ⟨by rfl, ?_⟩) ?_ ?_
   rotate_left
   ·exact q5x21_
   rotate_left
   ·exact q5x22_
   refine pure_ (i := 8) (N := some 23) (v := ?_) (a' := ?_) #[true, true, true, true, true, true, true, true, true, true, false, false] rfl rfl (any_of HT_.out (by kernel_rfl)) (fun _ _ _ h => h) (Or.inl ⟨by rfl, ?_⟩) ?_ ?_
   rotate_left
   ·exact q5x21_
   rotate_left
   ·exact q5x22_
   exact norm_ q5x16_ (hCont (.slice Ao18 t312.length co18, gb318) _ ⟨hHeld, q5x6_, q5x1_, q5x5_, GW318.out, GE318.out, NB311_318.out, NB318_311.out, q5x3_⟩)
  skip
  refine goes_ Try.func17 (by kernel_rfl) rfl #[.slice A0 l0.length c0] (by rfl) rfl rfl q5x2_ ?_
  with_reducible refine (laws_toInt64S.calls k _ _ l0 t312 _ ?side1 ?side2 A6.out).mono ?_
  (case side1 => repeat (first | exact (Kd.C_below HR0.out HB.out) | (with_reducible refine Kd.C_alloc ?_ _) | (with_reducible refine Kd.C_drewN ?_ _) | (with_reducible refine Kd.C_drew ?_)))
  (case side2 => exact HC0.out)
  rintro e w15 ⟨v313, rfl, ho0, hb⟩
  refine ⟨_, rfl, ?_⟩
  have n0_ := aM5_ (Kd.R_lower ho0 (below_size q5x4_))
  have n1_ := aM5_ (kB5_ (g := gb311) (o := .cells #[.bool a1.f0, .int .u32 a1.f1.f0, .int .u32 a1.f1.f1, .int .u32 a1.f1.f2, .int .u32 a1.f1.f3, .int .u32 a1.f1.f4, .int .u32 a1.f1.f5] 33 (0, 0)) q5x1_ hb)
  have n2_ := aM5_ (below_step q5x4_ hb)
  clear BK311 HB
  have HO314 := n0_
  have BK311 := n1_
  have HB := n2_
  clear n0_ n1_ n2_
  (try clear hb)
  (try clear hb2)
  (try clear hk)
  (try clear hi)
  (try clear ho0)
  refine hK.out _ _ ⟨(kC5_ BK311.out 0).trans rfl, (kC5_ BK311.out 1).trans rfl, (kC5_ BK311.out 2).trans rfl, (kC5_ BK311.out 3).trans rfl, (kC5_ BK311.out 4).trans rfl, (kC5_ BK311.out 5).trans rfl, (kC5_ BK311.out 6).trans rfl⟩ (fun hHeld => ?_)
  clear hK K
  refine norm_ (a' := ?_) ?_ ?_
  rotate_left
  ·show Act.put _ (some 17) _ = _
   simp only [Act.put, List.setIfInBounds_toArray, List.set_cons_zero, List.set_cons_succ, i64_w, i32_w]
   rfl
  refine two_ (i := 3) (j := 9) (Ni := some 19) (Nj := some 7) #[true, true, true, true, true, false, false, false, false, false, false, false] #[true, true, true, false, true, false, false, false, false, true, false, false] rfl rfl rfl rfl (two_of HT_.out (by kernel_rfl)) (by decide) (by decide) (fun K hK => ?_) (fun K hK => ?_)
  rotate_left
  ·skip
   refine box_step ?hg (N := 7) ?hd (cs := #[.bool false, .int .u32 0, .int .u32 0, .int .u32 0, .int .u32 0, .int .u32 0, .int .u32 0]) (t := 25) ?hr ?_; (case hd => rfl); (case hg => rfl); (case hr => first | (go_simp; done) | (go_simp; rfl))
   intro gb318 hg w16 hbox hb
   have n0_ := aM5_ (Kd.R_below q5x6_ hb)
   have n1_ := aM5_ (kB5_ (g := gb311) (o := .cells #[.bool a1.f0, .int .u32 a1.f1.f0, .int .u32 a1.f1.f1, .int .u32 a1.f1.f2, .int .u32 a1.f1.f3, .int .u32 a1.f1.f4, .int .u32 a1.f1.f5] 33 (0, 0)) q5x1_ hb)
   have n2_ := aM5_ (below_step q5x4_ hb)
   have n3_ := aM5_ (hbox)
   have n4_ := aM5_ ((q5x19_ : w.heap.size ≤ gb318))
   have n5_ := aM5_ ((q5x19_ : w.heap.size ≤ gb318))
   have n6_ := aM5_ ((q5x8_ : gb311 ≠ gb318))
   have n7_ := aM5_ ((q5x9_ : gb318 ≠ gb311))
   clear HO314 BK311 HB
   have HO314 := n0_
   have BK311 := n1_
   have HB := n2_
   have BK318 := n3_
   have GW318 := n4_
   have GE318 := n5_
   have NB311_318 := n6_
   have NB318_311 := n7_
   clear n0_ n1_ n2_ n3_ n4_ n5_ n6_ n7_ hb hbox hg
   refine hK.out _ _ ⟨(kC5_ BK311.out 0).trans rfl, (kC5_ BK311.out 1).trans rfl, (kC5_ BK311.out 2).trans rfl, (kC5_ BK311.out 3).trans rfl, (kC5_ BK311.out 4).trans rfl, (kC5_ BK311.out 5).trans rfl, (kC5_ BK311.out 6).trans rfl⟩ (fun hHeld => ?_)
   clear hK K
   refine norm_ (a' := ?_) ?_ ?_
   rotate_left
   ·exact q5x23_
   refine one_ (i := 3) (N := some 19) #[true, true, true, true, true, false, false, false, false, true, false, false] rfl rfl (one_of HT_.out (by kernel_rfl)) (by decide) (fun K hK => ?_)
   refine goes_ Try.func18 (by kernel_rfl) rfl #[.agg #[.bool a1.f0, .int .u32 a1.f1.f0, .int .u32 a1.f1.f1, .int .u32 a1.f1.f2, .int .u32 a1.f1.f3, .int .u32 a1.f1.f4, .int .u32 a1.f1.f5]] (by rfl) rfl rfl q5x2_ ?_
   with_reducible refine (laws_toWide.calls k a1 t315 _ A7.out).mono ?_
   rintro e w17 ⟨rfl, hb⟩
   refine ⟨_, rfl, ?_⟩
   have n0_ := aM5_ (Kd.R_below q5x6_ hb)
   have n1_ := aM5_ (kB5_ (g := gb311) (o := .cells #[.bool a1.f0, .int .u32 a1.f1.f0, .int .u32 a1.f1.f1, .int .u32 a1.f1.f2, .int .u32 a1.f1.f3, .int .u32 a1.f1.f4, .int .u32 a1.f1.f5] 33 (0, 0)) q5x1_ hb)
   have n2_ := aM5_ (kB5_ (g := gb318) (o := .cells #[.bool false, .int .u32 0, .int .u32 0, .int .u32 0, .int .u32 0, .int .u32 0, .int .u32 0] 25 (0, 0)) q5x5_ hb)
   have n3_ := aM5_ (below_step q5x3_ hb)
   clear HO314 BK311 BK318 HB
   have HO314 := n0_
   have BK311 := n1_
   have BK318 := n2_
   have HB := n3_
   clear n0_ n1_ n2_ n3_
   (try clear hb)
   (try clear hb2)
   (try clear hk)
   (try clear hi)
   obtain ⟨Ao18, co18, eo18⟩ := Kd.R_slice HO314.out
   (first | subst eo18 | (injection eo18 with f1_ f2_ f3_; have f4_ := f1_.symm; have f5_ := f3_.symm; clear f1_ f2_ f3_; subst f4_; subst f5_))
   refine hK.out _ _ ⟨(kC5_ BK311.out 0).trans rfl, (kC5_ BK311.out 1).trans rfl, (kC5_ BK311.out 2).trans rfl, (kC5_ BK311.out 3).trans rfl, (kC5_ BK311.out 4).trans rfl, (kC5_ BK311.out 5).trans rfl, (kC5_ BK311.out 6).trans rfl⟩ (fun hHeld => ?_)
   clear hK K
   refine norm_ (a' := ?_) ?_ ?_
   rotate_left
   ·exact q5x24_
   refine one_ (i := 5) (N := some 21) #[true, true, true, true, true, true, false, false, false, true, false, false] rfl rfl (one_of HT_.out (by kernel_rfl)) (by decide) (fun K hK => ?_)
   refine goes_ Try.func16 (by kernel_rfl) rfl #[.slice Ao18 t312.length co18, .agg #[.bool t315.f0, .int .u32 t315.f1.f0, .int .u32 t315.f1.f1, .int .u32 t315.f1.f2, .int .u32 t315.f1.f3, .int .u32 t315.f1.f4, .int .u32 t315.f1.f5], .int .i64 a2] (by rfl) rfl rfl q5x2_ ?_
   with_reducible refine (spec_ValueAt.calls k _ _ t312 t315 a2 t316 t317 _ ?side1 ?side2 A8.out).mono ?_
   (case side1 => repeat (first | exact (Kd.R_reads' HO314.out).2.2 | (with_reducible refine Kd.C_alloc ?_ _) | (with_reducible refine Kd.C_drewN ?_ _) | (with_reducible refine Kd.C_drew ?_)))
   (case side2 => exact (Kd.R_reads' HO314.out).2.1)
   rintro e w19 ⟨rfl, hb⟩
   refine ⟨_, rfl, ?_⟩
   have n0_ := aM5_ (Kd.R_below q5x6_ hb)
   have n1_ := aM5_ (kB5_ (g := gb311) (o := .cells #[.bool a1.f0, .int .u32 a1.f1.f0, .int .u32 a1.f1.f1, .int .u32 a1.f1.f2, .int .u32 a1.f1.f3, .int .u32 a1.f1.f4, .int .u32 a1.f1.f5] 33 (0, 0)) q5x1_ hb)
   have n2_ := aM5_ (kB5_ (g := gb318) (o := .cells #[.bool false, .int .u32 0, .int .u32 0, .int .u32 0, .int .u32 0, .int .u32 0, .int .u32 0] 25 (0, 0)) q5x5_ hb)
   have n3_ := aM5_ (below_step q5x3_ hb)
   clear HO314 BK311 BK318 HB
   have HO314 := n0_
   have BK311 := n1_
   have BK318 := n2_
   have HB := n3_
   clear n0_ n1_ n2_ n3_
   (try clear hb)
   (try clear hb2)
   (try clear hk)
   (try clear hi)
   refine hK.out _ _ ⟨(kC5_ BK311.out 0).trans rfl, (kC5_ BK311.out 1).trans rfl, (kC5_ BK311.out 2).trans rfl, (kC5_ BK311.out 3).trans rfl, (kC5_ BK311.out 4).trans rfl, (kC5_ BK311.out 5).trans rfl, (kC5_ BK311.out 6).trans rfl⟩ (fun hHeld => ?_)
   clear hK K
   refine norm_ (a' := ?_) ?_ ?_
   rotate_left
   ·exact q5x25_
   refine pure_ (i := 6) (N := some 15) (v := ?_) (a' := ?_) #[true, true, true, true, true, true, true, false, false, true, false, false] rfl rfl (any_of HT_.out (by kernel_rfl)) (fun _ _ _ h => h) (Or.inl ⟨by rfl, ?_⟩) ?_ ?_
   rotate_left
   ·exact q5x21_
   rotate_left
   ·exact q5x22_
   refine pure_ (i := 7) (N := some 22) (v := ?_) (a' := ?_) #[true, true, true, true, true, true, true, true, false, true, false, false] rfl rfl (any_of HT_.out (by kernel_rfl)) (fun _ _ _ h => h) (Or.inl ⟨by rfl, ?_⟩) ?_ ?_
   rotate_left
   ·exact q5x21_
   rotate_left
   ·exact q5x22_
   refine pure_ (i := 8) (N := some 23) (v := ?_) (a' := ?_) #[true, true, true, true, true, true, true, true, true, true, false, false] rfl rfl (any_of HT_.out (by kernel_rfl)) (fun _ _ _ h => h) (Or.inl ⟨by rfl, ?_⟩) ?_ ?_
   rotate_left
   ·exact q5x21_
   rotate_left
   ·exact q5x22_
   exact norm_ q5x16_ (hCont (.slice Ao18 t312.length co18, gb318) _ ⟨hHeld, q5x6_, q5x1_, q5x5_, GW318.out, GE318.out, NB311_318.out, NB318_311.out, q5x3_⟩)
  skip
  refine goes_ Try.func18 (by kernel_rfl) rfl #[.agg #[.bool a1.f0, .int .u32 a1.f1.f0, .int .u32 a1.f1.f1, .int .u32 a1.f1.f2, .int .u32 a1.f1.f3, .int .u32 a1.f1.f4, .int .u32 a1.f1.f5]] (by rfl) rfl rfl q5x2_ ?_
  with_reducible refine (laws_toWide.calls k a1 t315 _ A7.out).mono ?_
  rintro e w16 ⟨rfl, hb⟩
  refine ⟨_, rfl, ?_⟩
  have n0_ := aM5_ (Kd.R_below q5x6_ hb)
  have n1_ := aM5_ (kB5_ (g := gb311) (o := .cells #[.bool a1.f0, .int .u32 a1.f1.f0, .int .u32 a1.f1.f1, .int .u32 a1.f1.f2, .int .u32 a1.f1.f3, .int .u32 a1.f1.f4, .int .u32 a1.f1.f5] 33 (0, 0)) q5x1_ hb)
  have n2_ := aM5_ (below_step q5x4_ hb)
  clear HO314 BK311 HB
  have HO314 := n0_
  have BK311 := n1_
  have HB := n2_
  clear n0_ n1_ n2_
  (try clear hb)
  (try clear hb2)
  (try clear hk)
  (try clear hi)
  obtain ⟨Ao17, co17, eo17⟩ := Kd.R_slice HO314.out
  (first | subst eo17 | (injection eo17 with f1_ f2_ f3_; have f4_ := f1_.symm; have f5_ := f3_.symm; clear f1_ f2_ f3_; subst f4_; subst f5_))
  refine hK.out _ _ ⟨(kC5_ BK311.out 0).trans rfl, (kC5_ BK311.out 1).trans rfl, (kC5_ BK311.out 2).trans rfl, (kC5_ BK311.out 3).trans rfl, (kC5_ BK311.out 4).trans rfl, (kC5_ BK311.out 5).trans rfl, (kC5_ BK311.out 6).trans rfl⟩ (fun hHeld => ?_)
  clear hK K
  refine norm_ (a' := ?_) ?_ ?_
  rotate_left
  ·exact q5x24_
  refine two_ (i := 5) (j := 9) (Ni := some 21) (Nj := some 7) #[true, true, true, true, true, true, false, false, false, false, false, false] #[true, true, true, true, true, false, false, false, false, true, false, false] rfl rfl rfl rfl (two_of HT_.out (by kernel_rfl)) (by decide) (by decide) (fun K hK => ?_) (fun K hK => ?_)
  ·skip
   refine goes_ Try.func16 (by kernel_rfl) rfl #[.slice Ao17 t312.length co17, .agg #[.bool t315.f0, .int .u32 t315.f1.f0, .int .u32 t315.f1.f1, .int .u32 t315.f1.f2, .int .u32 t315.f1.f3, .int .u32 t315.f1.f4, .int .u32 t315.f1.f5], .int .i64 a2] (by rfl) rfl rfl q5x2_ ?_
   with_reducible refine (spec_ValueAt.calls k _ _ t312 t315 a2 t316 t317 _ ?side1 ?side2 A8.out).mono ?_
   (case side1 => repeat (first | exact (Kd.R_reads' HO314.out).2.2 | (with_reducible refine Kd.C_alloc ?_ _) | (with_reducible refine Kd.C_drewN ?_ _) | (with_reducible refine Kd.C_drew ?_)))
   (case side2 => exact (Kd.R_reads' HO314.out).2.1)
   rintro e w18 ⟨rfl, hb⟩
   refine ⟨_, rfl, ?_⟩
   have n0_ := aM5_ (Kd.R_below q5x6_ hb)
   have n1_ := aM5_ (kB5_ (g := gb311) (o := .cells #[.bool a1.f0, .int .u32 a1.f1.f0, .int .u32 a1.f1.f1, .int .u32 a1.f1.f2, .int .u32 a1.f1.f3, .int .u32 a1.f1.f4, .int .u32 a1.f1.f5] 33 (0, 0)) q5x1_ hb)
   have n2_ := aM5_ (below_step q5x4_ hb)
   clear HO314 BK311 HB
   have HO314 := n0_
   have BK311 := n1_
   have HB := n2_
   clear n0_ n1_ n2_
   (try clear hb)
   (try clear hb2)
   (try clear hk)
   (try clear hi)
   refine hK.out _ _ ⟨(kC5_ BK311.out 0).trans rfl, (kC5_ BK311.out 1).trans rfl, (kC5_ BK311.out 2).trans rfl, (kC5_ BK311.out 3).trans rfl, (kC5_ BK311.out 4).trans rfl, (kC5_ BK311.out 5).trans rfl, (kC5_ BK311.out 6).trans rfl⟩ (fun hHeld => ?_)
   clear hK K
   refine norm_ (a' := ?_) ?_ ?_
   rotate_left
   ·exact q5x25_
   refine pure_ (i := 6) (N := some 15) (v := ?_) (a' := ?_) #[true, true, true, true, true, true, true, false, false, false, false, false] rfl rfl (any_of HT_.out (by kernel_rfl)) (fun _ _ _ h => h) (Or.inl ⟨by rfl, ?_⟩) ?_ ?_
   rotate_left
   ·exact q5x21_
   rotate_left
   ·exact q5x22_
   refine pure_ (i := 7) (N := some 22) (v := ?_) (a' := ?_) #[true, true, true, true, true, true, true, true, false, false, false, false] rfl rfl (any_of HT_.out (by kernel_rfl)) (fun _ _ _ h => h) (Or.inl ⟨by rfl, ?_⟩) ?_ ?_
   rotate_left
   ·exact q5x21_
   rotate_left
   ·exact q5x22_
   refine pure_ (i := 8) (N := some 23) (v := ?_) (a' := ?_) #[true, true, true, true, true, true, true, true, true, false, false, false] rfl rfl (any_of HT_.out (by kernel_rfl)) (fun _ _ _ h => h) (Or.inl ⟨by rfl, ?_⟩) ?_ ?_
   rotate_left
   ·exact q5x21_
   rotate_left
   ·exact q5x22_
   refine one_ (i := 9) (N := some 7) #[true, true, true, true, true, true, true, true, true, true, false, false] rfl rfl (one_of HT_.out (by kernel_rfl)) (by decide) (fun K hK => ?_)
   refine box_step ?hg (N := 7) ?hd (cs := #[.bool false, .int .u32 0, .int .u32 0, .int .u32 0, .int .u32 0, .int .u32 0, .int .u32 0]) (t := 25) ?hr ?_; (case hd => rfl); (case hg => rfl); (case hr => first | (go_simp; done) | (go_simp; rfl))
   intro gb318 hg w19 hbox hb
   have n0_ := aM5_ (Kd.R_below q5x6_ hb)
   have n1_ := aM5_ (kB5_ (g := gb311) (o := .cells #[.bool a1.f0, .int .u32 a1.f1.f0, .int .u32 a1.f1.f1, .int .u32 a1.f1.f2, .int .u32 a1.f1.f3, .int .u32 a1.f1.f4, .int .u32 a1.f1.f5] 33 (0, 0)) q5x1_ hb)
   have n2_ := aM5_ (below_step q5x4_ hb)
   have n3_ := aM5_ (hbox)
   have n4_ := aM5_ ((q5x19_ : w.heap.size ≤ gb318))
   have n5_ := aM5_ ((q5x19_ : w.heap.size ≤ gb318))
   have n6_ := aM5_ ((q5x8_ : gb311 ≠ gb318))
   have n7_ := aM5_ ((q5x9_ : gb318 ≠ gb311))
   clear HO314 BK311 HB
   have HO314 := n0_
   have BK311 := n1_
   have HB := n2_
   have BK318 := n3_
   have GW318 := n4_
   have GE318 := n5_
   have NB311_318 := n6_
   have NB318_311 := n7_
   clear n0_ n1_ n2_ n3_ n4_ n5_ n6_ n7_ hb hbox hg
   refine hK.out _ _ ⟨(kC5_ BK311.out 0).trans rfl, (kC5_ BK311.out 1).trans rfl, (kC5_ BK311.out 2).trans rfl, (kC5_ BK311.out 3).trans rfl, (kC5_ BK311.out 4).trans rfl, (kC5_ BK311.out 5).trans rfl, (kC5_ BK311.out 6).trans rfl⟩ (fun hHeld => ?_)
   clear hK K
   refine norm_ (a' := ?_) ?_ ?_
   rotate_left
   ·exact q5x23_
   exact norm_ q5x16_ (hCont (.slice Ao17 t312.length co17, gb318) _ ⟨hHeld, q5x6_, q5x1_, q5x5_, GW318.out, GE318.out, NB311_318.out, NB318_311.out, q5x3_⟩)
  skip
  refine box_step ?hg (N := 7) ?hd (cs := #[.bool false, .int .u32 0, .int .u32 0, .int .u32 0, .int .u32 0, .int .u32 0, .int .u32 0]) (t := 25) ?hr ?_; (case hd => rfl); (case hg => rfl); (case hr => first | (go_simp; done) | (go_simp; rfl))
  intro gb318 hg w17 hbox hb
  have n0_ := aM5_ (Kd.R_below q5x6_ hb)
  have n1_ := aM5_ (kB5_ (g := gb311) (o := .cells #[.bool a1.f0, .int .u32 a1.f1.f0, .int .u32 a1.f1.f1, .int .u32 a1.f1.f2, .int .u32 a1.f1.f3, .int .u32 a1.f1.f4, .int .u32 a1.f1.f5] 33 (0, 0)) q5x1_ hb)
  have n2_ := aM5_ (below_step q5x4_ hb)
  have n3_ := aM5_ (hbox)
  have n4_ := aM5_ ((q5x19_ : w.heap.size ≤ gb318))
  have n5_ := aM5_ ((q5x19_ : w.heap.size ≤ gb318))
  have n6_ := aM5_ ((q5x8_ : gb311 ≠ gb318))
  have n7_ := aM5_ ((q5x9_ : gb318 ≠ gb311))
  clear HO314 BK311 HB
  have HO314 := n0_
  have BK311 := n1_
  have HB := n2_
  have BK318 := n3_
  have GW318 := n4_
  have GE318 := n5_
  have NB311_318 := n6_
  have NB318_311 := n7_
  clear n0_ n1_ n2_ n3_ n4_ n5_ n6_ n7_ hb hbox hg
  obtain ⟨Ao18, co18, eo18⟩ := Kd.R_slice HO314.out
  (first | subst eo18 | (injection eo18 with f1_ f2_ f3_; have f4_ := f1_.symm; have f5_ := f3_.symm; clear f1_ f2_ f3_; subst f4_; subst f5_))
  refine hK.out _ _ ⟨(kC5_ BK311.out 0).trans rfl, (kC5_ BK311.out 1).trans rfl, (kC5_ BK311.out 2).trans rfl, (kC5_ BK311.out 3).trans rfl, (kC5_ BK311.out 4).trans rfl, (kC5_ BK311.out 5).trans rfl, (kC5_ BK311.out 6).trans rfl⟩ (fun hHeld => ?_)
  clear hK K
  refine norm_ (a' := ?_) ?_ ?_
  rotate_left
  ·exact q5x23_
  refine one_ (i := 5) (N := some 21) #[true, true, true, true, true, true, false, false, false, true, false, false] rfl rfl (one_of HT_.out (by kernel_rfl)) (by decide) (fun K hK => ?_)
  refine goes_ Try.func16 (by kernel_rfl) rfl #[.slice Ao18 t312.length co18, .agg #[.bool t315.f0, .int .u32 t315.f1.f0, .int .u32 t315.f1.f1, .int .u32 t315.f1.f2, .int .u32 t315.f1.f3, .int .u32 t315.f1.f4, .int .u32 t315.f1.f5], .int .i64 a2] (by rfl) rfl rfl q5x2_ ?_
  with_reducible refine (spec_ValueAt.calls k _ _ t312 t315 a2 t316 t317 _ ?side1 ?side2 A8.out).mono ?_
  (case side1 => repeat (first | exact (Kd.R_reads' HO314.out).2.2 | (with_reducible refine Kd.C_alloc ?_ _) | (with_reducible refine Kd.C_drewN ?_ _) | (with_reducible refine Kd.C_drew ?_)))
  (case side2 => exact (Kd.R_reads' HO314.out).2.1)
  rintro e w19 ⟨rfl, hb⟩
  refine ⟨_, rfl, ?_⟩
  have n0_ := aM5_ (Kd.R_below q5x6_ hb)
  have n1_ := aM5_ (kB5_ (g := gb311) (o := .cells #[.bool a1.f0, .int .u32 a1.f1.f0, .int .u32 a1.f1.f1, .int .u32 a1.f1.f2, .int .u32 a1.f1.f3, .int .u32 a1.f1.f4, .int .u32 a1.f1.f5] 33 (0, 0)) q5x1_ hb)
  have n2_ := aM5_ (kB5_ (g := gb318) (o := .cells #[.bool false, .int .u32 0, .int .u32 0, .int .u32 0, .int .u32 0, .int .u32 0, .int .u32 0] 25 (0, 0)) q5x5_ hb)
  have n3_ := aM5_ (below_step q5x3_ hb)
  clear HO314 BK311 BK318 HB
  have HO314 := n0_
  have BK311 := n1_
  have BK318 := n2_
  have HB := n3_
  clear n0_ n1_ n2_ n3_
  (try clear hb)
  (try clear hb2)
  (try clear hk)
  (try clear hi)
  refine hK.out _ _ ⟨(kC5_ BK311.out 0).trans rfl, (kC5_ BK311.out 1).trans rfl, (kC5_ BK311.out 2).trans rfl, (kC5_ BK311.out 3).trans rfl, (kC5_ BK311.out 4).trans rfl, (kC5_ BK311.out 5).trans rfl, (kC5_ BK311.out 6).trans rfl⟩ (fun hHeld => ?_)
  clear hK K
  refine norm_ (a' := ?_) ?_ ?_
  rotate_left
  ·exact q5x25_
  refine pure_ (i := 6) (N := some 15) (v := ?_) (a' := ?_) #[true, true, true, true, true, true, true, false, false, true, false, false] rfl rfl (any_of HT_.out (by kernel_rfl)) (fun _ _ _ h => h) (Or.inl ⟨by rfl, ?_⟩) ?_ ?_
  rotate_left
  ·exact q5x21_
  rotate_left
  ·exact q5x22_
  refine pure_ (i := 7) (N := some 22) (v := ?_) (a' := ?_) #[true, true, true, true, true, true, true, true, false, true, false, false] rfl rfl (any_of HT_.out (by kernel_rfl)) (fun _ _ _ h => h) (Or.inl ⟨by rfl, ?_⟩) ?_ ?_
  rotate_left
  ·exact q5x21_
  rotate_left
  ·exact q5x22_
  refine pure_ (i := 8) (N := some 23) (v := ?_) (a' := ?_) #[true, true, true, true, true, true, true, true, true, true, false, false] rfl rfl (any_of HT_.out (by kernel_rfl)) (fun _ _ _ h => h) (Or.inl ⟨by rfl, ?_⟩) ?_ ?_
  rotate_left
  ·exact q5x21_
  rotate_left
  ·exact q5x22_
  exact norm_ q5x16_ (hCont (.slice Ao18 t312.length co18, gb318) _ ⟨hHeld, q5x6_, q5x1_, q5x5_, GW318.out, GE318.out, NB311_318.out, NB318_311.out, q5x3_⟩)
 rintro ⟨v313, gb318⟩ w20 ⟨hS_, h0_, h1_, h2_, h3_, h4_, h5_, h6_, h7_⟩
 have n0_ : Aside0 (Kd.R (Kd.int .i64) 2 w20 w.heap.size (fun _ => True) v313 t312) := ⟨h0_⟩
 have n1_ : Aside0 (w20.heap[gb311]? = some (.cells #[.bool a1.f0, .int .u32 a1.f1.f0, .int .u32 a1.f1.f1, .int .u32 a1.f1.f2, .int .u32 a1.f1.f3, .int .u32 a1.f1.f4, .int .u32 a1.f1.f5] 33 (0, 0))) := ⟨h1_⟩
 have n2_ : Aside0 (w20.heap[gb318]? = some (.cells #[.bool false, .int .u32 0, .int .u32 0, .int .u32 0, .int .u32 0, .int .u32 0, .int .u32 0] 25 (0, 0))) := ⟨h2_⟩
 have n3_ : Aside0 (w.heap.size ≤ gb318) := ⟨h3_⟩
 have n4_ : Aside0 (w.heap.size ≤ gb318) := ⟨h4_⟩
 have n5_ : Aside0 (gb311 ≠ gb318) := ⟨h5_⟩
 have n6_ : Aside0 (gb318 ≠ gb311) := ⟨h6_⟩
 have n7_ : Aside0 (Below w.heap.size w w20) := ⟨h7_⟩
 clear BK311 HB h0_ h1_ h2_ h3_ h4_ h5_ h6_ h7_
 have HO314 := n0_
 have BK311 := n1_
 have BK318 := n2_
 have GW318 := n3_
 have GE318 := n4_
 have NB311_318 := n5_
 have NB318_311 := n6_
 have HB := n7_
 clear n0_ n1_ n2_ n3_ n4_ n5_ n6_ n7_
 have hHeld : w20.cell? ⟨gb311, 0, none⟩ = some (.bool a1.f0) ∧ w20.cell? ⟨gb311, 1, none⟩ = some (.int .u32 a1.f1.f0) ∧ w20.cell? ⟨gb311, 2, none⟩ = some (.int .u32 a1.f1.f1) ∧ w20.cell? ⟨gb311, 3, none⟩ = some (.int .u32 a1.f1.f2) ∧ w20.cell? ⟨gb311, 4, none⟩ = some (.int .u32 a1.f1.f3) ∧ w20.cell? ⟨gb311, 5, none⟩ = some (.int .u32 a1.f1.f4) ∧ w20.cell? ⟨gb311, 6, none⟩ = some (.int .u32 a1.f1.f5) := hS_
 refine norm_ (a' := ?_) ?_ ?_
 rotate_left
 ·simp only [putAll, Act.put, List.setIfInBounds_toArray, List.set_cons_zero, List.set_cons_succ]
  rfl
 refine one_store_ (i := 10) (w1 := (World.setCell (World.setCell (World.setCell (World.setCell (World.setCell (World.setCell (World.setCell w20 ⟨gb318, 0, none⟩ (.bool t316.f0)) ⟨gb318, 1, none⟩ (.int .u32 t316.f1.f0)) ⟨gb318, 2, none⟩ (.int .u32 t316.f1.f1)) ⟨gb318, 3, none⟩ (.int .u32 t316.f1.f2)) ⟨gb318, 4, none⟩ (.int .u32 t316.f1.f3)) ⟨gb318, 5, none⟩ (.int .u32 t316.f1.f4)) ⟨gb318, 6, none⟩ (.int .u32 t316.f1.f5))) #[true, true, true, true, true, true, true, true, true, true, true, false] rfl rfl (by kernel_rfl) (by decide) (by rfl) (run_put7_ rfl (show _ = Value.pointer (some ⟨gb318, 0, none⟩) from by rfl) (show _ = Value.agg #[.bool t316.f0, .int .u32 t316.f1.f0, .int .u32 t316.f1.f1, .int .u32 t316.f1.f2, .int .u32 t316.f1.f3, .int .u32 t316.f1.f4, .int .u32 t316.f1.f5] from by rfl) q5x5_ (by kernel_rfl) (by rfl)) ⟨((far7_ (g := gb318) NB311_318.out).trans (hHeld.1)), ((far7_ (g := gb318) NB311_318.out).trans (hHeld.2.1)), ((far7_ (g := gb318) NB311_318.out).trans (hHeld.2.2.1)), ((far7_ (g := gb318) NB311_318.out).trans (hHeld.2.2.2.1)), ((far7_ (g := gb318) NB311_318.out).trans (hHeld.2.2.2.2.1)), ((far7_ (g := gb318) NB311_318.out).trans (hHeld.2.2.2.2.2.1)), ((far7_ (g := gb318) NB311_318.out).trans (hHeld.2.2.2.2.2.2))⟩ (fun hHeld => ?_)
 refine pure_ (i := 11) (N := some 8) (v := ?_) (a' := ?_) #[true, true, true, true, true, true, true, true, true, true, true, true] rfl rfl (any_of HT_.out (by kernel_rfl)) (fun _ _ _ h => h) (Or.inl ⟨by rfl, ?_⟩) ?_ ?_
 rotate_left
 ·exact q5x21_
 rotate_left
 ·exact q5x22_
 refine done_ (done_of HT_.out (by kernel_rfl)) ?_
 go_upto_region 6 with (first | ((with_reducible refine gate_callee (f := 17) rfl ?_); refine goesL_ (some 25) rfl rfl Try.func17 (by kernel_rfl) rfl #[.slice A0 l0.length c0] rfl q5x2_ ?_; (with_reducible refine (laws_toInt64S.calls k _ _ l0 t319 _ ?side1 ?side2 A9.out).mono ?_); (case side1 => exact Kd.C_below HR0.out q5x3_); (case side2 => exact HC0.out); rintro e w28 ⟨v320, rfl, ho0, hb⟩; refine ⟨_, rfl, ?_⟩; have n0_ := aM5_ (Kd.R_elder' q5x10_ (Kd.R_base ho0) hb); have n1_ := aM5_ (Kd.R_lower (Kd.R_new' ho0 (Kd.R_lt q5x10_)) (below_size q5x3_)); have n2_ := aM5_ (kB5_ (g := gb311) (o := .cells #[.bool a1.f0, .int .u32 a1.f1.f0, .int .u32 a1.f1.f1, .int .u32 a1.f1.f2, .int .u32 a1.f1.f3, .int .u32 a1.f1.f4, .int .u32 a1.f1.f5] 33 (0, 0)) (by (with_reducible repeat (first | refine blk_drewN ?_ _ | refine blk_drew ?_ | refine blk_alloc ?_ _ | refine blk_far ?_ NB311_318.out _)); (with_reducible repeat (first | refine blk_drewN ?_ _ | refine blk_drew ?_ | refine blk_alloc ?_ _)); exact BK311.out) hb); have n3_ := aM5_ (kB5_ (g := gb318) (o := .cells #[.bool t316.f0, .int .u32 t316.f1.f0, .int .u32 t316.f1.f1, .int .u32 t316.f1.f2, .int .u32 t316.f1.f3, .int .u32 t316.f1.f4, .int .u32 t316.f1.f5] 25 (0, 0)) (by (with_reducible repeat (first | refine blk_drewN ?_ _ | refine blk_drew ?_ | refine blk_alloc ?_ _)); refine puts7_ (.bool false) (.int .u32 0) (.int .u32 0) (.int .u32 0) (.int .u32 0) (.int .u32 0) (.int .u32 0) ?_; (with_reducible repeat (first | refine blk_drewN ?_ _ | refine blk_drew ?_ | refine blk_alloc ?_ _)); exact BK318.out) hb); have n4_ := aM5_ (below_step q5x3_ hb); clear HO314 BK311 BK318 HB; have HO314 := n0_; have HO321 := n1_; have BK311 := n2_; have BK318 := n3_; have HB := n4_; clear n0_ n1_ n2_ n3_ n4_; (try clear hb); (try clear hb2); (try clear hk); (try clear hi); (try clear ho0); have hnb29 := NB311_318.out; have hnc29 := NB318_311.out; obtain ⟨hcz30_0, hcz30_1, hcz30_2, hcz30_3, hcz30_4, hcz30_5, hcz30_6⟩ := cells7_ (show w28.heap[gb311]? = some (.cells #[.bool a1.f0, .int .u32 a1.f1.f0, .int .u32 a1.f1.f1, .int .u32 a1.f1.f2, .int .u32 a1.f1.f3, .int .u32 a1.f1.f4, .int .u32 a1.f1.f5] 33 (0, 0)) from BK311.out); obtain ⟨hfz30_0, hfz30_1, hfz30_2, hfz30_3, hfz30_4, hfz30_5, hfz30_6⟩ := frozen7_ BK311.out) | ((with_reducible refine gate_callee (f := 18) rfl ?_); refine goesL_ (some 29) rfl rfl Try.func18 (by kernel_rfl) rfl #[.agg #[.bool a1.f0, .int .u32 a1.f1.f0, .int .u32 a1.f1.f1, .int .u32 a1.f1.f2, .int .u32 a1.f1.f3, .int .u32 a1.f1.f4, .int .u32 a1.f1.f5]] rfl q5x2_ ?_; (with_reducible refine (laws_toWide.calls k a1 t322 _ A10.out).mono ?_); rintro e w31 ⟨rfl, hb⟩; refine ⟨_, rfl, ?_⟩; have n0_ := aM5_ (Kd.R_below q5x6_ hb); have n1_ := aM5_ (Kd.R_below q5x20_ hb); have n2_ := aM5_ (kB5_ (g := gb311) (o := .cells #[.bool a1.f0, .int .u32 a1.f1.f0, .int .u32 a1.f1.f1, .int .u32 a1.f1.f2, .int .u32 a1.f1.f3, .int .u32 a1.f1.f4, .int .u32 a1.f1.f5] 33 (0, 0)) q5x1_ hb); have n3_ := aM5_ (kB5_ (g := gb318) (o := .cells #[.bool t316.f0, .int .u32 t316.f1.f0, .int .u32 t316.f1.f1, .int .u32 t316.f1.f2, .int .u32 t316.f1.f3, .int .u32 t316.f1.f4, .int .u32 t316.f1.f5] 25 (0, 0)) q5x5_ hb); have n4_ := aM5_ (below_step q5x3_ hb); clear HO314 HO321 BK311 BK318 HB; have HO314 := n0_; have HO321 := n1_; have BK311 := n2_; have BK318 := n3_; have HB := n4_; clear n0_ n1_ n2_ n3_ n4_; (try clear hb); (try clear hb2); (try clear hk); (try clear hi); obtain ⟨Ao32, co32, eo32⟩ := Kd.R_slice HO321.out; subst eo32) | ((with_reducible refine gate_callee (f := 19) rfl ?_); refine goesL_ (some 31) rfl rfl Try.func19 (by kernel_rfl) rfl #[.slice Ao32 t319.length co32, .agg #[.bool t322.f0, .int .u32 t322.f1.f0, .int .u32 t322.f1.f1, .int .u32 t322.f1.f2, .int .u32 t322.f1.f3, .int .u32 t322.f1.f4, .int .u32 t322.f1.f5], .int .i64 a2] rfl q5x2_ ?_; (with_reducible refine (impl_ValueAt.calls k _ _ t319 t322 a2 t323 t324 _ ?side1 ?side2 A11.out).mono ?_); (case side1 => repeat (first | exact (Kd.R_reads' HO321.out).2.2 | (with_reducible refine Kd.C_alloc ?_ _) | (with_reducible refine Kd.C_drewN ?_ _) | (with_reducible refine Kd.C_drew ?_))); (case side2 => exact (Kd.R_reads' HO321.out).2.1); rintro e w33 ⟨rfl, hb⟩; refine ⟨_, rfl, ?_⟩; have n0_ := aM5_ (Kd.R_below q5x6_ hb); have n1_ := aM5_ (Kd.R_below q5x20_ hb); have n2_ := aM5_ (kB5_ (g := gb311) (o := .cells #[.bool a1.f0, .int .u32 a1.f1.f0, .int .u32 a1.f1.f1, .int .u32 a1.f1.f2, .int .u32 a1.f1.f3, .int .u32 a1.f1.f4, .int .u32 a1.f1.f5] 33 (0, 0)) q5x1_ hb); have n3_ := aM5_ (kB5_ (g := gb318) (o := .cells #[.bool t316.f0, .int .u32 t316.f1.f0, .int .u32 t316.f1.f1, .int .u32 t316.f1.f2, .int .u32 t316.f1.f3, .int .u32 t316.f1.f4, .int .u32 t316.f1.f5] 25 (0, 0)) q5x5_ hb); have n4_ := aM5_ (below_step q5x3_ hb); clear HO314 HO321 BK311 BK318 HB; have HO314 := n0_; have HO321 := n1_; have BK311 := n2_; have BK318 := n3_; have HB := n4_; clear n0_ n1_ n2_ n3_ n4_; (try clear hb); (try clear hb2); (try clear hk); (try clear hi)) | ((with_reducible refine gate_dst (N := 10) rfl ?_); refine box_event ?hg (N := 10) ?hd (cs := #[.bool false, .int .u32 0, .int .u32 0, .int .u32 0, .int .u32 0, .int .u32 0, .int .u32 0]) (t := 25) ?hr ?_; (case hd => rfl); (case hg => rfl); (case hr => first | (go_simp; done) | (go_simp; rfl)); intro gb325 hg w34 hbox hb; have n0_ := aM5_ (Kd.R_below q5x6_ hb); have n1_ := aM5_ (Kd.R_below q5x20_ hb); have n2_ := aM5_ (kB5_ (g := gb311) (o := .cells #[.bool a1.f0, .int .u32 a1.f1.f0, .int .u32 a1.f1.f1, .int .u32 a1.f1.f2, .int .u32 a1.f1.f3, .int .u32 a1.f1.f4, .int .u32 a1.f1.f5] 33 (0, 0)) q5x1_ hb); have n3_ := aM5_ (kB5_ (g := gb318) (o := .cells #[.bool t316.f0, .int .u32 t316.f1.f0, .int .u32 t316.f1.f1, .int .u32 t316.f1.f2, .int .u32 t316.f1.f3, .int .u32 t316.f1.f4, .int .u32 t316.f1.f5] 25 (0, 0)) q5x5_ hb); have n4_ := aM5_ (below_step q5x3_ hb); have n5_ := aM5_ (hbox); have n6_ := aM5_ ((by rw [hg]; exact (below_size q5x3_) : w.heap.size ≤ gb325)); have n7_ := aM5_ ((by rw [hg]; exact (below_size q5x3_) : w.heap.size ≤ gb325)); have n8_ := aM5_ ((q5x8_ : gb311 ≠ gb325)); have n9_ := aM5_ ((q5x9_ : gb325 ≠ gb311)); have n10_ := aM5_ ((by rw [hg]; exact Nat.ne_of_lt (blk_lt (g := gb318) (o := .cells #[.bool t316.f0, .int .u32 t316.f1.f0, .int .u32 t316.f1.f1, .int .u32 t316.f1.f2, .int .u32 t316.f1.f3, .int .u32 t316.f1.f4, .int .u32 t316.f1.f5] 25 (0, 0)) q5x5_) : gb318 ≠ gb325)); have n11_ := aM5_ ((by rw [hg]; exact Nat.ne_of_gt (blk_lt (g := gb318) (o := .cells #[.bool t316.f0, .int .u32 t316.f1.f0, .int .u32 t316.f1.f1, .int .u32 t316.f1.f2, .int .u32 t316.f1.f3, .int .u32 t316.f1.f4, .int .u32 t316.f1.f5] 25 (0, 0)) q5x5_) : gb325 ≠ gb318)); clear HO314 HO321 BK311 BK318 HB; have HO314 := n0_; have HO321 := n1_; have BK311 := n2_; have BK318 := n3_; have HB := n4_; have BK325 := n5_; have GW325 := n6_; have GE325 := n7_; have NB311_325 := n8_; have NB325_311 := n9_; have NB318_325 := n10_; have NB325_318 := n11_; clear n0_ n1_ n2_ n3_ n4_ n5_ n6_ n7_ n8_ n9_ n10_ n11_; clear hb hbox hg; have hnb35 := NB325_311.out; have hnc35 := NB311_325.out; have hnb36 := NB325_318.out; have hnc36 := NB318_325.out; obtain ⟨hcz37_0, hcz37_1, hcz37_2, hcz37_3, hcz37_4, hcz37_5, hcz37_6⟩ := cells7_ (show w34.heap[gb325]? = some (.cells #[.bool false, .int .u32 0, .int .u32 0, .int .u32 0, .int .u32 0, .int .u32 0, .int .u32 0] 25 (0, 0)) from BK325.out); obtain ⟨hfz37_0, hfz37_1, hfz37_2, hfz37_3, hfz37_4, hfz37_5, hfz37_6⟩ := frozen7_ BK325.out))
 (try simp only [Act.put, List.setIfInBounds_toArray, List.set_cons_zero, List.set_cons_succ])
 go_cut [42] (fun v42 wc => ∃ (kq : Nat) (x42_11 : Bool), v42 = .bool x42_11 ∧ Aside0 (laws_FnExactValueAt.j0 kq l0 t319 x42_11 = some r) ∧ Aside0 (kq ≤ k) ∧ Aside0 (Kd.R (Kd.int .i64) 2 wc w.heap.size (fun _ => True) (.slice Ao32 t319.length co32) t319) ∧ Aside0 (wc.heap[gb311]? = some (.cells #[.bool a1.f0, .int .u32 a1.f1.f0, .int .u32 a1.f1.f1, .int .u32 a1.f1.f2, .int .u32 a1.f1.f3, .int .u32 a1.f1.f4, .int .u32 a1.f1.f5] 33 (0, 0))) ∧ Aside0 (wc.heap[gb318]? = some (.cells #[.bool t316.f0, .int .u32 t316.f1.f0, .int .u32 t316.f1.f1, .int .u32 t316.f1.f2, .int .u32 t316.f1.f3, .int .u32 t316.f1.f4, .int .u32 t316.f1.f5] 25 (0, 0))) ∧ Aside0 (wc.heap[gb325]? = some (.cells #[.bool t323.f0, .int .u32 t323.f1.f0, .int .u32 t323.f1.f1, .int .u32 t323.f1.f2, .int .u32 t323.f1.f3, .int .u32 t323.f1.f4, .int .u32 t323.f1.f5] 25 (0, 0))) ∧ Aside0 (Below w.heap.size w wc))
 case first =>
  have H := HC12.out
  clear HC12
  replace H := Option.bind_eq_some_iff.mp H
  obtain ⟨t326, A380, H⟩ := H
  replace H : (if t326 = true then (laws_FnExactValueAt.j0 k l0 t319 (t324 != t317)) else (laws_FnExactValueAt.j0 k l0 t319 true)) = some r := H
  have A38 := aM5_ A380
  clear A380
  by_cases c39 : t326 = true
  ·subst c39
   have H1 : (laws_FnExactValueAt.j0 k l0 t319 (t324 != t317)) = some r := by rw [if_pos rfl] at H; exact H
   clear H
   have H := H1
   clear H1
   have H' := aM5_ H
   clear H
   have hnb40 := NB325_311.out
   have hnc40 := NB311_325.out
   have hnb41 := NB325_318.out
   have hnc41 := NB318_325.out
   obtain ⟨hcz42_0, hcz42_1, hcz42_2, hcz42_3, hcz42_4, hcz42_5, hcz42_6⟩ := cells7_ (show w34.heap[gb325]? = some (.cells #[.bool false, .int .u32 0, .int .u32 0, .int .u32 0, .int .u32 0, .int .u32 0, .int .u32 0] 25 (0, 0)) from BK325.out)
   obtain ⟨hfz42_0, hfz42_1, hfz42_2, hfz42_3, hfz42_4, hfz42_5, hfz42_6⟩ := frozen7_ BK325.out
   have hnb43 := NB318_311.out
   have hnc43 := NB311_318.out
   obtain ⟨hcz44_0, hcz44_1, hcz44_2, hcz44_3, hcz44_4, hcz44_5, hcz44_6⟩ := cells7_ (show w34.heap[gb318]? = some (.cells #[.bool t316.f0, .int .u32 t316.f1.f0, .int .u32 t316.f1.f1, .int .u32 t316.f1.f2, .int .u32 t316.f1.f3, .int .u32 t316.f1.f4, .int .u32 t316.f1.f5] 25 (0, 0)) from BK318.out)
   obtain ⟨hfz44_0, hfz44_1, hfz44_2, hfz44_3, hfz44_4, hfz44_5, hfz44_6⟩ := frozen7_ BK318.out
   go_wp2_with (first | ((with_reducible refine gate_callee (f := 13) rfl ?_); refine goesL_ (some 36) rfl rfl Try.func13 (by kernel_rfl) rfl #[.agg #[.bool t323.f0, .int .u32 t323.f1.f0, .int .u32 t323.f1.f1, .int .u32 t323.f1.f2, .int .u32 t323.f1.f3, .int .u32 t323.f1.f4, .int .u32 t323.f1.f5], .agg #[.bool t316.f0, .int .u32 t316.f1.f0, .int .u32 t316.f1.f1, .int .u32 t316.f1.f2, .int .u32 t316.f1.f3, .int .u32 t316.f1.f4, .int .u32 t316.f1.f5]] rfl q5x2_ ?_; (with_reducible refine (laws_eqWide.calls k t323 t316 true _ A38.out).mono ?_); rintro e w45 ⟨rfl, hb⟩; refine ⟨_, rfl, ?_⟩; have n0_ := aM5_ (Kd.R_below q5x11_ hb); have n1_ := aM5_ (Kd.R_below q5x12_ hb); have n2_ := aM5_ (kB5_ (g := gb311) (o := .cells #[.bool a1.f0, .int .u32 a1.f1.f0, .int .u32 a1.f1.f1, .int .u32 a1.f1.f2, .int .u32 a1.f1.f3, .int .u32 a1.f1.f4, .int .u32 a1.f1.f5] 33 (0, 0)) q5x17_ hb); have n3_ := aM5_ (kB5_ (g := gb318) (o := .cells #[.bool t316.f0, .int .u32 t316.f1.f0, .int .u32 t316.f1.f1, .int .u32 t316.f1.f2, .int .u32 t316.f1.f3, .int .u32 t316.f1.f4, .int .u32 t316.f1.f5] 25 (0, 0)) q5x18_ hb); have n4_ := aM5_ (kB5_ (g := gb325) (o := .cells #[.bool t323.f0, .int .u32 t323.f1.f0, .int .u32 t323.f1.f1, .int .u32 t323.f1.f2, .int .u32 t323.f1.f3, .int .u32 t323.f1.f4, .int .u32 t323.f1.f5] 25 (0, 0)) q5x14_ hb); have n5_ := aM5_ (below_step q5x7_ hb); clear HO314 HO321 BK311 BK318 BK325 HB; have HO314 := n0_; have HO321 := n1_; have BK311 := n2_; have BK318 := n3_; have BK325 := n4_; have HB := n5_; clear n0_ n1_ n2_ n3_ n4_ n5_; (try clear hb); (try clear hb2); (try clear hk); (try clear hi)))
   go_meet
   case rel => exact ⟨_, ((t324 != t317)), (by first | rfl | (simp; done) | (simp [*]; done)), H', ⟨by first | omega | exact Nat.le_refl _⟩, ⟨by (with_reducible repeat (first | apply Kd.R_alloc | apply Kd.R_drewN | apply Kd.R_drew)); exact Kd.R_mono HO321.out (fun _ hk => trivial)⟩, ⟨by (with_reducible repeat (first | refine blk_drewN ?_ _ | refine blk_drew ?_ | refine blk_alloc ?_ _)); exact BK311.out⟩, ⟨by (with_reducible repeat (first | refine blk_drewN ?_ _ | refine blk_drew ?_ | refine blk_alloc ?_ _)); exact BK318.out⟩, ⟨by (with_reducible repeat (first | refine blk_drewN ?_ _ | refine blk_drew ?_ | refine blk_alloc ?_ _)); exact BK325.out⟩, ⟨by repeat (first | (with_reducible first | exact HB.out | apply below_alloc | apply pw_below_drewN | apply below_drew1 | refine below_set ?_ GE311.out | refine below_set ?_ GE318.out | refine below_set ?_ GE325.out) | exact HB.out)⟩⟩
  replace c39 := Bool.eq_false_iff.mpr c39
  subst c39
  have H1 : (laws_FnExactValueAt.j0 k l0 t319 true) = some r := by rw [if_neg (show ¬ (false = true) by decide)] at H; exact H
  clear H
  have H := H1
  clear H1
  have H' := aM5_ H
  clear H
  have hnb46 := NB325_311.out
  have hnc46 := NB311_325.out
  have hnb47 := NB325_318.out
  have hnc47 := NB318_325.out
  obtain ⟨hcz48_0, hcz48_1, hcz48_2, hcz48_3, hcz48_4, hcz48_5, hcz48_6⟩ := cells7_ (show w34.heap[gb325]? = some (.cells #[.bool false, .int .u32 0, .int .u32 0, .int .u32 0, .int .u32 0, .int .u32 0, .int .u32 0] 25 (0, 0)) from BK325.out)
  obtain ⟨hfz48_0, hfz48_1, hfz48_2, hfz48_3, hfz48_4, hfz48_5, hfz48_6⟩ := frozen7_ BK325.out
  have hnb49 := NB318_311.out
  have hnc49 := NB311_318.out
  obtain ⟨hcz50_0, hcz50_1, hcz50_2, hcz50_3, hcz50_4, hcz50_5, hcz50_6⟩ := cells7_ (show w34.heap[gb318]? = some (.cells #[.bool t316.f0, .int .u32 t316.f1.f0, .int .u32 t316.f1.f1, .int .u32 t316.f1.f2, .int .u32 t316.f1.f3, .int .u32 t316.f1.f4, .int .u32 t316.f1.f5] 25 (0, 0)) from BK318.out)
  obtain ⟨hfz50_0, hfz50_1, hfz50_2, hfz50_3, hfz50_4, hfz50_5, hfz50_6⟩ := frozen7_ BK318.out
  go_wp2_with (first | ((with_reducible refine gate_callee (f := 13) rfl ?_); refine goesL_ (some 36) rfl rfl Try.func13 (by kernel_rfl) rfl #[.agg #[.bool t323.f0, .int .u32 t323.f1.f0, .int .u32 t323.f1.f1, .int .u32 t323.f1.f2, .int .u32 t323.f1.f3, .int .u32 t323.f1.f4, .int .u32 t323.f1.f5], .agg #[.bool t316.f0, .int .u32 t316.f1.f0, .int .u32 t316.f1.f1, .int .u32 t316.f1.f2, .int .u32 t316.f1.f3, .int .u32 t316.f1.f4, .int .u32 t316.f1.f5]] rfl q5x2_ ?_; (with_reducible refine (laws_eqWide.calls k t323 t316 false _ A38.out).mono ?_); rintro e w51 ⟨rfl, hb⟩; refine ⟨_, rfl, ?_⟩; have n0_ := aM5_ (Kd.R_below q5x11_ hb); have n1_ := aM5_ (Kd.R_below q5x12_ hb); have n2_ := aM5_ (kB5_ (g := gb311) (o := .cells #[.bool a1.f0, .int .u32 a1.f1.f0, .int .u32 a1.f1.f1, .int .u32 a1.f1.f2, .int .u32 a1.f1.f3, .int .u32 a1.f1.f4, .int .u32 a1.f1.f5] 33 (0, 0)) q5x17_ hb); have n3_ := aM5_ (kB5_ (g := gb318) (o := .cells #[.bool t316.f0, .int .u32 t316.f1.f0, .int .u32 t316.f1.f1, .int .u32 t316.f1.f2, .int .u32 t316.f1.f3, .int .u32 t316.f1.f4, .int .u32 t316.f1.f5] 25 (0, 0)) q5x18_ hb); have n4_ := aM5_ (kB5_ (g := gb325) (o := .cells #[.bool t323.f0, .int .u32 t323.f1.f0, .int .u32 t323.f1.f1, .int .u32 t323.f1.f2, .int .u32 t323.f1.f3, .int .u32 t323.f1.f4, .int .u32 t323.f1.f5] 25 (0, 0)) q5x14_ hb); have n5_ := aM5_ (below_step q5x7_ hb); clear HO314 HO321 BK311 BK318 BK325 HB; have HO314 := n0_; have HO321 := n1_; have BK311 := n2_; have BK318 := n3_; have BK325 := n4_; have HB := n5_; clear n0_ n1_ n2_ n3_ n4_ n5_; (try clear hb); (try clear hb2); (try clear hk); (try clear hi)))
  go_meet
  case rel => exact ⟨_, (true), (by first | rfl | (simp; done) | (simp [*]; done)), H', ⟨by first | omega | exact Nat.le_refl _⟩, ⟨by (with_reducible repeat (first | apply Kd.R_alloc | apply Kd.R_drewN | apply Kd.R_drew)); exact Kd.R_mono HO321.out (fun _ hk => trivial)⟩, ⟨by (with_reducible repeat (first | refine blk_drewN ?_ _ | refine blk_drew ?_ | refine blk_alloc ?_ _)); exact BK311.out⟩, ⟨by (with_reducible repeat (first | refine blk_drewN ?_ _ | refine blk_drew ?_ | refine blk_alloc ?_ _)); exact BK318.out⟩, ⟨by (with_reducible repeat (first | refine blk_drewN ?_ _ | refine blk_drew ?_ | refine blk_alloc ?_ _)); exact BK325.out⟩, ⟨by repeat (first | (with_reducible first | exact HB.out | apply below_alloc | apply pw_below_drewN | apply below_drew1 | refine below_set ?_ GE311.out | refine below_set ?_ GE318.out | refine below_set ?_ GE325.out) | exact HB.out)⟩⟩
 case rest =>
  clear HC12
  try clear c1
  try clear c2
  try clear p2
  try clear c3
  try clear c4
  try clear c5
  try clear c13
  try clear c16
  try clear c17
  try clear c18
  try clear c19
  try clear c29
  try clear c35
  try clear c36
  try clear c39
  try clear c40
  try clear c41
  try clear c43
  try clear c46
  try clear c47
  try clear c49
  try clear hcz30_0 hcz30_1 hcz30_2 hcz30_3 hcz30_4 hcz30_5 hcz30_6
  try clear hcz37_0 hcz37_1 hcz37_2 hcz37_3 hcz37_4 hcz37_5 hcz37_6
  try clear hcz42_0 hcz42_1 hcz42_2 hcz42_3 hcz42_4 hcz42_5 hcz42_6
  try clear hcz44_0 hcz44_1 hcz44_2 hcz44_3 hcz44_4 hcz44_5 hcz44_6
  try clear hcz48_0 hcz48_1 hcz48_2 hcz48_3 hcz48_4 hcz48_5 hcz48_6
  try clear hcz50_0 hcz50_1 hcz50_2 hcz50_3 hcz50_4 hcz50_5 hcz50_6
  try clear hfz30_0 hfz30_1 hfz30_2 hfz30_3 hfz30_4 hfz30_5 hfz30_6
  try clear hfz37_0 hfz37_1 hfz37_2 hfz37_3 hfz37_4 hfz37_5 hfz37_6
  try clear hfz42_0 hfz42_1 hfz42_2 hfz42_3 hfz42_4 hfz42_5 hfz42_6
  try clear hfz44_0 hfz44_1 hfz44_2 hfz44_3 hfz44_4 hfz44_5 hfz44_6
  try clear hfz48_0 hfz48_1 hfz48_2 hfz48_3 hfz48_4 hfz48_5 hfz48_6
  try clear hfz50_0 hfz50_1 hfz50_2 hfz50_3 hfz50_4 hfz50_5 hfz50_6
  obtain ⟨kq, x42_11, rfl, HA, HJ11, HO_9, BK311, BK318, BK325, HB⟩ := hcut
  cases kq with
  | zero => exact absurd HA.out (by simp [laws_FnExactValueAt.j0])
  | succ kj11 =>
   have H := HA.out
   clear HA
   simp only [laws_FnExactValueAt.j0] at H
   by_cases c52 : x42_11 = true
   ·subst c52
    have H1 : (some false) = some r := by rw [if_pos rfl] at H; exact H
    clear H
    have H := H1
    clear H1
    obtain rfl := Option.some.inj H
    go_wp2
    go_ret
    exact ⟨by first | rfl | (simp [errW_none, errW_some] <;> rfl) | (simp [*, errW_none, errW_some] <;> rfl), by repeat (first | (with_reducible first | exact HB.out | apply below_alloc | apply pw_below_drewN | apply below_drew1 | refine below_set ?_ GE311.out | refine below_set ?_ GE318.out | refine below_set ?_ GE325.out) | exact HB.out)⟩
   replace c52 := Bool.eq_false_iff.mpr c52
   subst c52
   have H1 : ((laws_toInt64S.f kj11 l0).bind fun t327 => ((laws_eqInt64S.f kj11 t319 t327).bind fun t330 => (if t330 = true then (some true) else (some false)))) = some r := by rw [if_neg (show ¬ (false = true) by decide)] at H; exact H
   clear H
   have H := H1
   clear H1
   replace H := Option.bind_eq_some_iff.mp H
   obtain ⟨t327, A530, H⟩ := H
   replace H : ((laws_eqInt64S.f kj11 t319 t327).bind fun t330 => (if t330 = true then (some true) else (some false))) = some r := H
   have A53 := aM5_ A530
   clear A530
   replace H := Option.bind_eq_some_iff.mp H
   obtain ⟨t330, A540, H⟩ := H
   replace H : (if t330 = true then (some true) else (some false)) = some r := H
   have A54 := aM5_ A540
   clear A540
   by_cases c55 : t330 = true
   ·subst c55
    have H1 : (some true) = some r := by rw [if_pos rfl] at H; exact H
    clear H
    have H := H1
    clear H1
    obtain rfl := Option.some.inj H
    go_wp2_with (first | ((with_reducible refine gate_callee (f := 17) rfl ?_); refine goesL_ (some 45) rfl rfl Try.func17 (by kernel_rfl) rfl #[.slice A0 l0.length c0] rfl q5x2_ ?_; (with_reducible refine (laws_toInt64S.calls kj11 _ _ l0 t327 _ ?side1 ?side2 A53.out).mono ?_); (case side1 => repeat (first | exact (Kd.C_below HR0.out HB.out) | (with_reducible refine Kd.C_alloc ?_ _) | (with_reducible refine Kd.C_drewN ?_ _) | (with_reducible refine Kd.C_drew ?_))); (case side2 => exact HC0.out); rintro e w56 ⟨v328, rfl, ho0, hb⟩; refine ⟨_, rfl, ?_⟩; have n0_ := aM5_ (Kd.R_elder' q5x15_ (Kd.R_base ho0) hb); have n1_ := aM5_ (Kd.R_lower (Kd.R_new' ho0 (Kd.R_lt q5x15_)) (below_size q5x7_)); have n2_ := aM5_ (kB5_ (g := gb311) (o := .cells #[.bool a1.f0, .int .u32 a1.f1.f0, .int .u32 a1.f1.f1, .int .u32 a1.f1.f2, .int .u32 a1.f1.f3, .int .u32 a1.f1.f4, .int .u32 a1.f1.f5] 33 (0, 0)) q5x1_ hb); have n3_ := aM5_ (kB5_ (g := gb318) (o := .cells #[.bool t316.f0, .int .u32 t316.f1.f0, .int .u32 t316.f1.f1, .int .u32 t316.f1.f2, .int .u32 t316.f1.f3, .int .u32 t316.f1.f4, .int .u32 t316.f1.f5] 25 (0, 0)) q5x5_ hb); have n4_ := aM5_ (kB5_ (g := gb325) (o := .cells #[.bool t323.f0, .int .u32 t323.f1.f0, .int .u32 t323.f1.f1, .int .u32 t323.f1.f2, .int .u32 t323.f1.f3, .int .u32 t323.f1.f4, .int .u32 t323.f1.f5] 25 (0, 0)) (by (with_reducible repeat (first | refine blk_drewN ?_ _ | refine blk_drew ?_ | refine blk_alloc ?_ _)); exact BK325.out) hb); have n5_ := aM5_ (below_step q5x7_ hb); clear HO_9 BK311 BK318 BK325 HB; have HO_9 := n0_; have HO329 := n1_; have BK311 := n2_; have BK318 := n3_; have BK325 := n4_; have HB := n5_; clear n0_ n1_ n2_ n3_ n4_ n5_; (try clear hb); (try clear hb2); (try clear hk); (try clear hi); (try clear ho0); obtain ⟨Ao57, co57, eo57⟩ := Kd.R_slice HO329.out; subst eo57) | ((with_reducible refine gate_callee (f := 20) rfl ?_); refine goesL_ (some 46) rfl rfl Try.func20 (by kernel_rfl) rfl #[.slice Ao32 t319.length co32, .slice Ao57 t327.length co57] rfl q5x2_ ?_; (with_reducible refine (laws_eqInt64S.calls kj11 _ _ t319 _ _ t327 true _ ?side1 ?side2 ?side3 ?side4 A54.out).mono ?_); (case side1 => repeat (first | exact (Kd.R_reads' HO_9.out).2.2 | (with_reducible refine Kd.C_alloc ?_ _) | (with_reducible refine Kd.C_drewN ?_ _) | (with_reducible refine Kd.C_drew ?_))); (case side2 => exact (Kd.R_reads' HO_9.out).2.1); (case side3 => repeat (first | exact (Kd.R_reads' HO329.out).2.2 | (with_reducible refine Kd.C_alloc ?_ _) | (with_reducible refine Kd.C_drewN ?_ _) | (with_reducible refine Kd.C_drew ?_))); (case side4 => exact (Kd.R_reads' HO329.out).2.1); rintro e w' ⟨rfl, ⟨nd, rfl⟩⟩; refine ⟨_, rfl, ?_⟩))
    go_ret
    exact ⟨by first | rfl | (simp [errW_none, errW_some] <;> rfl) | (simp [*, errW_none, errW_some] <;> rfl), by repeat (first | (with_reducible first | exact HB.out | apply below_alloc | apply pw_below_drewN | apply below_drew1 | refine below_set ?_ GE311.out | refine below_set ?_ GE318.out | refine below_set ?_ GE325.out) | exact HB.out)⟩
   replace c55 := Bool.eq_false_iff.mpr c55
   subst c55
   have H1 : (some false) = some r := by rw [if_neg (show ¬ (false = true) by decide)] at H; exact H
   clear H
   have H := H1
   clear H1
   obtain rfl := Option.some.inj H
   go_wp2_with (first | ((with_reducible refine gate_callee (f := 17) rfl ?_); refine goesL_ (some 45) rfl rfl Try.func17 (by kernel_rfl) rfl #[.slice A0 l0.length c0] rfl q5x2_ ?_; (with_reducible refine (laws_toInt64S.calls kj11 _ _ l0 t327 _ ?side1 ?side2 A53.out).mono ?_); (case side1 => repeat (first | exact (Kd.C_below HR0.out HB.out) | (with_reducible refine Kd.C_alloc ?_ _) | (with_reducible refine Kd.C_drewN ?_ _) | (with_reducible refine Kd.C_drew ?_))); (case side2 => exact HC0.out); rintro e w58 ⟨v328, rfl, ho0, hb⟩; refine ⟨_, rfl, ?_⟩; have n0_ := aM5_ (Kd.R_elder' q5x15_ (Kd.R_base ho0) hb); have n1_ := aM5_ (Kd.R_lower (Kd.R_new' ho0 (Kd.R_lt q5x15_)) (below_size q5x7_)); have n2_ := aM5_ (kB5_ (g := gb311) (o := .cells #[.bool a1.f0, .int .u32 a1.f1.f0, .int .u32 a1.f1.f1, .int .u32 a1.f1.f2, .int .u32 a1.f1.f3, .int .u32 a1.f1.f4, .int .u32 a1.f1.f5] 33 (0, 0)) q5x1_ hb); have n3_ := aM5_ (kB5_ (g := gb318) (o := .cells #[.bool t316.f0, .int .u32 t316.f1.f0, .int .u32 t316.f1.f1, .int .u32 t316.f1.f2, .int .u32 t316.f1.f3, .int .u32 t316.f1.f4, .int .u32 t316.f1.f5] 25 (0, 0)) q5x5_ hb); have n4_ := aM5_ (kB5_ (g := gb325) (o := .cells #[.bool t323.f0, .int .u32 t323.f1.f0, .int .u32 t323.f1.f1, .int .u32 t323.f1.f2, .int .u32 t323.f1.f3, .int .u32 t323.f1.f4, .int .u32 t323.f1.f5] 25 (0, 0)) (by (with_reducible repeat (first | refine blk_drewN ?_ _ | refine blk_drew ?_ | refine blk_alloc ?_ _)); exact BK325.out) hb); have n5_ := aM5_ (below_step q5x7_ hb); clear HO_9 BK311 BK318 BK325 HB; have HO_9 := n0_; have HO329 := n1_; have BK311 := n2_; have BK318 := n3_; have BK325 := n4_; have HB := n5_; clear n0_ n1_ n2_ n3_ n4_ n5_; (try clear hb); (try clear hb2); (try clear hk); (try clear hi); (try clear ho0); obtain ⟨Ao59, co59, eo59⟩ := Kd.R_slice HO329.out; subst eo59) | ((with_reducible refine gate_callee (f := 20) rfl ?_); refine goesL_ (some 46) rfl rfl Try.func20 (by kernel_rfl) rfl #[.slice Ao32 t319.length co32, .slice Ao59 t327.length co59] rfl q5x2_ ?_; (with_reducible refine (laws_eqInt64S.calls kj11 _ _ t319 _ _ t327 false _ ?side1 ?side2 ?side3 ?side4 A54.out).mono ?_); (case side1 => repeat (first | exact (Kd.R_reads' HO_9.out).2.2 | (with_reducible refine Kd.C_alloc ?_ _) | (with_reducible refine Kd.C_drewN ?_ _) | (with_reducible refine Kd.C_drew ?_))); (case side2 => exact (Kd.R_reads' HO_9.out).2.1); (case side3 => repeat (first | exact (Kd.R_reads' HO329.out).2.2 | (with_reducible refine Kd.C_alloc ?_ _) | (with_reducible refine Kd.C_drewN ?_ _) | (with_reducible refine Kd.C_drew ?_))); (case side4 => exact (Kd.R_reads' HO329.out).2.1); rintro e w' ⟨rfl, ⟨nd, rfl⟩⟩; refine ⟨_, rfl, ?_⟩))
   go_ret
   exact ⟨by first | rfl | (simp [errW_none, errW_some] <;> rfl) | (simp [*, errW_none, errW_some] <;> rfl), by repeat (first | (with_reducible first | exact HB.out | apply below_alloc | apply pw_below_drewN | apply below_drew1 | refine below_set ?_ GE311.out | refine below_set ?_ GE318.out | refine below_set ?_ GE325.out) | exact HB.out)⟩

/-! ### the law's arguments -/
def WF23 (x : S23) : Prop := (0 ≤ x.f0 ∧ x.f0 ≤ 4294967295) ∧ (0 ≤ x.f1 ∧ x.f1 ≤ 4294967295) ∧ (0 ≤ x.f2 ∧ x.f2 ≤ 4294967295) ∧ (0 ≤ x.f3 ∧ x.f3 ≤ 4294967295) ∧ (0 ≤ x.f4 ∧ x.f4 ≤ 4294967295) ∧ (0 ≤ x.f5 ∧ x.f5 ≤ 4294967295)
set_option maxRecDepth 100000 in
theorem op23 {H : Type} {enc : TypeId × Value → H} {w : World} : Opens enc Try.prog w 23 k23 WF23 := by
 intro fuel cs x h hz
 obtain ⟨xs, m, rfl, rfl, hl, hn, hf⟩ := DataW.trod_array Try.underlying23 h
 have hl0 : cs.length = 6 := hl.trans (by kernel_rfl)
 have hn0 : xs.length = 6 := hn
 obtain ⟨x0, xs0, rfl, hn1⟩ := consX_of hn0
 obtain ⟨x1, xs1, rfl, hn2⟩ := consX_of hn1
 obtain ⟨x2, xs2, rfl, hn3⟩ := consX_of hn2
 obtain ⟨x3, xs3, rfl, hn4⟩ := consX_of hn3
 obtain ⟨x4, xs4, rfl, hn5⟩ := consX_of hn4
 obtain ⟨x5, xs5, rfl, hn6⟩ := consX_of hn5
 obtain rfl := List.eq_nil_of_length_eq_zero hn6
 obtain ⟨c0, cs0, rfl, hl1⟩ := cons_of hl0
 obtain ⟨c1, cs1, rfl, hl2⟩ := cons_of hl1
 obtain ⟨c2, cs2, rfl, hl3⟩ := cons_of hl2
 obtain ⟨c3, cs3, rfl, hl4⟩ := cons_of hl3
 obtain ⟨c4, cs4, rfl, hl5⟩ := cons_of hl4
 obtain ⟨c5, cs5, rfl, hl6⟩ := cons_of hl5
 obtain rfl := List.eq_nil_of_length_eq_zero hl6
 have h0 : DataW.trod enc Try.prog w 0 (fun _ => true) true m 22 [c0] = some x0 := by
  have h_ := hf 0 (by omega)
  rw [show Try.prog.cellsOf 22 = 1 from by kernel_rfl] at h_
  exact h_
 obtain ⟨a0, hk0, hw0⟩ := (opens_int Try.underlying22 wfB_u32) _ _ _ h0 (weight_array Try.underlying23 hz (j := 0) rfl)
 have h1 : DataW.trod enc Try.prog w 0 (fun _ => true) true m 22 [c1] = some x1 := by
  have h_ := hf 1 (by omega)
  rw [show Try.prog.cellsOf 22 = 1 from by kernel_rfl] at h_
  exact h_
 obtain ⟨a1, hk1, hw1⟩ := (opens_int Try.underlying22 wfB_u32) _ _ _ h1 (weight_array Try.underlying23 hz (j := 1) rfl)
 have h2 : DataW.trod enc Try.prog w 0 (fun _ => true) true m 22 [c2] = some x2 := by
  have h_ := hf 2 (by omega)
  rw [show Try.prog.cellsOf 22 = 1 from by kernel_rfl] at h_
  exact h_
 obtain ⟨a2, hk2, hw2⟩ := (opens_int Try.underlying22 wfB_u32) _ _ _ h2 (weight_array Try.underlying23 hz (j := 2) rfl)
 have h3 : DataW.trod enc Try.prog w 0 (fun _ => true) true m 22 [c3] = some x3 := by
  have h_ := hf 3 (by omega)
  rw [show Try.prog.cellsOf 22 = 1 from by kernel_rfl] at h_
  exact h_
 obtain ⟨a3, hk3, hw3⟩ := (opens_int Try.underlying22 wfB_u32) _ _ _ h3 (weight_array Try.underlying23 hz (j := 3) rfl)
 have h4 : DataW.trod enc Try.prog w 0 (fun _ => true) true m 22 [c4] = some x4 := by
  have h_ := hf 4 (by omega)
  rw [show Try.prog.cellsOf 22 = 1 from by kernel_rfl] at h_
  exact h_
 obtain ⟨a4, hk4, hw4⟩ := (opens_int Try.underlying22 wfB_u32) _ _ _ h4 (weight_array Try.underlying23 hz (j := 4) rfl)
 have h5 : DataW.trod enc Try.prog w 0 (fun _ => true) true m 22 [c5] = some x5 := by
  have h_ := hf 5 (by omega)
  rw [show Try.prog.cellsOf 22 = 1 from by kernel_rfl] at h_
  exact h_
 obtain ⟨a5, hk5, hw5⟩ := (opens_int Try.underlying22 wfB_u32) _ _ _ h5 (weight_array Try.underlying23 hz (j := 5) rfl)
 exact ⟨⟨a0, a1, a2, a3, a4, a5⟩, ⟨[c0], [c1, c2, c3, c4, c5], rfl, hk0, ⟨[c1], [c2, c3, c4, c5], rfl, hk1, ⟨[c2], [c3, c4, c5], rfl, hk2, ⟨[c3], [c4, c5], rfl, hk3, ⟨[c4], [c5], rfl, hk4, hk5⟩⟩⟩⟩⟩, ⟨hw0, hw1, hw2, hw3, hw4, hw5⟩⟩
def WF33 (x : S24) : Prop := (True) ∧ (WF23 x.f1)
set_option maxRecDepth 100000 in
theorem op33 {H : Type} {enc : TypeId × Value → H} {w : World} : Opens enc Try.prog w 33 k24 WF33 := by
 intro fuel cs x h hz
 obtain ⟨xs, m, rfl, rfl, hl, hn, hf⟩ := DataW.trod_struct Try.underlying33 h
 have hl0 : cs.length = 7 := hl.trans (by kernel_rfl)
 have hn0 : xs.length = 2 := hn
 obtain ⟨x0, xs0, rfl, hn1⟩ := consX_of hn0
 obtain ⟨x1, xs1, rfl, hn2⟩ := consX_of hn1
 obtain rfl := List.eq_nil_of_length_eq_zero hn2
 obtain ⟨c0, cs0, rfl, hl1⟩ := cons_of hl0
 obtain ⟨c1, cs1, rfl, hl2⟩ := cons_of hl1
 obtain ⟨c2, cs2, rfl, hl3⟩ := cons_of hl2
 obtain ⟨c3, cs3, rfl, hl4⟩ := cons_of hl3
 obtain ⟨c4, cs4, rfl, hl5⟩ := cons_of hl4
 obtain ⟨c5, cs5, rfl, hl6⟩ := cons_of hl5
 obtain ⟨c6, cs6, rfl, hl7⟩ := cons_of hl6
 obtain rfl := List.eq_nil_of_length_eq_zero hl7
 have h0 : DataW.trod enc Try.prog w 0 (fun _ => true) true m 4 [c0] = some x0 := by
  have h_ : DataW.trod enc Try.prog w 0 (fun _ => true) true m 4 (([c0, c1, c2, c3, c4, c5, c6].drop 0).take (Try.prog.cellsOf 4)) = [x0, x1][0]? := by
   have h2_ := hf 0 _ rfl
   exact h2_
  rw [show Try.prog.cellsOf 4 = 1 from by kernel_rfl] at h_
  exact h_
 obtain ⟨a0, hk0, hw0⟩ := (opens_bool Try.underlying4) _ _ _ h0 (weight_struct Try.underlying33 hz (j := 0) rfl rfl)
 have h1 : DataW.trod enc Try.prog w 0 (fun _ => true) true m 23 [c1, c2, c3, c4, c5, c6] = some x1 := by
  have h_ : DataW.trod enc Try.prog w 0 (fun _ => true) true m 23 (([c0, c1, c2, c3, c4, c5, c6].drop 1).take (Try.prog.cellsOf 23)) = [x0, x1][1]? := by
   have h2_ := hf 1 _ rfl
   exact h2_
  rw [show Try.prog.cellsOf 23 = 6 from by kernel_rfl] at h_
  exact h_
 obtain ⟨a1, hk1, hw1⟩ := op23 _ _ _ h1 (weight_struct Try.underlying33 hz (j := 1) rfl rfl)
 exact ⟨⟨a0, a1⟩, ⟨[c0], [c1, c2, c3, c4, c5, c6], rfl, hk0, hk1⟩, ⟨hw0, hw1⟩⟩
/-- THE ONE PURE STATEMENT of laws_FnExactValueAt. -/
def laws_FnExactValueAt.Pure : Prop := ∀ (x0 : List Int) (x1 : S24) (x2 : Int), (x0.length * 8 ≤ 140737488351232 ∧ ∀ z_ ∈ x0, (-9223372036854775808) ≤ z_ ∧ z_ ≤ 9223372036854775807) → (WF33 x1) → ((-9223372036854775808) ≤ x2 ∧ x2 ≤ 9223372036854775807) → ∃ k, laws_FnExactValueAt.f k x0 x1 x2 = some true
theorem laws_FnExactValueAt.walk (P_ : laws_FnExactValueAt.Pure) (w : World) (A0 : Option Addr) (c0 : Nat) (x0 : List Int) (hr0 : Kd.C (Kd.int .i64) w A0 x0.length x0) (hc0 : x0.length ≤ c0) (hw0 : x0.length * 8 ≤ 140737488351232 ∧ ∀ z_ ∈ x0, (-9223372036854775808) ≤ z_ ∧ z_ ≤ 9223372036854775807) (x1 : S24) (hw1 : WF33 x1) (x2 : Int) (hw2 : (-9223372036854775808) ≤ x2 ∧ x2 ≤ 9223372036854775807) :
  Calls Try.prog 5 #[.slice A0 x0.length c0, .agg #[.bool x1.f0, .int .u32 x1.f1.f0, .int .u32 x1.f1.f1, .int .u32 x1.f1.f2, .int .u32 x1.f1.f3, .int .u32 x1.f1.f4, .int .u32 x1.f1.f5], .int .i64 x2] w fun e w' => e = .returned (.bool true) ∧ Below w.heap.size w w' := by
 obtain ⟨k, h⟩ := P_ x0 x1 x2 hw0 hw1 hw2
 refine (laws_FnExactValueAt.calls k _ _ x0 x1 x2 true w hr0 hc0   h).mono ?_
 rintro e w' ⟨rfl, hd⟩
 exact ⟨rfl, hd⟩

end Go.Proofs.Ytbomadebdekjjaa.MFnExactValueAt
