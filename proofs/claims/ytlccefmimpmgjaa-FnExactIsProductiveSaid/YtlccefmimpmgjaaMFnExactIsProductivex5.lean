/- Functions of the program as Lean functions, and the proof that the code comes to what they say. Written by a program of this session (myprint.py). -/
import Derived.Test.YtlccefmimpmgjaaMFnExactIsProductivex0
import Derived.Test.YtlccefmimpmgjaaMFnExactIsProductivex2
import Derived.Test.YtlccefmimpmgjaaMFnExactIsProductivex4
namespace Go.Proofs.Ytlccefmimpmgjaa.MFnExactIsProductive
open Go.RowKit Go.Proofs.Ytlccefmimpmgjaa.MOpen Go.Proofs.YtlccefmimpmgjaaW.PrintWords Go.Proofs.YtlccefmimpmgjaaW.PrintLast Go.Proofs.YtlccefmimpmgjaaW.PrintMore
attribute [local go_sem] max2_int min2_int max_two min_two max_three min_three max_four min_four   -- for this text's walks alone
set_option linter.unusedVariables false
set_option linter.unusedSimpArgs false

/-! ### spec_IsProductive: function 30 -/
def spec_IsProductive.f (k : Nat) (l0_0 : List (S77)) : Option (Bool × Int) := (spec_l06Ok.f k l0_0).bind fun t202 => (if t202 = true then ((spec_l06Productive.f k l0_0).bind fun t203 => (some (t203, 0))) else (some (false, 1)))
theorem spec_IsProductive.mono : ∀ a0 k, LeO (spec_IsProductive.f k a0) (spec_IsProductive.f (k + 1) a0) := by
  intro a0 k
  unfold spec_IsProductive.f
  repeat' first
      | (with_reducible exact spec_l06Ok.mono _ _)
      | (with_reducible exact spec_l06Productive.mono _ _)
      | (with_reducible exact LeO.refl _)
      | (with_reducible exact LeO.none _)
      | (with_reducible refine LeO.ite ?_ ?_)
      | (with_reducible refine LeO.bind ?_ (fun _ => ?_))
      | exact spec_l06Ok.mono _ _
      | exact spec_l06Productive.mono _ _
      | exact LeO.none _
      | refine LeO.ite ?_ ?_
      | refine LeO.bind ?_ (fun _ => ?_)
set_option maxHeartbeats 8000000 in
set_option maxRecDepth 100000 in
theorem spec_IsProductive.calls (k : Nat) (A0_0 : Option Addr) (c0_0 : Nat) (l0_0 : List (S77)) (r1 : Bool) (r2 : Int) (w : World) (hr0_0 : Kd.C k77 w A0_0 l0_0.length l0_0) (hc0_0 : l0_0.length ≤ c0_0) (h : spec_IsProductive.f k l0_0 = some (r1, r2)) :
    Calls Try.prog 30 #[.agg #[.slice A0_0 l0_0.length c0_0]] w fun e w' => e = .returned (.tuple #[.bool r1, .int .i64 r2]) ∧ Below w.heap.size w w' := by
  have hu24 := Try.underlying24
  have HR0_0 := Aside0.mk hr0_0
  have HC0_0 := Aside0.mk hc0_0
  clear hr0_0 hc0_0
  have HB := Aside0.mk (Below.refl w.heap.size w)
  have H : ((spec_l06Ok.f k l0_0).bind fun t202 => (if t202 = true then ((spec_l06Productive.f k l0_0).bind fun t203 => (some (t203, 0))) else (some (false, 1)))) = some (r1, r2) := h
  clear h
  replace H := Option.bind_eq_some_iff.mp H
  obtain ⟨t202, A20, H⟩ := H
  replace H : (if t202 = true then ((spec_l06Productive.f k l0_0).bind fun t203 => (some (t203, 0))) else (some (false, 1))) = some (r1, r2) := H
  have A2 := Aside0.mk A20
  clear A20
  by_cases c3 : t202 = true
  · subst c3
    have H1 : ((spec_l06Productive.f k l0_0).bind fun t203 => (some (t203, 0))) = some (r1, r2) := by rw [if_pos rfl] at H; exact H
    clear H
    have H := H1
    clear H1
    replace H := Option.bind_eq_some_iff.mp H
    obtain ⟨t203, A40, H⟩ := H
    replace H : (some (t203, 0)) = some (r1, r2) := H
    have A4 := Aside0.mk A40
    clear A40
    simp only [Option.some.injEq, Prod.mk.injEq] at H
    obtain ⟨rfl, rfl⟩ := H
    go_enter Try.func30, Try.ntmps30
    go_wp2_with (first | ((with_reducible refine gate_dst (N := 1) rfl ?_); refine box_event ?hg (N := 1) ?hd (cs := #[.slice A0_0 l0_0.length c0_0]) (t := 24) ?hr ?_; (case hd => rfl); (case hg => rfl); (case hr => first | (go_simp; done) | (go_simp; rfl)); intro gb201 hg w5 hbox hb; have n0_ := Aside0.mk (below_step (by repeat (first | (with_reducible first | exact HB.out | apply below_alloc | apply pw_below_drewN | apply below_drew1) | exact HB.out)) hb); have n1_ := Aside0.mk (hbox); have n2_ := Aside0.mk ((by rw [hg]; exact (below_size (by repeat (first | (with_reducible first | exact HB.out | apply below_alloc | apply pw_below_drewN | apply below_drew1) | exact HB.out))) : w.heap.size ≤ gb201)); have n3_ := Aside0.mk ((by rw [hg]; exact (below_size (by repeat (first | (with_reducible first | exact HB.out | apply below_alloc | apply pw_below_drewN | apply below_drew1) | exact HB.out))) : w.heap.size ≤ gb201)); clear HB; have HB := n0_; have BK201 := n1_; have GW201 := n2_; have GE201 := n3_; clear n0_ n1_ n2_ n3_; clear hb hbox hg) | ((with_reducible refine gate_callee (f := 64) rfl ?_); refine goesL_ (some 4) rfl rfl Try.func64 (by kernel_rfl) rfl #[.pointer (some ⟨gb201, 0, none⟩)] rfl (by (try simp only [List.map_toArray, List.map_cons, List.map_nil]); first | done | rfl | (simp only [List.length_drop, List.length_take]; rfl)) ?_; (with_reducible refine (spec_l06Ok.calls k gb201 0 A0_0 c0_0 l0_0 true _ ?side1 ?side2 ?side3 A2.out).mono ?_); (case side1 => repeat (first | exact (Kd.C_below HR0_0.out HB.out) | (with_reducible refine Kd.C_alloc ?_ _) | (with_reducible refine Kd.C_drewN ?_ _) | (with_reducible refine Kd.C_drew ?_))); (case side2 => exact HC0_0.out); (case side3 => exact (blk_cell (g := gb201) (t := 24) (cs := #[.slice A0_0 l0_0.length c0_0]) (by (with_reducible repeat (first | refine blk_drewN ?_ _ | refine blk_drew ?_ | refine blk_alloc ?_ _)); exact BK201.out) 0).trans rfl); rintro e w' ⟨rfl, ⟨nd, rfl⟩⟩; refine ⟨_, rfl, ?_⟩) | ((with_reducible refine gate_callee (f := 68) rfl ?_); refine goesL_ (some 6) rfl rfl Try.func68 (by kernel_rfl) rfl #[.pointer (some ⟨gb201, 0, none⟩)] rfl (by (try simp only [List.map_toArray, List.map_cons, List.map_nil]); first | done | rfl | (simp only [List.length_drop, List.length_take]; rfl)) ?_; (with_reducible refine (spec_l06Productive.calls k gb201 0 A0_0 c0_0 l0_0 t203 _ ?side1 ?side2 ?side3 A4.out).mono ?_); (case side1 => repeat (first | exact (Kd.C_below HR0_0.out (by repeat (first | (with_reducible first | exact HB.out | apply below_alloc | apply pw_below_drewN | apply below_drew1 | refine below_set ?_ GE201.out) | exact HB.out))) | (with_reducible refine Kd.C_alloc ?_ _) | (with_reducible refine Kd.C_drewN ?_ _) | (with_reducible refine Kd.C_drew ?_))); (case side2 => exact HC0_0.out); (case side3 => exact (blk_cell (g := gb201) (t := 24) (cs := #[.slice A0_0 l0_0.length c0_0]) (by (with_reducible repeat (first | refine blk_drewN ?_ _ | refine blk_drew ?_ | refine blk_alloc ?_ _)); exact BK201.out) 0).trans rfl); rintro e w6 ⟨rfl, hb⟩; refine ⟨_, rfl, ?_⟩; have n0_ := Aside0.mk (blk_below (g := gb201) (o := .cells #[.slice A0_0 l0_0.length c0_0] 24 (0, 0)) (by (with_reducible repeat (first | refine blk_drewN ?_ _ | refine blk_drew ?_ | refine blk_alloc ?_ _)); exact BK201.out) hb); have n1_ := Aside0.mk (below_step (by repeat (first | (with_reducible first | exact HB.out | apply below_alloc | apply pw_below_drewN | apply below_drew1 | refine below_set ?_ GE201.out) | exact HB.out)) hb); clear BK201; clear HB; have BK201 := n0_; have HB := n1_; clear n0_ n1_; (try clear hb); (try clear hb2); (try clear hk); (try clear hi)))
    go_ret2
    exact ⟨by first | rfl | (simp [errW_none, errW_some] <;> rfl) | (simp [*, errW_none, errW_some] <;> rfl), by repeat (first | (with_reducible first | exact HB.out | apply below_alloc | apply pw_below_drewN | apply below_drew1 | refine below_set ?_ GE201.out) | exact HB.out)⟩
  · replace c3 := Bool.eq_false_iff.mpr c3
    subst c3
    have H1 : (some (false, 1)) = some (r1, r2) := by rw [if_neg (show ¬ (false = true) by decide)] at H; exact H
    clear H
    have H := H1
    clear H1
    simp only [Option.some.injEq, Prod.mk.injEq] at H
    obtain ⟨rfl, rfl⟩ := H
    go_enter Try.func30, Try.ntmps30
    go_wp2_with (first | ((with_reducible refine gate_dst (N := 1) rfl ?_); refine box_event ?hg (N := 1) ?hd (cs := #[.slice A0_0 l0_0.length c0_0]) (t := 24) ?hr ?_; (case hd => rfl); (case hg => rfl); (case hr => first | (go_simp; done) | (go_simp; rfl)); intro gb201 hg w7 hbox hb; have n0_ := Aside0.mk (below_step (by repeat (first | (with_reducible first | exact HB.out | apply below_alloc | apply pw_below_drewN | apply below_drew1) | exact HB.out)) hb); have n1_ := Aside0.mk (hbox); have n2_ := Aside0.mk ((by rw [hg]; exact (below_size (by repeat (first | (with_reducible first | exact HB.out | apply below_alloc | apply pw_below_drewN | apply below_drew1) | exact HB.out))) : w.heap.size ≤ gb201)); have n3_ := Aside0.mk ((by rw [hg]; exact (below_size (by repeat (first | (with_reducible first | exact HB.out | apply below_alloc | apply pw_below_drewN | apply below_drew1) | exact HB.out))) : w.heap.size ≤ gb201)); clear HB; have HB := n0_; have BK201 := n1_; have GW201 := n2_; have GE201 := n3_; clear n0_ n1_ n2_ n3_; clear hb hbox hg) | ((with_reducible refine gate_callee (f := 64) rfl ?_); refine goesL_ (some 4) rfl rfl Try.func64 (by kernel_rfl) rfl #[.pointer (some ⟨gb201, 0, none⟩)] rfl (by (try simp only [List.map_toArray, List.map_cons, List.map_nil]); first | done | rfl | (simp only [List.length_drop, List.length_take]; rfl)) ?_; (with_reducible refine (spec_l06Ok.calls k gb201 0 A0_0 c0_0 l0_0 false _ ?side1 ?side2 ?side3 A2.out).mono ?_); (case side1 => repeat (first | exact (Kd.C_below HR0_0.out HB.out) | (with_reducible refine Kd.C_alloc ?_ _) | (with_reducible refine Kd.C_drewN ?_ _) | (with_reducible refine Kd.C_drew ?_))); (case side2 => exact HC0_0.out); (case side3 => exact (blk_cell (g := gb201) (t := 24) (cs := #[.slice A0_0 l0_0.length c0_0]) (by (with_reducible repeat (first | refine blk_drewN ?_ _ | refine blk_drew ?_ | refine blk_alloc ?_ _)); exact BK201.out) 0).trans rfl); rintro e w' ⟨rfl, ⟨nd, rfl⟩⟩; refine ⟨_, rfl, ?_⟩))
    go_ret2
    exact ⟨by first | rfl | (simp [errW_none, errW_some] <;> rfl) | (simp [*, errW_none, errW_some] <;> rfl), by repeat (first | (with_reducible first | exact HB.out | apply below_alloc | apply pw_below_drewN | apply below_drew1 | refine below_set ?_ GE201.out) | exact HB.out)⟩

/-! ### impl_isDigit: function 100 -/
def impl_isDigit.f (a0 : Int) : Option (Bool) := if a0 ≥ (-1) then (some (decide (a0 ≤ 1))) else (some false)
set_option maxHeartbeats 8000000 in
set_option maxRecDepth 100000 in
theorem impl_isDigit.calls (a0 : Int) (r : Bool) (w : World) (h : impl_isDigit.f a0 = some r) :
    Calls Try.prog 100 #[.int .i8 a0] w fun e w' => e = .returned (.bool r) ∧ Drawn0 w w' := by
  have H : (if a0 ≥ (-1) then (some (decide (a0 ≤ 1))) else (some false)) = some r := h
  clear h
  by_cases c2 : a0 ≥ (-1)
  · rw [if_pos c2] at H
    have c2b0 : decide ((-1) ≤ a0) = true := decide_eq_true c2
    clear c2
    obtain rfl := Option.some.inj H
    go_enter Try.func100, Try.ntmps100
    go_wp2
    go_ret
    exact ⟨by first | rfl | (simp; done) | (simp [*]; done), by repeat (first | exact Drawn0.refl _ | apply Drawn0.step)⟩
  · rw [if_neg c2] at H
    have c2b0 : decide ((-1) ≤ a0) = false := decide_eq_false c2
    clear c2
    obtain rfl := Option.some.inj H
    go_enter Try.func100, Try.ntmps100
    go_wp2
    go_ret
    exact ⟨by first | rfl | (simp; done) | (simp [*]; done), by repeat (first | exact Drawn0.refl _ | apply Drawn0.step)⟩

set_option linter.defProp false

theorem q67x1_ {P : Prop} (h : P := by (try simp only [List.map_toArray, List.map_cons, List.map_nil]); first | done | rfl | (simp only [List.length_drop, List.length_take]; rfl)) : P := h
theorem q67x2_ {P : Prop} (h : P := by repeat (first | (with_reducible first | exact HB.out | apply below_alloc | apply pw_below_drewN | apply below_drew1) | exact HB.out)) : P := h
@[go_sem] theorem impl_forkOk.index_75_0 (x0 x1 x2 : Value) (w : World) : (Instr.index 75 (.agg #[x0, x1, x2]) (.int .i64 0)).run Try.prog w = .ok x0 w := by kernel_rfl
@[go_sem] theorem impl_forkOk.index_75_1 (x0 x1 x2 : Value) (w : World) : (Instr.index 75 (.agg #[x0, x1, x2]) (.int .i64 1)).run Try.prog w = .ok x1 w := by kernel_rfl
@[go_sem] theorem impl_forkOk.index_75_2 (x0 x1 x2 : Value) (w : World) : (Instr.index 75 (.agg #[x0, x1, x2]) (.int .i64 2)).run Try.prog w = .ok x2 w := by kernel_rfl
/-! ### impl_forkOk: function 67 -/
def impl_forkOk.l0 : Nat → Int → Int → Int → Int → Int → Int → Int → Int → Int → Int → Option (Bool)
 | 0, _, _, _, _, _, _, _, _, _, _ => none
 | k + 1, x1, x9, x364, x365, x366, x205000, x205001, x205002, x205003, x205004 => if x9 < 3 then (if x9 = 0 then (if x364 < 0 then (some false) else (if (wrap64 (x364)) ≥ x1 then (some false) else (impl_forkOk.l0 k x1 (0 + 1) x364 x365 x366 x205000 x205001 x205002 x205003 x205004))) else (if x9 = 1 then (if x365 < 0 then (some false) else (if (wrap64 (x365)) ≥ x1 then (some false) else (impl_forkOk.l0 k x1 (1 + 1) x364 x365 x366 x205000 x205001 x205002 x205003 x205004))) else (if x9 = 2 then (if x366 < 0 then (some false) else (if (wrap64 (x366)) ≥ x1 then (some false) else (impl_forkOk.l0 k x1 (2 + 1) x364 x365 x366 x205000 x205001 x205002 x205003 x205004))) else (none)))) else (if x205000 = 1 then (some (x205001 == 0)) else (if x205000 = 2 then ((impl_isDigit.f x205001).bind fun t205 => (if t205 = true then (if x205003 = 0 then (some (x205004 == 0)) else (some false)) else (some false))) else (some false)))
def impl_forkOk.f (k : Nat) (a0_0 : Int) (a0_1 : Int) (a0_2 : Int) (a0_3 : Int) (a0_4 : Int) (a1 : Int) : Option (Bool) := impl_forkOk.l0 k a1 0 a0_2 a0_3 a0_4 a0_0 a0_1 a0_2 a0_3 a0_4
theorem impl_forkOk.mono_l : ∀ k, (∀ y0 y1 y2 y3 y4 y5 y6 y7 y8 y9, LeO (impl_forkOk.l0 k y0 y1 y2 y3 y4 y5 y6 y7 y8 y9) (impl_forkOk.l0 (k + 1) y0 y1 y2 y3 y4 y5 y6 y7 y8 y9))
 | 0 => fun _ _ _ _ _ _ _ _ _ _ r h => by simp [impl_forkOk.l0] at h
 | k + 1 => by
  have ih0 := impl_forkOk.mono_l k
  intro y0 y1 y2 y3 y4 y5 y6 y7 y8 y9
  unfold impl_forkOk.l0
  repeat' first
  | (with_reducible exact ih0 _ _ _ _ _ _ _ _ _ _)
  | (with_reducible exact LeO.refl _)
  | (with_reducible exact LeO.none _)
  | (with_reducible refine LeO.ite ?_ ?_)
  | (with_reducible refine LeO.bind ?_ (fun _ => ?_))
  | exact ih0 _ _ _ _ _ _ _ _ _ _
  | exact LeO.none _
  | refine LeO.ite ?_ ?_
  | refine LeO.bind ?_ (fun _ => ?_)
theorem impl_forkOk.mono : ∀ a0 a1 a2 a3 a4 a5 k, LeO (impl_forkOk.f k a0 a1 a2 a3 a4 a5) (impl_forkOk.f (k + 1) a0 a1 a2 a3 a4 a5) := by
 intro a0 a1 a2 a3 a4 a5 k
 have ih0 := impl_forkOk.mono_l k
 unfold impl_forkOk.f
 repeat' first
   | (with_reducible exact ih0 _ _ _ _ _ _ _ _ _ _)
   | (with_reducible exact LeO.refl _)
   | (with_reducible exact LeO.none _)
   | (with_reducible refine LeO.ite ?_ ?_)
   | (with_reducible refine LeO.bind ?_ (fun _ => ?_))
   | exact ih0 _ _ _ _ _ _ _ _ _ _
   | exact LeO.none _
   | refine LeO.ite ?_ ?_
   | refine LeO.bind ?_ (fun _ => ?_)
set_option maxHeartbeats 8000000 in
set_option maxRecDepth 100000 in
theorem impl_forkOk.calls (k : Nat) (a0_0 : Int) (a0_1 : Int) (a0_2 : Int) (a0_3 : Int) (a0_4 : Int) (a1 : Int) (r : Bool) (w : World) (h : impl_forkOk.f k a0_0 a0_1 a0_2 a0_3 a0_4 a1 = some r) :
  Calls Try.prog 67 #[.agg #[.int .i8 a0_0, .int .i8 a0_1, .int .i16 a0_2, .int .i16 a0_3, .int .i16 a0_4], .int .i64 a1] w fun e w' => e = .returned (.bool r) ∧ Below w.heap.size w w' := by
 have hu77 := Try.underlying77
 have hu75 := Try.underlying75
 have HB := Aside0.mk (Below.refl w.heap.size w)
 have H : (impl_forkOk.l0 k a1 0 a0_2 a0_3 a0_4 a0_0 a0_1 a0_2 a0_3 a0_4) = some r := h
 clear h
 have H' := Aside0.mk H
 clear H
 go_enter Try.func67, Try.ntmps67
 go_wp2_with (first | ((with_reducible refine gate_dst (N := 2) rfl ?_); refine box_event ?hg (N := 2) ?hd (cs := #[.int .i8 a0_0, .int .i8 a0_1, .int .i16 a0_2, .int .i16 a0_3, .int .i16 a0_4]) (t := 77) ?hr ?_; (case hd => rfl); (case hg => rfl); (case hr => first | (go_simp; done) | (go_simp; rfl)); intro gb204 hg w3 hbox hb; have n0_ := Aside0.mk (below_step q67x2_ hb); have n1_ := Aside0.mk (hbox); have n2_ := Aside0.mk ((by rw [hg]; exact (below_size q67x2_) : w.heap.size ≤ gb204)); have n3_ := Aside0.mk ((by rw [hg]; exact (below_size q67x2_) : w.heap.size ≤ gb204)); clear HB; have HB := n0_; have BK204 := n1_; have GW204 := n2_; have GE204 := n3_; clear n0_ n1_ n2_ n3_; clear hb hbox hg; have hcz4_0 : w3.cell? ⟨gb204, 0, none⟩ = some (.int .i8 a0_0) := (blk_cell BK204.out 0).trans rfl; have hcz4_1 : w3.cell? ⟨gb204, 1, none⟩ = some (.int .i8 a0_1) := (blk_cell BK204.out 1).trans rfl; have hcz4_2 : w3.cell? ⟨gb204, 2, none⟩ = some (.int .i16 a0_2) := (blk_cell BK204.out 2).trans rfl; have hcz4_3 : w3.cell? ⟨gb204, 3, none⟩ = some (.int .i16 a0_3) := (blk_cell BK204.out 3).trans rfl; have hcz4_4 : w3.cell? ⟨gb204, 4, none⟩ = some (.int .i16 a0_4) := (blk_cell BK204.out 4).trans rfl; have hfz4_0 := blk_frozen BK204.out 0; have hfz4_1 := blk_frozen BK204.out 1; have hfz4_2 := blk_frozen BK204.out 2; have hfz4_3 := blk_frozen BK204.out 3; have hfz4_4 := blk_frozen BK204.out 4))
 go_loopg [9] k (fun kq v9 w' => ∃ (x9_1 : Int), v9 = .int .i64 x9_1 ∧ Aside0 (impl_forkOk.l0 kq a1 x9_1 a0_2 a0_3 a0_4 a0_0 a0_1 a0_2 a0_3 a0_4 = some r) ∧ Aside0 (kq ≤ k) ∧ Aside0 (w'.heap[gb204]? = some (.cells #[.int .i8 a0_0, .int .i8 a0_1, .int .i16 a0_2, .int .i16 a0_3, .int .i16 a0_4] 77 (0, 0))) ∧ Aside0 (Below w.heap.size w w'))
 case atStart => exact ⟨(0), (by first | rfl | (simp; done) | (simp [*]; done)), H', ⟨Nat.le_refl _⟩, ⟨by (with_reducible repeat (first | refine blk_drewN ?_ _ | refine blk_drew ?_ | refine blk_alloc ?_ _)); exact BK204.out⟩, ⟨by repeat (first | (with_reducible first | exact HB.out | apply below_alloc | apply pw_below_drewN | apply below_drew1 | refine below_set ?_ GE204.out) | exact HB.out)⟩⟩
 case round =>
  clear H'
  try clear p2
  try clear hcz4_0
  try clear hcz4_1
  try clear hcz4_2
  try clear hcz4_3
  try clear hcz4_4
  try clear hfz4_0
  try clear hfz4_1
  try clear hfz4_2
  try clear hfz4_3
  try clear hfz4_4
  obtain ⟨x9_1, rfl, HA, HK1, BK204, HB⟩ := hrel
  cases gk with
  | zero => exact absurd HA.out (by simp [impl_forkOk.l0])
  | succ k1 =>
   have H := HA.out
   clear HA
   simp only [impl_forkOk.l0] at H
   by_cases c5 : x9_1 < 3
   ·rw [if_pos c5] at H
    have c5b0 : decide (x9_1 < 3) = true := decide_eq_true c5
    clear c5
    by_cases c6 : x9_1 = 0
    ·subst c6
     have H1 : (if a0_2 < 0 then (some false) else (if (wrap64 (a0_2)) ≥ a1 then (some false) else (impl_forkOk.l0 k1 a1 (0 + 1) a0_2 a0_3 a0_4 a0_0 a0_1 a0_2 a0_3 a0_4))) = some r := by rw [if_pos rfl] at H; exact H
     clear H
     have H := H1
     clear H1
     by_cases c7 : a0_2 < 0
     ·rw [if_pos c7] at H
      have c7b0 : decide (a0_2 < 0) = true := decide_eq_true c7
      clear c7
      obtain rfl := Option.some.inj H
      go_wp2
      go_ret
      exact ⟨by first | rfl | (simp [errW_none, errW_some] <;> rfl) | (simp [*, errW_none, errW_some] <;> rfl), by repeat (first | (with_reducible first | exact HB.out | apply below_alloc | apply pw_below_drewN | apply below_drew1 | refine below_set ?_ GE204.out) | exact HB.out)⟩
     rw [if_neg c7] at H
     have c7b0 : decide (a0_2 < 0) = false := decide_eq_false c7
     clear c7
     by_cases c8 : (wrap64 (a0_2)) ≥ a1
     ·rw [if_pos c8] at H
      have c8b0 : decide (a1 ≤ (wrap64 (a0_2))) = true := decide_eq_true c8
      clear c8
      obtain rfl := Option.some.inj H
      go_wp2
      go_ret
      exact ⟨by first | rfl | (simp [errW_none, errW_some] <;> rfl) | (simp [*, errW_none, errW_some] <;> rfl), by repeat (first | (with_reducible first | exact HB.out | apply below_alloc | apply pw_below_drewN | apply below_drew1 | refine below_set ?_ GE204.out) | exact HB.out)⟩
     rw [if_neg c8] at H
     have c8b0 : decide (a1 ≤ (wrap64 (a0_2))) = false := decide_eq_false c8
     clear c8
     have H' := Aside0.mk H
     clear H
     go_wp2
     go_roundg k1
     case measure => have := HK1.out; omega
     case rel => exact ⟨(0 + 1), (by first | rfl | (simp; done) | (simp [*]; done)), H', ⟨by have := HK1.out; omega⟩, ⟨by (with_reducible repeat (first | refine blk_drewN ?_ _ | refine blk_drew ?_ | refine blk_alloc ?_ _)); exact BK204.out⟩, ⟨by repeat (first | (with_reducible first | exact HB.out | apply below_alloc | apply pw_below_drewN | apply below_drew1 | refine below_set ?_ GE204.out) | exact HB.out)⟩⟩
    rw [if_neg c6] at H
    by_cases c9 : x9_1 = 1
    ·subst c9
     have H1 : (if a0_3 < 0 then (some false) else (if (wrap64 (a0_3)) ≥ a1 then (some false) else (impl_forkOk.l0 k1 a1 (1 + 1) a0_2 a0_3 a0_4 a0_0 a0_1 a0_2 a0_3 a0_4))) = some r := by rw [if_pos rfl] at H; exact H
     clear H
     have H := H1
     clear H1
     by_cases c10 : a0_3 < 0
     ·rw [if_pos c10] at H
      have c10b0 : decide (a0_3 < 0) = true := decide_eq_true c10
      clear c10
      obtain rfl := Option.some.inj H
      go_wp2
      go_ret
      exact ⟨by first | rfl | (simp [errW_none, errW_some] <;> rfl) | (simp [*, errW_none, errW_some] <;> rfl), by repeat (first | (with_reducible first | exact HB.out | apply below_alloc | apply pw_below_drewN | apply below_drew1 | refine below_set ?_ GE204.out) | exact HB.out)⟩
     rw [if_neg c10] at H
     have c10b0 : decide (a0_3 < 0) = false := decide_eq_false c10
     clear c10
     by_cases c11 : (wrap64 (a0_3)) ≥ a1
     ·rw [if_pos c11] at H
      have c11b0 : decide (a1 ≤ (wrap64 (a0_3))) = true := decide_eq_true c11
      clear c11
      obtain rfl := Option.some.inj H
      go_wp2
      go_ret
      exact ⟨by first | rfl | (simp [errW_none, errW_some] <;> rfl) | (simp [*, errW_none, errW_some] <;> rfl), by repeat (first | (with_reducible first | exact HB.out | apply below_alloc | apply pw_below_drewN | apply below_drew1 | refine below_set ?_ GE204.out) | exact HB.out)⟩
     rw [if_neg c11] at H
     have c11b0 : decide (a1 ≤ (wrap64 (a0_3))) = false := decide_eq_false c11
     clear c11
     have H' := Aside0.mk H
     clear H
     go_wp2
     go_roundg k1
     case measure => have := HK1.out; omega
     case rel => exact ⟨(1 + 1), (by first | rfl | (simp; done) | (simp [*]; done)), H', ⟨by have := HK1.out; omega⟩, ⟨by (with_reducible repeat (first | refine blk_drewN ?_ _ | refine blk_drew ?_ | refine blk_alloc ?_ _)); exact BK204.out⟩, ⟨by repeat (first | (with_reducible first | exact HB.out | apply below_alloc | apply pw_below_drewN | apply below_drew1 | refine below_set ?_ GE204.out) | exact HB.out)⟩⟩
    rw [if_neg c9] at H
    by_cases c12 : x9_1 = 2
    rotate_left
    ·rw [if_neg c12] at H
     exact absurd H (by simp)
    subst c12
    have H1 : (if a0_4 < 0 then (some false) else (if (wrap64 (a0_4)) ≥ a1 then (some false) else (impl_forkOk.l0 k1 a1 (2 + 1) a0_2 a0_3 a0_4 a0_0 a0_1 a0_2 a0_3 a0_4))) = some r := by rw [if_pos rfl] at H; exact H
    clear H
    have H := H1
    clear H1
    by_cases c13 : a0_4 < 0
    ·rw [if_pos c13] at H
     have c13b0 : decide (a0_4 < 0) = true := decide_eq_true c13
     clear c13
     obtain rfl := Option.some.inj H
     go_wp2
     go_ret
     exact ⟨by first | rfl | (simp [errW_none, errW_some] <;> rfl) | (simp [*, errW_none, errW_some] <;> rfl), by repeat (first | (with_reducible first | exact HB.out | apply below_alloc | apply pw_below_drewN | apply below_drew1 | refine below_set ?_ GE204.out) | exact HB.out)⟩
    rw [if_neg c13] at H
    have c13b0 : decide (a0_4 < 0) = false := decide_eq_false c13
    clear c13
    by_cases c14 : (wrap64 (a0_4)) ≥ a1
    ·rw [if_pos c14] at H
     have c14b0 : decide (a1 ≤ (wrap64 (a0_4))) = true := decide_eq_true c14
     clear c14
     obtain rfl := Option.some.inj H
     go_wp2
     go_ret
     exact ⟨by first | rfl | (simp [errW_none, errW_some] <;> rfl) | (simp [*, errW_none, errW_some] <;> rfl), by repeat (first | (with_reducible first | exact HB.out | apply below_alloc | apply pw_below_drewN | apply below_drew1 | refine below_set ?_ GE204.out) | exact HB.out)⟩
    rw [if_neg c14] at H
    have c14b0 : decide (a1 ≤ (wrap64 (a0_4))) = false := decide_eq_false c14
    clear c14
    have H' := Aside0.mk H
    clear H
    go_wp2
    go_roundg k1
    case measure => have := HK1.out; omega
    case rel => exact ⟨(2 + 1), (by first | rfl | (simp; done) | (simp [*]; done)), H', ⟨by have := HK1.out; omega⟩, ⟨by (with_reducible repeat (first | refine blk_drewN ?_ _ | refine blk_drew ?_ | refine blk_alloc ?_ _)); exact BK204.out⟩, ⟨by repeat (first | (with_reducible first | exact HB.out | apply below_alloc | apply pw_below_drewN | apply below_drew1 | refine below_set ?_ GE204.out) | exact HB.out)⟩⟩
   rw [if_neg c5] at H
   have c5b0 : decide (x9_1 < 3) = false := decide_eq_false c5
   clear c5
   by_cases c15 : a0_0 = 1
   ·rw [if_pos c15] at H
    have c15b0 : (a0_0 == 1) = true := beq_iff_eq.mpr c15
    have c15b1 : (a0_0 != 1) = false := bne_eq_false_iff_eq.mpr c15
    clear c15
    obtain rfl := Option.some.inj H
    have hcz16_0 : wr.cell? ⟨gb204, 0, none⟩ = some (.int .i8 a0_0) := (blk_cell BK204.out 0).trans rfl
    have hcz16_1 : wr.cell? ⟨gb204, 1, none⟩ = some (.int .i8 a0_1) := (blk_cell BK204.out 1).trans rfl
    have hcz16_2 : wr.cell? ⟨gb204, 2, none⟩ = some (.int .i16 a0_2) := (blk_cell BK204.out 2).trans rfl
    have hcz16_3 : wr.cell? ⟨gb204, 3, none⟩ = some (.int .i16 a0_3) := (blk_cell BK204.out 3).trans rfl
    have hcz16_4 : wr.cell? ⟨gb204, 4, none⟩ = some (.int .i16 a0_4) := (blk_cell BK204.out 4).trans rfl
    have hfz16_0 := blk_frozen BK204.out 0
    have hfz16_1 := blk_frozen BK204.out 1
    have hfz16_2 := blk_frozen BK204.out 2
    have hfz16_3 := blk_frozen BK204.out 3
    have hfz16_4 := blk_frozen BK204.out 4
    go_wp2
    go_ret
    exact ⟨by first | rfl | (simp [errW_none, errW_some] <;> rfl) | (simp [*, errW_none, errW_some] <;> rfl), by repeat (first | (with_reducible first | exact HB.out | apply below_alloc | apply pw_below_drewN | apply below_drew1 | refine below_set ?_ GE204.out) | exact HB.out)⟩
   rw [if_neg c15] at H
   have c15b0 : (a0_0 == 1) = false := beq_eq_false_iff_ne.mpr c15
   have c15b1 : (a0_0 != 1) = true := bne_iff_ne.mpr c15
   by_cases c17 : a0_0 = 2
   rotate_left
   ·rw [if_neg c17] at H
    have c17b0 : (a0_0 == 2) = false := beq_eq_false_iff_ne.mpr c17
    have c17b1 : (a0_0 != 2) = true := bne_iff_ne.mpr c17
    obtain rfl := Option.some.inj H
    have hcz24_0 : wr.cell? ⟨gb204, 0, none⟩ = some (.int .i8 a0_0) := (blk_cell BK204.out 0).trans rfl
    have hcz24_1 : wr.cell? ⟨gb204, 1, none⟩ = some (.int .i8 a0_1) := (blk_cell BK204.out 1).trans rfl
    have hcz24_2 : wr.cell? ⟨gb204, 2, none⟩ = some (.int .i16 a0_2) := (blk_cell BK204.out 2).trans rfl
    have hcz24_3 : wr.cell? ⟨gb204, 3, none⟩ = some (.int .i16 a0_3) := (blk_cell BK204.out 3).trans rfl
    have hcz24_4 : wr.cell? ⟨gb204, 4, none⟩ = some (.int .i16 a0_4) := (blk_cell BK204.out 4).trans rfl
    have hfz24_0 := blk_frozen BK204.out 0
    have hfz24_1 := blk_frozen BK204.out 1
    have hfz24_2 := blk_frozen BK204.out 2
    have hfz24_3 := blk_frozen BK204.out 3
    have hfz24_4 := blk_frozen BK204.out 4
    go_wp2
    go_ret
    exact ⟨by first | rfl | (simp [errW_none, errW_some] <;> rfl) | (simp [*, errW_none, errW_some] <;> rfl), by repeat (first | (with_reducible first | exact HB.out | apply below_alloc | apply pw_below_drewN | apply below_drew1 | refine below_set ?_ GE204.out) | exact HB.out)⟩

   rw [if_pos c17] at H
   have c17b0 : (a0_0 == 2) = true := beq_iff_eq.mpr c17
   have c17b1 : (a0_0 != 2) = false := bne_eq_false_iff_eq.mpr c17
   clear c17
   replace H := Option.bind_eq_some_iff.mp H
   obtain ⟨t205, A180, H⟩ := H
   replace H : (if t205 = true then (if a0_3 = 0 then (some (a0_4 == 0)) else (some false)) else (some false)) = some r := H
   have A18 := Aside0.mk A180
   clear A180
   by_cases c19 : t205 = true
   rotate_left
   ·replace c19 := Bool.eq_false_iff.mpr c19
    subst c19
    have H1 : (some false) = some r := by rw [if_neg (show ¬ (false = true) by decide)] at H; exact H
    clear H
    have H := H1
    clear H1
    obtain rfl := Option.some.inj H
    have hcz23_0 : wr.cell? ⟨gb204, 0, none⟩ = some (.int .i8 a0_0) := (blk_cell BK204.out 0).trans rfl
    have hcz23_1 : wr.cell? ⟨gb204, 1, none⟩ = some (.int .i8 a0_1) := (blk_cell BK204.out 1).trans rfl
    have hcz23_2 : wr.cell? ⟨gb204, 2, none⟩ = some (.int .i16 a0_2) := (blk_cell BK204.out 2).trans rfl
    have hcz23_3 : wr.cell? ⟨gb204, 3, none⟩ = some (.int .i16 a0_3) := (blk_cell BK204.out 3).trans rfl
    have hcz23_4 : wr.cell? ⟨gb204, 4, none⟩ = some (.int .i16 a0_4) := (blk_cell BK204.out 4).trans rfl
    have hfz23_0 := blk_frozen BK204.out 0
    have hfz23_1 := blk_frozen BK204.out 1
    have hfz23_2 := blk_frozen BK204.out 2
    have hfz23_3 := blk_frozen BK204.out 3
    have hfz23_4 := blk_frozen BK204.out 4
    go_wp2_with (first | ((with_reducible refine gate_callee (f := 100) rfl ?_); refine goesL_ (some 32) rfl rfl Try.func100 (by kernel_rfl) rfl #[.int .i8 a0_1] rfl q67x1_ ?_; (with_reducible refine (impl_isDigit.calls a0_1 false _ A18.out).mono ?_); rintro e w' ⟨rfl, ⟨nd, rfl⟩⟩; refine ⟨_, rfl, ?_⟩))
    go_ret
    exact ⟨by first | rfl | (simp [errW_none, errW_some] <;> rfl) | (simp [*, errW_none, errW_some] <;> rfl), by repeat (first | (with_reducible first | exact HB.out | apply below_alloc | apply pw_below_drewN | apply below_drew1 | refine below_set ?_ GE204.out) | exact HB.out)⟩
   subst c19
   have H1 : (if a0_3 = 0 then (some (a0_4 == 0)) else (some false)) = some r := by rw [if_pos rfl] at H; exact H
   clear H
   have H := H1
   clear H1
   by_cases c20 : a0_3 = 0
   ·rw [if_pos c20] at H
    have c20b0 : (a0_3 == 0) = true := beq_iff_eq.mpr c20
    have c20b1 : (a0_3 != 0) = false := bne_eq_false_iff_eq.mpr c20
    clear c20
    obtain rfl := Option.some.inj H
    have hcz21_0 : wr.cell? ⟨gb204, 0, none⟩ = some (.int .i8 a0_0) := (blk_cell BK204.out 0).trans rfl
    have hcz21_1 : wr.cell? ⟨gb204, 1, none⟩ = some (.int .i8 a0_1) := (blk_cell BK204.out 1).trans rfl
    have hcz21_2 : wr.cell? ⟨gb204, 2, none⟩ = some (.int .i16 a0_2) := (blk_cell BK204.out 2).trans rfl
    have hcz21_3 : wr.cell? ⟨gb204, 3, none⟩ = some (.int .i16 a0_3) := (blk_cell BK204.out 3).trans rfl
    have hcz21_4 : wr.cell? ⟨gb204, 4, none⟩ = some (.int .i16 a0_4) := (blk_cell BK204.out 4).trans rfl
    have hfz21_0 := blk_frozen BK204.out 0
    have hfz21_1 := blk_frozen BK204.out 1
    have hfz21_2 := blk_frozen BK204.out 2
    have hfz21_3 := blk_frozen BK204.out 3
    have hfz21_4 := blk_frozen BK204.out 4
    go_wp2_with (first | ((with_reducible refine gate_callee (f := 100) rfl ?_); refine goesL_ (some 32) rfl rfl Try.func100 (by kernel_rfl) rfl #[.int .i8 a0_1] rfl q67x1_ ?_; (with_reducible refine (impl_isDigit.calls a0_1 true _ A18.out).mono ?_); rintro e w' ⟨rfl, ⟨nd, rfl⟩⟩; refine ⟨_, rfl, ?_⟩))
    go_ret
    exact ⟨by first | rfl | (simp [errW_none, errW_some] <;> rfl) | (simp [*, errW_none, errW_some] <;> rfl), by repeat (first | (with_reducible first | exact HB.out | apply below_alloc | apply pw_below_drewN | apply below_drew1 | refine below_set ?_ GE204.out) | exact HB.out)⟩
   rw [if_neg c20] at H
   have c20b0 : (a0_3 == 0) = false := beq_eq_false_iff_ne.mpr c20
   have c20b1 : (a0_3 != 0) = true := bne_iff_ne.mpr c20
   obtain rfl := Option.some.inj H
   have hcz22_0 : wr.cell? ⟨gb204, 0, none⟩ = some (.int .i8 a0_0) := (blk_cell BK204.out 0).trans rfl
   have hcz22_1 : wr.cell? ⟨gb204, 1, none⟩ = some (.int .i8 a0_1) := (blk_cell BK204.out 1).trans rfl
   have hcz22_2 : wr.cell? ⟨gb204, 2, none⟩ = some (.int .i16 a0_2) := (blk_cell BK204.out 2).trans rfl
   have hcz22_3 : wr.cell? ⟨gb204, 3, none⟩ = some (.int .i16 a0_3) := (blk_cell BK204.out 3).trans rfl
   have hcz22_4 : wr.cell? ⟨gb204, 4, none⟩ = some (.int .i16 a0_4) := (blk_cell BK204.out 4).trans rfl
   have hfz22_0 := blk_frozen BK204.out 0
   have hfz22_1 := blk_frozen BK204.out 1
   have hfz22_2 := blk_frozen BK204.out 2
   have hfz22_3 := blk_frozen BK204.out 3
   have hfz22_4 := blk_frozen BK204.out 4
   go_wp2_with (first | ((with_reducible refine gate_callee (f := 100) rfl ?_); refine goesL_ (some 32) rfl rfl Try.func100 (by kernel_rfl) rfl #[.int .i8 a0_1] rfl q67x1_ ?_; (with_reducible refine (impl_isDigit.calls a0_1 true _ A18.out).mono ?_); rintro e w' ⟨rfl, ⟨nd, rfl⟩⟩; refine ⟨_, rfl, ?_⟩))
   go_ret
   exact ⟨by first | rfl | (simp [errW_none, errW_some] <;> rfl) | (simp [*, errW_none, errW_some] <;> rfl), by repeat (first | (with_reducible first | exact HB.out | apply below_alloc | apply pw_below_drewN | apply below_drew1 | refine below_set ?_ GE204.out) | exact HB.out)⟩
/-! ### impl_ValidTree_1: function 66 -/
def impl_ValidTree_1.f (k : Nat) (a0_0 : Int) (a0_1 : Int) (a0_2 : Int) (a0_3 : Int) (a0_4 : Int) (l1_0 : List (S77)) : Option (Bool) := (impl_forkOk.f k a0_0 a0_1 a0_2 a0_3 a0_4 (l1_0.length : Int)).bind fun t207 => (some (!t207))
theorem impl_ValidTree_1.mono : ∀ a0 a1 a2 a3 a4 a5 k, LeO (impl_ValidTree_1.f k a0 a1 a2 a3 a4 a5) (impl_ValidTree_1.f (k + 1) a0 a1 a2 a3 a4 a5) := by
  intro a0 a1 a2 a3 a4 a5 k
  unfold impl_ValidTree_1.f
  repeat' first
      | (with_reducible exact impl_forkOk.mono _ _ _ _ _ _ _)
      | (with_reducible exact LeO.refl _)
      | (with_reducible exact LeO.none _)
      | (with_reducible refine LeO.ite ?_ ?_)
      | (with_reducible refine LeO.bind ?_ (fun _ => ?_))
      | exact impl_forkOk.mono _ _ _ _ _ _ _
      | exact LeO.none _
      | refine LeO.ite ?_ ?_
      | refine LeO.bind ?_ (fun _ => ?_)
set_option maxHeartbeats 8000000 in
set_option maxRecDepth 100000 in
theorem impl_ValidTree_1.calls (k : Nat) (a0_0 : Int) (a0_1 : Int) (a0_2 : Int) (a0_3 : Int) (a0_4 : Int) (B1_ O1_ : Nat) (A1_0 : Option Addr) (c1_0 : Nat) (l1_0 : List (S77)) (r : Bool) (w : World) (hr1_0 : Kd.C k77 w A1_0 l1_0.length l1_0) (hc1_0 : l1_0.length ≤ c1_0) (hq1_ : w.cell? ⟨B1_, O1_, none⟩ = some (.slice A1_0 l1_0.length c1_0)) (h : impl_ValidTree_1.f k a0_0 a0_1 a0_2 a0_3 a0_4 l1_0 = some r) :
    Calls Try.prog 66 #[.agg #[.int .i8 a0_0, .int .i8 a0_1, .int .i16 a0_2, .int .i16 a0_3, .int .i16 a0_4], .pointer (some ⟨B1_, O1_, none⟩)] w fun e w' => e = .returned (.bool r) ∧ Below w.heap.size w w' := by
  have hu77 := Try.underlying77
  have HR1_0 := Aside0.mk hr1_0
  have HC1_0 := Aside0.mk hc1_0
  clear hr1_0 hc1_0
  have HQ1_ := Aside0.mk hq1_
  clear hq1_
  have HB := Aside0.mk (Below.refl w.heap.size w)
  have H : ((impl_forkOk.f k a0_0 a0_1 a0_2 a0_3 a0_4 (l1_0.length : Int)).bind fun t207 => (some (!t207))) = some r := h
  clear h
  replace H := Option.bind_eq_some_iff.mp H
  obtain ⟨t207, A30, H⟩ := H
  replace H : (some (!t207)) = some r := H
  have A3 := Aside0.mk A30
  clear A30
  obtain rfl := Option.some.inj H
  go_enter Try.func66, Try.ntmps66
  go_wp2_with (first | ((with_reducible refine gate_dst (N := 2) rfl ?_); refine box_event ?hg (N := 2) ?hd (cs := #[.int .i8 a0_0, .int .i8 a0_1, .int .i16 a0_2, .int .i16 a0_3, .int .i16 a0_4]) (t := 77) ?hr ?_; (case hd => rfl); (case hg => rfl); (case hr => first | (go_simp; done) | (go_simp; rfl)); intro gb206 hg w4 hbox hb; have n0_ := Aside0.mk (below_step (by repeat (first | (with_reducible first | exact HB.out | apply below_alloc | apply pw_below_drewN | apply below_drew1) | exact HB.out)) hb); have n1_ := Aside0.mk (hbox); have n2_ := Aside0.mk ((by rw [hg]; exact (below_size (by repeat (first | (with_reducible first | exact HB.out | apply below_alloc | apply pw_below_drewN | apply below_drew1) | exact HB.out))) : w.heap.size ≤ gb206)); have n3_ := Aside0.mk ((by rw [hg]; exact (below_size (by repeat (first | (with_reducible first | exact HB.out | apply below_alloc | apply pw_below_drewN | apply below_drew1) | exact HB.out))) : w.heap.size ≤ gb206)); clear HB; have HB := n0_; have BK206 := n1_; have GW206 := n2_; have GE206 := n3_; clear n0_ n1_ n2_ n3_; clear hb hbox hg; have hcz5_0 : w4.cell? ⟨gb206, 0, none⟩ = some (.int .i8 a0_0) := (blk_cell BK206.out 0).trans rfl; have hcz5_1 : w4.cell? ⟨gb206, 1, none⟩ = some (.int .i8 a0_1) := (blk_cell BK206.out 1).trans rfl; have hcz5_2 : w4.cell? ⟨gb206, 2, none⟩ = some (.int .i16 a0_2) := (blk_cell BK206.out 2).trans rfl; have hcz5_3 : w4.cell? ⟨gb206, 3, none⟩ = some (.int .i16 a0_3) := (blk_cell BK206.out 3).trans rfl; have hcz5_4 : w4.cell? ⟨gb206, 4, none⟩ = some (.int .i16 a0_4) := (blk_cell BK206.out 4).trans rfl; have hfz5_0 := blk_frozen BK206.out 0; have hfz5_1 := blk_frozen BK206.out 1; have hfz5_2 := blk_frozen BK206.out 2; have hfz5_3 := blk_frozen BK206.out 3; have hfz5_4 := blk_frozen BK206.out 4; have hxr6_0 := HQ1_.out; replace hxr6_0 := ((show Below w.heap.size w w4 from by repeat (first | (with_reducible first | exact HB.out | apply below_alloc | apply pw_below_drewN | apply below_drew1 | refine below_set ?_ GE206.out) | exact HB.out)).cell (World.block_lt_of_cell? w _ hxr6_0)).trans hxr6_0) | ((with_reducible refine gate_callee (f := 67) rfl ?_); refine goesL_ (some 8) rfl rfl Try.func67 (by kernel_rfl) rfl #[.agg #[.int .i8 a0_0, .int .i8 a0_1, .int .i16 a0_2, .int .i16 a0_3, .int .i16 a0_4], .int .i64 (l1_0.length : Int)] rfl (by (try simp only [List.map_toArray, List.map_cons, List.map_nil]); first | done | rfl | (simp only [List.length_drop, List.length_take]; rfl)) ?_; (with_reducible refine (impl_forkOk.calls k a0_0 a0_1 a0_2 a0_3 a0_4 (l1_0.length : Int) t207 _ A3.out).mono ?_); rintro e w7 ⟨rfl, hb⟩; refine ⟨_, rfl, ?_⟩; have n0_ := Aside0.mk (blk_below (g := gb206) (o := .cells #[.int .i8 a0_0, .int .i8 a0_1, .int .i16 a0_2, .int .i16 a0_3, .int .i16 a0_4] 77 (0, 0)) (by (with_reducible repeat (first | refine blk_drewN ?_ _ | refine blk_drew ?_ | refine blk_alloc ?_ _)); exact BK206.out) hb); have n1_ := Aside0.mk (below_step (by repeat (first | (with_reducible first | exact HB.out | apply below_alloc | apply pw_below_drewN | apply below_drew1 | refine below_set ?_ GE206.out) | exact HB.out)) hb); clear BK206; clear HB; have BK206 := n0_; have HB := n1_; clear n0_ n1_; (try clear hb); (try clear hb2); (try clear hk); (try clear hi)))
  go_ret
  exact ⟨by first | rfl | (simp [errW_none, errW_some] <;> rfl) | (simp [*, errW_none, errW_some] <;> rfl), by repeat (first | (with_reducible first | exact HB.out | apply below_alloc | apply pw_below_drewN | apply below_drew1 | refine below_set ?_ GE206.out) | exact HB.out)⟩

/-! ### impl_Fork_c66_1: function 99 -/
def impl_Fork_c66_1.l0 : Nat → List (S77) → Int → Int → List (S77) → Option (Int)
  | 0, _, _, _, _ => none
  | k + 1, x0, x7, x8, x2000 => if x8 < x7 then (if 0 ≤ x8 then (if x8 < (x0.length : Int) then ((impl_ValidTree_1.f k ((rd_T77 x0 x8).f0) ((rd_T77 x0 x8).f1) ((rd_T77 x0 x8).f2.f0) ((rd_T77 x0 x8).f2.f1) ((rd_T77 x0 x8).f2.f2) x2000).bind fun t209 => (if t209 = true then (some x8) else (impl_Fork_c66_1.l0 k x0 x7 (wrap64 (x8 + 1)) x2000))) else (none)) else (none)) else (some (-1))
def impl_Fork_c66_1.f (k : Nat) (l0 : List (S77)) (l1_0 : List (S77)) : Option (Int) := impl_Fork_c66_1.l0 k l0 (l0.length : Int) 0 l1_0
theorem impl_Fork_c66_1.mono_l : ∀ k, (∀ y0 y1 y2 y3, LeO (impl_Fork_c66_1.l0 k y0 y1 y2 y3) (impl_Fork_c66_1.l0 (k + 1) y0 y1 y2 y3))
  | 0 => fun _ _ _ _ r h => by simp [impl_Fork_c66_1.l0] at h
  | k + 1 => by
    have ih0 := impl_Fork_c66_1.mono_l k
    · intro y0 y1 y2 y3
      unfold impl_Fork_c66_1.l0
      repeat' first
      | (with_reducible exact ih0 _ _ _ _)
      | (with_reducible exact impl_ValidTree_1.mono _ _ _ _ _ _ _)
      | (with_reducible exact LeO.refl _)
      | (with_reducible exact LeO.none _)
      | (with_reducible refine LeO.ite ?_ ?_)
      | (with_reducible refine LeO.bind ?_ (fun _ => ?_))
      | exact ih0 _ _ _ _
      | exact impl_ValidTree_1.mono _ _ _ _ _ _ _
      | exact LeO.none _
      | refine LeO.ite ?_ ?_
      | refine LeO.bind ?_ (fun _ => ?_)
theorem impl_Fork_c66_1.mono : ∀ a0 a1 k, LeO (impl_Fork_c66_1.f k a0 a1) (impl_Fork_c66_1.f (k + 1) a0 a1) := by
  intro a0 a1 k
  have ih0 := impl_Fork_c66_1.mono_l k
  unfold impl_Fork_c66_1.f
  repeat' first
      | (with_reducible exact ih0 _ _ _ _)
      | (with_reducible exact impl_ValidTree_1.mono _ _ _ _ _ _ _)
      | (with_reducible exact LeO.refl _)
      | (with_reducible exact LeO.none _)
      | (with_reducible refine LeO.ite ?_ ?_)
      | (with_reducible refine LeO.bind ?_ (fun _ => ?_))
      | exact ih0 _ _ _ _
      | exact impl_ValidTree_1.mono _ _ _ _ _ _ _
      | exact LeO.none _
      | refine LeO.ite ?_ ?_
      | refine LeO.bind ?_ (fun _ => ?_)
set_option maxHeartbeats 8000000 in
set_option maxRecDepth 100000 in
theorem impl_Fork_c66_1.calls (k : Nat) (A0 : Option Addr) (c0 : Nat) (l0 : List (S77)) (B1_ O1_ : Nat) (A1_0 : Option Addr) (c1_0 : Nat) (l1_0 : List (S77)) (r : Int) (w : World) (hr0 : Kd.C k77 w A0 l0.length l0) (hc0 : l0.length ≤ c0) (hr1_0 : Kd.C k77 w A1_0 l1_0.length l1_0) (hc1_0 : l1_0.length ≤ c1_0) (hq1_ : w.cell? ⟨B1_, O1_, none⟩ = some (.slice A1_0 l1_0.length c1_0)) (h : impl_Fork_c66_1.f k l0 l1_0 = some r) :
    Calls Try.prog 99 #[.slice A0 l0.length c0, .func (.func 66) #[] #[.pointer (some ⟨B1_, O1_, none⟩)]] w fun e w' => e = .returned (.int .i64 r) ∧ Below w.heap.size w w' := by
  have hu77 := Try.underlying77
  have HR0 := Aside0.mk hr0
  have HC0 := Aside0.mk hc0
  clear hr0 hc0
  have HR1_0 := Aside0.mk hr1_0
  have HC1_0 := Aside0.mk hc1_0
  clear hr1_0 hc1_0
  have HQ1_ := Aside0.mk hq1_
  clear hq1_
  have HB := Aside0.mk (Below.refl w.heap.size w)
  have H : (impl_Fork_c66_1.l0 k l0 (l0.length : Int) 0 l1_0) = some r := h
  clear h
  have H' := Aside0.mk H
  clear H
  go_enter Try.func99, Try.ntmps99
  go_wp2
  go_loopg [8] k (fun kq v8 w' => ∃ (x8_1 : Int), v8 = .int .i64 x8_1 ∧ Aside0 (impl_Fork_c66_1.l0 kq l0 (l0.length : Int) x8_1 l1_0 = some r) ∧ Aside0 (kq ≤ k) ∧ Aside0 (Below w.heap.size w w'))
  case atStart => exact ⟨(0), (by first | rfl | (simp; done) | (simp [*]; done)), H', ⟨Nat.le_refl _⟩, ⟨by repeat (first | (with_reducible first | exact HB.out | apply below_alloc | apply pw_below_drewN | apply below_drew1) | exact HB.out)⟩⟩
  case round =>
    clear H'
    try clear c1
    try clear q1
    try clear p2
    obtain ⟨x8_1, rfl, HA, HK1, HB⟩ := hrel
    cases gk with
    | zero => exact absurd HA.out (by simp [impl_Fork_c66_1.l0])
    | succ k1 =>
      have H := HA.out
      clear HA
      simp only [impl_Fork_c66_1.l0] at H
      by_cases c3 : x8_1 < (l0.length : Int)
      · rw [if_pos c3] at H
        have c3b0 : decide (x8_1 < (l0.length : Int)) = true := decide_eq_true c3
        clear c3
        by_cases c4 : 0 ≤ x8_1
        · rw [if_pos c4] at H
          have c4b0 : decide (0 ≤ x8_1) = true := decide_eq_true c4
          clear c4
          have c5 : x8_1 < (l0.length : Int) := of_decide_eq_true c3b0
          rw [if_pos c5] at H
          clear c5
          replace H := Option.bind_eq_some_iff.mp H
          obtain ⟨t209, A60, H⟩ := H
          replace H : (if t209 = true then (some x8_1) else (impl_Fork_c66_1.l0 k1 l0 (l0.length : Int) (wrap64 (x8_1 + 1)) l1_0)) = some r := H
          have A6 := Aside0.mk A60
          clear A60
          by_cases c7 : t209 = true
          · subst c7
            have H1 : (some x8_1) = some r := by rw [if_pos rfl] at H; exact H
            clear H
            have H := H1
            clear H1
            obtain rfl := Option.some.inj H
            have p208 : 0 ≤ (x8_1 : Int) := of_decide_eq_true (by first | (with_reducible assumption) | assumption)
            have q208 : x8_1 < (l0.length : Int) := of_decide_eq_true (by first | (with_reducible assumption) | assumption)
            obtain ⟨ad208, e208, hx208_0, hx208_1, hx208_2, hx208_3, hx208_4⟩ := at_T77 HR0.out x8_1 p208 q208
            cases e208
            replace hx208_0 := (HB.out.cell (World.block_lt_of_cell? w _ hx208_0)).trans hx208_0
            replace hx208_1 := (HB.out.cell (World.block_lt_of_cell? w _ hx208_1)).trans hx208_1
            replace hx208_2 := (HB.out.cell (World.block_lt_of_cell? w _ hx208_2)).trans hx208_2
            replace hx208_3 := (HB.out.cell (World.block_lt_of_cell? w _ hx208_3)).trans hx208_3
            replace hx208_4 := (HB.out.cell (World.block_lt_of_cell? w _ hx208_4)).trans hx208_4
            replace p208 := eq_true p208
            replace q208 := eq_true q208
            go_wp2_with (first | (go_at_call 66; (with_reducible refine (impl_ValidTree_1.calls k1 ((rd_T77 l0 x8_1).f0) ((rd_T77 l0 x8_1).f1) ((rd_T77 l0 x8_1).f2.f0) ((rd_T77 l0 x8_1).f2.f1) ((rd_T77 l0 x8_1).f2.f2) B1_ O1_ A1_0 c1_0 l1_0 true _ ?side1 ?side2 ?side3 A6.out).mono ?_); (case side1 => repeat (first | exact (Kd.C_below HR1_0.out HB.out) | (with_reducible refine Kd.C_alloc ?_ _) | (with_reducible refine Kd.C_drewN ?_ _) | (with_reducible refine Kd.C_drew ?_))); (case side2 => exact HC1_0.out); (case side3 => obtain hz0_ := HQ1_.out; exact (((by repeat (first | (with_reducible first | exact HB.out | apply below_alloc | apply pw_below_drewN | apply below_drew1) | exact HB.out)) : Below w.heap.size w _).cell (World.block_lt_of_cell? w _ hz0_)).trans hz0_); rintro e w8 ⟨rfl, hb⟩; have n0_ := Aside0.mk (below_step (by repeat (first | (with_reducible first | exact HB.out | apply below_alloc | apply pw_below_drewN | apply below_drew1) | exact HB.out)) hb); clear HB; have HB := n0_; clear n0_; (try clear hb); (try clear hb2); (try clear hk); (try clear hi)))
            go_ret
            exact ⟨by first | rfl | (simp [errW_none, errW_some] <;> rfl) | (simp [*, errW_none, errW_some] <;> rfl), by repeat (first | (with_reducible first | exact HB.out | apply below_alloc | apply pw_below_drewN | apply below_drew1) | exact HB.out)⟩
          · replace c7 := Bool.eq_false_iff.mpr c7
            subst c7
            have H1 : (impl_Fork_c66_1.l0 k1 l0 (l0.length : Int) (wrap64 (x8_1 + 1)) l1_0) = some r := by rw [if_neg (show ¬ (false = true) by decide)] at H; exact H
            clear H
            have H := H1
            clear H1
            have H' := Aside0.mk H
            clear H
            have p208 : 0 ≤ (x8_1 : Int) := of_decide_eq_true (by first | (with_reducible assumption) | assumption)
            have q208 : x8_1 < (l0.length : Int) := of_decide_eq_true (by first | (with_reducible assumption) | assumption)
            obtain ⟨ad208, e208, hx208_0, hx208_1, hx208_2, hx208_3, hx208_4⟩ := at_T77 HR0.out x8_1 p208 q208
            cases e208
            replace hx208_0 := (HB.out.cell (World.block_lt_of_cell? w _ hx208_0)).trans hx208_0
            replace hx208_1 := (HB.out.cell (World.block_lt_of_cell? w _ hx208_1)).trans hx208_1
            replace hx208_2 := (HB.out.cell (World.block_lt_of_cell? w _ hx208_2)).trans hx208_2
            replace hx208_3 := (HB.out.cell (World.block_lt_of_cell? w _ hx208_3)).trans hx208_3
            replace hx208_4 := (HB.out.cell (World.block_lt_of_cell? w _ hx208_4)).trans hx208_4
            replace p208 := eq_true p208
            replace q208 := eq_true q208
            go_wp2_with (first | (go_at_call 66; (with_reducible refine (impl_ValidTree_1.calls k1 ((rd_T77 l0 x8_1).f0) ((rd_T77 l0 x8_1).f1) ((rd_T77 l0 x8_1).f2.f0) ((rd_T77 l0 x8_1).f2.f1) ((rd_T77 l0 x8_1).f2.f2) B1_ O1_ A1_0 c1_0 l1_0 false _ ?side1 ?side2 ?side3 A6.out).mono ?_); (case side1 => repeat (first | exact (Kd.C_below HR1_0.out HB.out) | (with_reducible refine Kd.C_alloc ?_ _) | (with_reducible refine Kd.C_drewN ?_ _) | (with_reducible refine Kd.C_drew ?_))); (case side2 => exact HC1_0.out); (case side3 => obtain hz0_ := HQ1_.out; exact (((by repeat (first | (with_reducible first | exact HB.out | apply below_alloc | apply pw_below_drewN | apply below_drew1) | exact HB.out)) : Below w.heap.size w _).cell (World.block_lt_of_cell? w _ hz0_)).trans hz0_); rintro e w9 ⟨rfl, hb⟩; have n0_ := Aside0.mk (below_step (by repeat (first | (with_reducible first | exact HB.out | apply below_alloc | apply pw_below_drewN | apply below_drew1) | exact HB.out)) hb); clear HB; have HB := n0_; clear n0_; (try clear hb); (try clear hb2); (try clear hk); (try clear hi)))
            go_roundg k1
            case measure => have := HK1.out; omega
            case rel => exact ⟨(wrap64 (x8_1 + 1)), (by first | rfl | (simp; done) | (simp [*]; done)), H', ⟨by have := HK1.out; omega⟩, ⟨by repeat (first | (with_reducible first | exact HB.out | apply below_alloc | apply pw_below_drewN | apply below_drew1) | exact HB.out)⟩⟩
        · rw [if_neg c4] at H
          exact absurd H (by simp)
      · rw [if_neg c3] at H
        have c3b0 : decide (x8_1 < (l0.length : Int)) = false := decide_eq_false c3
        clear c3
        obtain rfl := Option.some.inj H
        go_wp2
        go_ret
        exact ⟨by first | rfl | (simp [errW_none, errW_some] <;> rfl) | (simp [*, errW_none, errW_some] <;> rfl), by repeat (first | (with_reducible first | exact HB.out | apply below_alloc | apply pw_below_drewN | apply below_drew1) | exact HB.out)⟩

/-! ### impl_Fork_c66_0: function 65 -/
def impl_Fork_c66_0.f (k : Nat) (l0 : List (S77)) (l1_0 : List (S77)) : Option (Bool) := (impl_Fork_c66_1.f k l0 l1_0).bind fun t210 => (some (decide (t210 ≥ 0)))
theorem impl_Fork_c66_0.mono : ∀ a0 a1 k, LeO (impl_Fork_c66_0.f k a0 a1) (impl_Fork_c66_0.f (k + 1) a0 a1) := by
  intro a0 a1 k
  unfold impl_Fork_c66_0.f
  repeat' first
      | (with_reducible exact impl_Fork_c66_1.mono _ _ _)
      | (with_reducible exact LeO.refl _)
      | (with_reducible exact LeO.none _)
      | (with_reducible refine LeO.ite ?_ ?_)
      | (with_reducible refine LeO.bind ?_ (fun _ => ?_))
      | exact impl_Fork_c66_1.mono _ _ _
      | exact LeO.none _
      | refine LeO.ite ?_ ?_
      | refine LeO.bind ?_ (fun _ => ?_)
set_option maxHeartbeats 8000000 in
set_option maxRecDepth 100000 in
theorem impl_Fork_c66_0.calls (k : Nat) (A0 : Option Addr) (c0 : Nat) (l0 : List (S77)) (B1_ O1_ : Nat) (A1_0 : Option Addr) (c1_0 : Nat) (l1_0 : List (S77)) (r : Bool) (w : World) (hr0 : Kd.C k77 w A0 l0.length l0) (hc0 : l0.length ≤ c0) (hr1_0 : Kd.C k77 w A1_0 l1_0.length l1_0) (hc1_0 : l1_0.length ≤ c1_0) (hq1_ : w.cell? ⟨B1_, O1_, none⟩ = some (.slice A1_0 l1_0.length c1_0)) (h : impl_Fork_c66_0.f k l0 l1_0 = some r) :
    Calls Try.prog 65 #[.slice A0 l0.length c0, .func (.func 66) #[] #[.pointer (some ⟨B1_, O1_, none⟩)]] w fun e w' => e = .returned (.bool r) ∧ Below w.heap.size w w' := by
  have HR0 := Aside0.mk hr0
  have HC0 := Aside0.mk hc0
  clear hr0 hc0
  have HR1_0 := Aside0.mk hr1_0
  have HC1_0 := Aside0.mk hc1_0
  clear hr1_0 hc1_0
  have HQ1_ := Aside0.mk hq1_
  clear hq1_
  have HB := Aside0.mk (Below.refl w.heap.size w)
  have H : ((impl_Fork_c66_1.f k l0 l1_0).bind fun t210 => (some (decide (t210 ≥ 0)))) = some r := h
  clear h
  replace H := Option.bind_eq_some_iff.mp H
  obtain ⟨t210, A30, H⟩ := H
  replace H : (some (decide (t210 ≥ 0))) = some r := H
  have A3 := Aside0.mk A30
  clear A30
  obtain rfl := Option.some.inj H
  go_enter Try.func65, Try.ntmps65
  go_wp2_with (first | ((with_reducible refine gate_callee (f := 99) rfl ?_); refine goesL_ (some 7) rfl rfl Try.func99 (by kernel_rfl) rfl #[.slice A0 l0.length c0, .func (.func 66) #[] #[.pointer (some ⟨B1_, O1_, none⟩)]] rfl (by (try simp only [List.map_toArray, List.map_cons, List.map_nil]); first | done | rfl | (simp only [List.length_drop, List.length_take]; rfl)) ?_; (with_reducible refine (impl_Fork_c66_1.calls k _ _ l0 B1_ O1_ A1_0 c1_0 l1_0 t210 _ ?side1 ?side2 ?side3 ?side4 ?side5 A3.out).mono ?_); (case side1 => repeat (first | exact HR0.out | (with_reducible refine Kd.C_alloc ?_ _) | (with_reducible refine Kd.C_drewN ?_ _) | (with_reducible refine Kd.C_drew ?_))); (case side2 => exact HC0.out); (case side3 => repeat (first | exact HR1_0.out | (with_reducible refine Kd.C_alloc ?_ _) | (with_reducible refine Kd.C_drewN ?_ _) | (with_reducible refine Kd.C_drew ?_))); (case side4 => exact HC1_0.out); (case side5 => obtain hz0_ := HQ1_.out; exact hz0_); rintro e w4 ⟨rfl, hb⟩; refine ⟨_, rfl, ?_⟩; have n0_ := Aside0.mk (below_step (by repeat (first | (with_reducible first | exact HB.out | apply below_alloc | apply pw_below_drewN | apply below_drew1) | exact HB.out)) hb); clear HB; have HB := n0_; clear n0_; (try clear hb); (try clear hb2); (try clear hk); (try clear hi)))
  go_ret
  exact ⟨by first | rfl | (simp [errW_none, errW_some] <;> rfl) | (simp [*, errW_none, errW_some] <;> rfl), by repeat (first | (with_reducible first | exact HB.out | apply below_alloc | apply pw_below_drewN | apply below_drew1) | exact HB.out)⟩

@[go_sem] theorem impl_ValidTree.run_make_ (P : Program) (fn : Fn) (first cap : Array Value) (w : World) : (Instr.makeFunc fn first cap).run P w = .ok (.func fn first cap) w := rfl
@[go_sem] theorem impl_ValidTree.events_make_ (P : Program) (fn : Fn) (first cap : Array Value) (w : World) (es : Array Event) : (Instr.makeFunc fn first cap).events P w es = es := rfl
/-! ### impl_ValidTree: function 29 -/
def impl_ValidTree.f (k : Nat) (l0_0 : List (S77)) : Option (Bool) := if (l0_0.length : Int) < 1 then (some false) else (if (l0_0.length : Int) > 60 then (some false) else ((impl_Fork_c66_0.f k l0_0 l0_0).bind fun t212 => (some (!t212))))
theorem impl_ValidTree.mono : ∀ a0 k, LeO (impl_ValidTree.f k a0) (impl_ValidTree.f (k + 1) a0) := by
  intro a0 k
  unfold impl_ValidTree.f
  repeat' first
      | (with_reducible exact impl_Fork_c66_0.mono _ _ _)
      | (with_reducible exact LeO.refl _)
      | (with_reducible exact LeO.none _)
      | (with_reducible refine LeO.ite ?_ ?_)
      | (with_reducible refine LeO.bind ?_ (fun _ => ?_))
      | exact impl_Fork_c66_0.mono _ _ _
      | exact LeO.none _
      | refine LeO.ite ?_ ?_
      | refine LeO.bind ?_ (fun _ => ?_)
set_option maxHeartbeats 8000000 in
set_option maxRecDepth 100000 in
theorem impl_ValidTree.calls (k : Nat) (A0_0 : Option Addr) (c0_0 : Nat) (l0_0 : List (S77)) (r : Bool) (w : World) (hr0_0 : Kd.C k77 w A0_0 l0_0.length l0_0) (hc0_0 : l0_0.length ≤ c0_0) (h : impl_ValidTree.f k l0_0 = some r) :
    Calls Try.prog 29 #[.agg #[.slice A0_0 l0_0.length c0_0]] w fun e w' => e = .returned (.bool r) ∧ Below w.heap.size w w' := by
  have hu24 := Try.underlying24
  have HR0_0 := Aside0.mk hr0_0
  have HC0_0 := Aside0.mk hc0_0
  clear hr0_0 hc0_0
  have HB := Aside0.mk (Below.refl w.heap.size w)
  have H : (if (l0_0.length : Int) < 1 then (some false) else (if (l0_0.length : Int) > 60 then (some false) else ((impl_Fork_c66_0.f k l0_0 l0_0).bind fun t212 => (some (!t212))))) = some r := h
  clear h
  by_cases c2 : (l0_0.length : Int) < 1
  · rw [if_pos c2] at H
    have c2b0 : decide ((l0_0.length : Int) < 1) = true := decide_eq_true c2
    have c2b1 : decide (l0_0.length < 1) = true := decide_eq_true (by omega)
    clear c2
    obtain rfl := Option.some.inj H
    go_enter Try.func29, Try.ntmps29
    go_wp2_with (first | ((with_reducible refine gate_dst (N := 1) rfl ?_); (try (refine gate_guard (by rfl) ?_; dsimp only)); refine box_event ?hg (N := 1) ?hd (cs := #[.slice A0_0 l0_0.length c0_0]) (t := 24) ?hr ?_; (case hd => rfl); (case hg => rfl); (case hr => first | (go_simp; done) | (go_simp; rfl)); intro gb211 hg w3 hbox hb; have n0_ := Aside0.mk (below_step (by repeat (first | (with_reducible first | exact HB.out | apply below_alloc | apply pw_below_drewN | apply below_drew1) | exact HB.out)) hb); have n1_ := Aside0.mk (hbox); have n2_ := Aside0.mk ((by rw [hg]; exact (below_size (by repeat (first | (with_reducible first | exact HB.out | apply below_alloc | apply pw_below_drewN | apply below_drew1) | exact HB.out))) : w.heap.size ≤ gb211)); have n3_ := Aside0.mk ((by rw [hg]; exact (below_size (by repeat (first | (with_reducible first | exact HB.out | apply below_alloc | apply pw_below_drewN | apply below_drew1) | exact HB.out))) : w.heap.size ≤ gb211)); clear HB; have HB := n0_; have BK211 := n1_; have GW211 := n2_; have GE211 := n3_; clear n0_ n1_ n2_ n3_; clear hb hbox hg; have hcz4_0 : w3.cell? ⟨gb211, 0, none⟩ = some (.slice A0_0 l0_0.length c0_0) := (blk_cell BK211.out 0).trans rfl; have hfz4_0 := blk_frozen BK211.out 0))
    go_ret
    exact ⟨by first | rfl | (simp [errW_none, errW_some] <;> rfl) | (simp [*, errW_none, errW_some] <;> rfl), by repeat (first | (with_reducible first | exact HB.out | apply below_alloc | apply pw_below_drewN | apply below_drew1 | refine below_set ?_ GE211.out) | exact HB.out)⟩
  · rw [if_neg c2] at H
    have c2b0 : decide ((l0_0.length : Int) < 1) = false := decide_eq_false c2
    have c2b1 : decide (l0_0.length < 1) = false := decide_eq_false (by omega)
    clear c2
    by_cases c5 : (l0_0.length : Int) > 60
    · rw [if_pos c5] at H
      have c5b0 : decide (60 < (l0_0.length : Int)) = true := decide_eq_true c5
      have c5b1 : decide (60 < l0_0.length) = true := decide_eq_true (by omega)
      clear c5
      obtain rfl := Option.some.inj H
      go_enter Try.func29, Try.ntmps29
      go_wp2_with (first | ((with_reducible refine gate_dst (N := 1) rfl ?_); (try (refine gate_guard (by rfl) ?_; dsimp only)); refine box_event ?hg (N := 1) ?hd (cs := #[.slice A0_0 l0_0.length c0_0]) (t := 24) ?hr ?_; (case hd => rfl); (case hg => rfl); (case hr => first | (go_simp; done) | (go_simp; rfl)); intro gb211 hg w6 hbox hb; have n0_ := Aside0.mk (below_step (by repeat (first | (with_reducible first | exact HB.out | apply below_alloc | apply pw_below_drewN | apply below_drew1) | exact HB.out)) hb); have n1_ := Aside0.mk (hbox); have n2_ := Aside0.mk ((by rw [hg]; exact (below_size (by repeat (first | (with_reducible first | exact HB.out | apply below_alloc | apply pw_below_drewN | apply below_drew1) | exact HB.out))) : w.heap.size ≤ gb211)); have n3_ := Aside0.mk ((by rw [hg]; exact (below_size (by repeat (first | (with_reducible first | exact HB.out | apply below_alloc | apply pw_below_drewN | apply below_drew1) | exact HB.out))) : w.heap.size ≤ gb211)); clear HB; have HB := n0_; have BK211 := n1_; have GW211 := n2_; have GE211 := n3_; clear n0_ n1_ n2_ n3_; clear hb hbox hg; have hcz7_0 : w6.cell? ⟨gb211, 0, none⟩ = some (.slice A0_0 l0_0.length c0_0) := (blk_cell BK211.out 0).trans rfl; have hfz7_0 := blk_frozen BK211.out 0))
      go_ret
      exact ⟨by first | rfl | (simp [errW_none, errW_some] <;> rfl) | (simp [*, errW_none, errW_some] <;> rfl), by repeat (first | (with_reducible first | exact HB.out | apply below_alloc | apply pw_below_drewN | apply below_drew1 | refine below_set ?_ GE211.out) | exact HB.out)⟩
    · rw [if_neg c5] at H
      have c5b0 : decide (60 < (l0_0.length : Int)) = false := decide_eq_false c5
      have c5b1 : decide (60 < l0_0.length) = false := decide_eq_false (by omega)
      clear c5
      replace H := Option.bind_eq_some_iff.mp H
      obtain ⟨t212, A80, H⟩ := H
      replace H : (some (!t212)) = some r := H
      have A8 := Aside0.mk A80
      clear A80
      obtain rfl := Option.some.inj H
      go_enter Try.func29, Try.ntmps29
      go_wp2_with (first | ((with_reducible refine gate_dst (N := 1) rfl ?_); (try (refine gate_guard (by rfl) ?_; dsimp only)); refine box_event ?hg (N := 1) ?hd (cs := #[.slice A0_0 l0_0.length c0_0]) (t := 24) ?hr ?_; (case hd => rfl); (case hg => rfl); (case hr => first | (go_simp; done) | (go_simp; rfl)); intro gb211 hg w9 hbox hb; have n0_ := Aside0.mk (below_step (by repeat (first | (with_reducible first | exact HB.out | apply below_alloc | apply pw_below_drewN | apply below_drew1) | exact HB.out)) hb); have n1_ := Aside0.mk (hbox); have n2_ := Aside0.mk ((by rw [hg]; exact (below_size (by repeat (first | (with_reducible first | exact HB.out | apply below_alloc | apply pw_below_drewN | apply below_drew1) | exact HB.out))) : w.heap.size ≤ gb211)); have n3_ := Aside0.mk ((by rw [hg]; exact (below_size (by repeat (first | (with_reducible first | exact HB.out | apply below_alloc | apply pw_below_drewN | apply below_drew1) | exact HB.out))) : w.heap.size ≤ gb211)); clear HB; have HB := n0_; have BK211 := n1_; have GW211 := n2_; have GE211 := n3_; clear n0_ n1_ n2_ n3_; clear hb hbox hg; have hcz10_0 : w9.cell? ⟨gb211, 0, none⟩ = some (.slice A0_0 l0_0.length c0_0) := (blk_cell BK211.out 0).trans rfl; have hfz10_0 := blk_frozen BK211.out 0) | ((with_reducible refine gate_callee (f := 65) rfl ?_); refine goesL_ (some 16) rfl rfl Try.func65 (by kernel_rfl) rfl #[.slice A0_0 l0_0.length c0_0, .func (.func 66) #[] #[.pointer (some ⟨gb211, 0, none⟩)]] rfl (by (try simp only [List.map_toArray, List.map_cons, List.map_nil]); first | done | rfl | (simp only [List.length_drop, List.length_take]; rfl)) ?_; (with_reducible refine (impl_Fork_c66_0.calls k _ _ l0_0 gb211 0 A0_0 c0_0 l0_0 t212 _ ?side1 ?side2 ?side3 ?side4 ?side5 A8.out).mono ?_); (case side1 => repeat (first | exact (Kd.C_below HR0_0.out HB.out) | (with_reducible refine Kd.C_alloc ?_ _) | (with_reducible refine Kd.C_drewN ?_ _) | (with_reducible refine Kd.C_drew ?_))); (case side2 => exact HC0_0.out); (case side3 => repeat (first | exact (Kd.C_below HR0_0.out HB.out) | (with_reducible refine Kd.C_alloc ?_ _) | (with_reducible refine Kd.C_drewN ?_ _) | (with_reducible refine Kd.C_drew ?_))); (case side4 => exact HC0_0.out); (case side5 => exact (blk_cell (g := gb211) (t := 24) (cs := #[.slice A0_0 l0_0.length c0_0]) (by (with_reducible repeat (first | refine blk_drewN ?_ _ | refine blk_drew ?_ | refine blk_alloc ?_ _)); exact BK211.out) 0).trans rfl); rintro e w11 ⟨rfl, hb⟩; refine ⟨_, rfl, ?_⟩; have n0_ := Aside0.mk (blk_below (g := gb211) (o := .cells #[.slice A0_0 l0_0.length c0_0] 24 (0, 0)) (by (with_reducible repeat (first | refine blk_drewN ?_ _ | refine blk_drew ?_ | refine blk_alloc ?_ _)); exact BK211.out) hb); have n1_ := Aside0.mk (below_step (by repeat (first | (with_reducible first | exact HB.out | apply below_alloc | apply pw_below_drewN | apply below_drew1 | refine below_set ?_ GE211.out) | exact HB.out)) hb); clear BK211; clear HB; have BK211 := n0_; have HB := n1_; clear n0_ n1_; (try clear hb); (try clear hb2); (try clear hk); (try clear hi)))
      go_ret
      exact ⟨by first | rfl | (simp [errW_none, errW_some] <;> rfl) | (simp [*, errW_none, errW_some] <;> rfl), by repeat (first | (with_reducible first | exact HB.out | apply below_alloc | apply pw_below_drewN | apply below_drew1 | refine below_set ?_ GE211.out) | exact HB.out)⟩

/-- The nodes to which a node goes: those of a told node, or all three. -/
def impl_Fork_ways.f (a0_0 a0_1 a0_2 a0_3 a0_4 : Int) : Option (List Int) := some (if a0_0 = 2 then [a0_2] else [a0_2, a0_3, a0_4])
set_option maxRecDepth 100000 in
theorem impl_Fork_ways.calls (P_ : Addr) (a0_0 a0_1 a0_2 a0_3 a0_4 : Int) (r : List Int) (w : World) (hK : w.cell? P_ = some (.int .i8 a0_0)) (h : impl_Fork_ways.f a0_0 a0_1 a0_2 a0_3 a0_4 = some r) :
    Calls Try.prog 103 #[.pointer (some P_)] w fun e w' => e = .returned (.slice (some ⟨P_.block, P_.off + 2, none⟩) r.length 3) ∧ Drawn0 w w' := by
  have H := Option.some.inj h
  subst H
  by_cases c : a0_0 = 2
  · have cb : (a0_0 == 2) = true := beq_iff_eq.mpr c
    rw [if_pos c]
    go_enter Try.func103, Try.ntmps103
    go_wp2
    go_ret
    exact ⟨by first | rfl | (simp; done) | (simp [*]; done), by repeat (first | exact Drawn0.refl _ | apply Drawn0.step)⟩
  · have cb : (a0_0 == 2) = false := beq_eq_false_iff_ne.mpr c
    rw [if_neg c]
    go_enter Try.func103, Try.ntmps103
    go_wp2
    go_ret
    exact ⟨by first | rfl | (simp; done) | (simp [*]; done), by repeat (first | exact Drawn0.refl _ | apply Drawn0.step)⟩
theorem impl_Fork_ways.room {a0_0 a0_1 a0_2 a0_3 a0_4 : Int} {r : List Int} (h : impl_Fork_ways.f a0_0 a0_1 a0_2 a0_3 a0_4 = some r) : r.length ≤ 3 := by
  have H := Option.some.inj h
  subst H
  split <;> simp
/-- What such a slice reads as, where the node lies in a row that came in. -/
theorem impl_Fork_ways.row {w : World} {ad : Addr} {n : Nat} {xs : List S77} (h : Kd.C k77 w (some ad) n xs) (i : Int) (h0 : 0 ≤ i) (h1 : i < n) {r : List Int} (hr : impl_Fork_ways.f (rd_T77 xs i).f0 (rd_T77 xs i).f1 (rd_T77 xs i).f2.f0 (rd_T77 xs i).f2.f1 (rd_T77 xs i).f2.f2 = some r) : Kd.C (Kd.int .i16) w (some ⟨(ad.add (i.toNat * 5)).block, (ad.add (i.toNat * 5)).off + 2, none⟩) r.length r := by
  obtain ⟨ad2, e, g0, g1, g2, g3, g4⟩ := at_T77 h i h0 h1
  injection e with e
  subst e
  have H := Option.some.inj hr
  subst H
  refine Kd.C_of_reads (d := (0 : Int)) (h1 := fun _ => rfl) ⟨rfl, by split <;> simp, fun _ => ⟨_, rfl, fun j hj => ?_⟩⟩
  have hj3 : j < 3 := by
    revert hj; split <;> simp <;> omega
  have ha : ∀ j : Nat, (⟨(ad.add (i.toNat * 5)).block, (ad.add (i.toNat * 5)).off + 2, none⟩ : Addr).add j = ⟨(ad.add (i.toNat * 5)).block, (ad.add (i.toNat * 5)).off + 2 + j, none⟩ := fun j => by
    generalize (ad.add (i.toNat * 5)).block = b_
    unfold Addr.add; split <;> simp_all
  rw [ha]
  revert hj
  split
  · intro hj
    obtain rfl : j = 0 := by simp at hj; omega
    exact g2
  · intro hj
    rcases (show j = 0 ∨ j = 1 ∨ j = 2 from by omega) with rfl | rfl | rfl
    · exact g2
    · exact g3
    · exact g4

end Go.Proofs.Ytlccefmimpmgjaa.MFnExactIsProductive
