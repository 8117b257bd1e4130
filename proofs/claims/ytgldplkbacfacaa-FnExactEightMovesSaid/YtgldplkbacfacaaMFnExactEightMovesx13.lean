/- Functions of the program as Lean functions, and the proof that the code comes to what they say. Written by a program of this session (myprint.py). -/
import Derived.Test.YtgldplkbacfacaaMFnExactEightMovesx0
import Derived.Test.YtgldplkbacfacaaMFnExactEightMovesx1
import Derived.Test.YtgldplkbacfacaaMFnExactEightMovesx2
import Derived.Test.YtgldplkbacfacaaMFnExactEightMovesx7
import Derived.Test.YtgldplkbacfacaaMFnExactEightMovesx12
namespace Go.Proofs.Ytgldplkbacfacaa.MFnExactEightMoves
open Go.RowKit Go.Proofs.Ytgldplkbacfacaa.MOpen Go.Proofs.YtgldplkbacfacaaW.PrintWords Go.Proofs.YtgldplkbacfacaaW.PrintLast Go.Proofs.YtgldplkbacfacaaW.PrintMore
attribute [local go_sem] max2_int min2_int max_two min_two max_three min_three max_four min_four   -- for this text's walks alone
set_option linter.unusedVariables false
set_option linter.unusedSimpArgs false

set_option linter.defProp false
def rA6_ := @Kd.R_alloc
def rN6_ := @Kd.R_drewN
def rD6_ := @Kd.R_drew
def aM6_ := @Aside0.mk
def rB6_ := @Kd.R_below
theorem q6x1_ {P : Prop} (h : P := by (try simp only [List.map_toArray, List.map_cons, List.map_nil]); first | done | rfl | (simp only [List.length_drop, List.length_take]; rfl) | (simp only [List.drop_one]; done) | (simp only [List.drop_one]; rfl)) : P := h
theorem q6x2_ {P : Prop} (h : P := by repeat (first | (with_reducible first | exact HB.out | apply below_alloc | apply pw_below_drewN | apply below_drew1 | refine below_set ?_ GE181.out) | exact HB.out)) : P := h
theorem q6x3_ {P : Prop} (h : P := by (with_reducible repeat (first | refine blk_drewN ?_ _ | refine blk_drew ?_ | refine blk_alloc ?_ _)); exact BK181.out) : P := h
theorem q6x4_ {P : Prop} (h : P := by (with_reducible repeat (first | apply rA6_ | apply rN6_ | apply rD6_)); exact HO_11.out) : P := h
theorem q6x5_ {P : Prop} (h : P := by (with_reducible repeat (first | apply rA6_ | apply rN6_ | apply rD6_)); exact HO_7.out) : P := h
theorem q6x6_ {P : Prop} (h : P := by (with_reducible repeat (first | apply rA6_ | apply rN6_ | apply rD6_)); exact HO_10.out) : P := h
theorem q6x7_ {P : Prop} (h : P := by (with_reducible repeat (first | apply rA6_ | apply rN6_ | apply rD6_)); exact HO_9.out) : P := h
theorem q6x8_ {P : Prop} (h : P := by repeat (first | (with_reducible first | exact HB.out | apply below_alloc | apply pw_below_drewN | apply below_drew1) | exact HB.out)) : P := h
theorem q6x9_ {P : Prop} (h : P := by (with_reducible repeat (first | apply rA6_ | apply rN6_ | apply rD6_)); exact HO192.out) : P := h
theorem q6x10_ {P : Prop} (h : P := by (with_reducible repeat (first | apply rA6_ | apply rN6_ | apply rD6_)); exact HO195.out) : P := h
theorem q6x11_ {P : Prop} (h : P := by (with_reducible repeat (first | apply rA6_ | apply rN6_ | apply rD6_)); exact HO198.out) : P := h
theorem q6x12_ {P : Prop} (h : P := by (try simp only [List.map_toArray, List.map_cons, List.map_nil]); first | done | (rw [show t233.length = t214.length from (Kd.R_reads' HO_11.out).1.symm] <;> rfl) | rfl | (simp only [List.length_drop, List.length_take]; rfl) | (simp only [List.drop_one]; done) | (simp only [List.drop_one]; rfl)) : P := h
theorem q6x13_ {P : Prop} (h : P := by (with_reducible repeat (first | apply rA6_ | apply rN6_ | apply rD6_)); exact HO202.out) : P := h
theorem q6x14_ {P : Prop} (h : P := by (with_reducible repeat (first | apply rA6_ | apply rN6_ | apply rD6_)); exact HO221.out) : P := h
theorem q6x15_ {P : Prop} (h : P := by (with_reducible repeat (first | apply rA6_ | apply rN6_ | apply rD6_)); exact HO245.out) : P := h
theorem q6x16_ {P : Prop} (h : P := by (with_reducible repeat (first | apply rA6_ | apply rN6_ | apply rD6_)); exact HO205.out) : P := h
theorem q6x17_ {P : Prop} (h : P := by first | rfl | (simp; done) | (simp [*]; done)) : P := h
theorem q6x18_ {P : Prop} (h : P := by (with_reducible repeat (first | apply rA6_ | apply rN6_ | apply rD6_)); exact HO248.out) : P := h
theorem q6x19_ {P : Prop} (h : P := by rw [hg]; exact (below_size q6x8_)) : P := h
/-! ### laws_FnExactEightMoves: function 6 -/
mutual
def laws_FnExactEightMoves.j0 : Nat → List Int → List Int → List (S52) → Int → List Int → List Int → List (S52) → Int → Bool → Int → Int → Int → Int → Int → Int → Int → Int → Option (Bool)
 | 0, _, _, _, _, _, _, _, _, _, _, _, _, _, _, _, _, _ => none
 | k + 1, x1, x2, x7, x8, x9, x10, x11, x12, x54, x182000, x182001, x182002, x182003, x182004, x182005, x182006, x182007 => if x54 = true then (some false) else ((laws_toInt64S.f k x1).bind fun t219 => ((laws_eqInt64S.f k x9 t219).bind fun t222 => (if t222 = true then ((laws_toInt64S.f k x2).bind fun t223 => ((laws_eqInt64S.f k x10 t223).bind fun t226 => (if t226 = true then ((laws_markInt64S.f k x9 1).bind fun bt227 => ((laws_markInt64S.f k x10 bt227.1).bind fun bt229 => (if bt229.1 < 0 then (laws_FnExactEightMoves.j1 k x1 x2 x7 x8 x11 true x182000 x182001 x182002 x182003 x182004 x182005 x182006 x182007) else ((laws_eqMoveS.f k x11 x7).bind fun t231 => (if t231 = true then (laws_FnExactEightMoves.j1 k x1 x2 x7 x8 x11 (x12 != x8) x182000 x182001 x182002 x182003 x182004 x182005 x182006 x182007) else (laws_FnExactEightMoves.j1 k x1 x2 x7 x8 x11 true x182000 x182001 x182002 x182003 x182004 x182005 x182006 x182007)))))) else (some false)))) else (some false))))
def laws_FnExactEightMoves.j1 : Nat → List Int → List Int → List (S52) → Int → List (S52) → Bool → Int → Int → Int → Int → Int → Int → Int → Int → Option (Bool)
 | 0, _, _, _, _, _, _, _, _, _, _, _, _, _, _ => none
 | k + 1, x1, x2, x7, x8, x11, x83, x182000, x182001, x182002, x182003, x182004, x182005, x182006, x182007 => if x83 = true then (some false) else ((laws_markMoveS.f k x11 1).bind fun bt232 => ((laws_heldMoveS.f k bt232.2 1).bind fun t234 => (if t234 < 0 then (some false) else (if t234 = bt232.1 then ((laws_toEight.f k x182000 x182001 x182002 x182003 x182004 x182005 x182006 x182007).bind fun bt235 => ((laws_toInt64S.f k x1).bind fun t243 => ((laws_toInt64S.f k x2).bind fun t246 => ((impl_EightMoves.f k bt235.1 bt235.2.1 bt235.2.2.1 bt235.2.2.2.1 bt235.2.2.2.2.1 bt235.2.2.2.2.2.1 bt235.2.2.2.2.2.2.1 bt235.2.2.2.2.2.2.2 t243 t246).bind fun bt249 => ((laws_eqMoveS.f k bt249.1 x7).bind fun t253 => (if t253 = true then (laws_FnExactEightMoves.j2 k bt232.2 bt232.1 (bt249.2 != x8)) else (laws_FnExactEightMoves.j2 k bt232.2 bt232.1 true))))))) else (some false)))))
def laws_FnExactEightMoves.j2 : Nat → List (S52) → Int → Bool → Option (Bool)
 | 0, _, _, _ => none
 | k + 1, x11, x14, x113 => if x113 = true then (some false) else ((laws_heldMoveS.f k x11 1).bind fun t254 => (if t254 < 0 then (some false) else (if t254 = x14 then (some true) else (some false))))
end
def laws_FnExactEightMoves.f (k : Nat) (a0_0 : Int) (a0_1 : Int) (a0_2 : Int) (a0_3 : Int) (a0_4 : Int) (a0_5 : Int) (a0_6 : Int) (a0_7 : Int) (l1 : List Int) (l2 : List Int) : Option (Bool) := if (l1.length : Int) > 1048576 then (some true) else (if (l2.length : Int) > 1048576 then (some true) else ((laws_toEight.f k a0_0 a0_1 a0_2 a0_3 a0_4 a0_5 a0_6 a0_7).bind fun bt182 => ((laws_toInt64S.f k l1).bind fun t190 => ((laws_toInt64S.f k l2).bind fun t193 => ((spec_EightMoves.f k bt182.1 bt182.2.1 bt182.2.2.1 bt182.2.2.2.1 bt182.2.2.2.2.1 bt182.2.2.2.2.2.1 bt182.2.2.2.2.2.2.1 bt182.2.2.2.2.2.2.2 t190 t193).bind fun bt196 => ((laws_toInt64S.f k l1).bind fun t200 => ((laws_toInt64S.f k l2).bind fun t203 => ((laws_toEight.f k a0_0 a0_1 a0_2 a0_3 a0_4 a0_5 a0_6 a0_7).bind fun bt206 => ((impl_EightMoves.f k bt206.1 bt206.2.1 bt206.2.2.1 bt206.2.2.2.1 bt206.2.2.2.2.1 bt206.2.2.2.2.2.1 bt206.2.2.2.2.2.2.1 bt206.2.2.2.2.2.2.2 t200 t203).bind fun bt214 => ((laws_eqMoveS.f k bt214.1 bt196.1).bind fun t218 => (if t218 = true then (laws_FnExactEightMoves.j0 k l1 l2 bt196.1 bt196.2 t200 t203 bt214.1 bt214.2 (bt214.2 != bt196.2) a0_0 a0_1 a0_2 a0_3 a0_4 a0_5 a0_6 a0_7) else (laws_FnExactEightMoves.j0 k l1 l2 bt196.1 bt196.2 t200 t203 bt214.1 bt214.2 true a0_0 a0_1 a0_2 a0_3 a0_4 a0_5 a0_6 a0_7))))))))))))
theorem laws_FnExactEightMoves.mono_l : ∀ k, (∀ y0 y1 y2 y3 y4 y5 y6 y7 y8 y9 y10 y11 y12 y13 y14 y15 y16, LeO (laws_FnExactEightMoves.j0 k y0 y1 y2 y3 y4 y5 y6 y7 y8 y9 y10 y11 y12 y13 y14 y15 y16) (laws_FnExactEightMoves.j0 (k + 1) y0 y1 y2 y3 y4 y5 y6 y7 y8 y9 y10 y11 y12 y13 y14 y15 y16)) ∧ (∀ y0 y1 y2 y3 y4 y5 y6 y7 y8 y9 y10 y11 y12 y13, LeO (laws_FnExactEightMoves.j1 k y0 y1 y2 y3 y4 y5 y6 y7 y8 y9 y10 y11 y12 y13) (laws_FnExactEightMoves.j1 (k + 1) y0 y1 y2 y3 y4 y5 y6 y7 y8 y9 y10 y11 y12 y13)) ∧ (∀ y0 y1 y2, LeO (laws_FnExactEightMoves.j2 k y0 y1 y2) (laws_FnExactEightMoves.j2 (k + 1) y0 y1 y2))
 | 0 => ⟨fun _ _ _ _ _ _ _ _ _ _ _ _ _ _ _ _ _ r h => by simp [laws_FnExactEightMoves.j0] at h, fun _ _ _ _ _ _ _ _ _ _ _ _ _ _ r h => by simp [laws_FnExactEightMoves.j1] at h, fun _ _ _ r h => by simp [laws_FnExactEightMoves.j2] at h⟩
 | k + 1 => by
  obtain ⟨ih0, ih1, ih2⟩ := laws_FnExactEightMoves.mono_l k
  refine ⟨?_, ?_, ?_⟩
  ·intro y0 y1 y2 y3 y4 y5 y6 y7 y8 y9 y10 y11 y12 y13 y14 y15 y16
   unfold laws_FnExactEightMoves.j0
   repeat' first
   | (with_reducible exact ih0 _ _ _ _ _ _ _ _ _ _ _ _ _ _ _ _ _)
   | (with_reducible exact ih1 _ _ _ _ _ _ _ _ _ _ _ _ _ _)
   | (with_reducible exact ih2 _ _ _)
   | (with_reducible exact impl_EightMoves.mono _ _ _ _ _ _ _ _ _ _ _)
   | (with_reducible exact laws_eqInt64S.mono _ _ _)
   | (with_reducible exact laws_eqMoveS.mono _ _ _)
   | (with_reducible exact laws_heldMoveS.mono _ _ _)
   | (with_reducible exact laws_markInt64S.mono _ _ _)
   | (with_reducible exact laws_markMoveS.mono _ _ _)
   | (with_reducible exact laws_toEight.mono _ _ _ _ _ _ _ _ _)
   | (with_reducible exact laws_toInt64S.mono _ _)
   | (with_reducible exact spec_EightMoves.mono _ _ _ _ _ _ _ _ _ _ _)
   | (with_reducible exact LeO.refl _)
   | (with_reducible exact LeO.none _)
   | (with_reducible refine LeO.ite ?_ ?_)
   | (with_reducible refine LeO.bind ?_ (fun _ => ?_))
   | exact ih0 _ _ _ _ _ _ _ _ _ _ _ _ _ _ _ _ _
   | exact ih1 _ _ _ _ _ _ _ _ _ _ _ _ _ _
   | exact ih2 _ _ _
   | exact impl_EightMoves.mono _ _ _ _ _ _ _ _ _ _ _
   | exact laws_eqInt64S.mono _ _ _
   | exact laws_eqMoveS.mono _ _ _
   | exact laws_heldMoveS.mono _ _ _
   | exact laws_markInt64S.mono _ _ _
   | exact laws_markMoveS.mono _ _ _
   | exact laws_toEight.mono _ _ _ _ _ _ _ _ _
   | exact laws_toInt64S.mono _ _
   | exact spec_EightMoves.mono _ _ _ _ _ _ _ _ _ _ _
   | exact LeO.none _
   | refine LeO.ite ?_ ?_
   | refine LeO.bind ?_ (fun _ => ?_)
  ·intro y0 y1 y2 y3 y4 y5 y6 y7 y8 y9 y10 y11 y12 y13
   unfold laws_FnExactEightMoves.j1
   repeat' first
   | (with_reducible exact ih0 _ _ _ _ _ _ _ _ _ _ _ _ _ _ _ _ _)
   | (with_reducible exact ih1 _ _ _ _ _ _ _ _ _ _ _ _ _ _)
   | (with_reducible exact ih2 _ _ _)
   | (with_reducible exact impl_EightMoves.mono _ _ _ _ _ _ _ _ _ _ _)
   | (with_reducible exact laws_eqInt64S.mono _ _ _)
   | (with_reducible exact laws_eqMoveS.mono _ _ _)
   | (with_reducible exact laws_heldMoveS.mono _ _ _)
   | (with_reducible exact laws_markInt64S.mono _ _ _)
   | (with_reducible exact laws_markMoveS.mono _ _ _)
   | (with_reducible exact laws_toEight.mono _ _ _ _ _ _ _ _ _)
   | (with_reducible exact laws_toInt64S.mono _ _)
   | (with_reducible exact spec_EightMoves.mono _ _ _ _ _ _ _ _ _ _ _)
   | (with_reducible exact LeO.refl _)
   | (with_reducible exact LeO.none _)
   | (with_reducible refine LeO.ite ?_ ?_)
   | (with_reducible refine LeO.bind ?_ (fun _ => ?_))
   | exact ih0 _ _ _ _ _ _ _ _ _ _ _ _ _ _ _ _ _
   | exact ih1 _ _ _ _ _ _ _ _ _ _ _ _ _ _
   | exact ih2 _ _ _
   | exact impl_EightMoves.mono _ _ _ _ _ _ _ _ _ _ _
   | exact laws_eqInt64S.mono _ _ _
   | exact laws_eqMoveS.mono _ _ _
   | exact laws_heldMoveS.mono _ _ _
   | exact laws_markInt64S.mono _ _ _
   | exact laws_markMoveS.mono _ _ _
   | exact laws_toEight.mono _ _ _ _ _ _ _ _ _
   | exact laws_toInt64S.mono _ _
   | exact spec_EightMoves.mono _ _ _ _ _ _ _ _ _ _ _
   | exact LeO.none _
   | refine LeO.ite ?_ ?_
   | refine LeO.bind ?_ (fun _ => ?_)
  intro y0 y1 y2
  unfold laws_FnExactEightMoves.j2
  repeat' first
  | (with_reducible exact ih0 _ _ _ _ _ _ _ _ _ _ _ _ _ _ _ _ _)
  | (with_reducible exact ih1 _ _ _ _ _ _ _ _ _ _ _ _ _ _)
  | (with_reducible exact ih2 _ _ _)
  | (with_reducible exact impl_EightMoves.mono _ _ _ _ _ _ _ _ _ _ _)
  | (with_reducible exact laws_eqInt64S.mono _ _ _)
  | (with_reducible exact laws_eqMoveS.mono _ _ _)
  | (with_reducible exact laws_heldMoveS.mono _ _ _)
  | (with_reducible exact laws_markInt64S.mono _ _ _)
  | (with_reducible exact laws_markMoveS.mono _ _ _)
  | (with_reducible exact laws_toEight.mono _ _ _ _ _ _ _ _ _)
  | (with_reducible exact laws_toInt64S.mono _ _)
  | (with_reducible exact spec_EightMoves.mono _ _ _ _ _ _ _ _ _ _ _)
  | (with_reducible exact LeO.refl _)
  | (with_reducible exact LeO.none _)
  | (with_reducible refine LeO.ite ?_ ?_)
  | (with_reducible refine LeO.bind ?_ (fun _ => ?_))
  | exact ih0 _ _ _ _ _ _ _ _ _ _ _ _ _ _ _ _ _
  | exact ih1 _ _ _ _ _ _ _ _ _ _ _ _ _ _
  | exact ih2 _ _ _
  | exact impl_EightMoves.mono _ _ _ _ _ _ _ _ _ _ _
  | exact laws_eqInt64S.mono _ _ _
  | exact laws_eqMoveS.mono _ _ _
  | exact laws_heldMoveS.mono _ _ _
  | exact laws_markInt64S.mono _ _ _
  | exact laws_markMoveS.mono _ _ _
  | exact laws_toEight.mono _ _ _ _ _ _ _ _ _
  | exact laws_toInt64S.mono _ _
  | exact spec_EightMoves.mono _ _ _ _ _ _ _ _ _ _ _
  | exact LeO.none _
  | refine LeO.ite ?_ ?_
  | refine LeO.bind ?_ (fun _ => ?_)
theorem laws_FnExactEightMoves.mono : ∀ a0 a1 a2 a3 a4 a5 a6 a7 a8 a9 k, LeO (laws_FnExactEightMoves.f k a0 a1 a2 a3 a4 a5 a6 a7 a8 a9) (laws_FnExactEightMoves.f (k + 1) a0 a1 a2 a3 a4 a5 a6 a7 a8 a9) := by
 intro a0 a1 a2 a3 a4 a5 a6 a7 a8 a9 k
 obtain ⟨ih0, ih1, ih2⟩ := laws_FnExactEightMoves.mono_l k
 unfold laws_FnExactEightMoves.f
 repeat' first
   | (with_reducible exact ih0 _ _ _ _ _ _ _ _ _ _ _ _ _ _ _ _ _)
   | (with_reducible exact ih1 _ _ _ _ _ _ _ _ _ _ _ _ _ _)
   | (with_reducible exact ih2 _ _ _)
   | (with_reducible exact impl_EightMoves.mono _ _ _ _ _ _ _ _ _ _ _)
   | (with_reducible exact laws_eqInt64S.mono _ _ _)
   | (with_reducible exact laws_eqMoveS.mono _ _ _)
   | (with_reducible exact laws_heldMoveS.mono _ _ _)
   | (with_reducible exact laws_markInt64S.mono _ _ _)
   | (with_reducible exact laws_markMoveS.mono _ _ _)
   | (with_reducible exact laws_toEight.mono _ _ _ _ _ _ _ _ _)
   | (with_reducible exact laws_toInt64S.mono _ _)
   | (with_reducible exact spec_EightMoves.mono _ _ _ _ _ _ _ _ _ _ _)
   | (with_reducible exact LeO.refl _)
   | (with_reducible exact LeO.none _)
   | (with_reducible refine LeO.ite ?_ ?_)
   | (with_reducible refine LeO.bind ?_ (fun _ => ?_))
   | exact ih0 _ _ _ _ _ _ _ _ _ _ _ _ _ _ _ _ _
   | exact ih1 _ _ _ _ _ _ _ _ _ _ _ _ _ _
   | exact ih2 _ _ _
   | exact impl_EightMoves.mono _ _ _ _ _ _ _ _ _ _ _
   | exact laws_eqInt64S.mono _ _ _
   | exact laws_eqMoveS.mono _ _ _
   | exact laws_heldMoveS.mono _ _ _
   | exact laws_markInt64S.mono _ _ _
   | exact laws_markMoveS.mono _ _ _
   | exact laws_toEight.mono _ _ _ _ _ _ _ _ _
   | exact laws_toInt64S.mono _ _
   | exact spec_EightMoves.mono _ _ _ _ _ _ _ _ _ _ _
   | exact LeO.none _
   | refine LeO.ite ?_ ?_
   | refine LeO.bind ?_ (fun _ => ?_)
set_option maxHeartbeats 8000000 in
set_option maxRecDepth 100000 in
theorem laws_FnExactEightMoves.calls (k : Nat) (a0_0 : Int) (a0_1 : Int) (a0_2 : Int) (a0_3 : Int) (a0_4 : Int) (a0_5 : Int) (a0_6 : Int) (a0_7 : Int) (A1 : Option Addr) (c1 : Nat) (l1 : List Int) (A2 : Option Addr) (c2 : Nat) (l2 : List Int) (r : Bool) (w : World) (hr1 : Kd.C (Kd.int .i64) w A1 l1.length l1) (hc1 : l1.length ≤ c1) (hr2 : Kd.C (Kd.int .i64) w A2 l2.length l2) (hc2 : l2.length ≤ c2) (h : laws_FnExactEightMoves.f k a0_0 a0_1 a0_2 a0_3 a0_4 a0_5 a0_6 a0_7 l1 l2 = some r) :
  Calls Try.prog 6 #[.agg #[.int .i64 a0_0, .int .i64 a0_1, .int .i64 a0_2, .int .i64 a0_3, .int .i64 a0_4, .int .i64 a0_5, .int .i64 a0_6, .int .i64 a0_7], .slice A1 l1.length c1, .slice A2 l2.length c2] w fun e w' => e = .returned (.bool r) ∧ Below w.heap.size w w' := by
 have hu40 := Try.underlying40
 have HR1 := aM6_ hr1
 have HC1 := aM6_ hc1
 clear hr1 hc1
 have HR2 := aM6_ hr2
 have HC2 := aM6_ hc2
 clear hr2 hc2
 have HB := aM6_ (Below.refl w.heap.size w)
 have H : (if (l1.length : Int) > 1048576 then (some true) else (if (l2.length : Int) > 1048576 then (some true) else ((laws_toEight.f k a0_0 a0_1 a0_2 a0_3 a0_4 a0_5 a0_6 a0_7).bind fun bt182 => ((laws_toInt64S.f k l1).bind fun t190 => ((laws_toInt64S.f k l2).bind fun t193 => ((spec_EightMoves.f k bt182.1 bt182.2.1 bt182.2.2.1 bt182.2.2.2.1 bt182.2.2.2.2.1 bt182.2.2.2.2.2.1 bt182.2.2.2.2.2.2.1 bt182.2.2.2.2.2.2.2 t190 t193).bind fun bt196 => ((laws_toInt64S.f k l1).bind fun t200 => ((laws_toInt64S.f k l2).bind fun t203 => ((laws_toEight.f k a0_0 a0_1 a0_2 a0_3 a0_4 a0_5 a0_6 a0_7).bind fun bt206 => ((impl_EightMoves.f k bt206.1 bt206.2.1 bt206.2.2.1 bt206.2.2.2.1 bt206.2.2.2.2.1 bt206.2.2.2.2.2.1 bt206.2.2.2.2.2.2.1 bt206.2.2.2.2.2.2.2 t200 t203).bind fun bt214 => ((laws_eqMoveS.f k bt214.1 bt196.1).bind fun t218 => (if t218 = true then (laws_FnExactEightMoves.j0 k l1 l2 bt196.1 bt196.2 t200 t203 bt214.1 bt214.2 (bt214.2 != bt196.2) a0_0 a0_1 a0_2 a0_3 a0_4 a0_5 a0_6 a0_7) else (laws_FnExactEightMoves.j0 k l1 l2 bt196.1 bt196.2 t200 t203 bt214.1 bt214.2 true a0_0 a0_1 a0_2 a0_3 a0_4 a0_5 a0_6 a0_7))))))))))))) = some r := h
 clear h
 by_cases c4 : (l1.length : Int) > 1048576
 ·rw [if_pos c4] at H
  have c4b0 : decide (1048576 < (l1.length : Int)) = true := decide_eq_true c4
  have c4b1 : decide (1048576 < l1.length) = true := decide_eq_true (by omega)
  clear c4
  obtain rfl := Option.some.inj H
  go_enter Try.func6, Try.ntmps6
  go_wp2_with (first | ((with_reducible refine gate_dst (N := 3) rfl ?_); refine box_event ?hg (N := 3) ?hd (cs := #[.int .i64 a0_0, .int .i64 a0_1, .int .i64 a0_2, .int .i64 a0_3, .int .i64 a0_4, .int .i64 a0_5, .int .i64 a0_6, .int .i64 a0_7]) (t := 40) ?hr ?_; (case hd => rfl); (case hg => rfl); (case hr => first | (go_simp; done) | (go_simp; rfl)); intro gb181 hg w5 hbox hb; have n0_ := aM6_ (below_step q6x8_ hb); have n1_ := aM6_ (hbox); have n2_ := aM6_ ((q6x19_ : w.heap.size ≤ gb181)); have n3_ := aM6_ ((q6x19_ : w.heap.size ≤ gb181)); clear HB; have HB := n0_; have BK181 := n1_; have GW181 := n2_; have GE181 := n3_; clear n0_ n1_ n2_ n3_; clear hb hbox hg))
  go_ret
  exact ⟨by first | rfl | (simp [errW_none, errW_some] <;> rfl) | (simp [*, errW_none, errW_some] <;> rfl), by repeat (first | (with_reducible first | exact HB.out | apply below_alloc | apply pw_below_drewN | apply below_drew1 | refine below_set ?_ GE181.out) | exact HB.out)⟩
 rw [if_neg c4] at H
 have c4b0 : decide (1048576 < (l1.length : Int)) = false := decide_eq_false c4
 have c4b1 : decide (1048576 < l1.length) = false := decide_eq_false (by omega)
 clear c4
 by_cases c6 : (l2.length : Int) > 1048576
 ·rw [if_pos c6] at H
  have c6b0 : decide (1048576 < (l2.length : Int)) = true := decide_eq_true c6
  have c6b1 : decide (1048576 < l2.length) = true := decide_eq_true (by omega)
  clear c6
  obtain rfl := Option.some.inj H
  go_enter Try.func6, Try.ntmps6
  go_wp2_with (first | ((with_reducible refine gate_dst (N := 3) rfl ?_); refine box_event ?hg (N := 3) ?hd (cs := #[.int .i64 a0_0, .int .i64 a0_1, .int .i64 a0_2, .int .i64 a0_3, .int .i64 a0_4, .int .i64 a0_5, .int .i64 a0_6, .int .i64 a0_7]) (t := 40) ?hr ?_; (case hd => rfl); (case hg => rfl); (case hr => first | (go_simp; done) | (go_simp; rfl)); intro gb181 hg w7 hbox hb; have n0_ := aM6_ (below_step q6x8_ hb); have n1_ := aM6_ (hbox); have n2_ := aM6_ ((q6x19_ : w.heap.size ≤ gb181)); have n3_ := aM6_ ((q6x19_ : w.heap.size ≤ gb181)); clear HB; have HB := n0_; have BK181 := n1_; have GW181 := n2_; have GE181 := n3_; clear n0_ n1_ n2_ n3_; clear hb hbox hg))
  go_ret
  exact ⟨by first | rfl | (simp [errW_none, errW_some] <;> rfl) | (simp [*, errW_none, errW_some] <;> rfl), by repeat (first | (with_reducible first | exact HB.out | apply below_alloc | apply pw_below_drewN | apply below_drew1 | refine below_set ?_ GE181.out) | exact HB.out)⟩
 rw [if_neg c6] at H
 have c6b0 : decide (1048576 < (l2.length : Int)) = false := decide_eq_false c6
 have c6b1 : decide (1048576 < l2.length) = false := decide_eq_false (by omega)
 clear c6
 replace H := Option.bind_eq_some_iff.mp H
 obtain ⟨⟨t182, t183, t184, t185, t186, t187, t188, t189⟩, A80, H⟩ := H
 replace H : ((laws_toInt64S.f k l1).bind fun t190 => ((laws_toInt64S.f k l2).bind fun t193 => ((spec_EightMoves.f k t182 t183 t184 t185 t186 t187 t188 t189 t190 t193).bind fun bt196 => ((laws_toInt64S.f k l1).bind fun t200 => ((laws_toInt64S.f k l2).bind fun t203 => ((laws_toEight.f k a0_0 a0_1 a0_2 a0_3 a0_4 a0_5 a0_6 a0_7).bind fun bt206 => ((impl_EightMoves.f k bt206.1 bt206.2.1 bt206.2.2.1 bt206.2.2.2.1 bt206.2.2.2.2.1 bt206.2.2.2.2.2.1 bt206.2.2.2.2.2.2.1 bt206.2.2.2.2.2.2.2 t200 t203).bind fun bt214 => ((laws_eqMoveS.f k bt214.1 bt196.1).bind fun t218 => (if t218 = true then (laws_FnExactEightMoves.j0 k l1 l2 bt196.1 bt196.2 t200 t203 bt214.1 bt214.2 (bt214.2 != bt196.2) a0_0 a0_1 a0_2 a0_3 a0_4 a0_5 a0_6 a0_7) else (laws_FnExactEightMoves.j0 k l1 l2 bt196.1 bt196.2 t200 t203 bt214.1 bt214.2 true a0_0 a0_1 a0_2 a0_3 a0_4 a0_5 a0_6 a0_7)))))))))) = some r := H
 have A8 := aM6_ A80
 clear A80
 replace H := Option.bind_eq_some_iff.mp H
 obtain ⟨t190, A90, H⟩ := H
 replace H : ((laws_toInt64S.f k l2).bind fun t193 => ((spec_EightMoves.f k t182 t183 t184 t185 t186 t187 t188 t189 t190 t193).bind fun bt196 => ((laws_toInt64S.f k l1).bind fun t200 => ((laws_toInt64S.f k l2).bind fun t203 => ((laws_toEight.f k a0_0 a0_1 a0_2 a0_3 a0_4 a0_5 a0_6 a0_7).bind fun bt206 => ((impl_EightMoves.f k bt206.1 bt206.2.1 bt206.2.2.1 bt206.2.2.2.1 bt206.2.2.2.2.1 bt206.2.2.2.2.2.1 bt206.2.2.2.2.2.2.1 bt206.2.2.2.2.2.2.2 t200 t203).bind fun bt214 => ((laws_eqMoveS.f k bt214.1 bt196.1).bind fun t218 => (if t218 = true then (laws_FnExactEightMoves.j0 k l1 l2 bt196.1 bt196.2 t200 t203 bt214.1 bt214.2 (bt214.2 != bt196.2) a0_0 a0_1 a0_2 a0_3 a0_4 a0_5 a0_6 a0_7) else (laws_FnExactEightMoves.j0 k l1 l2 bt196.1 bt196.2 t200 t203 bt214.1 bt214.2 true a0_0 a0_1 a0_2 a0_3 a0_4 a0_5 a0_6 a0_7))))))))) = some r := H
 have A9 := aM6_ A90
 clear A90
 replace H := Option.bind_eq_some_iff.mp H
 obtain ⟨t193, A100, H⟩ := H
 replace H : ((spec_EightMoves.f k t182 t183 t184 t185 t186 t187 t188 t189 t190 t193).bind fun bt196 => ((laws_toInt64S.f k l1).bind fun t200 => ((laws_toInt64S.f k l2).bind fun t203 => ((laws_toEight.f k a0_0 a0_1 a0_2 a0_3 a0_4 a0_5 a0_6 a0_7).bind fun bt206 => ((impl_EightMoves.f k bt206.1 bt206.2.1 bt206.2.2.1 bt206.2.2.2.1 bt206.2.2.2.2.1 bt206.2.2.2.2.2.1 bt206.2.2.2.2.2.2.1 bt206.2.2.2.2.2.2.2 t200 t203).bind fun bt214 => ((laws_eqMoveS.f k bt214.1 bt196.1).bind fun t218 => (if t218 = true then (laws_FnExactEightMoves.j0 k l1 l2 bt196.1 bt196.2 t200 t203 bt214.1 bt214.2 (bt214.2 != bt196.2) a0_0 a0_1 a0_2 a0_3 a0_4 a0_5 a0_6 a0_7) else (laws_FnExactEightMoves.j0 k l1 l2 bt196.1 bt196.2 t200 t203 bt214.1 bt214.2 true a0_0 a0_1 a0_2 a0_3 a0_4 a0_5 a0_6 a0_7)))))))) = some r := H
 have A10 := aM6_ A100
 clear A100
 replace H := Option.bind_eq_some_iff.mp H
 obtain ⟨⟨t196, t199⟩, A110, H⟩ := H
 replace H : ((laws_toInt64S.f k l1).bind fun t200 => ((laws_toInt64S.f k l2).bind fun t203 => ((laws_toEight.f k a0_0 a0_1 a0_2 a0_3 a0_4 a0_5 a0_6 a0_7).bind fun bt206 => ((impl_EightMoves.f k bt206.1 bt206.2.1 bt206.2.2.1 bt206.2.2.2.1 bt206.2.2.2.2.1 bt206.2.2.2.2.2.1 bt206.2.2.2.2.2.2.1 bt206.2.2.2.2.2.2.2 t200 t203).bind fun bt214 => ((laws_eqMoveS.f k bt214.1 t196).bind fun t218 => (if t218 = true then (laws_FnExactEightMoves.j0 k l1 l2 t196 t199 t200 t203 bt214.1 bt214.2 (bt214.2 != t199) a0_0 a0_1 a0_2 a0_3 a0_4 a0_5 a0_6 a0_7) else (laws_FnExactEightMoves.j0 k l1 l2 t196 t199 t200 t203 bt214.1 bt214.2 true a0_0 a0_1 a0_2 a0_3 a0_4 a0_5 a0_6 a0_7))))))) = some r := H
 have A11 := aM6_ A110
 clear A110
 replace H := Option.bind_eq_some_iff.mp H
 obtain ⟨t200, A120, H⟩ := H
 replace H : ((laws_toInt64S.f k l2).bind fun t203 => ((laws_toEight.f k a0_0 a0_1 a0_2 a0_3 a0_4 a0_5 a0_6 a0_7).bind fun bt206 => ((impl_EightMoves.f k bt206.1 bt206.2.1 bt206.2.2.1 bt206.2.2.2.1 bt206.2.2.2.2.1 bt206.2.2.2.2.2.1 bt206.2.2.2.2.2.2.1 bt206.2.2.2.2.2.2.2 t200 t203).bind fun bt214 => ((laws_eqMoveS.f k bt214.1 t196).bind fun t218 => (if t218 = true then (laws_FnExactEightMoves.j0 k l1 l2 t196 t199 t200 t203 bt214.1 bt214.2 (bt214.2 != t199) a0_0 a0_1 a0_2 a0_3 a0_4 a0_5 a0_6 a0_7) else (laws_FnExactEightMoves.j0 k l1 l2 t196 t199 t200 t203 bt214.1 bt214.2 true a0_0 a0_1 a0_2 a0_3 a0_4 a0_5 a0_6 a0_7)))))) = some r := H
 have A12 := aM6_ A120
 clear A120
 replace H := Option.bind_eq_some_iff.mp H
 obtain ⟨t203, A130, H⟩ := H
 replace H : ((laws_toEight.f k a0_0 a0_1 a0_2 a0_3 a0_4 a0_5 a0_6 a0_7).bind fun bt206 => ((impl_EightMoves.f k bt206.1 bt206.2.1 bt206.2.2.1 bt206.2.2.2.1 bt206.2.2.2.2.1 bt206.2.2.2.2.2.1 bt206.2.2.2.2.2.2.1 bt206.2.2.2.2.2.2.2 t200 t203).bind fun bt214 => ((laws_eqMoveS.f k bt214.1 t196).bind fun t218 => (if t218 = true then (laws_FnExactEightMoves.j0 k l1 l2 t196 t199 t200 t203 bt214.1 bt214.2 (bt214.2 != t199) a0_0 a0_1 a0_2 a0_3 a0_4 a0_5 a0_6 a0_7) else (laws_FnExactEightMoves.j0 k l1 l2 t196 t199 t200 t203 bt214.1 bt214.2 true a0_0 a0_1 a0_2 a0_3 a0_4 a0_5 a0_6 a0_7))))) = some r := H
 have A13 := aM6_ A130
 clear A130
 replace H := Option.bind_eq_some_iff.mp H
 obtain ⟨⟨t206, t207, t208, t209, t210, t211, t212, t213⟩, A140, H⟩ := H
 replace H : ((impl_EightMoves.f k t206 t207 t208 t209 t210 t211 t212 t213 t200 t203).bind fun bt214 => ((laws_eqMoveS.f k bt214.1 t196).bind fun t218 => (if t218 = true then (laws_FnExactEightMoves.j0 k l1 l2 t196 t199 t200 t203 bt214.1 bt214.2 (bt214.2 != t199) a0_0 a0_1 a0_2 a0_3 a0_4 a0_5 a0_6 a0_7) else (laws_FnExactEightMoves.j0 k l1 l2 t196 t199 t200 t203 bt214.1 bt214.2 true a0_0 a0_1 a0_2 a0_3 a0_4 a0_5 a0_6 a0_7)))) = some r := H
 have A14 := aM6_ A140
 clear A140
 replace H := Option.bind_eq_some_iff.mp H
 obtain ⟨⟨t214, t217⟩, A150, H⟩ := H
 replace H : ((laws_eqMoveS.f k t214 t196).bind fun t218 => (if t218 = true then (laws_FnExactEightMoves.j0 k l1 l2 t196 t199 t200 t203 t214 t217 (t217 != t199) a0_0 a0_1 a0_2 a0_3 a0_4 a0_5 a0_6 a0_7) else (laws_FnExactEightMoves.j0 k l1 l2 t196 t199 t200 t203 t214 t217 true a0_0 a0_1 a0_2 a0_3 a0_4 a0_5 a0_6 a0_7))) = some r := H
 have A15 := aM6_ A150
 clear A150
 have HC16 := aM6_ H
 clear H
 go_enter Try.func6, Try.ntmps6
 go_upto_region 9 with (first | ((with_reducible refine gate_dst (N := 3) rfl ?_); refine box_event ?hg (N := 3) ?hd (cs := #[.int .i64 a0_0, .int .i64 a0_1, .int .i64 a0_2, .int .i64 a0_3, .int .i64 a0_4, .int .i64 a0_5, .int .i64 a0_6, .int .i64 a0_7]) (t := 40) ?hr ?_; (case hd => rfl); (case hg => rfl); (case hr => first | (go_simp; done) | (go_simp; rfl)); intro gb181 hg w17 hbox hb; have n0_ := aM6_ (below_step q6x8_ hb); have n1_ := aM6_ (hbox); have n2_ := aM6_ ((q6x19_ : w.heap.size ≤ gb181)); have n3_ := aM6_ ((q6x19_ : w.heap.size ≤ gb181)); clear HB; have HB := n0_; have BK181 := n1_; have GW181 := n2_; have GE181 := n3_; clear n0_ n1_ n2_ n3_; clear hb hbox hg; have hcz18_0 : w17.cell? ⟨gb181, 0, none⟩ = some (.int .i64 a0_0) := (blk_cell BK181.out 0).trans rfl; have hcz18_1 : w17.cell? ⟨gb181, 1, none⟩ = some (.int .i64 a0_1) := (blk_cell BK181.out 1).trans rfl; have hcz18_2 : w17.cell? ⟨gb181, 2, none⟩ = some (.int .i64 a0_2) := (blk_cell BK181.out 2).trans rfl; have hcz18_3 : w17.cell? ⟨gb181, 3, none⟩ = some (.int .i64 a0_3) := (blk_cell BK181.out 3).trans rfl; have hcz18_4 : w17.cell? ⟨gb181, 4, none⟩ = some (.int .i64 a0_4) := (blk_cell BK181.out 4).trans rfl; have hcz18_5 : w17.cell? ⟨gb181, 5, none⟩ = some (.int .i64 a0_5) := (blk_cell BK181.out 5).trans rfl; have hcz18_6 : w17.cell? ⟨gb181, 6, none⟩ = some (.int .i64 a0_6) := (blk_cell BK181.out 6).trans rfl; have hcz18_7 : w17.cell? ⟨gb181, 7, none⟩ = some (.int .i64 a0_7) := (blk_cell BK181.out 7).trans rfl; have hfz18_0 := blk_frozen BK181.out 0; have hfz18_1 := blk_frozen BK181.out 1; have hfz18_2 := blk_frozen BK181.out 2; have hfz18_3 := blk_frozen BK181.out 3; have hfz18_4 := blk_frozen BK181.out 4; have hfz18_5 := blk_frozen BK181.out 5; have hfz18_6 := blk_frozen BK181.out 6; have hfz18_7 := blk_frozen BK181.out 7) | ((with_reducible refine gate_callee (f := 22) rfl ?_); refine goesL_ (some 26) rfl rfl Try.func22 (by kernel_rfl) rfl #[.agg #[.int .i64 a0_0, .int .i64 a0_1, .int .i64 a0_2, .int .i64 a0_3, .int .i64 a0_4, .int .i64 a0_5, .int .i64 a0_6, .int .i64 a0_7]] rfl q6x1_ ?_; (with_reducible refine (laws_toEight.calls k a0_0 a0_1 a0_2 a0_3 a0_4 a0_5 a0_6 a0_7 t182 t183 t184 t185 t186 t187 t188 t189 _ A8.out).mono ?_); rintro e w19 ⟨rfl, hb⟩; refine ⟨_, rfl, ?_⟩; have n0_ := aM6_ (blk_below (g := gb181) (o := .cells #[.int .i64 a0_0, .int .i64 a0_1, .int .i64 a0_2, .int .i64 a0_3, .int .i64 a0_4, .int .i64 a0_5, .int .i64 a0_6, .int .i64 a0_7] 40 (0, 0)) q6x3_ hb); have n1_ := aM6_ (below_step q6x2_ hb); clear BK181; clear HB; have BK181 := n0_; have HB := n1_; clear n0_ n1_; (try clear hb); (try clear hb2); (try clear hk); (try clear hi)) | ((with_reducible refine gate_callee (f := 11) rfl ?_); refine goesL_ (some 28) rfl rfl Try.func11 (by kernel_rfl) rfl #[.slice A1 l1.length c1] rfl q6x1_ ?_; (with_reducible refine (laws_toInt64S.calls k _ _ l1 t190 _ ?side1 ?side2 A9.out).mono ?_); (case side1 => repeat (first | exact (Kd.C_below HR1.out HB.out) | (with_reducible refine Kd.C_alloc ?_ _) | (with_reducible refine Kd.C_drewN ?_ _) | (with_reducible refine Kd.C_drew ?_))); (case side2 => exact HC1.out); rintro e w20 ⟨v191, rfl, ho0, hb⟩; refine ⟨_, rfl, ?_⟩; have n0_ := aM6_ (Kd.R_lower ho0 (below_size q6x2_)); have n1_ := aM6_ (blk_below (g := gb181) (o := .cells #[.int .i64 a0_0, .int .i64 a0_1, .int .i64 a0_2, .int .i64 a0_3, .int .i64 a0_4, .int .i64 a0_5, .int .i64 a0_6, .int .i64 a0_7] 40 (0, 0)) q6x3_ hb); have n2_ := aM6_ (below_step q6x2_ hb); clear BK181; clear HB; have HO192 := n0_; have BK181 := n1_; have HB := n2_; clear n0_ n1_ n2_; (try clear hb); (try clear hb2); (try clear hk); (try clear hi); (try clear ho0)) | ((with_reducible refine gate_callee (f := 11) rfl ?_); refine goesL_ (some 30) rfl rfl Try.func11 (by kernel_rfl) rfl #[.slice A2 l2.length c2] rfl q6x1_ ?_; (with_reducible refine (laws_toInt64S.calls k _ _ l2 t193 _ ?side1 ?side2 A10.out).mono ?_); (case side1 => repeat (first | exact (Kd.C_below HR2.out HB.out) | (with_reducible refine Kd.C_alloc ?_ _) | (with_reducible refine Kd.C_drewN ?_ _) | (with_reducible refine Kd.C_drew ?_))); (case side2 => exact HC2.out); rintro e w21 ⟨v194, rfl, ho0, hb⟩; refine ⟨_, rfl, ?_⟩; have n0_ := aM6_ (Kd.R_elder' q6x9_ (Kd.R_base ho0) hb); have n1_ := aM6_ (Kd.R_lower (Kd.R_new' ho0 (Kd.R_lt q6x9_)) (below_size q6x2_)); have n2_ := aM6_ (blk_below (g := gb181) (o := .cells #[.int .i64 a0_0, .int .i64 a0_1, .int .i64 a0_2, .int .i64 a0_3, .int .i64 a0_4, .int .i64 a0_5, .int .i64 a0_6, .int .i64 a0_7] 40 (0, 0)) q6x3_ hb); have n3_ := aM6_ (below_step q6x2_ hb); clear HO192; clear BK181; clear HB; have HO192 := n0_; have HO195 := n1_; have BK181 := n2_; have HB := n3_; clear n0_ n1_ n2_ n3_; (try clear hb); (try clear hb2); (try clear hk); (try clear hi); (try clear ho0); obtain ⟨Ao22, co22, eo22⟩ := Kd.R_slice HO192.out; subst eo22; obtain ⟨Ao23, co23, eo23⟩ := Kd.R_slice HO195.out; subst eo23) | ((with_reducible refine gate_callee (f := 24) rfl ?_); refine goesL_ (some 31) rfl rfl Try.func24 (by kernel_rfl) rfl #[.agg #[.int .i64 t182, .int .i64 t183, .int .i64 t184, .int .i64 t185, .int .i64 t186, .int .i64 t187, .int .i64 t188, .int .i64 t189], .slice Ao22 t190.length co22, .slice Ao23 t193.length co23] rfl q6x1_ ?_; (with_reducible refine (spec_EightMoves.calls k t182 t183 t184 t185 t186 t187 t188 t189 _ _ t190 _ _ t193 t196 t199 _ ?side1 ?side2 ?side3 ?side4 A11.out).mono ?_); (case side1 => repeat (first | exact (Kd.R_reads' HO192.out).2.2 | (with_reducible refine Kd.C_alloc ?_ _) | (with_reducible refine Kd.C_drewN ?_ _) | (with_reducible refine Kd.C_drew ?_))); (case side2 => exact (Kd.R_reads' HO192.out).2.1); (case side3 => repeat (first | exact (Kd.R_reads' HO195.out).2.2 | (with_reducible refine Kd.C_alloc ?_ _) | (with_reducible refine Kd.C_drewN ?_ _) | (with_reducible refine Kd.C_drew ?_))); (case side4 => exact (Kd.R_reads' HO195.out).2.1); rintro e w24 ⟨v197, rfl, ho0, hb⟩; refine ⟨_, rfl, ?_⟩; have n0_ := aM6_ (rB6_ q6x9_ hb); have n1_ := aM6_ (rB6_ q6x10_ hb); have n2_ := aM6_ (Kd.R_lower ho0 (below_size q6x2_)); have n3_ := aM6_ (blk_below (g := gb181) (o := .cells #[.int .i64 a0_0, .int .i64 a0_1, .int .i64 a0_2, .int .i64 a0_3, .int .i64 a0_4, .int .i64 a0_5, .int .i64 a0_6, .int .i64 a0_7] 40 (0, 0)) q6x3_ hb); have n4_ := aM6_ (below_step q6x2_ hb); clear HO192; clear HO195; clear BK181; clear HB; have HO192 := n0_; have HO195 := n1_; have HO198 := n2_; have BK181 := n3_; have HB := n4_; clear n0_ n1_ n2_ n3_ n4_; (try clear hb); (try clear hb2); (try clear hk); (try clear hi); (try clear ho0)) | ((with_reducible refine gate_callee (f := 11) rfl ?_); refine goesL_ (some 35) rfl rfl Try.func11 (by kernel_rfl) rfl #[.slice A1 l1.length c1] rfl q6x1_ ?_; (with_reducible refine (laws_toInt64S.calls k _ _ l1 t200 _ ?side1 ?side2 A12.out).mono ?_); (case side1 => repeat (first | exact (Kd.C_below HR1.out HB.out) | (with_reducible refine Kd.C_alloc ?_ _) | (with_reducible refine Kd.C_drewN ?_ _) | (with_reducible refine Kd.C_drew ?_))); (case side2 => exact HC1.out); rintro e w25 ⟨v201, rfl, ho0, hb⟩; refine ⟨_, rfl, ?_⟩; have n0_ := aM6_ (Kd.R_elder' q6x9_ (Kd.R_base ho0) hb); have n1_ := aM6_ (Kd.R_elder' q6x10_ (Kd.R_base ho0) hb); have n2_ := aM6_ (rB6_ q6x11_ hb); have n3_ := aM6_ (Kd.R_lower (Kd.R_new' (Kd.R_new' ho0 (Kd.R_lt q6x9_)) (Kd.R_lt q6x10_)) (below_size q6x2_)); have n4_ := aM6_ (blk_below (g := gb181) (o := .cells #[.int .i64 a0_0, .int .i64 a0_1, .int .i64 a0_2, .int .i64 a0_3, .int .i64 a0_4, .int .i64 a0_5, .int .i64 a0_6, .int .i64 a0_7] 40 (0, 0)) q6x3_ hb); have n5_ := aM6_ (below_step q6x2_ hb); clear HO192; clear HO195; clear HO198; clear BK181; clear HB; have HO192 := n0_; have HO195 := n1_; have HO198 := n2_; have HO202 := n3_; have BK181 := n4_; have HB := n5_; clear n0_ n1_ n2_ n3_ n4_ n5_; (try clear hb); (try clear hb2); (try clear hk); (try clear hi); (try clear ho0)) | ((with_reducible refine gate_callee (f := 11) rfl ?_); refine goesL_ (some 37) rfl rfl Try.func11 (by kernel_rfl) rfl #[.slice A2 l2.length c2] rfl q6x1_ ?_; (with_reducible refine (laws_toInt64S.calls k _ _ l2 t203 _ ?side1 ?side2 A13.out).mono ?_); (case side1 => repeat (first | exact (Kd.C_below HR2.out HB.out) | (with_reducible refine Kd.C_alloc ?_ _) | (with_reducible refine Kd.C_drewN ?_ _) | (with_reducible refine Kd.C_drew ?_))); (case side2 => exact HC2.out); rintro e w26 ⟨v204, rfl, ho0, hb⟩; refine ⟨_, rfl, ?_⟩; have n0_ := aM6_ (Kd.R_elder' q6x9_ (Kd.R_base ho0) hb); have n1_ := aM6_ (Kd.R_elder' q6x10_ (Kd.R_base ho0) hb); have n2_ := aM6_ (rB6_ q6x11_ hb); have n3_ := aM6_ (Kd.R_elder' q6x13_ (Kd.R_base ho0) hb); have n4_ := aM6_ (Kd.R_lower (Kd.R_new' (Kd.R_new' (Kd.R_new' ho0 (Kd.R_lt q6x9_)) (Kd.R_lt q6x10_)) (Kd.R_lt q6x13_)) (below_size q6x2_)); have n5_ := aM6_ (blk_below (g := gb181) (o := .cells #[.int .i64 a0_0, .int .i64 a0_1, .int .i64 a0_2, .int .i64 a0_3, .int .i64 a0_4, .int .i64 a0_5, .int .i64 a0_6, .int .i64 a0_7] 40 (0, 0)) q6x3_ hb); have n6_ := aM6_ (below_step q6x2_ hb); clear HO192; clear HO195; clear HO198; clear HO202; clear BK181; clear HB; have HO192 := n0_; have HO195 := n1_; have HO198 := n2_; have HO202 := n3_; have HO205 := n4_; have BK181 := n5_; have HB := n6_; clear n0_ n1_ n2_ n3_ n4_ n5_ n6_; (try clear hb); (try clear hb2); (try clear hk); (try clear hi); (try clear ho0); have hcz27_0 : w26.cell? ⟨gb181, 0, none⟩ = some (.int .i64 a0_0) := (blk_cell BK181.out 0).trans rfl; have hcz27_1 : w26.cell? ⟨gb181, 1, none⟩ = some (.int .i64 a0_1) := (blk_cell BK181.out 1).trans rfl; have hcz27_2 : w26.cell? ⟨gb181, 2, none⟩ = some (.int .i64 a0_2) := (blk_cell BK181.out 2).trans rfl; have hcz27_3 : w26.cell? ⟨gb181, 3, none⟩ = some (.int .i64 a0_3) := (blk_cell BK181.out 3).trans rfl; have hcz27_4 : w26.cell? ⟨gb181, 4, none⟩ = some (.int .i64 a0_4) := (blk_cell BK181.out 4).trans rfl; have hcz27_5 : w26.cell? ⟨gb181, 5, none⟩ = some (.int .i64 a0_5) := (blk_cell BK181.out 5).trans rfl; have hcz27_6 : w26.cell? ⟨gb181, 6, none⟩ = some (.int .i64 a0_6) := (blk_cell BK181.out 6).trans rfl; have hcz27_7 : w26.cell? ⟨gb181, 7, none⟩ = some (.int .i64 a0_7) := (blk_cell BK181.out 7).trans rfl; have hfz27_0 := blk_frozen BK181.out 0; have hfz27_1 := blk_frozen BK181.out 1; have hfz27_2 := blk_frozen BK181.out 2; have hfz27_3 := blk_frozen BK181.out 3; have hfz27_4 := blk_frozen BK181.out 4; have hfz27_5 := blk_frozen BK181.out 5; have hfz27_6 := blk_frozen BK181.out 6; have hfz27_7 := blk_frozen BK181.out 7) | ((with_reducible refine gate_callee (f := 22) rfl ?_); refine goesL_ (some 40) rfl rfl Try.func22 (by kernel_rfl) rfl #[.agg #[.int .i64 a0_0, .int .i64 a0_1, .int .i64 a0_2, .int .i64 a0_3, .int .i64 a0_4, .int .i64 a0_5, .int .i64 a0_6, .int .i64 a0_7]] rfl q6x1_ ?_; (with_reducible refine (laws_toEight.calls k a0_0 a0_1 a0_2 a0_3 a0_4 a0_5 a0_6 a0_7 t206 t207 t208 t209 t210 t211 t212 t213 _ A14.out).mono ?_); rintro e w28 ⟨rfl, hb⟩; refine ⟨_, rfl, ?_⟩; have n0_ := aM6_ (rB6_ q6x9_ hb); have n1_ := aM6_ (rB6_ q6x10_ hb); have n2_ := aM6_ (rB6_ q6x11_ hb); have n3_ := aM6_ (rB6_ q6x13_ hb); have n4_ := aM6_ (rB6_ q6x16_ hb); have n5_ := aM6_ (blk_below (g := gb181) (o := .cells #[.int .i64 a0_0, .int .i64 a0_1, .int .i64 a0_2, .int .i64 a0_3, .int .i64 a0_4, .int .i64 a0_5, .int .i64 a0_6, .int .i64 a0_7] 40 (0, 0)) q6x3_ hb); have n6_ := aM6_ (below_step q6x2_ hb); clear HO192; clear HO195; clear HO198; clear HO202; clear HO205; clear BK181; clear HB; have HO192 := n0_; have HO195 := n1_; have HO198 := n2_; have HO202 := n3_; have HO205 := n4_; have BK181 := n5_; have HB := n6_; clear n0_ n1_ n2_ n3_ n4_ n5_ n6_; (try clear hb); (try clear hb2); (try clear hk); (try clear hi); obtain ⟨Ao29, co29, eo29⟩ := Kd.R_slice HO202.out; subst eo29; obtain ⟨Ao30, co30, eo30⟩ := Kd.R_slice HO205.out; subst eo30) | ((with_reducible refine gate_callee (f := 25) rfl ?_); refine goesL_ (some 43) rfl rfl Try.func25 (by kernel_rfl) rfl #[.agg #[.int .i64 t206, .int .i64 t207, .int .i64 t208, .int .i64 t209, .int .i64 t210, .int .i64 t211, .int .i64 t212, .int .i64 t213], .slice Ao29 t200.length co29, .slice Ao30 t203.length co30] rfl q6x1_ ?_; (with_reducible refine (impl_EightMoves.calls k t206 t207 t208 t209 t210 t211 t212 t213 _ _ t200 _ _ t203 t214 t217 _ ?side1 ?side2 ?side3 ?side4 A15.out).mono ?_); (case side1 => repeat (first | exact (Kd.R_reads' HO202.out).2.2 | (with_reducible refine Kd.C_alloc ?_ _) | (with_reducible refine Kd.C_drewN ?_ _) | (with_reducible refine Kd.C_drew ?_))); (case side2 => exact (Kd.R_reads' HO202.out).2.1); (case side3 => repeat (first | exact (Kd.R_reads' HO205.out).2.2 | (with_reducible refine Kd.C_alloc ?_ _) | (with_reducible refine Kd.C_drewN ?_ _) | (with_reducible refine Kd.C_drew ?_))); (case side4 => exact (Kd.R_reads' HO205.out).2.1); rintro e w31 ⟨v215, rfl, ho0, hb⟩; refine ⟨_, rfl, ?_⟩; have n0_ := aM6_ (rB6_ q6x9_ hb); have n1_ := aM6_ (rB6_ q6x10_ hb); have n2_ := aM6_ (Kd.R_elder' q6x11_ (Kd.R_base ho0) hb); have n3_ := aM6_ (rB6_ q6x13_ hb); have n4_ := aM6_ (rB6_ q6x16_ hb); have n5_ := aM6_ (Kd.R_lower (Kd.R_new' ho0 (Kd.R_lt q6x11_)) (below_size q6x2_)); have n6_ := aM6_ (blk_below (g := gb181) (o := .cells #[.int .i64 a0_0, .int .i64 a0_1, .int .i64 a0_2, .int .i64 a0_3, .int .i64 a0_4, .int .i64 a0_5, .int .i64 a0_6, .int .i64 a0_7] 40 (0, 0)) q6x3_ hb); have n7_ := aM6_ (below_step q6x2_ hb); clear HO192; clear HO195; clear HO198; clear HO202; clear HO205; clear BK181; clear HB; have HO192 := n0_; have HO195 := n1_; have HO198 := n2_; have HO202 := n3_; have HO205 := n4_; have HO216 := n5_; have BK181 := n6_; have HB := n7_; clear n0_ n1_ n2_ n3_ n4_ n5_ n6_ n7_; (try clear hb); (try clear hb2); (try clear hk); (try clear hi); (try clear ho0)))
 (try simp only [Act.put, List.setIfInBounds_toArray, List.set_cons_zero, List.set_cons_succ])
 go_cut [54] (fun v54 wc => ∃ (kq : Nat) (x54_15 : Bool), v54 = .bool x54_15 ∧ Aside0 (laws_FnExactEightMoves.j0 kq l1 l2 t196 t199 t200 t203 t214 t217 x54_15 a0_0 a0_1 a0_2 a0_3 a0_4 a0_5 a0_6 a0_7 = some r) ∧ Aside0 (kq ≤ k) ∧ Aside0 (Kd.R k52 52 wc w.heap.size (fun k_ => some k_ ≠ (v215 : Value).ownBlock) v197 t196) ∧ Aside0 (Kd.R (Kd.int .i64) 2 wc w.heap.size (fun k_ => some k_ ≠ ((.slice Ao30 t203.length co30) : Value).ownBlock) (.slice Ao29 t200.length co29) t200) ∧ Aside0 (Kd.R (Kd.int .i64) 2 wc w.heap.size (fun k_ => some k_ ≠ ((.slice Ao29 t200.length co29) : Value).ownBlock) (.slice Ao30 t203.length co30) t203) ∧ Aside0 (Kd.R k52 52 wc w.heap.size (fun k_ => some k_ ≠ (v197 : Value).ownBlock) v215 t214) ∧ Aside0 (wc.heap[gb181]? = some (.cells #[.int .i64 a0_0, .int .i64 a0_1, .int .i64 a0_2, .int .i64 a0_3, .int .i64 a0_4, .int .i64 a0_5, .int .i64 a0_6, .int .i64 a0_7] 40 (0, 0))) ∧ Aside0 (Below w.heap.size w wc))
 case first =>
  have H := HC16.out
  clear HC16
  replace H := Option.bind_eq_some_iff.mp H
  obtain ⟨t218, A320, H⟩ := H
  replace H : (if t218 = true then (laws_FnExactEightMoves.j0 k l1 l2 t196 t199 t200 t203 t214 t217 (t217 != t199) a0_0 a0_1 a0_2 a0_3 a0_4 a0_5 a0_6 a0_7) else (laws_FnExactEightMoves.j0 k l1 l2 t196 t199 t200 t203 t214 t217 true a0_0 a0_1 a0_2 a0_3 a0_4 a0_5 a0_6 a0_7)) = some r := H
  have A32 := aM6_ A320
  clear A320
  by_cases c33 : t218 = true
  ·subst c33
   have H1 : (laws_FnExactEightMoves.j0 k l1 l2 t196 t199 t200 t203 t214 t217 (t217 != t199) a0_0 a0_1 a0_2 a0_3 a0_4 a0_5 a0_6 a0_7) = some r := by rw [if_pos rfl] at H; exact H
   clear H
   have H := H1
   clear H1
   have H' := aM6_ H
   clear H
   obtain ⟨Ao34, co34, eo34⟩ := Kd.R_slice HO216.out
   subst eo34
   obtain ⟨Ao35, co35, eo35⟩ := Kd.R_slice HO198.out
   subst eo35
   go_wp2_with (first | ((with_reducible refine gate_callee (f := 18) rfl ?_); refine goesL_ (some 48) rfl rfl Try.func18 (by kernel_rfl) rfl #[.slice Ao34 t214.length co34, .slice Ao35 t196.length co35] rfl q6x1_ ?_; (with_reducible refine (laws_eqMoveS.calls k _ _ t214 _ _ t196 true _ ?side1 ?side2 ?side3 ?side4 A32.out).mono ?_); (case side1 => repeat (first | exact (Kd.R_reads' HO216.out).2.2 | (with_reducible refine Kd.C_alloc ?_ _) | (with_reducible refine Kd.C_drewN ?_ _) | (with_reducible refine Kd.C_drew ?_))); (case side2 => exact (Kd.R_reads' HO216.out).2.1); (case side3 => repeat (first | exact (Kd.R_reads' HO198.out).2.2 | (with_reducible refine Kd.C_alloc ?_ _) | (with_reducible refine Kd.C_drewN ?_ _) | (with_reducible refine Kd.C_drew ?_))); (case side4 => exact (Kd.R_reads' HO198.out).2.1); rintro e w36 ⟨rfl, hb⟩; refine ⟨_, rfl, ?_⟩; have n0_ := aM6_ (rB6_ q6x9_ hb); have n1_ := aM6_ (rB6_ q6x10_ hb); have n2_ := aM6_ (rB6_ q6x11_ hb); have n3_ := aM6_ (rB6_ q6x13_ hb); have n4_ := aM6_ (rB6_ q6x16_ hb); have n5_ := aM6_ (rB6_ (by (with_reducible repeat (first | apply rA6_ | apply rN6_ | apply rD6_)); exact HO216.out) hb); have n6_ := aM6_ (blk_below (g := gb181) (o := .cells #[.int .i64 a0_0, .int .i64 a0_1, .int .i64 a0_2, .int .i64 a0_3, .int .i64 a0_4, .int .i64 a0_5, .int .i64 a0_6, .int .i64 a0_7] 40 (0, 0)) q6x3_ hb); have n7_ := aM6_ (below_step q6x2_ hb); clear HO192; clear HO195; clear HO198; clear HO202; clear HO205; clear HO216; clear BK181; clear HB; have HO192 := n0_; have HO195 := n1_; have HO198 := n2_; have HO202 := n3_; have HO205 := n4_; have HO216 := n5_; have BK181 := n6_; have HB := n7_; clear n0_ n1_ n2_ n3_ n4_ n5_ n6_ n7_; (try clear hb); (try clear hb2); (try clear hk); (try clear hi)))
   go_meet
   case rel => exact ⟨_, ((t217 != t199)), q6x17_, H', ⟨by first | omega | exact Nat.le_refl _⟩, ⟨by (with_reducible repeat (first | apply rA6_ | apply rN6_ | apply rD6_)); exact Kd.R_mono HO198.out (fun _ hk => hk.2)⟩, ⟨by (with_reducible repeat (first | apply rA6_ | apply rN6_ | apply rD6_)); exact Kd.R_mono HO202.out (fun _ hk => hk.2)⟩, ⟨by (with_reducible repeat (first | apply rA6_ | apply rN6_ | apply rD6_)); exact Kd.R_mono HO205.out (fun _ hk => hk.2)⟩, ⟨by (with_reducible repeat (first | apply rA6_ | apply rN6_ | apply rD6_)); exact Kd.R_mono HO216.out (fun _ hk => hk.2)⟩, ⟨by (with_reducible repeat (first | refine blk_drewN ?_ _ | refine blk_drew ?_ | refine blk_alloc ?_ _)); exact BK181.out⟩, ⟨by repeat (first | (with_reducible first | exact HB.out | apply below_alloc | apply pw_below_drewN | apply below_drew1 | refine below_set ?_ GE181.out) | exact HB.out)⟩⟩
  replace c33 := Bool.eq_false_iff.mpr c33
  subst c33
  have H1 : (laws_FnExactEightMoves.j0 k l1 l2 t196 t199 t200 t203 t214 t217 true a0_0 a0_1 a0_2 a0_3 a0_4 a0_5 a0_6 a0_7) = some r := by rw [if_neg (show ¬ (false = true) by decide)] at H; exact H
  clear H
  have H := H1
  clear H1
  have H' := aM6_ H
  clear H
  obtain ⟨Ao37, co37, eo37⟩ := Kd.R_slice HO216.out
  subst eo37
  obtain ⟨Ao38, co38, eo38⟩ := Kd.R_slice HO198.out
  subst eo38
  go_wp2_with (first | ((with_reducible refine gate_callee (f := 18) rfl ?_); refine goesL_ (some 48) rfl rfl Try.func18 (by kernel_rfl) rfl #[.slice Ao37 t214.length co37, .slice Ao38 t196.length co38] rfl q6x1_ ?_; (with_reducible refine (laws_eqMoveS.calls k _ _ t214 _ _ t196 false _ ?side1 ?side2 ?side3 ?side4 A32.out).mono ?_); (case side1 => repeat (first | exact (Kd.R_reads' HO216.out).2.2 | (with_reducible refine Kd.C_alloc ?_ _) | (with_reducible refine Kd.C_drewN ?_ _) | (with_reducible refine Kd.C_drew ?_))); (case side2 => exact (Kd.R_reads' HO216.out).2.1); (case side3 => repeat (first | exact (Kd.R_reads' HO198.out).2.2 | (with_reducible refine Kd.C_alloc ?_ _) | (with_reducible refine Kd.C_drewN ?_ _) | (with_reducible refine Kd.C_drew ?_))); (case side4 => exact (Kd.R_reads' HO198.out).2.1); rintro e w39 ⟨rfl, hb⟩; refine ⟨_, rfl, ?_⟩; have n0_ := aM6_ (rB6_ q6x9_ hb); have n1_ := aM6_ (rB6_ q6x10_ hb); have n2_ := aM6_ (rB6_ q6x11_ hb); have n3_ := aM6_ (rB6_ q6x13_ hb); have n4_ := aM6_ (rB6_ q6x16_ hb); have n5_ := aM6_ (rB6_ (by (with_reducible repeat (first | apply rA6_ | apply rN6_ | apply rD6_)); exact HO216.out) hb); have n6_ := aM6_ (blk_below (g := gb181) (o := .cells #[.int .i64 a0_0, .int .i64 a0_1, .int .i64 a0_2, .int .i64 a0_3, .int .i64 a0_4, .int .i64 a0_5, .int .i64 a0_6, .int .i64 a0_7] 40 (0, 0)) q6x3_ hb); have n7_ := aM6_ (below_step q6x2_ hb); clear HO192; clear HO195; clear HO198; clear HO202; clear HO205; clear HO216; clear BK181; clear HB; have HO192 := n0_; have HO195 := n1_; have HO198 := n2_; have HO202 := n3_; have HO205 := n4_; have HO216 := n5_; have BK181 := n6_; have HB := n7_; clear n0_ n1_ n2_ n3_ n4_ n5_ n6_ n7_; (try clear hb); (try clear hb2); (try clear hk); (try clear hi)))
  go_meet
  case rel => exact ⟨_, (true), q6x17_, H', ⟨by first | omega | exact Nat.le_refl _⟩, ⟨by (with_reducible repeat (first | apply rA6_ | apply rN6_ | apply rD6_)); exact Kd.R_mono HO198.out (fun _ hk => hk.2)⟩, ⟨by (with_reducible repeat (first | apply rA6_ | apply rN6_ | apply rD6_)); exact Kd.R_mono HO202.out (fun _ hk => hk.2)⟩, ⟨by (with_reducible repeat (first | apply rA6_ | apply rN6_ | apply rD6_)); exact Kd.R_mono HO205.out (fun _ hk => hk.2)⟩, ⟨by (with_reducible repeat (first | apply rA6_ | apply rN6_ | apply rD6_)); exact Kd.R_mono HO216.out (fun _ hk => hk.2)⟩, ⟨by (with_reducible repeat (first | refine blk_drewN ?_ _ | refine blk_drew ?_ | refine blk_alloc ?_ _)); exact BK181.out⟩, ⟨by repeat (first | (with_reducible first | exact HB.out | apply below_alloc | apply pw_below_drewN | apply below_drew1 | refine below_set ?_ GE181.out) | exact HB.out)⟩⟩
 case rest =>
  clear HC16
  try clear c1
  try clear c2
  try clear p2
  try clear c3
  try clear c4
  try clear c4b0
  try clear c4b1
  try clear c6
  try clear c6b0
  try clear c6b1
  try clear c11
  try clear c18
  try clear c22
  try clear c24
  try clear c25
  try clear c33
  try clear hcz18_0
  try clear hcz18_1
  try clear hcz18_2
  try clear hcz18_3
  try clear hcz18_4
  try clear hcz18_5
  try clear hcz18_6
  try clear hcz18_7
  try clear hcz27_0
  try clear hcz27_1
  try clear hcz27_2
  try clear hcz27_3
  try clear hcz27_4
  try clear hcz27_5
  try clear hcz27_6
  try clear hcz27_7
  try clear hfz18_0
  try clear hfz18_1
  try clear hfz18_2
  try clear hfz18_3
  try clear hfz18_4
  try clear hfz18_5
  try clear hfz18_6
  try clear hfz18_7
  try clear hfz27_0
  try clear hfz27_1
  try clear hfz27_2
  try clear hfz27_3
  try clear hfz27_4
  try clear hfz27_5
  try clear hfz27_6
  try clear hfz27_7
  obtain ⟨kq, x54_15, rfl, HA, HJ15, HO_7, HO_9, HO_10, HO_11, BK181, HB⟩ := hcut
  cases kq with
  | zero => exact absurd HA.out (by simp [laws_FnExactEightMoves.j0])
  | succ kj15 =>
   have H := HA.out
   clear HA
   simp only [laws_FnExactEightMoves.j0] at H
   by_cases c40 : x54_15 = true
   ·subst c40
    have H1 : (some false) = some r := by rw [if_pos rfl] at H; exact H
    clear H
    have H := H1
    clear H1
    obtain rfl := Option.some.inj H
    go_wp2
    go_ret
    exact ⟨by first | rfl | (simp [errW_none, errW_some] <;> rfl) | (simp [*, errW_none, errW_some] <;> rfl), by repeat (first | (with_reducible first | exact HB.out | apply below_alloc | apply pw_below_drewN | apply below_drew1 | refine below_set ?_ GE181.out) | exact HB.out)⟩
   replace c40 := Bool.eq_false_iff.mpr c40
   subst c40
   have H1 : ((laws_toInt64S.f kj15 l1).bind fun t219 => ((laws_eqInt64S.f kj15 t200 t219).bind fun t222 => (if t222 = true then ((laws_toInt64S.f kj15 l2).bind fun t223 => ((laws_eqInt64S.f kj15 t203 t223).bind fun t226 => (if t226 = true then ((laws_markInt64S.f kj15 t200 1).bind fun bt227 => ((laws_markInt64S.f kj15 t203 bt227.1).bind fun bt229 => (if bt229.1 < 0 then (laws_FnExactEightMoves.j1 kj15 l1 l2 t196 t199 t214 true a0_0 a0_1 a0_2 a0_3 a0_4 a0_5 a0_6 a0_7) else ((laws_eqMoveS.f kj15 t214 t196).bind fun t231 => (if t231 = true then (laws_FnExactEightMoves.j1 kj15 l1 l2 t196 t199 t214 (t217 != t199) a0_0 a0_1 a0_2 a0_3 a0_4 a0_5 a0_6 a0_7) else (laws_FnExactEightMoves.j1 kj15 l1 l2 t196 t199 t214 true a0_0 a0_1 a0_2 a0_3 a0_4 a0_5 a0_6 a0_7)))))) else (some false)))) else (some false)))) = some r := by rw [if_neg (show ¬ (false = true) by decide)] at H; exact H
   clear H
   have H := H1
   clear H1
   replace H := Option.bind_eq_some_iff.mp H
   obtain ⟨t219, A410, H⟩ := H
   replace H : ((laws_eqInt64S.f kj15 t200 t219).bind fun t222 => (if t222 = true then ((laws_toInt64S.f kj15 l2).bind fun t223 => ((laws_eqInt64S.f kj15 t203 t223).bind fun t226 => (if t226 = true then ((laws_markInt64S.f kj15 t200 1).bind fun bt227 => ((laws_markInt64S.f kj15 t203 bt227.1).bind fun bt229 => (if bt229.1 < 0 then (laws_FnExactEightMoves.j1 kj15 l1 l2 t196 t199 t214 true a0_0 a0_1 a0_2 a0_3 a0_4 a0_5 a0_6 a0_7) else ((laws_eqMoveS.f kj15 t214 t196).bind fun t231 => (if t231 = true then (laws_FnExactEightMoves.j1 kj15 l1 l2 t196 t199 t214 (t217 != t199) a0_0 a0_1 a0_2 a0_3 a0_4 a0_5 a0_6 a0_7) else (laws_FnExactEightMoves.j1 kj15 l1 l2 t196 t199 t214 true a0_0 a0_1 a0_2 a0_3 a0_4 a0_5 a0_6 a0_7)))))) else (some false)))) else (some false))) = some r := H
   have A41 := aM6_ A410
   clear A410
   replace H := Option.bind_eq_some_iff.mp H
   obtain ⟨t222, A420, H⟩ := H
   replace H : (if t222 = true then ((laws_toInt64S.f kj15 l2).bind fun t223 => ((laws_eqInt64S.f kj15 t203 t223).bind fun t226 => (if t226 = true then ((laws_markInt64S.f kj15 t200 1).bind fun bt227 => ((laws_markInt64S.f kj15 t203 bt227.1).bind fun bt229 => (if bt229.1 < 0 then (laws_FnExactEightMoves.j1 kj15 l1 l2 t196 t199 t214 true a0_0 a0_1 a0_2 a0_3 a0_4 a0_5 a0_6 a0_7) else ((laws_eqMoveS.f kj15 t214 t196).bind fun t231 => (if t231 = true then (laws_FnExactEightMoves.j1 kj15 l1 l2 t196 t199 t214 (t217 != t199) a0_0 a0_1 a0_2 a0_3 a0_4 a0_5 a0_6 a0_7) else (laws_FnExactEightMoves.j1 kj15 l1 l2 t196 t199 t214 true a0_0 a0_1 a0_2 a0_3 a0_4 a0_5 a0_6 a0_7)))))) else (some false)))) else (some false)) = some r := H
   have A42 := aM6_ A420
   clear A420
   by_cases c43 : t222 = true
   rotate_left
   ·replace c43 := Bool.eq_false_iff.mpr c43
    subst c43
    have H1 : (some false) = some r := by rw [if_neg (show ¬ (false = true) by decide)] at H; exact H
    clear H
    have H := H1
    clear H1
    obtain rfl := Option.some.inj H
    go_wp2_with (first | ((with_reducible refine gate_callee (f := 11) rfl ?_); refine goesL_ (some 57) rfl rfl Try.func11 (by kernel_rfl) rfl #[.slice A1 l1.length c1] rfl q6x1_ ?_; (with_reducible refine (laws_toInt64S.calls kj15 _ _ l1 t219 _ ?side1 ?side2 A41.out).mono ?_); (case side1 => repeat (first | exact (Kd.C_below HR1.out HB.out) | (with_reducible refine Kd.C_alloc ?_ _) | (with_reducible refine Kd.C_drewN ?_ _) | (with_reducible refine Kd.C_drew ?_))); (case side2 => exact HC1.out); rintro e w104 ⟨v220, rfl, ho0, hb⟩; refine ⟨_, rfl, ?_⟩; have n0_ := aM6_ (rB6_ q6x5_ hb); have n1_ := aM6_ (Kd.R_elder' q6x7_ (Kd.R_base ho0) hb); have n2_ := aM6_ (Kd.R_elder' q6x6_ (Kd.R_base ho0) hb); have n3_ := aM6_ (rB6_ q6x4_ hb); have n4_ := aM6_ (Kd.R_lower (Kd.R_new' (Kd.R_new' ho0 (Kd.R_lt q6x7_)) (Kd.R_lt q6x6_)) (below_size q6x2_)); have n5_ := aM6_ (blk_below (g := gb181) (o := .cells #[.int .i64 a0_0, .int .i64 a0_1, .int .i64 a0_2, .int .i64 a0_3, .int .i64 a0_4, .int .i64 a0_5, .int .i64 a0_6, .int .i64 a0_7] 40 (0, 0)) q6x3_ hb); have n6_ := aM6_ (below_step q6x2_ hb); clear HO_7; clear HO_9; clear HO_10; clear HO_11; clear BK181; clear HB; have HO_7 := n0_; have HO_9 := n1_; have HO_10 := n2_; have HO_11 := n3_; have HO221 := n4_; have BK181 := n5_; have HB := n6_; clear n0_ n1_ n2_ n3_ n4_ n5_ n6_; (try clear hb); (try clear hb2); (try clear hk); (try clear hi); (try clear ho0); obtain ⟨Ao105, co105, eo105⟩ := Kd.R_slice HO221.out; subst eo105) | ((with_reducible refine gate_callee (f := 13) rfl ?_); refine goesL_ (some 58) rfl rfl Try.func13 (by kernel_rfl) rfl #[.slice Ao29 t200.length co29, .slice Ao105 t219.length co105] rfl q6x1_ ?_; (with_reducible refine (laws_eqInt64S.calls kj15 _ _ t200 _ _ t219 false _ ?side1 ?side2 ?side3 ?side4 A42.out).mono ?_); (case side1 => repeat (first | exact (Kd.R_reads' HO_9.out).2.2 | (with_reducible refine Kd.C_alloc ?_ _) | (with_reducible refine Kd.C_drewN ?_ _) | (with_reducible refine Kd.C_drew ?_))); (case side2 => exact (Kd.R_reads' HO_9.out).2.1); (case side3 => repeat (first | exact (Kd.R_reads' HO221.out).2.2 | (with_reducible refine Kd.C_alloc ?_ _) | (with_reducible refine Kd.C_drewN ?_ _) | (with_reducible refine Kd.C_drew ?_))); (case side4 => exact (Kd.R_reads' HO221.out).2.1); rintro e w' ⟨rfl, ⟨nd, rfl⟩⟩; refine ⟨_, rfl, ?_⟩))
    go_ret
    exact ⟨by first | rfl | (simp [errW_none, errW_some] <;> rfl) | (simp [*, errW_none, errW_some] <;> rfl), by repeat (first | (with_reducible first | exact HB.out | apply below_alloc | apply pw_below_drewN | apply below_drew1 | refine below_set ?_ GE181.out) | exact HB.out)⟩

   subst c43
   have H1 : ((laws_toInt64S.f kj15 l2).bind fun t223 => ((laws_eqInt64S.f kj15 t203 t223).bind fun t226 => (if t226 = true then ((laws_markInt64S.f kj15 t200 1).bind fun bt227 => ((laws_markInt64S.f kj15 t203 bt227.1).bind fun bt229 => (if bt229.1 < 0 then (laws_FnExactEightMoves.j1 kj15 l1 l2 t196 t199 t214 true a0_0 a0_1 a0_2 a0_3 a0_4 a0_5 a0_6 a0_7) else ((laws_eqMoveS.f kj15 t214 t196).bind fun t231 => (if t231 = true then (laws_FnExactEightMoves.j1 kj15 l1 l2 t196 t199 t214 (t217 != t199) a0_0 a0_1 a0_2 a0_3 a0_4 a0_5 a0_6 a0_7) else (laws_FnExactEightMoves.j1 kj15 l1 l2 t196 t199 t214 true a0_0 a0_1 a0_2 a0_3 a0_4 a0_5 a0_6 a0_7)))))) else (some false)))) = some r := by rw [if_pos rfl] at H; exact H
   clear H
   have H := H1
   clear H1
   replace H := Option.bind_eq_some_iff.mp H
   obtain ⟨t223, A440, H⟩ := H
   replace H : ((laws_eqInt64S.f kj15 t203 t223).bind fun t226 => (if t226 = true then ((laws_markInt64S.f kj15 t200 1).bind fun bt227 => ((laws_markInt64S.f kj15 t203 bt227.1).bind fun bt229 => (if bt229.1 < 0 then (laws_FnExactEightMoves.j1 kj15 l1 l2 t196 t199 t214 true a0_0 a0_1 a0_2 a0_3 a0_4 a0_5 a0_6 a0_7) else ((laws_eqMoveS.f kj15 t214 t196).bind fun t231 => (if t231 = true then (laws_FnExactEightMoves.j1 kj15 l1 l2 t196 t199 t214 (t217 != t199) a0_0 a0_1 a0_2 a0_3 a0_4 a0_5 a0_6 a0_7) else (laws_FnExactEightMoves.j1 kj15 l1 l2 t196 t199 t214 true a0_0 a0_1 a0_2 a0_3 a0_4 a0_5 a0_6 a0_7)))))) else (some false))) = some r := H
   have A44 := aM6_ A440
   clear A440
   replace H := Option.bind_eq_some_iff.mp H
   obtain ⟨t226, A450, H⟩ := H
   replace H : (if t226 = true then ((laws_markInt64S.f kj15 t200 1).bind fun bt227 => ((laws_markInt64S.f kj15 t203 bt227.1).bind fun bt229 => (if bt229.1 < 0 then (laws_FnExactEightMoves.j1 kj15 l1 l2 t196 t199 t214 true a0_0 a0_1 a0_2 a0_3 a0_4 a0_5 a0_6 a0_7) else ((laws_eqMoveS.f kj15 t214 t196).bind fun t231 => (if t231 = true then (laws_FnExactEightMoves.j1 kj15 l1 l2 t196 t199 t214 (t217 != t199) a0_0 a0_1 a0_2 a0_3 a0_4 a0_5 a0_6 a0_7) else (laws_FnExactEightMoves.j1 kj15 l1 l2 t196 t199 t214 true a0_0 a0_1 a0_2 a0_3 a0_4 a0_5 a0_6 a0_7)))))) else (some false)) = some r := H
   have A45 := aM6_ A450
   clear A450
   by_cases c46 : t226 = true
   rotate_left
   ·replace c46 := Bool.eq_false_iff.mpr c46
    subst c46
    have H1 : (some false) = some r := by rw [if_neg (show ¬ (false = true) by decide)] at H; exact H
    clear H
    have H := H1
    clear H1
    obtain rfl := Option.some.inj H
    go_wp2_with (first | ((with_reducible refine gate_callee (f := 11) rfl ?_); refine goesL_ (some 57) rfl rfl Try.func11 (by kernel_rfl) rfl #[.slice A1 l1.length c1] rfl q6x1_ ?_; (with_reducible refine (laws_toInt64S.calls kj15 _ _ l1 t219 _ ?side1 ?side2 A41.out).mono ?_); (case side1 => repeat (first | exact (Kd.C_below HR1.out HB.out) | (with_reducible refine Kd.C_alloc ?_ _) | (with_reducible refine Kd.C_drewN ?_ _) | (with_reducible refine Kd.C_drew ?_))); (case side2 => exact HC1.out); rintro e w100 ⟨v220, rfl, ho0, hb⟩; refine ⟨_, rfl, ?_⟩; have n0_ := aM6_ (rB6_ q6x5_ hb); have n1_ := aM6_ (Kd.R_elder' q6x7_ (Kd.R_base ho0) hb); have n2_ := aM6_ (Kd.R_elder' q6x6_ (Kd.R_base ho0) hb); have n3_ := aM6_ (rB6_ q6x4_ hb); have n4_ := aM6_ (Kd.R_lower (Kd.R_new' (Kd.R_new' ho0 (Kd.R_lt q6x7_)) (Kd.R_lt q6x6_)) (below_size q6x2_)); have n5_ := aM6_ (blk_below (g := gb181) (o := .cells #[.int .i64 a0_0, .int .i64 a0_1, .int .i64 a0_2, .int .i64 a0_3, .int .i64 a0_4, .int .i64 a0_5, .int .i64 a0_6, .int .i64 a0_7] 40 (0, 0)) q6x3_ hb); have n6_ := aM6_ (below_step q6x2_ hb); clear HO_7; clear HO_9; clear HO_10; clear HO_11; clear BK181; clear HB; have HO_7 := n0_; have HO_9 := n1_; have HO_10 := n2_; have HO_11 := n3_; have HO221 := n4_; have BK181 := n5_; have HB := n6_; clear n0_ n1_ n2_ n3_ n4_ n5_ n6_; (try clear hb); (try clear hb2); (try clear hk); (try clear hi); (try clear ho0); obtain ⟨Ao101, co101, eo101⟩ := Kd.R_slice HO221.out; subst eo101) | ((with_reducible refine gate_callee (f := 13) rfl ?_); refine goesL_ (some 58) rfl rfl Try.func13 (by kernel_rfl) rfl #[.slice Ao29 t200.length co29, .slice Ao101 t219.length co101] rfl q6x1_ ?_; (with_reducible refine (laws_eqInt64S.calls kj15 _ _ t200 _ _ t219 true _ ?side1 ?side2 ?side3 ?side4 A42.out).mono ?_); (case side1 => repeat (first | exact (Kd.R_reads' HO_9.out).2.2 | (with_reducible refine Kd.C_alloc ?_ _) | (with_reducible refine Kd.C_drewN ?_ _) | (with_reducible refine Kd.C_drew ?_))); (case side2 => exact (Kd.R_reads' HO_9.out).2.1); (case side3 => repeat (first | exact (Kd.R_reads' HO221.out).2.2 | (with_reducible refine Kd.C_alloc ?_ _) | (with_reducible refine Kd.C_drewN ?_ _) | (with_reducible refine Kd.C_drew ?_))); (case side4 => exact (Kd.R_reads' HO221.out).2.1); rintro e w' ⟨rfl, ⟨nd, rfl⟩⟩; refine ⟨_, rfl, ?_⟩) | ((with_reducible refine gate_callee (f := 11) rfl ?_); refine goesL_ (some 62) rfl rfl Try.func11 (by kernel_rfl) rfl #[.slice A2 l2.length c2] rfl q6x1_ ?_; (with_reducible refine (laws_toInt64S.calls kj15 _ _ l2 t223 _ ?side1 ?side2 A44.out).mono ?_); (case side1 => repeat (first | exact (Kd.C_below HR2.out q6x2_) | (with_reducible refine Kd.C_alloc ?_ _) | (with_reducible refine Kd.C_drewN ?_ _) | (with_reducible refine Kd.C_drew ?_))); (case side2 => exact HC2.out); rintro e w102 ⟨v224, rfl, ho0, hb⟩; refine ⟨_, rfl, ?_⟩; have n0_ := aM6_ (rB6_ q6x5_ hb); have n1_ := aM6_ (Kd.R_elder' q6x7_ (Kd.R_base ho0) hb); have n2_ := aM6_ (Kd.R_elder' q6x6_ (Kd.R_base ho0) hb); have n3_ := aM6_ (rB6_ q6x4_ hb); have n4_ := aM6_ (Kd.R_elder' q6x14_ (Kd.R_base ho0) hb); have n5_ := aM6_ (Kd.R_lower (Kd.R_new' (Kd.R_new' (Kd.R_new' ho0 (Kd.R_lt q6x7_)) (Kd.R_lt q6x6_)) (Kd.R_lt q6x14_)) (below_size q6x2_)); have n6_ := aM6_ (blk_below (g := gb181) (o := .cells #[.int .i64 a0_0, .int .i64 a0_1, .int .i64 a0_2, .int .i64 a0_3, .int .i64 a0_4, .int .i64 a0_5, .int .i64 a0_6, .int .i64 a0_7] 40 (0, 0)) q6x3_ hb); have n7_ := aM6_ (below_step q6x2_ hb); clear HO_7; clear HO_9; clear HO_10; clear HO_11; clear HO221; clear BK181; clear HB; have HO_7 := n0_; have HO_9 := n1_; have HO_10 := n2_; have HO_11 := n3_; have HO221 := n4_; have HO225 := n5_; have BK181 := n6_; have HB := n7_; clear n0_ n1_ n2_ n3_ n4_ n5_ n6_ n7_; (try clear hb); (try clear hb2); (try clear hk); (try clear hi); (try clear ho0); obtain ⟨Ao103, co103, eo103⟩ := Kd.R_slice HO225.out; subst eo103) | ((with_reducible refine gate_callee (f := 13) rfl ?_); refine goesL_ (some 63) rfl rfl Try.func13 (by kernel_rfl) rfl #[.slice Ao30 t203.length co30, .slice Ao103 t223.length co103] rfl q6x1_ ?_; (with_reducible refine (laws_eqInt64S.calls kj15 _ _ t203 _ _ t223 false _ ?side1 ?side2 ?side3 ?side4 A45.out).mono ?_); (case side1 => repeat (first | exact (Kd.R_reads' HO_10.out).2.2 | (with_reducible refine Kd.C_alloc ?_ _) | (with_reducible refine Kd.C_drewN ?_ _) | (with_reducible refine Kd.C_drew ?_))); (case side2 => exact (Kd.R_reads' HO_10.out).2.1); (case side3 => repeat (first | exact (Kd.R_reads' HO225.out).2.2 | (with_reducible refine Kd.C_alloc ?_ _) | (with_reducible refine Kd.C_drewN ?_ _) | (with_reducible refine Kd.C_drew ?_))); (case side4 => exact (Kd.R_reads' HO225.out).2.1); rintro e w' ⟨rfl, ⟨nd, rfl⟩⟩; refine ⟨_, rfl, ?_⟩))
    go_ret
    exact ⟨by first | rfl | (simp [errW_none, errW_some] <;> rfl) | (simp [*, errW_none, errW_some] <;> rfl), by repeat (first | (with_reducible first | exact HB.out | apply below_alloc | apply pw_below_drewN | apply below_drew1 | refine below_set ?_ GE181.out) | exact HB.out)⟩
   subst c46
   have H1 : ((laws_markInt64S.f kj15 t200 1).bind fun bt227 => ((laws_markInt64S.f kj15 t203 bt227.1).bind fun bt229 => (if bt229.1 < 0 then (laws_FnExactEightMoves.j1 kj15 l1 l2 t196 t199 t214 true a0_0 a0_1 a0_2 a0_3 a0_4 a0_5 a0_6 a0_7) else ((laws_eqMoveS.f kj15 t214 t196).bind fun t231 => (if t231 = true then (laws_FnExactEightMoves.j1 kj15 l1 l2 t196 t199 t214 (t217 != t199) a0_0 a0_1 a0_2 a0_3 a0_4 a0_5 a0_6 a0_7) else (laws_FnExactEightMoves.j1 kj15 l1 l2 t196 t199 t214 true a0_0 a0_1 a0_2 a0_3 a0_4 a0_5 a0_6 a0_7)))))) = some r := by rw [if_pos rfl] at H; exact H
   clear H
   have H := H1
   clear H1
   replace H := Option.bind_eq_some_iff.mp H
   obtain ⟨⟨t227, t228⟩, A470, H⟩ := H
   replace H : ((laws_markInt64S.f kj15 t203 t227).bind fun bt229 => (if bt229.1 < 0 then (laws_FnExactEightMoves.j1 kj15 l1 l2 t196 t199 t214 true a0_0 a0_1 a0_2 a0_3 a0_4 a0_5 a0_6 a0_7) else ((laws_eqMoveS.f kj15 t214 t196).bind fun t231 => (if t231 = true then (laws_FnExactEightMoves.j1 kj15 l1 l2 t196 t199 t214 (t217 != t199) a0_0 a0_1 a0_2 a0_3 a0_4 a0_5 a0_6 a0_7) else (laws_FnExactEightMoves.j1 kj15 l1 l2 t196 t199 t214 true a0_0 a0_1 a0_2 a0_3 a0_4 a0_5 a0_6 a0_7))))) = some r := H
   have A47 := aM6_ A470
   clear A470
   replace H := Option.bind_eq_some_iff.mp H
   obtain ⟨⟨t229, t230⟩, A480, H⟩ := H
   replace H : (if t229 < 0 then (laws_FnExactEightMoves.j1 kj15 l1 l2 t196 t199 t214 true a0_0 a0_1 a0_2 a0_3 a0_4 a0_5 a0_6 a0_7) else ((laws_eqMoveS.f kj15 t214 t196).bind fun t231 => (if t231 = true then (laws_FnExactEightMoves.j1 kj15 l1 l2 t196 t199 t214 (t217 != t199) a0_0 a0_1 a0_2 a0_3 a0_4 a0_5 a0_6 a0_7) else (laws_FnExactEightMoves.j1 kj15 l1 l2 t196 t199 t214 true a0_0 a0_1 a0_2 a0_3 a0_4 a0_5 a0_6 a0_7)))) = some r := H
   have A48 := aM6_ A480
   clear A480
   have HC49 := aM6_ H
   clear H
   go_upto_region 18 with (first | ((with_reducible refine gate_callee (f := 11) rfl ?_); refine goesL_ (some 57) rfl rfl Try.func11 (by kernel_rfl) rfl #[.slice A1 l1.length c1] rfl q6x1_ ?_; (with_reducible refine (laws_toInt64S.calls kj15 _ _ l1 t219 _ ?side1 ?side2 A41.out).mono ?_); (case side1 => repeat (first | exact (Kd.C_below HR1.out HB.out) | (with_reducible refine Kd.C_alloc ?_ _) | (with_reducible refine Kd.C_drewN ?_ _) | (with_reducible refine Kd.C_drew ?_))); (case side2 => exact HC1.out); rintro e w50 ⟨v220, rfl, ho0, hb⟩; refine ⟨_, rfl, ?_⟩; have n0_ := aM6_ (rB6_ q6x5_ hb); have n1_ := aM6_ (Kd.R_elder' q6x7_ (Kd.R_base ho0) hb); have n2_ := aM6_ (Kd.R_elder' q6x6_ (Kd.R_base ho0) hb); have n3_ := aM6_ (rB6_ q6x4_ hb); have n4_ := aM6_ (Kd.R_lower (Kd.R_new' (Kd.R_new' ho0 (Kd.R_lt q6x7_)) (Kd.R_lt q6x6_)) (below_size q6x2_)); have n5_ := aM6_ (blk_below (g := gb181) (o := .cells #[.int .i64 a0_0, .int .i64 a0_1, .int .i64 a0_2, .int .i64 a0_3, .int .i64 a0_4, .int .i64 a0_5, .int .i64 a0_6, .int .i64 a0_7] 40 (0, 0)) q6x3_ hb); have n6_ := aM6_ (below_step q6x2_ hb); clear HO_7; clear HO_9; clear HO_10; clear HO_11; clear BK181; clear HB; have HO_7 := n0_; have HO_9 := n1_; have HO_10 := n2_; have HO_11 := n3_; have HO221 := n4_; have BK181 := n5_; have HB := n6_; clear n0_ n1_ n2_ n3_ n4_ n5_ n6_; (try clear hb); (try clear hb2); (try clear hk); (try clear hi); (try clear ho0); obtain ⟨Ao51, co51, eo51⟩ := Kd.R_slice HO221.out; subst eo51) | ((with_reducible refine gate_callee (f := 13) rfl ?_); refine goesL_ (some 58) rfl rfl Try.func13 (by kernel_rfl) rfl #[.slice Ao29 t200.length co29, .slice Ao51 t219.length co51] rfl q6x1_ ?_; (with_reducible refine (laws_eqInt64S.calls kj15 _ _ t200 _ _ t219 true _ ?side1 ?side2 ?side3 ?side4 A42.out).mono ?_); (case side1 => repeat (first | exact (Kd.R_reads' HO_9.out).2.2 | (with_reducible refine Kd.C_alloc ?_ _) | (with_reducible refine Kd.C_drewN ?_ _) | (with_reducible refine Kd.C_drew ?_))); (case side2 => exact (Kd.R_reads' HO_9.out).2.1); (case side3 => repeat (first | exact (Kd.R_reads' HO221.out).2.2 | (with_reducible refine Kd.C_alloc ?_ _) | (with_reducible refine Kd.C_drewN ?_ _) | (with_reducible refine Kd.C_drew ?_))); (case side4 => exact (Kd.R_reads' HO221.out).2.1); rintro e w' ⟨rfl, ⟨nd, rfl⟩⟩; refine ⟨_, rfl, ?_⟩) | ((with_reducible refine gate_callee (f := 11) rfl ?_); refine goesL_ (some 62) rfl rfl Try.func11 (by kernel_rfl) rfl #[.slice A2 l2.length c2] rfl q6x1_ ?_; (with_reducible refine (laws_toInt64S.calls kj15 _ _ l2 t223 _ ?side1 ?side2 A44.out).mono ?_); (case side1 => repeat (first | exact (Kd.C_below HR2.out q6x2_) | (with_reducible refine Kd.C_alloc ?_ _) | (with_reducible refine Kd.C_drewN ?_ _) | (with_reducible refine Kd.C_drew ?_))); (case side2 => exact HC2.out); rintro e w52 ⟨v224, rfl, ho0, hb⟩; refine ⟨_, rfl, ?_⟩; have n0_ := aM6_ (rB6_ q6x5_ hb); have n1_ := aM6_ (Kd.R_elder' q6x7_ (Kd.R_base ho0) hb); have n2_ := aM6_ (Kd.R_elder' q6x6_ (Kd.R_base ho0) hb); have n3_ := aM6_ (rB6_ q6x4_ hb); have n4_ := aM6_ (Kd.R_elder' q6x14_ (Kd.R_base ho0) hb); have n5_ := aM6_ (Kd.R_lower (Kd.R_new' (Kd.R_new' (Kd.R_new' ho0 (Kd.R_lt q6x7_)) (Kd.R_lt q6x6_)) (Kd.R_lt q6x14_)) (below_size q6x2_)); have n6_ := aM6_ (blk_below (g := gb181) (o := .cells #[.int .i64 a0_0, .int .i64 a0_1, .int .i64 a0_2, .int .i64 a0_3, .int .i64 a0_4, .int .i64 a0_5, .int .i64 a0_6, .int .i64 a0_7] 40 (0, 0)) q6x3_ hb); have n7_ := aM6_ (below_step q6x2_ hb); clear HO_7; clear HO_9; clear HO_10; clear HO_11; clear HO221; clear BK181; clear HB; have HO_7 := n0_; have HO_9 := n1_; have HO_10 := n2_; have HO_11 := n3_; have HO221 := n4_; have HO225 := n5_; have BK181 := n6_; have HB := n7_; clear n0_ n1_ n2_ n3_ n4_ n5_ n6_ n7_; (try clear hb); (try clear hb2); (try clear hk); (try clear hi); (try clear ho0); obtain ⟨Ao53, co53, eo53⟩ := Kd.R_slice HO225.out; subst eo53) | ((with_reducible refine gate_callee (f := 13) rfl ?_); refine goesL_ (some 63) rfl rfl Try.func13 (by kernel_rfl) rfl #[.slice Ao30 t203.length co30, .slice Ao53 t223.length co53] rfl q6x1_ ?_; (with_reducible refine (laws_eqInt64S.calls kj15 _ _ t203 _ _ t223 true _ ?side1 ?side2 ?side3 ?side4 A45.out).mono ?_); (case side1 => repeat (first | exact (Kd.R_reads' HO_10.out).2.2 | (with_reducible refine Kd.C_alloc ?_ _) | (with_reducible refine Kd.C_drewN ?_ _) | (with_reducible refine Kd.C_drew ?_))); (case side2 => exact (Kd.R_reads' HO_10.out).2.1); (case side3 => repeat (first | exact (Kd.R_reads' HO225.out).2.2 | (with_reducible refine Kd.C_alloc ?_ _) | (with_reducible refine Kd.C_drewN ?_ _) | (with_reducible refine Kd.C_drew ?_))); (case side4 => exact (Kd.R_reads' HO225.out).2.1); rintro e w' ⟨rfl, ⟨nd, rfl⟩⟩; refine ⟨_, rfl, ?_⟩) | ((with_reducible refine gate_callee (f := 14) rfl ?_); refine goesL_ (some 67) rfl rfl Try.func14 (by kernel_rfl) rfl #[.slice Ao29 t200.length co29, .int .i64 1] rfl q6x1_ ?_; (with_reducible refine (laws_markInt64S.calls kj15 (fun k_ => some k_ = (.slice Ao29 t200.length co29 : Value).ownBlock) (.slice Ao29 t200.length co29) t200 1 t227 t228 w _ ?side1 ?side2 A47.out).mono ?_); (case side1 => repeat (first | (with_reducible first | exact HB.out | apply below_alloc | apply pw_below_drewN | apply below_drew1 | refine below_set ?_ GE181.out) | exact HB.out)); (case side2 => exact Kd.R_tight rfl HO_9.out); rintro e w54 ⟨rfl, hy0, hb, hkp⟩; refine ⟨_, rfl, ?_⟩; have n0_ := aM6_ (Kd.R_mono (ok' := fun k_ => some k_ ≠ (v215 : Value).ownBlock) (Kd.R_keptB ((Kd.R_apart' HO_7.out (Kd.R_typed HO_9.out) (by decide))) hkp (fun k_ hk_ hs_ => (hk_.2) hs_)) (fun k_ hk_ => hk_.1.1)); have n1_ := aM6_ (Kd.R_reok rfl hy0 (fun k_ e_ => HO_9.out.1 k_ e_)); have n2_ := aM6_ (Kd.R_mono (ok' := fun k_ => some k_ ≠ (.slice Ao29 t200.length co29 : Value).ownBlock ∧ some k_ ≠ (.slice Ao51 t219.length co51 : Value).ownBlock ∧ some k_ ≠ (.slice Ao53 t223.length co53 : Value).ownBlock) (Kd.R_keptB (HO_10.out) hkp (fun k_ hk_ hs_ => (hk_.1.1) hs_)) (fun k_ hk_ => ⟨hk_.1.1.1, hk_.1.1.2, hk_.1.2⟩)); have n3_ := aM6_ (Kd.R_mono (ok' := fun k_ => some k_ ≠ (v197 : Value).ownBlock) (Kd.R_keptB ((Kd.R_apart' HO_11.out (Kd.R_typed HO_9.out) (by decide))) hkp (fun k_ hk_ hs_ => (hk_.2) hs_)) (fun k_ hk_ => hk_.1.1)); have n4_ := aM6_ (blk_kept q6x3_ hkp (fun hs_ => (fun e_ => (Kd.R_ne HO_9.out BK181.out (by decide)) e_) hs_)); have n5_ := aM6_ (Kd.R_mono (ok' := fun k_ => some k_ ≠ (.slice Ao29 t200.length co29 : Value).ownBlock ∧ some k_ ≠ (.slice Ao30 t203.length co30 : Value).ownBlock ∧ some k_ ≠ (.slice Ao53 t223.length co53 : Value).ownBlock) (Kd.R_keptB (HO221.out) hkp (fun k_ hk_ hs_ => (hk_.1.1.2) hs_)) (fun k_ hk_ => ⟨hk_.1.1.1.2, hk_.1.1.2, hk_.1.2⟩)); have n6_ := aM6_ (Kd.R_mono (ok' := fun k_ => some k_ ≠ (.slice Ao29 t200.length co29 : Value).ownBlock ∧ some k_ ≠ (.slice Ao30 t203.length co30 : Value).ownBlock ∧ some k_ ≠ (.slice Ao51 t219.length co51 : Value).ownBlock) (Kd.R_keptB (HO225.out) hkp (fun k_ hk_ hs_ => (hk_.1.1.2) hs_)) (fun k_ hk_ => ⟨hk_.1.1.1.2, hk_.1.1.2, hk_.1.2⟩)); have n7_ := aM6_ (hb); clear HO_7; clear HO_9; clear HO_10; clear HO_11; clear BK181; clear HO221; clear HO225; clear HB; have HO_7 := n0_; have HO_9 := n1_; have HO_10 := n2_; have HO_11 := n3_; have BK181 := n4_; have HO221 := n5_; have HO225 := n6_; have HB := n7_; clear n0_ n1_ n2_ n3_ n4_ n5_ n6_ n7_; (try clear hb); (try clear hkp); (try clear hy0)) | ((with_reducible refine gate_callee (f := 14) rfl ?_); refine goesL_ (some 70) rfl rfl Try.func14 (by kernel_rfl) rfl #[.slice Ao30 t203.length co30, .int .i64 t227] rfl q6x1_ ?_; (with_reducible refine (laws_markInt64S.calls kj15 (fun k_ => some k_ = (.slice Ao30 t203.length co30 : Value).ownBlock) (.slice Ao30 t203.length co30) t203 t227 t229 t230 w _ ?side1 ?side2 A48.out).mono ?_); (case side1 => repeat (first | (with_reducible first | exact HB.out | apply below_alloc | apply pw_below_drewN | apply below_drew1 | refine below_set ?_ GE181.out) | exact HB.out)); (case side2 => exact Kd.R_tight rfl HO_10.out); rintro e w55 ⟨rfl, hy0, hb, hkp⟩; refine ⟨_, rfl, ?_⟩; have n0_ := aM6_ (Kd.R_mono (ok' := fun k_ => some k_ ≠ (v215 : Value).ownBlock) (Kd.R_keptB ((Kd.R_apart' HO_7.out (Kd.R_typed HO_10.out) (by decide))) hkp (fun k_ hk_ hs_ => (hk_.2) hs_)) (fun k_ hk_ => hk_.1.1)); have n1_ := aM6_ (Kd.R_mono (ok' := fun k_ => some k_ ≠ (.slice Ao30 t203.length co30 : Value).ownBlock ∧ some k_ ≠ (.slice Ao51 t219.length co51 : Value).ownBlock ∧ some k_ ≠ (.slice Ao53 t223.length co53 : Value).ownBlock) (Kd.R_keptB (HO_9.out) hkp (fun k_ hk_ hs_ => (hk_.1.1) hs_)) (fun k_ hk_ => ⟨hk_.1.1.1, hk_.1.1.2, hk_.1.2⟩)); have n2_ := aM6_ (Kd.R_reok rfl hy0 (fun k_ e_ => HO_10.out.1 k_ e_)); have n3_ := aM6_ (Kd.R_mono (ok' := fun k_ => some k_ ≠ (v197 : Value).ownBlock) (Kd.R_keptB ((Kd.R_apart' HO_11.out (Kd.R_typed HO_10.out) (by decide))) hkp (fun k_ hk_ hs_ => (hk_.2) hs_)) (fun k_ hk_ => hk_.1.1)); have n4_ := aM6_ (blk_kept q6x3_ hkp (fun hs_ => (fun e_ => (Kd.R_ne HO_10.out BK181.out (by decide)) e_) hs_)); have n5_ := aM6_ (Kd.R_mono (ok' := fun k_ => some k_ ≠ (.slice Ao29 t200.length co29 : Value).ownBlock ∧ some k_ ≠ (.slice Ao30 t203.length co30 : Value).ownBlock ∧ some k_ ≠ (.slice Ao53 t223.length co53 : Value).ownBlock) (Kd.R_keptB (HO221.out) hkp (fun k_ hk_ hs_ => (hk_.2.1) hs_)) (fun k_ hk_ => ⟨hk_.1.1, hk_.1.2.1, hk_.1.2.2⟩)); have n6_ := aM6_ (Kd.R_mono (ok' := fun k_ => some k_ ≠ (.slice Ao29 t200.length co29 : Value).ownBlock ∧ some k_ ≠ (.slice Ao30 t203.length co30 : Value).ownBlock ∧ some k_ ≠ (.slice Ao51 t219.length co51 : Value).ownBlock) (Kd.R_keptB (HO225.out) hkp (fun k_ hk_ hs_ => (hk_.2.1) hs_)) (fun k_ hk_ => ⟨hk_.1.1, hk_.1.2.1, hk_.1.2.2⟩)); have n7_ := aM6_ (hb); clear HO_7; clear HO_9; clear HO_10; clear HO_11; clear BK181; clear HO221; clear HO225; clear HB; have HO_7 := n0_; have HO_9 := n1_; have HO_10 := n2_; have HO_11 := n3_; have BK181 := n4_; have HO221 := n5_; have HO225 := n6_; have HB := n7_; clear n0_ n1_ n2_ n3_ n4_ n5_ n6_ n7_; (try clear hb); (try clear hkp); (try clear hy0)))
   (try simp only [Act.put, List.setIfInBounds_toArray, List.set_cons_zero, List.set_cons_succ])
   go_cut [83] (fun v83 wc => ∃ (kq : Nat) (x83_48 : Bool), v83 = .bool x83_48 ∧ Aside0 (laws_FnExactEightMoves.j1 kq l1 l2 t196 t199 t214 x83_48 a0_0 a0_1 a0_2 a0_3 a0_4 a0_5 a0_6 a0_7 = some r) ∧ Aside0 (kq ≤ kj15) ∧ Aside0 (Kd.R k52 52 wc w.heap.size (fun k_ => some k_ ≠ (v215 : Value).ownBlock) v197 t196) ∧ Aside0 (Kd.R k52 52 wc w.heap.size (fun k_ => some k_ ≠ (v197 : Value).ownBlock) v215 t214) ∧ Aside0 (wc.heap[gb181]? = some (.cells #[.int .i64 a0_0, .int .i64 a0_1, .int .i64 a0_2, .int .i64 a0_3, .int .i64 a0_4, .int .i64 a0_5, .int .i64 a0_6, .int .i64 a0_7] 40 (0, 0))) ∧ Aside0 (Below w.heap.size w wc))
   case first =>
    have H := HC49.out
    clear HC49
    by_cases c56 : t229 < 0
    ·rw [if_pos c56] at H
     have c56b0 : decide (t229 < 0) = true := decide_eq_true c56
     clear c56
     (first | rw [c56b0] | (simp only [i64_w, i32_w]; rw [c56b0]) | skip)
     have H' := aM6_ H
     clear H
     go_wp2
     go_meet
     case rel => exact ⟨_, (true), q6x17_, H', ⟨by have := HJ15.out; first | omega | exact Nat.le_refl _⟩, ⟨by (with_reducible repeat (first | apply rA6_ | apply rN6_ | apply rD6_)); exact HO_7.out⟩, ⟨by (with_reducible repeat (first | apply rA6_ | apply rN6_ | apply rD6_)); exact HO_11.out⟩, ⟨by (with_reducible repeat (first | refine blk_drewN ?_ _ | refine blk_drew ?_ | refine blk_alloc ?_ _)); exact BK181.out⟩, ⟨by repeat (first | (with_reducible first | exact HB.out | apply below_alloc | apply pw_below_drewN | apply below_drew1 | refine below_set ?_ GE181.out) | exact HB.out)⟩⟩
    rw [if_neg c56] at H
    have c56b0 : decide (t229 < 0) = false := decide_eq_false c56
    clear c56
    (first | rw [c56b0] | (simp only [i64_w, i32_w]; rw [c56b0]) | skip)
    replace H := Option.bind_eq_some_iff.mp H
    obtain ⟨t231, A570, H⟩ := H
    replace H : (if t231 = true then (laws_FnExactEightMoves.j1 kj15 l1 l2 t196 t199 t214 (t217 != t199) a0_0 a0_1 a0_2 a0_3 a0_4 a0_5 a0_6 a0_7) else (laws_FnExactEightMoves.j1 kj15 l1 l2 t196 t199 t214 true a0_0 a0_1 a0_2 a0_3 a0_4 a0_5 a0_6 a0_7)) = some r := H
    have A57 := aM6_ A570
    clear A570
    by_cases c58 : t231 = true
    ·subst c58
     have H1 : (laws_FnExactEightMoves.j1 kj15 l1 l2 t196 t199 t214 (t217 != t199) a0_0 a0_1 a0_2 a0_3 a0_4 a0_5 a0_6 a0_7) = some r := by rw [if_pos rfl] at H; exact H
     clear H
     have H := H1
     clear H1
     have H' := aM6_ H
     clear H
     obtain ⟨Ao59, co59, eo59⟩ := Kd.R_slice HO_11.out
     subst eo59
     obtain ⟨Ao60, co60, eo60⟩ := Kd.R_slice HO_7.out
     subst eo60
     go_wp2_with (first | (go_at_call 18; (with_reducible refine (laws_eqMoveS.calls kj15 _ _ t214 _ _ t196 true _ ?side1 ?side2 ?side3 ?side4 A57.out).mono ?_); (case side1 => repeat (first | exact (Kd.R_reads' HO_11.out).2.2 | (with_reducible refine Kd.C_alloc ?_ _) | (with_reducible refine Kd.C_drewN ?_ _) | (with_reducible refine Kd.C_drew ?_))); (case side2 => exact (Kd.R_reads' HO_11.out).2.1); (case side3 => repeat (first | exact (Kd.R_reads' HO_7.out).2.2 | (with_reducible refine Kd.C_alloc ?_ _) | (with_reducible refine Kd.C_drewN ?_ _) | (with_reducible refine Kd.C_drew ?_))); (case side4 => exact (Kd.R_reads' HO_7.out).2.1); rintro e w61 ⟨rfl, hb⟩; have n0_ := aM6_ (rB6_ q6x5_ hb); have n1_ := aM6_ (rB6_ q6x7_ hb); have n2_ := aM6_ (rB6_ q6x6_ hb); have n3_ := aM6_ (rB6_ q6x4_ hb); have n4_ := aM6_ (rB6_ q6x14_ hb); have n5_ := aM6_ (rB6_ (by (with_reducible repeat (first | apply rA6_ | apply rN6_ | apply rD6_)); exact HO225.out) hb); have n6_ := aM6_ (blk_below (g := gb181) (o := .cells #[.int .i64 a0_0, .int .i64 a0_1, .int .i64 a0_2, .int .i64 a0_3, .int .i64 a0_4, .int .i64 a0_5, .int .i64 a0_6, .int .i64 a0_7] 40 (0, 0)) q6x3_ hb); have n7_ := aM6_ (below_step q6x2_ hb); clear HO_7; clear HO_9; clear HO_10; clear HO_11; clear HO221; clear HO225; clear BK181; clear HB; have HO_7 := n0_; have HO_9 := n1_; have HO_10 := n2_; have HO_11 := n3_; have HO221 := n4_; have HO225 := n5_; have BK181 := n6_; have HB := n7_; clear n0_ n1_ n2_ n3_ n4_ n5_ n6_ n7_; (try clear hb); (try clear hb2); (try clear hk); (try clear hi)))
     go_meet
     case rel => exact ⟨_, ((t217 != t199)), q6x17_, H', ⟨by have := HJ15.out; first | omega | exact Nat.le_refl _⟩, ⟨by (with_reducible repeat (first | apply rA6_ | apply rN6_ | apply rD6_)); exact HO_7.out⟩, ⟨by (with_reducible repeat (first | apply rA6_ | apply rN6_ | apply rD6_)); exact HO_11.out⟩, ⟨by (with_reducible repeat (first | refine blk_drewN ?_ _ | refine blk_drew ?_ | refine blk_alloc ?_ _)); exact BK181.out⟩, ⟨by repeat (first | (with_reducible first | exact HB.out | apply below_alloc | apply pw_below_drewN | apply below_drew1 | refine below_set ?_ GE181.out) | exact HB.out)⟩⟩
    replace c58 := Bool.eq_false_iff.mpr c58
    subst c58
    have H1 : (laws_FnExactEightMoves.j1 kj15 l1 l2 t196 t199 t214 true a0_0 a0_1 a0_2 a0_3 a0_4 a0_5 a0_6 a0_7) = some r := by rw [if_neg (show ¬ (false = true) by decide)] at H; exact H
    clear H
    have H := H1
    clear H1
    have H' := aM6_ H
    clear H
    obtain ⟨Ao62, co62, eo62⟩ := Kd.R_slice HO_11.out
    subst eo62
    obtain ⟨Ao63, co63, eo63⟩ := Kd.R_slice HO_7.out
    subst eo63
    go_wp2_with (first | (go_at_call 18; (with_reducible refine (laws_eqMoveS.calls kj15 _ _ t214 _ _ t196 false _ ?side1 ?side2 ?side3 ?side4 A57.out).mono ?_); (case side1 => repeat (first | exact (Kd.R_reads' HO_11.out).2.2 | (with_reducible refine Kd.C_alloc ?_ _) | (with_reducible refine Kd.C_drewN ?_ _) | (with_reducible refine Kd.C_drew ?_))); (case side2 => exact (Kd.R_reads' HO_11.out).2.1); (case side3 => repeat (first | exact (Kd.R_reads' HO_7.out).2.2 | (with_reducible refine Kd.C_alloc ?_ _) | (with_reducible refine Kd.C_drewN ?_ _) | (with_reducible refine Kd.C_drew ?_))); (case side4 => exact (Kd.R_reads' HO_7.out).2.1); rintro e w64 ⟨rfl, hb⟩; have n0_ := aM6_ (rB6_ q6x5_ hb); have n1_ := aM6_ (rB6_ q6x7_ hb); have n2_ := aM6_ (rB6_ q6x6_ hb); have n3_ := aM6_ (rB6_ q6x4_ hb); have n4_ := aM6_ (rB6_ q6x14_ hb); have n5_ := aM6_ (rB6_ (by (with_reducible repeat (first | apply rA6_ | apply rN6_ | apply rD6_)); exact HO225.out) hb); have n6_ := aM6_ (blk_below (g := gb181) (o := .cells #[.int .i64 a0_0, .int .i64 a0_1, .int .i64 a0_2, .int .i64 a0_3, .int .i64 a0_4, .int .i64 a0_5, .int .i64 a0_6, .int .i64 a0_7] 40 (0, 0)) q6x3_ hb); have n7_ := aM6_ (below_step q6x2_ hb); clear HO_7; clear HO_9; clear HO_10; clear HO_11; clear HO221; clear HO225; clear BK181; clear HB; have HO_7 := n0_; have HO_9 := n1_; have HO_10 := n2_; have HO_11 := n3_; have HO221 := n4_; have HO225 := n5_; have BK181 := n6_; have HB := n7_; clear n0_ n1_ n2_ n3_ n4_ n5_ n6_ n7_; (try clear hb); (try clear hb2); (try clear hk); (try clear hi)))
    go_meet
    case rel => exact ⟨_, (true), q6x17_, H', ⟨by have := HJ15.out; first | omega | exact Nat.le_refl _⟩, ⟨by (with_reducible repeat (first | apply rA6_ | apply rN6_ | apply rD6_)); exact HO_7.out⟩, ⟨by (with_reducible repeat (first | apply rA6_ | apply rN6_ | apply rD6_)); exact HO_11.out⟩, ⟨by (with_reducible repeat (first | refine blk_drewN ?_ _ | refine blk_drew ?_ | refine blk_alloc ?_ _)); exact BK181.out⟩, ⟨by repeat (first | (with_reducible first | exact HB.out | apply below_alloc | apply pw_below_drewN | apply below_drew1 | refine below_set ?_ GE181.out) | exact HB.out)⟩⟩
   case rest =>
    clear HC49
    try clear c1
    try clear c2
    try clear p2
    try clear c3
    try clear c4
    try clear c4b0
    try clear c4b1
    try clear c5
    try clear c6
    try clear c6b0
    try clear c6b1
    try clear c11
    try clear c13
    try clear c14
    try clear c18
    try clear c22
    try clear c24
    try clear c25
    try clear c33
    try clear c40
    try clear c43
    try clear c46
    try clear c56
    try clear c56b0
    try clear c58
    try clear hcz18_0
    try clear hcz18_1
    try clear hcz18_2
    try clear hcz18_3
    try clear hcz18_4
    try clear hcz18_5
    try clear hcz18_6
    try clear hcz18_7
    try clear hcz27_0
    try clear hcz27_1
    try clear hcz27_2
    try clear hcz27_3
    try clear hcz27_4
    try clear hcz27_5
    try clear hcz27_6
    try clear hcz27_7
    try clear hfz18_0
    try clear hfz18_1
    try clear hfz18_2
    try clear hfz18_3
    try clear hfz18_4
    try clear hfz18_5
    try clear hfz18_6
    try clear hfz18_7
    try clear hfz27_0
    try clear hfz27_1
    try clear hfz27_2
    try clear hfz27_3
    try clear hfz27_4
    try clear hfz27_5
    try clear hfz27_6
    try clear hfz27_7
    try clear p2
    obtain ⟨kq, x83_48, rfl, HA, HJ48, HO_7, HO_11, BK181, HB⟩ := hcut
    cases kq with
    | zero => exact absurd HA.out (by simp [laws_FnExactEightMoves.j1])
    | succ kj48 =>
     have H := HA.out
     clear HA
     simp only [laws_FnExactEightMoves.j1] at H
     by_cases c65 : x83_48 = true
     ·subst c65
      have H1 : (some false) = some r := by rw [if_pos rfl] at H; exact H
      clear H
      have H := H1
      clear H1
      obtain rfl := Option.some.inj H
      go_wp2
      go_ret
      exact ⟨by first | rfl | (simp [errW_none, errW_some] <;> rfl) | (simp [*, errW_none, errW_some] <;> rfl), by repeat (first | (with_reducible first | exact HB.out | apply below_alloc | apply pw_below_drewN | apply below_drew1 | refine below_set ?_ GE181.out) | exact HB.out)⟩
     replace c65 := Bool.eq_false_iff.mpr c65
     subst c65
     have H1 : ((laws_markMoveS.f kj48 t214 1).bind fun bt232 => ((laws_heldMoveS.f kj48 bt232.2 1).bind fun t234 => (if t234 < 0 then (some false) else (if t234 = bt232.1 then ((laws_toEight.f kj48 a0_0 a0_1 a0_2 a0_3 a0_4 a0_5 a0_6 a0_7).bind fun bt235 => ((laws_toInt64S.f kj48 l1).bind fun t243 => ((laws_toInt64S.f kj48 l2).bind fun t246 => ((impl_EightMoves.f kj48 bt235.1 bt235.2.1 bt235.2.2.1 bt235.2.2.2.1 bt235.2.2.2.2.1 bt235.2.2.2.2.2.1 bt235.2.2.2.2.2.2.1 bt235.2.2.2.2.2.2.2 t243 t246).bind fun bt249 => ((laws_eqMoveS.f kj48 bt249.1 t196).bind fun t253 => (if t253 = true then (laws_FnExactEightMoves.j2 kj48 bt232.2 bt232.1 (bt249.2 != t199)) else (laws_FnExactEightMoves.j2 kj48 bt232.2 bt232.1 true))))))) else (some false))))) = some r := by rw [if_neg (show ¬ (false = true) by decide)] at H; exact H
     clear H
     have H := H1
     clear H1
     replace H := Option.bind_eq_some_iff.mp H
     obtain ⟨⟨t232, t233⟩, A660, H⟩ := H
     replace H : ((laws_heldMoveS.f kj48 t233 1).bind fun t234 => (if t234 < 0 then (some false) else (if t234 = t232 then ((laws_toEight.f kj48 a0_0 a0_1 a0_2 a0_3 a0_4 a0_5 a0_6 a0_7).bind fun bt235 => ((laws_toInt64S.f kj48 l1).bind fun t243 => ((laws_toInt64S.f kj48 l2).bind fun t246 => ((impl_EightMoves.f kj48 bt235.1 bt235.2.1 bt235.2.2.1 bt235.2.2.2.1 bt235.2.2.2.2.1 bt235.2.2.2.2.2.1 bt235.2.2.2.2.2.2.1 bt235.2.2.2.2.2.2.2 t243 t246).bind fun bt249 => ((laws_eqMoveS.f kj48 bt249.1 t196).bind fun t253 => (if t253 = true then (laws_FnExactEightMoves.j2 kj48 t233 t232 (bt249.2 != t199)) else (laws_FnExactEightMoves.j2 kj48 t233 t232 true))))))) else (some false)))) = some r := H
     have A66 := aM6_ A660
     clear A660
     replace H := Option.bind_eq_some_iff.mp H
     obtain ⟨t234, A670, H⟩ := H
     replace H : (if t234 < 0 then (some false) else (if t234 = t232 then ((laws_toEight.f kj48 a0_0 a0_1 a0_2 a0_3 a0_4 a0_5 a0_6 a0_7).bind fun bt235 => ((laws_toInt64S.f kj48 l1).bind fun t243 => ((laws_toInt64S.f kj48 l2).bind fun t246 => ((impl_EightMoves.f kj48 bt235.1 bt235.2.1 bt235.2.2.1 bt235.2.2.2.1 bt235.2.2.2.2.1 bt235.2.2.2.2.2.1 bt235.2.2.2.2.2.2.1 bt235.2.2.2.2.2.2.2 t243 t246).bind fun bt249 => ((laws_eqMoveS.f kj48 bt249.1 t196).bind fun t253 => (if t253 = true then (laws_FnExactEightMoves.j2 kj48 t233 t232 (bt249.2 != t199)) else (laws_FnExactEightMoves.j2 kj48 t233 t232 true))))))) else (some false))) = some r := H
     have A67 := aM6_ A670
     clear A670
     by_cases c68 : t234 < 0
     ·rw [if_pos c68] at H
      have c68b0 : decide (t234 < 0) = true := decide_eq_true c68
      clear c68
      obtain rfl := Option.some.inj H
      obtain ⟨Ao69, co69, eo69⟩ := Kd.R_slice HO_11.out
      subst eo69
      go_wp2_with (first | ((with_reducible refine gate_callee (f := 19) rfl ?_); refine goesL_ (some 86) rfl rfl Try.func19 (by kernel_rfl) rfl #[.slice Ao69 t214.length co69, .int .i64 1] rfl q6x1_ ?_; (with_reducible refine (laws_markMoveS.calls kj48 (fun k_ => some k_ = (.slice Ao69 t214.length co69 : Value).ownBlock) (.slice Ao69 t214.length co69) t214 1 t232 t233 w _ ?side1 ?side2 A66.out).mono ?_); (case side1 => repeat (first | (with_reducible first | exact HB.out | apply below_alloc | apply pw_below_drewN | apply below_drew1 | refine below_set ?_ GE181.out) | exact HB.out)); (case side2 => exact Kd.R_tight rfl HO_11.out); rintro e w70 ⟨rfl, hy0, hb, hkp⟩; refine ⟨_, rfl, ?_⟩; have n0_ := aM6_ (Kd.R_mono (ok' := fun k_ => some k_ ≠ (.slice Ao69 t214.length co69 : Value).ownBlock) (Kd.R_keptB (HO_7.out) hkp (fun k_ hk_ hs_ => (hk_) hs_)) (fun k_ hk_ => hk_.1)); have n1_ := aM6_ (Kd.R_reok rfl hy0 (fun k_ e_ => HO_11.out.1 k_ e_)); have n2_ := aM6_ (blk_kept q6x3_ hkp (fun hs_ => (fun e_ => (Kd.R_ne HO_11.out BK181.out (by decide)) e_) hs_)); have n3_ := aM6_ (hb); clear HO_7; clear HO_11; clear BK181; clear HB; have HO_7 := n0_; have HO_11 := n1_; have BK181 := n2_; have HB := n3_; clear n0_ n1_ n2_ n3_; (try clear hb); (try clear hkp); (try clear hy0)) | ((with_reducible refine gate_callee (f := 20) rfl ?_); refine goesL_ (some 89) rfl rfl Try.func20 (by kernel_rfl) rfl #[.slice Ao69 t233.length co69, .int .i64 1] rfl q6x12_ ?_; (with_reducible refine (laws_heldMoveS.calls kj48 _ _ t233 1 t234 _ ?side1 ?side2 A67.out).mono ?_); (case side1 => repeat (first | exact (Kd.R_reads' HO_11.out).2.2 | (with_reducible refine Kd.C_alloc ?_ _) | (with_reducible refine Kd.C_drewN ?_ _) | (with_reducible refine Kd.C_drew ?_))); (case side2 => rw [show t233.length = t214.length from (Kd.R_reads' HO_11.out).1.symm]; exact (Kd.R_reads' HO_11.out).2.1); rintro e w' ⟨rfl, ⟨nd, rfl⟩⟩; refine ⟨_, rfl, ?_⟩))
      go_ret
      exact ⟨by first | rfl | (simp [errW_none, errW_some] <;> rfl) | (simp [*, errW_none, errW_some] <;> rfl), by repeat (first | (with_reducible first | exact HB.out | apply below_alloc | apply pw_below_drewN | apply below_drew1 | refine below_set ?_ GE181.out) | exact HB.out)⟩
     rw [if_neg c68] at H
     have c68b0 : decide (t234 < 0) = false := decide_eq_false c68
     clear c68
     by_cases c71 : t234 = t232
     rotate_left
     ·rw [if_neg c71] at H
      have c71b0 : (t234 == t232) = false := beq_eq_false_iff_ne.mpr c71
      have c71b1 : (t234 != t232) = true := bne_iff_ne.mpr c71
      obtain rfl := Option.some.inj H
      obtain ⟨Ao98, co98, eo98⟩ := Kd.R_slice HO_11.out
      subst eo98
      go_wp2_with (first | ((with_reducible refine gate_callee (f := 19) rfl ?_); refine goesL_ (some 86) rfl rfl Try.func19 (by kernel_rfl) rfl #[.slice Ao98 t214.length co98, .int .i64 1] rfl q6x1_ ?_; (with_reducible refine (laws_markMoveS.calls kj48 (fun k_ => some k_ = (.slice Ao98 t214.length co98 : Value).ownBlock) (.slice Ao98 t214.length co98) t214 1 t232 t233 w _ ?side1 ?side2 A66.out).mono ?_); (case side1 => repeat (first | (with_reducible first | exact HB.out | apply below_alloc | apply pw_below_drewN | apply below_drew1 | refine below_set ?_ GE181.out) | exact HB.out)); (case side2 => exact Kd.R_tight rfl HO_11.out); rintro e w99 ⟨rfl, hy0, hb, hkp⟩; refine ⟨_, rfl, ?_⟩; have n0_ := aM6_ (Kd.R_mono (ok' := fun k_ => some k_ ≠ (.slice Ao98 t214.length co98 : Value).ownBlock) (Kd.R_keptB (HO_7.out) hkp (fun k_ hk_ hs_ => (hk_) hs_)) (fun k_ hk_ => hk_.1)); have n1_ := aM6_ (Kd.R_reok rfl hy0 (fun k_ e_ => HO_11.out.1 k_ e_)); have n2_ := aM6_ (blk_kept q6x3_ hkp (fun hs_ => (fun e_ => (Kd.R_ne HO_11.out BK181.out (by decide)) e_) hs_)); have n3_ := aM6_ (hb); clear HO_7; clear HO_11; clear BK181; clear HB; have HO_7 := n0_; have HO_11 := n1_; have BK181 := n2_; have HB := n3_; clear n0_ n1_ n2_ n3_; (try clear hb); (try clear hkp); (try clear hy0)) | ((with_reducible refine gate_callee (f := 20) rfl ?_); refine goesL_ (some 89) rfl rfl Try.func20 (by kernel_rfl) rfl #[.slice Ao98 t233.length co98, .int .i64 1] rfl q6x12_ ?_; (with_reducible refine (laws_heldMoveS.calls kj48 _ _ t233 1 t234 _ ?side1 ?side2 A67.out).mono ?_); (case side1 => repeat (first | exact (Kd.R_reads' HO_11.out).2.2 | (with_reducible refine Kd.C_alloc ?_ _) | (with_reducible refine Kd.C_drewN ?_ _) | (with_reducible refine Kd.C_drew ?_))); (case side2 => rw [show t233.length = t214.length from (Kd.R_reads' HO_11.out).1.symm]; exact (Kd.R_reads' HO_11.out).2.1); rintro e w' ⟨rfl, ⟨nd, rfl⟩⟩; refine ⟨_, rfl, ?_⟩))
      go_ret
      exact ⟨by first | rfl | (simp [errW_none, errW_some] <;> rfl) | (simp [*, errW_none, errW_some] <;> rfl), by repeat (first | (with_reducible first | exact HB.out | apply below_alloc | apply pw_below_drewN | apply below_drew1 | refine below_set ?_ GE181.out) | exact HB.out)⟩
     rw [if_pos c71] at H
     have c71b0 : (t234 == t232) = true := beq_iff_eq.mpr c71
     have c71b1 : (t234 != t232) = false := bne_eq_false_iff_eq.mpr c71
     clear c71
     replace H := Option.bind_eq_some_iff.mp H
     obtain ⟨⟨t235, t236, t237, t238, t239, t240, t241, t242⟩, A720, H⟩ := H
     replace H : ((laws_toInt64S.f kj48 l1).bind fun t243 => ((laws_toInt64S.f kj48 l2).bind fun t246 => ((impl_EightMoves.f kj48 t235 t236 t237 t238 t239 t240 t241 t242 t243 t246).bind fun bt249 => ((laws_eqMoveS.f kj48 bt249.1 t196).bind fun t253 => (if t253 = true then (laws_FnExactEightMoves.j2 kj48 t233 t232 (bt249.2 != t199)) else (laws_FnExactEightMoves.j2 kj48 t233 t232 true)))))) = some r := H
     have A72 := aM6_ A720
     clear A720
     replace H := Option.bind_eq_some_iff.mp H
     obtain ⟨t243, A730, H⟩ := H
     replace H : ((laws_toInt64S.f kj48 l2).bind fun t246 => ((impl_EightMoves.f kj48 t235 t236 t237 t238 t239 t240 t241 t242 t243 t246).bind fun bt249 => ((laws_eqMoveS.f kj48 bt249.1 t196).bind fun t253 => (if t253 = true then (laws_FnExactEightMoves.j2 kj48 t233 t232 (bt249.2 != t199)) else (laws_FnExactEightMoves.j2 kj48 t233 t232 true))))) = some r := H
     have A73 := aM6_ A730
     clear A730
     replace H := Option.bind_eq_some_iff.mp H
     obtain ⟨t246, A740, H⟩ := H
     replace H : ((impl_EightMoves.f kj48 t235 t236 t237 t238 t239 t240 t241 t242 t243 t246).bind fun bt249 => ((laws_eqMoveS.f kj48 bt249.1 t196).bind fun t253 => (if t253 = true then (laws_FnExactEightMoves.j2 kj48 t233 t232 (bt249.2 != t199)) else (laws_FnExactEightMoves.j2 kj48 t233 t232 true)))) = some r := H
     have A74 := aM6_ A740
     clear A740
     replace H := Option.bind_eq_some_iff.mp H
     obtain ⟨⟨t249, t252⟩, A750, H⟩ := H
     replace H : ((laws_eqMoveS.f kj48 t249 t196).bind fun t253 => (if t253 = true then (laws_FnExactEightMoves.j2 kj48 t233 t232 (t252 != t199)) else (laws_FnExactEightMoves.j2 kj48 t233 t232 true))) = some r := H
     have A75 := aM6_ A750
     clear A750
     have HC76 := aM6_ H
     clear H
     obtain ⟨Ao77, co77, eo77⟩ := Kd.R_slice HO_11.out
     subst eo77
     go_upto_region 29 with (first | ((with_reducible refine gate_callee (f := 19) rfl ?_); refine goesL_ (some 86) rfl rfl Try.func19 (by kernel_rfl) rfl #[.slice Ao77 t214.length co77, .int .i64 1] rfl q6x1_ ?_; (with_reducible refine (laws_markMoveS.calls kj48 (fun k_ => some k_ = (.slice Ao77 t214.length co77 : Value).ownBlock) (.slice Ao77 t214.length co77) t214 1 t232 t233 w _ ?side1 ?side2 A66.out).mono ?_); (case side1 => repeat (first | (with_reducible first | exact HB.out | apply below_alloc | apply pw_below_drewN | apply below_drew1 | refine below_set ?_ GE181.out) | exact HB.out)); (case side2 => exact Kd.R_tight rfl HO_11.out); rintro e w78 ⟨rfl, hy0, hb, hkp⟩; refine ⟨_, rfl, ?_⟩; have n0_ := aM6_ (Kd.R_mono (ok' := fun k_ => some k_ ≠ (.slice Ao77 t214.length co77 : Value).ownBlock) (Kd.R_keptB (HO_7.out) hkp (fun k_ hk_ hs_ => (hk_) hs_)) (fun k_ hk_ => hk_.1)); have n1_ := aM6_ (Kd.R_reok rfl hy0 (fun k_ e_ => HO_11.out.1 k_ e_)); have n2_ := aM6_ (blk_kept q6x3_ hkp (fun hs_ => (fun e_ => (Kd.R_ne HO_11.out BK181.out (by decide)) e_) hs_)); have n3_ := aM6_ (hb); clear HO_7; clear HO_11; clear BK181; clear HB; have HO_7 := n0_; have HO_11 := n1_; have BK181 := n2_; have HB := n3_; clear n0_ n1_ n2_ n3_; (try clear hb); (try clear hkp); (try clear hy0)) | ((with_reducible refine gate_callee (f := 20) rfl ?_); refine goesL_ (some 89) rfl rfl Try.func20 (by kernel_rfl) rfl #[.slice Ao77 t233.length co77, .int .i64 1] rfl q6x12_ ?_; (with_reducible refine (laws_heldMoveS.calls kj48 _ _ t233 1 t234 _ ?side1 ?side2 A67.out).mono ?_); (case side1 => repeat (first | exact (Kd.R_reads' HO_11.out).2.2 | (with_reducible refine Kd.C_alloc ?_ _) | (with_reducible refine Kd.C_drewN ?_ _) | (with_reducible refine Kd.C_drew ?_))); (case side2 => rw [show t233.length = t214.length from (Kd.R_reads' HO_11.out).1.symm]; exact (Kd.R_reads' HO_11.out).2.1); rintro e w' ⟨rfl, ⟨nd, rfl⟩⟩; refine ⟨_, rfl, ?_⟩; have hcz79_0 : w78.cell? ⟨gb181, 0, none⟩ = some (.int .i64 a0_0) := (blk_cell BK181.out 0).trans rfl; have hcz79_1 : w78.cell? ⟨gb181, 1, none⟩ = some (.int .i64 a0_1) := (blk_cell BK181.out 1).trans rfl; have hcz79_2 : w78.cell? ⟨gb181, 2, none⟩ = some (.int .i64 a0_2) := (blk_cell BK181.out 2).trans rfl; have hcz79_3 : w78.cell? ⟨gb181, 3, none⟩ = some (.int .i64 a0_3) := (blk_cell BK181.out 3).trans rfl; have hcz79_4 : w78.cell? ⟨gb181, 4, none⟩ = some (.int .i64 a0_4) := (blk_cell BK181.out 4).trans rfl; have hcz79_5 : w78.cell? ⟨gb181, 5, none⟩ = some (.int .i64 a0_5) := (blk_cell BK181.out 5).trans rfl; have hcz79_6 : w78.cell? ⟨gb181, 6, none⟩ = some (.int .i64 a0_6) := (blk_cell BK181.out 6).trans rfl; have hcz79_7 : w78.cell? ⟨gb181, 7, none⟩ = some (.int .i64 a0_7) := (blk_cell BK181.out 7).trans rfl; have hfz79_0 := blk_frozen BK181.out 0; have hfz79_1 := blk_frozen BK181.out 1; have hfz79_2 := blk_frozen BK181.out 2; have hfz79_3 := blk_frozen BK181.out 3; have hfz79_4 := blk_frozen BK181.out 4; have hfz79_5 := blk_frozen BK181.out 5; have hfz79_6 := blk_frozen BK181.out 6; have hfz79_7 := blk_frozen BK181.out 7) | ((with_reducible refine gate_callee (f := 22) rfl ?_); refine goesL_ (some 97) rfl rfl Try.func22 (by kernel_rfl) rfl #[.agg #[.int .i64 a0_0, .int .i64 a0_1, .int .i64 a0_2, .int .i64 a0_3, .int .i64 a0_4, .int .i64 a0_5, .int .i64 a0_6, .int .i64 a0_7]] rfl q6x1_ ?_; (with_reducible refine (laws_toEight.calls kj48 a0_0 a0_1 a0_2 a0_3 a0_4 a0_5 a0_6 a0_7 t235 t236 t237 t238 t239 t240 t241 t242 _ A72.out).mono ?_); rintro e w80 ⟨rfl, hb⟩; refine ⟨_, rfl, ?_⟩; have n0_ := aM6_ (rB6_ q6x5_ hb); have n1_ := aM6_ (rB6_ q6x4_ hb); have n2_ := aM6_ (blk_below (g := gb181) (o := .cells #[.int .i64 a0_0, .int .i64 a0_1, .int .i64 a0_2, .int .i64 a0_3, .int .i64 a0_4, .int .i64 a0_5, .int .i64 a0_6, .int .i64 a0_7] 40 (0, 0)) q6x3_ hb); have n3_ := aM6_ (below_step q6x2_ hb); clear HO_7; clear HO_11; clear BK181; clear HB; have HO_7 := n0_; have HO_11 := n1_; have BK181 := n2_; have HB := n3_; clear n0_ n1_ n2_ n3_; (try clear hb); (try clear hb2); (try clear hk); (try clear hi)) | ((with_reducible refine gate_callee (f := 11) rfl ?_); refine goesL_ (some 99) rfl rfl Try.func11 (by kernel_rfl) rfl #[.slice A1 l1.length c1] rfl q6x1_ ?_; (with_reducible refine (laws_toInt64S.calls kj48 _ _ l1 t243 _ ?side1 ?side2 A73.out).mono ?_); (case side1 => repeat (first | exact (Kd.C_below HR1.out HB.out) | (with_reducible refine Kd.C_alloc ?_ _) | (with_reducible refine Kd.C_drewN ?_ _) | (with_reducible refine Kd.C_drew ?_))); (case side2 => exact HC1.out); rintro e w81 ⟨v244, rfl, ho0, hb⟩; refine ⟨_, rfl, ?_⟩; have n0_ := aM6_ (rB6_ q6x5_ hb); have n1_ := aM6_ (rB6_ q6x4_ hb); have n2_ := aM6_ (Kd.R_lower ho0 (below_size q6x2_)); have n3_ := aM6_ (blk_below (g := gb181) (o := .cells #[.int .i64 a0_0, .int .i64 a0_1, .int .i64 a0_2, .int .i64 a0_3, .int .i64 a0_4, .int .i64 a0_5, .int .i64 a0_6, .int .i64 a0_7] 40 (0, 0)) q6x3_ hb); have n4_ := aM6_ (below_step q6x2_ hb); clear HO_7; clear HO_11; clear BK181; clear HB; have HO_7 := n0_; have HO_11 := n1_; have HO245 := n2_; have BK181 := n3_; have HB := n4_; clear n0_ n1_ n2_ n3_ n4_; (try clear hb); (try clear hb2); (try clear hk); (try clear hi); (try clear ho0)) | ((with_reducible refine gate_callee (f := 11) rfl ?_); refine goesL_ (some 101) rfl rfl Try.func11 (by kernel_rfl) rfl #[.slice A2 l2.length c2] rfl q6x1_ ?_; (with_reducible refine (laws_toInt64S.calls kj48 _ _ l2 t246 _ ?side1 ?side2 A74.out).mono ?_); (case side1 => repeat (first | exact (Kd.C_below HR2.out HB.out) | (with_reducible refine Kd.C_alloc ?_ _) | (with_reducible refine Kd.C_drewN ?_ _) | (with_reducible refine Kd.C_drew ?_))); (case side2 => exact HC2.out); rintro e w82 ⟨v247, rfl, ho0, hb⟩; refine ⟨_, rfl, ?_⟩; have n0_ := aM6_ (rB6_ q6x5_ hb); have n1_ := aM6_ (rB6_ q6x4_ hb); have n2_ := aM6_ (Kd.R_elder' q6x15_ (Kd.R_base ho0) hb); have n3_ := aM6_ (Kd.R_lower (Kd.R_new' ho0 (Kd.R_lt q6x15_)) (below_size q6x2_)); have n4_ := aM6_ (blk_below (g := gb181) (o := .cells #[.int .i64 a0_0, .int .i64 a0_1, .int .i64 a0_2, .int .i64 a0_3, .int .i64 a0_4, .int .i64 a0_5, .int .i64 a0_6, .int .i64 a0_7] 40 (0, 0)) q6x3_ hb); have n5_ := aM6_ (below_step q6x2_ hb); clear HO_7; clear HO_11; clear HO245; clear BK181; clear HB; have HO_7 := n0_; have HO_11 := n1_; have HO245 := n2_; have HO248 := n3_; have BK181 := n4_; have HB := n5_; clear n0_ n1_ n2_ n3_ n4_ n5_; (try clear hb); (try clear hb2); (try clear hk); (try clear hi); (try clear ho0); obtain ⟨Ao83, co83, eo83⟩ := Kd.R_slice HO245.out; subst eo83; obtain ⟨Ao84, co84, eo84⟩ := Kd.R_slice HO248.out; subst eo84) | ((with_reducible refine gate_callee (f := 25) rfl ?_); refine goesL_ (some 102) rfl rfl Try.func25 (by kernel_rfl) rfl #[.agg #[.int .i64 t235, .int .i64 t236, .int .i64 t237, .int .i64 t238, .int .i64 t239, .int .i64 t240, .int .i64 t241, .int .i64 t242], .slice Ao83 t243.length co83, .slice Ao84 t246.length co84] rfl q6x1_ ?_; (with_reducible refine (impl_EightMoves.calls kj48 t235 t236 t237 t238 t239 t240 t241 t242 _ _ t243 _ _ t246 t249 t252 _ ?side1 ?side2 ?side3 ?side4 A75.out).mono ?_); (case side1 => repeat (first | exact (Kd.R_reads' HO245.out).2.2 | (with_reducible refine Kd.C_alloc ?_ _) | (with_reducible refine Kd.C_drewN ?_ _) | (with_reducible refine Kd.C_drew ?_))); (case side2 => exact (Kd.R_reads' HO245.out).2.1); (case side3 => repeat (first | exact (Kd.R_reads' HO248.out).2.2 | (with_reducible refine Kd.C_alloc ?_ _) | (with_reducible refine Kd.C_drewN ?_ _) | (with_reducible refine Kd.C_drew ?_))); (case side4 => exact (Kd.R_reads' HO248.out).2.1); rintro e w85 ⟨v250, rfl, ho0, hb⟩; refine ⟨_, rfl, ?_⟩; have n0_ := aM6_ (Kd.R_elder' q6x5_ (Kd.R_base ho0) hb); have n1_ := aM6_ (Kd.R_elder' q6x4_ (Kd.R_base ho0) hb); have n2_ := aM6_ (rB6_ q6x15_ hb); have n3_ := aM6_ (rB6_ q6x18_ hb); have n4_ := aM6_ (Kd.R_lower (Kd.R_new' (Kd.R_new' ho0 (Kd.R_lt q6x5_)) (Kd.R_lt q6x4_)) (below_size q6x2_)); have n5_ := aM6_ (blk_below (g := gb181) (o := .cells #[.int .i64 a0_0, .int .i64 a0_1, .int .i64 a0_2, .int .i64 a0_3, .int .i64 a0_4, .int .i64 a0_5, .int .i64 a0_6, .int .i64 a0_7] 40 (0, 0)) q6x3_ hb); have n6_ := aM6_ (below_step q6x2_ hb); clear HO_7; clear HO_11; clear HO245; clear HO248; clear BK181; clear HB; have HO_7 := n0_; have HO_11 := n1_; have HO245 := n2_; have HO248 := n3_; have HO251 := n4_; have BK181 := n5_; have HB := n6_; clear n0_ n1_ n2_ n3_ n4_ n5_ n6_; (try clear hb); (try clear hb2); (try clear hk); (try clear hi); (try clear ho0)))
     (try simp only [Act.put, List.setIfInBounds_toArray, List.set_cons_zero, List.set_cons_succ])
     go_cut [113] (fun v113 wc => ∃ (kq : Nat) (x113_75 : Bool), v113 = .bool x113_75 ∧ Aside0 (laws_FnExactEightMoves.j2 kq t233 t232 x113_75 = some r) ∧ Aside0 (kq ≤ kj48) ∧ Aside0 (Kd.R k52 52 wc w.heap.size (fun _ => True) (.slice Ao77 t214.length co77) t233) ∧ Aside0 (wc.heap[gb181]? = some (.cells #[.int .i64 a0_0, .int .i64 a0_1, .int .i64 a0_2, .int .i64 a0_3, .int .i64 a0_4, .int .i64 a0_5, .int .i64 a0_6, .int .i64 a0_7] 40 (0, 0))) ∧ Aside0 (Below w.heap.size w wc))
     case first =>
      have H := HC76.out
      clear HC76
      replace H := Option.bind_eq_some_iff.mp H
      obtain ⟨t253, A860, H⟩ := H
      replace H : (if t253 = true then (laws_FnExactEightMoves.j2 kj48 t233 t232 (t252 != t199)) else (laws_FnExactEightMoves.j2 kj48 t233 t232 true)) = some r := H
      have A86 := aM6_ A860
      clear A860
      by_cases c87 : t253 = true
      ·subst c87
       have H1 : (laws_FnExactEightMoves.j2 kj48 t233 t232 (t252 != t199)) = some r := by rw [if_pos rfl] at H; exact H
       clear H
       have H := H1
       clear H1
       have H' := aM6_ H
       clear H
       obtain ⟨Ao88, co88, eo88⟩ := Kd.R_slice HO251.out
       subst eo88
       obtain ⟨Ao89, co89, eo89⟩ := Kd.R_slice HO_7.out
       subst eo89
       go_wp2_with (first | ((with_reducible refine gate_callee (f := 18) rfl ?_); refine goesL_ (some 107) rfl rfl Try.func18 (by kernel_rfl) rfl #[.slice Ao88 t249.length co88, .slice Ao89 t196.length co89] rfl q6x1_ ?_; (with_reducible refine (laws_eqMoveS.calls kj48 _ _ t249 _ _ t196 true _ ?side1 ?side2 ?side3 ?side4 A86.out).mono ?_); (case side1 => repeat (first | exact (Kd.R_reads' HO251.out).2.2 | (with_reducible refine Kd.C_alloc ?_ _) | (with_reducible refine Kd.C_drewN ?_ _) | (with_reducible refine Kd.C_drew ?_))); (case side2 => exact (Kd.R_reads' HO251.out).2.1); (case side3 => repeat (first | exact (Kd.R_reads' HO_7.out).2.2 | (with_reducible refine Kd.C_alloc ?_ _) | (with_reducible refine Kd.C_drewN ?_ _) | (with_reducible refine Kd.C_drew ?_))); (case side4 => exact (Kd.R_reads' HO_7.out).2.1); rintro e w90 ⟨rfl, hb⟩; refine ⟨_, rfl, ?_⟩; have n0_ := aM6_ (rB6_ q6x5_ hb); have n1_ := aM6_ (rB6_ q6x4_ hb); have n2_ := aM6_ (rB6_ q6x15_ hb); have n3_ := aM6_ (rB6_ q6x18_ hb); have n4_ := aM6_ (rB6_ (by (with_reducible repeat (first | apply rA6_ | apply rN6_ | apply rD6_)); exact HO251.out) hb); have n5_ := aM6_ (blk_below (g := gb181) (o := .cells #[.int .i64 a0_0, .int .i64 a0_1, .int .i64 a0_2, .int .i64 a0_3, .int .i64 a0_4, .int .i64 a0_5, .int .i64 a0_6, .int .i64 a0_7] 40 (0, 0)) q6x3_ hb); have n6_ := aM6_ (below_step q6x2_ hb); clear HO_7; clear HO_11; clear HO245; clear HO248; clear HO251; clear BK181; clear HB; have HO_7 := n0_; have HO_11 := n1_; have HO245 := n2_; have HO248 := n3_; have HO251 := n4_; have BK181 := n5_; have HB := n6_; clear n0_ n1_ n2_ n3_ n4_ n5_ n6_; (try clear hb); (try clear hb2); (try clear hk); (try clear hi)))
       go_meet
       case rel => exact ⟨_, ((t252 != t199)), q6x17_, H', ⟨by have := HJ15.out; have := HJ48.out; first | omega | exact Nat.le_refl _⟩, ⟨by (with_reducible repeat (first | apply rA6_ | apply rN6_ | apply rD6_)); exact Kd.R_mono HO_11.out (fun _ hk => trivial)⟩, ⟨by (with_reducible repeat (first | refine blk_drewN ?_ _ | refine blk_drew ?_ | refine blk_alloc ?_ _)); exact BK181.out⟩, ⟨by repeat (first | (with_reducible first | exact HB.out | apply below_alloc | apply pw_below_drewN | apply below_drew1 | refine below_set ?_ GE181.out) | exact HB.out)⟩⟩
      replace c87 := Bool.eq_false_iff.mpr c87
      subst c87
      have H1 : (laws_FnExactEightMoves.j2 kj48 t233 t232 true) = some r := by rw [if_neg (show ¬ (false = true) by decide)] at H; exact H
      clear H
      have H := H1
      clear H1
      have H' := aM6_ H
      clear H
      obtain ⟨Ao91, co91, eo91⟩ := Kd.R_slice HO251.out
      subst eo91
      obtain ⟨Ao92, co92, eo92⟩ := Kd.R_slice HO_7.out
      subst eo92
      go_wp2_with (first | ((with_reducible refine gate_callee (f := 18) rfl ?_); refine goesL_ (some 107) rfl rfl Try.func18 (by kernel_rfl) rfl #[.slice Ao91 t249.length co91, .slice Ao92 t196.length co92] rfl q6x1_ ?_; (with_reducible refine (laws_eqMoveS.calls kj48 _ _ t249 _ _ t196 false _ ?side1 ?side2 ?side3 ?side4 A86.out).mono ?_); (case side1 => repeat (first | exact (Kd.R_reads' HO251.out).2.2 | (with_reducible refine Kd.C_alloc ?_ _) | (with_reducible refine Kd.C_drewN ?_ _) | (with_reducible refine Kd.C_drew ?_))); (case side2 => exact (Kd.R_reads' HO251.out).2.1); (case side3 => repeat (first | exact (Kd.R_reads' HO_7.out).2.2 | (with_reducible refine Kd.C_alloc ?_ _) | (with_reducible refine Kd.C_drewN ?_ _) | (with_reducible refine Kd.C_drew ?_))); (case side4 => exact (Kd.R_reads' HO_7.out).2.1); rintro e w93 ⟨rfl, hb⟩; refine ⟨_, rfl, ?_⟩; have n0_ := aM6_ (rB6_ q6x5_ hb); have n1_ := aM6_ (rB6_ q6x4_ hb); have n2_ := aM6_ (rB6_ q6x15_ hb); have n3_ := aM6_ (rB6_ q6x18_ hb); have n4_ := aM6_ (rB6_ (by (with_reducible repeat (first | apply rA6_ | apply rN6_ | apply rD6_)); exact HO251.out) hb); have n5_ := aM6_ (blk_below (g := gb181) (o := .cells #[.int .i64 a0_0, .int .i64 a0_1, .int .i64 a0_2, .int .i64 a0_3, .int .i64 a0_4, .int .i64 a0_5, .int .i64 a0_6, .int .i64 a0_7] 40 (0, 0)) q6x3_ hb); have n6_ := aM6_ (below_step q6x2_ hb); clear HO_7; clear HO_11; clear HO245; clear HO248; clear HO251; clear BK181; clear HB; have HO_7 := n0_; have HO_11 := n1_; have HO245 := n2_; have HO248 := n3_; have HO251 := n4_; have BK181 := n5_; have HB := n6_; clear n0_ n1_ n2_ n3_ n4_ n5_ n6_; (try clear hb); (try clear hb2); (try clear hk); (try clear hi)))
      go_meet
      case rel => exact ⟨_, (true), q6x17_, H', ⟨by have := HJ15.out; have := HJ48.out; first | omega | exact Nat.le_refl _⟩, ⟨by (with_reducible repeat (first | apply rA6_ | apply rN6_ | apply rD6_)); exact Kd.R_mono HO_11.out (fun _ hk => trivial)⟩, ⟨by (with_reducible repeat (first | refine blk_drewN ?_ _ | refine blk_drew ?_ | refine blk_alloc ?_ _)); exact BK181.out⟩, ⟨by repeat (first | (with_reducible first | exact HB.out | apply below_alloc | apply pw_below_drewN | apply below_drew1 | refine below_set ?_ GE181.out) | exact HB.out)⟩⟩
     case rest =>
      clear HC76
      try clear c1
      try clear c2
      try clear p2
      try clear c3
      try clear c4
      try clear c4b0
      try clear c4b1
      try clear c5
      try clear c6
      try clear c6b0
      try clear c6b1
      try clear c7
      try clear c8
      try clear c11
      try clear c13
      try clear c14
      try clear c18
      try clear c19
      try clear c20
      try clear c22
      try clear c24
      try clear c25
      try clear c33
      try clear c40
      try clear c43
      try clear c46
      try clear c56
      try clear c56b0
      try clear c58
      try clear c65
      try clear c68
      try clear c68b0
      try clear c71
      try clear c71b0
      try clear c71b1
      try clear c87
      try clear hcz18_0
      try clear hcz18_1
      try clear hcz18_2
      try clear hcz18_3
      try clear hcz18_4
      try clear hcz18_5
      try clear hcz18_6
      try clear hcz18_7
      try clear hcz27_0
      try clear hcz27_1
      try clear hcz27_2
      try clear hcz27_3
      try clear hcz27_4
      try clear hcz27_5
      try clear hcz27_6
      try clear hcz27_7
      try clear hcz79_0
      try clear hcz79_1
      try clear hcz79_2
      try clear hcz79_3
      try clear hcz79_4
      try clear hcz79_5
      try clear hcz79_6
      try clear hcz79_7
      try clear hfz18_0
      try clear hfz18_1
      try clear hfz18_2
      try clear hfz18_3
      try clear hfz18_4
      try clear hfz18_5
      try clear hfz18_6
      try clear hfz18_7
      try clear hfz27_0
      try clear hfz27_1
      try clear hfz27_2
      try clear hfz27_3
      try clear hfz27_4
      try clear hfz27_5
      try clear hfz27_6
      try clear hfz27_7
      try clear hfz79_0
      try clear hfz79_1
      try clear hfz79_2
      try clear hfz79_3
      try clear hfz79_4
      try clear hfz79_5
      try clear hfz79_6
      try clear hfz79_7
      try clear p2
      obtain ⟨kq, x113_75, rfl, HA, HJ75, HO_11, BK181, HB⟩ := hcut
      have hl11_75 := (Kd.R_reads' HO_11.out).1
      rw [hl11_75] at HO_11
      (try simp only [hl11_75])
      (try simp only [hl11_75] at BK181)
      cases kq with
      | zero => exact absurd HA.out (by simp [laws_FnExactEightMoves.j2])
      | succ kj75 =>
       have H := HA.out
       clear HA
       simp only [laws_FnExactEightMoves.j2] at H
       by_cases c94 : x113_75 = true
       ·subst c94
        have H1 : (some false) = some r := by rw [if_pos rfl] at H; exact H
        clear H
        have H := H1
        clear H1
        obtain rfl := Option.some.inj H
        go_wp2
        go_ret
        exact ⟨by first | rfl | (simp [errW_none, errW_some] <;> rfl) | (simp [*, errW_none, errW_some] <;> rfl), by repeat (first | (with_reducible first | exact HB.out | apply below_alloc | apply pw_below_drewN | apply below_drew1 | refine below_set ?_ GE181.out) | exact HB.out)⟩
       replace c94 := Bool.eq_false_iff.mpr c94
       subst c94
       have H1 : ((laws_heldMoveS.f kj75 t233 1).bind fun t254 => (if t254 < 0 then (some false) else (if t254 = t232 then (some true) else (some false)))) = some r := by rw [if_neg (show ¬ (false = true) by decide)] at H; exact H
       clear H
       have H := H1
       clear H1
       replace H := Option.bind_eq_some_iff.mp H
       obtain ⟨t254, A950, H⟩ := H
       replace H : (if t254 < 0 then (some false) else (if t254 = t232 then (some true) else (some false))) = some r := H
       have A95 := aM6_ A950
       clear A950
       by_cases c96 : t254 < 0
       ·rw [if_pos c96] at H
        have c96b0 : decide (t254 < 0) = true := decide_eq_true c96
        clear c96
        obtain rfl := Option.some.inj H
        go_wp2_with (first | ((with_reducible refine gate_callee (f := 20) rfl ?_); refine goesL_ (some 116) rfl rfl Try.func20 (by kernel_rfl) rfl #[.slice Ao77 t233.length co77, .int .i64 1] rfl q6x1_ ?_; (with_reducible refine (laws_heldMoveS.calls kj75 _ _ t233 1 t254 _ ?side1 ?side2 A95.out).mono ?_); (case side1 => repeat (first | exact (Kd.R_reads' HO_11.out).2.2 | (with_reducible refine Kd.C_alloc ?_ _) | (with_reducible refine Kd.C_drewN ?_ _) | (with_reducible refine Kd.C_drew ?_))); (case side2 => exact (Kd.R_reads' HO_11.out).2.1); rintro e w' ⟨rfl, ⟨nd, rfl⟩⟩; refine ⟨_, rfl, ?_⟩))
        go_ret
        exact ⟨by first | rfl | (simp [errW_none, errW_some] <;> rfl) | (simp [*, errW_none, errW_some] <;> rfl), by repeat (first | (with_reducible first | exact HB.out | apply below_alloc | apply pw_below_drewN | apply below_drew1 | refine below_set ?_ GE181.out) | exact HB.out)⟩
       rw [if_neg c96] at H
       have c96b0 : decide (t254 < 0) = false := decide_eq_false c96
       clear c96
       by_cases c97 : t254 = t232
       ·rw [if_pos c97] at H
        have c97b0 : (t254 == t232) = true := beq_iff_eq.mpr c97
        have c97b1 : (t254 != t232) = false := bne_eq_false_iff_eq.mpr c97
        clear c97
        obtain rfl := Option.some.inj H
        go_wp2_with (first | ((with_reducible refine gate_callee (f := 20) rfl ?_); refine goesL_ (some 116) rfl rfl Try.func20 (by kernel_rfl) rfl #[.slice Ao77 t233.length co77, .int .i64 1] rfl q6x1_ ?_; (with_reducible refine (laws_heldMoveS.calls kj75 _ _ t233 1 t254 _ ?side1 ?side2 A95.out).mono ?_); (case side1 => repeat (first | exact (Kd.R_reads' HO_11.out).2.2 | (with_reducible refine Kd.C_alloc ?_ _) | (with_reducible refine Kd.C_drewN ?_ _) | (with_reducible refine Kd.C_drew ?_))); (case side2 => exact (Kd.R_reads' HO_11.out).2.1); rintro e w' ⟨rfl, ⟨nd, rfl⟩⟩; refine ⟨_, rfl, ?_⟩))
        go_ret
        exact ⟨by first | rfl | (simp [errW_none, errW_some] <;> rfl) | (simp [*, errW_none, errW_some] <;> rfl), by repeat (first | (with_reducible first | exact HB.out | apply below_alloc | apply pw_below_drewN | apply below_drew1 | refine below_set ?_ GE181.out) | exact HB.out)⟩
       rw [if_neg c97] at H
       have c97b0 : (t254 == t232) = false := beq_eq_false_iff_ne.mpr c97
       have c97b1 : (t254 != t232) = true := bne_iff_ne.mpr c97
       obtain rfl := Option.some.inj H
       go_wp2_with (first | ((with_reducible refine gate_callee (f := 20) rfl ?_); refine goesL_ (some 116) rfl rfl Try.func20 (by kernel_rfl) rfl #[.slice Ao77 t233.length co77, .int .i64 1] rfl q6x1_ ?_; (with_reducible refine (laws_heldMoveS.calls kj75 _ _ t233 1 t254 _ ?side1 ?side2 A95.out).mono ?_); (case side1 => repeat (first | exact (Kd.R_reads' HO_11.out).2.2 | (with_reducible refine Kd.C_alloc ?_ _) | (with_reducible refine Kd.C_drewN ?_ _) | (with_reducible refine Kd.C_drew ?_))); (case side2 => exact (Kd.R_reads' HO_11.out).2.1); rintro e w' ⟨rfl, ⟨nd, rfl⟩⟩; refine ⟨_, rfl, ?_⟩))
       go_ret
       exact ⟨by first | rfl | (simp [errW_none, errW_some] <;> rfl) | (simp [*, errW_none, errW_some] <;> rfl), by repeat (first | (with_reducible first | exact HB.out | apply below_alloc | apply pw_below_drewN | apply below_drew1 | refine below_set ?_ GE181.out) | exact HB.out)⟩
/-! ### the law's arguments -/
def WF38 (x : S38) : Prop := ((-9223372036854775808) ≤ x.f0 ∧ x.f0 ≤ 9223372036854775807) ∧ ((-9223372036854775808) ≤ x.f1 ∧ x.f1 ≤ 9223372036854775807) ∧ ((-9223372036854775808) ≤ x.f2 ∧ x.f2 ≤ 9223372036854775807) ∧ ((-9223372036854775808) ≤ x.f3 ∧ x.f3 ≤ 9223372036854775807)
set_option maxRecDepth 100000 in
theorem op38 {H : Type} {enc : TypeId × Value → H} {w : World} : Opens enc Try.prog w 38 k38 WF38 := by
 intro fuel cs x h hz
 obtain ⟨xs, m, rfl, rfl, hl, hn, hf⟩ := DataW.trod_array Try.underlying38 h
 have hl0 : cs.length = 4 := hl.trans (by kernel_rfl)
 have hn0 : xs.length = 4 := hn
 obtain ⟨x0, xs0, rfl, hn1⟩ := consX_of hn0
 obtain ⟨x1, xs1, rfl, hn2⟩ := consX_of hn1
 obtain ⟨x2, xs2, rfl, hn3⟩ := consX_of hn2
 obtain ⟨x3, xs3, rfl, hn4⟩ := consX_of hn3
 obtain rfl := List.eq_nil_of_length_eq_zero hn4
 obtain ⟨c0, cs0, rfl, hl1⟩ := cons_of hl0
 obtain ⟨c1, cs1, rfl, hl2⟩ := cons_of hl1
 obtain ⟨c2, cs2, rfl, hl3⟩ := cons_of hl2
 obtain ⟨c3, cs3, rfl, hl4⟩ := cons_of hl3
 obtain rfl := List.eq_nil_of_length_eq_zero hl4
 have h0 : DataW.trod enc Try.prog w 0 (fun _ => true) true m 2 [c0] = some x0 := by
  have h_ := hf 0 (by omega)
  rw [show Try.prog.cellsOf 2 = 1 from by kernel_rfl] at h_
  exact h_
 obtain ⟨a0, hk0, hw0⟩ := (opens_int Try.underlying2 wfB_i64) _ _ _ h0 (weight_array Try.underlying38 hz (j := 0) rfl)
 have h1 : DataW.trod enc Try.prog w 0 (fun _ => true) true m 2 [c1] = some x1 := by
  have h_ := hf 1 (by omega)
  rw [show Try.prog.cellsOf 2 = 1 from by kernel_rfl] at h_
  exact h_
 obtain ⟨a1, hk1, hw1⟩ := (opens_int Try.underlying2 wfB_i64) _ _ _ h1 (weight_array Try.underlying38 hz (j := 1) rfl)
 have h2 : DataW.trod enc Try.prog w 0 (fun _ => true) true m 2 [c2] = some x2 := by
  have h_ := hf 2 (by omega)
  rw [show Try.prog.cellsOf 2 = 1 from by kernel_rfl] at h_
  exact h_
 obtain ⟨a2, hk2, hw2⟩ := (opens_int Try.underlying2 wfB_i64) _ _ _ h2 (weight_array Try.underlying38 hz (j := 2) rfl)
 have h3 : DataW.trod enc Try.prog w 0 (fun _ => true) true m 2 [c3] = some x3 := by
  have h_ := hf 3 (by omega)
  rw [show Try.prog.cellsOf 2 = 1 from by kernel_rfl] at h_
  exact h_
 obtain ⟨a3, hk3, hw3⟩ := (opens_int Try.underlying2 wfB_i64) _ _ _ h3 (weight_array Try.underlying38 hz (j := 3) rfl)
 exact ⟨⟨a0, a1, a2, a3⟩, ⟨[c0], [c1, c2, c3], rfl, hk0, ⟨[c1], [c2, c3], rfl, hk1, ⟨[c2], [c3], rfl, hk2, hk3⟩⟩⟩, ⟨hw0, hw1, hw2, hw3⟩⟩
def WF40 (x : S40) : Prop := (WF38 x.f0) ∧ (WF38 x.f1)
set_option maxRecDepth 100000 in
theorem op40 {H : Type} {enc : TypeId × Value → H} {w : World} : Opens enc Try.prog w 40 k40 WF40 := by
 intro fuel cs x h hz
 obtain ⟨xs, m, rfl, rfl, hl, hn, hf⟩ := DataW.trod_struct Try.underlying40 h
 have hl0 : cs.length = 8 := hl.trans (by kernel_rfl)
 have hn0 : xs.length = 2 := hn
 obtain ⟨x0, xs0, rfl, hn1⟩ := consX_of hn0
 obtain ⟨x1, xs1, rfl, hn2⟩ := consX_of hn1
 obtain rfl := List.eq_nil_of_length_eq_zero hn2
 obtain ⟨c0, cs0, rfl, hl1⟩ := cons_of hl0
 obtain ⟨c1, cs1, rfl, hl2⟩ := cons_of hl1
 obtain ⟨c2, cs2, rfl, hl3⟩ := cons_of hl2
 obtain ⟨c3, cs3, rfl, hl4⟩ := cons_of hl3
 obtain ⟨c4, cs4, rfl, hl5⟩ := cons_of hl4
 obtain ⟨c5, cs5, rfl, hl6⟩ := cons_of hl5
 obtain ⟨c6, cs6, rfl, hl7⟩ := cons_of hl6
 obtain ⟨c7, cs7, rfl, hl8⟩ := cons_of hl7
 obtain rfl := List.eq_nil_of_length_eq_zero hl8
 have h0 : DataW.trod enc Try.prog w 0 (fun _ => true) true m 38 [c0, c1, c2, c3] = some x0 := by
  have h_ : DataW.trod enc Try.prog w 0 (fun _ => true) true m 38 (([c0, c1, c2, c3, c4, c5, c6, c7].drop 0).take (Try.prog.cellsOf 38)) = [x0, x1][0]? := by
   have h2_ := hf 0 _ rfl
   exact h2_
  rw [show Try.prog.cellsOf 38 = 4 from by kernel_rfl] at h_
  exact h_
 obtain ⟨a0, hk0, hw0⟩ := op38 _ _ _ h0 (weight_struct Try.underlying40 hz (j := 0) rfl rfl)
 have h1 : DataW.trod enc Try.prog w 0 (fun _ => true) true m 38 [c4, c5, c6, c7] = some x1 := by
  have h_ : DataW.trod enc Try.prog w 0 (fun _ => true) true m 38 (([c0, c1, c2, c3, c4, c5, c6, c7].drop 4).take (Try.prog.cellsOf 38)) = [x0, x1][1]? := by
   have h2_ := hf 1 _ rfl
   exact h2_
  rw [show Try.prog.cellsOf 38 = 4 from by kernel_rfl] at h_
  exact h_
 obtain ⟨a1, hk1, hw1⟩ := op38 _ _ _ h1 (weight_struct Try.underlying40 hz (j := 1) rfl rfl)
 exact ⟨⟨a0, a1⟩, ⟨[c0, c1, c2, c3], [c4, c5, c6, c7], rfl, hk0, hk1⟩, ⟨hw0, hw1⟩⟩
/-- THE ONE PURE STATEMENT of laws_FnExactEightMoves. -/
def laws_FnExactEightMoves.Pure : Prop := ∀ (x0 : S40) (x1 : List Int) (x2 : List Int), (WF40 x0) → (x1.length * 8 ≤ 140737488351232 ∧ ∀ z_ ∈ x1, (-9223372036854775808) ≤ z_ ∧ z_ ≤ 9223372036854775807) → (x2.length * 8 ≤ 140737488351232 ∧ ∀ z_ ∈ x2, (-9223372036854775808) ≤ z_ ∧ z_ ≤ 9223372036854775807) → ∃ k, laws_FnExactEightMoves.f k x0.f0.f0 x0.f0.f1 x0.f0.f2 x0.f0.f3 x0.f1.f0 x0.f1.f1 x0.f1.f2 x0.f1.f3 x1 x2 = some true
theorem laws_FnExactEightMoves.walk (P_ : laws_FnExactEightMoves.Pure) (w : World) (x0 : S40) (hw0 : WF40 x0) (A1 : Option Addr) (c1 : Nat) (x1 : List Int) (hr1 : Kd.C (Kd.int .i64) w A1 x1.length x1) (hc1 : x1.length ≤ c1) (hw1 : x1.length * 8 ≤ 140737488351232 ∧ ∀ z_ ∈ x1, (-9223372036854775808) ≤ z_ ∧ z_ ≤ 9223372036854775807) (A2 : Option Addr) (c2 : Nat) (x2 : List Int) (hr2 : Kd.C (Kd.int .i64) w A2 x2.length x2) (hc2 : x2.length ≤ c2) (hw2 : x2.length * 8 ≤ 140737488351232 ∧ ∀ z_ ∈ x2, (-9223372036854775808) ≤ z_ ∧ z_ ≤ 9223372036854775807) :
  Calls Try.prog 6 #[.agg #[.int .i64 x0.f0.f0, .int .i64 x0.f0.f1, .int .i64 x0.f0.f2, .int .i64 x0.f0.f3, .int .i64 x0.f1.f0, .int .i64 x0.f1.f1, .int .i64 x0.f1.f2, .int .i64 x0.f1.f3], .slice A1 x1.length c1, .slice A2 x2.length c2] w fun e w' => e = .returned (.bool true) ∧ Below w.heap.size w w' := by
 obtain ⟨k, h⟩ := P_ x0 x1 x2 hw0 hw1 hw2
 refine (laws_FnExactEightMoves.calls k x0.f0.f0 x0.f0.f1 x0.f0.f2 x0.f0.f3 x0.f1.f0 x0.f1.f1 x0.f1.f2 x0.f1.f3 _ _ x1 _ _ x2 true w  hr1 hc1 hr2 hc2 h).mono ?_
 rintro e w' ⟨rfl, hd⟩
 exact ⟨rfl, hd⟩

end Go.Proofs.Ytgldplkbacfacaa.MFnExactEightMoves
