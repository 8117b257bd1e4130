/- Functions of the program as Lean functions, and the proof that the code comes to what they say. Written by a program of this session (myprint.py). -/
import Derived.Test.YtgldplkbacfacaaMFnExactEightTermsx0
import Derived.Test.YtgldplkbacfacaaMFnExactEightTermsx1
import Derived.Test.YtgldplkbacfacaaMFnExactEightTermsx6
import Derived.Test.YtgldplkbacfacaaMFnExactEightTermsx12
namespace Go.Proofs.Ytgldplkbacfacaa.MFnExactEightTerms
open Go.RowKit Go.Proofs.Ytgldplkbacfacaa.MOpen Go.Proofs.YtgldplkbacfacaaW.PrintWords Go.Proofs.YtgldplkbacfacaaW.PrintLast Go.Proofs.YtgldplkbacfacaaW.PrintMore
attribute [local go_sem] max2_int min2_int max_two min_two max_three min_three max_four min_four   -- for this text's walks alone
set_option linter.unusedVariables false
set_option linter.unusedSimpArgs false

set_option linter.defProp false
def aM5_ := @Aside0.mk
theorem q5x1_ {P : Prop} (h : P := by (try simp only [List.map_toArray, List.map_cons, List.map_nil]); first | done | rfl | (simp only [List.length_drop, List.length_take]; rfl) | (simp only [List.drop_one]; done) | (simp only [List.drop_one]; rfl)) : P := h
theorem q5x2_ {P : Prop} (h : P := by repeat (first | (with_reducible first | exact HB.out | apply below_alloc | apply pw_below_drewN | apply below_drew1 | refine below_set ?_ GE173.out) | exact HB.out)) : P := h
theorem q5x3_ {P : Prop} (h : P := by (with_reducible repeat (first | refine blk_drewN ?_ _ | refine blk_drew ?_ | refine blk_alloc ?_ _)); exact BK173.out) : P := h
theorem q5x4_ {P : Prop} (h : P := by (with_reducible repeat (first | apply Kd.R_alloc | apply Kd.R_drewN | apply Kd.R_drew)); exact HO_11.out) : P := h
theorem q5x5_ {P : Prop} (h : P := by (with_reducible repeat (first | apply Kd.R_alloc | apply Kd.R_drewN | apply Kd.R_drew)); exact HO_7.out) : P := h
theorem q5x6_ {P : Prop} (h : P := by repeat (first | (with_reducible first | exact HB.out | apply below_alloc | apply pw_below_drewN | apply below_drew1) | exact HB.out)) : P := h
theorem q5x7_ {P : Prop} (h : P := by (with_reducible repeat (first | apply Kd.R_alloc | apply Kd.R_drewN | apply Kd.R_drew)); exact HO184.out) : P := h
theorem q5x8_ {P : Prop} (h : P := by (with_reducible repeat (first | apply Kd.R_alloc | apply Kd.R_drewN | apply Kd.R_drew)); exact HO_10.out) : P := h
theorem q5x9_ {P : Prop} (h : P := by (with_reducible repeat (first | apply Kd.R_alloc | apply Kd.R_drewN | apply Kd.R_drew)); exact HO_9.out) : P := h
theorem q5x10_ {P : Prop} (h : P := by (with_reducible repeat (first | apply Kd.R_alloc | apply Kd.R_drewN | apply Kd.R_drew)); exact HO187.out) : P := h
theorem q5x11_ {P : Prop} (h : P := by (with_reducible repeat (first | apply Kd.R_alloc | apply Kd.R_drewN | apply Kd.R_drew)); exact HO190.out) : P := h
theorem q5x12_ {P : Prop} (h : P := by (try simp only [List.map_toArray, List.map_cons, List.map_nil]); first | done | (rw [show t225.length = t206.length from (Kd.R_reads' HO_11.out).1.symm] <;> rfl) | rfl | (simp only [List.length_drop, List.length_take]; rfl) | (simp only [List.drop_one]; done) | (simp only [List.drop_one]; rfl)) : P := h
theorem q5x13_ {P : Prop} (h : P := by (with_reducible repeat (first | apply Kd.R_alloc | apply Kd.R_drewN | apply Kd.R_drew)); exact HO194.out) : P := h
theorem q5x14_ {P : Prop} (h : P := by (with_reducible repeat (first | apply Kd.R_alloc | apply Kd.R_drewN | apply Kd.R_drew)); exact HO213.out) : P := h
theorem q5x15_ {P : Prop} (h : P := by (with_reducible repeat (first | apply Kd.R_alloc | apply Kd.R_drewN | apply Kd.R_drew)); exact HO237.out) : P := h
theorem q5x16_ {P : Prop} (h : P := by first | rfl | (simp; done) | (simp [*]; done)) : P := h
theorem q5x17_ {P : Prop} (h : P := by (with_reducible repeat (first | apply Kd.R_alloc | apply Kd.R_drewN | apply Kd.R_drew)); exact HO197.out) : P := h
theorem q5x18_ {P : Prop} (h : P := by rw [hg]; exact (below_size q5x6_)) : P := h
/-! ### laws_FnExactEightTerms: function 5 -/
mutual
def laws_FnExactEightTerms.j0 : Nat → List Int → List Int → List Int → Int → List Int → List Int → List Int → Int → Bool → Int → Int → Int → Int → Int → Int → Int → Int → Option (Bool)
 | 0, _, _, _, _, _, _, _, _, _, _, _, _, _, _, _, _, _ => none
 | k + 1, x1, x2, x7, x8, x9, x10, x11, x12, x54, x174000, x174001, x174002, x174003, x174004, x174005, x174006, x174007 => if x54 = true then (some false) else ((laws_toInt64S.f k x1).bind fun t211 => ((laws_eqInt64S.f k x9 t211).bind fun t214 => (if t214 = true then ((laws_toInt64S.f k x2).bind fun t215 => ((laws_eqInt64S.f k x10 t215).bind fun t218 => (if t218 = true then ((laws_markInt64S.f k x9 1).bind fun bt219 => ((laws_markInt64S.f k x10 bt219.1).bind fun bt221 => (if bt221.1 < 0 then (laws_FnExactEightTerms.j1 k x1 x2 x7 x8 x11 true x174000 x174001 x174002 x174003 x174004 x174005 x174006 x174007) else ((laws_eqInt64S.f k x11 x7).bind fun t223 => (if t223 = true then (laws_FnExactEightTerms.j1 k x1 x2 x7 x8 x11 (x12 != x8) x174000 x174001 x174002 x174003 x174004 x174005 x174006 x174007) else (laws_FnExactEightTerms.j1 k x1 x2 x7 x8 x11 true x174000 x174001 x174002 x174003 x174004 x174005 x174006 x174007)))))) else (some false)))) else (some false))))
def laws_FnExactEightTerms.j1 : Nat → List Int → List Int → List Int → Int → List Int → Bool → Int → Int → Int → Int → Int → Int → Int → Int → Option (Bool)
 | 0, _, _, _, _, _, _, _, _, _, _, _, _, _, _ => none
 | k + 1, x1, x2, x7, x8, x11, x83, x174000, x174001, x174002, x174003, x174004, x174005, x174006, x174007 => if x83 = true then (some false) else ((laws_markInt64S.f k x11 1).bind fun bt224 => ((laws_heldInt64S.f k bt224.2 1).bind fun t226 => (if t226 < 0 then (some false) else (if t226 = bt224.1 then ((laws_toEight.f k x174000 x174001 x174002 x174003 x174004 x174005 x174006 x174007).bind fun bt227 => ((laws_toInt64S.f k x1).bind fun t235 => ((laws_toInt64S.f k x2).bind fun t238 => ((impl_EightTerms.f k bt227.1 bt227.2.1 bt227.2.2.1 bt227.2.2.2.1 bt227.2.2.2.2.1 bt227.2.2.2.2.2.1 bt227.2.2.2.2.2.2.1 bt227.2.2.2.2.2.2.2 t235 t238).bind fun bt241 => ((laws_eqInt64S.f k bt241.1 x7).bind fun t245 => (if t245 = true then (laws_FnExactEightTerms.j2 k bt224.2 bt224.1 (bt241.2 != x8)) else (laws_FnExactEightTerms.j2 k bt224.2 bt224.1 true))))))) else (some false)))))
def laws_FnExactEightTerms.j2 : Nat → List Int → Int → Bool → Option (Bool)
 | 0, _, _, _ => none
 | k + 1, x11, x14, x113 => if x113 = true then (some false) else ((laws_heldInt64S.f k x11 1).bind fun t246 => (if t246 < 0 then (some false) else (if t246 = x14 then (some true) else (some false))))
end
def laws_FnExactEightTerms.f (k : Nat) (a0_0 : Int) (a0_1 : Int) (a0_2 : Int) (a0_3 : Int) (a0_4 : Int) (a0_5 : Int) (a0_6 : Int) (a0_7 : Int) (l1 : List Int) (l2 : List Int) : Option (Bool) := if (l1.length : Int) > 1048576 then (some true) else (if (l2.length : Int) > 1048576 then (some true) else ((laws_toEight.f k a0_0 a0_1 a0_2 a0_3 a0_4 a0_5 a0_6 a0_7).bind fun bt174 => ((laws_toInt64S.f k l1).bind fun t182 => ((laws_toInt64S.f k l2).bind fun t185 => ((spec_EightTerms.f k bt174.1 bt174.2.1 bt174.2.2.1 bt174.2.2.2.1 bt174.2.2.2.2.1 bt174.2.2.2.2.2.1 bt174.2.2.2.2.2.2.1 bt174.2.2.2.2.2.2.2 t182 t185).bind fun bt188 => ((laws_toInt64S.f k l1).bind fun t192 => ((laws_toInt64S.f k l2).bind fun t195 => ((laws_toEight.f k a0_0 a0_1 a0_2 a0_3 a0_4 a0_5 a0_6 a0_7).bind fun bt198 => ((impl_EightTerms.f k bt198.1 bt198.2.1 bt198.2.2.1 bt198.2.2.2.1 bt198.2.2.2.2.1 bt198.2.2.2.2.2.1 bt198.2.2.2.2.2.2.1 bt198.2.2.2.2.2.2.2 t192 t195).bind fun bt206 => ((laws_eqInt64S.f k bt206.1 bt188.1).bind fun t210 => (if t210 = true then (laws_FnExactEightTerms.j0 k l1 l2 bt188.1 bt188.2 t192 t195 bt206.1 bt206.2 (bt206.2 != bt188.2) a0_0 a0_1 a0_2 a0_3 a0_4 a0_5 a0_6 a0_7) else (laws_FnExactEightTerms.j0 k l1 l2 bt188.1 bt188.2 t192 t195 bt206.1 bt206.2 true a0_0 a0_1 a0_2 a0_3 a0_4 a0_5 a0_6 a0_7))))))))))))
theorem laws_FnExactEightTerms.mono_l : ∀ k, (∀ y0 y1 y2 y3 y4 y5 y6 y7 y8 y9 y10 y11 y12 y13 y14 y15 y16, LeO (laws_FnExactEightTerms.j0 k y0 y1 y2 y3 y4 y5 y6 y7 y8 y9 y10 y11 y12 y13 y14 y15 y16) (laws_FnExactEightTerms.j0 (k + 1) y0 y1 y2 y3 y4 y5 y6 y7 y8 y9 y10 y11 y12 y13 y14 y15 y16)) ∧ (∀ y0 y1 y2 y3 y4 y5 y6 y7 y8 y9 y10 y11 y12 y13, LeO (laws_FnExactEightTerms.j1 k y0 y1 y2 y3 y4 y5 y6 y7 y8 y9 y10 y11 y12 y13) (laws_FnExactEightTerms.j1 (k + 1) y0 y1 y2 y3 y4 y5 y6 y7 y8 y9 y10 y11 y12 y13)) ∧ (∀ y0 y1 y2, LeO (laws_FnExactEightTerms.j2 k y0 y1 y2) (laws_FnExactEightTerms.j2 (k + 1) y0 y1 y2))
 | 0 => ⟨fun _ _ _ _ _ _ _ _ _ _ _ _ _ _ _ _ _ r h => by simp [laws_FnExactEightTerms.j0] at h, fun _ _ _ _ _ _ _ _ _ _ _ _ _ _ r h => by simp [laws_FnExactEightTerms.j1] at h, fun _ _ _ r h => by simp [laws_FnExactEightTerms.j2] at h⟩
 | k + 1 => by
  obtain ⟨ih0, ih1, ih2⟩ := laws_FnExactEightTerms.mono_l k
  refine ⟨?_, ?_, ?_⟩
  ·intro y0 y1 y2 y3 y4 y5 y6 y7 y8 y9 y10 y11 y12 y13 y14 y15 y16
   unfold laws_FnExactEightTerms.j0
   repeat' first
   | (with_reducible exact ih0 _ _ _ _ _ _ _ _ _ _ _ _ _ _ _ _ _)
   | (with_reducible exact ih1 _ _ _ _ _ _ _ _ _ _ _ _ _ _)
   | (with_reducible exact ih2 _ _ _)
   | (with_reducible exact impl_EightTerms.mono _ _ _ _ _ _ _ _ _ _ _)
   | (with_reducible exact laws_eqInt64S.mono _ _ _)
   | (with_reducible exact laws_heldInt64S.mono _ _ _)
   | (with_reducible exact laws_markInt64S.mono _ _ _)
   | (with_reducible exact laws_toEight.mono _ _ _ _ _ _ _ _ _)
   | (with_reducible exact laws_toInt64S.mono _ _)
   | (with_reducible exact spec_EightTerms.mono _ _ _ _ _ _ _ _ _ _ _)
   | (with_reducible exact LeO.refl _)
   | (with_reducible exact LeO.none _)
   | (with_reducible refine LeO.ite ?_ ?_)
   | (with_reducible refine LeO.bind ?_ (fun _ => ?_))
   | exact ih0 _ _ _ _ _ _ _ _ _ _ _ _ _ _ _ _ _
   | exact ih1 _ _ _ _ _ _ _ _ _ _ _ _ _ _
   | exact ih2 _ _ _
   | exact impl_EightTerms.mono _ _ _ _ _ _ _ _ _ _ _
   | exact laws_eqInt64S.mono _ _ _
   | exact laws_heldInt64S.mono _ _ _
   | exact laws_markInt64S.mono _ _ _
   | exact laws_toEight.mono _ _ _ _ _ _ _ _ _
   | exact laws_toInt64S.mono _ _
   | exact spec_EightTerms.mono _ _ _ _ _ _ _ _ _ _ _
   | exact LeO.none _
   | refine LeO.ite ?_ ?_
   | refine LeO.bind ?_ (fun _ => ?_)
  ·intro y0 y1 y2 y3 y4 y5 y6 y7 y8 y9 y10 y11 y12 y13
   unfold laws_FnExactEightTerms.j1
   repeat' first
   | (with_reducible exact ih0 _ _ _ _ _ _ _ _ _ _ _ _ _ _ _ _ _)
   | (with_reducible exact ih1 _ _ _ _ _ _ _ _ _ _ _ _ _ _)
   | (with_reducible exact ih2 _ _ _)
   | (with_reducible exact impl_EightTerms.mono _ _ _ _ _ _ _ _ _ _ _)
   | (with_reducible exact laws_eqInt64S.mono _ _ _)
   | (with_reducible exact laws_heldInt64S.mono _ _ _)
   | (with_reducible exact laws_markInt64S.mono _ _ _)
   | (with_reducible exact laws_toEight.mono _ _ _ _ _ _ _ _ _)
   | (with_reducible exact laws_toInt64S.mono _ _)
   | (with_reducible exact spec_EightTerms.mono _ _ _ _ _ _ _ _ _ _ _)
   | (with_reducible exact LeO.refl _)
   | (with_reducible exact LeO.none _)
   | (with_reducible refine LeO.ite ?_ ?_)
   | (with_reducible refine LeO.bind ?_ (fun _ => ?_))
   | exact ih0 _ _ _ _ _ _ _ _ _ _ _ _ _ _ _ _ _
   | exact ih1 _ _ _ _ _ _ _ _ _ _ _ _ _ _
   | exact ih2 _ _ _
   | exact impl_EightTerms.mono _ _ _ _ _ _ _ _ _ _ _
   | exact laws_eqInt64S.mono _ _ _
   | exact laws_heldInt64S.mono _ _ _
   | exact laws_markInt64S.mono _ _ _
   | exact laws_toEight.mono _ _ _ _ _ _ _ _ _
   | exact laws_toInt64S.mono _ _
   | exact spec_EightTerms.mono _ _ _ _ _ _ _ _ _ _ _
   | exact LeO.none _
   | refine LeO.ite ?_ ?_
   | refine LeO.bind ?_ (fun _ => ?_)
  intro y0 y1 y2
  unfold laws_FnExactEightTerms.j2
  repeat' first
  | (with_reducible exact ih0 _ _ _ _ _ _ _ _ _ _ _ _ _ _ _ _ _)
  | (with_reducible exact ih1 _ _ _ _ _ _ _ _ _ _ _ _ _ _)
  | (with_reducible exact ih2 _ _ _)
  | (with_reducible exact impl_EightTerms.mono _ _ _ _ _ _ _ _ _ _ _)
  | (with_reducible exact laws_eqInt64S.mono _ _ _)
  | (with_reducible exact laws_heldInt64S.mono _ _ _)
  | (with_reducible exact laws_markInt64S.mono _ _ _)
  | (with_reducible exact laws_toEight.mono _ _ _ _ _ _ _ _ _)
  | (with_reducible exact laws_toInt64S.mono _ _)
  | (with_reducible exact spec_EightTerms.mono _ _ _ _ _ _ _ _ _ _ _)
  | (with_reducible exact LeO.refl _)
  | (with_reducible exact LeO.none _)
  | (with_reducible refine LeO.ite ?_ ?_)
  | (with_reducible refine LeO.bind ?_ (fun _ => ?_))
  | exact ih0 _ _ _ _ _ _ _ _ _ _ _ _ _ _ _ _ _
  | exact ih1 _ _ _ _ _ _ _ _ _ _ _ _ _ _
  | exact ih2 _ _ _
  | exact impl_EightTerms.mono _ _ _ _ _ _ _ _ _ _ _
  | exact laws_eqInt64S.mono _ _ _
  | exact laws_heldInt64S.mono _ _ _
  | exact laws_markInt64S.mono _ _ _
  | exact laws_toEight.mono _ _ _ _ _ _ _ _ _
  | exact laws_toInt64S.mono _ _
  | exact spec_EightTerms.mono _ _ _ _ _ _ _ _ _ _ _
  | exact LeO.none _
  | refine LeO.ite ?_ ?_
  | refine LeO.bind ?_ (fun _ => ?_)
theorem laws_FnExactEightTerms.mono : ∀ a0 a1 a2 a3 a4 a5 a6 a7 a8 a9 k, LeO (laws_FnExactEightTerms.f k a0 a1 a2 a3 a4 a5 a6 a7 a8 a9) (laws_FnExactEightTerms.f (k + 1) a0 a1 a2 a3 a4 a5 a6 a7 a8 a9) := by
 intro a0 a1 a2 a3 a4 a5 a6 a7 a8 a9 k
 obtain ⟨ih0, ih1, ih2⟩ := laws_FnExactEightTerms.mono_l k
 unfold laws_FnExactEightTerms.f
 repeat' first
   | (with_reducible exact ih0 _ _ _ _ _ _ _ _ _ _ _ _ _ _ _ _ _)
   | (with_reducible exact ih1 _ _ _ _ _ _ _ _ _ _ _ _ _ _)
   | (with_reducible exact ih2 _ _ _)
   | (with_reducible exact impl_EightTerms.mono _ _ _ _ _ _ _ _ _ _ _)
   | (with_reducible exact laws_eqInt64S.mono _ _ _)
   | (with_reducible exact laws_heldInt64S.mono _ _ _)
   | (with_reducible exact laws_markInt64S.mono _ _ _)
   | (with_reducible exact laws_toEight.mono _ _ _ _ _ _ _ _ _)
   | (with_reducible exact laws_toInt64S.mono _ _)
   | (with_reducible exact spec_EightTerms.mono _ _ _ _ _ _ _ _ _ _ _)
   | (with_reducible exact LeO.refl _)
   | (with_reducible exact LeO.none _)
   | (with_reducible refine LeO.ite ?_ ?_)
   | (with_reducible refine LeO.bind ?_ (fun _ => ?_))
   | exact ih0 _ _ _ _ _ _ _ _ _ _ _ _ _ _ _ _ _
   | exact ih1 _ _ _ _ _ _ _ _ _ _ _ _ _ _
   | exact ih2 _ _ _
   | exact impl_EightTerms.mono _ _ _ _ _ _ _ _ _ _ _
   | exact laws_eqInt64S.mono _ _ _
   | exact laws_heldInt64S.mono _ _ _
   | exact laws_markInt64S.mono _ _ _
   | exact laws_toEight.mono _ _ _ _ _ _ _ _ _
   | exact laws_toInt64S.mono _ _
   | exact spec_EightTerms.mono _ _ _ _ _ _ _ _ _ _ _
   | exact LeO.none _
   | refine LeO.ite ?_ ?_
   | refine LeO.bind ?_ (fun _ => ?_)
set_option maxHeartbeats 8000000 in
set_option maxRecDepth 100000 in
theorem laws_FnExactEightTerms.calls (k : Nat) (a0_0 : Int) (a0_1 : Int) (a0_2 : Int) (a0_3 : Int) (a0_4 : Int) (a0_5 : Int) (a0_6 : Int) (a0_7 : Int) (A1 : Option Addr) (c1 : Nat) (l1 : List Int) (A2 : Option Addr) (c2 : Nat) (l2 : List Int) (r : Bool) (w : World) (hr1 : Kd.C (Kd.int .i64) w A1 l1.length l1) (hc1 : l1.length ≤ c1) (hr2 : Kd.C (Kd.int .i64) w A2 l2.length l2) (hc2 : l2.length ≤ c2) (h : laws_FnExactEightTerms.f k a0_0 a0_1 a0_2 a0_3 a0_4 a0_5 a0_6 a0_7 l1 l2 = some r) :
  Calls Try.prog 5 #[.agg #[.int .i64 a0_0, .int .i64 a0_1, .int .i64 a0_2, .int .i64 a0_3, .int .i64 a0_4, .int .i64 a0_5, .int .i64 a0_6, .int .i64 a0_7], .slice A1 l1.length c1, .slice A2 l2.length c2] w fun e w' => e = .returned (.bool r) ∧ Below w.heap.size w w' := by
 have hu40 := Try.underlying40
 have HR1 := aM5_ hr1
 have HC1 := aM5_ hc1
 clear hr1 hc1
 have HR2 := aM5_ hr2
 have HC2 := aM5_ hc2
 clear hr2 hc2
 have HB := aM5_ (Below.refl w.heap.size w)
 have H : (if (l1.length : Int) > 1048576 then (some true) else (if (l2.length : Int) > 1048576 then (some true) else ((laws_toEight.f k a0_0 a0_1 a0_2 a0_3 a0_4 a0_5 a0_6 a0_7).bind fun bt174 => ((laws_toInt64S.f k l1).bind fun t182 => ((laws_toInt64S.f k l2).bind fun t185 => ((spec_EightTerms.f k bt174.1 bt174.2.1 bt174.2.2.1 bt174.2.2.2.1 bt174.2.2.2.2.1 bt174.2.2.2.2.2.1 bt174.2.2.2.2.2.2.1 bt174.2.2.2.2.2.2.2 t182 t185).bind fun bt188 => ((laws_toInt64S.f k l1).bind fun t192 => ((laws_toInt64S.f k l2).bind fun t195 => ((laws_toEight.f k a0_0 a0_1 a0_2 a0_3 a0_4 a0_5 a0_6 a0_7).bind fun bt198 => ((impl_EightTerms.f k bt198.1 bt198.2.1 bt198.2.2.1 bt198.2.2.2.1 bt198.2.2.2.2.1 bt198.2.2.2.2.2.1 bt198.2.2.2.2.2.2.1 bt198.2.2.2.2.2.2.2 t192 t195).bind fun bt206 => ((laws_eqInt64S.f k bt206.1 bt188.1).bind fun t210 => (if t210 = true then (laws_FnExactEightTerms.j0 k l1 l2 bt188.1 bt188.2 t192 t195 bt206.1 bt206.2 (bt206.2 != bt188.2) a0_0 a0_1 a0_2 a0_3 a0_4 a0_5 a0_6 a0_7) else (laws_FnExactEightTerms.j0 k l1 l2 bt188.1 bt188.2 t192 t195 bt206.1 bt206.2 true a0_0 a0_1 a0_2 a0_3 a0_4 a0_5 a0_6 a0_7))))))))))))) = some r := h
 clear h
 by_cases c4 : (l1.length : Int) > 1048576
 ·rw [if_pos c4] at H
  have c4b0 : decide (1048576 < (l1.length : Int)) = true := decide_eq_true c4
  have c4b1 : decide (1048576 < l1.length) = true := decide_eq_true (by omega)
  clear c4
  obtain rfl := Option.some.inj H
  go_enter Try.func5, Try.ntmps5
  go_wp2_with (first | ((with_reducible refine gate_dst (N := 3) rfl ?_); refine box_event ?hg (N := 3) ?hd (cs := #[.int .i64 a0_0, .int .i64 a0_1, .int .i64 a0_2, .int .i64 a0_3, .int .i64 a0_4, .int .i64 a0_5, .int .i64 a0_6, .int .i64 a0_7]) (t := 40) ?hr ?_; (case hd => rfl); (case hg => rfl); (case hr => first | (go_simp; done) | (go_simp; rfl)); intro gb173 hg w5 hbox hb; have n0_ := aM5_ (below_step q5x6_ hb); have n1_ := aM5_ (hbox); have n2_ := aM5_ ((q5x18_ : w.heap.size ≤ gb173)); have n3_ := aM5_ ((q5x18_ : w.heap.size ≤ gb173)); clear HB; have HB := n0_; have BK173 := n1_; have GW173 := n2_; have GE173 := n3_; clear n0_ n1_ n2_ n3_; clear hb hbox hg))
  go_ret
  exact ⟨by first | rfl | (simp [errW_none, errW_some] <;> rfl) | (simp [*, errW_none, errW_some] <;> rfl), by repeat (first | (with_reducible first | exact HB.out | apply below_alloc | apply pw_below_drewN | apply below_drew1 | refine below_set ?_ GE173.out) | exact HB.out)⟩
 rw [if_neg c4] at H
 have c4b0 : decide (1048576 < (l1.length : Int)) = false := decide_eq_false c4
 have c4b1 : decide (1048576 < l1.length) = false := decide_eq_false (by omega)
 clear c4
 by_cases c6 : (l2.length : Int) > 1048576
 ·rw [if_pos c6] at H
  have c6b0 : decide (1048576 < (l2.length : Int)) = true := decide_eq_true c6
  have c6b1 : decide (1048576 < l2.length) = true := decide_eq_true (by omega)
  clear c6
  obtain rfl := Option.some.inj H
  go_enter Try.func5, Try.ntmps5
  go_wp2_with (first | ((with_reducible refine gate_dst (N := 3) rfl ?_); refine box_event ?hg (N := 3) ?hd (cs := #[.int .i64 a0_0, .int .i64 a0_1, .int .i64 a0_2, .int .i64 a0_3, .int .i64 a0_4, .int .i64 a0_5, .int .i64 a0_6, .int .i64 a0_7]) (t := 40) ?hr ?_; (case hd => rfl); (case hg => rfl); (case hr => first | (go_simp; done) | (go_simp; rfl)); intro gb173 hg w7 hbox hb; have n0_ := aM5_ (below_step q5x6_ hb); have n1_ := aM5_ (hbox); have n2_ := aM5_ ((q5x18_ : w.heap.size ≤ gb173)); have n3_ := aM5_ ((q5x18_ : w.heap.size ≤ gb173)); clear HB; have HB := n0_; have BK173 := n1_; have GW173 := n2_; have GE173 := n3_; clear n0_ n1_ n2_ n3_; clear hb hbox hg))
  go_ret
  exact ⟨by first | rfl | (simp [errW_none, errW_some] <;> rfl) | (simp [*, errW_none, errW_some] <;> rfl), by repeat (first | (with_reducible first | exact HB.out | apply below_alloc | apply pw_below_drewN | apply below_drew1 | refine below_set ?_ GE173.out) | exact HB.out)⟩
 rw [if_neg c6] at H
 have c6b0 : decide (1048576 < (l2.length : Int)) = false := decide_eq_false c6
 have c6b1 : decide (1048576 < l2.length) = false := decide_eq_false (by omega)
 clear c6
 replace H := Option.bind_eq_some_iff.mp H
 obtain ⟨⟨t174, t175, t176, t177, t178, t179, t180, t181⟩, A80, H⟩ := H
 replace H : ((laws_toInt64S.f k l1).bind fun t182 => ((laws_toInt64S.f k l2).bind fun t185 => ((spec_EightTerms.f k t174 t175 t176 t177 t178 t179 t180 t181 t182 t185).bind fun bt188 => ((laws_toInt64S.f k l1).bind fun t192 => ((laws_toInt64S.f k l2).bind fun t195 => ((laws_toEight.f k a0_0 a0_1 a0_2 a0_3 a0_4 a0_5 a0_6 a0_7).bind fun bt198 => ((impl_EightTerms.f k bt198.1 bt198.2.1 bt198.2.2.1 bt198.2.2.2.1 bt198.2.2.2.2.1 bt198.2.2.2.2.2.1 bt198.2.2.2.2.2.2.1 bt198.2.2.2.2.2.2.2 t192 t195).bind fun bt206 => ((laws_eqInt64S.f k bt206.1 bt188.1).bind fun t210 => (if t210 = true then (laws_FnExactEightTerms.j0 k l1 l2 bt188.1 bt188.2 t192 t195 bt206.1 bt206.2 (bt206.2 != bt188.2) a0_0 a0_1 a0_2 a0_3 a0_4 a0_5 a0_6 a0_7) else (laws_FnExactEightTerms.j0 k l1 l2 bt188.1 bt188.2 t192 t195 bt206.1 bt206.2 true a0_0 a0_1 a0_2 a0_3 a0_4 a0_5 a0_6 a0_7)))))))))) = some r := H
 have A8 := aM5_ A80
 clear A80
 replace H := Option.bind_eq_some_iff.mp H
 obtain ⟨t182, A90, H⟩ := H
 replace H : ((laws_toInt64S.f k l2).bind fun t185 => ((spec_EightTerms.f k t174 t175 t176 t177 t178 t179 t180 t181 t182 t185).bind fun bt188 => ((laws_toInt64S.f k l1).bind fun t192 => ((laws_toInt64S.f k l2).bind fun t195 => ((laws_toEight.f k a0_0 a0_1 a0_2 a0_3 a0_4 a0_5 a0_6 a0_7).bind fun bt198 => ((impl_EightTerms.f k bt198.1 bt198.2.1 bt198.2.2.1 bt198.2.2.2.1 bt198.2.2.2.2.1 bt198.2.2.2.2.2.1 bt198.2.2.2.2.2.2.1 bt198.2.2.2.2.2.2.2 t192 t195).bind fun bt206 => ((laws_eqInt64S.f k bt206.1 bt188.1).bind fun t210 => (if t210 = true then (laws_FnExactEightTerms.j0 k l1 l2 bt188.1 bt188.2 t192 t195 bt206.1 bt206.2 (bt206.2 != bt188.2) a0_0 a0_1 a0_2 a0_3 a0_4 a0_5 a0_6 a0_7) else (laws_FnExactEightTerms.j0 k l1 l2 bt188.1 bt188.2 t192 t195 bt206.1 bt206.2 true a0_0 a0_1 a0_2 a0_3 a0_4 a0_5 a0_6 a0_7))))))))) = some r := H
 have A9 := aM5_ A90
 clear A90
 replace H := Option.bind_eq_some_iff.mp H
 obtain ⟨t185, A100, H⟩ := H
 replace H : ((spec_EightTerms.f k t174 t175 t176 t177 t178 t179 t180 t181 t182 t185).bind fun bt188 => ((laws_toInt64S.f k l1).bind fun t192 => ((laws_toInt64S.f k l2).bind fun t195 => ((laws_toEight.f k a0_0 a0_1 a0_2 a0_3 a0_4 a0_5 a0_6 a0_7).bind fun bt198 => ((impl_EightTerms.f k bt198.1 bt198.2.1 bt198.2.2.1 bt198.2.2.2.1 bt198.2.2.2.2.1 bt198.2.2.2.2.2.1 bt198.2.2.2.2.2.2.1 bt198.2.2.2.2.2.2.2 t192 t195).bind fun bt206 => ((laws_eqInt64S.f k bt206.1 bt188.1).bind fun t210 => (if t210 = true then (laws_FnExactEightTerms.j0 k l1 l2 bt188.1 bt188.2 t192 t195 bt206.1 bt206.2 (bt206.2 != bt188.2) a0_0 a0_1 a0_2 a0_3 a0_4 a0_5 a0_6 a0_7) else (laws_FnExactEightTerms.j0 k l1 l2 bt188.1 bt188.2 t192 t195 bt206.1 bt206.2 true a0_0 a0_1 a0_2 a0_3 a0_4 a0_5 a0_6 a0_7)))))))) = some r := H
 have A10 := aM5_ A100
 clear A100
 replace H := Option.bind_eq_some_iff.mp H
 obtain ⟨⟨t188, t191⟩, A110, H⟩ := H
 replace H : ((laws_toInt64S.f k l1).bind fun t192 => ((laws_toInt64S.f k l2).bind fun t195 => ((laws_toEight.f k a0_0 a0_1 a0_2 a0_3 a0_4 a0_5 a0_6 a0_7).bind fun bt198 => ((impl_EightTerms.f k bt198.1 bt198.2.1 bt198.2.2.1 bt198.2.2.2.1 bt198.2.2.2.2.1 bt198.2.2.2.2.2.1 bt198.2.2.2.2.2.2.1 bt198.2.2.2.2.2.2.2 t192 t195).bind fun bt206 => ((laws_eqInt64S.f k bt206.1 t188).bind fun t210 => (if t210 = true then (laws_FnExactEightTerms.j0 k l1 l2 t188 t191 t192 t195 bt206.1 bt206.2 (bt206.2 != t191) a0_0 a0_1 a0_2 a0_3 a0_4 a0_5 a0_6 a0_7) else (laws_FnExactEightTerms.j0 k l1 l2 t188 t191 t192 t195 bt206.1 bt206.2 true a0_0 a0_1 a0_2 a0_3 a0_4 a0_5 a0_6 a0_7))))))) = some r := H
 have A11 := aM5_ A110
 clear A110
 replace H := Option.bind_eq_some_iff.mp H
 obtain ⟨t192, A120, H⟩ := H
 replace H : ((laws_toInt64S.f k l2).bind fun t195 => ((laws_toEight.f k a0_0 a0_1 a0_2 a0_3 a0_4 a0_5 a0_6 a0_7).bind fun bt198 => ((impl_EightTerms.f k bt198.1 bt198.2.1 bt198.2.2.1 bt198.2.2.2.1 bt198.2.2.2.2.1 bt198.2.2.2.2.2.1 bt198.2.2.2.2.2.2.1 bt198.2.2.2.2.2.2.2 t192 t195).bind fun bt206 => ((laws_eqInt64S.f k bt206.1 t188).bind fun t210 => (if t210 = true then (laws_FnExactEightTerms.j0 k l1 l2 t188 t191 t192 t195 bt206.1 bt206.2 (bt206.2 != t191) a0_0 a0_1 a0_2 a0_3 a0_4 a0_5 a0_6 a0_7) else (laws_FnExactEightTerms.j0 k l1 l2 t188 t191 t192 t195 bt206.1 bt206.2 true a0_0 a0_1 a0_2 a0_3 a0_4 a0_5 a0_6 a0_7)))))) = some r := H
 have A12 := aM5_ A120
 clear A120
 replace H := Option.bind_eq_some_iff.mp H
 obtain ⟨t195, A130, H⟩ := H
 replace H : ((laws_toEight.f k a0_0 a0_1 a0_2 a0_3 a0_4 a0_5 a0_6 a0_7).bind fun bt198 => ((impl_EightTerms.f k bt198.1 bt198.2.1 bt198.2.2.1 bt198.2.2.2.1 bt198.2.2.2.2.1 bt198.2.2.2.2.2.1 bt198.2.2.2.2.2.2.1 bt198.2.2.2.2.2.2.2 t192 t195).bind fun bt206 => ((laws_eqInt64S.f k bt206.1 t188).bind fun t210 => (if t210 = true then (laws_FnExactEightTerms.j0 k l1 l2 t188 t191 t192 t195 bt206.1 bt206.2 (bt206.2 != t191) a0_0 a0_1 a0_2 a0_3 a0_4 a0_5 a0_6 a0_7) else (laws_FnExactEightTerms.j0 k l1 l2 t188 t191 t192 t195 bt206.1 bt206.2 true a0_0 a0_1 a0_2 a0_3 a0_4 a0_5 a0_6 a0_7))))) = some r := H
 have A13 := aM5_ A130
 clear A130
 replace H := Option.bind_eq_some_iff.mp H
 obtain ⟨⟨t198, t199, t200, t201, t202, t203, t204, t205⟩, A140, H⟩ := H
 replace H : ((impl_EightTerms.f k t198 t199 t200 t201 t202 t203 t204 t205 t192 t195).bind fun bt206 => ((laws_eqInt64S.f k bt206.1 t188).bind fun t210 => (if t210 = true then (laws_FnExactEightTerms.j0 k l1 l2 t188 t191 t192 t195 bt206.1 bt206.2 (bt206.2 != t191) a0_0 a0_1 a0_2 a0_3 a0_4 a0_5 a0_6 a0_7) else (laws_FnExactEightTerms.j0 k l1 l2 t188 t191 t192 t195 bt206.1 bt206.2 true a0_0 a0_1 a0_2 a0_3 a0_4 a0_5 a0_6 a0_7)))) = some r := H
 have A14 := aM5_ A140
 clear A140
 replace H := Option.bind_eq_some_iff.mp H
 obtain ⟨⟨t206, t209⟩, A150, H⟩ := H
 replace H : ((laws_eqInt64S.f k t206 t188).bind fun t210 => (if t210 = true then (laws_FnExactEightTerms.j0 k l1 l2 t188 t191 t192 t195 t206 t209 (t209 != t191) a0_0 a0_1 a0_2 a0_3 a0_4 a0_5 a0_6 a0_7) else (laws_FnExactEightTerms.j0 k l1 l2 t188 t191 t192 t195 t206 t209 true a0_0 a0_1 a0_2 a0_3 a0_4 a0_5 a0_6 a0_7))) = some r := H
 have A15 := aM5_ A150
 clear A150
 have HC16 := aM5_ H
 clear H
 go_enter Try.func5, Try.ntmps5
 go_upto_region 9 with (first | ((with_reducible refine gate_dst (N := 3) rfl ?_); refine box_event ?hg (N := 3) ?hd (cs := #[.int .i64 a0_0, .int .i64 a0_1, .int .i64 a0_2, .int .i64 a0_3, .int .i64 a0_4, .int .i64 a0_5, .int .i64 a0_6, .int .i64 a0_7]) (t := 40) ?hr ?_; (case hd => rfl); (case hg => rfl); (case hr => first | (go_simp; done) | (go_simp; rfl)); intro gb173 hg w17 hbox hb; have n0_ := aM5_ (below_step q5x6_ hb); have n1_ := aM5_ (hbox); have n2_ := aM5_ ((q5x18_ : w.heap.size ≤ gb173)); have n3_ := aM5_ ((q5x18_ : w.heap.size ≤ gb173)); clear HB; have HB := n0_; have BK173 := n1_; have GW173 := n2_; have GE173 := n3_; clear n0_ n1_ n2_ n3_; clear hb hbox hg; have hcz18_0 : w17.cell? ⟨gb173, 0, none⟩ = some (.int .i64 a0_0) := (blk_cell BK173.out 0).trans rfl; have hcz18_1 : w17.cell? ⟨gb173, 1, none⟩ = some (.int .i64 a0_1) := (blk_cell BK173.out 1).trans rfl; have hcz18_2 : w17.cell? ⟨gb173, 2, none⟩ = some (.int .i64 a0_2) := (blk_cell BK173.out 2).trans rfl; have hcz18_3 : w17.cell? ⟨gb173, 3, none⟩ = some (.int .i64 a0_3) := (blk_cell BK173.out 3).trans rfl; have hcz18_4 : w17.cell? ⟨gb173, 4, none⟩ = some (.int .i64 a0_4) := (blk_cell BK173.out 4).trans rfl; have hcz18_5 : w17.cell? ⟨gb173, 5, none⟩ = some (.int .i64 a0_5) := (blk_cell BK173.out 5).trans rfl; have hcz18_6 : w17.cell? ⟨gb173, 6, none⟩ = some (.int .i64 a0_6) := (blk_cell BK173.out 6).trans rfl; have hcz18_7 : w17.cell? ⟨gb173, 7, none⟩ = some (.int .i64 a0_7) := (blk_cell BK173.out 7).trans rfl; have hfz18_0 := blk_frozen BK173.out 0; have hfz18_1 := blk_frozen BK173.out 1; have hfz18_2 := blk_frozen BK173.out 2; have hfz18_3 := blk_frozen BK173.out 3; have hfz18_4 := blk_frozen BK173.out 4; have hfz18_5 := blk_frozen BK173.out 5; have hfz18_6 := blk_frozen BK173.out 6; have hfz18_7 := blk_frozen BK173.out 7) | ((with_reducible refine gate_callee (f := 22) rfl ?_); refine goesL_ (some 26) rfl rfl Try.func22 (by kernel_rfl) rfl #[.agg #[.int .i64 a0_0, .int .i64 a0_1, .int .i64 a0_2, .int .i64 a0_3, .int .i64 a0_4, .int .i64 a0_5, .int .i64 a0_6, .int .i64 a0_7]] rfl q5x1_ ?_; (with_reducible refine (laws_toEight.calls k a0_0 a0_1 a0_2 a0_3 a0_4 a0_5 a0_6 a0_7 t174 t175 t176 t177 t178 t179 t180 t181 _ A8.out).mono ?_); rintro e w19 ⟨rfl, hb⟩; refine ⟨_, rfl, ?_⟩; have n0_ := aM5_ (blk_below (g := gb173) (o := .cells #[.int .i64 a0_0, .int .i64 a0_1, .int .i64 a0_2, .int .i64 a0_3, .int .i64 a0_4, .int .i64 a0_5, .int .i64 a0_6, .int .i64 a0_7] 40 (0, 0)) q5x3_ hb); have n1_ := aM5_ (below_step q5x2_ hb); clear BK173; clear HB; have BK173 := n0_; have HB := n1_; clear n0_ n1_; (try clear hb); (try clear hb2); (try clear hk); (try clear hi)) | ((with_reducible refine gate_callee (f := 11) rfl ?_); refine goesL_ (some 28) rfl rfl Try.func11 (by kernel_rfl) rfl #[.slice A1 l1.length c1] rfl q5x1_ ?_; (with_reducible refine (laws_toInt64S.calls k _ _ l1 t182 _ ?side1 ?side2 A9.out).mono ?_); (case side1 => repeat (first | exact (Kd.C_below HR1.out HB.out) | (with_reducible refine Kd.C_alloc ?_ _) | (with_reducible refine Kd.C_drewN ?_ _) | (with_reducible refine Kd.C_drew ?_))); (case side2 => exact HC1.out); rintro e w20 ⟨v183, rfl, ho0, hb⟩; refine ⟨_, rfl, ?_⟩; have n0_ := aM5_ (Kd.R_lower ho0 (below_size q5x2_)); have n1_ := aM5_ (blk_below (g := gb173) (o := .cells #[.int .i64 a0_0, .int .i64 a0_1, .int .i64 a0_2, .int .i64 a0_3, .int .i64 a0_4, .int .i64 a0_5, .int .i64 a0_6, .int .i64 a0_7] 40 (0, 0)) q5x3_ hb); have n2_ := aM5_ (below_step q5x2_ hb); clear BK173; clear HB; have HO184 := n0_; have BK173 := n1_; have HB := n2_; clear n0_ n1_ n2_; (try clear hb); (try clear hb2); (try clear hk); (try clear hi); (try clear ho0)) | ((with_reducible refine gate_callee (f := 11) rfl ?_); refine goesL_ (some 30) rfl rfl Try.func11 (by kernel_rfl) rfl #[.slice A2 l2.length c2] rfl q5x1_ ?_; (with_reducible refine (laws_toInt64S.calls k _ _ l2 t185 _ ?side1 ?side2 A10.out).mono ?_); (case side1 => repeat (first | exact (Kd.C_below HR2.out HB.out) | (with_reducible refine Kd.C_alloc ?_ _) | (with_reducible refine Kd.C_drewN ?_ _) | (with_reducible refine Kd.C_drew ?_))); (case side2 => exact HC2.out); rintro e w21 ⟨v186, rfl, ho0, hb⟩; refine ⟨_, rfl, ?_⟩; have n0_ := aM5_ (Kd.R_elder' q5x7_ (Kd.R_base ho0) hb); have n1_ := aM5_ (Kd.R_lower (Kd.R_new' ho0 (Kd.R_lt q5x7_)) (below_size q5x2_)); have n2_ := aM5_ (blk_below (g := gb173) (o := .cells #[.int .i64 a0_0, .int .i64 a0_1, .int .i64 a0_2, .int .i64 a0_3, .int .i64 a0_4, .int .i64 a0_5, .int .i64 a0_6, .int .i64 a0_7] 40 (0, 0)) q5x3_ hb); have n3_ := aM5_ (below_step q5x2_ hb); clear HO184; clear BK173; clear HB; have HO184 := n0_; have HO187 := n1_; have BK173 := n2_; have HB := n3_; clear n0_ n1_ n2_ n3_; (try clear hb); (try clear hb2); (try clear hk); (try clear hi); (try clear ho0); obtain ⟨Ao22, co22, eo22⟩ := Kd.R_slice HO184.out; subst eo22; obtain ⟨Ao23, co23, eo23⟩ := Kd.R_slice HO187.out; subst eo23) | ((with_reducible refine gate_callee (f := 21) rfl ?_); refine goesL_ (some 31) rfl rfl Try.func21 (by kernel_rfl) rfl #[.agg #[.int .i64 t174, .int .i64 t175, .int .i64 t176, .int .i64 t177, .int .i64 t178, .int .i64 t179, .int .i64 t180, .int .i64 t181], .slice Ao22 t182.length co22, .slice Ao23 t185.length co23] rfl q5x1_ ?_; (with_reducible refine (spec_EightTerms.calls k t174 t175 t176 t177 t178 t179 t180 t181 _ _ t182 _ _ t185 t188 t191 _ ?side1 ?side2 ?side3 ?side4 A11.out).mono ?_); (case side1 => repeat (first | exact (Kd.R_reads' HO184.out).2.2 | (with_reducible refine Kd.C_alloc ?_ _) | (with_reducible refine Kd.C_drewN ?_ _) | (with_reducible refine Kd.C_drew ?_))); (case side2 => exact (Kd.R_reads' HO184.out).2.1); (case side3 => repeat (first | exact (Kd.R_reads' HO187.out).2.2 | (with_reducible refine Kd.C_alloc ?_ _) | (with_reducible refine Kd.C_drewN ?_ _) | (with_reducible refine Kd.C_drew ?_))); (case side4 => exact (Kd.R_reads' HO187.out).2.1); rintro e w24 ⟨v189, rfl, ho0, hb⟩; refine ⟨_, rfl, ?_⟩; have n0_ := aM5_ (Kd.R_elder' q5x7_ (Kd.R_base ho0) hb); have n1_ := aM5_ (Kd.R_elder' q5x10_ (Kd.R_base ho0) hb); have n2_ := aM5_ (Kd.R_lower (Kd.R_new' (Kd.R_new' ho0 (Kd.R_lt q5x7_)) (Kd.R_lt q5x10_)) (below_size q5x2_)); have n3_ := aM5_ (blk_below (g := gb173) (o := .cells #[.int .i64 a0_0, .int .i64 a0_1, .int .i64 a0_2, .int .i64 a0_3, .int .i64 a0_4, .int .i64 a0_5, .int .i64 a0_6, .int .i64 a0_7] 40 (0, 0)) q5x3_ hb); have n4_ := aM5_ (below_step q5x2_ hb); clear HO184; clear HO187; clear BK173; clear HB; have HO184 := n0_; have HO187 := n1_; have HO190 := n2_; have BK173 := n3_; have HB := n4_; clear n0_ n1_ n2_ n3_ n4_; (try clear hb); (try clear hb2); (try clear hk); (try clear hi); (try clear ho0)) | ((with_reducible refine gate_callee (f := 11) rfl ?_); refine goesL_ (some 35) rfl rfl Try.func11 (by kernel_rfl) rfl #[.slice A1 l1.length c1] rfl q5x1_ ?_; (with_reducible refine (laws_toInt64S.calls k _ _ l1 t192 _ ?side1 ?side2 A12.out).mono ?_); (case side1 => repeat (first | exact (Kd.C_below HR1.out HB.out) | (with_reducible refine Kd.C_alloc ?_ _) | (with_reducible refine Kd.C_drewN ?_ _) | (with_reducible refine Kd.C_drew ?_))); (case side2 => exact HC1.out); rintro e w25 ⟨v193, rfl, ho0, hb⟩; refine ⟨_, rfl, ?_⟩; have n0_ := aM5_ (Kd.R_elder' q5x7_ (Kd.R_base ho0) hb); have n1_ := aM5_ (Kd.R_elder' q5x10_ (Kd.R_base ho0) hb); have n2_ := aM5_ (Kd.R_elder' q5x11_ (Kd.R_base ho0) hb); have n3_ := aM5_ (Kd.R_lower (Kd.R_new' (Kd.R_new' (Kd.R_new' ho0 (Kd.R_lt q5x7_)) (Kd.R_lt q5x10_)) (Kd.R_lt q5x11_)) (below_size q5x2_)); have n4_ := aM5_ (blk_below (g := gb173) (o := .cells #[.int .i64 a0_0, .int .i64 a0_1, .int .i64 a0_2, .int .i64 a0_3, .int .i64 a0_4, .int .i64 a0_5, .int .i64 a0_6, .int .i64 a0_7] 40 (0, 0)) q5x3_ hb); have n5_ := aM5_ (below_step q5x2_ hb); clear HO184; clear HO187; clear HO190; clear BK173; clear HB; have HO184 := n0_; have HO187 := n1_; have HO190 := n2_; have HO194 := n3_; have BK173 := n4_; have HB := n5_; clear n0_ n1_ n2_ n3_ n4_ n5_; (try clear hb); (try clear hb2); (try clear hk); (try clear hi); (try clear ho0)) | ((with_reducible refine gate_callee (f := 11) rfl ?_); refine goesL_ (some 37) rfl rfl Try.func11 (by kernel_rfl) rfl #[.slice A2 l2.length c2] rfl q5x1_ ?_; (with_reducible refine (laws_toInt64S.calls k _ _ l2 t195 _ ?side1 ?side2 A13.out).mono ?_); (case side1 => repeat (first | exact (Kd.C_below HR2.out HB.out) | (with_reducible refine Kd.C_alloc ?_ _) | (with_reducible refine Kd.C_drewN ?_ _) | (with_reducible refine Kd.C_drew ?_))); (case side2 => exact HC2.out); rintro e w26 ⟨v196, rfl, ho0, hb⟩; refine ⟨_, rfl, ?_⟩; have n0_ := aM5_ (Kd.R_elder' q5x7_ (Kd.R_base ho0) hb); have n1_ := aM5_ (Kd.R_elder' q5x10_ (Kd.R_base ho0) hb); have n2_ := aM5_ (Kd.R_elder' q5x11_ (Kd.R_base ho0) hb); have n3_ := aM5_ (Kd.R_elder' q5x13_ (Kd.R_base ho0) hb); have n4_ := aM5_ (Kd.R_lower (Kd.R_new' (Kd.R_new' (Kd.R_new' (Kd.R_new' ho0 (Kd.R_lt q5x7_)) (Kd.R_lt q5x10_)) (Kd.R_lt q5x11_)) (Kd.R_lt q5x13_)) (below_size q5x2_)); have n5_ := aM5_ (blk_below (g := gb173) (o := .cells #[.int .i64 a0_0, .int .i64 a0_1, .int .i64 a0_2, .int .i64 a0_3, .int .i64 a0_4, .int .i64 a0_5, .int .i64 a0_6, .int .i64 a0_7] 40 (0, 0)) q5x3_ hb); have n6_ := aM5_ (below_step q5x2_ hb); clear HO184; clear HO187; clear HO190; clear HO194; clear BK173; clear HB; have HO184 := n0_; have HO187 := n1_; have HO190 := n2_; have HO194 := n3_; have HO197 := n4_; have BK173 := n5_; have HB := n6_; clear n0_ n1_ n2_ n3_ n4_ n5_ n6_; (try clear hb); (try clear hb2); (try clear hk); (try clear hi); (try clear ho0); have hcz27_0 : w26.cell? ⟨gb173, 0, none⟩ = some (.int .i64 a0_0) := (blk_cell BK173.out 0).trans rfl; have hcz27_1 : w26.cell? ⟨gb173, 1, none⟩ = some (.int .i64 a0_1) := (blk_cell BK173.out 1).trans rfl; have hcz27_2 : w26.cell? ⟨gb173, 2, none⟩ = some (.int .i64 a0_2) := (blk_cell BK173.out 2).trans rfl; have hcz27_3 : w26.cell? ⟨gb173, 3, none⟩ = some (.int .i64 a0_3) := (blk_cell BK173.out 3).trans rfl; have hcz27_4 : w26.cell? ⟨gb173, 4, none⟩ = some (.int .i64 a0_4) := (blk_cell BK173.out 4).trans rfl; have hcz27_5 : w26.cell? ⟨gb173, 5, none⟩ = some (.int .i64 a0_5) := (blk_cell BK173.out 5).trans rfl; have hcz27_6 : w26.cell? ⟨gb173, 6, none⟩ = some (.int .i64 a0_6) := (blk_cell BK173.out 6).trans rfl; have hcz27_7 : w26.cell? ⟨gb173, 7, none⟩ = some (.int .i64 a0_7) := (blk_cell BK173.out 7).trans rfl; have hfz27_0 := blk_frozen BK173.out 0; have hfz27_1 := blk_frozen BK173.out 1; have hfz27_2 := blk_frozen BK173.out 2; have hfz27_3 := blk_frozen BK173.out 3; have hfz27_4 := blk_frozen BK173.out 4; have hfz27_5 := blk_frozen BK173.out 5; have hfz27_6 := blk_frozen BK173.out 6; have hfz27_7 := blk_frozen BK173.out 7) | ((with_reducible refine gate_callee (f := 22) rfl ?_); refine goesL_ (some 40) rfl rfl Try.func22 (by kernel_rfl) rfl #[.agg #[.int .i64 a0_0, .int .i64 a0_1, .int .i64 a0_2, .int .i64 a0_3, .int .i64 a0_4, .int .i64 a0_5, .int .i64 a0_6, .int .i64 a0_7]] rfl q5x1_ ?_; (with_reducible refine (laws_toEight.calls k a0_0 a0_1 a0_2 a0_3 a0_4 a0_5 a0_6 a0_7 t198 t199 t200 t201 t202 t203 t204 t205 _ A14.out).mono ?_); rintro e w28 ⟨rfl, hb⟩; refine ⟨_, rfl, ?_⟩; have n0_ := aM5_ (Kd.R_below q5x7_ hb); have n1_ := aM5_ (Kd.R_below q5x10_ hb); have n2_ := aM5_ (Kd.R_below q5x11_ hb); have n3_ := aM5_ (Kd.R_below q5x13_ hb); have n4_ := aM5_ (Kd.R_below q5x17_ hb); have n5_ := aM5_ (blk_below (g := gb173) (o := .cells #[.int .i64 a0_0, .int .i64 a0_1, .int .i64 a0_2, .int .i64 a0_3, .int .i64 a0_4, .int .i64 a0_5, .int .i64 a0_6, .int .i64 a0_7] 40 (0, 0)) q5x3_ hb); have n6_ := aM5_ (below_step q5x2_ hb); clear HO184; clear HO187; clear HO190; clear HO194; clear HO197; clear BK173; clear HB; have HO184 := n0_; have HO187 := n1_; have HO190 := n2_; have HO194 := n3_; have HO197 := n4_; have BK173 := n5_; have HB := n6_; clear n0_ n1_ n2_ n3_ n4_ n5_ n6_; (try clear hb); (try clear hb2); (try clear hk); (try clear hi); obtain ⟨Ao29, co29, eo29⟩ := Kd.R_slice HO194.out; subst eo29; obtain ⟨Ao30, co30, eo30⟩ := Kd.R_slice HO197.out; subst eo30) | ((with_reducible refine gate_callee (f := 23) rfl ?_); refine goesL_ (some 43) rfl rfl Try.func23 (by kernel_rfl) rfl #[.agg #[.int .i64 t198, .int .i64 t199, .int .i64 t200, .int .i64 t201, .int .i64 t202, .int .i64 t203, .int .i64 t204, .int .i64 t205], .slice Ao29 t192.length co29, .slice Ao30 t195.length co30] rfl q5x1_ ?_; (with_reducible refine (impl_EightTerms.calls k t198 t199 t200 t201 t202 t203 t204 t205 _ _ t192 _ _ t195 t206 t209 _ ?side1 ?side2 ?side3 ?side4 A15.out).mono ?_); (case side1 => repeat (first | exact (Kd.R_reads' HO194.out).2.2 | (with_reducible refine Kd.C_alloc ?_ _) | (with_reducible refine Kd.C_drewN ?_ _) | (with_reducible refine Kd.C_drew ?_))); (case side2 => exact (Kd.R_reads' HO194.out).2.1); (case side3 => repeat (first | exact (Kd.R_reads' HO197.out).2.2 | (with_reducible refine Kd.C_alloc ?_ _) | (with_reducible refine Kd.C_drewN ?_ _) | (with_reducible refine Kd.C_drew ?_))); (case side4 => exact (Kd.R_reads' HO197.out).2.1); rintro e w31 ⟨v207, rfl, ho0, hb⟩; refine ⟨_, rfl, ?_⟩; have n0_ := aM5_ (Kd.R_elder' q5x7_ (Kd.R_base ho0) hb); have n1_ := aM5_ (Kd.R_elder' q5x10_ (Kd.R_base ho0) hb); have n2_ := aM5_ (Kd.R_elder' q5x11_ (Kd.R_base ho0) hb); have n3_ := aM5_ (Kd.R_elder' q5x13_ (Kd.R_base ho0) hb); have n4_ := aM5_ (Kd.R_elder' q5x17_ (Kd.R_base ho0) hb); have n5_ := aM5_ (Kd.R_lower (Kd.R_new' (Kd.R_new' (Kd.R_new' (Kd.R_new' (Kd.R_new' ho0 (Kd.R_lt q5x7_)) (Kd.R_lt q5x10_)) (Kd.R_lt q5x11_)) (Kd.R_lt q5x13_)) (Kd.R_lt q5x17_)) (below_size q5x2_)); have n6_ := aM5_ (blk_below (g := gb173) (o := .cells #[.int .i64 a0_0, .int .i64 a0_1, .int .i64 a0_2, .int .i64 a0_3, .int .i64 a0_4, .int .i64 a0_5, .int .i64 a0_6, .int .i64 a0_7] 40 (0, 0)) q5x3_ hb); have n7_ := aM5_ (below_step q5x2_ hb); clear HO184; clear HO187; clear HO190; clear HO194; clear HO197; clear BK173; clear HB; have HO184 := n0_; have HO187 := n1_; have HO190 := n2_; have HO194 := n3_; have HO197 := n4_; have HO208 := n5_; have BK173 := n6_; have HB := n7_; clear n0_ n1_ n2_ n3_ n4_ n5_ n6_ n7_; (try clear hb); (try clear hb2); (try clear hk); (try clear hi); (try clear ho0)))
 (try simp only [Act.put, List.setIfInBounds_toArray, List.set_cons_zero, List.set_cons_succ])
 go_cut [54] (fun v54 wc => ∃ (kq : Nat) (x54_15 : Bool), v54 = .bool x54_15 ∧ Aside0 (laws_FnExactEightTerms.j0 kq l1 l2 t188 t191 t192 t195 t206 t209 x54_15 a0_0 a0_1 a0_2 a0_3 a0_4 a0_5 a0_6 a0_7 = some r) ∧ Aside0 (kq ≤ k) ∧ Aside0 (Kd.R (Kd.int .i64) 2 wc w.heap.size (fun k_ => some k_ ≠ ((.slice Ao29 t192.length co29) : Value).ownBlock ∧ some k_ ≠ ((.slice Ao30 t195.length co30) : Value).ownBlock ∧ some k_ ≠ (v207 : Value).ownBlock) v189 t188) ∧ Aside0 (Kd.R (Kd.int .i64) 2 wc w.heap.size (fun k_ => some k_ ≠ (v189 : Value).ownBlock ∧ some k_ ≠ ((.slice Ao30 t195.length co30) : Value).ownBlock ∧ some k_ ≠ (v207 : Value).ownBlock) (.slice Ao29 t192.length co29) t192) ∧ Aside0 (Kd.R (Kd.int .i64) 2 wc w.heap.size (fun k_ => some k_ ≠ (v189 : Value).ownBlock ∧ some k_ ≠ ((.slice Ao29 t192.length co29) : Value).ownBlock ∧ some k_ ≠ (v207 : Value).ownBlock) (.slice Ao30 t195.length co30) t195) ∧ Aside0 (Kd.R (Kd.int .i64) 2 wc w.heap.size (fun k_ => some k_ ≠ (v189 : Value).ownBlock ∧ some k_ ≠ ((.slice Ao29 t192.length co29) : Value).ownBlock ∧ some k_ ≠ ((.slice Ao30 t195.length co30) : Value).ownBlock) v207 t206) ∧ Aside0 (wc.heap[gb173]? = some (.cells #[.int .i64 a0_0, .int .i64 a0_1, .int .i64 a0_2, .int .i64 a0_3, .int .i64 a0_4, .int .i64 a0_5, .int .i64 a0_6, .int .i64 a0_7] 40 (0, 0))) ∧ Aside0 (Below w.heap.size w wc))
 case first =>
  have H := HC16.out
  clear HC16
  replace H := Option.bind_eq_some_iff.mp H
  obtain ⟨t210, A320, H⟩ := H
  replace H : (if t210 = true then (laws_FnExactEightTerms.j0 k l1 l2 t188 t191 t192 t195 t206 t209 (t209 != t191) a0_0 a0_1 a0_2 a0_3 a0_4 a0_5 a0_6 a0_7) else (laws_FnExactEightTerms.j0 k l1 l2 t188 t191 t192 t195 t206 t209 true a0_0 a0_1 a0_2 a0_3 a0_4 a0_5 a0_6 a0_7)) = some r := H
  have A32 := aM5_ A320
  clear A320
  by_cases c33 : t210 = true
  ·subst c33
   have H1 : (laws_FnExactEightTerms.j0 k l1 l2 t188 t191 t192 t195 t206 t209 (t209 != t191) a0_0 a0_1 a0_2 a0_3 a0_4 a0_5 a0_6 a0_7) = some r := by rw [if_pos rfl] at H; exact H
   clear H
   have H := H1
   clear H1
   have H' := aM5_ H
   clear H
   obtain ⟨Ao34, co34, eo34⟩ := Kd.R_slice HO208.out
   subst eo34
   obtain ⟨Ao35, co35, eo35⟩ := Kd.R_slice HO190.out
   subst eo35
   go_wp2_with (first | ((with_reducible refine gate_callee (f := 13) rfl ?_); refine goesL_ (some 48) rfl rfl Try.func13 (by kernel_rfl) rfl #[.slice Ao34 t206.length co34, .slice Ao35 t188.length co35] rfl q5x1_ ?_; (with_reducible refine (laws_eqInt64S.calls k _ _ t206 _ _ t188 true _ ?side1 ?side2 ?side3 ?side4 A32.out).mono ?_); (case side1 => repeat (first | exact (Kd.R_reads' HO208.out).2.2 | (with_reducible refine Kd.C_alloc ?_ _) | (with_reducible refine Kd.C_drewN ?_ _) | (with_reducible refine Kd.C_drew ?_))); (case side2 => exact (Kd.R_reads' HO208.out).2.1); (case side3 => repeat (first | exact (Kd.R_reads' HO190.out).2.2 | (with_reducible refine Kd.C_alloc ?_ _) | (with_reducible refine Kd.C_drewN ?_ _) | (with_reducible refine Kd.C_drew ?_))); (case side4 => exact (Kd.R_reads' HO190.out).2.1); rintro e w' ⟨rfl, ⟨nd, rfl⟩⟩; refine ⟨_, rfl, ?_⟩))
   go_meet
   case rel => exact ⟨_, ((t209 != t191)), q5x16_, H', ⟨by first | omega | exact Nat.le_refl _⟩, ⟨by (with_reducible repeat (first | apply Kd.R_alloc | apply Kd.R_drewN | apply Kd.R_drew)); exact Kd.R_mono HO190.out (fun _ hk => ⟨hk.1.1.2, ⟨hk.1.2, hk.2⟩⟩)⟩, ⟨by (with_reducible repeat (first | apply Kd.R_alloc | apply Kd.R_drewN | apply Kd.R_drew)); exact Kd.R_mono HO194.out (fun _ hk => ⟨hk.1.1.2, ⟨hk.1.2, hk.2⟩⟩)⟩, ⟨by (with_reducible repeat (first | apply Kd.R_alloc | apply Kd.R_drewN | apply Kd.R_drew)); exact Kd.R_mono HO197.out (fun _ hk => ⟨hk.1.1.2, ⟨hk.1.2, hk.2⟩⟩)⟩, ⟨by (with_reducible repeat (first | apply Kd.R_alloc | apply Kd.R_drewN | apply Kd.R_drew)); exact Kd.R_mono HO208.out (fun _ hk => ⟨hk.1.1.2, ⟨hk.1.2, hk.2⟩⟩)⟩, ⟨by (with_reducible repeat (first | refine blk_drewN ?_ _ | refine blk_drew ?_ | refine blk_alloc ?_ _)); exact BK173.out⟩, ⟨by repeat (first | (with_reducible first | exact HB.out | apply below_alloc | apply pw_below_drewN | apply below_drew1 | refine below_set ?_ GE173.out) | exact HB.out)⟩⟩
  replace c33 := Bool.eq_false_iff.mpr c33
  subst c33
  have H1 : (laws_FnExactEightTerms.j0 k l1 l2 t188 t191 t192 t195 t206 t209 true a0_0 a0_1 a0_2 a0_3 a0_4 a0_5 a0_6 a0_7) = some r := by rw [if_neg (show ¬ (false = true) by decide)] at H; exact H
  clear H
  have H := H1
  clear H1
  have H' := aM5_ H
  clear H
  obtain ⟨Ao36, co36, eo36⟩ := Kd.R_slice HO208.out
  subst eo36
  obtain ⟨Ao37, co37, eo37⟩ := Kd.R_slice HO190.out
  subst eo37
  go_wp2_with (first | ((with_reducible refine gate_callee (f := 13) rfl ?_); refine goesL_ (some 48) rfl rfl Try.func13 (by kernel_rfl) rfl #[.slice Ao36 t206.length co36, .slice Ao37 t188.length co37] rfl q5x1_ ?_; (with_reducible refine (laws_eqInt64S.calls k _ _ t206 _ _ t188 false _ ?side1 ?side2 ?side3 ?side4 A32.out).mono ?_); (case side1 => repeat (first | exact (Kd.R_reads' HO208.out).2.2 | (with_reducible refine Kd.C_alloc ?_ _) | (with_reducible refine Kd.C_drewN ?_ _) | (with_reducible refine Kd.C_drew ?_))); (case side2 => exact (Kd.R_reads' HO208.out).2.1); (case side3 => repeat (first | exact (Kd.R_reads' HO190.out).2.2 | (with_reducible refine Kd.C_alloc ?_ _) | (with_reducible refine Kd.C_drewN ?_ _) | (with_reducible refine Kd.C_drew ?_))); (case side4 => exact (Kd.R_reads' HO190.out).2.1); rintro e w' ⟨rfl, ⟨nd, rfl⟩⟩; refine ⟨_, rfl, ?_⟩))
  go_meet
  case rel => exact ⟨_, (true), q5x16_, H', ⟨by first | omega | exact Nat.le_refl _⟩, ⟨by (with_reducible repeat (first | apply Kd.R_alloc | apply Kd.R_drewN | apply Kd.R_drew)); exact Kd.R_mono HO190.out (fun _ hk => ⟨hk.1.1.2, ⟨hk.1.2, hk.2⟩⟩)⟩, ⟨by (with_reducible repeat (first | apply Kd.R_alloc | apply Kd.R_drewN | apply Kd.R_drew)); exact Kd.R_mono HO194.out (fun _ hk => ⟨hk.1.1.2, ⟨hk.1.2, hk.2⟩⟩)⟩, ⟨by (with_reducible repeat (first | apply Kd.R_alloc | apply Kd.R_drewN | apply Kd.R_drew)); exact Kd.R_mono HO197.out (fun _ hk => ⟨hk.1.1.2, ⟨hk.1.2, hk.2⟩⟩)⟩, ⟨by (with_reducible repeat (first | apply Kd.R_alloc | apply Kd.R_drewN | apply Kd.R_drew)); exact Kd.R_mono HO208.out (fun _ hk => ⟨hk.1.1.2, ⟨hk.1.2, hk.2⟩⟩)⟩, ⟨by (with_reducible repeat (first | refine blk_drewN ?_ _ | refine blk_drew ?_ | refine blk_alloc ?_ _)); exact BK173.out⟩, ⟨by repeat (first | (with_reducible first | exact HB.out | apply below_alloc | apply pw_below_drewN | apply below_drew1 | refine below_set ?_ GE173.out) | exact HB.out)⟩⟩
 case rest =>
  clear HC16
  try clear c1
  try clear c2
  try clear p2
  try clear c3
  try clear c4
  try clear c4b0
  try clear c4b1
  try clear c5
  try clear c6
  try clear c6b0
  try clear c6b1
  try clear c11
  try clear c13
  try clear c21
  try clear c22
  try clear c23
  try clear c33
  try clear hcz18_0
  try clear hcz18_1
  try clear hcz18_2
  try clear hcz18_3
  try clear hcz18_4
  try clear hcz18_5
  try clear hcz18_6
  try clear hcz18_7
  try clear hcz27_0
  try clear hcz27_1
  try clear hcz27_2
  try clear hcz27_3
  try clear hcz27_4
  try clear hcz27_5
  try clear hcz27_6
  try clear hcz27_7
  try clear hfz18_0
  try clear hfz18_1
  try clear hfz18_2
  try clear hfz18_3
  try clear hfz18_4
  try clear hfz18_5
  try clear hfz18_6
  try clear hfz18_7
  try clear hfz27_0
  try clear hfz27_1
  try clear hfz27_2
  try clear hfz27_3
  try clear hfz27_4
  try clear hfz27_5
  try clear hfz27_6
  try clear hfz27_7
  obtain ⟨kq, x54_15, rfl, HA, HJ15, HO_7, HO_9, HO_10, HO_11, BK173, HB⟩ := hcut
  cases kq with
  | zero => exact absurd HA.out (by simp [laws_FnExactEightTerms.j0])
  | succ kj15 =>
   have H := HA.out
   clear HA
   simp only [laws_FnExactEightTerms.j0] at H
   by_cases c38 : x54_15 = true
   ·subst c38
    have H1 : (some false) = some r := by rw [if_pos rfl] at H; exact H
    clear H
    have H := H1
    clear H1
    obtain rfl := Option.some.inj H
    go_wp2
    go_ret
    exact ⟨by first | rfl | (simp [errW_none, errW_some] <;> rfl) | (simp [*, errW_none, errW_some] <;> rfl), by repeat (first | (with_reducible first | exact HB.out | apply below_alloc | apply pw_below_drewN | apply below_drew1 | refine below_set ?_ GE173.out) | exact HB.out)⟩
   replace c38 := Bool.eq_false_iff.mpr c38
   subst c38
   have H1 : ((laws_toInt64S.f kj15 l1).bind fun t211 => ((laws_eqInt64S.f kj15 t192 t211).bind fun t214 => (if t214 = true then ((laws_toInt64S.f kj15 l2).bind fun t215 => ((laws_eqInt64S.f kj15 t195 t215).bind fun t218 => (if t218 = true then ((laws_markInt64S.f kj15 t192 1).bind fun bt219 => ((laws_markInt64S.f kj15 t195 bt219.1).bind fun bt221 => (if bt221.1 < 0 then (laws_FnExactEightTerms.j1 kj15 l1 l2 t188 t191 t206 true a0_0 a0_1 a0_2 a0_3 a0_4 a0_5 a0_6 a0_7) else ((laws_eqInt64S.f kj15 t206 t188).bind fun t223 => (if t223 = true then (laws_FnExactEightTerms.j1 kj15 l1 l2 t188 t191 t206 (t209 != t191) a0_0 a0_1 a0_2 a0_3 a0_4 a0_5 a0_6 a0_7) else (laws_FnExactEightTerms.j1 kj15 l1 l2 t188 t191 t206 true a0_0 a0_1 a0_2 a0_3 a0_4 a0_5 a0_6 a0_7)))))) else (some false)))) else (some false)))) = some r := by rw [if_neg (show ¬ (false = true) by decide)] at H; exact H
   clear H
   have H := H1
   clear H1
   replace H := Option.bind_eq_some_iff.mp H
   obtain ⟨t211, A390, H⟩ := H
   replace H : ((laws_eqInt64S.f kj15 t192 t211).bind fun t214 => (if t214 = true then ((laws_toInt64S.f kj15 l2).bind fun t215 => ((laws_eqInt64S.f kj15 t195 t215).bind fun t218 => (if t218 = true then ((laws_markInt64S.f kj15 t192 1).bind fun bt219 => ((laws_markInt64S.f kj15 t195 bt219.1).bind fun bt221 => (if bt221.1 < 0 then (laws_FnExactEightTerms.j1 kj15 l1 l2 t188 t191 t206 true a0_0 a0_1 a0_2 a0_3 a0_4 a0_5 a0_6 a0_7) else ((laws_eqInt64S.f kj15 t206 t188).bind fun t223 => (if t223 = true then (laws_FnExactEightTerms.j1 kj15 l1 l2 t188 t191 t206 (t209 != t191) a0_0 a0_1 a0_2 a0_3 a0_4 a0_5 a0_6 a0_7) else (laws_FnExactEightTerms.j1 kj15 l1 l2 t188 t191 t206 true a0_0 a0_1 a0_2 a0_3 a0_4 a0_5 a0_6 a0_7)))))) else (some false)))) else (some false))) = some r := H
   have A39 := aM5_ A390
   clear A390
   replace H := Option.bind_eq_some_iff.mp H
   obtain ⟨t214, A400, H⟩ := H
   replace H : (if t214 = true then ((laws_toInt64S.f kj15 l2).bind fun t215 => ((laws_eqInt64S.f kj15 t195 t215).bind fun t218 => (if t218 = true then ((laws_markInt64S.f kj15 t192 1).bind fun bt219 => ((laws_markInt64S.f kj15 t195 bt219.1).bind fun bt221 => (if bt221.1 < 0 then (laws_FnExactEightTerms.j1 kj15 l1 l2 t188 t191 t206 true a0_0 a0_1 a0_2 a0_3 a0_4 a0_5 a0_6 a0_7) else ((laws_eqInt64S.f kj15 t206 t188).bind fun t223 => (if t223 = true then (laws_FnExactEightTerms.j1 kj15 l1 l2 t188 t191 t206 (t209 != t191) a0_0 a0_1 a0_2 a0_3 a0_4 a0_5 a0_6 a0_7) else (laws_FnExactEightTerms.j1 kj15 l1 l2 t188 t191 t206 true a0_0 a0_1 a0_2 a0_3 a0_4 a0_5 a0_6 a0_7)))))) else (some false)))) else (some false)) = some r := H
   have A40 := aM5_ A400
   clear A400
   by_cases c41 : t214 = true
   rotate_left
   ·replace c41 := Bool.eq_false_iff.mpr c41
    subst c41
    have H1 : (some false) = some r := by rw [if_neg (show ¬ (false = true) by decide)] at H; exact H
    clear H
    have H := H1
    clear H1
    obtain rfl := Option.some.inj H
    go_wp2_with (first | ((with_reducible refine gate_callee (f := 11) rfl ?_); refine goesL_ (some 57) rfl rfl Try.func11 (by kernel_rfl) rfl #[.slice A1 l1.length c1] rfl q5x1_ ?_; (with_reducible refine (laws_toInt64S.calls kj15 _ _ l1 t211 _ ?side1 ?side2 A39.out).mono ?_); (case side1 => repeat (first | exact (Kd.C_below HR1.out HB.out) | (with_reducible refine Kd.C_alloc ?_ _) | (with_reducible refine Kd.C_drewN ?_ _) | (with_reducible refine Kd.C_drew ?_))); (case side2 => exact HC1.out); rintro e w98 ⟨v212, rfl, ho0, hb⟩; refine ⟨_, rfl, ?_⟩; have n0_ := aM5_ (Kd.R_elder' q5x5_ (Kd.R_base ho0) hb); have n1_ := aM5_ (Kd.R_elder' q5x9_ (Kd.R_base ho0) hb); have n2_ := aM5_ (Kd.R_elder' q5x8_ (Kd.R_base ho0) hb); have n3_ := aM5_ (Kd.R_elder' q5x4_ (Kd.R_base ho0) hb); have n4_ := aM5_ (Kd.R_lower (Kd.R_new' (Kd.R_new' (Kd.R_new' (Kd.R_new' ho0 (Kd.R_lt q5x5_)) (Kd.R_lt q5x9_)) (Kd.R_lt q5x8_)) (Kd.R_lt q5x4_)) (below_size q5x2_)); have n5_ := aM5_ (blk_below (g := gb173) (o := .cells #[.int .i64 a0_0, .int .i64 a0_1, .int .i64 a0_2, .int .i64 a0_3, .int .i64 a0_4, .int .i64 a0_5, .int .i64 a0_6, .int .i64 a0_7] 40 (0, 0)) q5x3_ hb); have n6_ := aM5_ (below_step q5x2_ hb); clear HO_7; clear HO_9; clear HO_10; clear HO_11; clear BK173; clear HB; have HO_7 := n0_; have HO_9 := n1_; have HO_10 := n2_; have HO_11 := n3_; have HO213 := n4_; have BK173 := n5_; have HB := n6_; clear n0_ n1_ n2_ n3_ n4_ n5_ n6_; (try clear hb); (try clear hb2); (try clear hk); (try clear hi); (try clear ho0); obtain ⟨Ao99, co99, eo99⟩ := Kd.R_slice HO213.out; subst eo99) | ((with_reducible refine gate_callee (f := 13) rfl ?_); refine goesL_ (some 58) rfl rfl Try.func13 (by kernel_rfl) rfl #[.slice Ao29 t192.length co29, .slice Ao99 t211.length co99] rfl q5x1_ ?_; (with_reducible refine (laws_eqInt64S.calls kj15 _ _ t192 _ _ t211 false _ ?side1 ?side2 ?side3 ?side4 A40.out).mono ?_); (case side1 => repeat (first | exact (Kd.R_reads' HO_9.out).2.2 | (with_reducible refine Kd.C_alloc ?_ _) | (with_reducible refine Kd.C_drewN ?_ _) | (with_reducible refine Kd.C_drew ?_))); (case side2 => exact (Kd.R_reads' HO_9.out).2.1); (case side3 => repeat (first | exact (Kd.R_reads' HO213.out).2.2 | (with_reducible refine Kd.C_alloc ?_ _) | (with_reducible refine Kd.C_drewN ?_ _) | (with_reducible refine Kd.C_drew ?_))); (case side4 => exact (Kd.R_reads' HO213.out).2.1); rintro e w' ⟨rfl, ⟨nd, rfl⟩⟩; refine ⟨_, rfl, ?_⟩))
    go_ret
    exact ⟨by first | rfl | (simp [errW_none, errW_some] <;> rfl) | (simp [*, errW_none, errW_some] <;> rfl), by repeat (first | (with_reducible first | exact HB.out | apply below_alloc | apply pw_below_drewN | apply below_drew1 | refine below_set ?_ GE173.out) | exact HB.out)⟩

   subst c41
   have H1 : ((laws_toInt64S.f kj15 l2).bind fun t215 => ((laws_eqInt64S.f kj15 t195 t215).bind fun t218 => (if t218 = true then ((laws_markInt64S.f kj15 t192 1).bind fun bt219 => ((laws_markInt64S.f kj15 t195 bt219.1).bind fun bt221 => (if bt221.1 < 0 then (laws_FnExactEightTerms.j1 kj15 l1 l2 t188 t191 t206 true a0_0 a0_1 a0_2 a0_3 a0_4 a0_5 a0_6 a0_7) else ((laws_eqInt64S.f kj15 t206 t188).bind fun t223 => (if t223 = true then (laws_FnExactEightTerms.j1 kj15 l1 l2 t188 t191 t206 (t209 != t191) a0_0 a0_1 a0_2 a0_3 a0_4 a0_5 a0_6 a0_7) else (laws_FnExactEightTerms.j1 kj15 l1 l2 t188 t191 t206 true a0_0 a0_1 a0_2 a0_3 a0_4 a0_5 a0_6 a0_7)))))) else (some false)))) = some r := by rw [if_pos rfl] at H; exact H
   clear H
   have H := H1
   clear H1
   replace H := Option.bind_eq_some_iff.mp H
   obtain ⟨t215, A420, H⟩ := H
   replace H : ((laws_eqInt64S.f kj15 t195 t215).bind fun t218 => (if t218 = true then ((laws_markInt64S.f kj15 t192 1).bind fun bt219 => ((laws_markInt64S.f kj15 t195 bt219.1).bind fun bt221 => (if bt221.1 < 0 then (laws_FnExactEightTerms.j1 kj15 l1 l2 t188 t191 t206 true a0_0 a0_1 a0_2 a0_3 a0_4 a0_5 a0_6 a0_7) else ((laws_eqInt64S.f kj15 t206 t188).bind fun t223 => (if t223 = true then (laws_FnExactEightTerms.j1 kj15 l1 l2 t188 t191 t206 (t209 != t191) a0_0 a0_1 a0_2 a0_3 a0_4 a0_5 a0_6 a0_7) else (laws_FnExactEightTerms.j1 kj15 l1 l2 t188 t191 t206 true a0_0 a0_1 a0_2 a0_3 a0_4 a0_5 a0_6 a0_7)))))) else (some false))) = some r := H
   have A42 := aM5_ A420
   clear A420
   replace H := Option.bind_eq_some_iff.mp H
   obtain ⟨t218, A430, H⟩ := H
   replace H : (if t218 = true then ((laws_markInt64S.f kj15 t192 1).bind fun bt219 => ((laws_markInt64S.f kj15 t195 bt219.1).bind fun bt221 => (if bt221.1 < 0 then (laws_FnExactEightTerms.j1 kj15 l1 l2 t188 t191 t206 true a0_0 a0_1 a0_2 a0_3 a0_4 a0_5 a0_6 a0_7) else ((laws_eqInt64S.f kj15 t206 t188).bind fun t223 => (if t223 = true then (laws_FnExactEightTerms.j1 kj15 l1 l2 t188 t191 t206 (t209 != t191) a0_0 a0_1 a0_2 a0_3 a0_4 a0_5 a0_6 a0_7) else (laws_FnExactEightTerms.j1 kj15 l1 l2 t188 t191 t206 true a0_0 a0_1 a0_2 a0_3 a0_4 a0_5 a0_6 a0_7)))))) else (some false)) = some r := H
   have A43 := aM5_ A430
   clear A430
   by_cases c44 : t218 = true
   rotate_left
   ·replace c44 := Bool.eq_false_iff.mpr c44
    subst c44
    have H1 : (some false) = some r := by rw [if_neg (show ¬ (false = true) by decide)] at H; exact H
    clear H
    have H := H1
    clear H1
    obtain rfl := Option.some.inj H
    go_wp2_with (first | ((with_reducible refine gate_callee (f := 11) rfl ?_); refine goesL_ (some 57) rfl rfl Try.func11 (by kernel_rfl) rfl #[.slice A1 l1.length c1] rfl q5x1_ ?_; (with_reducible refine (laws_toInt64S.calls kj15 _ _ l1 t211 _ ?side1 ?side2 A39.out).mono ?_); (case side1 => repeat (first | exact (Kd.C_below HR1.out HB.out) | (with_reducible refine Kd.C_alloc ?_ _) | (with_reducible refine Kd.C_drewN ?_ _) | (with_reducible refine Kd.C_drew ?_))); (case side2 => exact HC1.out); rintro e w94 ⟨v212, rfl, ho0, hb⟩; refine ⟨_, rfl, ?_⟩; have n0_ := aM5_ (Kd.R_elder' q5x5_ (Kd.R_base ho0) hb); have n1_ := aM5_ (Kd.R_elder' q5x9_ (Kd.R_base ho0) hb); have n2_ := aM5_ (Kd.R_elder' q5x8_ (Kd.R_base ho0) hb); have n3_ := aM5_ (Kd.R_elder' q5x4_ (Kd.R_base ho0) hb); have n4_ := aM5_ (Kd.R_lower (Kd.R_new' (Kd.R_new' (Kd.R_new' (Kd.R_new' ho0 (Kd.R_lt q5x5_)) (Kd.R_lt q5x9_)) (Kd.R_lt q5x8_)) (Kd.R_lt q5x4_)) (below_size q5x2_)); have n5_ := aM5_ (blk_below (g := gb173) (o := .cells #[.int .i64 a0_0, .int .i64 a0_1, .int .i64 a0_2, .int .i64 a0_3, .int .i64 a0_4, .int .i64 a0_5, .int .i64 a0_6, .int .i64 a0_7] 40 (0, 0)) q5x3_ hb); have n6_ := aM5_ (below_step q5x2_ hb); clear HO_7; clear HO_9; clear HO_10; clear HO_11; clear BK173; clear HB; have HO_7 := n0_; have HO_9 := n1_; have HO_10 := n2_; have HO_11 := n3_; have HO213 := n4_; have BK173 := n5_; have HB := n6_; clear n0_ n1_ n2_ n3_ n4_ n5_ n6_; (try clear hb); (try clear hb2); (try clear hk); (try clear hi); (try clear ho0); obtain ⟨Ao95, co95, eo95⟩ := Kd.R_slice HO213.out; subst eo95) | ((with_reducible refine gate_callee (f := 13) rfl ?_); refine goesL_ (some 58) rfl rfl Try.func13 (by kernel_rfl) rfl #[.slice Ao29 t192.length co29, .slice Ao95 t211.length co95] rfl q5x1_ ?_; (with_reducible refine (laws_eqInt64S.calls kj15 _ _ t192 _ _ t211 true _ ?side1 ?side2 ?side3 ?side4 A40.out).mono ?_); (case side1 => repeat (first | exact (Kd.R_reads' HO_9.out).2.2 | (with_reducible refine Kd.C_alloc ?_ _) | (with_reducible refine Kd.C_drewN ?_ _) | (with_reducible refine Kd.C_drew ?_))); (case side2 => exact (Kd.R_reads' HO_9.out).2.1); (case side3 => repeat (first | exact (Kd.R_reads' HO213.out).2.2 | (with_reducible refine Kd.C_alloc ?_ _) | (with_reducible refine Kd.C_drewN ?_ _) | (with_reducible refine Kd.C_drew ?_))); (case side4 => exact (Kd.R_reads' HO213.out).2.1); rintro e w' ⟨rfl, ⟨nd, rfl⟩⟩; refine ⟨_, rfl, ?_⟩) | ((with_reducible refine gate_callee (f := 11) rfl ?_); refine goesL_ (some 62) rfl rfl Try.func11 (by kernel_rfl) rfl #[.slice A2 l2.length c2] rfl q5x1_ ?_; (with_reducible refine (laws_toInt64S.calls kj15 _ _ l2 t215 _ ?side1 ?side2 A42.out).mono ?_); (case side1 => repeat (first | exact (Kd.C_below HR2.out q5x2_) | (with_reducible refine Kd.C_alloc ?_ _) | (with_reducible refine Kd.C_drewN ?_ _) | (with_reducible refine Kd.C_drew ?_))); (case side2 => exact HC2.out); rintro e w96 ⟨v216, rfl, ho0, hb⟩; refine ⟨_, rfl, ?_⟩; have n0_ := aM5_ (Kd.R_elder' q5x5_ (Kd.R_base ho0) hb); have n1_ := aM5_ (Kd.R_elder' q5x9_ (Kd.R_base ho0) hb); have n2_ := aM5_ (Kd.R_elder' q5x8_ (Kd.R_base ho0) hb); have n3_ := aM5_ (Kd.R_elder' q5x4_ (Kd.R_base ho0) hb); have n4_ := aM5_ (Kd.R_elder' q5x14_ (Kd.R_base ho0) hb); have n5_ := aM5_ (Kd.R_lower (Kd.R_new' (Kd.R_new' (Kd.R_new' (Kd.R_new' (Kd.R_new' ho0 (Kd.R_lt q5x5_)) (Kd.R_lt q5x9_)) (Kd.R_lt q5x8_)) (Kd.R_lt q5x4_)) (Kd.R_lt q5x14_)) (below_size q5x2_)); have n6_ := aM5_ (blk_below (g := gb173) (o := .cells #[.int .i64 a0_0, .int .i64 a0_1, .int .i64 a0_2, .int .i64 a0_3, .int .i64 a0_4, .int .i64 a0_5, .int .i64 a0_6, .int .i64 a0_7] 40 (0, 0)) q5x3_ hb); have n7_ := aM5_ (below_step q5x2_ hb); clear HO_7; clear HO_9; clear HO_10; clear HO_11; clear HO213; clear BK173; clear HB; have HO_7 := n0_; have HO_9 := n1_; have HO_10 := n2_; have HO_11 := n3_; have HO213 := n4_; have HO217 := n5_; have BK173 := n6_; have HB := n7_; clear n0_ n1_ n2_ n3_ n4_ n5_ n6_ n7_; (try clear hb); (try clear hb2); (try clear hk); (try clear hi); (try clear ho0); obtain ⟨Ao97, co97, eo97⟩ := Kd.R_slice HO217.out; subst eo97) | ((with_reducible refine gate_callee (f := 13) rfl ?_); refine goesL_ (some 63) rfl rfl Try.func13 (by kernel_rfl) rfl #[.slice Ao30 t195.length co30, .slice Ao97 t215.length co97] rfl q5x1_ ?_; (with_reducible refine (laws_eqInt64S.calls kj15 _ _ t195 _ _ t215 false _ ?side1 ?side2 ?side3 ?side4 A43.out).mono ?_); (case side1 => repeat (first | exact (Kd.R_reads' HO_10.out).2.2 | (with_reducible refine Kd.C_alloc ?_ _) | (with_reducible refine Kd.C_drewN ?_ _) | (with_reducible refine Kd.C_drew ?_))); (case side2 => exact (Kd.R_reads' HO_10.out).2.1); (case side3 => repeat (first | exact (Kd.R_reads' HO217.out).2.2 | (with_reducible refine Kd.C_alloc ?_ _) | (with_reducible refine Kd.C_drewN ?_ _) | (with_reducible refine Kd.C_drew ?_))); (case side4 => exact (Kd.R_reads' HO217.out).2.1); rintro e w' ⟨rfl, ⟨nd, rfl⟩⟩; refine ⟨_, rfl, ?_⟩))
    go_ret
    exact ⟨by first | rfl | (simp [errW_none, errW_some] <;> rfl) | (simp [*, errW_none, errW_some] <;> rfl), by repeat (first | (with_reducible first | exact HB.out | apply below_alloc | apply pw_below_drewN | apply below_drew1 | refine below_set ?_ GE173.out) | exact HB.out)⟩
   subst c44
   have H1 : ((laws_markInt64S.f kj15 t192 1).bind fun bt219 => ((laws_markInt64S.f kj15 t195 bt219.1).bind fun bt221 => (if bt221.1 < 0 then (laws_FnExactEightTerms.j1 kj15 l1 l2 t188 t191 t206 true a0_0 a0_1 a0_2 a0_3 a0_4 a0_5 a0_6 a0_7) else ((laws_eqInt64S.f kj15 t206 t188).bind fun t223 => (if t223 = true then (laws_FnExactEightTerms.j1 kj15 l1 l2 t188 t191 t206 (t209 != t191) a0_0 a0_1 a0_2 a0_3 a0_4 a0_5 a0_6 a0_7) else (laws_FnExactEightTerms.j1 kj15 l1 l2 t188 t191 t206 true a0_0 a0_1 a0_2 a0_3 a0_4 a0_5 a0_6 a0_7)))))) = some r := by rw [if_pos rfl] at H; exact H
   clear H
   have H := H1
   clear H1
   replace H := Option.bind_eq_some_iff.mp H
   obtain ⟨⟨t219, t220⟩, A450, H⟩ := H
   replace H : ((laws_markInt64S.f kj15 t195 t219).bind fun bt221 => (if bt221.1 < 0 then (laws_FnExactEightTerms.j1 kj15 l1 l2 t188 t191 t206 true a0_0 a0_1 a0_2 a0_3 a0_4 a0_5 a0_6 a0_7) else ((laws_eqInt64S.f kj15 t206 t188).bind fun t223 => (if t223 = true then (laws_FnExactEightTerms.j1 kj15 l1 l2 t188 t191 t206 (t209 != t191) a0_0 a0_1 a0_2 a0_3 a0_4 a0_5 a0_6 a0_7) else (laws_FnExactEightTerms.j1 kj15 l1 l2 t188 t191 t206 true a0_0 a0_1 a0_2 a0_3 a0_4 a0_5 a0_6 a0_7))))) = some r := H
   have A45 := aM5_ A450
   clear A450
   replace H := Option.bind_eq_some_iff.mp H
   obtain ⟨⟨t221, t222⟩, A460, H⟩ := H
   replace H : (if t221 < 0 then (laws_FnExactEightTerms.j1 kj15 l1 l2 t188 t191 t206 true a0_0 a0_1 a0_2 a0_3 a0_4 a0_5 a0_6 a0_7) else ((laws_eqInt64S.f kj15 t206 t188).bind fun t223 => (if t223 = true then (laws_FnExactEightTerms.j1 kj15 l1 l2 t188 t191 t206 (t209 != t191) a0_0 a0_1 a0_2 a0_3 a0_4 a0_5 a0_6 a0_7) else (laws_FnExactEightTerms.j1 kj15 l1 l2 t188 t191 t206 true a0_0 a0_1 a0_2 a0_3 a0_4 a0_5 a0_6 a0_7)))) = some r := H
   have A46 := aM5_ A460
   clear A460
   have HC47 := aM5_ H
   clear H
   go_upto_region 18 with (first | ((with_reducible refine gate_callee (f := 11) rfl ?_); refine goesL_ (some 57) rfl rfl Try.func11 (by kernel_rfl) rfl #[.slice A1 l1.length c1] rfl q5x1_ ?_; (with_reducible refine (laws_toInt64S.calls kj15 _ _ l1 t211 _ ?side1 ?side2 A39.out).mono ?_); (case side1 => repeat (first | exact (Kd.C_below HR1.out HB.out) | (with_reducible refine Kd.C_alloc ?_ _) | (with_reducible refine Kd.C_drewN ?_ _) | (with_reducible refine Kd.C_drew ?_))); (case side2 => exact HC1.out); rintro e w48 ⟨v212, rfl, ho0, hb⟩; refine ⟨_, rfl, ?_⟩; have n0_ := aM5_ (Kd.R_elder' q5x5_ (Kd.R_base ho0) hb); have n1_ := aM5_ (Kd.R_elder' q5x9_ (Kd.R_base ho0) hb); have n2_ := aM5_ (Kd.R_elder' q5x8_ (Kd.R_base ho0) hb); have n3_ := aM5_ (Kd.R_elder' q5x4_ (Kd.R_base ho0) hb); have n4_ := aM5_ (Kd.R_lower (Kd.R_new' (Kd.R_new' (Kd.R_new' (Kd.R_new' ho0 (Kd.R_lt q5x5_)) (Kd.R_lt q5x9_)) (Kd.R_lt q5x8_)) (Kd.R_lt q5x4_)) (below_size q5x2_)); have n5_ := aM5_ (blk_below (g := gb173) (o := .cells #[.int .i64 a0_0, .int .i64 a0_1, .int .i64 a0_2, .int .i64 a0_3, .int .i64 a0_4, .int .i64 a0_5, .int .i64 a0_6, .int .i64 a0_7] 40 (0, 0)) q5x3_ hb); have n6_ := aM5_ (below_step q5x2_ hb); clear HO_7; clear HO_9; clear HO_10; clear HO_11; clear BK173; clear HB; have HO_7 := n0_; have HO_9 := n1_; have HO_10 := n2_; have HO_11 := n3_; have HO213 := n4_; have BK173 := n5_; have HB := n6_; clear n0_ n1_ n2_ n3_ n4_ n5_ n6_; (try clear hb); (try clear hb2); (try clear hk); (try clear hi); (try clear ho0); obtain ⟨Ao49, co49, eo49⟩ := Kd.R_slice HO213.out; subst eo49) | ((with_reducible refine gate_callee (f := 13) rfl ?_); refine goesL_ (some 58) rfl rfl Try.func13 (by kernel_rfl) rfl #[.slice Ao29 t192.length co29, .slice Ao49 t211.length co49] rfl q5x1_ ?_; (with_reducible refine (laws_eqInt64S.calls kj15 _ _ t192 _ _ t211 true _ ?side1 ?side2 ?side3 ?side4 A40.out).mono ?_); (case side1 => repeat (first | exact (Kd.R_reads' HO_9.out).2.2 | (with_reducible refine Kd.C_alloc ?_ _) | (with_reducible refine Kd.C_drewN ?_ _) | (with_reducible refine Kd.C_drew ?_))); (case side2 => exact (Kd.R_reads' HO_9.out).2.1); (case side3 => repeat (first | exact (Kd.R_reads' HO213.out).2.2 | (with_reducible refine Kd.C_alloc ?_ _) | (with_reducible refine Kd.C_drewN ?_ _) | (with_reducible refine Kd.C_drew ?_))); (case side4 => exact (Kd.R_reads' HO213.out).2.1); rintro e w' ⟨rfl, ⟨nd, rfl⟩⟩; refine ⟨_, rfl, ?_⟩) | ((with_reducible refine gate_callee (f := 11) rfl ?_); refine goesL_ (some 62) rfl rfl Try.func11 (by kernel_rfl) rfl #[.slice A2 l2.length c2] rfl q5x1_ ?_; (with_reducible refine (laws_toInt64S.calls kj15 _ _ l2 t215 _ ?side1 ?side2 A42.out).mono ?_); (case side1 => repeat (first | exact (Kd.C_below HR2.out q5x2_) | (with_reducible refine Kd.C_alloc ?_ _) | (with_reducible refine Kd.C_drewN ?_ _) | (with_reducible refine Kd.C_drew ?_))); (case side2 => exact HC2.out); rintro e w50 ⟨v216, rfl, ho0, hb⟩; refine ⟨_, rfl, ?_⟩; have n0_ := aM5_ (Kd.R_elder' q5x5_ (Kd.R_base ho0) hb); have n1_ := aM5_ (Kd.R_elder' q5x9_ (Kd.R_base ho0) hb); have n2_ := aM5_ (Kd.R_elder' q5x8_ (Kd.R_base ho0) hb); have n3_ := aM5_ (Kd.R_elder' q5x4_ (Kd.R_base ho0) hb); have n4_ := aM5_ (Kd.R_elder' q5x14_ (Kd.R_base ho0) hb); have n5_ := aM5_ (Kd.R_lower (Kd.R_new' (Kd.R_new' (Kd.R_new' (Kd.R_new' (Kd.R_new' ho0 (Kd.R_lt q5x5_)) (Kd.R_lt q5x9_)) (Kd.R_lt q5x8_)) (Kd.R_lt q5x4_)) (Kd.R_lt q5x14_)) (below_size q5x2_)); have n6_ := aM5_ (blk_below (g := gb173) (o := .cells #[.int .i64 a0_0, .int .i64 a0_1, .int .i64 a0_2, .int .i64 a0_3, .int .i64 a0_4, .int .i64 a0_5, .int .i64 a0_6, .int .i64 a0_7] 40 (0, 0)) q5x3_ hb); have n7_ := aM5_ (below_step q5x2_ hb); clear HO_7; clear HO_9; clear HO_10; clear HO_11; clear HO213; clear BK173; clear HB; have HO_7 := n0_; have HO_9 := n1_; have HO_10 := n2_; have HO_11 := n3_; have HO213 := n4_; have HO217 := n5_; have BK173 := n6_; have HB := n7_; clear n0_ n1_ n2_ n3_ n4_ n5_ n6_ n7_; (try clear hb); (try clear hb2); (try clear hk); (try clear hi); (try clear ho0); obtain ⟨Ao51, co51, eo51⟩ := Kd.R_slice HO217.out; subst eo51) | ((with_reducible refine gate_callee (f := 13) rfl ?_); refine goesL_ (some 63) rfl rfl Try.func13 (by kernel_rfl) rfl #[.slice Ao30 t195.length co30, .slice Ao51 t215.length co51] rfl q5x1_ ?_; (with_reducible refine (laws_eqInt64S.calls kj15 _ _ t195 _ _ t215 true _ ?side1 ?side2 ?side3 ?side4 A43.out).mono ?_); (case side1 => repeat (first | exact (Kd.R_reads' HO_10.out).2.2 | (with_reducible refine Kd.C_alloc ?_ _) | (with_reducible refine Kd.C_drewN ?_ _) | (with_reducible refine Kd.C_drew ?_))); (case side2 => exact (Kd.R_reads' HO_10.out).2.1); (case side3 => repeat (first | exact (Kd.R_reads' HO217.out).2.2 | (with_reducible refine Kd.C_alloc ?_ _) | (with_reducible refine Kd.C_drewN ?_ _) | (with_reducible refine Kd.C_drew ?_))); (case side4 => exact (Kd.R_reads' HO217.out).2.1); rintro e w' ⟨rfl, ⟨nd, rfl⟩⟩; refine ⟨_, rfl, ?_⟩) | ((with_reducible refine gate_callee (f := 14) rfl ?_); refine goesL_ (some 67) rfl rfl Try.func14 (by kernel_rfl) rfl #[.slice Ao29 t192.length co29, .int .i64 1] rfl q5x1_ ?_; (with_reducible refine (laws_markInt64S.calls kj15 (fun k_ => some k_ = (.slice Ao29 t192.length co29 : Value).ownBlock) (.slice Ao29 t192.length co29) t192 1 t219 t220 w _ ?side1 ?side2 A45.out).mono ?_); (case side1 => repeat (first | (with_reducible first | exact HB.out | apply below_alloc | apply pw_below_drewN | apply below_drew1 | refine below_set ?_ GE173.out) | exact HB.out)); (case side2 => exact Kd.R_tight rfl HO_9.out); rintro e w52 ⟨rfl, hy0, hb, hkp⟩; refine ⟨_, rfl, ?_⟩; have n0_ := aM5_ (Kd.R_mono (ok' := fun k_ => some k_ ≠ (.slice Ao29 t192.length co29 : Value).ownBlock ∧ some k_ ≠ (.slice Ao30 t195.length co30 : Value).ownBlock ∧ some k_ ≠ (v207 : Value).ownBlock ∧ some k_ ≠ (.slice Ao49 t211.length co49 : Value).ownBlock ∧ some k_ ≠ (.slice Ao51 t215.length co51 : Value).ownBlock) (Kd.R_keptB (HO_7.out) hkp (fun k_ hk_ hs_ => (hk_.1.1.1) hs_)) (fun k_ hk_ => ⟨hk_.1.1.1.1, hk_.1.1.1.2.1, hk_.1.1.1.2.2, hk_.1.1.2, hk_.1.2⟩)); have n1_ := aM5_ (Kd.R_reok rfl hy0 (fun k_ e_ => HO_9.out.1 k_ e_)); have n2_ := aM5_ (Kd.R_mono (ok' := fun k_ => some k_ ≠ (v189 : Value).ownBlock ∧ some k_ ≠ (.slice Ao29 t192.length co29 : Value).ownBlock ∧ some k_ ≠ (v207 : Value).ownBlock ∧ some k_ ≠ (.slice Ao49 t211.length co49 : Value).ownBlock ∧ some k_ ≠ (.slice Ao51 t215.length co51 : Value).ownBlock) (Kd.R_keptB (HO_10.out) hkp (fun k_ hk_ hs_ => (hk_.1.1.2.1) hs_)) (fun k_ hk_ => ⟨hk_.1.1.1.1, hk_.1.1.1.2.1, hk_.1.1.1.2.2, hk_.1.1.2, hk_.1.2⟩)); have n3_ := aM5_ (Kd.R_mono (ok' := fun k_ => some k_ ≠ (v189 : Value).ownBlock ∧ some k_ ≠ (.slice Ao29 t192.length co29 : Value).ownBlock ∧ some k_ ≠ (.slice Ao30 t195.length co30 : Value).ownBlock ∧ some k_ ≠ (.slice Ao49 t211.length co49 : Value).ownBlock ∧ some k_ ≠ (.slice Ao51 t215.length co51 : Value).ownBlock) (Kd.R_keptB (HO_11.out) hkp (fun k_ hk_ hs_ => (hk_.1.1.2.1) hs_)) (fun k_ hk_ => ⟨hk_.1.1.1.1, hk_.1.1.1.2.1, hk_.1.1.1.2.2, hk_.1.1.2, hk_.1.2⟩)); have n4_ := aM5_ (blk_kept q5x3_ hkp (fun hs_ => (fun e_ => (Kd.R_ne HO_9.out BK173.out (by decide)) e_) hs_)); have n5_ := aM5_ (Kd.R_mono (ok' := fun k_ => some k_ ≠ (v189 : Value).ownBlock ∧ some k_ ≠ (.slice Ao29 t192.length co29 : Value).ownBlock ∧ some k_ ≠ (.slice Ao30 t195.length co30 : Value).ownBlock ∧ some k_ ≠ (v207 : Value).ownBlock ∧ some k_ ≠ (.slice Ao51 t215.length co51 : Value).ownBlock) (Kd.R_keptB (HO213.out) hkp (fun k_ hk_ hs_ => (hk_.1.1.1.2) hs_)) (fun k_ hk_ => ⟨hk_.1.1.1.1.1.2, hk_.1.1.1.1.2, hk_.1.1.1.2, hk_.1.1.2, hk_.1.2⟩)); have n6_ := aM5_ (Kd.R_mono (ok' := fun k_ => some k_ ≠ (v189 : Value).ownBlock ∧ some k_ ≠ (.slice Ao29 t192.length co29 : Value).ownBlock ∧ some k_ ≠ (.slice Ao30 t195.length co30 : Value).ownBlock ∧ some k_ ≠ (v207 : Value).ownBlock ∧ some k_ ≠ (.slice Ao49 t211.length co49 : Value).ownBlock) (Kd.R_keptB (HO217.out) hkp (fun k_ hk_ hs_ => (hk_.1.1.1.2) hs_)) (fun k_ hk_ => ⟨hk_.1.1.1.1.1.2, hk_.1.1.1.1.2, hk_.1.1.1.2, hk_.1.1.2, hk_.1.2⟩)); have n7_ := aM5_ (hb); clear HO_7; clear HO_9; clear HO_10; clear HO_11; clear BK173; clear HO213; clear HO217; clear HB; have HO_7 := n0_; have HO_9 := n1_; have HO_10 := n2_; have HO_11 := n3_; have BK173 := n4_; have HO213 := n5_; have HO217 := n6_; have HB := n7_; clear n0_ n1_ n2_ n3_ n4_ n5_ n6_ n7_; (try clear hb); (try clear hkp); (try clear hy0)) | ((with_reducible refine gate_callee (f := 14) rfl ?_); refine goesL_ (some 70) rfl rfl Try.func14 (by kernel_rfl) rfl #[.slice Ao30 t195.length co30, .int .i64 t219] rfl q5x1_ ?_; (with_reducible refine (laws_markInt64S.calls kj15 (fun k_ => some k_ = (.slice Ao30 t195.length co30 : Value).ownBlock) (.slice Ao30 t195.length co30) t195 t219 t221 t222 w _ ?side1 ?side2 A46.out).mono ?_); (case side1 => repeat (first | (with_reducible first | exact HB.out | apply below_alloc | apply pw_below_drewN | apply below_drew1 | refine below_set ?_ GE173.out) | exact HB.out)); (case side2 => exact Kd.R_tight rfl HO_10.out); rintro e w53 ⟨rfl, hy0, hb, hkp⟩; refine ⟨_, rfl, ?_⟩; have n0_ := aM5_ (Kd.R_mono (ok' := fun k_ => some k_ ≠ (.slice Ao29 t192.length co29 : Value).ownBlock ∧ some k_ ≠ (.slice Ao30 t195.length co30 : Value).ownBlock ∧ some k_ ≠ (v207 : Value).ownBlock ∧ some k_ ≠ (.slice Ao49 t211.length co49 : Value).ownBlock ∧ some k_ ≠ (.slice Ao51 t215.length co51 : Value).ownBlock) (Kd.R_keptB (HO_7.out) hkp (fun k_ hk_ hs_ => (hk_.2.1) hs_)) (fun k_ hk_ => ⟨hk_.1.1, hk_.1.2.1, hk_.1.2.2.1, hk_.1.2.2.2.1, hk_.1.2.2.2.2⟩)); have n1_ := aM5_ (Kd.R_mono (ok' := fun k_ => some k_ ≠ (v189 : Value).ownBlock ∧ some k_ ≠ (.slice Ao30 t195.length co30 : Value).ownBlock ∧ some k_ ≠ (v207 : Value).ownBlock ∧ some k_ ≠ (.slice Ao49 t211.length co49 : Value).ownBlock ∧ some k_ ≠ (.slice Ao51 t215.length co51 : Value).ownBlock) (Kd.R_keptB (HO_9.out) hkp (fun k_ hk_ hs_ => (hk_.1.1.2.1) hs_)) (fun k_ hk_ => ⟨hk_.1.1.1.1, hk_.1.1.1.2.1, hk_.1.1.1.2.2, hk_.1.1.2, hk_.1.2⟩)); have n2_ := aM5_ (Kd.R_reok rfl hy0 (fun k_ e_ => HO_10.out.1 k_ e_)); have n3_ := aM5_ (Kd.R_mono (ok' := fun k_ => some k_ ≠ (v189 : Value).ownBlock ∧ some k_ ≠ (.slice Ao29 t192.length co29 : Value).ownBlock ∧ some k_ ≠ (.slice Ao30 t195.length co30 : Value).ownBlock ∧ some k_ ≠ (.slice Ao49 t211.length co49 : Value).ownBlock ∧ some k_ ≠ (.slice Ao51 t215.length co51 : Value).ownBlock) (Kd.R_keptB (HO_11.out) hkp (fun k_ hk_ hs_ => (hk_.2.2.1) hs_)) (fun k_ hk_ => ⟨hk_.1.1, hk_.1.2.1, hk_.1.2.2.1, hk_.1.2.2.2.1, hk_.1.2.2.2.2⟩)); have n4_ := aM5_ (blk_kept q5x3_ hkp (fun hs_ => (fun e_ => (Kd.R_ne HO_10.out BK173.out (by decide)) e_) hs_)); have n5_ := aM5_ (Kd.R_mono (ok' := fun k_ => some k_ ≠ (v189 : Value).ownBlock ∧ some k_ ≠ (.slice Ao29 t192.length co29 : Value).ownBlock ∧ some k_ ≠ (.slice Ao30 t195.length co30 : Value).ownBlock ∧ some k_ ≠ (v207 : Value).ownBlock ∧ some k_ ≠ (.slice Ao51 t215.length co51 : Value).ownBlock) (Kd.R_keptB (HO213.out) hkp (fun k_ hk_ hs_ => (hk_.2.2.1) hs_)) (fun k_ hk_ => ⟨hk_.1.1, hk_.1.2.1, hk_.1.2.2.1, hk_.1.2.2.2.1, hk_.1.2.2.2.2⟩)); have n6_ := aM5_ (Kd.R_mono (ok' := fun k_ => some k_ ≠ (v189 : Value).ownBlock ∧ some k_ ≠ (.slice Ao29 t192.length co29 : Value).ownBlock ∧ some k_ ≠ (.slice Ao30 t195.length co30 : Value).ownBlock ∧ some k_ ≠ (v207 : Value).ownBlock ∧ some k_ ≠ (.slice Ao49 t211.length co49 : Value).ownBlock) (Kd.R_keptB (HO217.out) hkp (fun k_ hk_ hs_ => (hk_.2.2.1) hs_)) (fun k_ hk_ => ⟨hk_.1.1, hk_.1.2.1, hk_.1.2.2.1, hk_.1.2.2.2.1, hk_.1.2.2.2.2⟩)); have n7_ := aM5_ (hb); clear HO_7; clear HO_9; clear HO_10; clear HO_11; clear BK173; clear HO213; clear HO217; clear HB; have HO_7 := n0_; have HO_9 := n1_; have HO_10 := n2_; have HO_11 := n3_; have BK173 := n4_; have HO213 := n5_; have HO217 := n6_; have HB := n7_; clear n0_ n1_ n2_ n3_ n4_ n5_ n6_ n7_; (try clear hb); (try clear hkp); (try clear hy0)))
   (try simp only [Act.put, List.setIfInBounds_toArray, List.set_cons_zero, List.set_cons_succ])
   go_cut [83] (fun v83 wc => ∃ (kq : Nat) (x83_46 : Bool), v83 = .bool x83_46 ∧ Aside0 (laws_FnExactEightTerms.j1 kq l1 l2 t188 t191 t206 x83_46 a0_0 a0_1 a0_2 a0_3 a0_4 a0_5 a0_6 a0_7 = some r) ∧ Aside0 (kq ≤ kj15) ∧ Aside0 (Kd.R (Kd.int .i64) 2 wc w.heap.size (fun k_ => some k_ ≠ (v207 : Value).ownBlock) v189 t188) ∧ Aside0 (Kd.R (Kd.int .i64) 2 wc w.heap.size (fun k_ => some k_ ≠ (v189 : Value).ownBlock) v207 t206) ∧ Aside0 (wc.heap[gb173]? = some (.cells #[.int .i64 a0_0, .int .i64 a0_1, .int .i64 a0_2, .int .i64 a0_3, .int .i64 a0_4, .int .i64 a0_5, .int .i64 a0_6, .int .i64 a0_7] 40 (0, 0))) ∧ Aside0 (Below w.heap.size w wc))
   case first =>
    have H := HC47.out
    clear HC47
    by_cases c54 : t221 < 0
    ·rw [if_pos c54] at H
     have c54b0 : decide (t221 < 0) = true := decide_eq_true c54
     clear c54
     (first | rw [c54b0] | (simp only [i64_w, i32_w]; rw [c54b0]) | skip)
     have H' := aM5_ H
     clear H
     go_wp2
     go_meet
     case rel => exact ⟨_, (true), q5x16_, H', ⟨by have := HJ15.out; first | omega | exact Nat.le_refl _⟩, ⟨by (with_reducible repeat (first | apply Kd.R_alloc | apply Kd.R_drewN | apply Kd.R_drew)); exact Kd.R_mono HO_7.out (fun _ hk => hk.2.2.1)⟩, ⟨by (with_reducible repeat (first | apply Kd.R_alloc | apply Kd.R_drewN | apply Kd.R_drew)); exact Kd.R_mono HO_11.out (fun _ hk => hk.1)⟩, ⟨by (with_reducible repeat (first | refine blk_drewN ?_ _ | refine blk_drew ?_ | refine blk_alloc ?_ _)); exact BK173.out⟩, ⟨by repeat (first | (with_reducible first | exact HB.out | apply below_alloc | apply pw_below_drewN | apply below_drew1 | refine below_set ?_ GE173.out) | exact HB.out)⟩⟩
    rw [if_neg c54] at H
    have c54b0 : decide (t221 < 0) = false := decide_eq_false c54
    clear c54
    (first | rw [c54b0] | (simp only [i64_w, i32_w]; rw [c54b0]) | skip)
    replace H := Option.bind_eq_some_iff.mp H
    obtain ⟨t223, A550, H⟩ := H
    replace H : (if t223 = true then (laws_FnExactEightTerms.j1 kj15 l1 l2 t188 t191 t206 (t209 != t191) a0_0 a0_1 a0_2 a0_3 a0_4 a0_5 a0_6 a0_7) else (laws_FnExactEightTerms.j1 kj15 l1 l2 t188 t191 t206 true a0_0 a0_1 a0_2 a0_3 a0_4 a0_5 a0_6 a0_7)) = some r := H
    have A55 := aM5_ A550
    clear A550
    by_cases c56 : t223 = true
    ·subst c56
     have H1 : (laws_FnExactEightTerms.j1 kj15 l1 l2 t188 t191 t206 (t209 != t191) a0_0 a0_1 a0_2 a0_3 a0_4 a0_5 a0_6 a0_7) = some r := by rw [if_pos rfl] at H; exact H
     clear H
     have H := H1
     clear H1
     have H' := aM5_ H
     clear H
     obtain ⟨Ao57, co57, eo57⟩ := Kd.R_slice HO_11.out
     subst eo57
     obtain ⟨Ao58, co58, eo58⟩ := Kd.R_slice HO_7.out
     subst eo58
     go_wp2_with (first | (go_at_call 13; (with_reducible refine (laws_eqInt64S.calls kj15 _ _ t206 _ _ t188 true _ ?side1 ?side2 ?side3 ?side4 A55.out).mono ?_); (case side1 => repeat (first | exact (Kd.R_reads' HO_11.out).2.2 | (with_reducible refine Kd.C_alloc ?_ _) | (with_reducible refine Kd.C_drewN ?_ _) | (with_reducible refine Kd.C_drew ?_))); (case side2 => exact (Kd.R_reads' HO_11.out).2.1); (case side3 => repeat (first | exact (Kd.R_reads' HO_7.out).2.2 | (with_reducible refine Kd.C_alloc ?_ _) | (with_reducible refine Kd.C_drewN ?_ _) | (with_reducible refine Kd.C_drew ?_))); (case side4 => exact (Kd.R_reads' HO_7.out).2.1); rintro e w' ⟨rfl, ⟨nd, rfl⟩⟩))
     go_meet
     case rel => exact ⟨_, ((t209 != t191)), q5x16_, H', ⟨by have := HJ15.out; first | omega | exact Nat.le_refl _⟩, ⟨by (with_reducible repeat (first | apply Kd.R_alloc | apply Kd.R_drewN | apply Kd.R_drew)); exact Kd.R_mono HO_7.out (fun _ hk => hk.2.2.1)⟩, ⟨by (with_reducible repeat (first | apply Kd.R_alloc | apply Kd.R_drewN | apply Kd.R_drew)); exact Kd.R_mono HO_11.out (fun _ hk => hk.1)⟩, ⟨by (with_reducible repeat (first | refine blk_drewN ?_ _ | refine blk_drew ?_ | refine blk_alloc ?_ _)); exact BK173.out⟩, ⟨by repeat (first | (with_reducible first | exact HB.out | apply below_alloc | apply pw_below_drewN | apply below_drew1 | refine below_set ?_ GE173.out) | exact HB.out)⟩⟩
    replace c56 := Bool.eq_false_iff.mpr c56
    subst c56
    have H1 : (laws_FnExactEightTerms.j1 kj15 l1 l2 t188 t191 t206 true a0_0 a0_1 a0_2 a0_3 a0_4 a0_5 a0_6 a0_7) = some r := by rw [if_neg (show ¬ (false = true) by decide)] at H; exact H
    clear H
    have H := H1
    clear H1
    have H' := aM5_ H
    clear H
    obtain ⟨Ao59, co59, eo59⟩ := Kd.R_slice HO_11.out
    subst eo59
    obtain ⟨Ao60, co60, eo60⟩ := Kd.R_slice HO_7.out
    subst eo60
    go_wp2_with (first | (go_at_call 13; (with_reducible refine (laws_eqInt64S.calls kj15 _ _ t206 _ _ t188 false _ ?side1 ?side2 ?side3 ?side4 A55.out).mono ?_); (case side1 => repeat (first | exact (Kd.R_reads' HO_11.out).2.2 | (with_reducible refine Kd.C_alloc ?_ _) | (with_reducible refine Kd.C_drewN ?_ _) | (with_reducible refine Kd.C_drew ?_))); (case side2 => exact (Kd.R_reads' HO_11.out).2.1); (case side3 => repeat (first | exact (Kd.R_reads' HO_7.out).2.2 | (with_reducible refine Kd.C_alloc ?_ _) | (with_reducible refine Kd.C_drewN ?_ _) | (with_reducible refine Kd.C_drew ?_))); (case side4 => exact (Kd.R_reads' HO_7.out).2.1); rintro e w' ⟨rfl, ⟨nd, rfl⟩⟩))
    go_meet
    case rel => exact ⟨_, (true), q5x16_, H', ⟨by have := HJ15.out; first | omega | exact Nat.le_refl _⟩, ⟨by (with_reducible repeat (first | apply Kd.R_alloc | apply Kd.R_drewN | apply Kd.R_drew)); exact Kd.R_mono HO_7.out (fun _ hk => hk.2.2.1)⟩, ⟨by (with_reducible repeat (first | apply Kd.R_alloc | apply Kd.R_drewN | apply Kd.R_drew)); exact Kd.R_mono HO_11.out (fun _ hk => hk.1)⟩, ⟨by (with_reducible repeat (first | refine blk_drewN ?_ _ | refine blk_drew ?_ | refine blk_alloc ?_ _)); exact BK173.out⟩, ⟨by repeat (first | (with_reducible first | exact HB.out | apply below_alloc | apply pw_below_drewN | apply below_drew1 | refine below_set ?_ GE173.out) | exact HB.out)⟩⟩
   case rest =>
    clear HC47
    try clear c1
    try clear c2
    try clear p2
    try clear c3
    try clear c4
    try clear c4b0
    try clear c4b1
    try clear c5
    try clear c6
    try clear c6b0
    try clear c6b1
    try clear c11
    try clear c13
    try clear c14
    try clear c21
    try clear c22
    try clear c23
    try clear c33
    try clear c38
    try clear c41
    try clear c44
    try clear c54
    try clear c54b0
    try clear c56
    try clear hcz18_0
    try clear hcz18_1
    try clear hcz18_2
    try clear hcz18_3
    try clear hcz18_4
    try clear hcz18_5
    try clear hcz18_6
    try clear hcz18_7
    try clear hcz27_0
    try clear hcz27_1
    try clear hcz27_2
    try clear hcz27_3
    try clear hcz27_4
    try clear hcz27_5
    try clear hcz27_6
    try clear hcz27_7
    try clear hfz18_0
    try clear hfz18_1
    try clear hfz18_2
    try clear hfz18_3
    try clear hfz18_4
    try clear hfz18_5
    try clear hfz18_6
    try clear hfz18_7
    try clear hfz27_0
    try clear hfz27_1
    try clear hfz27_2
    try clear hfz27_3
    try clear hfz27_4
    try clear hfz27_5
    try clear hfz27_6
    try clear hfz27_7
    try clear p2
    obtain ⟨kq, x83_46, rfl, HA, HJ46, HO_7, HO_11, BK173, HB⟩ := hcut
    cases kq with
    | zero => exact absurd HA.out (by simp [laws_FnExactEightTerms.j1])
    | succ kj46 =>
     have H := HA.out
     clear HA
     simp only [laws_FnExactEightTerms.j1] at H
     by_cases c61 : x83_46 = true
     ·subst c61
      have H1 : (some false) = some r := by rw [if_pos rfl] at H; exact H
      clear H
      have H := H1
      clear H1
      obtain rfl := Option.some.inj H
      go_wp2
      go_ret
      exact ⟨by first | rfl | (simp [errW_none, errW_some] <;> rfl) | (simp [*, errW_none, errW_some] <;> rfl), by repeat (first | (with_reducible first | exact HB.out | apply below_alloc | apply pw_below_drewN | apply below_drew1 | refine below_set ?_ GE173.out) | exact HB.out)⟩
     replace c61 := Bool.eq_false_iff.mpr c61
     subst c61
     have H1 : ((laws_markInt64S.f kj46 t206 1).bind fun bt224 => ((laws_heldInt64S.f kj46 bt224.2 1).bind fun t226 => (if t226 < 0 then (some false) else (if t226 = bt224.1 then ((laws_toEight.f kj46 a0_0 a0_1 a0_2 a0_3 a0_4 a0_5 a0_6 a0_7).bind fun bt227 => ((laws_toInt64S.f kj46 l1).bind fun t235 => ((laws_toInt64S.f kj46 l2).bind fun t238 => ((impl_EightTerms.f kj46 bt227.1 bt227.2.1 bt227.2.2.1 bt227.2.2.2.1 bt227.2.2.2.2.1 bt227.2.2.2.2.2.1 bt227.2.2.2.2.2.2.1 bt227.2.2.2.2.2.2.2 t235 t238).bind fun bt241 => ((laws_eqInt64S.f kj46 bt241.1 t188).bind fun t245 => (if t245 = true then (laws_FnExactEightTerms.j2 kj46 bt224.2 bt224.1 (bt241.2 != t191)) else (laws_FnExactEightTerms.j2 kj46 bt224.2 bt224.1 true))))))) else (some false))))) = some r := by rw [if_neg (show ¬ (false = true) by decide)] at H; exact H
     clear H
     have H := H1
     clear H1
     replace H := Option.bind_eq_some_iff.mp H
     obtain ⟨⟨t224, t225⟩, A620, H⟩ := H
     replace H : ((laws_heldInt64S.f kj46 t225 1).bind fun t226 => (if t226 < 0 then (some false) else (if t226 = t224 then ((laws_toEight.f kj46 a0_0 a0_1 a0_2 a0_3 a0_4 a0_5 a0_6 a0_7).bind fun bt227 => ((laws_toInt64S.f kj46 l1).bind fun t235 => ((laws_toInt64S.f kj46 l2).bind fun t238 => ((impl_EightTerms.f kj46 bt227.1 bt227.2.1 bt227.2.2.1 bt227.2.2.2.1 bt227.2.2.2.2.1 bt227.2.2.2.2.2.1 bt227.2.2.2.2.2.2.1 bt227.2.2.2.2.2.2.2 t235 t238).bind fun bt241 => ((laws_eqInt64S.f kj46 bt241.1 t188).bind fun t245 => (if t245 = true then (laws_FnExactEightTerms.j2 kj46 t225 t224 (bt241.2 != t191)) else (laws_FnExactEightTerms.j2 kj46 t225 t224 true))))))) else (some false)))) = some r := H
     have A62 := aM5_ A620
     clear A620
     replace H := Option.bind_eq_some_iff.mp H
     obtain ⟨t226, A630, H⟩ := H
     replace H : (if t226 < 0 then (some false) else (if t226 = t224 then ((laws_toEight.f kj46 a0_0 a0_1 a0_2 a0_3 a0_4 a0_5 a0_6 a0_7).bind fun bt227 => ((laws_toInt64S.f kj46 l1).bind fun t235 => ((laws_toInt64S.f kj46 l2).bind fun t238 => ((impl_EightTerms.f kj46 bt227.1 bt227.2.1 bt227.2.2.1 bt227.2.2.2.1 bt227.2.2.2.2.1 bt227.2.2.2.2.2.1 bt227.2.2.2.2.2.2.1 bt227.2.2.2.2.2.2.2 t235 t238).bind fun bt241 => ((laws_eqInt64S.f kj46 bt241.1 t188).bind fun t245 => (if t245 = true then (laws_FnExactEightTerms.j2 kj46 t225 t224 (bt241.2 != t191)) else (laws_FnExactEightTerms.j2 kj46 t225 t224 true))))))) else (some false))) = some r := H
     have A63 := aM5_ A630
     clear A630
     by_cases c64 : t226 < 0
     ·rw [if_pos c64] at H
      have c64b0 : decide (t226 < 0) = true := decide_eq_true c64
      clear c64
      obtain rfl := Option.some.inj H
      obtain ⟨Ao65, co65, eo65⟩ := Kd.R_slice HO_11.out
      subst eo65
      go_wp2_with (first | ((with_reducible refine gate_callee (f := 14) rfl ?_); refine goesL_ (some 86) rfl rfl Try.func14 (by kernel_rfl) rfl #[.slice Ao65 t206.length co65, .int .i64 1] rfl q5x1_ ?_; (with_reducible refine (laws_markInt64S.calls kj46 (fun k_ => some k_ = (.slice Ao65 t206.length co65 : Value).ownBlock) (.slice Ao65 t206.length co65) t206 1 t224 t225 w _ ?side1 ?side2 A62.out).mono ?_); (case side1 => repeat (first | (with_reducible first | exact HB.out | apply below_alloc | apply pw_below_drewN | apply below_drew1 | refine below_set ?_ GE173.out) | exact HB.out)); (case side2 => exact Kd.R_tight rfl HO_11.out); rintro e w66 ⟨rfl, hy0, hb, hkp⟩; refine ⟨_, rfl, ?_⟩; have n0_ := aM5_ (Kd.R_mono (ok' := fun k_ => some k_ ≠ (.slice Ao65 t206.length co65 : Value).ownBlock) (Kd.R_keptB (HO_7.out) hkp (fun k_ hk_ hs_ => (hk_) hs_)) (fun k_ hk_ => hk_.1)); have n1_ := aM5_ (Kd.R_reok rfl hy0 (fun k_ e_ => HO_11.out.1 k_ e_)); have n2_ := aM5_ (blk_kept q5x3_ hkp (fun hs_ => (fun e_ => (Kd.R_ne HO_11.out BK173.out (by decide)) e_) hs_)); have n3_ := aM5_ (hb); clear HO_7; clear HO_11; clear BK173; clear HB; have HO_7 := n0_; have HO_11 := n1_; have BK173 := n2_; have HB := n3_; clear n0_ n1_ n2_ n3_; (try clear hb); (try clear hkp); (try clear hy0)) | ((with_reducible refine gate_callee (f := 15) rfl ?_); refine goesL_ (some 89) rfl rfl Try.func15 (by kernel_rfl) rfl #[.slice Ao65 t225.length co65, .int .i64 1] rfl q5x12_ ?_; (with_reducible refine (laws_heldInt64S.calls kj46 _ _ t225 1 t226 _ ?side1 ?side2 A63.out).mono ?_); (case side1 => repeat (first | exact (Kd.R_reads' HO_11.out).2.2 | (with_reducible refine Kd.C_alloc ?_ _) | (with_reducible refine Kd.C_drewN ?_ _) | (with_reducible refine Kd.C_drew ?_))); (case side2 => rw [show t225.length = t206.length from (Kd.R_reads' HO_11.out).1.symm]; exact (Kd.R_reads' HO_11.out).2.1); rintro e w' ⟨rfl, ⟨nd, rfl⟩⟩; refine ⟨_, rfl, ?_⟩))
      go_ret
      exact ⟨by first | rfl | (simp [errW_none, errW_some] <;> rfl) | (simp [*, errW_none, errW_some] <;> rfl), by repeat (first | (with_reducible first | exact HB.out | apply below_alloc | apply pw_below_drewN | apply below_drew1 | refine below_set ?_ GE173.out) | exact HB.out)⟩
     rw [if_neg c64] at H
     have c64b0 : decide (t226 < 0) = false := decide_eq_false c64
     clear c64
     by_cases c67 : t226 = t224
     rotate_left
     ·rw [if_neg c67] at H
      have c67b0 : (t226 == t224) = false := beq_eq_false_iff_ne.mpr c67
      have c67b1 : (t226 != t224) = true := bne_iff_ne.mpr c67
      obtain rfl := Option.some.inj H
      obtain ⟨Ao92, co92, eo92⟩ := Kd.R_slice HO_11.out
      subst eo92
      go_wp2_with (first | ((with_reducible refine gate_callee (f := 14) rfl ?_); refine goesL_ (some 86) rfl rfl Try.func14 (by kernel_rfl) rfl #[.slice Ao92 t206.length co92, .int .i64 1] rfl q5x1_ ?_; (with_reducible refine (laws_markInt64S.calls kj46 (fun k_ => some k_ = (.slice Ao92 t206.length co92 : Value).ownBlock) (.slice Ao92 t206.length co92) t206 1 t224 t225 w _ ?side1 ?side2 A62.out).mono ?_); (case side1 => repeat (first | (with_reducible first | exact HB.out | apply below_alloc | apply pw_below_drewN | apply below_drew1 | refine below_set ?_ GE173.out) | exact HB.out)); (case side2 => exact Kd.R_tight rfl HO_11.out); rintro e w93 ⟨rfl, hy0, hb, hkp⟩; refine ⟨_, rfl, ?_⟩; have n0_ := aM5_ (Kd.R_mono (ok' := fun k_ => some k_ ≠ (.slice Ao92 t206.length co92 : Value).ownBlock) (Kd.R_keptB (HO_7.out) hkp (fun k_ hk_ hs_ => (hk_) hs_)) (fun k_ hk_ => hk_.1)); have n1_ := aM5_ (Kd.R_reok rfl hy0 (fun k_ e_ => HO_11.out.1 k_ e_)); have n2_ := aM5_ (blk_kept q5x3_ hkp (fun hs_ => (fun e_ => (Kd.R_ne HO_11.out BK173.out (by decide)) e_) hs_)); have n3_ := aM5_ (hb); clear HO_7; clear HO_11; clear BK173; clear HB; have HO_7 := n0_; have HO_11 := n1_; have BK173 := n2_; have HB := n3_; clear n0_ n1_ n2_ n3_; (try clear hb); (try clear hkp); (try clear hy0)) | ((with_reducible refine gate_callee (f := 15) rfl ?_); refine goesL_ (some 89) rfl rfl Try.func15 (by kernel_rfl) rfl #[.slice Ao92 t225.length co92, .int .i64 1] rfl q5x12_ ?_; (with_reducible refine (laws_heldInt64S.calls kj46 _ _ t225 1 t226 _ ?side1 ?side2 A63.out).mono ?_); (case side1 => repeat (first | exact (Kd.R_reads' HO_11.out).2.2 | (with_reducible refine Kd.C_alloc ?_ _) | (with_reducible refine Kd.C_drewN ?_ _) | (with_reducible refine Kd.C_drew ?_))); (case side2 => rw [show t225.length = t206.length from (Kd.R_reads' HO_11.out).1.symm]; exact (Kd.R_reads' HO_11.out).2.1); rintro e w' ⟨rfl, ⟨nd, rfl⟩⟩; refine ⟨_, rfl, ?_⟩))
      go_ret
      exact ⟨by first | rfl | (simp [errW_none, errW_some] <;> rfl) | (simp [*, errW_none, errW_some] <;> rfl), by repeat (first | (with_reducible first | exact HB.out | apply below_alloc | apply pw_below_drewN | apply below_drew1 | refine below_set ?_ GE173.out) | exact HB.out)⟩
     rw [if_pos c67] at H
     have c67b0 : (t226 == t224) = true := beq_iff_eq.mpr c67
     have c67b1 : (t226 != t224) = false := bne_eq_false_iff_eq.mpr c67
     clear c67
     replace H := Option.bind_eq_some_iff.mp H
     obtain ⟨⟨t227, t228, t229, t230, t231, t232, t233, t234⟩, A680, H⟩ := H
     replace H : ((laws_toInt64S.f kj46 l1).bind fun t235 => ((laws_toInt64S.f kj46 l2).bind fun t238 => ((impl_EightTerms.f kj46 t227 t228 t229 t230 t231 t232 t233 t234 t235 t238).bind fun bt241 => ((laws_eqInt64S.f kj46 bt241.1 t188).bind fun t245 => (if t245 = true then (laws_FnExactEightTerms.j2 kj46 t225 t224 (bt241.2 != t191)) else (laws_FnExactEightTerms.j2 kj46 t225 t224 true)))))) = some r := H
     have A68 := aM5_ A680
     clear A680
     replace H := Option.bind_eq_some_iff.mp H
     obtain ⟨t235, A690, H⟩ := H
     replace H : ((laws_toInt64S.f kj46 l2).bind fun t238 => ((impl_EightTerms.f kj46 t227 t228 t229 t230 t231 t232 t233 t234 t235 t238).bind fun bt241 => ((laws_eqInt64S.f kj46 bt241.1 t188).bind fun t245 => (if t245 = true then (laws_FnExactEightTerms.j2 kj46 t225 t224 (bt241.2 != t191)) else (laws_FnExactEightTerms.j2 kj46 t225 t224 true))))) = some r := H
     have A69 := aM5_ A690
     clear A690
     replace H := Option.bind_eq_some_iff.mp H
     obtain ⟨t238, A700, H⟩ := H
     replace H : ((impl_EightTerms.f kj46 t227 t228 t229 t230 t231 t232 t233 t234 t235 t238).bind fun bt241 => ((laws_eqInt64S.f kj46 bt241.1 t188).bind fun t245 => (if t245 = true then (laws_FnExactEightTerms.j2 kj46 t225 t224 (bt241.2 != t191)) else (laws_FnExactEightTerms.j2 kj46 t225 t224 true)))) = some r := H
     have A70 := aM5_ A700
     clear A700
     replace H := Option.bind_eq_some_iff.mp H
     obtain ⟨⟨t241, t244⟩, A710, H⟩ := H
     replace H : ((laws_eqInt64S.f kj46 t241 t188).bind fun t245 => (if t245 = true then (laws_FnExactEightTerms.j2 kj46 t225 t224 (t244 != t191)) else (laws_FnExactEightTerms.j2 kj46 t225 t224 true))) = some r := H
     have A71 := aM5_ A710
     clear A710
     have HC72 := aM5_ H
     clear H
     obtain ⟨Ao73, co73, eo73⟩ := Kd.R_slice HO_11.out
     subst eo73
     go_upto_region 29 with (first | ((with_reducible refine gate_callee (f := 14) rfl ?_); refine goesL_ (some 86) rfl rfl Try.func14 (by kernel_rfl) rfl #[.slice Ao73 t206.length co73, .int .i64 1] rfl q5x1_ ?_; (with_reducible refine (laws_markInt64S.calls kj46 (fun k_ => some k_ = (.slice Ao73 t206.length co73 : Value).ownBlock) (.slice Ao73 t206.length co73) t206 1 t224 t225 w _ ?side1 ?side2 A62.out).mono ?_); (case side1 => repeat (first | (with_reducible first | exact HB.out | apply below_alloc | apply pw_below_drewN | apply below_drew1 | refine below_set ?_ GE173.out) | exact HB.out)); (case side2 => exact Kd.R_tight rfl HO_11.out); rintro e w74 ⟨rfl, hy0, hb, hkp⟩; refine ⟨_, rfl, ?_⟩; have n0_ := aM5_ (Kd.R_mono (ok' := fun k_ => some k_ ≠ (.slice Ao73 t206.length co73 : Value).ownBlock) (Kd.R_keptB (HO_7.out) hkp (fun k_ hk_ hs_ => (hk_) hs_)) (fun k_ hk_ => hk_.1)); have n1_ := aM5_ (Kd.R_reok rfl hy0 (fun k_ e_ => HO_11.out.1 k_ e_)); have n2_ := aM5_ (blk_kept q5x3_ hkp (fun hs_ => (fun e_ => (Kd.R_ne HO_11.out BK173.out (by decide)) e_) hs_)); have n3_ := aM5_ (hb); clear HO_7; clear HO_11; clear BK173; clear HB; have HO_7 := n0_; have HO_11 := n1_; have BK173 := n2_; have HB := n3_; clear n0_ n1_ n2_ n3_; (try clear hb); (try clear hkp); (try clear hy0)) | ((with_reducible refine gate_callee (f := 15) rfl ?_); refine goesL_ (some 89) rfl rfl Try.func15 (by kernel_rfl) rfl #[.slice Ao73 t225.length co73, .int .i64 1] rfl q5x12_ ?_; (with_reducible refine (laws_heldInt64S.calls kj46 _ _ t225 1 t226 _ ?side1 ?side2 A63.out).mono ?_); (case side1 => repeat (first | exact (Kd.R_reads' HO_11.out).2.2 | (with_reducible refine Kd.C_alloc ?_ _) | (with_reducible refine Kd.C_drewN ?_ _) | (with_reducible refine Kd.C_drew ?_))); (case side2 => rw [show t225.length = t206.length from (Kd.R_reads' HO_11.out).1.symm]; exact (Kd.R_reads' HO_11.out).2.1); rintro e w' ⟨rfl, ⟨nd, rfl⟩⟩; refine ⟨_, rfl, ?_⟩; have hcz75_0 : w74.cell? ⟨gb173, 0, none⟩ = some (.int .i64 a0_0) := (blk_cell BK173.out 0).trans rfl; have hcz75_1 : w74.cell? ⟨gb173, 1, none⟩ = some (.int .i64 a0_1) := (blk_cell BK173.out 1).trans rfl; have hcz75_2 : w74.cell? ⟨gb173, 2, none⟩ = some (.int .i64 a0_2) := (blk_cell BK173.out 2).trans rfl; have hcz75_3 : w74.cell? ⟨gb173, 3, none⟩ = some (.int .i64 a0_3) := (blk_cell BK173.out 3).trans rfl; have hcz75_4 : w74.cell? ⟨gb173, 4, none⟩ = some (.int .i64 a0_4) := (blk_cell BK173.out 4).trans rfl; have hcz75_5 : w74.cell? ⟨gb173, 5, none⟩ = some (.int .i64 a0_5) := (blk_cell BK173.out 5).trans rfl; have hcz75_6 : w74.cell? ⟨gb173, 6, none⟩ = some (.int .i64 a0_6) := (blk_cell BK173.out 6).trans rfl; have hcz75_7 : w74.cell? ⟨gb173, 7, none⟩ = some (.int .i64 a0_7) := (blk_cell BK173.out 7).trans rfl; have hfz75_0 := blk_frozen BK173.out 0; have hfz75_1 := blk_frozen BK173.out 1; have hfz75_2 := blk_frozen BK173.out 2; have hfz75_3 := blk_frozen BK173.out 3; have hfz75_4 := blk_frozen BK173.out 4; have hfz75_5 := blk_frozen BK173.out 5; have hfz75_6 := blk_frozen BK173.out 6; have hfz75_7 := blk_frozen BK173.out 7) | ((with_reducible refine gate_callee (f := 22) rfl ?_); refine goesL_ (some 97) rfl rfl Try.func22 (by kernel_rfl) rfl #[.agg #[.int .i64 a0_0, .int .i64 a0_1, .int .i64 a0_2, .int .i64 a0_3, .int .i64 a0_4, .int .i64 a0_5, .int .i64 a0_6, .int .i64 a0_7]] rfl q5x1_ ?_; (with_reducible refine (laws_toEight.calls kj46 a0_0 a0_1 a0_2 a0_3 a0_4 a0_5 a0_6 a0_7 t227 t228 t229 t230 t231 t232 t233 t234 _ A68.out).mono ?_); rintro e w76 ⟨rfl, hb⟩; refine ⟨_, rfl, ?_⟩; have n0_ := aM5_ (Kd.R_below q5x5_ hb); have n1_ := aM5_ (Kd.R_below q5x4_ hb); have n2_ := aM5_ (blk_below (g := gb173) (o := .cells #[.int .i64 a0_0, .int .i64 a0_1, .int .i64 a0_2, .int .i64 a0_3, .int .i64 a0_4, .int .i64 a0_5, .int .i64 a0_6, .int .i64 a0_7] 40 (0, 0)) q5x3_ hb); have n3_ := aM5_ (below_step q5x2_ hb); clear HO_7; clear HO_11; clear BK173; clear HB; have HO_7 := n0_; have HO_11 := n1_; have BK173 := n2_; have HB := n3_; clear n0_ n1_ n2_ n3_; (try clear hb); (try clear hb2); (try clear hk); (try clear hi)) | ((with_reducible refine gate_callee (f := 11) rfl ?_); refine goesL_ (some 99) rfl rfl Try.func11 (by kernel_rfl) rfl #[.slice A1 l1.length c1] rfl q5x1_ ?_; (with_reducible refine (laws_toInt64S.calls kj46 _ _ l1 t235 _ ?side1 ?side2 A69.out).mono ?_); (case side1 => repeat (first | exact (Kd.C_below HR1.out HB.out) | (with_reducible refine Kd.C_alloc ?_ _) | (with_reducible refine Kd.C_drewN ?_ _) | (with_reducible refine Kd.C_drew ?_))); (case side2 => exact HC1.out); rintro e w77 ⟨v236, rfl, ho0, hb⟩; refine ⟨_, rfl, ?_⟩; have n0_ := aM5_ (Kd.R_elder' q5x5_ (Kd.R_base ho0) hb); have n1_ := aM5_ (Kd.R_elder' q5x4_ (Kd.R_base ho0) hb); have n2_ := aM5_ (Kd.R_lower (Kd.R_new' (Kd.R_new' ho0 (Kd.R_lt q5x5_)) (Kd.R_lt q5x4_)) (below_size q5x2_)); have n3_ := aM5_ (blk_below (g := gb173) (o := .cells #[.int .i64 a0_0, .int .i64 a0_1, .int .i64 a0_2, .int .i64 a0_3, .int .i64 a0_4, .int .i64 a0_5, .int .i64 a0_6, .int .i64 a0_7] 40 (0, 0)) q5x3_ hb); have n4_ := aM5_ (below_step q5x2_ hb); clear HO_7; clear HO_11; clear BK173; clear HB; have HO_7 := n0_; have HO_11 := n1_; have HO237 := n2_; have BK173 := n3_; have HB := n4_; clear n0_ n1_ n2_ n3_ n4_; (try clear hb); (try clear hb2); (try clear hk); (try clear hi); (try clear ho0)) | ((with_reducible refine gate_callee (f := 11) rfl ?_); refine goesL_ (some 101) rfl rfl Try.func11 (by kernel_rfl) rfl #[.slice A2 l2.length c2] rfl q5x1_ ?_; (with_reducible refine (laws_toInt64S.calls kj46 _ _ l2 t238 _ ?side1 ?side2 A70.out).mono ?_); (case side1 => repeat (first | exact (Kd.C_below HR2.out HB.out) | (with_reducible refine Kd.C_alloc ?_ _) | (with_reducible refine Kd.C_drewN ?_ _) | (with_reducible refine Kd.C_drew ?_))); (case side2 => exact HC2.out); rintro e w78 ⟨v239, rfl, ho0, hb⟩; refine ⟨_, rfl, ?_⟩; have n0_ := aM5_ (Kd.R_elder' q5x5_ (Kd.R_base ho0) hb); have n1_ := aM5_ (Kd.R_elder' q5x4_ (Kd.R_base ho0) hb); have n2_ := aM5_ (Kd.R_elder' q5x15_ (Kd.R_base ho0) hb); have n3_ := aM5_ (Kd.R_lower (Kd.R_new' (Kd.R_new' (Kd.R_new' ho0 (Kd.R_lt q5x5_)) (Kd.R_lt q5x4_)) (Kd.R_lt q5x15_)) (below_size q5x2_)); have n4_ := aM5_ (blk_below (g := gb173) (o := .cells #[.int .i64 a0_0, .int .i64 a0_1, .int .i64 a0_2, .int .i64 a0_3, .int .i64 a0_4, .int .i64 a0_5, .int .i64 a0_6, .int .i64 a0_7] 40 (0, 0)) q5x3_ hb); have n5_ := aM5_ (below_step q5x2_ hb); clear HO_7; clear HO_11; clear HO237; clear BK173; clear HB; have HO_7 := n0_; have HO_11 := n1_; have HO237 := n2_; have HO240 := n3_; have BK173 := n4_; have HB := n5_; clear n0_ n1_ n2_ n3_ n4_ n5_; (try clear hb); (try clear hb2); (try clear hk); (try clear hi); (try clear ho0); obtain ⟨Ao79, co79, eo79⟩ := Kd.R_slice HO237.out; subst eo79; obtain ⟨Ao80, co80, eo80⟩ := Kd.R_slice HO240.out; subst eo80) | ((with_reducible refine gate_callee (f := 23) rfl ?_); refine goesL_ (some 102) rfl rfl Try.func23 (by kernel_rfl) rfl #[.agg #[.int .i64 t227, .int .i64 t228, .int .i64 t229, .int .i64 t230, .int .i64 t231, .int .i64 t232, .int .i64 t233, .int .i64 t234], .slice Ao79 t235.length co79, .slice Ao80 t238.length co80] rfl q5x1_ ?_; (with_reducible refine (impl_EightTerms.calls kj46 t227 t228 t229 t230 t231 t232 t233 t234 _ _ t235 _ _ t238 t241 t244 _ ?side1 ?side2 ?side3 ?side4 A71.out).mono ?_); (case side1 => repeat (first | exact (Kd.R_reads' HO237.out).2.2 | (with_reducible refine Kd.C_alloc ?_ _) | (with_reducible refine Kd.C_drewN ?_ _) | (with_reducible refine Kd.C_drew ?_))); (case side2 => exact (Kd.R_reads' HO237.out).2.1); (case side3 => repeat (first | exact (Kd.R_reads' HO240.out).2.2 | (with_reducible refine Kd.C_alloc ?_ _) | (with_reducible refine Kd.C_drewN ?_ _) | (with_reducible refine Kd.C_drew ?_))); (case side4 => exact (Kd.R_reads' HO240.out).2.1); rintro e w81 ⟨v242, rfl, ho0, hb⟩; refine ⟨_, rfl, ?_⟩; have n0_ := aM5_ (Kd.R_elder' q5x5_ (Kd.R_base ho0) hb); have n1_ := aM5_ (Kd.R_elder' q5x4_ (Kd.R_base ho0) hb); have n2_ := aM5_ (Kd.R_elder' q5x15_ (Kd.R_base ho0) hb); have n3_ := aM5_ (Kd.R_elder' (by (with_reducible repeat (first | apply Kd.R_alloc | apply Kd.R_drewN | apply Kd.R_drew)); exact HO240.out) (Kd.R_base ho0) hb); have n4_ := aM5_ (Kd.R_lower (Kd.R_new' (Kd.R_new' (Kd.R_new' (Kd.R_new' ho0 (Kd.R_lt q5x5_)) (Kd.R_lt q5x4_)) (Kd.R_lt q5x15_)) (Kd.R_lt (by (with_reducible repeat (first | apply Kd.R_alloc | apply Kd.R_drewN | apply Kd.R_drew)); exact HO240.out))) (below_size q5x2_)); have n5_ := aM5_ (blk_below (g := gb173) (o := .cells #[.int .i64 a0_0, .int .i64 a0_1, .int .i64 a0_2, .int .i64 a0_3, .int .i64 a0_4, .int .i64 a0_5, .int .i64 a0_6, .int .i64 a0_7] 40 (0, 0)) q5x3_ hb); have n6_ := aM5_ (below_step q5x2_ hb); clear HO_7; clear HO_11; clear HO237; clear HO240; clear BK173; clear HB; have HO_7 := n0_; have HO_11 := n1_; have HO237 := n2_; have HO240 := n3_; have HO243 := n4_; have BK173 := n5_; have HB := n6_; clear n0_ n1_ n2_ n3_ n4_ n5_ n6_; (try clear hb); (try clear hb2); (try clear hk); (try clear hi); (try clear ho0)))
     (try simp only [Act.put, List.setIfInBounds_toArray, List.set_cons_zero, List.set_cons_succ])
     go_cut [113] (fun v113 wc => ∃ (kq : Nat) (x113_71 : Bool), v113 = .bool x113_71 ∧ Aside0 (laws_FnExactEightTerms.j2 kq t225 t224 x113_71 = some r) ∧ Aside0 (kq ≤ kj46) ∧ Aside0 (Kd.R (Kd.int .i64) 2 wc w.heap.size (fun _ => True) (.slice Ao73 t206.length co73) t225) ∧ Aside0 (wc.heap[gb173]? = some (.cells #[.int .i64 a0_0, .int .i64 a0_1, .int .i64 a0_2, .int .i64 a0_3, .int .i64 a0_4, .int .i64 a0_5, .int .i64 a0_6, .int .i64 a0_7] 40 (0, 0))) ∧ Aside0 (Below w.heap.size w wc))
     case first =>
      have H := HC72.out
      clear HC72
      replace H := Option.bind_eq_some_iff.mp H
      obtain ⟨t245, A820, H⟩ := H
      replace H : (if t245 = true then (laws_FnExactEightTerms.j2 kj46 t225 t224 (t244 != t191)) else (laws_FnExactEightTerms.j2 kj46 t225 t224 true)) = some r := H
      have A82 := aM5_ A820
      clear A820
      by_cases c83 : t245 = true
      ·subst c83
       have H1 : (laws_FnExactEightTerms.j2 kj46 t225 t224 (t244 != t191)) = some r := by rw [if_pos rfl] at H; exact H
       clear H
       have H := H1
       clear H1
       have H' := aM5_ H
       clear H
       obtain ⟨Ao84, co84, eo84⟩ := Kd.R_slice HO243.out
       subst eo84
       obtain ⟨Ao85, co85, eo85⟩ := Kd.R_slice HO_7.out
       subst eo85
       go_wp2_with (first | ((with_reducible refine gate_callee (f := 13) rfl ?_); refine goesL_ (some 107) rfl rfl Try.func13 (by kernel_rfl) rfl #[.slice Ao84 t241.length co84, .slice Ao85 t188.length co85] rfl q5x1_ ?_; (with_reducible refine (laws_eqInt64S.calls kj46 _ _ t241 _ _ t188 true _ ?side1 ?side2 ?side3 ?side4 A82.out).mono ?_); (case side1 => repeat (first | exact (Kd.R_reads' HO243.out).2.2 | (with_reducible refine Kd.C_alloc ?_ _) | (with_reducible refine Kd.C_drewN ?_ _) | (with_reducible refine Kd.C_drew ?_))); (case side2 => exact (Kd.R_reads' HO243.out).2.1); (case side3 => repeat (first | exact (Kd.R_reads' HO_7.out).2.2 | (with_reducible refine Kd.C_alloc ?_ _) | (with_reducible refine Kd.C_drewN ?_ _) | (with_reducible refine Kd.C_drew ?_))); (case side4 => exact (Kd.R_reads' HO_7.out).2.1); rintro e w' ⟨rfl, ⟨nd, rfl⟩⟩; refine ⟨_, rfl, ?_⟩))
       go_meet
       case rel => exact ⟨_, ((t244 != t191)), q5x16_, H', ⟨by have := HJ15.out; have := HJ46.out; first | omega | exact Nat.le_refl _⟩, ⟨by (with_reducible repeat (first | apply Kd.R_alloc | apply Kd.R_drewN | apply Kd.R_drew)); exact Kd.R_mono HO_11.out (fun _ hk => trivial)⟩, ⟨by (with_reducible repeat (first | refine blk_drewN ?_ _ | refine blk_drew ?_ | refine blk_alloc ?_ _)); exact BK173.out⟩, ⟨by repeat (first | (with_reducible first | exact HB.out | apply below_alloc | apply pw_below_drewN | apply below_drew1 | refine below_set ?_ GE173.out) | exact HB.out)⟩⟩
      replace c83 := Bool.eq_false_iff.mpr c83
      subst c83
      have H1 : (laws_FnExactEightTerms.j2 kj46 t225 t224 true) = some r := by rw [if_neg (show ¬ (false = true) by decide)] at H; exact H
      clear H
      have H := H1
      clear H1
      have H' := aM5_ H
      clear H
      obtain ⟨Ao86, co86, eo86⟩ := Kd.R_slice HO243.out
      subst eo86
      obtain ⟨Ao87, co87, eo87⟩ := Kd.R_slice HO_7.out
      subst eo87
      go_wp2_with (first | ((with_reducible refine gate_callee (f := 13) rfl ?_); refine goesL_ (some 107) rfl rfl Try.func13 (by kernel_rfl) rfl #[.slice Ao86 t241.length co86, .slice Ao87 t188.length co87] rfl q5x1_ ?_; (with_reducible refine (laws_eqInt64S.calls kj46 _ _ t241 _ _ t188 false _ ?side1 ?side2 ?side3 ?side4 A82.out).mono ?_); (case side1 => repeat (first | exact (Kd.R_reads' HO243.out).2.2 | (with_reducible refine Kd.C_alloc ?_ _) | (with_reducible refine Kd.C_drewN ?_ _) | (with_reducible refine Kd.C_drew ?_))); (case side2 => exact (Kd.R_reads' HO243.out).2.1); (case side3 => repeat (first | exact (Kd.R_reads' HO_7.out).2.2 | (with_reducible refine Kd.C_alloc ?_ _) | (with_reducible refine Kd.C_drewN ?_ _) | (with_reducible refine Kd.C_drew ?_))); (case side4 => exact (Kd.R_reads' HO_7.out).2.1); rintro e w' ⟨rfl, ⟨nd, rfl⟩⟩; refine ⟨_, rfl, ?_⟩))
      go_meet
      case rel => exact ⟨_, (true), q5x16_, H', ⟨by have := HJ15.out; have := HJ46.out; first | omega | exact Nat.le_refl _⟩, ⟨by (with_reducible repeat (first | apply Kd.R_alloc | apply Kd.R_drewN | apply Kd.R_drew)); exact Kd.R_mono HO_11.out (fun _ hk => trivial)⟩, ⟨by (with_reducible repeat (first | refine blk_drewN ?_ _ | refine blk_drew ?_ | refine blk_alloc ?_ _)); exact BK173.out⟩, ⟨by repeat (first | (with_reducible first | exact HB.out | apply below_alloc | apply pw_below_drewN | apply below_drew1 | refine below_set ?_ GE173.out) | exact HB.out)⟩⟩
     case rest =>
      clear HC72
      try clear c1
      try clear c2
      try clear p2
      try clear c3
      try clear c4
      try clear c4b0
      try clear c4b1
      try clear c5
      try clear c6
      try clear c6b0
      try clear c6b1
      try clear c8
      try clear c11
      try clear c13
      try clear c14
      try clear c15
      try clear c21
      try clear c22
      try clear c23
      try clear c33
      try clear c38
      try clear c41
      try clear c44
      try clear c54
      try clear c54b0
      try clear c56
      try clear c61
      try clear c64
      try clear c64b0
      try clear c67
      try clear c67b0
      try clear c67b1
      try clear c83
      try clear hcz18_0
      try clear hcz18_1
      try clear hcz18_2
      try clear hcz18_3
      try clear hcz18_4
      try clear hcz18_5
      try clear hcz18_6
      try clear hcz18_7
      try clear hcz27_0
      try clear hcz27_1
      try clear hcz27_2
      try clear hcz27_3
      try clear hcz27_4
      try clear hcz27_5
      try clear hcz27_6
      try clear hcz27_7
      try clear hcz75_0
      try clear hcz75_1
      try clear hcz75_2
      try clear hcz75_3
      try clear hcz75_4
      try clear hcz75_5
      try clear hcz75_6
      try clear hcz75_7
      try clear hfz18_0
      try clear hfz18_1
      try clear hfz18_2
      try clear hfz18_3
      try clear hfz18_4
      try clear hfz18_5
      try clear hfz18_6
      try clear hfz18_7
      try clear hfz27_0
      try clear hfz27_1
      try clear hfz27_2
      try clear hfz27_3
      try clear hfz27_4
      try clear hfz27_5
      try clear hfz27_6
      try clear hfz27_7
      try clear hfz75_0
      try clear hfz75_1
      try clear hfz75_2
      try clear hfz75_3
      try clear hfz75_4
      try clear hfz75_5
      try clear hfz75_6
      try clear hfz75_7
      try clear p2
      obtain ⟨kq, x113_71, rfl, HA, HJ71, HO_11, BK173, HB⟩ := hcut
      have hl11_71 := (Kd.R_reads' HO_11.out).1
      rw [hl11_71] at HO_11
      (try simp only [hl11_71])
      (try simp only [hl11_71] at BK173)
      cases kq with
      | zero => exact absurd HA.out (by simp [laws_FnExactEightTerms.j2])
      | succ kj71 =>
       have H := HA.out
       clear HA
       simp only [laws_FnExactEightTerms.j2] at H
       by_cases c88 : x113_71 = true
       ·subst c88
        have H1 : (some false) = some r := by rw [if_pos rfl] at H; exact H
        clear H
        have H := H1
        clear H1
        obtain rfl := Option.some.inj H
        go_wp2
        go_ret
        exact ⟨by first | rfl | (simp [errW_none, errW_some] <;> rfl) | (simp [*, errW_none, errW_some] <;> rfl), by repeat (first | (with_reducible first | exact HB.out | apply below_alloc | apply pw_below_drewN | apply below_drew1 | refine below_set ?_ GE173.out) | exact HB.out)⟩
       replace c88 := Bool.eq_false_iff.mpr c88
       subst c88
       have H1 : ((laws_heldInt64S.f kj71 t225 1).bind fun t246 => (if t246 < 0 then (some false) else (if t246 = t224 then (some true) else (some false)))) = some r := by rw [if_neg (show ¬ (false = true) by decide)] at H; exact H
       clear H
       have H := H1
       clear H1
       replace H := Option.bind_eq_some_iff.mp H
       obtain ⟨t246, A890, H⟩ := H
       replace H : (if t246 < 0 then (some false) else (if t246 = t224 then (some true) else (some false))) = some r := H
       have A89 := aM5_ A890
       clear A890
       by_cases c90 : t246 < 0
       ·rw [if_pos c90] at H
        have c90b0 : decide (t246 < 0) = true := decide_eq_true c90
        clear c90
        obtain rfl := Option.some.inj H
        go_wp2_with (first | ((with_reducible refine gate_callee (f := 15) rfl ?_); refine goesL_ (some 116) rfl rfl Try.func15 (by kernel_rfl) rfl #[.slice Ao73 t225.length co73, .int .i64 1] rfl q5x1_ ?_; (with_reducible refine (laws_heldInt64S.calls kj71 _ _ t225 1 t246 _ ?side1 ?side2 A89.out).mono ?_); (case side1 => repeat (first | exact (Kd.R_reads' HO_11.out).2.2 | (with_reducible refine Kd.C_alloc ?_ _) | (with_reducible refine Kd.C_drewN ?_ _) | (with_reducible refine Kd.C_drew ?_))); (case side2 => exact (Kd.R_reads' HO_11.out).2.1); rintro e w' ⟨rfl, ⟨nd, rfl⟩⟩; refine ⟨_, rfl, ?_⟩))
        go_ret
        exact ⟨by first | rfl | (simp [errW_none, errW_some] <;> rfl) | (simp [*, errW_none, errW_some] <;> rfl), by repeat (first | (with_reducible first | exact HB.out | apply below_alloc | apply pw_below_drewN | apply below_drew1 | refine below_set ?_ GE173.out) | exact HB.out)⟩
       rw [if_neg c90] at H
       have c90b0 : decide (t246 < 0) = false := decide_eq_false c90
       clear c90
       by_cases c91 : t246 = t224
       ·rw [if_pos c91] at H
        have c91b0 : (t246 == t224) = true := beq_iff_eq.mpr c91
        have c91b1 : (t246 != t224) = false := bne_eq_false_iff_eq.mpr c91
        clear c91
        obtain rfl := Option.some.inj H
        go_wp2_with (first | ((with_reducible refine gate_callee (f := 15) rfl ?_); refine goesL_ (some 116) rfl rfl Try.func15 (by kernel_rfl) rfl #[.slice Ao73 t225.length co73, .int .i64 1] rfl q5x1_ ?_; (with_reducible refine (laws_heldInt64S.calls kj71 _ _ t225 1 t246 _ ?side1 ?side2 A89.out).mono ?_); (case side1 => repeat (first | exact (Kd.R_reads' HO_11.out).2.2 | (with_reducible refine Kd.C_alloc ?_ _) | (with_reducible refine Kd.C_drewN ?_ _) | (with_reducible refine Kd.C_drew ?_))); (case side2 => exact (Kd.R_reads' HO_11.out).2.1); rintro e w' ⟨rfl, ⟨nd, rfl⟩⟩; refine ⟨_, rfl, ?_⟩))
        go_ret
        exact ⟨by first | rfl | (simp [errW_none, errW_some] <;> rfl) | (simp [*, errW_none, errW_some] <;> rfl), by repeat (first | (with_reducible first | exact HB.out | apply below_alloc | apply pw_below_drewN | apply below_drew1 | refine below_set ?_ GE173.out) | exact HB.out)⟩
       rw [if_neg c91] at H
       have c91b0 : (t246 == t224) = false := beq_eq_false_iff_ne.mpr c91
       have c91b1 : (t246 != t224) = true := bne_iff_ne.mpr c91
       obtain rfl := Option.some.inj H
       go_wp2_with (first | ((with_reducible refine gate_callee (f := 15) rfl ?_); refine goesL_ (some 116) rfl rfl Try.func15 (by kernel_rfl) rfl #[.slice Ao73 t225.length co73, .int .i64 1] rfl q5x1_ ?_; (with_reducible refine (laws_heldInt64S.calls kj71 _ _ t225 1 t246 _ ?side1 ?side2 A89.out).mono ?_); (case side1 => repeat (first | exact (Kd.R_reads' HO_11.out).2.2 | (with_reducible refine Kd.C_alloc ?_ _) | (with_reducible refine Kd.C_drewN ?_ _) | (with_reducible refine Kd.C_drew ?_))); (case side2 => exact (Kd.R_reads' HO_11.out).2.1); rintro e w' ⟨rfl, ⟨nd, rfl⟩⟩; refine ⟨_, rfl, ?_⟩))
       go_ret
       exact ⟨by first | rfl | (simp [errW_none, errW_some] <;> rfl) | (simp [*, errW_none, errW_some] <;> rfl), by repeat (first | (with_reducible first | exact HB.out | apply below_alloc | apply pw_below_drewN | apply below_drew1 | refine below_set ?_ GE173.out) | exact HB.out)⟩
/-! ### the law's arguments -/
def WF38 (x : S38) : Prop := ((-9223372036854775808) ≤ x.f0 ∧ x.f0 ≤ 9223372036854775807) ∧ ((-9223372036854775808) ≤ x.f1 ∧ x.f1 ≤ 9223372036854775807) ∧ ((-9223372036854775808) ≤ x.f2 ∧ x.f2 ≤ 9223372036854775807) ∧ ((-9223372036854775808) ≤ x.f3 ∧ x.f3 ≤ 9223372036854775807)
set_option maxRecDepth 100000 in
theorem op38 {H : Type} {enc : TypeId × Value → H} {w : World} : Opens enc Try.prog w 38 k38 WF38 := by
 intro fuel cs x h hz
 obtain ⟨xs, m, rfl, rfl, hl, hn, hf⟩ := DataW.trod_array Try.underlying38 h
 have hl0 : cs.length = 4 := hl.trans (by kernel_rfl)
 have hn0 : xs.length = 4 := hn
 obtain ⟨x0, xs0, rfl, hn1⟩ := consX_of hn0
 obtain ⟨x1, xs1, rfl, hn2⟩ := consX_of hn1
 obtain ⟨x2, xs2, rfl, hn3⟩ := consX_of hn2
 obtain ⟨x3, xs3, rfl, hn4⟩ := consX_of hn3
 obtain rfl := List.eq_nil_of_length_eq_zero hn4
 obtain ⟨c0, cs0, rfl, hl1⟩ := cons_of hl0
 obtain ⟨c1, cs1, rfl, hl2⟩ := cons_of hl1
 obtain ⟨c2, cs2, rfl, hl3⟩ := cons_of hl2
 obtain ⟨c3, cs3, rfl, hl4⟩ := cons_of hl3
 obtain rfl := List.eq_nil_of_length_eq_zero hl4
 have h0 : DataW.trod enc Try.prog w 0 (fun _ => true) true m 2 [c0] = some x0 := by
  have h_ := hf 0 (by omega)
  rw [show Try.prog.cellsOf 2 = 1 from by kernel_rfl] at h_
  exact h_
 obtain ⟨a0, hk0, hw0⟩ := (opens_int Try.underlying2 wfB_i64) _ _ _ h0 (weight_array Try.underlying38 hz (j := 0) rfl)
 have h1 : DataW.trod enc Try.prog w 0 (fun _ => true) true m 2 [c1] = some x1 := by
  have h_ := hf 1 (by omega)
  rw [show Try.prog.cellsOf 2 = 1 from by kernel_rfl] at h_
  exact h_
 obtain ⟨a1, hk1, hw1⟩ := (opens_int Try.underlying2 wfB_i64) _ _ _ h1 (weight_array Try.underlying38 hz (j := 1) rfl)
 have h2 : DataW.trod enc Try.prog w 0 (fun _ => true) true m 2 [c2] = some x2 := by
  have h_ := hf 2 (by omega)
  rw [show Try.prog.cellsOf 2 = 1 from by kernel_rfl] at h_
  exact h_
 obtain ⟨a2, hk2, hw2⟩ := (opens_int Try.underlying2 wfB_i64) _ _ _ h2 (weight_array Try.underlying38 hz (j := 2) rfl)
 have h3 : DataW.trod enc Try.prog w 0 (fun _ => true) true m 2 [c3] = some x3 := by
  have h_ := hf 3 (by omega)
  rw [show Try.prog.cellsOf 2 = 1 from by kernel_rfl] at h_
  exact h_
 obtain ⟨a3, hk3, hw3⟩ := (opens_int Try.underlying2 wfB_i64) _ _ _ h3 (weight_array Try.underlying38 hz (j := 3) rfl)
 exact ⟨⟨a0, a1, a2, a3⟩, ⟨[c0], [c1, c2, c3], rfl, hk0, ⟨[c1], [c2, c3], rfl, hk1, ⟨[c2], [c3], rfl, hk2, hk3⟩⟩⟩, ⟨hw0, hw1, hw2, hw3⟩⟩
def WF40 (x : S40) : Prop := (WF38 x.f0) ∧ (WF38 x.f1)
set_option maxRecDepth 100000 in
theorem op40 {H : Type} {enc : TypeId × Value → H} {w : World} : Opens enc Try.prog w 40 k40 WF40 := by
 intro fuel cs x h hz
 obtain ⟨xs, m, rfl, rfl, hl, hn, hf⟩ := DataW.trod_struct Try.underlying40 h
 have hl0 : cs.length = 8 := hl.trans (by kernel_rfl)
 have hn0 : xs.length = 2 := hn
 obtain ⟨x0, xs0, rfl, hn1⟩ := consX_of hn0
 obtain ⟨x1, xs1, rfl, hn2⟩ := consX_of hn1
 obtain rfl := List.eq_nil_of_length_eq_zero hn2
 obtain ⟨c0, cs0, rfl, hl1⟩ := cons_of hl0
 obtain ⟨c1, cs1, rfl, hl2⟩ := cons_of hl1
 obtain ⟨c2, cs2, rfl, hl3⟩ := cons_of hl2
 obtain ⟨c3, cs3, rfl, hl4⟩ := cons_of hl3
 obtain ⟨c4, cs4, rfl, hl5⟩ := cons_of hl4
 obtain ⟨c5, cs5, rfl, hl6⟩ := cons_of hl5
 obtain ⟨c6, cs6, rfl, hl7⟩ := cons_of hl6
 obtain ⟨c7, cs7, rfl, hl8⟩ := cons_of hl7
 obtain rfl := List.eq_nil_of_length_eq_zero hl8
 have h0 : DataW.trod enc Try.prog w 0 (fun _ => true) true m 38 [c0, c1, c2, c3] = some x0 := by
  have h_ : DataW.trod enc Try.prog w 0 (fun _ => true) true m 38 (([c0, c1, c2, c3, c4, c5, c6, c7].drop 0).take (Try.prog.cellsOf 38)) = [x0, x1][0]? := by
   have h2_ := hf 0 _ rfl
   exact h2_
  rw [show Try.prog.cellsOf 38 = 4 from by kernel_rfl] at h_
  exact h_
 obtain ⟨a0, hk0, hw0⟩ := op38 _ _ _ h0 (weight_struct Try.underlying40 hz (j := 0) rfl rfl)
 have h1 : DataW.trod enc Try.prog w 0 (fun _ => true) true m 38 [c4, c5, c6, c7] = some x1 := by
  have h_ : DataW.trod enc Try.prog w 0 (fun _ => true) true m 38 (([c0, c1, c2, c3, c4, c5, c6, c7].drop 4).take (Try.prog.cellsOf 38)) = [x0, x1][1]? := by
   have h2_ := hf 1 _ rfl
   exact h2_
  rw [show Try.prog.cellsOf 38 = 4 from by kernel_rfl] at h_
  exact h_
 obtain ⟨a1, hk1, hw1⟩ := op38 _ _ _ h1 (weight_struct Try.underlying40 hz (j := 1) rfl rfl)
 exact ⟨⟨a0, a1⟩, ⟨[c0, c1, c2, c3], [c4, c5, c6, c7], rfl, hk0, hk1⟩, ⟨hw0, hw1⟩⟩
/-- THE ONE PURE STATEMENT of laws_FnExactEightTerms. -/
def laws_FnExactEightTerms.Pure : Prop := ∀ (x0 : S40) (x1 : List Int) (x2 : List Int), (WF40 x0) → (x1.length * 8 ≤ 140737488351232 ∧ ∀ z_ ∈ x1, (-9223372036854775808) ≤ z_ ∧ z_ ≤ 9223372036854775807) → (x2.length * 8 ≤ 140737488351232 ∧ ∀ z_ ∈ x2, (-9223372036854775808) ≤ z_ ∧ z_ ≤ 9223372036854775807) → ∃ k, laws_FnExactEightTerms.f k x0.f0.f0 x0.f0.f1 x0.f0.f2 x0.f0.f3 x0.f1.f0 x0.f1.f1 x0.f1.f2 x0.f1.f3 x1 x2 = some true
theorem laws_FnExactEightTerms.walk (P_ : laws_FnExactEightTerms.Pure) (w : World) (x0 : S40) (hw0 : WF40 x0) (A1 : Option Addr) (c1 : Nat) (x1 : List Int) (hr1 : Kd.C (Kd.int .i64) w A1 x1.length x1) (hc1 : x1.length ≤ c1) (hw1 : x1.length * 8 ≤ 140737488351232 ∧ ∀ z_ ∈ x1, (-9223372036854775808) ≤ z_ ∧ z_ ≤ 9223372036854775807) (A2 : Option Addr) (c2 : Nat) (x2 : List Int) (hr2 : Kd.C (Kd.int .i64) w A2 x2.length x2) (hc2 : x2.length ≤ c2) (hw2 : x2.length * 8 ≤ 140737488351232 ∧ ∀ z_ ∈ x2, (-9223372036854775808) ≤ z_ ∧ z_ ≤ 9223372036854775807) :
  Calls Try.prog 5 #[.agg #[.int .i64 x0.f0.f0, .int .i64 x0.f0.f1, .int .i64 x0.f0.f2, .int .i64 x0.f0.f3, .int .i64 x0.f1.f0, .int .i64 x0.f1.f1, .int .i64 x0.f1.f2, .int .i64 x0.f1.f3], .slice A1 x1.length c1, .slice A2 x2.length c2] w fun e w' => e = .returned (.bool true) ∧ Below w.heap.size w w' := by
 obtain ⟨k, h⟩ := P_ x0 x1 x2 hw0 hw1 hw2
 refine (laws_FnExactEightTerms.calls k x0.f0.f0 x0.f0.f1 x0.f0.f2 x0.f0.f3 x0.f1.f0 x0.f1.f1 x0.f1.f2 x0.f1.f3 _ _ x1 _ _ x2 true w  hr1 hc1 hr2 hc2 h).mono ?_
 rintro e w' ⟨rfl, hd⟩
 exact ⟨rfl, hd⟩

end Go.Proofs.Ytgldplkbacfacaa.MFnExactEightTerms
