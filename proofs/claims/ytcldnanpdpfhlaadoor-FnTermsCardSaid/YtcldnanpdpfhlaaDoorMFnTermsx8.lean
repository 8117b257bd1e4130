/- Functions of the program as Lean functions, and the proof that the code comes to what they say. Written by a program of this session (myprint.py). -/
import Derived.Test.YtcldnanpdpfhlaaDoorMFnTermsx0
import Derived.Test.YtcldnanpdpfhlaaDoorMFnTermsx1
import Derived.Test.YtcldnanpdpfhlaaDoorMFnTermsx2
import Derived.Test.YtcldnanpdpfhlaaDoorMFnTermsx3
import Derived.Test.YtcldnanpdpfhlaaDoorMFnTermsx4
import Derived.Test.YtcldnanpdpfhlaaDoorMFnTermsx5
import Derived.Test.YtcldnanpdpfhlaaDoorMFnTermsx6
import Derived.Test.YtcldnanpdpfhlaaDoorMFnTermsx7
namespace Go.Proofs.YtcldnanpdpfhlaaDoor.MFnTerms
open Go.RowKit Go.Proofs.YtcldnanpdpfhlaaDoor.MOpen Go.Proofs.YtcldnanpdpfhlaaDoorW.PrintWords Go.Proofs.YtcldnanpdpfhlaaDoorW.PrintLast Go.Proofs.YtcldnanpdpfhlaaDoorW.PrintMore
attribute [local go_sem] max2_int min2_int max_two min_two max_three min_three max_four min_four   -- for this text's walks alone
set_option linter.unusedVariables false
set_option linter.unusedSimpArgs false

attribute [local go_sem high] eqA25
set_option linter.defProp false
def rA4_ := @Kd.R_alloc
def rN4_ := @Kd.R_drewN
def rD4_ := @Kd.R_drew
def kA4_ := @blk_alloc
def kN4_ := @blk_drewN
def kD4_ := @blk_drew
def bS4_ := @below_set
def aM4_ := @Aside0.mk
def bA4_ := @below_alloc
def bN4_ := @pw_below_drewN
def bD4_ := @below_drew1
def rB4_ := @Kd.R_below
def kB4_ := @blk_below
def kC4_ := @blk_cell
theorem q4x1_ {P : Prop} (h : P := by (try simp only [List.map_toArray, List.map_cons, List.map_nil]); first | done | rfl | (simp only [List.length_drop, List.length_take]; rfl) | (simp only [List.drop_one]; done) | (simp only [List.drop_one]; rfl)) : P := h
theorem q4x2_ {P : Prop} (h : P := by repeat (first | (with_reducible first | exact HB.out | apply bA4_ | apply bN4_ | apply bD4_ | refine bS4_ ?_ GE282.out | refine bS4_ ?_ GE286.out | refine bS4_ ?_ GE296.out) | exact HB.out)) : P := h
theorem q4x3_ {P : Prop} (h : P := by first | (with_reducible assumption) | assumption) : P := h
theorem q4x4_ {P : Prop} (h : P := by (with_reducible repeat (first | apply rA4_ | apply rN4_ | apply rD4_)); exact (Kd.R_mono (Kd.R_far (p := ⟨gb286, 1, none⟩) (Kd.R_far (p := ⟨gb286, 0, none⟩) (Kd.R_types HO270.out BK286.out (by decide)) (fun _ hk => hk.2) (.int .i64 t283)) (fun _ hk => hk.2) (.int .i64 t284)) (fun _ h_ => h_.1))) : P := h
theorem q4x5_ {P : Prop} (h : P := by (with_reducible repeat (first | refine kN4_ ?_ _ | refine kD4_ ?_ | refine kA4_ ?_ _)); exact BK282.out) : P := h
theorem q4x6_ {P : Prop} (h : P := by (with_reducible repeat (first | refine kN4_ ?_ _ | refine kD4_ ?_ | refine kA4_ ?_ _)); exact BK286.out) : P := h
theorem q4x7_ {P : Prop} (h : P := by repeat (first | (with_reducible first | exact HB.out | apply bA4_ | apply bN4_ | apply bD4_) | exact HB.out)) : P := h
theorem q4x8_ {P : Prop} (h : P := by (with_reducible repeat (first | refine kN4_ ?_ _ | refine kD4_ ?_ | refine kA4_ ?_ _)); exact BK296.out) : P := h
theorem q4x9_ {P : Prop} (h : P := by (with_reducible repeat (first | apply rA4_ | apply rN4_ | apply rD4_)); exact (Kd.R_mono (Kd.R_far (p := ⟨gb286, 1, none⟩) (Kd.R_far (p := ⟨gb286, 0, none⟩) (Kd.R_types HO278.out BK286.out (by decide)) (fun _ hk => hk.2) (.int .i64 t283)) (fun _ hk => hk.2) (.int .i64 t284)) (fun _ h_ => h_.1))) : P := h
theorem q4x10_ {P : Prop} (h : P := by repeat (first | (with_reducible first | exact HB.out | apply bA4_ | apply bN4_ | apply bD4_ | refine bS4_ ?_ GE282.out | refine bS4_ ?_ GE286.out) | exact HB.out)) : P := h
theorem q4x11_ {P : Prop} (h : P := by first | rfl | (simp; done) | (simp [*]; done)) : P := h
theorem q4x12_ {P : Prop} (h : P := by (with_reducible repeat (first | apply rA4_ | apply rN4_ | apply rD4_)); exact HO_21.out) : P := h
theorem q4x13_ {P : Prop} (h : P := by (with_reducible repeat (first | apply rA4_ | apply rN4_ | apply rD4_)); exact HO_23.out) : P := h
theorem q4x14_ {P : Prop} (h : P := by (with_reducible repeat (first | apply rA4_ | apply rN4_ | apply rD4_)); exact HO270.out) : P := h
theorem q4x15_ {P : Prop} (h : P := by (with_reducible repeat (first | apply rA4_ | apply rN4_ | apply rD4_)); exact HO_5.out) : P := h
theorem q4x16_ {P : Prop} (h : P := by (with_reducible repeat (first | apply rA4_ | apply rN4_ | apply rD4_)); exact HO273.out) : P := h
theorem q4x17_ {P : Prop} (h : P := by repeat (first | (with_reducible first | exact HB.out | apply bA4_ | apply bN4_ | apply bD4_ | refine bS4_ ?_ GE282.out) | exact HB.out)) : P := h
theorem q4x18_ {P : Prop} (h : P := by (with_reducible repeat (first | apply rA4_ | apply rN4_ | apply rD4_)); exact HO_6.out) : P := h
theorem q4x19_ {P : Prop} (h : P := by (with_reducible repeat (first | apply rA4_ | apply rN4_ | apply rD4_)); exact (Kd.R_mono (Kd.R_far (p := ⟨gb282, 1, none⟩) (Kd.R_far (p := ⟨gb282, 0, none⟩) (Kd.R_types HO270.out BK282.out (by decide)) (fun _ hk => hk.2) (.int .i64 t279)) (fun _ hk => hk.2) (.int .i64 t280)) (fun _ h_ => h_.1))) : P := h
theorem q4x20_ {P : Prop} (h : P := by (with_reducible repeat (first | apply rA4_ | apply rN4_ | apply rD4_)); exact (Kd.R_mono (Kd.R_far (p := ⟨gb296, 1, none⟩) (Kd.R_far (p := ⟨gb296, 0, none⟩) (Kd.R_types HO_5.out BK296.out (by decide)) (fun _ hk => hk.2) (.int .i64 t293)) (fun _ hk => hk.2) (.int .i64 t294)) (fun _ h_ => h_.1))) : P := h
theorem q4x21_ {P : Prop} (h : P := by (with_reducible repeat (first | apply rA4_ | apply rN4_ | apply rD4_)); exact (Kd.R_mono (Kd.R_far (p := ⟨gb296, 1, none⟩) (Kd.R_far (p := ⟨gb296, 0, none⟩) (Kd.R_types HO_6.out BK296.out (by decide)) (fun _ hk => hk.2) (.int .i64 t293)) (fun _ hk => hk.2) (.int .i64 t294)) (fun _ h_ => h_.1))) : P := h
theorem q4x22_ {P : Prop} (h : P := by (with_reducible repeat (first | apply rA4_ | apply rN4_ | apply rD4_)); exact HO278.out) : P := h
theorem q4x23_ {P : Prop} (h : P := by (with_reducible repeat (first | apply rA4_ | apply rN4_ | apply rD4_)); exact HO291.out) : P := h
theorem q4x24_ {P : Prop} (h : P := by intro w'; go_simp; with_reducible rfl) : P := h
theorem q4x25_ {P : Prop} (h : P := by simp only [Act.put, List.setIfInBounds_toArray, List.set_cons_zero, List.set_cons_succ, i64_w, i32_w]; rfl) : P := h
theorem q4x26_ {P : Prop} (h : P := by rintro w' ⟨s0, s1, s2, s3⟩; go_simp; with_reducible rfl) : P := h
theorem q4x27_ {P : Prop} (h : P := by show Act.put _ (some 174) _ = _; simp only [Act.put, List.setIfInBounds_toArray, List.set_cons_zero, List.set_cons_succ, i64_w, i32_w]; rfl) : P := h
/-! ### laws_FnTerms: function 4 -/
mutual
def laws_FnTerms.j0 : Nat → List Int → List Int → Bool → Int → Int → Option (Bool)
 | 0, _, _, _, _, _ => none
 | k + 1, x5, x6, x77, x287000, x287001 => if x77 = true then (some false) else ((impl_TermsOf.f k x287000 x287001).bind fun bt289 => ((spec_RatioOf.f k x6).bind fun bt293 => ((impl_CompareTerms.f k x5 x6).bind fun bt297 => ((spec_CompareRatios.f k x287000 x287001 bt293.1 bt293.2.1).bind fun bt299 => (if bt289.2 = 0 then ((spec_A2Same.f k bt289.1 x5).bind fun t301 => (if t301 = true then (if bt293.2.2 = 0 then (if bt297.2 = bt299.2 then (laws_FnTerms.j1 k x5 (bt297.1 != bt299.1) x287000 x287001) else (laws_FnTerms.j1 k x5 true x287000 x287001)) else (laws_FnTerms.j1 k x5 true x287000 x287001)) else (laws_FnTerms.j1 k x5 true x287000 x287001))) else (laws_FnTerms.j1 k x5 true x287000 x287001))))))
def laws_FnTerms.j1 : Nat → List Int → Bool → Int → Int → Option (Bool)
 | 0, _, _, _, _ => none
 | k + 1, x5, x121, x287000, x287001 => if x121 = true then (some false) else ((impl_ConvergentsOf.f k x5).bind fun bt302 => ((spec_ConvergentsOf.f k x5).bind fun bt306 => (if bt302.2 = bt306.2 then (if bt302.2 = 0 then (if (bt302.1.length : Int) = (x5.length : Int) then (laws_FnTerms.j2 k bt302.1 bt306.1 ((bt306.1.length : Int) != (x5.length : Int)) x287000 x287001) else (laws_FnTerms.j2 k bt302.1 bt306.1 true x287000 x287001)) else (laws_FnTerms.j2 k bt302.1 bt306.1 true x287000 x287001)) else (laws_FnTerms.j2 k bt302.1 bt306.1 true x287000 x287001))))
def laws_FnTerms.j2 : Nat → List (S25) → List (S25) → Bool → Int → Int → Option (Bool)
 | 0, _, _, _, _, _ => none
 | k + 1, x21, x23, x152, x287000, x287001 => if x152 = true then (some false) else (laws_FnTerms.l0 k x21 x23 0 x287000 x287001)
def laws_FnTerms.l0 : Nat → List (S25) → List (S25) → Int → Int → Int → Option (Bool)
 | 0, _, _, _, _, _ => none
 | k + 1, x21, x23, x25, x287000, x287001 => if x25 < (x23.length : Int) then (if 0 ≤ x25 then (if x25 < (x21.length : Int) then (if (!(((rd_T25 x21 x25).f0) == ((rd_T25 x23 x25).f0)) || (!(((rd_T25 x21 x25).f1) == ((rd_T25 x23 x25).f1)))) = true then (some false) else ((impl_CompareRatios.f k ((rd_T25 x23 x25).f0) ((rd_T25 x23 x25).f1) x287000 x287001).bind fun bt314 => (if bt314.2 = 0 then (if (wrap64 (x25 + 1)) < (x23.length : Int) then (if (Int.tmod x25 2) = 0 then (if bt314.1 > 0 then (some false) else (if (Int.tmod x25 2) = 1 then (if bt314.1 < 0 then (some false) else (laws_FnTerms.l0 k x21 x23 (wrap64 (x25 + 1)) x287000 x287001)) else (laws_FnTerms.l0 k x21 x23 (wrap64 (x25 + 1)) x287000 x287001))) else (if (Int.tmod x25 2) = 1 then (if bt314.1 < 0 then (some false) else (laws_FnTerms.l0 k x21 x23 (wrap64 (x25 + 1)) x287000 x287001)) else (laws_FnTerms.l0 k x21 x23 (wrap64 (x25 + 1)) x287000 x287001))) else (laws_FnTerms.l0 k x21 x23 (wrap64 (x25 + 1)) x287000 x287001)) else (some false)))) else (none)) else (none)) else (if 0 ≤ (wrap64 ((x23.length : Int) - 1)) then (if (wrap64 ((x23.length : Int) - 1)) < (x23.length : Int) then (some (((rd_T25 x23 (wrap64 ((x23.length : Int) - 1))).f0) == x287000 && (((rd_T25 x23 (wrap64 ((x23.length : Int) - 1))).f1) == x287001))) else (none)) else (none))
end
def laws_FnTerms.f (k : Nat) (l0 : List Int) (l1 : List Int) : Option (Bool) := (laws_a2Long.f l0 l1).bind fun t267 => (if t267 = true then (some true) else ((spec_A2Terms.f k l0).bind fun t268 => ((spec_A2Terms.f k l1).bind fun t271 => ((impl_TermsText.f k t268).bind fun t274 => ((impl_ReadTerms.f k t274).bind fun bt275 => ((impl_RatioOf.f k t268).bind fun bt279 => ((spec_RatioOf.f k t268).bind fun bt283 => (if bt275.2 = 0 then ((spec_A2Same.f k bt275.1 t268).bind fun t287 => (if t287 = true then ((impl_ValidTerms.f k t268).bind fun t288 => (if t288 = true then (if bt279.2.2 = bt283.2.2 then (if bt279.2.2 = 0 then (laws_FnTerms.j0 k t268 t271 (!(bt279.1 == bt283.1) || (!(bt279.2.1 == bt283.2.1))) bt283.1 bt283.2.1) else (laws_FnTerms.j0 k t268 t271 true bt283.1 bt283.2.1)) else (laws_FnTerms.j0 k t268 t271 true bt283.1 bt283.2.1)) else (laws_FnTerms.j0 k t268 t271 true bt283.1 bt283.2.1))) else (laws_FnTerms.j0 k t268 t271 true bt283.1 bt283.2.1))) else (laws_FnTerms.j0 k t268 t271 true bt283.1 bt283.2.1)))))))))
theorem laws_FnTerms.mono_l : ∀ k, (∀ y0 y1 y2 y3 y4, LeO (laws_FnTerms.j0 k y0 y1 y2 y3 y4) (laws_FnTerms.j0 (k + 1) y0 y1 y2 y3 y4)) ∧ (∀ y0 y1 y2 y3, LeO (laws_FnTerms.j1 k y0 y1 y2 y3) (laws_FnTerms.j1 (k + 1) y0 y1 y2 y3)) ∧ (∀ y0 y1 y2 y3 y4, LeO (laws_FnTerms.j2 k y0 y1 y2 y3 y4) (laws_FnTerms.j2 (k + 1) y0 y1 y2 y3 y4)) ∧ (∀ y0 y1 y2 y3 y4, LeO (laws_FnTerms.l0 k y0 y1 y2 y3 y4) (laws_FnTerms.l0 (k + 1) y0 y1 y2 y3 y4))
 | 0 => ⟨fun _ _ _ _ _ r h => by simp [laws_FnTerms.j0] at h, fun _ _ _ _ r h => by simp [laws_FnTerms.j1] at h, fun _ _ _ _ _ r h => by simp [laws_FnTerms.j2] at h, fun _ _ _ _ _ r h => by simp [laws_FnTerms.l0] at h⟩
 | k + 1 => by
  obtain ⟨ih0, ih1, ih2, ih3⟩ := laws_FnTerms.mono_l k
  refine ⟨?_, ?_, ?_, ?_⟩
  ·intro y0 y1 y2 y3 y4
   unfold laws_FnTerms.j0
   repeat' first
   | (with_reducible exact ih0 _ _ _ _ _)
   | (with_reducible exact ih1 _ _ _ _)
   | (with_reducible exact ih2 _ _ _ _ _)
   | (with_reducible exact ih3 _ _ _ _ _)
   | (with_reducible exact impl_CompareRatios.mono _ _ _ _ _)
   | (with_reducible exact impl_CompareTerms.mono _ _ _)
   | (with_reducible exact impl_ConvergentsOf.mono _ _)
   | (with_reducible exact impl_RatioOf.mono _ _)
   | (with_reducible exact impl_ReadTerms.mono _ _)
   | (with_reducible exact impl_TermsOf.mono _ _ _)
   | (with_reducible exact impl_TermsText.mono _ _)
   | (with_reducible exact impl_ValidTerms.mono _ _)
   | (with_reducible exact spec_A2Same.mono _ _ _)
   | (with_reducible exact spec_A2Terms.mono _ _)
   | (with_reducible exact spec_CompareRatios.mono _ _ _ _ _)
   | (with_reducible exact spec_ConvergentsOf.mono _ _)
   | (with_reducible exact spec_RatioOf.mono _ _)
   | (with_reducible exact LeO.refl _)
   | (with_reducible exact LeO.none _)
   | (with_reducible refine LeO.ite ?_ ?_)
   | (with_reducible refine LeO.bind ?_ (fun _ => ?_))
   | exact ih0 _ _ _ _ _
   | exact ih1 _ _ _ _
   | exact ih2 _ _ _ _ _
   | exact ih3 _ _ _ _ _
   | exact impl_CompareRatios.mono _ _ _ _ _
   | exact impl_CompareTerms.mono _ _ _
   | exact impl_ConvergentsOf.mono _ _
   | exact impl_RatioOf.mono _ _
   | exact impl_ReadTerms.mono _ _
   | exact impl_TermsOf.mono _ _ _
   | exact impl_TermsText.mono _ _
   | exact impl_ValidTerms.mono _ _
   | exact spec_A2Same.mono _ _ _
   | exact spec_A2Terms.mono _ _
   | exact spec_CompareRatios.mono _ _ _ _ _
   | exact spec_ConvergentsOf.mono _ _
   | exact spec_RatioOf.mono _ _
   | exact LeO.none _
   | refine LeO.ite ?_ ?_
   | refine LeO.bind ?_ (fun _ => ?_)
  ·intro y0 y1 y2 y3
   unfold laws_FnTerms.j1
   repeat' first
   | (with_reducible exact ih0 _ _ _ _ _)
   | (with_reducible exact ih1 _ _ _ _)
   | (with_reducible exact ih2 _ _ _ _ _)
   | (with_reducible exact ih3 _ _ _ _ _)
   | (with_reducible exact impl_CompareRatios.mono _ _ _ _ _)
   | (with_reducible exact impl_CompareTerms.mono _ _ _)
   | (with_reducible exact impl_ConvergentsOf.mono _ _)
   | (with_reducible exact impl_RatioOf.mono _ _)
   | (with_reducible exact impl_ReadTerms.mono _ _)
   | (with_reducible exact impl_TermsOf.mono _ _ _)
   | (with_reducible exact impl_TermsText.mono _ _)
   | (with_reducible exact impl_ValidTerms.mono _ _)
   | (with_reducible exact spec_A2Same.mono _ _ _)
   | (with_reducible exact spec_A2Terms.mono _ _)
   | (with_reducible exact spec_CompareRatios.mono _ _ _ _ _)
   | (with_reducible exact spec_ConvergentsOf.mono _ _)
   | (with_reducible exact spec_RatioOf.mono _ _)
   | (with_reducible exact LeO.refl _)
   | (with_reducible exact LeO.none _)
   | (with_reducible refine LeO.ite ?_ ?_)
   | (with_reducible refine LeO.bind ?_ (fun _ => ?_))
   | exact ih0 _ _ _ _ _
   | exact ih1 _ _ _ _
   | exact ih2 _ _ _ _ _
   | exact ih3 _ _ _ _ _
   | exact impl_CompareRatios.mono _ _ _ _ _
   | exact impl_CompareTerms.mono _ _ _
   | exact impl_ConvergentsOf.mono _ _
   | exact impl_RatioOf.mono _ _
   | exact impl_ReadTerms.mono _ _
   | exact impl_TermsOf.mono _ _ _
   | exact impl_TermsText.mono _ _
   | exact impl_ValidTerms.mono _ _
   | exact spec_A2Same.mono _ _ _
   | exact spec_A2Terms.mono _ _
   | exact spec_CompareRatios.mono _ _ _ _ _
   | exact spec_ConvergentsOf.mono _ _
   | exact spec_RatioOf.mono _ _
   | exact LeO.none _
   | refine LeO.ite ?_ ?_
   | refine LeO.bind ?_ (fun _ => ?_)
  ·intro y0 y1 y2 y3 y4
   unfold laws_FnTerms.j2
   repeat' first
   | (with_reducible exact ih0 _ _ _ _ _)
   | (with_reducible exact ih1 _ _ _ _)
   | (with_reducible exact ih2 _ _ _ _ _)
   | (with_reducible exact ih3 _ _ _ _ _)
   | (with_reducible exact impl_CompareRatios.mono _ _ _ _ _)
   | (with_reducible exact impl_CompareTerms.mono _ _ _)
   | (with_reducible exact impl_ConvergentsOf.mono _ _)
   | (with_reducible exact impl_RatioOf.mono _ _)
   | (with_reducible exact impl_ReadTerms.mono _ _)
   | (with_reducible exact impl_TermsOf.mono _ _ _)
   | (with_reducible exact impl_TermsText.mono _ _)
   | (with_reducible exact impl_ValidTerms.mono _ _)
   | (with_reducible exact spec_A2Same.mono _ _ _)
   | (with_reducible exact spec_A2Terms.mono _ _)
   | (with_reducible exact spec_CompareRatios.mono _ _ _ _ _)
   | (with_reducible exact spec_ConvergentsOf.mono _ _)
   | (with_reducible exact spec_RatioOf.mono _ _)
   | (with_reducible exact LeO.refl _)
   | (with_reducible exact LeO.none _)
   | (with_reducible refine LeO.ite ?_ ?_)
   | (with_reducible refine LeO.bind ?_ (fun _ => ?_))
   | exact ih0 _ _ _ _ _
   | exact ih1 _ _ _ _
   | exact ih2 _ _ _ _ _
   | exact ih3 _ _ _ _ _
   | exact impl_CompareRatios.mono _ _ _ _ _
   | exact impl_CompareTerms.mono _ _ _
   | exact impl_ConvergentsOf.mono _ _
   | exact impl_RatioOf.mono _ _
   | exact impl_ReadTerms.mono _ _
   | exact impl_TermsOf.mono _ _ _
   | exact impl_TermsText.mono _ _
   | exact impl_ValidTerms.mono _ _
   | exact spec_A2Same.mono _ _ _
   | exact spec_A2Terms.mono _ _
   | exact spec_CompareRatios.mono _ _ _ _ _
   | exact spec_ConvergentsOf.mono _ _
   | exact spec_RatioOf.mono _ _
   | exact LeO.none _
   | refine LeO.ite ?_ ?_
   | refine LeO.bind ?_ (fun _ => ?_)
  intro y0 y1 y2 y3 y4
  unfold laws_FnTerms.l0
  repeat' first
  | (with_reducible exact ih0 _ _ _ _ _)
  | (with_reducible exact ih1 _ _ _ _)
  | (with_reducible exact ih2 _ _ _ _ _)
  | (with_reducible exact ih3 _ _ _ _ _)
  | (with_reducible exact impl_CompareRatios.mono _ _ _ _ _)
  | (with_reducible exact impl_CompareTerms.mono _ _ _)
  | (with_reducible exact impl_ConvergentsOf.mono _ _)
  | (with_reducible exact impl_RatioOf.mono _ _)
  | (with_reducible exact impl_ReadTerms.mono _ _)
  | (with_reducible exact impl_TermsOf.mono _ _ _)
  | (with_reducible exact impl_TermsText.mono _ _)
  | (with_reducible exact impl_ValidTerms.mono _ _)
  | (with_reducible exact spec_A2Same.mono _ _ _)
  | (with_reducible exact spec_A2Terms.mono _ _)
  | (with_reducible exact spec_CompareRatios.mono _ _ _ _ _)
  | (with_reducible exact spec_ConvergentsOf.mono _ _)
  | (with_reducible exact spec_RatioOf.mono _ _)
  | (with_reducible exact LeO.refl _)
  | (with_reducible exact LeO.none _)
  | (with_reducible refine LeO.ite ?_ ?_)
  | (with_reducible refine LeO.bind ?_ (fun _ => ?_))
  | exact ih0 _ _ _ _ _
  | exact ih1 _ _ _ _
  | exact ih2 _ _ _ _ _
  | exact ih3 _ _ _ _ _
  | exact impl_CompareRatios.mono _ _ _ _ _
  | exact impl_CompareTerms.mono _ _ _
  | exact impl_ConvergentsOf.mono _ _
  | exact impl_RatioOf.mono _ _
  | exact impl_ReadTerms.mono _ _
  | exact impl_TermsOf.mono _ _ _
  | exact impl_TermsText.mono _ _
  | exact impl_ValidTerms.mono _ _
  | exact spec_A2Same.mono _ _ _
  | exact spec_A2Terms.mono _ _
  | exact spec_CompareRatios.mono _ _ _ _ _
  | exact spec_ConvergentsOf.mono _ _
  | exact spec_RatioOf.mono _ _
  | exact LeO.none _
  | refine LeO.ite ?_ ?_
  | refine LeO.bind ?_ (fun _ => ?_)
theorem laws_FnTerms.mono : ∀ a0 a1 k, LeO (laws_FnTerms.f k a0 a1) (laws_FnTerms.f (k + 1) a0 a1) := by
 intro a0 a1 k
 obtain ⟨ih0, ih1, ih2, ih3⟩ := laws_FnTerms.mono_l k
 unfold laws_FnTerms.f
 repeat' first
   | (with_reducible exact ih0 _ _ _ _ _)
   | (with_reducible exact ih1 _ _ _ _)
   | (with_reducible exact ih2 _ _ _ _ _)
   | (with_reducible exact ih3 _ _ _ _ _)
   | (with_reducible exact impl_CompareRatios.mono _ _ _ _ _)
   | (with_reducible exact impl_CompareTerms.mono _ _ _)
   | (with_reducible exact impl_ConvergentsOf.mono _ _)
   | (with_reducible exact impl_RatioOf.mono _ _)
   | (with_reducible exact impl_ReadTerms.mono _ _)
   | (with_reducible exact impl_TermsOf.mono _ _ _)
   | (with_reducible exact impl_TermsText.mono _ _)
   | (with_reducible exact impl_ValidTerms.mono _ _)
   | (with_reducible exact spec_A2Same.mono _ _ _)
   | (with_reducible exact spec_A2Terms.mono _ _)
   | (with_reducible exact spec_CompareRatios.mono _ _ _ _ _)
   | (with_reducible exact spec_ConvergentsOf.mono _ _)
   | (with_reducible exact spec_RatioOf.mono _ _)
   | (with_reducible exact LeO.refl _)
   | (with_reducible exact LeO.none _)
   | (with_reducible refine LeO.ite ?_ ?_)
   | (with_reducible refine LeO.bind ?_ (fun _ => ?_))
   | exact ih0 _ _ _ _ _
   | exact ih1 _ _ _ _
   | exact ih2 _ _ _ _ _
   | exact ih3 _ _ _ _ _
   | exact impl_CompareRatios.mono _ _ _ _ _
   | exact impl_CompareTerms.mono _ _ _
   | exact impl_ConvergentsOf.mono _ _
   | exact impl_RatioOf.mono _ _
   | exact impl_ReadTerms.mono _ _
   | exact impl_TermsOf.mono _ _ _
   | exact impl_TermsText.mono _ _
   | exact impl_ValidTerms.mono _ _
   | exact spec_A2Same.mono _ _ _
   | exact spec_A2Terms.mono _ _
   | exact spec_CompareRatios.mono _ _ _ _ _
   | exact spec_ConvergentsOf.mono _ _
   | exact spec_RatioOf.mono _ _
   | exact LeO.none _
   | refine LeO.ite ?_ ?_
   | refine LeO.bind ?_ (fun _ => ?_)
def laws_FnTerms.T23 : Bool × List (List Nat × List Nat) := (true, [([], []), ([], []), ([0, 1], [0, 1]), ([2], [2]), ([], []), ([], []), ([4, 5], [4, 5]), ([6], [6]), ([3, 7], [3, 7])])
def laws_FnTerms.B23 : List Nat := [0, 0, 3, 7, 0, 0, 48, 112, 255]
theorem laws_FnTerms.tab23 : rtab .any (opsOf Tryd.f4 23) = laws_FnTerms.T23 := by kernel_rfl
theorem laws_FnTerms.bits23 : waitsOk laws_FnTerms.T23.2 laws_FnTerms.B23 = true := by kernel_rfl
def laws_FnTerms.T25 : Bool × List (List Nat × List Nat) := (true, [([], []), ([], []), ([0, 1], [0, 1]), ([2], [2]), ([], []), ([3, 4], [3, 4]), ([5], [5]), ([6], [6]), ([6], [6]), ([7, 5, 0, 1, 2, 3, 4, 5, 6, 7], [7]), ([8, 9, 0, 1, 2, 3, 4, 5, 6, 7, 8, 9], [8])])
def laws_FnTerms.B25 : List Nat := [0, 0, 3, 7, 0, 31, 63, 127, 127, 255, 1023]
theorem laws_FnTerms.tab25 : rtab .any (opsOf Tryd.f4 25) = laws_FnTerms.T25 := by kernel_rfl
theorem laws_FnTerms.bits25 : waitsOk laws_FnTerms.T25.2 laws_FnTerms.B25 = true := by kernel_rfl
def laws_FnTerms.T28 : Bool × List (List Nat × List Nat) := (true, [([], []), ([], []), ([1], [1]), ([2], [2]), ([0, 3], [0, 3]), ([4], [4]), ([], []), ([5, 6], [5, 6]), ([7, 0, 1, 2, 3, 4, 5, 6, 7], [7])])
def laws_FnTerms.B28 : List Nat := [0, 0, 2, 6, 15, 31, 0, 127, 255]
theorem laws_FnTerms.tab28 : rtab .any (opsOf Tryd.f4 28) = laws_FnTerms.T28 := by kernel_rfl
theorem laws_FnTerms.bits28 : waitsOk laws_FnTerms.T28.2 laws_FnTerms.B28 = true := by kernel_rfl
set_option maxHeartbeats 8000000 in
set_option maxRecDepth 100000 in
theorem laws_FnTerms.calls (k : Nat) (A0 : Option Addr) (c0 : Nat) (l0 : List Int) (A1 : Option Addr) (c1 : Nat) (l1 : List Int) (r : Bool) (w : World) (hr0 : Kd.C (Kd.int .u8) w A0 l0.length l0) (hc0 : l0.length ≤ c0) (hr1 : Kd.C (Kd.int .u8) w A1 l1.length l1) (hc1 : l1.length ≤ c1) (hTab_ : TabAt w) (h : laws_FnTerms.f k l0 l1 = some r) :
  Calls Tryd.prog 4 #[.slice A0 l0.length c0, .slice A1 l1.length c1] w fun e w' => e = .returned (.bool r) ∧ Below w.heap.size w w' := by
 have hu25 := Tryd.underlying25
 have HR0 := aM4_ hr0
 have HC0 := aM4_ hc0
 clear hr0 hc0
 have HR1 := aM4_ hr1
 have HC1 := aM4_ hc1
 clear hr1 hc1
 have HTab_ := aM4_ hTab_
 clear hTab_
 have HB := aM4_ (Below.refl w.heap.size w)
 have H : ((laws_a2Long.f l0 l1).bind fun t267 => (if t267 = true then (some true) else ((spec_A2Terms.f k l0).bind fun t268 => ((spec_A2Terms.f k l1).bind fun t271 => ((impl_TermsText.f k t268).bind fun t274 => ((impl_ReadTerms.f k t274).bind fun bt275 => ((impl_RatioOf.f k t268).bind fun bt279 => ((spec_RatioOf.f k t268).bind fun bt283 => (if bt275.2 = 0 then ((spec_A2Same.f k bt275.1 t268).bind fun t287 => (if t287 = true then ((impl_ValidTerms.f k t268).bind fun t288 => (if t288 = true then (if bt279.2.2 = bt283.2.2 then (if bt279.2.2 = 0 then (laws_FnTerms.j0 k t268 t271 (!(bt279.1 == bt283.1) || (!(bt279.2.1 == bt283.2.1))) bt283.1 bt283.2.1) else (laws_FnTerms.j0 k t268 t271 true bt283.1 bt283.2.1)) else (laws_FnTerms.j0 k t268 t271 true bt283.1 bt283.2.1)) else (laws_FnTerms.j0 k t268 t271 true bt283.1 bt283.2.1))) else (laws_FnTerms.j0 k t268 t271 true bt283.1 bt283.2.1))) else (laws_FnTerms.j0 k t268 t271 true bt283.1 bt283.2.1)))))))))) = some r := h
 clear h
 replace H := Option.bind_eq_some_iff.mp H
 obtain ⟨t267, A30, H⟩ := H
 replace H : (if t267 = true then (some true) else ((spec_A2Terms.f k l0).bind fun t268 => ((spec_A2Terms.f k l1).bind fun t271 => ((impl_TermsText.f k t268).bind fun t274 => ((impl_ReadTerms.f k t274).bind fun bt275 => ((impl_RatioOf.f k t268).bind fun bt279 => ((spec_RatioOf.f k t268).bind fun bt283 => (if bt275.2 = 0 then ((spec_A2Same.f k bt275.1 t268).bind fun t287 => (if t287 = true then ((impl_ValidTerms.f k t268).bind fun t288 => (if t288 = true then (if bt279.2.2 = bt283.2.2 then (if bt279.2.2 = 0 then (laws_FnTerms.j0 k t268 t271 (!(bt279.1 == bt283.1) || (!(bt279.2.1 == bt283.2.1))) bt283.1 bt283.2.1) else (laws_FnTerms.j0 k t268 t271 true bt283.1 bt283.2.1)) else (laws_FnTerms.j0 k t268 t271 true bt283.1 bt283.2.1)) else (laws_FnTerms.j0 k t268 t271 true bt283.1 bt283.2.1))) else (laws_FnTerms.j0 k t268 t271 true bt283.1 bt283.2.1))) else (laws_FnTerms.j0 k t268 t271 true bt283.1 bt283.2.1))))))))) = some r := H
 have A3 := aM4_ A30
 clear A30
 by_cases c4 : t267 = true
 ·subst c4
  have H1 : (some true) = some r := by rw [if_pos rfl] at H; exact H
  clear H
  have H := H1
  clear H1
  obtain rfl := Option.some.inj H
  go_enter Tryd.func4, Tryd.ntmps4
  go_wp2_with (first | ((with_reducible refine gate_callee (f := 5) rfl ?_); refine goesL_ (some 30) rfl rfl Tryd.func5 (by kernel_rfl) rfl #[.slice A0 l0.length c0, .slice A1 l1.length c1] rfl q4x1_ ?_; (with_reducible refine (laws_a2Long.calls _ _ l0 _ _ l1 true _ ?side1 ?side2 ?side3 ?side4 A3.out).mono ?_); (case side1 => repeat (first | exact HR0.out | (with_reducible refine Kd.C_alloc ?_ _) | (with_reducible refine Kd.C_drewN ?_ _) | (with_reducible refine Kd.C_drew ?_))); (case side2 => exact HC0.out); (case side3 => repeat (first | exact HR1.out | (with_reducible refine Kd.C_alloc ?_ _) | (with_reducible refine Kd.C_drewN ?_ _) | (with_reducible refine Kd.C_drew ?_))); (case side4 => exact HC1.out); rintro e w' ⟨rfl, ⟨nd, rfl⟩⟩; refine ⟨_, rfl, ?_⟩))
  go_ret
  exact ⟨by first | rfl | (simp [errW_none, errW_some] <;> rfl) | (simp [*, errW_none, errW_some] <;> rfl), by repeat (first | (with_reducible first | exact HB.out | apply bA4_ | apply bN4_ | apply bD4_) | exact HB.out)⟩
 replace c4 := Bool.eq_false_iff.mpr c4
 subst c4
 have H1 : ((spec_A2Terms.f k l0).bind fun t268 => ((spec_A2Terms.f k l1).bind fun t271 => ((impl_TermsText.f k t268).bind fun t274 => ((impl_ReadTerms.f k t274).bind fun bt275 => ((impl_RatioOf.f k t268).bind fun bt279 => ((spec_RatioOf.f k t268).bind fun bt283 => (if bt275.2 = 0 then ((spec_A2Same.f k bt275.1 t268).bind fun t287 => (if t287 = true then ((impl_ValidTerms.f k t268).bind fun t288 => (if t288 = true then (if bt279.2.2 = bt283.2.2 then (if bt279.2.2 = 0 then (laws_FnTerms.j0 k t268 t271 (!(bt279.1 == bt283.1) || (!(bt279.2.1 == bt283.2.1))) bt283.1 bt283.2.1) else (laws_FnTerms.j0 k t268 t271 true bt283.1 bt283.2.1)) else (laws_FnTerms.j0 k t268 t271 true bt283.1 bt283.2.1)) else (laws_FnTerms.j0 k t268 t271 true bt283.1 bt283.2.1))) else (laws_FnTerms.j0 k t268 t271 true bt283.1 bt283.2.1))) else (laws_FnTerms.j0 k t268 t271 true bt283.1 bt283.2.1)))))))) = some r := by rw [if_neg (show ¬ (false = true) by decide)] at H; exact H
 clear H
 have H := H1
 clear H1
 replace H := Option.bind_eq_some_iff.mp H
 obtain ⟨t268, A50, H⟩ := H
 replace H : ((spec_A2Terms.f k l1).bind fun t271 => ((impl_TermsText.f k t268).bind fun t274 => ((impl_ReadTerms.f k t274).bind fun bt275 => ((impl_RatioOf.f k t268).bind fun bt279 => ((spec_RatioOf.f k t268).bind fun bt283 => (if bt275.2 = 0 then ((spec_A2Same.f k bt275.1 t268).bind fun t287 => (if t287 = true then ((impl_ValidTerms.f k t268).bind fun t288 => (if t288 = true then (if bt279.2.2 = bt283.2.2 then (if bt279.2.2 = 0 then (laws_FnTerms.j0 k t268 t271 (!(bt279.1 == bt283.1) || (!(bt279.2.1 == bt283.2.1))) bt283.1 bt283.2.1) else (laws_FnTerms.j0 k t268 t271 true bt283.1 bt283.2.1)) else (laws_FnTerms.j0 k t268 t271 true bt283.1 bt283.2.1)) else (laws_FnTerms.j0 k t268 t271 true bt283.1 bt283.2.1))) else (laws_FnTerms.j0 k t268 t271 true bt283.1 bt283.2.1))) else (laws_FnTerms.j0 k t268 t271 true bt283.1 bt283.2.1))))))) = some r := H
 have A5 := aM4_ A50
 clear A50
 replace H := Option.bind_eq_some_iff.mp H
 obtain ⟨t271, A60, H⟩ := H
 replace H : ((impl_TermsText.f k t268).bind fun t274 => ((impl_ReadTerms.f k t274).bind fun bt275 => ((impl_RatioOf.f k t268).bind fun bt279 => ((spec_RatioOf.f k t268).bind fun bt283 => (if bt275.2 = 0 then ((spec_A2Same.f k bt275.1 t268).bind fun t287 => (if t287 = true then ((impl_ValidTerms.f k t268).bind fun t288 => (if t288 = true then (if bt279.2.2 = bt283.2.2 then (if bt279.2.2 = 0 then (laws_FnTerms.j0 k t268 t271 (!(bt279.1 == bt283.1) || (!(bt279.2.1 == bt283.2.1))) bt283.1 bt283.2.1) else (laws_FnTerms.j0 k t268 t271 true bt283.1 bt283.2.1)) else (laws_FnTerms.j0 k t268 t271 true bt283.1 bt283.2.1)) else (laws_FnTerms.j0 k t268 t271 true bt283.1 bt283.2.1))) else (laws_FnTerms.j0 k t268 t271 true bt283.1 bt283.2.1))) else (laws_FnTerms.j0 k t268 t271 true bt283.1 bt283.2.1)))))) = some r := H
 have A6 := aM4_ A60
 clear A60
 replace H := Option.bind_eq_some_iff.mp H
 obtain ⟨t274, A70, H⟩ := H
 replace H : ((impl_ReadTerms.f k t274).bind fun bt275 => ((impl_RatioOf.f k t268).bind fun bt279 => ((spec_RatioOf.f k t268).bind fun bt283 => (if bt275.2 = 0 then ((spec_A2Same.f k bt275.1 t268).bind fun t287 => (if t287 = true then ((impl_ValidTerms.f k t268).bind fun t288 => (if t288 = true then (if bt279.2.2 = bt283.2.2 then (if bt279.2.2 = 0 then (laws_FnTerms.j0 k t268 t271 (!(bt279.1 == bt283.1) || (!(bt279.2.1 == bt283.2.1))) bt283.1 bt283.2.1) else (laws_FnTerms.j0 k t268 t271 true bt283.1 bt283.2.1)) else (laws_FnTerms.j0 k t268 t271 true bt283.1 bt283.2.1)) else (laws_FnTerms.j0 k t268 t271 true bt283.1 bt283.2.1))) else (laws_FnTerms.j0 k t268 t271 true bt283.1 bt283.2.1))) else (laws_FnTerms.j0 k t268 t271 true bt283.1 bt283.2.1))))) = some r := H
 have A7 := aM4_ A70
 clear A70
 replace H := Option.bind_eq_some_iff.mp H
 obtain ⟨⟨t275, t276⟩, A80, H⟩ := H
 replace H : ((impl_RatioOf.f k t268).bind fun bt279 => ((spec_RatioOf.f k t268).bind fun bt283 => (if t276 = 0 then ((spec_A2Same.f k t275 t268).bind fun t287 => (if t287 = true then ((impl_ValidTerms.f k t268).bind fun t288 => (if t288 = true then (if bt279.2.2 = bt283.2.2 then (if bt279.2.2 = 0 then (laws_FnTerms.j0 k t268 t271 (!(bt279.1 == bt283.1) || (!(bt279.2.1 == bt283.2.1))) bt283.1 bt283.2.1) else (laws_FnTerms.j0 k t268 t271 true bt283.1 bt283.2.1)) else (laws_FnTerms.j0 k t268 t271 true bt283.1 bt283.2.1)) else (laws_FnTerms.j0 k t268 t271 true bt283.1 bt283.2.1))) else (laws_FnTerms.j0 k t268 t271 true bt283.1 bt283.2.1))) else (laws_FnTerms.j0 k t268 t271 true bt283.1 bt283.2.1)))) = some r := H
 have A8 := aM4_ A80
 clear A80
 replace H := Option.bind_eq_some_iff.mp H
 obtain ⟨⟨t279, t280, t281⟩, A90, H⟩ := H
 replace H : ((spec_RatioOf.f k t268).bind fun bt283 => (if t276 = 0 then ((spec_A2Same.f k t275 t268).bind fun t287 => (if t287 = true then ((impl_ValidTerms.f k t268).bind fun t288 => (if t288 = true then (if t281 = bt283.2.2 then (if t281 = 0 then (laws_FnTerms.j0 k t268 t271 (!(t279 == bt283.1) || (!(t280 == bt283.2.1))) bt283.1 bt283.2.1) else (laws_FnTerms.j0 k t268 t271 true bt283.1 bt283.2.1)) else (laws_FnTerms.j0 k t268 t271 true bt283.1 bt283.2.1)) else (laws_FnTerms.j0 k t268 t271 true bt283.1 bt283.2.1))) else (laws_FnTerms.j0 k t268 t271 true bt283.1 bt283.2.1))) else (laws_FnTerms.j0 k t268 t271 true bt283.1 bt283.2.1))) = some r := H
 have A9 := aM4_ A90
 clear A90
 replace H := Option.bind_eq_some_iff.mp H
 obtain ⟨⟨t283, t284, t285⟩, A100, H⟩ := H
 replace H : (if t276 = 0 then ((spec_A2Same.f k t275 t268).bind fun t287 => (if t287 = true then ((impl_ValidTerms.f k t268).bind fun t288 => (if t288 = true then (if t281 = t285 then (if t281 = 0 then (laws_FnTerms.j0 k t268 t271 (!(t279 == t283) || (!(t280 == t284))) t283 t284) else (laws_FnTerms.j0 k t268 t271 true t283 t284)) else (laws_FnTerms.j0 k t268 t271 true t283 t284)) else (laws_FnTerms.j0 k t268 t271 true t283 t284))) else (laws_FnTerms.j0 k t268 t271 true t283 t284))) else (laws_FnTerms.j0 k t268 t271 true t283 t284)) = some r := H
 have A10 := aM4_ A100
 clear A100
 have HC11 := aM4_ H
 clear H
 go_enter Tryd.func4, Tryd.ntmps4
 go_upto_region 8 with (first | ((with_reducible refine gate_callee (f := 5) rfl ?_); refine goesL_ (some 30) rfl rfl Tryd.func5 (by kernel_rfl) rfl #[.slice A0 l0.length c0, .slice A1 l1.length c1] rfl q4x1_ ?_; (with_reducible refine (laws_a2Long.calls _ _ l0 _ _ l1 false _ ?side1 ?side2 ?side3 ?side4 A3.out).mono ?_); (case side1 => repeat (first | exact HR0.out | (with_reducible refine Kd.C_alloc ?_ _) | (with_reducible refine Kd.C_drewN ?_ _) | (with_reducible refine Kd.C_drew ?_))); (case side2 => exact HC0.out); (case side3 => repeat (first | exact HR1.out | (with_reducible refine Kd.C_alloc ?_ _) | (with_reducible refine Kd.C_drewN ?_ _) | (with_reducible refine Kd.C_drew ?_))); (case side4 => exact HC1.out); rintro e w' ⟨rfl, ⟨nd, rfl⟩⟩; refine ⟨_, rfl, ?_⟩) | ((with_reducible refine gate_callee (f := 18) rfl ?_); refine goesL_ (some 32) rfl rfl Tryd.func18 (by kernel_rfl) rfl #[.slice A0 l0.length c0] rfl q4x1_ ?_; (with_reducible refine (spec_A2Terms.calls k _ _ l0 t268 _ ?side1 ?side2 A5.out).mono ?_); (case side1 => repeat (first | exact HR0.out | (with_reducible refine Kd.C_alloc ?_ _) | (with_reducible refine Kd.C_drewN ?_ _) | (with_reducible refine Kd.C_drew ?_))); (case side2 => exact HC0.out); rintro e w12 ⟨v269, rfl, ho0, hb⟩; refine ⟨_, rfl, ?_⟩; have n0_ := aM4_ (Kd.R_lower ho0 (below_size q4x7_)); have n1_ := aM4_ (below_step q4x7_ hb); clear HB; have HO270 := n0_; have HB := n1_; clear n0_ n1_; (try clear hb); (try clear hb2); (try clear hk); (try clear hi); (try clear ho0)) | ((with_reducible refine gate_callee (f := 18) rfl ?_); refine goesL_ (some 34) rfl rfl Tryd.func18 (by kernel_rfl) rfl #[.slice A1 l1.length c1] rfl q4x1_ ?_; (with_reducible refine (spec_A2Terms.calls k _ _ l1 t271 _ ?side1 ?side2 A6.out).mono ?_); (case side1 => repeat (first | exact (Kd.C_below HR1.out HB.out) | (with_reducible refine Kd.C_alloc ?_ _) | (with_reducible refine Kd.C_drewN ?_ _) | (with_reducible refine Kd.C_drew ?_))); (case side2 => exact HC1.out); rintro e w13 ⟨v272, rfl, ho0, hb⟩; refine ⟨_, rfl, ?_⟩; have n0_ := aM4_ (Kd.R_elder' q4x14_ (Kd.R_base ho0) hb); have n1_ := aM4_ (Kd.R_lower (Kd.R_new' ho0 (Kd.R_lt q4x14_)) (below_size q4x7_)); have n2_ := aM4_ (below_step q4x7_ hb); clear HO270; clear HB; have HO270 := n0_; have HO273 := n1_; have HB := n2_; clear n0_ n1_ n2_; (try clear hb); (try clear hb2); (try clear hk); (try clear hi); (try clear ho0); obtain ⟨Ao14, co14, eo14⟩ := Kd.R_slice HO270.out; subst eo14) | ((with_reducible refine gate_callee (f := 20) rfl ?_); refine goesL_ (some 37) rfl rfl Tryd.func20 (by kernel_rfl) rfl #[.slice Ao14 t268.length co14] rfl q4x1_ ?_; (with_reducible refine (impl_TermsText.calls k _ _ t268 t274 _ ?side1 ?side2 ?side3 A7.out).mono ?_); (case side1 => repeat (first | exact (Kd.R_reads' HO270.out).2.2 | (with_reducible refine Kd.C_alloc ?_ _) | (with_reducible refine Kd.C_drewN ?_ _) | (with_reducible refine Kd.C_drew ?_))); (case side2 => exact (Kd.R_reads' HO270.out).2.1); (case side3 => first | exact HTab_.out | exact TabAt.below HTab_.out HB.out | exact TabAt.below HTab_.out q4x7_); rintro e w15 ⟨rfl, hb⟩; refine ⟨_, rfl, ?_⟩; have n0_ := aM4_ (rB4_ q4x14_ hb); have n1_ := aM4_ (rB4_ q4x16_ hb); have n2_ := aM4_ (below_step q4x7_ hb); clear HO270; clear HO273; clear HB; have HO270 := n0_; have HO273 := n1_; have HB := n2_; clear n0_ n1_ n2_; (try clear hb); (try clear hb2); (try clear hk); (try clear hi)) | ((with_reducible refine gate_callee (f := 19) rfl ?_); refine goesL_ (some 38) rfl rfl Tryd.func19 (by kernel_rfl) rfl #[.string t274] rfl q4x1_ ?_; (with_reducible refine (impl_ReadTerms.calls k t274 t275 t276 _ ?side1 A8.out).mono ?_); (case side1 => first | exact HTab_.out | exact TabAt.below HTab_.out HB.out | exact TabAt.below HTab_.out q4x7_); rintro e w16 ⟨v277, rfl, ho0, hb⟩; refine ⟨_, rfl, ?_⟩; have n0_ := aM4_ (Kd.R_elder' q4x14_ (Kd.R_base ho0) hb); have n1_ := aM4_ (Kd.R_elder' q4x16_ (Kd.R_base ho0) hb); have n2_ := aM4_ (Kd.R_lower (Kd.R_new' (Kd.R_new' ho0 (Kd.R_lt q4x14_)) (Kd.R_lt q4x16_)) (below_size q4x7_)); have n3_ := aM4_ (below_step q4x7_ hb); clear HO270; clear HO273; clear HB; have HO270 := n0_; have HO273 := n1_; have HO278 := n2_; have HB := n3_; clear n0_ n1_ n2_ n3_; (try clear hb); (try clear hb2); (try clear hk); (try clear hi); (try clear ho0)) | ((with_reducible refine gate_callee (f := 21) rfl ?_); refine goesL_ (some 43) rfl rfl Tryd.func21 (by kernel_rfl) rfl #[.slice Ao14 t268.length co14] rfl q4x1_ ?_; (with_reducible refine (impl_RatioOf.calls k _ _ t268 t279 t280 t281 _ ?side1 ?side2 A9.out).mono ?_); (case side1 => repeat (first | exact (Kd.R_reads' HO270.out).2.2 | (with_reducible refine Kd.C_alloc ?_ _) | (with_reducible refine Kd.C_drewN ?_ _) | (with_reducible refine Kd.C_drew ?_))); (case side2 => exact (Kd.R_reads' HO270.out).2.1); rintro e w17 ⟨rfl, hb⟩; refine ⟨_, rfl, ?_⟩; have n0_ := aM4_ (rB4_ q4x14_ hb); have n1_ := aM4_ (rB4_ q4x16_ hb); have n2_ := aM4_ (rB4_ q4x22_ hb); have n3_ := aM4_ (below_step q4x7_ hb); clear HO270; clear HO273; clear HO278; clear HB; have HO270 := n0_; have HO273 := n1_; have HO278 := n2_; have HB := n3_; clear n0_ n1_ n2_ n3_; (try clear hb); (try clear hb2); (try clear hk); (try clear hi)) | ((with_reducible refine gate_dst (N := 9) rfl ?_); (try (refine gate_guard (by rfl) ?_; dsimp only)); refine box_event ?hg (N := 9) ?hd (cs := #[.int .i64 0, .int .i64 0]) (t := 25) ?hr ?_; (case hd => rfl); (case hg => rfl); (case hr => first | (go_simp; done) | (go_simp; rfl)); intro gb282 hg w18 hbox hb; have n0_ := aM4_ (rB4_ q4x14_ hb); have n1_ := aM4_ (rB4_ q4x16_ hb); have n2_ := aM4_ (rB4_ q4x22_ hb); have n3_ := aM4_ (below_step q4x7_ hb); have n4_ := aM4_ (hbox); have n5_ := aM4_ ((by rw [hg]; exact (below_size q4x7_) : w.heap.size ≤ gb282)); have n6_ := aM4_ ((by rw [hg]; exact (below_size q4x7_) : w.heap.size ≤ gb282)); clear HO270; clear HO273; clear HO278; clear HB; have HO270 := n0_; have HO273 := n1_; have HO278 := n2_; have HB := n3_; have BK282 := n4_; have GW282 := n5_; have GE282 := n6_; clear n0_ n1_ n2_ n3_ n4_ n5_ n6_; clear hb hbox hg; have hcz19_0 : w18.cell? ⟨gb282, 0, none⟩ = some (.int .i64 0) := (kC4_ BK282.out 0).trans rfl; have hcz19_1 : w18.cell? ⟨gb282, 1, none⟩ = some (.int .i64 0) := (kC4_ BK282.out 1).trans rfl; have hfz19_0 := blk_frozen BK282.out 0; have hfz19_1 := blk_frozen BK282.out 1) | ((with_reducible refine gate_callee (f := 22) rfl ?_); refine goesL_ (some 48) rfl rfl Tryd.func22 (by kernel_rfl) rfl #[.slice Ao14 t268.length co14] rfl q4x1_ ?_; (with_reducible refine (spec_RatioOf.calls k _ _ t268 t283 t284 t285 _ ?side1 ?side2 A10.out).mono ?_); (case side1 => refine (Kd.R_reads' (e := 2) (base := w.heap.size) (ok := fun k_ => ((True ∧ some k_ ≠ (v272 : Value).ownBlock) ∧ some k_ ≠ (v277 : Value).ownBlock)) (n := t268.length) (c := co14) ?_).2.2; exact q4x19_); (case side2 => exact (Kd.R_reads' HO270.out).2.1); rintro e w20 ⟨rfl, hb⟩; refine ⟨_, rfl, ?_⟩; have n0_ := aM4_ (rB4_ q4x19_ hb); have n1_ := aM4_ (rB4_ (by (with_reducible repeat (first | apply rA4_ | apply rN4_ | apply rD4_)); exact (Kd.R_mono (Kd.R_far (p := ⟨gb282, 1, none⟩) (Kd.R_far (p := ⟨gb282, 0, none⟩) (Kd.R_types HO273.out BK282.out (by decide)) (fun _ hk => hk.2) (.int .i64 t279)) (fun _ hk => hk.2) (.int .i64 t280)) (fun _ h_ => h_.1))) hb); have n2_ := aM4_ (rB4_ (by (with_reducible repeat (first | apply rA4_ | apply rN4_ | apply rD4_)); exact (Kd.R_mono (Kd.R_far (p := ⟨gb282, 1, none⟩) (Kd.R_far (p := ⟨gb282, 0, none⟩) (Kd.R_types HO278.out BK282.out (by decide)) (fun _ hk => hk.2) (.int .i64 t279)) (fun _ hk => hk.2) (.int .i64 t280)) (fun _ h_ => h_.1))) hb); have n3_ := aM4_ (kB4_ (g := gb282) (o := .cells #[.int .i64 t279, .int .i64 t280] 25 (0, 0)) (by (with_reducible repeat (first | refine kN4_ ?_ _ | refine kD4_ ?_ | refine kA4_ ?_ _)); refine blk_put (cs := #[.int .i64 t279, .int .i64 0]) ?_ 1 _ rfl; (with_reducible repeat (first | refine kN4_ ?_ _ | refine kD4_ ?_ | refine kA4_ ?_ _)); refine blk_put (cs := #[.int .i64 0, .int .i64 0]) ?_ 0 _ rfl; (with_reducible repeat (first | refine kN4_ ?_ _ | refine kD4_ ?_ | refine kA4_ ?_ _)); exact BK282.out) hb); have n4_ := aM4_ (below_step q4x17_ hb); clear HO270; clear HO273; clear HO278; clear BK282; clear HB; have HO270 := n0_; have HO273 := n1_; have HO278 := n2_; have BK282 := n3_; have HB := n4_; clear n0_ n1_ n2_ n3_ n4_; (try clear hb); (try clear hb2); (try clear hk); (try clear hi)) | ((with_reducible refine gate_dst (N := 11) rfl ?_); (try (refine gate_guard (by rfl) ?_; dsimp only)); refine box_event ?hg (N := 11) ?hd (cs := #[.int .i64 0, .int .i64 0]) (t := 25) ?hr ?_; (case hd => rfl); (case hg => rfl); (case hr => first | (go_simp; done) | (go_simp; rfl)); intro gb286 hg w21 hbox hb; have n0_ := aM4_ (rB4_ q4x14_ hb); have n1_ := aM4_ (rB4_ q4x16_ hb); have n2_ := aM4_ (rB4_ q4x22_ hb); have n3_ := aM4_ (kB4_ (g := gb282) (o := .cells #[.int .i64 t279, .int .i64 t280] 25 (0, 0)) q4x5_ hb); have n4_ := aM4_ (below_step q4x17_ hb); have n5_ := aM4_ (hbox); have n6_ := aM4_ ((by rw [hg]; exact (below_size q4x17_) : w.heap.size ≤ gb286)); have n7_ := aM4_ ((by rw [hg]; exact (below_size q4x17_) : w.heap.size ≤ gb286)); have n8_ := aM4_ ((by rw [hg]; exact Nat.ne_of_lt (blk_lt (g := gb282) (o := .cells #[.int .i64 t279, .int .i64 t280] 25 (0, 0)) q4x5_) : gb282 ≠ gb286)); have n9_ := aM4_ ((by rw [hg]; exact Nat.ne_of_gt (blk_lt (g := gb282) (o := .cells #[.int .i64 t279, .int .i64 t280] 25 (0, 0)) q4x5_) : gb286 ≠ gb282)); clear HO270; clear HO273; clear HO278; clear BK282; clear HB; have HO270 := n0_; have HO273 := n1_; have HO278 := n2_; have BK282 := n3_; have HB := n4_; have BK286 := n5_; have GW286 := n6_; have GE286 := n7_; have NB282_286 := n8_; have NB286_282 := n9_; clear n0_ n1_ n2_ n3_ n4_ n5_ n6_ n7_ n8_ n9_; clear hb hbox hg; have hnb22 := NB286_282.out; have hnc22 := NB282_286.out; have hcz23_0 : w21.cell? ⟨gb286, 0, none⟩ = some (.int .i64 0) := (kC4_ BK286.out 0).trans rfl; have hcz23_1 : w21.cell? ⟨gb286, 1, none⟩ = some (.int .i64 0) := (kC4_ BK286.out 1).trans rfl; have hfz23_0 := blk_frozen BK286.out 0; have hfz23_1 := blk_frozen BK286.out 1))
 (try simp only [Act.put, List.setIfInBounds_toArray, List.set_cons_zero, List.set_cons_succ])
 go_cut [77] (fun v77 wc => ∃ (kq : Nat) (x77_10 : Bool), v77 = .bool x77_10 ∧ Aside0 (laws_FnTerms.j0 kq t268 t271 x77_10 t283 t284 = some r) ∧ Aside0 (kq ≤ k) ∧ Aside0 (Kd.R (Kd.int .i64) 2 wc w.heap.size (fun k_ => some k_ ≠ (v272 : Value).ownBlock) (.slice Ao14 t268.length co14) t268) ∧ Aside0 (Kd.R (Kd.int .i64) 2 wc w.heap.size (fun k_ => some k_ ≠ ((.slice Ao14 t268.length co14) : Value).ownBlock) v272 t271) ∧ Aside0 (wc.heap[gb282]? = some (.cells #[.int .i64 t279, .int .i64 t280] 25 (0, 0))) ∧ Aside0 (wc.heap[gb286]? = some (.cells #[.int .i64 t283, .int .i64 t284] 25 (0, 0))) ∧ Aside0 (Below w.heap.size w wc))
 case first =>
  have H := HC11.out
  clear HC11
  by_cases c24 : t276 = 0
  rotate_left
  ·rw [if_neg c24] at H
   have c24b0 : (t276 == 0) = false := beq_eq_false_iff_ne.mpr c24
   have c24b1 : (t276 != 0) = true := bne_iff_ne.mpr c24
   (first | rw [c24b0] | (simp only [i64_w, i32_w]; rw [c24b0]) | skip)
   have H' := aM4_ H
   clear H
   go_wp2
   go_meet
   case rel => exact ⟨_, (true), q4x11_, H', ⟨by first | omega | exact Nat.le_refl _⟩, ⟨by (with_reducible repeat (first | apply rA4_ | apply rN4_ | apply rD4_)); exact Kd.R_mono (Kd.R_far (p := ⟨gb286, 1, none⟩) (Kd.R_far (p := ⟨gb286, 0, none⟩) (Kd.R_types HO270.out BK286.out (by decide)) (fun _ hk => hk.2) (.int .i64 t283)) (fun _ hk => hk.2) (.int .i64 t284)) (fun _ hk => hk.1.1.2)⟩, ⟨by (with_reducible repeat (first | apply rA4_ | apply rN4_ | apply rD4_)); exact Kd.R_mono (Kd.R_far (p := ⟨gb286, 1, none⟩) (Kd.R_far (p := ⟨gb286, 0, none⟩) (Kd.R_types HO273.out BK286.out (by decide)) (fun _ hk => hk.2) (.int .i64 t283)) (fun _ hk => hk.2) (.int .i64 t284)) (fun _ hk => hk.1.1.2)⟩, ⟨by (with_reducible repeat (first | refine kN4_ ?_ _ | refine kD4_ ?_ | refine kA4_ ?_ _)); refine blk_far ?_ NB282_286.out _; (with_reducible repeat (first | refine kN4_ ?_ _ | refine kD4_ ?_ | refine kA4_ ?_ _)); refine blk_far ?_ NB282_286.out _; (with_reducible repeat (first | refine kN4_ ?_ _ | refine kD4_ ?_ | refine kA4_ ?_ _)); exact BK282.out⟩, ⟨by (with_reducible repeat (first | refine kN4_ ?_ _ | refine kD4_ ?_ | refine kA4_ ?_ _)); refine blk_put (cs := #[.int .i64 t283, .int .i64 0]) ?_ 1 _ rfl; (with_reducible repeat (first | refine kN4_ ?_ _ | refine kD4_ ?_ | refine kA4_ ?_ _)); refine blk_put (cs := #[.int .i64 0, .int .i64 0]) ?_ 0 _ rfl; (with_reducible repeat (first | refine kN4_ ?_ _ | refine kD4_ ?_ | refine kA4_ ?_ _)); exact BK286.out⟩, ⟨by repeat (first | (with_reducible first | exact HB.out | apply bA4_ | apply bN4_ | apply bD4_ | refine bS4_ ?_ GE282.out | refine bS4_ ?_ GE286.out) | exact HB.out)⟩⟩
  rw [if_pos c24] at H
  have c24b0 : (t276 == 0) = true := beq_iff_eq.mpr c24
  have c24b1 : (t276 != 0) = false := bne_eq_false_iff_eq.mpr c24
  clear c24
  (first | rw [c24b0] | (simp only [i64_w, i32_w]; rw [c24b0]) | skip)
  replace H := Option.bind_eq_some_iff.mp H
  obtain ⟨t287, A250, H⟩ := H
  replace H : (if t287 = true then ((impl_ValidTerms.f k t268).bind fun t288 => (if t288 = true then (if t281 = t285 then (if t281 = 0 then (laws_FnTerms.j0 k t268 t271 (!(t279 == t283) || (!(t280 == t284))) t283 t284) else (laws_FnTerms.j0 k t268 t271 true t283 t284)) else (laws_FnTerms.j0 k t268 t271 true t283 t284)) else (laws_FnTerms.j0 k t268 t271 true t283 t284))) else (laws_FnTerms.j0 k t268 t271 true t283 t284)) = some r := H
  have A25 := aM4_ A250
  clear A250
  by_cases c26 : t287 = true
  rotate_left
  ·replace c26 := Bool.eq_false_iff.mpr c26
   subst c26
   have H1 : (laws_FnTerms.j0 k t268 t271 true t283 t284) = some r := by rw [if_neg (show ¬ (false = true) by decide)] at H; exact H
   clear H
   have H := H1
   clear H1
   have H' := aM4_ H
   clear H
   obtain ⟨Ao38, co38, eo38⟩ := Kd.R_slice HO278.out
   subst eo38
   go_wp2_with (first | (go_at_call 23; (with_reducible refine (spec_A2Same.calls k _ _ t275 _ _ t268 false _ ?side1 ?side2 ?side3 ?side4 A25.out).mono ?_); (case side1 => refine (Kd.R_reads' (e := 2) (base := w.heap.size) (ok := fun k_ => ((True ∧ some k_ ≠ (.slice Ao14 t268.length co14 : Value).ownBlock) ∧ some k_ ≠ (v272 : Value).ownBlock)) (n := t275.length) (c := co38) ?_).2.2; exact q4x9_); (case side2 => exact (Kd.R_reads' HO278.out).2.1); (case side3 => refine (Kd.R_reads' (e := 2) (base := w.heap.size) (ok := fun k_ => ((True ∧ some k_ ≠ (v272 : Value).ownBlock) ∧ some k_ ≠ (.slice Ao38 t275.length co38 : Value).ownBlock)) (n := t268.length) (c := co14) ?_).2.2; exact q4x4_); (case side4 => exact (Kd.R_reads' HO270.out).2.1); rintro e w' ⟨rfl, ⟨nd, rfl⟩⟩))
   go_meet
   case rel => exact ⟨_, (true), q4x11_, H', ⟨by first | omega | exact Nat.le_refl _⟩, ⟨by (with_reducible repeat (first | apply rA4_ | apply rN4_ | apply rD4_)); exact Kd.R_mono (Kd.R_far (p := ⟨gb286, 1, none⟩) (Kd.R_far (p := ⟨gb286, 0, none⟩) (Kd.R_types HO270.out BK286.out (by decide)) (fun _ hk => hk.2) (.int .i64 t283)) (fun _ hk => hk.2) (.int .i64 t284)) (fun _ hk => hk.1.1.2)⟩, ⟨by (with_reducible repeat (first | apply rA4_ | apply rN4_ | apply rD4_)); exact Kd.R_mono (Kd.R_far (p := ⟨gb286, 1, none⟩) (Kd.R_far (p := ⟨gb286, 0, none⟩) (Kd.R_types HO273.out BK286.out (by decide)) (fun _ hk => hk.2) (.int .i64 t283)) (fun _ hk => hk.2) (.int .i64 t284)) (fun _ hk => hk.1.1.2)⟩, ⟨by (with_reducible repeat (first | refine kN4_ ?_ _ | refine kD4_ ?_ | refine kA4_ ?_ _)); refine blk_far ?_ NB282_286.out _; (with_reducible repeat (first | refine kN4_ ?_ _ | refine kD4_ ?_ | refine kA4_ ?_ _)); refine blk_far ?_ NB282_286.out _; (with_reducible repeat (first | refine kN4_ ?_ _ | refine kD4_ ?_ | refine kA4_ ?_ _)); exact BK282.out⟩, ⟨by (with_reducible repeat (first | refine kN4_ ?_ _ | refine kD4_ ?_ | refine kA4_ ?_ _)); refine blk_put (cs := #[.int .i64 t283, .int .i64 0]) ?_ 1 _ rfl; (with_reducible repeat (first | refine kN4_ ?_ _ | refine kD4_ ?_ | refine kA4_ ?_ _)); refine blk_put (cs := #[.int .i64 0, .int .i64 0]) ?_ 0 _ rfl; (with_reducible repeat (first | refine kN4_ ?_ _ | refine kD4_ ?_ | refine kA4_ ?_ _)); exact BK286.out⟩, ⟨by repeat (first | (with_reducible first | exact HB.out | apply bA4_ | apply bN4_ | apply bD4_ | refine bS4_ ?_ GE282.out | refine bS4_ ?_ GE286.out) | exact HB.out)⟩⟩
  subst c26
  have H1 : ((impl_ValidTerms.f k t268).bind fun t288 => (if t288 = true then (if t281 = t285 then (if t281 = 0 then (laws_FnTerms.j0 k t268 t271 (!(t279 == t283) || (!(t280 == t284))) t283 t284) else (laws_FnTerms.j0 k t268 t271 true t283 t284)) else (laws_FnTerms.j0 k t268 t271 true t283 t284)) else (laws_FnTerms.j0 k t268 t271 true t283 t284))) = some r := by rw [if_pos rfl] at H; exact H
  clear H
  have H := H1
  clear H1
  replace H := Option.bind_eq_some_iff.mp H
  obtain ⟨t288, A270, H⟩ := H
  replace H : (if t288 = true then (if t281 = t285 then (if t281 = 0 then (laws_FnTerms.j0 k t268 t271 (!(t279 == t283) || (!(t280 == t284))) t283 t284) else (laws_FnTerms.j0 k t268 t271 true t283 t284)) else (laws_FnTerms.j0 k t268 t271 true t283 t284)) else (laws_FnTerms.j0 k t268 t271 true t283 t284)) = some r := H
  have A27 := aM4_ A270
  clear A270
  by_cases c28 : t288 = true
  rotate_left
  ·replace c28 := Bool.eq_false_iff.mpr c28
   subst c28
   have H1 : (laws_FnTerms.j0 k t268 t271 true t283 t284) = some r := by rw [if_neg (show ¬ (false = true) by decide)] at H; exact H
   clear H
   have H := H1
   clear H1
   have H' := aM4_ H
   clear H
   obtain ⟨Ao37, co37, eo37⟩ := Kd.R_slice HO278.out
   subst eo37
   go_wp2_with (first | (go_at_call 23; (with_reducible refine (spec_A2Same.calls k _ _ t275 _ _ t268 true _ ?side1 ?side2 ?side3 ?side4 A25.out).mono ?_); (case side1 => refine (Kd.R_reads' (e := 2) (base := w.heap.size) (ok := fun k_ => ((True ∧ some k_ ≠ (.slice Ao14 t268.length co14 : Value).ownBlock) ∧ some k_ ≠ (v272 : Value).ownBlock)) (n := t275.length) (c := co37) ?_).2.2; exact q4x9_); (case side2 => exact (Kd.R_reads' HO278.out).2.1); (case side3 => refine (Kd.R_reads' (e := 2) (base := w.heap.size) (ok := fun k_ => ((True ∧ some k_ ≠ (v272 : Value).ownBlock) ∧ some k_ ≠ (.slice Ao37 t275.length co37 : Value).ownBlock)) (n := t268.length) (c := co14) ?_).2.2; exact q4x4_); (case side4 => exact (Kd.R_reads' HO270.out).2.1); rintro e w' ⟨rfl, ⟨nd, rfl⟩⟩) | (go_at_call 24; (with_reducible refine (impl_ValidTerms.calls k _ _ t268 false _ ?side1 ?side2 A27.out).mono ?_); (case side1 => refine (Kd.R_reads' (e := 2) (base := w.heap.size) (ok := fun k_ => ((True ∧ some k_ ≠ (v272 : Value).ownBlock) ∧ some k_ ≠ (.slice Ao37 t275.length co37 : Value).ownBlock)) (n := t268.length) (c := co14) ?_).2.2; exact q4x4_); (case side2 => exact (Kd.R_reads' HO270.out).2.1); rintro e w' ⟨rfl, ⟨nd, rfl⟩⟩))
   go_meet
   case rel => exact ⟨_, (true), q4x11_, H', ⟨by first | omega | exact Nat.le_refl _⟩, ⟨by (with_reducible repeat (first | apply rA4_ | apply rN4_ | apply rD4_)); exact Kd.R_mono (Kd.R_far (p := ⟨gb286, 1, none⟩) (Kd.R_far (p := ⟨gb286, 0, none⟩) (Kd.R_types HO270.out BK286.out (by decide)) (fun _ hk => hk.2) (.int .i64 t283)) (fun _ hk => hk.2) (.int .i64 t284)) (fun _ hk => hk.1.1.2)⟩, ⟨by (with_reducible repeat (first | apply rA4_ | apply rN4_ | apply rD4_)); exact Kd.R_mono (Kd.R_far (p := ⟨gb286, 1, none⟩) (Kd.R_far (p := ⟨gb286, 0, none⟩) (Kd.R_types HO273.out BK286.out (by decide)) (fun _ hk => hk.2) (.int .i64 t283)) (fun _ hk => hk.2) (.int .i64 t284)) (fun _ hk => hk.1.1.2)⟩, ⟨by (with_reducible repeat (first | refine kN4_ ?_ _ | refine kD4_ ?_ | refine kA4_ ?_ _)); refine blk_far ?_ NB282_286.out _; (with_reducible repeat (first | refine kN4_ ?_ _ | refine kD4_ ?_ | refine kA4_ ?_ _)); refine blk_far ?_ NB282_286.out _; (with_reducible repeat (first | refine kN4_ ?_ _ | refine kD4_ ?_ | refine kA4_ ?_ _)); exact BK282.out⟩, ⟨by (with_reducible repeat (first | refine kN4_ ?_ _ | refine kD4_ ?_ | refine kA4_ ?_ _)); refine blk_put (cs := #[.int .i64 t283, .int .i64 0]) ?_ 1 _ rfl; (with_reducible repeat (first | refine kN4_ ?_ _ | refine kD4_ ?_ | refine kA4_ ?_ _)); refine blk_put (cs := #[.int .i64 0, .int .i64 0]) ?_ 0 _ rfl; (with_reducible repeat (first | refine kN4_ ?_ _ | refine kD4_ ?_ | refine kA4_ ?_ _)); exact BK286.out⟩, ⟨by repeat (first | (with_reducible first | exact HB.out | apply bA4_ | apply bN4_ | apply bD4_ | refine bS4_ ?_ GE282.out | refine bS4_ ?_ GE286.out) | exact HB.out)⟩⟩
  subst c28
  have H1 : (if t281 = t285 then (if t281 = 0 then (laws_FnTerms.j0 k t268 t271 (!(t279 == t283) || (!(t280 == t284))) t283 t284) else (laws_FnTerms.j0 k t268 t271 true t283 t284)) else (laws_FnTerms.j0 k t268 t271 true t283 t284)) = some r := by rw [if_pos rfl] at H; exact H
  clear H
  have H := H1
  clear H1
  by_cases c29 : t281 = t285
  rotate_left
  ·rw [if_neg c29] at H
   have c29b0 : (t281 == t285) = false := beq_eq_false_iff_ne.mpr c29
   have c29b1 : (t281 != t285) = true := bne_iff_ne.mpr c29
   have H' := aM4_ H
   clear H
   obtain ⟨Ao36, co36, eo36⟩ := Kd.R_slice HO278.out
   subst eo36
   go_wp2_with (first | (go_at_call 23; (with_reducible refine (spec_A2Same.calls k _ _ t275 _ _ t268 true _ ?side1 ?side2 ?side3 ?side4 A25.out).mono ?_); (case side1 => refine (Kd.R_reads' (e := 2) (base := w.heap.size) (ok := fun k_ => ((True ∧ some k_ ≠ (.slice Ao14 t268.length co14 : Value).ownBlock) ∧ some k_ ≠ (v272 : Value).ownBlock)) (n := t275.length) (c := co36) ?_).2.2; exact q4x9_); (case side2 => exact (Kd.R_reads' HO278.out).2.1); (case side3 => refine (Kd.R_reads' (e := 2) (base := w.heap.size) (ok := fun k_ => ((True ∧ some k_ ≠ (v272 : Value).ownBlock) ∧ some k_ ≠ (.slice Ao36 t275.length co36 : Value).ownBlock)) (n := t268.length) (c := co14) ?_).2.2; exact q4x4_); (case side4 => exact (Kd.R_reads' HO270.out).2.1); rintro e w' ⟨rfl, ⟨nd, rfl⟩⟩) | (go_at_call 24; (with_reducible refine (impl_ValidTerms.calls k _ _ t268 true _ ?side1 ?side2 A27.out).mono ?_); (case side1 => refine (Kd.R_reads' (e := 2) (base := w.heap.size) (ok := fun k_ => ((True ∧ some k_ ≠ (v272 : Value).ownBlock) ∧ some k_ ≠ (.slice Ao36 t275.length co36 : Value).ownBlock)) (n := t268.length) (c := co14) ?_).2.2; exact q4x4_); (case side2 => exact (Kd.R_reads' HO270.out).2.1); rintro e w' ⟨rfl, ⟨nd, rfl⟩⟩))
   go_meet
   case rel => exact ⟨_, (true), q4x11_, H', ⟨by first | omega | exact Nat.le_refl _⟩, ⟨by (with_reducible repeat (first | apply rA4_ | apply rN4_ | apply rD4_)); exact Kd.R_mono (Kd.R_far (p := ⟨gb286, 1, none⟩) (Kd.R_far (p := ⟨gb286, 0, none⟩) (Kd.R_types HO270.out BK286.out (by decide)) (fun _ hk => hk.2) (.int .i64 t283)) (fun _ hk => hk.2) (.int .i64 t284)) (fun _ hk => hk.1.1.2)⟩, ⟨by (with_reducible repeat (first | apply rA4_ | apply rN4_ | apply rD4_)); exact Kd.R_mono (Kd.R_far (p := ⟨gb286, 1, none⟩) (Kd.R_far (p := ⟨gb286, 0, none⟩) (Kd.R_types HO273.out BK286.out (by decide)) (fun _ hk => hk.2) (.int .i64 t283)) (fun _ hk => hk.2) (.int .i64 t284)) (fun _ hk => hk.1.1.2)⟩, ⟨by (with_reducible repeat (first | refine kN4_ ?_ _ | refine kD4_ ?_ | refine kA4_ ?_ _)); refine blk_far ?_ NB282_286.out _; (with_reducible repeat (first | refine kN4_ ?_ _ | refine kD4_ ?_ | refine kA4_ ?_ _)); refine blk_far ?_ NB282_286.out _; (with_reducible repeat (first | refine kN4_ ?_ _ | refine kD4_ ?_ | refine kA4_ ?_ _)); exact BK282.out⟩, ⟨by (with_reducible repeat (first | refine kN4_ ?_ _ | refine kD4_ ?_ | refine kA4_ ?_ _)); refine blk_put (cs := #[.int .i64 t283, .int .i64 0]) ?_ 1 _ rfl; (with_reducible repeat (first | refine kN4_ ?_ _ | refine kD4_ ?_ | refine kA4_ ?_ _)); refine blk_put (cs := #[.int .i64 0, .int .i64 0]) ?_ 0 _ rfl; (with_reducible repeat (first | refine kN4_ ?_ _ | refine kD4_ ?_ | refine kA4_ ?_ _)); exact BK286.out⟩, ⟨by repeat (first | (with_reducible first | exact HB.out | apply bA4_ | apply bN4_ | apply bD4_ | refine bS4_ ?_ GE282.out | refine bS4_ ?_ GE286.out) | exact HB.out)⟩⟩
  rw [if_pos c29] at H
  have c29b0 : (t281 == t285) = true := beq_iff_eq.mpr c29
  have c29b1 : (t281 != t285) = false := bne_eq_false_iff_eq.mpr c29
  clear c29
  by_cases c30 : t281 = 0
  rotate_left
  ·rw [if_neg c30] at H
   have c30b0 : (t281 == 0) = false := beq_eq_false_iff_ne.mpr c30
   have c30b1 : (t281 != 0) = true := bne_iff_ne.mpr c30
   have H' := aM4_ H
   clear H
   obtain ⟨Ao35, co35, eo35⟩ := Kd.R_slice HO278.out
   subst eo35
   go_wp2_with (first | (go_at_call 23; (with_reducible refine (spec_A2Same.calls k _ _ t275 _ _ t268 true _ ?side1 ?side2 ?side3 ?side4 A25.out).mono ?_); (case side1 => refine (Kd.R_reads' (e := 2) (base := w.heap.size) (ok := fun k_ => ((True ∧ some k_ ≠ (.slice Ao14 t268.length co14 : Value).ownBlock) ∧ some k_ ≠ (v272 : Value).ownBlock)) (n := t275.length) (c := co35) ?_).2.2; exact q4x9_); (case side2 => exact (Kd.R_reads' HO278.out).2.1); (case side3 => refine (Kd.R_reads' (e := 2) (base := w.heap.size) (ok := fun k_ => ((True ∧ some k_ ≠ (v272 : Value).ownBlock) ∧ some k_ ≠ (.slice Ao35 t275.length co35 : Value).ownBlock)) (n := t268.length) (c := co14) ?_).2.2; exact q4x4_); (case side4 => exact (Kd.R_reads' HO270.out).2.1); rintro e w' ⟨rfl, ⟨nd, rfl⟩⟩) | (go_at_call 24; (with_reducible refine (impl_ValidTerms.calls k _ _ t268 true _ ?side1 ?side2 A27.out).mono ?_); (case side1 => refine (Kd.R_reads' (e := 2) (base := w.heap.size) (ok := fun k_ => ((True ∧ some k_ ≠ (v272 : Value).ownBlock) ∧ some k_ ≠ (.slice Ao35 t275.length co35 : Value).ownBlock)) (n := t268.length) (c := co14) ?_).2.2; exact q4x4_); (case side2 => exact (Kd.R_reads' HO270.out).2.1); rintro e w' ⟨rfl, ⟨nd, rfl⟩⟩))
   go_meet
   case rel => exact ⟨_, (true), q4x11_, H', ⟨by first | omega | exact Nat.le_refl _⟩, ⟨by (with_reducible repeat (first | apply rA4_ | apply rN4_ | apply rD4_)); exact Kd.R_mono (Kd.R_far (p := ⟨gb286, 1, none⟩) (Kd.R_far (p := ⟨gb286, 0, none⟩) (Kd.R_types HO270.out BK286.out (by decide)) (fun _ hk => hk.2) (.int .i64 t283)) (fun _ hk => hk.2) (.int .i64 t284)) (fun _ hk => hk.1.1.2)⟩, ⟨by (with_reducible repeat (first | apply rA4_ | apply rN4_ | apply rD4_)); exact Kd.R_mono (Kd.R_far (p := ⟨gb286, 1, none⟩) (Kd.R_far (p := ⟨gb286, 0, none⟩) (Kd.R_types HO273.out BK286.out (by decide)) (fun _ hk => hk.2) (.int .i64 t283)) (fun _ hk => hk.2) (.int .i64 t284)) (fun _ hk => hk.1.1.2)⟩, ⟨by (with_reducible repeat (first | refine kN4_ ?_ _ | refine kD4_ ?_ | refine kA4_ ?_ _)); refine blk_far ?_ NB282_286.out _; (with_reducible repeat (first | refine kN4_ ?_ _ | refine kD4_ ?_ | refine kA4_ ?_ _)); refine blk_far ?_ NB282_286.out _; (with_reducible repeat (first | refine kN4_ ?_ _ | refine kD4_ ?_ | refine kA4_ ?_ _)); exact BK282.out⟩, ⟨by (with_reducible repeat (first | refine kN4_ ?_ _ | refine kD4_ ?_ | refine kA4_ ?_ _)); refine blk_put (cs := #[.int .i64 t283, .int .i64 0]) ?_ 1 _ rfl; (with_reducible repeat (first | refine kN4_ ?_ _ | refine kD4_ ?_ | refine kA4_ ?_ _)); refine blk_put (cs := #[.int .i64 0, .int .i64 0]) ?_ 0 _ rfl; (with_reducible repeat (first | refine kN4_ ?_ _ | refine kD4_ ?_ | refine kA4_ ?_ _)); exact BK286.out⟩, ⟨by repeat (first | (with_reducible first | exact HB.out | apply bA4_ | apply bN4_ | apply bD4_ | refine bS4_ ?_ GE282.out | refine bS4_ ?_ GE286.out) | exact HB.out)⟩⟩
  rw [if_pos c30] at H
  have c30b0 : (t281 == 0) = true := beq_iff_eq.mpr c30
  have c30b1 : (t281 != 0) = false := bne_eq_false_iff_eq.mpr c30
  clear c30
  have H' := aM4_ H
  clear H
  obtain ⟨Ao31, co31, eo31⟩ := Kd.R_slice HO278.out
  subst eo31
  go_wp2_with (first | (go_at_call 23; (with_reducible refine (spec_A2Same.calls k _ _ t275 _ _ t268 true _ ?side1 ?side2 ?side3 ?side4 A25.out).mono ?_); (case side1 => refine (Kd.R_reads' (e := 2) (base := w.heap.size) (ok := fun k_ => ((True ∧ some k_ ≠ (.slice Ao14 t268.length co14 : Value).ownBlock) ∧ some k_ ≠ (v272 : Value).ownBlock)) (n := t275.length) (c := co31) ?_).2.2; exact q4x9_); (case side2 => exact (Kd.R_reads' HO278.out).2.1); (case side3 => refine (Kd.R_reads' (e := 2) (base := w.heap.size) (ok := fun k_ => ((True ∧ some k_ ≠ (v272 : Value).ownBlock) ∧ some k_ ≠ (.slice Ao31 t275.length co31 : Value).ownBlock)) (n := t268.length) (c := co14) ?_).2.2; exact q4x4_); (case side4 => exact (Kd.R_reads' HO270.out).2.1); rintro e w' ⟨rfl, ⟨nd, rfl⟩⟩) | (go_at_call 24; (with_reducible refine (impl_ValidTerms.calls k _ _ t268 true _ ?side1 ?side2 A27.out).mono ?_); (case side1 => refine (Kd.R_reads' (e := 2) (base := w.heap.size) (ok := fun k_ => ((True ∧ some k_ ≠ (v272 : Value).ownBlock) ∧ some k_ ≠ (.slice Ao31 t275.length co31 : Value).ownBlock)) (n := t268.length) (c := co14) ?_).2.2; exact q4x4_); (case side2 => exact (Kd.R_reads' HO270.out).2.1); rintro e w' ⟨rfl, ⟨nd, rfl⟩⟩; have hnb32 := NB282_286.out; have hnc32 := NB286_282.out; have hcz33_0 : w21.cell? ⟨gb282, 0, none⟩ = some (.int .i64 t279) := (kC4_ BK282.out 0).trans rfl; have hcz33_1 : w21.cell? ⟨gb282, 1, none⟩ = some (.int .i64 t280) := (kC4_ BK282.out 1).trans rfl; have hfz33_0 := blk_frozen BK282.out 0; have hfz33_1 := blk_frozen BK282.out 1; have hcz34_0 : w21.cell? ⟨gb286, 0, none⟩ = some (.int .i64 0) := (kC4_ BK286.out 0).trans rfl; have hcz34_1 : w21.cell? ⟨gb286, 1, none⟩ = some (.int .i64 0) := (kC4_ BK286.out 1).trans rfl; have hfz34_0 := blk_frozen BK286.out 0; have hfz34_1 := blk_frozen BK286.out 1))
  go_meet
  case rel => exact ⟨_, ((!(t279 == t283) || (!(t280 == t284)))), q4x11_, H', ⟨by first | omega | exact Nat.le_refl _⟩, ⟨by (with_reducible repeat (first | apply rA4_ | apply rN4_ | apply rD4_)); exact Kd.R_mono (Kd.R_far (p := ⟨gb286, 1, none⟩) (Kd.R_far (p := ⟨gb286, 0, none⟩) (Kd.R_types HO270.out BK286.out (by decide)) (fun _ hk => hk.2) (.int .i64 t283)) (fun _ hk => hk.2) (.int .i64 t284)) (fun _ hk => hk.1.1.2)⟩, ⟨by (with_reducible repeat (first | apply rA4_ | apply rN4_ | apply rD4_)); exact Kd.R_mono (Kd.R_far (p := ⟨gb286, 1, none⟩) (Kd.R_far (p := ⟨gb286, 0, none⟩) (Kd.R_types HO273.out BK286.out (by decide)) (fun _ hk => hk.2) (.int .i64 t283)) (fun _ hk => hk.2) (.int .i64 t284)) (fun _ hk => hk.1.1.2)⟩, ⟨by (with_reducible repeat (first | refine kN4_ ?_ _ | refine kD4_ ?_ | refine kA4_ ?_ _)); refine blk_far ?_ NB282_286.out _; (with_reducible repeat (first | refine kN4_ ?_ _ | refine kD4_ ?_ | refine kA4_ ?_ _)); refine blk_far ?_ NB282_286.out _; (with_reducible repeat (first | refine kN4_ ?_ _ | refine kD4_ ?_ | refine kA4_ ?_ _)); exact BK282.out⟩, ⟨by (with_reducible repeat (first | refine kN4_ ?_ _ | refine kD4_ ?_ | refine kA4_ ?_ _)); refine blk_put (cs := #[.int .i64 t283, .int .i64 0]) ?_ 1 _ rfl; (with_reducible repeat (first | refine kN4_ ?_ _ | refine kD4_ ?_ | refine kA4_ ?_ _)); refine blk_put (cs := #[.int .i64 0, .int .i64 0]) ?_ 0 _ rfl; (with_reducible repeat (first | refine kN4_ ?_ _ | refine kD4_ ?_ | refine kA4_ ?_ _)); exact BK286.out⟩, ⟨by repeat (first | (with_reducible first | exact HB.out | apply bA4_ | apply bN4_ | apply bD4_ | refine bS4_ ?_ GE282.out | refine bS4_ ?_ GE286.out) | exact HB.out)⟩⟩
 case rest =>
  clear HC11
  try clear c1
  try clear c2
  try clear p2
  try clear c3
  try clear c4
  try clear c5
  try clear c18
  try clear c19
  try clear c20
  try clear c21
  try clear c22
  try clear c24
  try clear c24b0
  try clear c24b1
  try clear c26
  try clear c28
  try clear c29
  try clear c29b0
  try clear c29b1
  try clear c30
  try clear c30b0
  try clear c30b1
  try clear c32
  try clear hcz19_0
  try clear hcz19_1
  try clear hcz23_0
  try clear hcz23_1
  try clear hcz33_0
  try clear hcz33_1
  try clear hcz34_0
  try clear hcz34_1
  try clear hfz19_0
  try clear hfz19_1
  try clear hfz23_0
  try clear hfz23_1
  try clear hfz33_0
  try clear hfz33_1
  try clear hfz34_0
  try clear hfz34_1
  obtain ⟨kq, x77_10, rfl, HA, HJ10, HO_5, HO_6, BK282, BK286, HB⟩ := hcut
  cases kq with
  | zero => exact absurd HA.out (by simp [laws_FnTerms.j0])
  | succ kj10 => as_aux_lemma =>
   have H := HA.out
   clear HA
   simp only [laws_FnTerms.j0] at H
   by_cases c39 : x77_10 = true
   ·subst c39
    have H1 : (some false) = some r := by rw [if_pos rfl] at H; exact H
    clear H
    have H := H1
    clear H1
    obtain rfl := Option.some.inj H
    go_wp2
    go_ret
    exact ⟨by first | rfl | (simp [errW_none, errW_some] <;> rfl) | (simp [*, errW_none, errW_some] <;> rfl), by repeat (first | (with_reducible first | exact HB.out | apply bA4_ | apply bN4_ | apply bD4_ | refine bS4_ ?_ GE282.out | refine bS4_ ?_ GE286.out) | exact HB.out)⟩
   replace c39 := Bool.eq_false_iff.mpr c39
   subst c39
   have H1 : ((impl_TermsOf.f kj10 t283 t284).bind fun bt289 => ((spec_RatioOf.f kj10 t271).bind fun bt293 => ((impl_CompareTerms.f kj10 t268 t271).bind fun bt297 => ((spec_CompareRatios.f kj10 t283 t284 bt293.1 bt293.2.1).bind fun bt299 => (if bt289.2 = 0 then ((spec_A2Same.f kj10 bt289.1 t268).bind fun t301 => (if t301 = true then (if bt293.2.2 = 0 then (if bt297.2 = bt299.2 then (laws_FnTerms.j1 kj10 t268 (bt297.1 != bt299.1) t283 t284) else (laws_FnTerms.j1 kj10 t268 true t283 t284)) else (laws_FnTerms.j1 kj10 t268 true t283 t284)) else (laws_FnTerms.j1 kj10 t268 true t283 t284))) else (laws_FnTerms.j1 kj10 t268 true t283 t284)))))) = some r := by rw [if_neg (show ¬ (false = true) by decide)] at H; exact H
   clear H
   have H := H1
   clear H1
   replace H := Option.bind_eq_some_iff.mp H
   obtain ⟨⟨t289, t292⟩, A400, H⟩ := H
   replace H : ((spec_RatioOf.f kj10 t271).bind fun bt293 => ((impl_CompareTerms.f kj10 t268 t271).bind fun bt297 => ((spec_CompareRatios.f kj10 t283 t284 bt293.1 bt293.2.1).bind fun bt299 => (if t292 = 0 then ((spec_A2Same.f kj10 t289 t268).bind fun t301 => (if t301 = true then (if bt293.2.2 = 0 then (if bt297.2 = bt299.2 then (laws_FnTerms.j1 kj10 t268 (bt297.1 != bt299.1) t283 t284) else (laws_FnTerms.j1 kj10 t268 true t283 t284)) else (laws_FnTerms.j1 kj10 t268 true t283 t284)) else (laws_FnTerms.j1 kj10 t268 true t283 t284))) else (laws_FnTerms.j1 kj10 t268 true t283 t284))))) = some r := H
   have A40 := aM4_ A400
   clear A400
   replace H := Option.bind_eq_some_iff.mp H
   obtain ⟨⟨t293, t294, t295⟩, A410, H⟩ := H
   replace H : ((impl_CompareTerms.f kj10 t268 t271).bind fun bt297 => ((spec_CompareRatios.f kj10 t283 t284 t293 t294).bind fun bt299 => (if t292 = 0 then ((spec_A2Same.f kj10 t289 t268).bind fun t301 => (if t301 = true then (if t295 = 0 then (if bt297.2 = bt299.2 then (laws_FnTerms.j1 kj10 t268 (bt297.1 != bt299.1) t283 t284) else (laws_FnTerms.j1 kj10 t268 true t283 t284)) else (laws_FnTerms.j1 kj10 t268 true t283 t284)) else (laws_FnTerms.j1 kj10 t268 true t283 t284))) else (laws_FnTerms.j1 kj10 t268 true t283 t284)))) = some r := H
   have A41 := aM4_ A410
   clear A410
   replace H := Option.bind_eq_some_iff.mp H
   obtain ⟨⟨t297, t298⟩, A420, H⟩ := H
   replace H : ((spec_CompareRatios.f kj10 t283 t284 t293 t294).bind fun bt299 => (if t292 = 0 then ((spec_A2Same.f kj10 t289 t268).bind fun t301 => (if t301 = true then (if t295 = 0 then (if t298 = bt299.2 then (laws_FnTerms.j1 kj10 t268 (t297 != bt299.1) t283 t284) else (laws_FnTerms.j1 kj10 t268 true t283 t284)) else (laws_FnTerms.j1 kj10 t268 true t283 t284)) else (laws_FnTerms.j1 kj10 t268 true t283 t284))) else (laws_FnTerms.j1 kj10 t268 true t283 t284))) = some r := H
   have A42 := aM4_ A420
   clear A420
   replace H := Option.bind_eq_some_iff.mp H
   obtain ⟨⟨t299, t300⟩, A430, H⟩ := H
   replace H : (if t292 = 0 then ((spec_A2Same.f kj10 t289 t268).bind fun t301 => (if t301 = true then (if t295 = 0 then (if t298 = t300 then (laws_FnTerms.j1 kj10 t268 (t297 != t299) t283 t284) else (laws_FnTerms.j1 kj10 t268 true t283 t284)) else (laws_FnTerms.j1 kj10 t268 true t283 t284)) else (laws_FnTerms.j1 kj10 t268 true t283 t284))) else (laws_FnTerms.j1 kj10 t268 true t283 t284)) = some r := H
   have A43 := aM4_ A430
   clear A430
   have HC44 := aM4_ H
   clear H
   have hnb45 := NB286_282.out
   have hnc45 := NB282_286.out
   have hcz46_0 : wc.cell? ⟨gb286, 0, none⟩ = some (.int .i64 t283) := (kC4_ BK286.out 0).trans rfl
   have hcz46_1 : wc.cell? ⟨gb286, 1, none⟩ = some (.int .i64 t284) := (kC4_ BK286.out 1).trans rfl
   have hfz46_0 := blk_frozen BK286.out 0
   have hfz46_1 := blk_frozen BK286.out 1
   go_upto_region 14 with (first | ((with_reducible refine gate_callee (f := 25) rfl ?_); refine goesL_ (some 80) rfl rfl Tryd.func25 (by kernel_rfl) rfl #[.agg #[.int .i64 t283, .int .i64 t284]] rfl q4x1_ ?_; (with_reducible refine (impl_TermsOf.calls kj10 t283 t284 t289 t292 _ A40.out).mono ?_); rintro e w47 ⟨v290, rfl, ho0, hb⟩; refine ⟨_, rfl, ?_⟩; have n0_ := aM4_ (Kd.R_elder' q4x15_ (Kd.R_base ho0) hb); have n1_ := aM4_ (Kd.R_elder' q4x18_ (Kd.R_base ho0) hb); have n2_ := aM4_ (Kd.R_lower (Kd.R_new' (Kd.R_new' ho0 (Kd.R_lt q4x15_)) (Kd.R_lt q4x18_)) (below_size q4x10_)); have n3_ := aM4_ (kB4_ (g := gb282) (o := .cells #[.int .i64 t279, .int .i64 t280] 25 (0, 0)) q4x5_ hb); have n4_ := aM4_ (kB4_ (g := gb286) (o := .cells #[.int .i64 t283, .int .i64 t284] 25 (0, 0)) q4x6_ hb); have n5_ := aM4_ (below_step q4x10_ hb); clear HO_5; clear HO_6; clear BK282; clear BK286; clear HB; have HO_5 := n0_; have HO_6 := n1_; have HO291 := n2_; have BK282 := n3_; have BK286 := n4_; have HB := n5_; clear n0_ n1_ n2_ n3_ n4_ n5_; (try clear hb); (try clear hb2); (try clear hk); (try clear hi); (try clear ho0); obtain ⟨Ao48, co48, eo48⟩ := Kd.R_slice HO_6.out; subst eo48) | ((with_reducible refine gate_callee (f := 22) rfl ?_); refine goesL_ (some 85) rfl rfl Tryd.func22 (by kernel_rfl) rfl #[.slice Ao48 t271.length co48] rfl q4x1_ ?_; (with_reducible refine (spec_RatioOf.calls kj10 _ _ t271 t293 t294 t295 _ ?side1 ?side2 A41.out).mono ?_); (case side1 => repeat (first | exact (Kd.R_reads' HO_6.out).2.2 | (with_reducible refine Kd.C_alloc ?_ _) | (with_reducible refine Kd.C_drewN ?_ _) | (with_reducible refine Kd.C_drew ?_))); (case side2 => exact (Kd.R_reads' HO_6.out).2.1); rintro e w49 ⟨rfl, hb⟩; refine ⟨_, rfl, ?_⟩; have n0_ := aM4_ (rB4_ q4x15_ hb); have n1_ := aM4_ (rB4_ q4x18_ hb); have n2_ := aM4_ (rB4_ q4x23_ hb); have n3_ := aM4_ (kB4_ (g := gb282) (o := .cells #[.int .i64 t279, .int .i64 t280] 25 (0, 0)) q4x5_ hb); have n4_ := aM4_ (kB4_ (g := gb286) (o := .cells #[.int .i64 t283, .int .i64 t284] 25 (0, 0)) q4x6_ hb); have n5_ := aM4_ (below_step q4x10_ hb); clear HO_5; clear HO_6; clear HO291; clear BK282; clear BK286; clear HB; have HO_5 := n0_; have HO_6 := n1_; have HO291 := n2_; have BK282 := n3_; have BK286 := n4_; have HB := n5_; clear n0_ n1_ n2_ n3_ n4_ n5_; (try clear hb); (try clear hb2); (try clear hk); (try clear hi)) | ((with_reducible refine gate_dst (N := 15) rfl ?_); (try (refine gate_guard (by rfl) ?_; dsimp only)); refine box_event ?hg (N := 15) ?hd (cs := #[.int .i64 0, .int .i64 0]) (t := 25) ?hr ?_; (case hd => rfl); (case hg => rfl); (case hr => first | (go_simp; done) | (go_simp; rfl)); intro gb296 hg w50 hbox hb; have n0_ := aM4_ (rB4_ q4x15_ hb); have n1_ := aM4_ (rB4_ q4x18_ hb); have n2_ := aM4_ (rB4_ q4x23_ hb); have n3_ := aM4_ (kB4_ (g := gb282) (o := .cells #[.int .i64 t279, .int .i64 t280] 25 (0, 0)) q4x5_ hb); have n4_ := aM4_ (kB4_ (g := gb286) (o := .cells #[.int .i64 t283, .int .i64 t284] 25 (0, 0)) q4x6_ hb); have n5_ := aM4_ (below_step q4x10_ hb); have n6_ := aM4_ (hbox); have n7_ := aM4_ ((by rw [hg]; exact (below_size q4x10_) : w.heap.size ≤ gb296)); have n8_ := aM4_ ((by rw [hg]; exact (below_size q4x10_) : w.heap.size ≤ gb296)); have n9_ := aM4_ ((by rw [hg]; exact Nat.ne_of_lt (blk_lt (g := gb282) (o := .cells #[.int .i64 t279, .int .i64 t280] 25 (0, 0)) q4x5_) : gb282 ≠ gb296)); have n10_ := aM4_ ((by rw [hg]; exact Nat.ne_of_gt (blk_lt (g := gb282) (o := .cells #[.int .i64 t279, .int .i64 t280] 25 (0, 0)) q4x5_) : gb296 ≠ gb282)); have n11_ := aM4_ ((by rw [hg]; exact Nat.ne_of_lt (blk_lt (g := gb286) (o := .cells #[.int .i64 t283, .int .i64 t284] 25 (0, 0)) q4x6_) : gb286 ≠ gb296)); have n12_ := aM4_ ((by rw [hg]; exact Nat.ne_of_gt (blk_lt (g := gb286) (o := .cells #[.int .i64 t283, .int .i64 t284] 25 (0, 0)) q4x6_) : gb296 ≠ gb286)); clear HO_5; clear HO_6; clear HO291; clear BK282; clear BK286; clear HB; have HO_5 := n0_; have HO_6 := n1_; have HO291 := n2_; have BK282 := n3_; have BK286 := n4_; have HB := n5_; have BK296 := n6_; have GW296 := n7_; have GE296 := n8_; have NB282_296 := n9_; have NB296_282 := n10_; have NB286_296 := n11_; have NB296_286 := n12_; clear n0_ n1_ n2_ n3_ n4_ n5_ n6_ n7_ n8_ n9_ n10_ n11_ n12_; clear hb hbox hg; have hnb51 := NB296_282.out; have hnc51 := NB282_296.out; have hnb52 := NB296_286.out; have hnc52 := NB286_296.out; have hcz53_0 : w50.cell? ⟨gb296, 0, none⟩ = some (.int .i64 0) := (kC4_ BK296.out 0).trans rfl; have hcz53_1 : w50.cell? ⟨gb296, 1, none⟩ = some (.int .i64 0) := (kC4_ BK296.out 1).trans rfl; have hfz53_0 := blk_frozen BK296.out 0; have hfz53_1 := blk_frozen BK296.out 1) | ((with_reducible refine gate_callee (f := 26) rfl ?_); refine goesL_ (some 91) rfl rfl Tryd.func26 (by kernel_rfl) rfl #[.slice Ao14 t268.length co14, .slice Ao48 t271.length co48] rfl q4x1_ ?_; (with_reducible refine (impl_CompareTerms.calls kj10 _ _ t268 _ _ t271 t297 t298 _ ?side1 ?side2 ?side3 ?side4 A42.out).mono ?_); (case side1 => refine (Kd.R_reads' (e := 2) (base := w.heap.size) (ok := fun k_ => (some k_ ≠ (.slice Ao48 t271.length co48 : Value).ownBlock ∧ some k_ ≠ (v290 : Value).ownBlock)) (n := t268.length) (c := co14) ?_).2.2; exact q4x20_); (case side2 => exact (Kd.R_reads' HO_5.out).2.1); (case side3 => refine (Kd.R_reads' (e := 2) (base := w.heap.size) (ok := fun k_ => (some k_ ≠ (.slice Ao14 t268.length co14 : Value).ownBlock ∧ some k_ ≠ (v290 : Value).ownBlock)) (n := t271.length) (c := co48) ?_).2.2; exact q4x21_); (case side4 => exact (Kd.R_reads' HO_6.out).2.1); rintro e w54 ⟨rfl, hb⟩; refine ⟨_, rfl, ?_⟩; have n0_ := aM4_ (rB4_ q4x20_ hb); have n1_ := aM4_ (rB4_ q4x21_ hb); have n2_ := aM4_ (rB4_ (by (with_reducible repeat (first | apply rA4_ | apply rN4_ | apply rD4_)); exact (Kd.R_mono (Kd.R_far (p := ⟨gb296, 1, none⟩) (Kd.R_far (p := ⟨gb296, 0, none⟩) (Kd.R_types HO291.out BK296.out (by decide)) (fun _ hk => hk.2) (.int .i64 t293)) (fun _ hk => hk.2) (.int .i64 t294)) (fun _ h_ => h_.1))) hb); have n3_ := aM4_ (kB4_ (g := gb282) (o := .cells #[.int .i64 t279, .int .i64 t280] 25 (0, 0)) (by (with_reducible repeat (first | refine kN4_ ?_ _ | refine kD4_ ?_ | refine kA4_ ?_ _)); refine blk_far ?_ NB282_296.out _; (with_reducible repeat (first | refine kN4_ ?_ _ | refine kD4_ ?_ | refine kA4_ ?_ _)); refine blk_far ?_ NB282_296.out _; (with_reducible repeat (first | refine kN4_ ?_ _ | refine kD4_ ?_ | refine kA4_ ?_ _)); exact BK282.out) hb); have n4_ := aM4_ (kB4_ (g := gb286) (o := .cells #[.int .i64 t283, .int .i64 t284] 25 (0, 0)) (by (with_reducible repeat (first | refine kN4_ ?_ _ | refine kD4_ ?_ | refine kA4_ ?_ _)); refine blk_far ?_ NB286_296.out _; (with_reducible repeat (first | refine kN4_ ?_ _ | refine kD4_ ?_ | refine kA4_ ?_ _)); refine blk_far ?_ NB286_296.out _; (with_reducible repeat (first | refine kN4_ ?_ _ | refine kD4_ ?_ | refine kA4_ ?_ _)); exact BK286.out) hb); have n5_ := aM4_ (kB4_ (g := gb296) (o := .cells #[.int .i64 t293, .int .i64 t294] 25 (0, 0)) (by (with_reducible repeat (first | refine kN4_ ?_ _ | refine kD4_ ?_ | refine kA4_ ?_ _)); refine blk_put (cs := #[.int .i64 t293, .int .i64 0]) ?_ 1 _ rfl; (with_reducible repeat (first | refine kN4_ ?_ _ | refine kD4_ ?_ | refine kA4_ ?_ _)); refine blk_put (cs := #[.int .i64 0, .int .i64 0]) ?_ 0 _ rfl; (with_reducible repeat (first | refine kN4_ ?_ _ | refine kD4_ ?_ | refine kA4_ ?_ _)); exact BK296.out) hb); have n6_ := aM4_ (below_step q4x2_ hb); clear HO_5; clear HO_6; clear HO291; clear BK282; clear BK286; clear BK296; clear HB; have HO_5 := n0_; have HO_6 := n1_; have HO291 := n2_; have BK282 := n3_; have BK286 := n4_; have BK296 := n5_; have HB := n6_; clear n0_ n1_ n2_ n3_ n4_ n5_ n6_; (try clear hb); (try clear hb2); (try clear hk); (try clear hi); have hcz55_0 : w54.cell? ⟨gb286, 0, none⟩ = some (.int .i64 t283) := (kC4_ BK286.out 0).trans rfl; have hcz55_1 : w54.cell? ⟨gb286, 1, none⟩ = some (.int .i64 t284) := (kC4_ BK286.out 1).trans rfl; have hfz55_0 := blk_frozen BK286.out 0; have hfz55_1 := blk_frozen BK286.out 1; have hcz56_0 : w54.cell? ⟨gb296, 0, none⟩ = some (.int .i64 t293) := (kC4_ BK296.out 0).trans rfl; have hcz56_1 : w54.cell? ⟨gb296, 1, none⟩ = some (.int .i64 t294) := (kC4_ BK296.out 1).trans rfl; have hfz56_0 := blk_frozen BK296.out 0; have hfz56_1 := blk_frozen BK296.out 1) | ((with_reducible refine gate_callee (f := 27) rfl ?_); refine goesL_ (some 97) rfl rfl Tryd.func27 (by kernel_rfl) rfl #[.agg #[.int .i64 t283, .int .i64 t284], .agg #[.int .i64 t293, .int .i64 t294]] rfl q4x1_ ?_; (with_reducible refine (spec_CompareRatios.calls kj10 t283 t284 t293 t294 t299 t300 _ A43.out).mono ?_); rintro e w57 ⟨rfl, hb⟩; refine ⟨_, rfl, ?_⟩; have n0_ := aM4_ (rB4_ q4x15_ hb); have n1_ := aM4_ (rB4_ q4x18_ hb); have n2_ := aM4_ (rB4_ q4x23_ hb); have n3_ := aM4_ (kB4_ (g := gb282) (o := .cells #[.int .i64 t279, .int .i64 t280] 25 (0, 0)) q4x5_ hb); have n4_ := aM4_ (kB4_ (g := gb286) (o := .cells #[.int .i64 t283, .int .i64 t284] 25 (0, 0)) q4x6_ hb); have n5_ := aM4_ (kB4_ (g := gb296) (o := .cells #[.int .i64 t293, .int .i64 t294] 25 (0, 0)) q4x8_ hb); have n6_ := aM4_ (below_step q4x2_ hb); clear HO_5; clear HO_6; clear HO291; clear BK282; clear BK286; clear BK296; clear HB; have HO_5 := n0_; have HO_6 := n1_; have HO291 := n2_; have BK282 := n3_; have BK286 := n4_; have BK296 := n5_; have HB := n6_; clear n0_ n1_ n2_ n3_ n4_ n5_ n6_; (try clear hb); (try clear hb2); (try clear hk); (try clear hi)))
   (try simp only [Act.put, List.setIfInBounds_toArray, List.set_cons_zero, List.set_cons_succ])
   go_cut [121] (fun v121 wc => ∃ (kq : Nat) (x121_43 : Bool), v121 = .bool x121_43 ∧ Aside0 (laws_FnTerms.j1 kq t268 x121_43 t283 t284 = some r) ∧ Aside0 (kq ≤ kj10) ∧ Aside0 (Kd.R (Kd.int .i64) 2 wc w.heap.size (fun _ => True) (.slice Ao14 t268.length co14) t268) ∧ Aside0 (wc.heap[gb282]? = some (.cells #[.int .i64 t279, .int .i64 t280] 25 (0, 0))) ∧ Aside0 (wc.heap[gb286]? = some (.cells #[.int .i64 t283, .int .i64 t284] 25 (0, 0))) ∧ Aside0 (wc.heap[gb296]? = some (.cells #[.int .i64 t293, .int .i64 t294] 25 (0, 0))) ∧ Aside0 (Below w.heap.size w wc))
   case first =>
    have H := HC44.out
    clear HC44
    by_cases c58 : t292 = 0
    rotate_left
    ·rw [if_neg c58] at H
     have c58b0 : (t292 == 0) = false := beq_eq_false_iff_ne.mpr c58
     have c58b1 : (t292 != 0) = true := bne_iff_ne.mpr c58
     (first | rw [c58b0] | (simp only [i64_w, i32_w]; rw [c58b0]) | skip)
     have H' := aM4_ H
     clear H
     go_wp2
     go_meet
     case rel => exact ⟨_, (true), q4x11_, H', ⟨by have := HJ10.out; first | omega | exact Nat.le_refl _⟩, ⟨by (with_reducible repeat (first | apply rA4_ | apply rN4_ | apply rD4_)); exact Kd.R_mono HO_5.out (fun _ hk => trivial)⟩, ⟨by (with_reducible repeat (first | refine kN4_ ?_ _ | refine kD4_ ?_ | refine kA4_ ?_ _)); exact BK282.out⟩, ⟨by (with_reducible repeat (first | refine kN4_ ?_ _ | refine kD4_ ?_ | refine kA4_ ?_ _)); exact BK286.out⟩, ⟨by (with_reducible repeat (first | refine kN4_ ?_ _ | refine kD4_ ?_ | refine kA4_ ?_ _)); exact BK296.out⟩, ⟨by repeat (first | (with_reducible first | exact HB.out | apply bA4_ | apply bN4_ | apply bD4_ | refine bS4_ ?_ GE282.out | refine bS4_ ?_ GE286.out | refine bS4_ ?_ GE296.out) | exact HB.out)⟩⟩
    rw [if_pos c58] at H
    have c58b0 : (t292 == 0) = true := beq_iff_eq.mpr c58
    have c58b1 : (t292 != 0) = false := bne_eq_false_iff_eq.mpr c58
    clear c58
    (first | rw [c58b0] | (simp only [i64_w, i32_w]; rw [c58b0]) | skip)
    replace H := Option.bind_eq_some_iff.mp H
    obtain ⟨t301, A590, H⟩ := H
    replace H : (if t301 = true then (if t295 = 0 then (if t298 = t300 then (laws_FnTerms.j1 kj10 t268 (t297 != t299) t283 t284) else (laws_FnTerms.j1 kj10 t268 true t283 t284)) else (laws_FnTerms.j1 kj10 t268 true t283 t284)) else (laws_FnTerms.j1 kj10 t268 true t283 t284)) = some r := H
    have A59 := aM4_ A590
    clear A590
    by_cases c60 : t301 = true
    rotate_left
    ·replace c60 := Bool.eq_false_iff.mpr c60
     subst c60
     have H1 : (laws_FnTerms.j1 kj10 t268 true t283 t284) = some r := by rw [if_neg (show ¬ (false = true) by decide)] at H; exact H
     clear H
     have H := H1
     clear H1
     have H' := aM4_ H
     clear H
     obtain ⟨Ao66, co66, eo66⟩ := Kd.R_slice HO291.out
     subst eo66
     go_wp2_with (first | (go_at_call 23; (with_reducible refine (spec_A2Same.calls kj10 _ _ t289 _ _ t268 false _ ?side1 ?side2 ?side3 ?side4 A59.out).mono ?_); (case side1 => repeat (first | exact (Kd.R_reads' HO291.out).2.2 | (with_reducible refine Kd.C_alloc ?_ _) | (with_reducible refine Kd.C_drewN ?_ _) | (with_reducible refine Kd.C_drew ?_))); (case side2 => exact (Kd.R_reads' HO291.out).2.1); (case side3 => repeat (first | exact (Kd.R_reads' HO_5.out).2.2 | (with_reducible refine Kd.C_alloc ?_ _) | (with_reducible refine Kd.C_drewN ?_ _) | (with_reducible refine Kd.C_drew ?_))); (case side4 => exact (Kd.R_reads' HO_5.out).2.1); rintro e w' ⟨rfl, ⟨nd, rfl⟩⟩))
     go_meet
     case rel => exact ⟨_, (true), q4x11_, H', ⟨by have := HJ10.out; first | omega | exact Nat.le_refl _⟩, ⟨by (with_reducible repeat (first | apply rA4_ | apply rN4_ | apply rD4_)); exact Kd.R_mono HO_5.out (fun _ hk => trivial)⟩, ⟨by (with_reducible repeat (first | refine kN4_ ?_ _ | refine kD4_ ?_ | refine kA4_ ?_ _)); exact BK282.out⟩, ⟨by (with_reducible repeat (first | refine kN4_ ?_ _ | refine kD4_ ?_ | refine kA4_ ?_ _)); exact BK286.out⟩, ⟨by (with_reducible repeat (first | refine kN4_ ?_ _ | refine kD4_ ?_ | refine kA4_ ?_ _)); exact BK296.out⟩, ⟨by repeat (first | (with_reducible first | exact HB.out | apply bA4_ | apply bN4_ | apply bD4_ | refine bS4_ ?_ GE282.out | refine bS4_ ?_ GE286.out | refine bS4_ ?_ GE296.out) | exact HB.out)⟩⟩
    subst c60
    have H1 : (if t295 = 0 then (if t298 = t300 then (laws_FnTerms.j1 kj10 t268 (t297 != t299) t283 t284) else (laws_FnTerms.j1 kj10 t268 true t283 t284)) else (laws_FnTerms.j1 kj10 t268 true t283 t284)) = some r := by rw [if_pos rfl] at H; exact H
    clear H
    have H := H1
    clear H1
    by_cases c61 : t295 = 0
    rotate_left
    ·rw [if_neg c61] at H
     have c61b0 : (t295 == 0) = false := beq_eq_false_iff_ne.mpr c61
     have c61b1 : (t295 != 0) = true := bne_iff_ne.mpr c61
     have H' := aM4_ H
     clear H
     obtain ⟨Ao65, co65, eo65⟩ := Kd.R_slice HO291.out
     subst eo65
     go_wp2_with (first | (go_at_call 23; (with_reducible refine (spec_A2Same.calls kj10 _ _ t289 _ _ t268 true _ ?side1 ?side2 ?side3 ?side4 A59.out).mono ?_); (case side1 => repeat (first | exact (Kd.R_reads' HO291.out).2.2 | (with_reducible refine Kd.C_alloc ?_ _) | (with_reducible refine Kd.C_drewN ?_ _) | (with_reducible refine Kd.C_drew ?_))); (case side2 => exact (Kd.R_reads' HO291.out).2.1); (case side3 => repeat (first | exact (Kd.R_reads' HO_5.out).2.2 | (with_reducible refine Kd.C_alloc ?_ _) | (with_reducible refine Kd.C_drewN ?_ _) | (with_reducible refine Kd.C_drew ?_))); (case side4 => exact (Kd.R_reads' HO_5.out).2.1); rintro e w' ⟨rfl, ⟨nd, rfl⟩⟩))
     go_meet
     case rel => exact ⟨_, (true), q4x11_, H', ⟨by have := HJ10.out; first | omega | exact Nat.le_refl _⟩, ⟨by (with_reducible repeat (first | apply rA4_ | apply rN4_ | apply rD4_)); exact Kd.R_mono HO_5.out (fun _ hk => trivial)⟩, ⟨by (with_reducible repeat (first | refine kN4_ ?_ _ | refine kD4_ ?_ | refine kA4_ ?_ _)); exact BK282.out⟩, ⟨by (with_reducible repeat (first | refine kN4_ ?_ _ | refine kD4_ ?_ | refine kA4_ ?_ _)); exact BK286.out⟩, ⟨by (with_reducible repeat (first | refine kN4_ ?_ _ | refine kD4_ ?_ | refine kA4_ ?_ _)); exact BK296.out⟩, ⟨by repeat (first | (with_reducible first | exact HB.out | apply bA4_ | apply bN4_ | apply bD4_ | refine bS4_ ?_ GE282.out | refine bS4_ ?_ GE286.out | refine bS4_ ?_ GE296.out) | exact HB.out)⟩⟩
    rw [if_pos c61] at H
    have c61b0 : (t295 == 0) = true := beq_iff_eq.mpr c61
    have c61b1 : (t295 != 0) = false := bne_eq_false_iff_eq.mpr c61
    clear c61
    by_cases c62 : t298 = t300
    ·rw [if_pos c62] at H
     have c62b0 : (t298 == t300) = true := beq_iff_eq.mpr c62
     have c62b1 : (t298 != t300) = false := bne_eq_false_iff_eq.mpr c62
     clear c62
     have H' := aM4_ H
     clear H
     obtain ⟨Ao63, co63, eo63⟩ := Kd.R_slice HO291.out
     subst eo63
     go_wp2_with (first | (go_at_call 23; (with_reducible refine (spec_A2Same.calls kj10 _ _ t289 _ _ t268 true _ ?side1 ?side2 ?side3 ?side4 A59.out).mono ?_); (case side1 => repeat (first | exact (Kd.R_reads' HO291.out).2.2 | (with_reducible refine Kd.C_alloc ?_ _) | (with_reducible refine Kd.C_drewN ?_ _) | (with_reducible refine Kd.C_drew ?_))); (case side2 => exact (Kd.R_reads' HO291.out).2.1); (case side3 => repeat (first | exact (Kd.R_reads' HO_5.out).2.2 | (with_reducible refine Kd.C_alloc ?_ _) | (with_reducible refine Kd.C_drewN ?_ _) | (with_reducible refine Kd.C_drew ?_))); (case side4 => exact (Kd.R_reads' HO_5.out).2.1); rintro e w' ⟨rfl, ⟨nd, rfl⟩⟩))
     go_meet
     case rel => exact ⟨_, ((t297 != t299)), q4x11_, H', ⟨by have := HJ10.out; first | omega | exact Nat.le_refl _⟩, ⟨by (with_reducible repeat (first | apply rA4_ | apply rN4_ | apply rD4_)); exact Kd.R_mono HO_5.out (fun _ hk => trivial)⟩, ⟨by (with_reducible repeat (first | refine kN4_ ?_ _ | refine kD4_ ?_ | refine kA4_ ?_ _)); exact BK282.out⟩, ⟨by (with_reducible repeat (first | refine kN4_ ?_ _ | refine kD4_ ?_ | refine kA4_ ?_ _)); exact BK286.out⟩, ⟨by (with_reducible repeat (first | refine kN4_ ?_ _ | refine kD4_ ?_ | refine kA4_ ?_ _)); exact BK296.out⟩, ⟨by repeat (first | (with_reducible first | exact HB.out | apply bA4_ | apply bN4_ | apply bD4_ | refine bS4_ ?_ GE282.out | refine bS4_ ?_ GE286.out | refine bS4_ ?_ GE296.out) | exact HB.out)⟩⟩
    rw [if_neg c62] at H
    have c62b0 : (t298 == t300) = false := beq_eq_false_iff_ne.mpr c62
    have c62b1 : (t298 != t300) = true := bne_iff_ne.mpr c62
    have H' := aM4_ H
    clear H
    obtain ⟨Ao64, co64, eo64⟩ := Kd.R_slice HO291.out
    subst eo64
    go_wp2_with (first | (go_at_call 23; (with_reducible refine (spec_A2Same.calls kj10 _ _ t289 _ _ t268 true _ ?side1 ?side2 ?side3 ?side4 A59.out).mono ?_); (case side1 => repeat (first | exact (Kd.R_reads' HO291.out).2.2 | (with_reducible refine Kd.C_alloc ?_ _) | (with_reducible refine Kd.C_drewN ?_ _) | (with_reducible refine Kd.C_drew ?_))); (case side2 => exact (Kd.R_reads' HO291.out).2.1); (case side3 => repeat (first | exact (Kd.R_reads' HO_5.out).2.2 | (with_reducible refine Kd.C_alloc ?_ _) | (with_reducible refine Kd.C_drewN ?_ _) | (with_reducible refine Kd.C_drew ?_))); (case side4 => exact (Kd.R_reads' HO_5.out).2.1); rintro e w' ⟨rfl, ⟨nd, rfl⟩⟩))
    go_meet
    case rel => exact ⟨_, (true), q4x11_, H', ⟨by have := HJ10.out; first | omega | exact Nat.le_refl _⟩, ⟨by (with_reducible repeat (first | apply rA4_ | apply rN4_ | apply rD4_)); exact Kd.R_mono HO_5.out (fun _ hk => trivial)⟩, ⟨by (with_reducible repeat (first | refine kN4_ ?_ _ | refine kD4_ ?_ | refine kA4_ ?_ _)); exact BK282.out⟩, ⟨by (with_reducible repeat (first | refine kN4_ ?_ _ | refine kD4_ ?_ | refine kA4_ ?_ _)); exact BK286.out⟩, ⟨by (with_reducible repeat (first | refine kN4_ ?_ _ | refine kD4_ ?_ | refine kA4_ ?_ _)); exact BK296.out⟩, ⟨by repeat (first | (with_reducible first | exact HB.out | apply bA4_ | apply bN4_ | apply bD4_ | refine bS4_ ?_ GE282.out | refine bS4_ ?_ GE286.out | refine bS4_ ?_ GE296.out) | exact HB.out)⟩⟩
   case rest =>
    clear HC44
    try clear c1
    try clear c2
    try clear p2
    try clear c3
    try clear c4
    try clear c5
    try clear c6
    try clear c18
    try clear c19
    try clear c20
    try clear c21
    try clear c22
    try clear c24
    try clear c24b0
    try clear c24b1
    try clear c25
    try clear c26
    try clear c27
    try clear c28
    try clear c29
    try clear c29b0
    try clear c29b1
    try clear c30
    try clear c30b0
    try clear c30b1
    try clear c32
    try clear c39
    try clear c45
    try clear c51
    try clear c52
    try clear c58
    try clear c58b0
    try clear c58b1
    try clear c60
    try clear c61
    try clear c61b0
    try clear c61b1
    try clear c62
    try clear c62b0
    try clear c62b1
    try clear hcz19_0
    try clear hcz19_1
    try clear hcz23_0
    try clear hcz23_1
    try clear hcz33_0
    try clear hcz33_1
    try clear hcz34_0
    try clear hcz34_1
    try clear hcz46_0
    try clear hcz46_1
    try clear hcz53_0
    try clear hcz53_1
    try clear hcz55_0
    try clear hcz55_1
    try clear hcz56_0
    try clear hcz56_1
    try clear hfz19_0
    try clear hfz19_1
    try clear hfz23_0
    try clear hfz23_1
    try clear hfz33_0
    try clear hfz33_1
    try clear hfz34_0
    try clear hfz34_1
    try clear hfz46_0
    try clear hfz46_1
    try clear hfz53_0
    try clear hfz53_1
    try clear hfz55_0
    try clear hfz55_1
    try clear hfz56_0
    try clear hfz56_1
    try clear p2
    obtain ⟨kq, x121_43, rfl, HA, HJ43, HO_5, BK282, BK286, BK296, HB⟩ := hcut
    cases kq with
    | zero => exact absurd HA.out (by simp [laws_FnTerms.j1])
    | succ kj43 => as_aux_lemma =>
     have H := HA.out
     clear HA
     simp only [laws_FnTerms.j1] at H
     by_cases c67 : x121_43 = true
     ·subst c67
      have H1 : (some false) = some r := by rw [if_pos rfl] at H; exact H
      clear H
      have H := H1
      clear H1
      obtain rfl := Option.some.inj H
      go_wp2
      go_ret
      exact ⟨by first | rfl | (simp [errW_none, errW_some] <;> rfl) | (simp [*, errW_none, errW_some] <;> rfl), by repeat (first | (with_reducible first | exact HB.out | apply bA4_ | apply bN4_ | apply bD4_ | refine bS4_ ?_ GE282.out | refine bS4_ ?_ GE286.out | refine bS4_ ?_ GE296.out) | exact HB.out)⟩
     replace c67 := Bool.eq_false_iff.mpr c67
     subst c67
     have H1 : ((impl_ConvergentsOf.f kj43 t268).bind fun bt302 => ((spec_ConvergentsOf.f kj43 t268).bind fun bt306 => (if bt302.2 = bt306.2 then (if bt302.2 = 0 then (if (bt302.1.length : Int) = (t268.length : Int) then (laws_FnTerms.j2 kj43 bt302.1 bt306.1 ((bt306.1.length : Int) != (t268.length : Int)) t283 t284) else (laws_FnTerms.j2 kj43 bt302.1 bt306.1 true t283 t284)) else (laws_FnTerms.j2 kj43 bt302.1 bt306.1 true t283 t284)) else (laws_FnTerms.j2 kj43 bt302.1 bt306.1 true t283 t284)))) = some r := by rw [if_neg (show ¬ (false = true) by decide)] at H; exact H
     clear H
     have H := H1
     clear H1
     replace H := Option.bind_eq_some_iff.mp H
     obtain ⟨⟨t302, t303⟩, A680, H⟩ := H
     replace H : ((spec_ConvergentsOf.f kj43 t268).bind fun bt306 => (if t303 = bt306.2 then (if t303 = 0 then (if (t302.length : Int) = (t268.length : Int) then (laws_FnTerms.j2 kj43 t302 bt306.1 ((bt306.1.length : Int) != (t268.length : Int)) t283 t284) else (laws_FnTerms.j2 kj43 t302 bt306.1 true t283 t284)) else (laws_FnTerms.j2 kj43 t302 bt306.1 true t283 t284)) else (laws_FnTerms.j2 kj43 t302 bt306.1 true t283 t284))) = some r := H
     have A68 := aM4_ A680
     clear A680
     replace H := Option.bind_eq_some_iff.mp H
     obtain ⟨⟨t306, t307⟩, A690, H⟩ := H
     replace H : (if t303 = t307 then (if t303 = 0 then (if (t302.length : Int) = (t268.length : Int) then (laws_FnTerms.j2 kj43 t302 t306 ((t306.length : Int) != (t268.length : Int)) t283 t284) else (laws_FnTerms.j2 kj43 t302 t306 true t283 t284)) else (laws_FnTerms.j2 kj43 t302 t306 true t283 t284)) else (laws_FnTerms.j2 kj43 t302 t306 true t283 t284)) = some r := H
     have A69 := aM4_ A690
     clear A690
     have HC70 := aM4_ H
     clear H
     go_upto_region 18 with (first | ((with_reducible refine gate_callee (f := 28) rfl ?_); refine goesL_ (some 124) rfl rfl Tryd.func28 (by kernel_rfl) rfl #[.slice Ao14 t268.length co14] rfl q4x1_ ?_; (with_reducible refine (impl_ConvergentsOf.calls kj43 _ _ t268 t302 t303 _ ?side1 ?side2 A68.out).mono ?_); (case side1 => repeat (first | exact (Kd.R_reads' HO_5.out).2.2 | (with_reducible refine Kd.C_alloc ?_ _) | (with_reducible refine Kd.C_drewN ?_ _) | (with_reducible refine Kd.C_drew ?_))); (case side2 => exact (Kd.R_reads' HO_5.out).2.1); rintro e w71 ⟨v304, rfl, ho0, hb⟩; refine ⟨_, rfl, ?_⟩; have n0_ := aM4_ (rB4_ q4x15_ hb); have n1_ := aM4_ (Kd.R_lower (Kd.R_newB (Kd.R_newB (Kd.R_newB ho0 (g := gb282) (o := .cells #[.int .i64 t279, .int .i64 t280] 25 (0, 0)) q4x5_) (g := gb286) (o := .cells #[.int .i64 t283, .int .i64 t284] 25 (0, 0)) q4x6_) (g := gb296) (o := .cells #[.int .i64 t293, .int .i64 t294] 25 (0, 0)) q4x8_) (below_size q4x2_)); have n2_ := aM4_ (kB4_ (g := gb282) (o := .cells #[.int .i64 t279, .int .i64 t280] 25 (0, 0)) q4x5_ hb); have n3_ := aM4_ (kB4_ (g := gb286) (o := .cells #[.int .i64 t283, .int .i64 t284] 25 (0, 0)) q4x6_ hb); have n4_ := aM4_ (kB4_ (g := gb296) (o := .cells #[.int .i64 t293, .int .i64 t294] 25 (0, 0)) q4x8_ hb); have n5_ := aM4_ (below_step q4x2_ hb); clear HO_5; clear BK282; clear BK286; clear BK296; clear HB; have HO_5 := n0_; have HO305 := n1_; have BK282 := n2_; have BK286 := n3_; have BK296 := n4_; have HB := n5_; clear n0_ n1_ n2_ n3_ n4_ n5_; (try clear hb); (try clear hb2); (try clear hk); (try clear hi); (try clear ho0)) | ((with_reducible refine gate_callee (f := 29) rfl ?_); refine goesL_ (some 129) rfl rfl Tryd.func29 (by kernel_rfl) rfl #[.slice Ao14 t268.length co14] rfl q4x1_ ?_; (with_reducible refine (spec_ConvergentsOf.calls kj43 _ _ t268 t306 t307 _ ?side1 ?side2 A69.out).mono ?_); (case side1 => repeat (first | exact (Kd.R_reads' HO_5.out).2.2 | (with_reducible refine Kd.C_alloc ?_ _) | (with_reducible refine Kd.C_drewN ?_ _) | (with_reducible refine Kd.C_drew ?_))); (case side2 => exact (Kd.R_reads' HO_5.out).2.1); rintro e w72 ⟨v308, rfl, ho0, hb⟩; refine ⟨_, rfl, ?_⟩; have n0_ := aM4_ (rB4_ q4x15_ hb); have n1_ := aM4_ (Kd.R_elder' (by (with_reducible repeat (first | apply rA4_ | apply rN4_ | apply rD4_)); exact HO305.out) (Kd.R_base ho0) hb); have n2_ := aM4_ (Kd.R_lower (Kd.R_newB (Kd.R_newB (Kd.R_newB (Kd.R_new' ho0 (Kd.R_lt (by (with_reducible repeat (first | apply rA4_ | apply rN4_ | apply rD4_)); exact HO305.out))) (g := gb282) (o := .cells #[.int .i64 t279, .int .i64 t280] 25 (0, 0)) q4x5_) (g := gb286) (o := .cells #[.int .i64 t283, .int .i64 t284] 25 (0, 0)) q4x6_) (g := gb296) (o := .cells #[.int .i64 t293, .int .i64 t294] 25 (0, 0)) q4x8_) (below_size q4x2_)); have n3_ := aM4_ (kB4_ (g := gb282) (o := .cells #[.int .i64 t279, .int .i64 t280] 25 (0, 0)) q4x5_ hb); have n4_ := aM4_ (kB4_ (g := gb286) (o := .cells #[.int .i64 t283, .int .i64 t284] 25 (0, 0)) q4x6_ hb); have n5_ := aM4_ (kB4_ (g := gb296) (o := .cells #[.int .i64 t293, .int .i64 t294] 25 (0, 0)) q4x8_ hb); have n6_ := aM4_ (below_step q4x2_ hb); clear HO_5; clear HO305; clear BK282; clear BK286; clear BK296; clear HB; have HO_5 := n0_; have HO305 := n1_; have HO309 := n2_; have BK282 := n3_; have BK286 := n4_; have BK296 := n5_; have HB := n6_; clear n0_ n1_ n2_ n3_ n4_ n5_ n6_; (try clear hb); (try clear hb2); (try clear hk); (try clear hi); (try clear ho0)))
     (try simp only [Act.put, List.setIfInBounds_toArray, List.set_cons_zero, List.set_cons_succ])
     go_cut [152] (fun v152 wc => ∃ (kq : Nat) (x152_69 : Bool), v152 = .bool x152_69 ∧ Aside0 (laws_FnTerms.j2 kq t302 t306 x152_69 t283 t284 = some r) ∧ Aside0 (kq ≤ kj43) ∧ Aside0 (Kd.R k25 25 wc w.heap.size (fun k_ => some k_ ≠ (v308 : Value).ownBlock ∧ k_ ≠ gb282 ∧ k_ ≠ gb286 ∧ k_ ≠ gb296) v304 t302) ∧ Aside0 (Kd.R k25 25 wc w.heap.size (fun k_ => some k_ ≠ (v304 : Value).ownBlock ∧ k_ ≠ gb282 ∧ k_ ≠ gb286 ∧ k_ ≠ gb296) v308 t306) ∧ Aside0 (wc.heap[gb282]? = some (.cells #[.int .i64 t279, .int .i64 t280] 25 (0, 0))) ∧ Aside0 (wc.heap[gb286]? = some (.cells #[.int .i64 t283, .int .i64 t284] 25 (0, 0))) ∧ Aside0 (wc.heap[gb296]? = some (.cells #[.int .i64 t293, .int .i64 t294] 25 (0, 0))) ∧ Aside0 (Below w.heap.size w wc))
     case first =>
      have H := HC70.out
      clear HC70
      by_cases c73 : t303 = t307
      rotate_left
      ·rw [if_neg c73] at H
       have c73b0 : (t303 == t307) = false := beq_eq_false_iff_ne.mpr c73
       have c73b1 : (t303 != t307) = true := bne_iff_ne.mpr c73
       (first | rw [c73b0] | (simp only [i64_w, i32_w]; rw [c73b0]) | skip)
       have H' := aM4_ H
       clear H
       go_wp2
       go_meet
       case rel => exact ⟨_, (true), q4x11_, H', ⟨by have := HJ10.out; have := HJ43.out; first | omega | exact Nat.le_refl _⟩, ⟨by (with_reducible repeat (first | apply rA4_ | apply rN4_ | apply rD4_)); exact Kd.R_mono HO305.out (fun _ hk => ⟨hk.2, ⟨hk.1.1.1.2, ⟨hk.1.1.2, hk.1.2⟩⟩⟩)⟩, ⟨by (with_reducible repeat (first | apply rA4_ | apply rN4_ | apply rD4_)); exact Kd.R_mono HO309.out (fun _ hk => ⟨hk.1.1.1.2, ⟨hk.1.1.2, ⟨hk.1.2, hk.2⟩⟩⟩)⟩, ⟨by (with_reducible repeat (first | refine kN4_ ?_ _ | refine kD4_ ?_ | refine kA4_ ?_ _)); exact BK282.out⟩, ⟨by (with_reducible repeat (first | refine kN4_ ?_ _ | refine kD4_ ?_ | refine kA4_ ?_ _)); exact BK286.out⟩, ⟨by (with_reducible repeat (first | refine kN4_ ?_ _ | refine kD4_ ?_ | refine kA4_ ?_ _)); exact BK296.out⟩, ⟨by repeat (first | (with_reducible first | exact HB.out | apply bA4_ | apply bN4_ | apply bD4_ | refine bS4_ ?_ GE282.out | refine bS4_ ?_ GE286.out | refine bS4_ ?_ GE296.out) | exact HB.out)⟩⟩
      rw [if_pos c73] at H
      have c73b0 : (t303 == t307) = true := beq_iff_eq.mpr c73
      have c73b1 : (t303 != t307) = false := bne_eq_false_iff_eq.mpr c73
      clear c73
      (first | rw [c73b0] | (simp only [i64_w, i32_w]; rw [c73b0]) | skip)
      by_cases c74 : t303 = 0
      rotate_left
      ·rw [if_neg c74] at H
       have c74b0 : (t303 == 0) = false := beq_eq_false_iff_ne.mpr c74
       have c74b1 : (t303 != 0) = true := bne_iff_ne.mpr c74
       have H' := aM4_ H
       clear H
       go_wp2
       go_meet
       case rel => exact ⟨_, (true), q4x11_, H', ⟨by have := HJ10.out; have := HJ43.out; first | omega | exact Nat.le_refl _⟩, ⟨by (with_reducible repeat (first | apply rA4_ | apply rN4_ | apply rD4_)); exact Kd.R_mono HO305.out (fun _ hk => ⟨hk.2, ⟨hk.1.1.1.2, ⟨hk.1.1.2, hk.1.2⟩⟩⟩)⟩, ⟨by (with_reducible repeat (first | apply rA4_ | apply rN4_ | apply rD4_)); exact Kd.R_mono HO309.out (fun _ hk => ⟨hk.1.1.1.2, ⟨hk.1.1.2, ⟨hk.1.2, hk.2⟩⟩⟩)⟩, ⟨by (with_reducible repeat (first | refine kN4_ ?_ _ | refine kD4_ ?_ | refine kA4_ ?_ _)); exact BK282.out⟩, ⟨by (with_reducible repeat (first | refine kN4_ ?_ _ | refine kD4_ ?_ | refine kA4_ ?_ _)); exact BK286.out⟩, ⟨by (with_reducible repeat (first | refine kN4_ ?_ _ | refine kD4_ ?_ | refine kA4_ ?_ _)); exact BK296.out⟩, ⟨by repeat (first | (with_reducible first | exact HB.out | apply bA4_ | apply bN4_ | apply bD4_ | refine bS4_ ?_ GE282.out | refine bS4_ ?_ GE286.out | refine bS4_ ?_ GE296.out) | exact HB.out)⟩⟩
      rw [if_pos c74] at H
      have c74b0 : (t303 == 0) = true := beq_iff_eq.mpr c74
      have c74b1 : (t303 != 0) = false := bne_eq_false_iff_eq.mpr c74
      clear c74
      by_cases c75 : (t302.length : Int) = (t268.length : Int)
      ·rw [if_pos c75] at H
       have c75b0 : ((t302.length : Int) == (t268.length : Int)) = true := beq_iff_eq.mpr c75
       have c75b1 : ((t302.length : Int) != (t268.length : Int)) = false := bne_eq_false_iff_eq.mpr c75
       have c75b2 : (t302.length == t268.length) = true := by first | simpa using c75 | (simp at c75 ⊢; omega)
       clear c75
       have H' := aM4_ H
       clear H
       obtain ⟨Ao76, co76, eo76⟩ := Kd.R_slice HO305.out
       subst eo76
       obtain ⟨Ao77, co77, eo77⟩ := Kd.R_slice HO309.out
       subst eo77
       go_wp2
       go_meet
       case rel => exact ⟨_, (((t306.length : Int) != (t268.length : Int))), q4x11_, H', ⟨by have := HJ10.out; have := HJ43.out; first | omega | exact Nat.le_refl _⟩, ⟨by (with_reducible repeat (first | apply rA4_ | apply rN4_ | apply rD4_)); exact Kd.R_mono HO305.out (fun _ hk => ⟨hk.2, ⟨hk.1.1.1.2, ⟨hk.1.1.2, hk.1.2⟩⟩⟩)⟩, ⟨by (with_reducible repeat (first | apply rA4_ | apply rN4_ | apply rD4_)); exact Kd.R_mono HO309.out (fun _ hk => ⟨hk.1.1.1.2, ⟨hk.1.1.2, ⟨hk.1.2, hk.2⟩⟩⟩)⟩, ⟨by (with_reducible repeat (first | refine kN4_ ?_ _ | refine kD4_ ?_ | refine kA4_ ?_ _)); exact BK282.out⟩, ⟨by (with_reducible repeat (first | refine kN4_ ?_ _ | refine kD4_ ?_ | refine kA4_ ?_ _)); exact BK286.out⟩, ⟨by (with_reducible repeat (first | refine kN4_ ?_ _ | refine kD4_ ?_ | refine kA4_ ?_ _)); exact BK296.out⟩, ⟨by repeat (first | (with_reducible first | exact HB.out | apply bA4_ | apply bN4_ | apply bD4_ | refine bS4_ ?_ GE282.out | refine bS4_ ?_ GE286.out | refine bS4_ ?_ GE296.out) | exact HB.out)⟩⟩
      rw [if_neg c75] at H
      have c75b0 : ((t302.length : Int) == (t268.length : Int)) = false := beq_eq_false_iff_ne.mpr c75
      have c75b1 : ((t302.length : Int) != (t268.length : Int)) = true := bne_iff_ne.mpr c75
      have c75b2 : (t302.length == t268.length) = false := by first | simpa using c75 | (simp at c75 ⊢; omega)
      have H' := aM4_ H
      clear H
      obtain ⟨Ao78, co78, eo78⟩ := Kd.R_slice HO305.out
      subst eo78
      go_wp2
      go_meet
      case rel => exact ⟨_, (true), q4x11_, H', ⟨by have := HJ10.out; have := HJ43.out; first | omega | exact Nat.le_refl _⟩, ⟨by (with_reducible repeat (first | apply rA4_ | apply rN4_ | apply rD4_)); exact Kd.R_mono HO305.out (fun _ hk => ⟨hk.2, ⟨hk.1.1.1.2, ⟨hk.1.1.2, hk.1.2⟩⟩⟩)⟩, ⟨by (with_reducible repeat (first | apply rA4_ | apply rN4_ | apply rD4_)); exact Kd.R_mono HO309.out (fun _ hk => ⟨hk.1.1.1.2, ⟨hk.1.1.2, ⟨hk.1.2, hk.2⟩⟩⟩)⟩, ⟨by (with_reducible repeat (first | refine kN4_ ?_ _ | refine kD4_ ?_ | refine kA4_ ?_ _)); exact BK282.out⟩, ⟨by (with_reducible repeat (first | refine kN4_ ?_ _ | refine kD4_ ?_ | refine kA4_ ?_ _)); exact BK286.out⟩, ⟨by (with_reducible repeat (first | refine kN4_ ?_ _ | refine kD4_ ?_ | refine kA4_ ?_ _)); exact BK296.out⟩, ⟨by repeat (first | (with_reducible first | exact HB.out | apply bA4_ | apply bN4_ | apply bD4_ | refine bS4_ ?_ GE282.out | refine bS4_ ?_ GE286.out | refine bS4_ ?_ GE296.out) | exact HB.out)⟩⟩
     case rest =>
      clear HC70
      try clear c1
      try clear c2
      try clear p2
      try clear c3
      try clear c4
      try clear c5
      try clear c6
      try clear c7
      try clear c18
      try clear c19
      try clear c20
      try clear c21
      try clear c22
      try clear c24
      try clear c24b0
      try clear c24b1
      try clear c25
      try clear c26
      try clear c27
      try clear c28
      try clear c29
      try clear c29b0
      try clear c29b1
      try clear c30
      try clear c30b0
      try clear c30b1
      try clear c32
      try clear c39
      try clear c45
      try clear c51
      try clear c52
      try clear c58
      try clear c58b0
      try clear c58b1
      try clear c60
      try clear c61
      try clear c61b0
      try clear c61b1
      try clear c62
      try clear c62b0
      try clear c62b1
      try clear c67
      try clear c73
      try clear c73b0
      try clear c73b1
      try clear c74
      try clear c74b0
      try clear c74b1
      try clear c75
      try clear c75b0
      try clear c75b1
      try clear c75b2
      try clear hcz19_0
      try clear hcz19_1
      try clear hcz23_0
      try clear hcz23_1
      try clear hcz33_0
      try clear hcz33_1
      try clear hcz34_0
      try clear hcz34_1
      try clear hcz46_0
      try clear hcz46_1
      try clear hcz53_0
      try clear hcz53_1
      try clear hcz55_0
      try clear hcz55_1
      try clear hcz56_0
      try clear hcz56_1
      try clear hfz19_0
      try clear hfz19_1
      try clear hfz23_0
      try clear hfz23_1
      try clear hfz33_0
      try clear hfz33_1
      try clear hfz34_0
      try clear hfz34_1
      try clear hfz46_0
      try clear hfz46_1
      try clear hfz53_0
      try clear hfz53_1
      try clear hfz55_0
      try clear hfz55_1
      try clear hfz56_0
      try clear hfz56_1
      try clear p2
      obtain ⟨kq, x152_69, rfl, HA, HJ69, HO_21, HO_23, BK282, BK286, BK296, HB⟩ := hcut
      cases kq with
      | zero => exact absurd HA.out (by simp [laws_FnTerms.j2])
      | succ kj69 => as_aux_lemma =>
       have H := HA.out
       clear HA
       simp only [laws_FnTerms.j2] at H
       by_cases c79 : x152_69 = true
       ·subst c79
        have H1 : (some false) = some r := by rw [if_pos rfl] at H; exact H
        clear H
        have H := H1
        clear H1
        obtain rfl := Option.some.inj H
        go_wp2
        go_ret
        exact ⟨by first | rfl | (simp [errW_none, errW_some] <;> rfl) | (simp [*, errW_none, errW_some] <;> rfl), by repeat (first | (with_reducible first | exact HB.out | apply bA4_ | apply bN4_ | apply bD4_ | refine bS4_ ?_ GE282.out | refine bS4_ ?_ GE286.out | refine bS4_ ?_ GE296.out) | exact HB.out)⟩
       replace c79 := Bool.eq_false_iff.mpr c79
       subst c79
       have H1 : (laws_FnTerms.l0 kj69 t302 t306 0 t283 t284) = some r := by rw [if_neg (show ¬ (false = true) by decide)] at H; exact H
       clear H
       have H := H1
       clear H1
       have H' := aM4_ H
       clear H
       go_wp2
       go_loopg [25] kj69 (fun kq v25 w' => ∃ (x25_4 : Int), v25 = .int .i64 x25_4 ∧ Aside0 (laws_FnTerms.l0 kq t302 t306 x25_4 t283 t284 = some r) ∧ Aside0 (kq ≤ kj69) ∧ Aside0 (Kd.R k25 25 w' w.heap.size (fun k_ => some k_ ≠ (v308 : Value).ownBlock ∧ k_ ≠ gb282 ∧ k_ ≠ gb286 ∧ k_ ≠ gb296) v304 t302) ∧ Aside0 (Kd.R k25 25 w' w.heap.size (fun k_ => some k_ ≠ (v304 : Value).ownBlock ∧ k_ ≠ gb282 ∧ k_ ≠ gb286 ∧ k_ ≠ gb296) v308 t306) ∧ Aside0 (w'.heap[gb282]? = some (.cells #[.int .i64 t279, .int .i64 t280] 25 (0, 0))) ∧ Aside0 (w'.heap[gb286]? = some (.cells #[.int .i64 t283, .int .i64 t284] 25 (0, 0))) ∧ Aside0 (w'.heap[gb296]? = some (.cells #[.int .i64 t293, .int .i64 t294] 25 (0, 0))) ∧ Aside0 (Below w.heap.size w w'))
       case atStart => exact ⟨(0), q4x11_, H', ⟨Nat.le_refl _⟩, ⟨by (with_reducible repeat (first | apply rA4_ | apply rN4_ | apply rD4_)); exact HO_21.out⟩, ⟨by (with_reducible repeat (first | apply rA4_ | apply rN4_ | apply rD4_)); exact HO_23.out⟩, ⟨by (with_reducible repeat (first | refine kN4_ ?_ _ | refine kD4_ ?_ | refine kA4_ ?_ _)); exact BK282.out⟩, ⟨by (with_reducible repeat (first | refine kN4_ ?_ _ | refine kD4_ ?_ | refine kA4_ ?_ _)); exact BK286.out⟩, ⟨by (with_reducible repeat (first | refine kN4_ ?_ _ | refine kD4_ ?_ | refine kA4_ ?_ _)); exact BK296.out⟩, ⟨by repeat (first | (with_reducible first | exact HB.out | apply bA4_ | apply bN4_ | apply bD4_ | refine bS4_ ?_ GE282.out | refine bS4_ ?_ GE286.out | refine bS4_ ?_ GE296.out) | exact HB.out)⟩⟩
       case round =>
        clear H'
        try clear c1
        try clear c2
        try clear p2
        try clear c3
        try clear c4
        try clear c5
        try clear c6
        try clear c7
        try clear c18
        try clear c19
        try clear c20
        try clear c21
        try clear c22
        try clear c24
        try clear c24b0
        try clear c24b1
        try clear c25
        try clear c26
        try clear c27
        try clear c28
        try clear c29
        try clear c29b0
        try clear c29b1
        try clear c30
        try clear c30b0
        try clear c30b1
        try clear c32
        try clear c39
        try clear c45
        try clear c51
        try clear c52
        try clear c58
        try clear c58b0
        try clear c58b1
        try clear c60
        try clear c61
        try clear c61b0
        try clear c61b1
        try clear c62
        try clear c62b0
        try clear c62b1
        try clear c67
        try clear c73
        try clear c73b0
        try clear c73b1
        try clear c74
        try clear c74b0
        try clear c74b1
        try clear c75
        try clear c75b0
        try clear c75b1
        try clear c75b2
        try clear c79
        try clear hcz19_0
        try clear hcz19_1
        try clear hcz23_0
        try clear hcz23_1
        try clear hcz33_0
        try clear hcz33_1
        try clear hcz34_0
        try clear hcz34_1
        try clear hcz46_0
        try clear hcz46_1
        try clear hcz53_0
        try clear hcz53_1
        try clear hcz55_0
        try clear hcz55_1
        try clear hcz56_0
        try clear hcz56_1
        try clear hfz19_0
        try clear hfz19_1
        try clear hfz23_0
        try clear hfz23_1
        try clear hfz33_0
        try clear hfz33_1
        try clear hfz34_0
        try clear hfz34_1
        try clear hfz46_0
        try clear hfz46_1
        try clear hfz53_0
        try clear hfz53_1
        try clear hfz55_0
        try clear hfz55_1
        try clear hfz56_0
        try clear hfz56_1
        try clear p2
        obtain ⟨x25_4, rfl, HA, HK4, HO_21, HO_23, BK282, BK286, BK296, HB⟩ := hrel
        cases gk with
        | zero => exact absurd HA.out (by simp [laws_FnTerms.l0])
        | succ k4 => as_aux_lemma =>
         have H := HA.out
         clear HA
         simp only [laws_FnTerms.l0] at H
         by_cases c80 : x25_4 < (t306.length : Int)
         rotate_left
         ·rw [if_neg c80] at H
          have c80b0 : decide (x25_4 < (t306.length : Int)) = false := decide_eq_false c80
          clear c80
          obtain ⟨ji141, hji141⟩ : ∃ j_ : Int, (wrap64 ((t306.length : Int) - 1)) = j_ := ⟨_, rfl⟩
          replace H : (if 0 ≤ (ji141) then (if (ji141) < (t306.length : Int) then (some (((rd_T25 t306 (ji141)).f0) == t283 && (((rd_T25 t306 (ji141)).f1) == t284))) else (none)) else (none)) = some r := by first | (rw [hji141] at H; exact H) | (simp only [hji141] at H ⊢; exact H)
          have hji141w : (IntKind.i64.wrap ((t306.length : Int) - 1)) = ji141 := (i64_w _).trans hji141
          by_cases c142 : 0 ≤ (ji141)
          rotate_left
          ·rw [if_neg c142] at H
           exact absurd H (by simp)

          rw [if_pos c142] at H
          have c142b0 : decide (0 ≤ (ji141)) = true := decide_eq_true c142
          clear c142
          by_cases c143 : (ji141) < (t306.length : Int)
          rotate_left
          ·rw [if_neg c143] at H
           exact absurd H (by simp)
          rw [if_pos c143] at H
          have c143b0 : decide ((ji141) < (t306.length : Int)) = true := decide_eq_true c143
          clear c143
          obtain rfl := Option.some.inj H
          obtain ⟨Ao144, co144, eo144⟩ := Kd.R_slice HO_23.out
          subst eo144
          try go_wp2
          have n0_ := aM4_ (rD4_ HO_21.out)
          have n1_ := aM4_ (rD4_ HO_23.out)
          have n2_ := aM4_ (kD4_ BK282.out)
          have n3_ := aM4_ (kD4_ BK286.out)
          have n4_ := aM4_ (kD4_ BK296.out)
          have n5_ := aM4_ (bD4_ HB.out)
          clear HO_21 HO_23 BK282 BK286 BK296 HB
          have HO_21 := n0_
          have HO_23 := n1_
          have BK282 := n2_
          have BK286 := n3_
          have BK296 := n4_
          have HB := n5_
          clear n0_ n1_ n2_ n3_ n4_ n5_
          have p310 : 0 ≤ ((ji141) : Int) := of_decide_eq_true q4x3_
          have q310 : (ji141) < (t306.length : Int) := of_decide_eq_true q4x3_
          obtain ⟨ad310, e310, hx310_0, hx310_1⟩ := at_T25 (Kd.R_reads' HO_23.out).2.2 (ji141) p310 q310
          cases e310
          replace p310 := eq_true p310
          replace q310 := eq_true q310
          refine start_ (n := 9) (S := fun w' => w'.cell? ⟨gb286, 0, none⟩ = some (.int .i64 t283) ∧ w'.cell? ⟨gb286, 1, none⟩ = some (.int .i64 t284) ∧ w'.cell? (ad310.add (((ji141)).toNat * 2)) = some (.int .i64 ((rd_T25 t306 (ji141)).f0)) ∧ w'.cell? ⟨(ad310.add (((ji141)).toNat * 2)).block, (ad310.add (((ji141)).toNat * 2)).off + 1, none⟩ = some (.int .i64 ((rd_T25 t306 (ji141)).f1))) (ds := []) #[false, false, false, false, false, false, false, false, false] (by kernel_rfl) rfl rfl ⟨(kC4_ BK286.out 0).trans rfl, (kC4_ BK286.out 1).trans rfl, hx310_0, hx310_1⟩ (fun hHeld => ?_); refine with_tabW laws_FnTerms.tab28 laws_FnTerms.bits28 (fun HT_ HW_ => ?_)
          generalize wr.drew = w145 at HO_21 HO_23 BK282 BK286 BK296 HB hx310_0 hx310_1 hHeld ⊢
          refine pure_ (i := 0) (N := some 204) (v := ?_) (a' := ?_) #[true, false, false, false, false, false, false, false, false] rfl rfl (any_of HT_.out (by kernel_rfl)) (fun _ _ _ h => h) (Or.inl ⟨by rfl, ?_⟩) ?_ ?_
          rotate_left
          ·exact q4x24_
          rotate_left
          ·exact q4x25_
          refine pure_ (i := 1) (N := some 205) (v := ?_) (a' := ?_) #[true, true, false, false, false, false, false, false, false] rfl rfl (any_of HT_.out (by kernel_rfl)) (fun _ _ _ h => h) (Or.inl ⟨by rfl, ?_⟩) ?_ ?_
          rotate_left
          ·exact q4x24_
          rotate_left
          ·exact q4x25_
          refine pure_ (i := 2) (N := some 206) (v := ?_) (a' := ?_) #[true, true, true, false, false, false, false, false, false] rfl rfl (any_of HT_.out (by kernel_rfl)) (fun _ _ _ h => h) (Or.inl ⟨by rfl, ?_⟩) ?_ ?_
          rotate_left
          ·exact q4x24_
          rotate_left
          ·exact q4x25_
          refine pure_ (i := 3) (N := some 207) (v := ?_) (a' := ?_) #[true, true, true, true, false, false, false, false, false] rfl rfl (any_of HT_.out (by kernel_rfl)) (fun _ _ _ h => h) (Or.inl ⟨by rfl, ?_⟩) ?_ ?_
          rotate_left
          ·exact q4x24_
          rotate_left
          ·exact q4x25_
          refine pure_ (i := 4) (N := some 208) (v := ?_) (a' := ?_) #[true, true, true, true, true, false, false, false, false] rfl rfl (any_of HT_.out (by kernel_rfl)) (fun _ _ _ h => h) (Or.inl ⟨by rfl, ?_⟩) ?_ ?_
          rotate_left
          ·exact q4x24_
          rotate_left
          ·exact q4x25_
          refine take_ (i := 5) (N := some 209) (v := ?_) (a' := ?_) #[true, true, true, true, true, true, false, false, false] rfl rfl (take_ofW HT_.out HW_.out (by kernel_rfl)) (fun _ _ _ h => h) (Or.inl ⟨by rfl, ?_⟩) hHeld ?_ ?_
          rotate_left
          ·exact q4x26_
          rotate_left
          ·exact q4x25_
          refine take_ (i := 6) (N := some 210) (v := ?_) (a' := ?_) #[true, true, true, true, true, true, true, false, false] rfl rfl (take_ofW HT_.out HW_.out (by kernel_rfl)) (fun _ _ _ h => h) (Or.inl ⟨by rfl, ?_⟩) hHeld ?_ ?_
          rotate_left
          ·exact q4x26_
          rotate_left
          ·exact q4x25_
          refine pure_ (i := 7) (N := some 211) (v := ?_) (a' := ?_) #[true, true, true, true, true, true, true, true, false] rfl rfl (any_of HT_.out (by kernel_rfl)) (fun _ _ _ h => h) (Or.inl ⟨by rfl, ?_⟩) ?_ ?_
          rotate_left
          ·exact q4x24_
          rotate_left
          ·exact q4x25_
          refine pure_ (i := 8) (N := some 4) (v := ?_) (a' := ?_) #[true, true, true, true, true, true, true, true, true] rfl rfl (any_of HT_.out (by kernel_rfl)) (fun _ _ _ h => h) (Or.inl ⟨by rfl, ?_⟩) ?_ ?_
          rotate_left
          ·exact q4x24_
          rotate_left
          ·exact q4x25_
          refine done_ (done_of HT_.out (by kernel_rfl)) ?_
          try go_wp2
          go_ret
          exact ⟨by first | rfl | (simp [errW_none, errW_some] <;> rfl) | (simp only [← hji141]; first | rfl | (simp [errW_none, errW_some] <;> rfl)) | (simp [*, errW_none, errW_some] <;> rfl), by repeat (first | (with_reducible first | exact HB.out | apply bA4_ | apply bN4_ | apply bD4_ | refine bS4_ ?_ GE282.out | refine bS4_ ?_ GE286.out | refine bS4_ ?_ GE296.out) | exact HB.out)⟩
         rw [if_pos c80] at H
         have c80b0 : decide (x25_4 < (t306.length : Int)) = true := decide_eq_true c80
         clear c80
         by_cases c81 : 0 ≤ x25_4
         rotate_left
         ·rw [if_neg c81] at H
          exact absurd H (by simp)
         rw [if_pos c81] at H
         have c81b0 : decide (0 ≤ x25_4) = true := decide_eq_true c81
         clear c81
         by_cases c82 : x25_4 < (t302.length : Int)
         rotate_left
         ·rw [if_neg c82] at H
          exact absurd H (by simp)
         rw [if_pos c82] at H
         have c82b0 : decide (x25_4 < (t302.length : Int)) = true := decide_eq_true c82
         clear c82
         by_cases c83 : (!(((rd_T25 t302 x25_4).f0) == ((rd_T25 t306 x25_4).f0)) || (!(((rd_T25 t302 x25_4).f1) == ((rd_T25 t306 x25_4).f1)))) = true
         ·rw [if_pos c83] at H
          have c83b0 : (!(((rd_T25 t302 x25_4).f0) == ((rd_T25 t306 x25_4).f0)) || (!(((rd_T25 t302 x25_4).f1) == ((rd_T25 t306 x25_4).f1)))) = true := c83
          clear c83
          obtain rfl := Option.some.inj H
          obtain ⟨Ao84, co84, eo84⟩ := Kd.R_slice HO_23.out
          subst eo84
          try go_wp2
          have n0_ := aM4_ (rD4_ HO_21.out)
          have n1_ := aM4_ (rD4_ HO_23.out)
          have n2_ := aM4_ (kD4_ BK282.out)
          have n3_ := aM4_ (kD4_ BK286.out)
          have n4_ := aM4_ (kD4_ BK296.out)
          have n5_ := aM4_ (bD4_ HB.out)
          clear HO_21 HO_23 BK282 BK286 BK296 HB
          have HO_21 := n0_
          have HO_23 := n1_
          have BK282 := n2_
          have BK286 := n3_
          have BK296 := n4_
          have HB := n5_
          clear n0_ n1_ n2_ n3_ n4_ n5_
          obtain ⟨Ao86, co86, eo86⟩ := Kd.R_slice HO_21.out
          (first | subst eo86 | (injection eo86 with f1_ f2_ f3_; have f4_ := f1_.symm; have f5_ := f3_.symm; clear f1_ f2_ f3_; subst f4_; subst f5_))
          have p311 : 0 ≤ (x25_4 : Int) := of_decide_eq_true q4x3_
          have q311 : x25_4 < (t302.length : Int) := of_decide_eq_true q4x3_
          obtain ⟨ad311, e311, hx311_0, hx311_1⟩ := at_T25 (Kd.R_reads' HO_21.out).2.2 x25_4 p311 q311
          cases e311
          replace p311 := eq_true p311
          replace q311 := eq_true q311
          have p312 : 0 ≤ (x25_4 : Int) := of_decide_eq_true q4x3_
          have q312 : x25_4 < (t306.length : Int) := of_decide_eq_true q4x3_
          obtain ⟨ad312, e312, hx312_0, hx312_1⟩ := at_T25 (Kd.R_reads' HO_23.out).2.2 x25_4 p312 q312
          cases e312
          replace p312 := eq_true p312
          replace q312 := eq_true q312
          refine start_ (n := 9) (S := fun w' => w'.cell? (ad311.add ((x25_4).toNat * 2)) = some (.int .i64 ((rd_T25 t302 x25_4).f0)) ∧ w'.cell? ⟨(ad311.add ((x25_4).toNat * 2)).block, (ad311.add ((x25_4).toNat * 2)).off + 1, none⟩ = some (.int .i64 ((rd_T25 t302 x25_4).f1)) ∧ w'.cell? (ad312.add ((x25_4).toNat * 2)) = some (.int .i64 ((rd_T25 t306 x25_4).f0)) ∧ w'.cell? ⟨(ad312.add ((x25_4).toNat * 2)).block, (ad312.add ((x25_4).toNat * 2)).off + 1, none⟩ = some (.int .i64 ((rd_T25 t306 x25_4).f1))) (ds := []) #[false, false, false, false, false, false, false, false, false] (by kernel_rfl) rfl rfl ⟨hx311_0, hx311_1, hx312_0, hx312_1⟩ (fun hHeld => ?_); refine with_tabW laws_FnTerms.tab23 laws_FnTerms.bits23 (fun HT_ HW_ => ?_)
          generalize wr.drew = w85 at HO_21 HO_23 BK282 BK286 BK296 HB hx311_0 hx311_1 hx312_0 hx312_1 hHeld ⊢
          refine pure_ (i := 0) (N := some 159) (v := ?_) (a' := ?_) #[true, false, false, false, false, false, false, false, false] rfl rfl (any_of HT_.out (by kernel_rfl)) (fun _ _ _ h => h) (Or.inl ⟨by rfl, ?_⟩) ?_ ?_
          rotate_left
          ·exact q4x24_
          rotate_left
          ·exact q4x25_
          refine pure_ (i := 1) (N := some 160) (v := ?_) (a' := ?_) #[true, true, false, false, false, false, false, false, false] rfl rfl (any_of HT_.out (by kernel_rfl)) (fun _ _ _ h => h) (Or.inl ⟨by rfl, ?_⟩) ?_ ?_
          rotate_left
          ·exact q4x24_
          rotate_left
          ·exact q4x25_
          refine pure_ (i := 2) (N := some 161) (v := ?_) (a' := ?_) #[true, true, true, false, false, false, false, false, false] rfl rfl (any_of HT_.out (by kernel_rfl)) (fun _ _ _ h => h) (Or.inl ⟨by rfl, ?_⟩) ?_ ?_
          rotate_left
          ·exact q4x24_
          rotate_left
          ·exact q4x25_
          refine pure_ (i := 4) (N := some 163) (v := ?_) (a' := ?_) #[true, true, true, false, true, false, false, false, false] rfl rfl (any_of HT_.out (by kernel_rfl)) (fun _ _ _ h => h) (Or.inl ⟨by rfl, ?_⟩) ?_ ?_
          rotate_left
          ·exact q4x24_
          rotate_left
          ·exact q4x25_
          refine pure_ (i := 5) (N := some 164) (v := ?_) (a' := ?_) #[true, true, true, false, true, true, false, false, false] rfl rfl (any_of HT_.out (by kernel_rfl)) (fun _ _ _ h => h) (Or.inl ⟨by rfl, ?_⟩) ?_ ?_
          rotate_left
          ·exact q4x24_
          rotate_left
          ·exact q4x25_
          refine pure_ (i := 6) (N := some 165) (v := ?_) (a' := ?_) #[true, true, true, false, true, true, true, false, false] rfl rfl (any_of HT_.out (by kernel_rfl)) (fun _ _ _ h => h) (Or.inl ⟨by rfl, ?_⟩) ?_ ?_
          rotate_left
          ·exact q4x24_
          rotate_left
          ·exact q4x25_
          refine take_ (i := 3) (N := some 162) (v := ?_) (a' := ?_) #[true, true, true, true, true, true, true, false, false] rfl rfl (take_ofW HT_.out HW_.out (by kernel_rfl)) (fun _ _ _ h => h) (Or.inl ⟨by rfl, ?_⟩) hHeld ?_ ?_
          rotate_left
          ·exact q4x26_
          rotate_left
          ·exact q4x25_
          refine take_ (i := 7) (N := some 166) (v := ?_) (a' := ?_) #[true, true, true, true, true, true, true, true, false] rfl rfl (take_ofW HT_.out HW_.out (by kernel_rfl)) (fun _ _ _ h => h) (Or.inl ⟨by rfl, ?_⟩) hHeld ?_ ?_
          rotate_left
          ·exact q4x26_
          rotate_left
          ·exact q4x25_
          refine pure_ (i := 8) (N := some 167) (v := ?_) (a' := ?_) #[true, true, true, true, true, true, true, true, true] rfl rfl (any_of HT_.out (by kernel_rfl)) (fun _ _ _ h => h) (Or.inl ⟨by rfl, ?_⟩) ?_ ?_
          rotate_left
          ·exact q4x24_
          rotate_left
          ·exact q4x25_
          refine done_ (done_of HT_.out (by kernel_rfl)) ?_
          try go_wp2
          go_ret
          exact ⟨by first | rfl | (simp [errW_none, errW_some] <;> rfl) | (simp [*, errW_none, errW_some] <;> rfl), by repeat (first | (with_reducible first | exact HB.out | apply bA4_ | apply bN4_ | apply bD4_ | refine bS4_ ?_ GE282.out | refine bS4_ ?_ GE286.out | refine bS4_ ?_ GE296.out) | exact HB.out)⟩
         rw [if_neg c83] at H
         have c83b0 : (!(((rd_T25 t302 x25_4).f0) == ((rd_T25 t306 x25_4).f0)) || (!(((rd_T25 t302 x25_4).f1) == ((rd_T25 t306 x25_4).f1)))) = false := by simpa using c83
         clear c83
         replace H := Option.bind_eq_some_iff.mp H
         obtain ⟨⟨t314, t315⟩, A870, H⟩ := H
         replace H : (if t315 = 0 then (if (wrap64 (x25_4 + 1)) < (t306.length : Int) then (if (Int.tmod x25_4 2) = 0 then (if t314 > 0 then (some false) else (if (Int.tmod x25_4 2) = 1 then (if t314 < 0 then (some false) else (laws_FnTerms.l0 k4 t302 t306 (wrap64 (x25_4 + 1)) t283 t284)) else (laws_FnTerms.l0 k4 t302 t306 (wrap64 (x25_4 + 1)) t283 t284))) else (if (Int.tmod x25_4 2) = 1 then (if t314 < 0 then (some false) else (laws_FnTerms.l0 k4 t302 t306 (wrap64 (x25_4 + 1)) t283 t284)) else (laws_FnTerms.l0 k4 t302 t306 (wrap64 (x25_4 + 1)) t283 t284))) else (laws_FnTerms.l0 k4 t302 t306 (wrap64 (x25_4 + 1)) t283 t284)) else (some false)) = some r := H
         have A87 := aM4_ A870
         clear A870
         by_cases c88 : t315 = 0
         rotate_left
         ·rw [if_neg c88] at H
          have c88b0 : (t315 == 0) = false := beq_eq_false_iff_ne.mpr c88
          have c88b1 : (t315 != 0) = true := bne_iff_ne.mpr c88
          obtain rfl := Option.some.inj H
          obtain ⟨Ao136, co136, eo136⟩ := Kd.R_slice HO_23.out
          subst eo136
          try go_wp2
          have n0_ := aM4_ (rD4_ HO_21.out)
          have n1_ := aM4_ (rD4_ HO_23.out)
          have n2_ := aM4_ (kD4_ BK282.out)
          have n3_ := aM4_ (kD4_ BK286.out)
          have n4_ := aM4_ (kD4_ BK296.out)
          have n5_ := aM4_ (bD4_ HB.out)
          clear HO_21 HO_23 BK282 BK286 BK296 HB
          have HO_21 := n0_
          have HO_23 := n1_
          have BK282 := n2_
          have BK286 := n3_
          have BK296 := n4_
          have HB := n5_
          clear n0_ n1_ n2_ n3_ n4_ n5_
          obtain ⟨Ao138, co138, eo138⟩ := Kd.R_slice HO_21.out
          (first | subst eo138 | (injection eo138 with f1_ f2_ f3_; have f4_ := f1_.symm; have f5_ := f3_.symm; clear f1_ f2_ f3_; subst f4_; subst f5_))
          have p311 : 0 ≤ (x25_4 : Int) := of_decide_eq_true q4x3_
          have q311 : x25_4 < (t302.length : Int) := of_decide_eq_true q4x3_
          obtain ⟨ad311, e311, hx311_0, hx311_1⟩ := at_T25 (Kd.R_reads' HO_21.out).2.2 x25_4 p311 q311
          cases e311
          replace p311 := eq_true p311
          replace q311 := eq_true q311
          have p312 : 0 ≤ (x25_4 : Int) := of_decide_eq_true q4x3_
          have q312 : x25_4 < (t306.length : Int) := of_decide_eq_true q4x3_
          obtain ⟨ad312, e312, hx312_0, hx312_1⟩ := at_T25 (Kd.R_reads' HO_23.out).2.2 x25_4 p312 q312
          cases e312
          replace p312 := eq_true p312
          replace q312 := eq_true q312
          refine start_ (n := 9) (S := fun w' => w'.cell? (ad311.add ((x25_4).toNat * 2)) = some (.int .i64 ((rd_T25 t302 x25_4).f0)) ∧ w'.cell? ⟨(ad311.add ((x25_4).toNat * 2)).block, (ad311.add ((x25_4).toNat * 2)).off + 1, none⟩ = some (.int .i64 ((rd_T25 t302 x25_4).f1)) ∧ w'.cell? (ad312.add ((x25_4).toNat * 2)) = some (.int .i64 ((rd_T25 t306 x25_4).f0)) ∧ w'.cell? ⟨(ad312.add ((x25_4).toNat * 2)).block, (ad312.add ((x25_4).toNat * 2)).off + 1, none⟩ = some (.int .i64 ((rd_T25 t306 x25_4).f1))) (ds := []) #[false, false, false, false, false, false, false, false, false] (by kernel_rfl) rfl rfl ⟨hx311_0, hx311_1, hx312_0, hx312_1⟩ (fun hHeld => ?_); refine with_tabW laws_FnTerms.tab23 laws_FnTerms.bits23 (fun HT_ HW_ => ?_)
          generalize wr.drew = w137 at HO_21 HO_23 BK282 BK286 BK296 HB hx311_0 hx311_1 hx312_0 hx312_1 hHeld ⊢
          refine pure_ (i := 0) (N := some 159) (v := ?_) (a' := ?_) #[true, false, false, false, false, false, false, false, false] rfl rfl (any_of HT_.out (by kernel_rfl)) (fun _ _ _ h => h) (Or.inl ⟨by rfl, ?_⟩) ?_ ?_
          rotate_left
          ·exact q4x24_
          rotate_left
          ·exact q4x25_
          refine pure_ (i := 1) (N := some 160) (v := ?_) (a' := ?_) #[true, true, false, false, false, false, false, false, false] rfl rfl (any_of HT_.out (by kernel_rfl)) (fun _ _ _ h => h) (Or.inl ⟨by rfl, ?_⟩) ?_ ?_
          rotate_left
          ·exact q4x24_
          rotate_left
          ·exact q4x25_
          refine pure_ (i := 2) (N := some 161) (v := ?_) (a' := ?_) #[true, true, true, false, false, false, false, false, false] rfl rfl (any_of HT_.out (by kernel_rfl)) (fun _ _ _ h => h) (Or.inl ⟨by rfl, ?_⟩) ?_ ?_
          rotate_left
          ·exact q4x24_
          rotate_left
          ·exact q4x25_
          refine pure_ (i := 4) (N := some 163) (v := ?_) (a' := ?_) #[true, true, true, false, true, false, false, false, false] rfl rfl (any_of HT_.out (by kernel_rfl)) (fun _ _ _ h => h) (Or.inl ⟨by rfl, ?_⟩) ?_ ?_
          rotate_left
          ·exact q4x24_
          rotate_left
          ·exact q4x25_
          refine pure_ (i := 5) (N := some 164) (v := ?_) (a' := ?_) #[true, true, true, false, true, true, false, false, false] rfl rfl (any_of HT_.out (by kernel_rfl)) (fun _ _ _ h => h) (Or.inl ⟨by rfl, ?_⟩) ?_ ?_
          rotate_left
          ·exact q4x24_
          rotate_left
          ·exact q4x25_
          refine pure_ (i := 6) (N := some 165) (v := ?_) (a' := ?_) #[true, true, true, false, true, true, true, false, false] rfl rfl (any_of HT_.out (by kernel_rfl)) (fun _ _ _ h => h) (Or.inl ⟨by rfl, ?_⟩) ?_ ?_
          rotate_left
          ·exact q4x24_
          rotate_left
          ·exact q4x25_
          refine take_ (i := 3) (N := some 162) (v := ?_) (a' := ?_) #[true, true, true, true, true, true, true, false, false] rfl rfl (take_ofW HT_.out HW_.out (by kernel_rfl)) (fun _ _ _ h => h) (Or.inl ⟨by rfl, ?_⟩) hHeld ?_ ?_
          rotate_left
          ·exact q4x26_
          rotate_left
          ·exact q4x25_
          refine take_ (i := 7) (N := some 166) (v := ?_) (a' := ?_) #[true, true, true, true, true, true, true, true, false] rfl rfl (take_ofW HT_.out HW_.out (by kernel_rfl)) (fun _ _ _ h => h) (Or.inl ⟨by rfl, ?_⟩) hHeld ?_ ?_
          rotate_left
          ·exact q4x26_
          rotate_left
          ·exact q4x25_
          refine pure_ (i := 8) (N := some 167) (v := ?_) (a' := ?_) #[true, true, true, true, true, true, true, true, true] rfl rfl (any_of HT_.out (by kernel_rfl)) (fun _ _ _ h => h) (Or.inl ⟨by rfl, ?_⟩) ?_ ?_
          rotate_left
          ·exact q4x24_
          rotate_left
          ·exact q4x25_
          refine done_ (done_of HT_.out (by kernel_rfl)) ?_
          try go_wp2
          have n0_ := aM4_ (rD4_ HO_21.out)
          have n1_ := aM4_ (rD4_ HO_23.out)
          have n2_ := aM4_ (kD4_ BK282.out)
          have n3_ := aM4_ (kD4_ BK286.out)
          have n4_ := aM4_ (kD4_ BK296.out)
          have n5_ := aM4_ (bD4_ HB.out)
          clear HO_21 HO_23 BK282 BK286 BK296 HB
          have HO_21 := n0_
          have HO_23 := n1_
          have BK282 := n2_
          have BK286 := n3_
          have BK296 := n4_
          have HB := n5_
          clear n0_ n1_ n2_ n3_ n4_ n5_
          have p313 : 0 ≤ (x25_4 : Int) := of_decide_eq_true q4x3_
          have q313 : x25_4 < (t306.length : Int) := of_decide_eq_true q4x3_
          obtain ⟨ad313, e313, hx313_0, hx313_1⟩ := at_T25 (Kd.R_reads' HO_23.out).2.2 x25_4 p313 q313
          obtain rfl : ad312 = ad313 := (by injection e313)
          replace p313 := eq_true p313
          replace q313 := eq_true q313
          refine start_ (n := 11) (S := fun w' => w'.cell? ⟨gb286, 0, none⟩ = some (.int .i64 t283) ∧ w'.cell? ⟨gb286, 1, none⟩ = some (.int .i64 t284) ∧ w'.cell? (ad312.add ((x25_4).toNat * 2)) = some (.int .i64 ((rd_T25 t306 x25_4).f0)) ∧ w'.cell? ⟨(ad312.add ((x25_4).toNat * 2)).block, (ad312.add ((x25_4).toNat * 2)).off + 1, none⟩ = some (.int .i64 ((rd_T25 t306 x25_4).f1))) (ds := []) #[false, false, false, false, false, false, false, false, false, false, false] (by kernel_rfl) rfl rfl ⟨(kC4_ BK286.out 0).trans rfl, (kC4_ BK286.out 1).trans rfl, hx313_0, hx313_1⟩ (fun hHeld => ?_); refine with_tabW laws_FnTerms.tab25 laws_FnTerms.bits25 (fun HT_ HW_ => ?_)
          generalize w137.drew = w139 at HO_21 HO_23 BK282 BK286 BK296 HB hx313_0 hx313_1 hHeld ⊢
          refine pure_ (i := 0) (N := some 169) (v := ?_) (a' := ?_) #[true, false, false, false, false, false, false, false, false, false, false] rfl rfl (any_of HT_.out (by kernel_rfl)) (fun _ _ _ h => h) (Or.inl ⟨by rfl, ?_⟩) ?_ ?_
          rotate_left
          ·exact q4x24_
          rotate_left
          ·exact q4x25_
          refine pure_ (i := 1) (N := some 170) (v := ?_) (a' := ?_) #[true, true, false, false, false, false, false, false, false, false, false] rfl rfl (any_of HT_.out (by kernel_rfl)) (fun _ _ _ h => h) (Or.inl ⟨by rfl, ?_⟩) ?_ ?_
          rotate_left
          ·exact q4x24_
          rotate_left
          ·exact q4x25_
          refine pure_ (i := 2) (N := some 171) (v := ?_) (a' := ?_) #[true, true, true, false, false, false, false, false, false, false, false] rfl rfl (any_of HT_.out (by kernel_rfl)) (fun _ _ _ h => h) (Or.inl ⟨by rfl, ?_⟩) ?_ ?_
          rotate_left
          ·exact q4x24_
          rotate_left
          ·exact q4x25_
          refine take_ (i := 3) (N := some 172) (v := ?_) (a' := ?_) #[true, true, true, true, false, false, false, false, false, false, false] rfl rfl (take_ofW HT_.out HW_.out (by kernel_rfl)) (fun _ _ _ h => h) (Or.inl ⟨by rfl, ?_⟩) hHeld ?_ ?_
          rotate_left
          ·exact q4x26_
          rotate_left
          ·exact q4x25_
          refine take_ (i := 4) (N := some 173) (v := ?_) (a' := ?_) #[true, true, true, true, true, false, false, false, false, false, false] rfl rfl (take_ofW HT_.out HW_.out (by kernel_rfl)) (fun _ _ _ h => h) (Or.inl ⟨by rfl, ?_⟩) hHeld ?_ ?_
          rotate_left
          ·exact q4x26_
          rotate_left
          ·exact q4x25_
          refine one_ (i := 5) (N := some 174) #[true, true, true, true, true, true, false, false, false, false, false] rfl rfl (one_of HT_.out (by kernel_rfl)) (by decide) (fun K hK => ?_)
          refine goes_ Tryd.func12 (by kernel_rfl) rfl #[.agg #[.int .i64 ((rd_T25 t306 x25_4).f0), .int .i64 ((rd_T25 t306 x25_4).f1)], .agg #[.int .i64 t283, .int .i64 t284]] (by rfl) rfl rfl q4x1_ ?_
          with_reducible refine (impl_CompareRatios.calls k4 ((rd_T25 t306 x25_4).f0) ((rd_T25 t306 x25_4).f1) t283 t284 t314 t315 _ A87.out).mono ?_
          rintro e w140 ⟨rfl, hb⟩
          have HS2_ := (hb.cell (World.block_lt_of_cell? _ _ (hHeld.2.2.1))).trans (hHeld.2.2.1)
          have HS3_ := (hb.cell (World.block_lt_of_cell? _ _ (hHeld.2.2.2))).trans (hHeld.2.2.2)
          refine ⟨_, rfl, ?_⟩
          have n0_ := aM4_ (rB4_ q4x12_ hb)
          have n1_ := aM4_ (rB4_ q4x13_ hb)
          have n2_ := aM4_ (kB4_ (g := gb282) (o := .cells #[.int .i64 t279, .int .i64 t280] 25 (0, 0)) q4x5_ hb)
          have n3_ := aM4_ (kB4_ (g := gb286) (o := .cells #[.int .i64 t283, .int .i64 t284] 25 (0, 0)) q4x6_ hb)
          have n4_ := aM4_ (kB4_ (g := gb296) (o := .cells #[.int .i64 t293, .int .i64 t294] 25 (0, 0)) q4x8_ hb)
          have n5_ := aM4_ (below_step q4x2_ hb)
          clear HO_21 HO_23 BK282 BK286 BK296 HB
          have HO_21 := n0_
          have HO_23 := n1_
          have BK282 := n2_
          have BK286 := n3_
          have BK296 := n4_
          have HB := n5_
          clear n0_ n1_ n2_ n3_ n4_ n5_
          (try clear hb)
          (try clear hb2)
          (try clear hk)
          (try clear hi)
          refine hK.out _ _ ⟨(kC4_ BK286.out 0).trans rfl, (kC4_ BK286.out 1).trans rfl, HS2_, HS3_⟩ (fun hHeld => ?_)
          clear hK K
          refine norm_ (a' := ?_) ?_ ?_
          rotate_left
          ·exact q4x27_
          refine pure_ (i := 6) (N := some 168) (v := ?_) (a' := ?_) #[true, true, true, true, true, true, true, false, false, false, false] rfl rfl (any_of HT_.out (by kernel_rfl)) (fun _ _ _ h => h) (Or.inl ⟨by rfl, ?_⟩) ?_ ?_
          rotate_left
          ·exact q4x24_
          rotate_left
          ·exact q4x25_
          refine pure_ (i := 7) (N := some 175) (v := ?_) (a' := ?_) #[true, true, true, true, true, true, true, true, false, false, false] rfl rfl (any_of HT_.out (by kernel_rfl)) (fun _ _ _ h => h) (Or.inl ⟨by rfl, ?_⟩) ?_ ?_
          rotate_left
          ·exact q4x24_
          rotate_left
          ·exact q4x25_
          refine pure_ (i := 8) (N := some 176) (v := ?_) (a' := ?_) #[true, true, true, true, true, true, true, true, true, false, false] rfl rfl (any_of HT_.out (by kernel_rfl)) (fun _ _ _ h => h) (Or.inl ⟨by rfl, ?_⟩) ?_ ?_
          rotate_left
          ·exact q4x24_
          rotate_left
          ·exact q4x25_
          refine pure_ (i := 9) (N := some 26) (v := ?_) (a' := ?_) #[true, true, true, true, true, true, true, true, true, true, false] rfl rfl (any_of HT_.out (by kernel_rfl)) (fun _ _ _ h => h) (Or.inl ⟨by rfl, ?_⟩) ?_ ?_
          rotate_left
          ·exact q4x24_
          rotate_left
          ·exact q4x25_
          refine pure_ (i := 10) (N := some 27) (v := ?_) (a' := ?_) #[true, true, true, true, true, true, true, true, true, true, true] rfl rfl (any_of HT_.out (by kernel_rfl)) (fun _ _ _ h => h) (Or.inl ⟨by rfl, ?_⟩) ?_ ?_
          rotate_left
          ·exact q4x24_
          rotate_left
          ·exact q4x25_
          refine done_ (done_of HT_.out (by kernel_rfl)) ?_
          try go_wp2
          go_ret
          exact ⟨by first | rfl | (simp [errW_none, errW_some] <;> rfl) | (simp [*, errW_none, errW_some] <;> rfl), by repeat (first | (with_reducible first | exact HB.out | apply bA4_ | apply bN4_ | apply bD4_ | refine bS4_ ?_ GE282.out | refine bS4_ ?_ GE286.out | refine bS4_ ?_ GE296.out) | exact HB.out)⟩
         rw [if_pos c88] at H
         have c88b0 : (t315 == 0) = true := beq_iff_eq.mpr c88
         have c88b1 : (t315 != 0) = false := bne_eq_false_iff_eq.mpr c88
         clear c88
         by_cases c89 : (wrap64 (x25_4 + 1)) < (t306.length : Int)
         rotate_left
         ·rw [if_neg c89] at H
          have c89b0 : decide ((wrap64 (x25_4 + 1)) < (t306.length : Int)) = false := decide_eq_false c89
          clear c89
          have H' := aM4_ H
          clear H
          obtain ⟨Ao131, co131, eo131⟩ := Kd.R_slice HO_23.out
          subst eo131
          try go_wp2
          have n0_ := aM4_ (rD4_ HO_21.out)
          have n1_ := aM4_ (rD4_ HO_23.out)
          have n2_ := aM4_ (kD4_ BK282.out)
          have n3_ := aM4_ (kD4_ BK286.out)
          have n4_ := aM4_ (kD4_ BK296.out)
          have n5_ := aM4_ (bD4_ HB.out)
          clear HO_21 HO_23 BK282 BK286 BK296 HB
          have HO_21 := n0_
          have HO_23 := n1_
          have BK282 := n2_
          have BK286 := n3_
          have BK296 := n4_
          have HB := n5_
          clear n0_ n1_ n2_ n3_ n4_ n5_
          obtain ⟨Ao133, co133, eo133⟩ := Kd.R_slice HO_21.out
          (first | subst eo133 | (injection eo133 with f1_ f2_ f3_; have f4_ := f1_.symm; have f5_ := f3_.symm; clear f1_ f2_ f3_; subst f4_; subst f5_))
          have p311 : 0 ≤ (x25_4 : Int) := of_decide_eq_true q4x3_
          have q311 : x25_4 < (t302.length : Int) := of_decide_eq_true q4x3_
          obtain ⟨ad311, e311, hx311_0, hx311_1⟩ := at_T25 (Kd.R_reads' HO_21.out).2.2 x25_4 p311 q311
          cases e311
          replace p311 := eq_true p311
          replace q311 := eq_true q311
          have p312 : 0 ≤ (x25_4 : Int) := of_decide_eq_true q4x3_
          have q312 : x25_4 < (t306.length : Int) := of_decide_eq_true q4x3_
          obtain ⟨ad312, e312, hx312_0, hx312_1⟩ := at_T25 (Kd.R_reads' HO_23.out).2.2 x25_4 p312 q312
          cases e312
          replace p312 := eq_true p312
          replace q312 := eq_true q312
          refine start_ (n := 9) (S := fun w' => w'.cell? (ad311.add ((x25_4).toNat * 2)) = some (.int .i64 ((rd_T25 t302 x25_4).f0)) ∧ w'.cell? ⟨(ad311.add ((x25_4).toNat * 2)).block, (ad311.add ((x25_4).toNat * 2)).off + 1, none⟩ = some (.int .i64 ((rd_T25 t302 x25_4).f1)) ∧ w'.cell? (ad312.add ((x25_4).toNat * 2)) = some (.int .i64 ((rd_T25 t306 x25_4).f0)) ∧ w'.cell? ⟨(ad312.add ((x25_4).toNat * 2)).block, (ad312.add ((x25_4).toNat * 2)).off + 1, none⟩ = some (.int .i64 ((rd_T25 t306 x25_4).f1))) (ds := []) #[false, false, false, false, false, false, false, false, false] (by kernel_rfl) rfl rfl ⟨hx311_0, hx311_1, hx312_0, hx312_1⟩ (fun hHeld => ?_); refine with_tabW laws_FnTerms.tab23 laws_FnTerms.bits23 (fun HT_ HW_ => ?_)
          generalize wr.drew = w132 at HO_21 HO_23 BK282 BK286 BK296 HB hx311_0 hx311_1 hx312_0 hx312_1 hHeld ⊢
          refine pure_ (i := 0) (N := some 159) (v := ?_) (a' := ?_) #[true, false, false, false, false, false, false, false, false] rfl rfl (any_of HT_.out (by kernel_rfl)) (fun _ _ _ h => h) (Or.inl ⟨by rfl, ?_⟩) ?_ ?_
          rotate_left
          ·exact q4x24_
          rotate_left
          ·exact q4x25_
          refine pure_ (i := 1) (N := some 160) (v := ?_) (a' := ?_) #[true, true, false, false, false, false, false, false, false] rfl rfl (any_of HT_.out (by kernel_rfl)) (fun _ _ _ h => h) (Or.inl ⟨by rfl, ?_⟩) ?_ ?_
          rotate_left
          ·exact q4x24_
          rotate_left
          ·exact q4x25_
          refine pure_ (i := 2) (N := some 161) (v := ?_) (a' := ?_) #[true, true, true, false, false, false, false, false, false] rfl rfl (any_of HT_.out (by kernel_rfl)) (fun _ _ _ h => h) (Or.inl ⟨by rfl, ?_⟩) ?_ ?_
          rotate_left
          ·exact q4x24_
          rotate_left
          ·exact q4x25_
          refine pure_ (i := 4) (N := some 163) (v := ?_) (a' := ?_) #[true, true, true, false, true, false, false, false, false] rfl rfl (any_of HT_.out (by kernel_rfl)) (fun _ _ _ h => h) (Or.inl ⟨by rfl, ?_⟩) ?_ ?_
          rotate_left
          ·exact q4x24_
          rotate_left
          ·exact q4x25_
          refine pure_ (i := 5) (N := some 164) (v := ?_) (a' := ?_) #[true, true, true, false, true, true, false, false, false] rfl rfl (any_of HT_.out (by kernel_rfl)) (fun _ _ _ h => h) (Or.inl ⟨by rfl, ?_⟩) ?_ ?_
          rotate_left
          ·exact q4x24_
          rotate_left
          ·exact q4x25_
          refine pure_ (i := 6) (N := some 165) (v := ?_) (a' := ?_) #[true, true, true, false, true, true, true, false, false] rfl rfl (any_of HT_.out (by kernel_rfl)) (fun _ _ _ h => h) (Or.inl ⟨by rfl, ?_⟩) ?_ ?_
          rotate_left
          ·exact q4x24_
          rotate_left
          ·exact q4x25_
          refine take_ (i := 3) (N := some 162) (v := ?_) (a' := ?_) #[true, true, true, true, true, true, true, false, false] rfl rfl (take_ofW HT_.out HW_.out (by kernel_rfl)) (fun _ _ _ h => h) (Or.inl ⟨by rfl, ?_⟩) hHeld ?_ ?_
          rotate_left
          ·exact q4x26_
          rotate_left
          ·exact q4x25_
          refine take_ (i := 7) (N := some 166) (v := ?_) (a' := ?_) #[true, true, true, true, true, true, true, true, false] rfl rfl (take_ofW HT_.out HW_.out (by kernel_rfl)) (fun _ _ _ h => h) (Or.inl ⟨by rfl, ?_⟩) hHeld ?_ ?_
          rotate_left
          ·exact q4x26_
          rotate_left
          ·exact q4x25_
          refine pure_ (i := 8) (N := some 167) (v := ?_) (a' := ?_) #[true, true, true, true, true, true, true, true, true] rfl rfl (any_of HT_.out (by kernel_rfl)) (fun _ _ _ h => h) (Or.inl ⟨by rfl, ?_⟩) ?_ ?_
          rotate_left
          ·exact q4x24_
          rotate_left
          ·exact q4x25_
          refine done_ (done_of HT_.out (by kernel_rfl)) ?_
          try go_wp2
          have n0_ := aM4_ (rD4_ HO_21.out)
          have n1_ := aM4_ (rD4_ HO_23.out)
          have n2_ := aM4_ (kD4_ BK282.out)
          have n3_ := aM4_ (kD4_ BK286.out)
          have n4_ := aM4_ (kD4_ BK296.out)
          have n5_ := aM4_ (bD4_ HB.out)
          clear HO_21 HO_23 BK282 BK286 BK296 HB
          have HO_21 := n0_
          have HO_23 := n1_
          have BK282 := n2_
          have BK286 := n3_
          have BK296 := n4_
          have HB := n5_
          clear n0_ n1_ n2_ n3_ n4_ n5_
          have p313 : 0 ≤ (x25_4 : Int) := of_decide_eq_true q4x3_
          have q313 : x25_4 < (t306.length : Int) := of_decide_eq_true q4x3_
          obtain ⟨ad313, e313, hx313_0, hx313_1⟩ := at_T25 (Kd.R_reads' HO_23.out).2.2 x25_4 p313 q313
          obtain rfl : ad312 = ad313 := (by injection e313)
          replace p313 := eq_true p313
          replace q313 := eq_true q313
          refine start_ (n := 11) (S := fun w' => w'.cell? ⟨gb286, 0, none⟩ = some (.int .i64 t283) ∧ w'.cell? ⟨gb286, 1, none⟩ = some (.int .i64 t284) ∧ w'.cell? (ad312.add ((x25_4).toNat * 2)) = some (.int .i64 ((rd_T25 t306 x25_4).f0)) ∧ w'.cell? ⟨(ad312.add ((x25_4).toNat * 2)).block, (ad312.add ((x25_4).toNat * 2)).off + 1, none⟩ = some (.int .i64 ((rd_T25 t306 x25_4).f1))) (ds := []) #[false, false, false, false, false, false, false, false, false, false, false] (by kernel_rfl) rfl rfl ⟨(kC4_ BK286.out 0).trans rfl, (kC4_ BK286.out 1).trans rfl, hx313_0, hx313_1⟩ (fun hHeld => ?_); refine with_tabW laws_FnTerms.tab25 laws_FnTerms.bits25 (fun HT_ HW_ => ?_)
          generalize w132.drew = w134 at HO_21 HO_23 BK282 BK286 BK296 HB hx313_0 hx313_1 hHeld ⊢
          refine pure_ (i := 0) (N := some 169) (v := ?_) (a' := ?_) #[true, false, false, false, false, false, false, false, false, false, false] rfl rfl (any_of HT_.out (by kernel_rfl)) (fun _ _ _ h => h) (Or.inl ⟨by rfl, ?_⟩) ?_ ?_
          rotate_left
          ·exact q4x24_
          rotate_left
          ·exact q4x25_
          refine pure_ (i := 1) (N := some 170) (v := ?_) (a' := ?_) #[true, true, false, false, false, false, false, false, false, false, false] rfl rfl (any_of HT_.out (by kernel_rfl)) (fun _ _ _ h => h) (Or.inl ⟨by rfl, ?_⟩) ?_ ?_
          rotate_left
          ·exact q4x24_
          rotate_left
          ·exact q4x25_
          refine pure_ (i := 2) (N := some 171) (v := ?_) (a' := ?_) #[true, true, true, false, false, false, false, false, false, false, false] rfl rfl (any_of HT_.out (by kernel_rfl)) (fun _ _ _ h => h) (Or.inl ⟨by rfl, ?_⟩) ?_ ?_
          rotate_left
          ·exact q4x24_
          rotate_left
          ·exact q4x25_
          refine take_ (i := 3) (N := some 172) (v := ?_) (a' := ?_) #[true, true, true, true, false, false, false, false, false, false, false] rfl rfl (take_ofW HT_.out HW_.out (by kernel_rfl)) (fun _ _ _ h => h) (Or.inl ⟨by rfl, ?_⟩) hHeld ?_ ?_
          rotate_left
          ·exact q4x26_
          rotate_left
          ·exact q4x25_
          refine take_ (i := 4) (N := some 173) (v := ?_) (a' := ?_) #[true, true, true, true, true, false, false, false, false, false, false] rfl rfl (take_ofW HT_.out HW_.out (by kernel_rfl)) (fun _ _ _ h => h) (Or.inl ⟨by rfl, ?_⟩) hHeld ?_ ?_
          rotate_left
          ·exact q4x26_
          rotate_left
          ·exact q4x25_
          refine one_ (i := 5) (N := some 174) #[true, true, true, true, true, true, false, false, false, false, false] rfl rfl (one_of HT_.out (by kernel_rfl)) (by decide) (fun K hK => ?_)
          refine goes_ Tryd.func12 (by kernel_rfl) rfl #[.agg #[.int .i64 ((rd_T25 t306 x25_4).f0), .int .i64 ((rd_T25 t306 x25_4).f1)], .agg #[.int .i64 t283, .int .i64 t284]] (by rfl) rfl rfl q4x1_ ?_
          with_reducible refine (impl_CompareRatios.calls k4 ((rd_T25 t306 x25_4).f0) ((rd_T25 t306 x25_4).f1) t283 t284 t314 t315 _ A87.out).mono ?_
          rintro e w135 ⟨rfl, hb⟩
          have HS2_ := (hb.cell (World.block_lt_of_cell? _ _ (hHeld.2.2.1))).trans (hHeld.2.2.1)
          have HS3_ := (hb.cell (World.block_lt_of_cell? _ _ (hHeld.2.2.2))).trans (hHeld.2.2.2)
          refine ⟨_, rfl, ?_⟩
          have n0_ := aM4_ (rB4_ q4x12_ hb)
          have n1_ := aM4_ (rB4_ q4x13_ hb)
          have n2_ := aM4_ (kB4_ (g := gb282) (o := .cells #[.int .i64 t279, .int .i64 t280] 25 (0, 0)) q4x5_ hb)
          have n3_ := aM4_ (kB4_ (g := gb286) (o := .cells #[.int .i64 t283, .int .i64 t284] 25 (0, 0)) q4x6_ hb)
          have n4_ := aM4_ (kB4_ (g := gb296) (o := .cells #[.int .i64 t293, .int .i64 t294] 25 (0, 0)) q4x8_ hb)
          have n5_ := aM4_ (below_step q4x2_ hb)
          clear HO_21 HO_23 BK282 BK286 BK296 HB
          have HO_21 := n0_
          have HO_23 := n1_
          have BK282 := n2_
          have BK286 := n3_
          have BK296 := n4_
          have HB := n5_
          clear n0_ n1_ n2_ n3_ n4_ n5_
          (try clear hb)
          (try clear hb2)
          (try clear hk)
          (try clear hi)
          refine hK.out _ _ ⟨(kC4_ BK286.out 0).trans rfl, (kC4_ BK286.out 1).trans rfl, HS2_, HS3_⟩ (fun hHeld => ?_)
          clear hK K
          refine norm_ (a' := ?_) ?_ ?_
          rotate_left
          ·exact q4x27_
          refine pure_ (i := 6) (N := some 168) (v := ?_) (a' := ?_) #[true, true, true, true, true, true, true, false, false, false, false] rfl rfl (any_of HT_.out (by kernel_rfl)) (fun _ _ _ h => h) (Or.inl ⟨by rfl, ?_⟩) ?_ ?_
          rotate_left
          ·exact q4x24_
          rotate_left
          ·exact q4x25_
          refine pure_ (i := 7) (N := some 175) (v := ?_) (a' := ?_) #[true, true, true, true, true, true, true, true, false, false, false] rfl rfl (any_of HT_.out (by kernel_rfl)) (fun _ _ _ h => h) (Or.inl ⟨by rfl, ?_⟩) ?_ ?_
          rotate_left
          ·exact q4x24_
          rotate_left
          ·exact q4x25_
          refine pure_ (i := 8) (N := some 176) (v := ?_) (a' := ?_) #[true, true, true, true, true, true, true, true, true, false, false] rfl rfl (any_of HT_.out (by kernel_rfl)) (fun _ _ _ h => h) (Or.inl ⟨by rfl, ?_⟩) ?_ ?_
          rotate_left
          ·exact q4x24_
          rotate_left
          ·exact q4x25_
          refine pure_ (i := 9) (N := some 26) (v := ?_) (a' := ?_) #[true, true, true, true, true, true, true, true, true, true, false] rfl rfl (any_of HT_.out (by kernel_rfl)) (fun _ _ _ h => h) (Or.inl ⟨by rfl, ?_⟩) ?_ ?_
          rotate_left
          ·exact q4x24_
          rotate_left
          ·exact q4x25_
          refine pure_ (i := 10) (N := some 27) (v := ?_) (a' := ?_) #[true, true, true, true, true, true, true, true, true, true, true] rfl rfl (any_of HT_.out (by kernel_rfl)) (fun _ _ _ h => h) (Or.inl ⟨by rfl, ?_⟩) ?_ ?_
          rotate_left
          ·exact q4x24_
          rotate_left
          ·exact q4x25_
          refine done_ (done_of HT_.out (by kernel_rfl)) ?_
          try go_wp2
          go_roundg k4
          case measure => have := HJ10.out; have := HJ43.out; have := HJ69.out; have := HK4.out; omega
          case rel => exact ⟨(wrap64 (x25_4 + 1)), q4x11_, H', ⟨by have := HJ10.out; have := HJ43.out; have := HJ69.out; have := HK4.out; omega⟩, ⟨by (with_reducible repeat (first | apply rA4_ | apply rN4_ | apply rD4_)); exact HO_21.out⟩, ⟨by (with_reducible repeat (first | apply rA4_ | apply rN4_ | apply rD4_)); exact HO_23.out⟩, ⟨by (with_reducible repeat (first | refine kN4_ ?_ _ | refine kD4_ ?_ | refine kA4_ ?_ _)); exact BK282.out⟩, ⟨by (with_reducible repeat (first | refine kN4_ ?_ _ | refine kD4_ ?_ | refine kA4_ ?_ _)); exact BK286.out⟩, ⟨by (with_reducible repeat (first | refine kN4_ ?_ _ | refine kD4_ ?_ | refine kA4_ ?_ _)); exact BK296.out⟩, ⟨by repeat (first | (with_reducible first | exact HB.out | apply bA4_ | apply bN4_ | apply bD4_ | refine bS4_ ?_ GE282.out | refine bS4_ ?_ GE286.out | refine bS4_ ?_ GE296.out) | exact HB.out)⟩⟩
         rw [if_pos c89] at H
         have c89b0 : decide ((wrap64 (x25_4 + 1)) < (t306.length : Int)) = true := decide_eq_true c89
         clear c89
         by_cases c90 : (Int.tmod x25_4 2) = 0
         rotate_left
         ·rw [if_neg c90] at H
          have c90b0 : ((Int.tmod x25_4 2) == 0) = false := beq_eq_false_iff_ne.mpr c90
          have c90b1 : ((Int.tmod x25_4 2) != 0) = true := bne_iff_ne.mpr c90
          by_cases c114 : (Int.tmod x25_4 2) = 1
          rotate_left
          ·rw [if_neg c114] at H
           have c114b0 : ((Int.tmod x25_4 2) == 1) = false := beq_eq_false_iff_ne.mpr c114
           have c114b1 : ((Int.tmod x25_4 2) != 1) = true := bne_iff_ne.mpr c114
           have H' := aM4_ H
           clear H
           obtain ⟨Ao126, co126, eo126⟩ := Kd.R_slice HO_23.out
           subst eo126
           try go_wp2
           have n0_ := aM4_ (rD4_ HO_21.out)
           have n1_ := aM4_ (rD4_ HO_23.out)
           have n2_ := aM4_ (kD4_ BK282.out)
           have n3_ := aM4_ (kD4_ BK286.out)
           have n4_ := aM4_ (kD4_ BK296.out)
           have n5_ := aM4_ (bD4_ HB.out)
           clear HO_21 HO_23 BK282 BK286 BK296 HB
           have HO_21 := n0_
           have HO_23 := n1_
           have BK282 := n2_
           have BK286 := n3_
           have BK296 := n4_
           have HB := n5_
           clear n0_ n1_ n2_ n3_ n4_ n5_
           obtain ⟨Ao128, co128, eo128⟩ := Kd.R_slice HO_21.out
           (first | subst eo128 | (injection eo128 with f1_ f2_ f3_; have f4_ := f1_.symm; have f5_ := f3_.symm; clear f1_ f2_ f3_; subst f4_; subst f5_))
           have p311 : 0 ≤ (x25_4 : Int) := of_decide_eq_true q4x3_
           have q311 : x25_4 < (t302.length : Int) := of_decide_eq_true q4x3_
           obtain ⟨ad311, e311, hx311_0, hx311_1⟩ := at_T25 (Kd.R_reads' HO_21.out).2.2 x25_4 p311 q311
           cases e311
           replace p311 := eq_true p311
           replace q311 := eq_true q311
           have p312 : 0 ≤ (x25_4 : Int) := of_decide_eq_true q4x3_
           have q312 : x25_4 < (t306.length : Int) := of_decide_eq_true q4x3_
           obtain ⟨ad312, e312, hx312_0, hx312_1⟩ := at_T25 (Kd.R_reads' HO_23.out).2.2 x25_4 p312 q312
           cases e312
           replace p312 := eq_true p312
           replace q312 := eq_true q312
           refine start_ (n := 9) (S := fun w' => w'.cell? (ad311.add ((x25_4).toNat * 2)) = some (.int .i64 ((rd_T25 t302 x25_4).f0)) ∧ w'.cell? ⟨(ad311.add ((x25_4).toNat * 2)).block, (ad311.add ((x25_4).toNat * 2)).off + 1, none⟩ = some (.int .i64 ((rd_T25 t302 x25_4).f1)) ∧ w'.cell? (ad312.add ((x25_4).toNat * 2)) = some (.int .i64 ((rd_T25 t306 x25_4).f0)) ∧ w'.cell? ⟨(ad312.add ((x25_4).toNat * 2)).block, (ad312.add ((x25_4).toNat * 2)).off + 1, none⟩ = some (.int .i64 ((rd_T25 t306 x25_4).f1))) (ds := []) #[false, false, false, false, false, false, false, false, false] (by kernel_rfl) rfl rfl ⟨hx311_0, hx311_1, hx312_0, hx312_1⟩ (fun hHeld => ?_); refine with_tabW laws_FnTerms.tab23 laws_FnTerms.bits23 (fun HT_ HW_ => ?_)
           generalize wr.drew = w127 at HO_21 HO_23 BK282 BK286 BK296 HB hx311_0 hx311_1 hx312_0 hx312_1 hHeld ⊢
           refine pure_ (i := 0) (N := some 159) (v := ?_) (a' := ?_) #[true, false, false, false, false, false, false, false, false] rfl rfl (any_of HT_.out (by kernel_rfl)) (fun _ _ _ h => h) (Or.inl ⟨by rfl, ?_⟩) ?_ ?_
           rotate_left
           ·exact q4x24_
           rotate_left
           ·exact q4x25_
           refine pure_ (i := 1) (N := some 160) (v := ?_) (a' := ?_) #[true, true, false, false, false, false, false, false, false] rfl rfl (any_of HT_.out (by kernel_rfl)) (fun _ _ _ h => h) (Or.inl ⟨by rfl, ?_⟩) ?_ ?_
           rotate_left
           ·exact q4x24_
           rotate_left
           ·exact q4x25_
           refine pure_ (i := 2) (N := some 161) (v := ?_) (a' := ?_) #[true, true, true, false, false, false, false, false, false] rfl rfl (any_of HT_.out (by kernel_rfl)) (fun _ _ _ h => h) (Or.inl ⟨by rfl, ?_⟩) ?_ ?_
           rotate_left
           ·exact q4x24_
           rotate_left
           ·exact q4x25_
           refine pure_ (i := 4) (N := some 163) (v := ?_) (a' := ?_) #[true, true, true, false, true, false, false, false, false] rfl rfl (any_of HT_.out (by kernel_rfl)) (fun _ _ _ h => h) (Or.inl ⟨by rfl, ?_⟩) ?_ ?_
           rotate_left
           ·exact q4x24_
           rotate_left
           ·exact q4x25_
           refine pure_ (i := 5) (N := some 164) (v := ?_) (a' := ?_) #[true, true, true, false, true, true, false, false, false] rfl rfl (any_of HT_.out (by kernel_rfl)) (fun _ _ _ h => h) (Or.inl ⟨by rfl, ?_⟩) ?_ ?_
           rotate_left
           ·exact q4x24_
           rotate_left
           ·exact q4x25_
           refine pure_ (i := 6) (N := some 165) (v := ?_) (a' := ?_) #[true, true, true, false, true, true, true, false, false] rfl rfl (any_of HT_.out (by kernel_rfl)) (fun _ _ _ h => h) (Or.inl ⟨by rfl, ?_⟩) ?_ ?_
           rotate_left
           ·exact q4x24_
           rotate_left
           ·exact q4x25_
           refine take_ (i := 3) (N := some 162) (v := ?_) (a' := ?_) #[true, true, true, true, true, true, true, false, false] rfl rfl (take_ofW HT_.out HW_.out (by kernel_rfl)) (fun _ _ _ h => h) (Or.inl ⟨by rfl, ?_⟩) hHeld ?_ ?_
           rotate_left
           ·exact q4x26_
           rotate_left
           ·exact q4x25_
           refine take_ (i := 7) (N := some 166) (v := ?_) (a' := ?_) #[true, true, true, true, true, true, true, true, false] rfl rfl (take_ofW HT_.out HW_.out (by kernel_rfl)) (fun _ _ _ h => h) (Or.inl ⟨by rfl, ?_⟩) hHeld ?_ ?_
           rotate_left
           ·exact q4x26_
           rotate_left
           ·exact q4x25_
           refine pure_ (i := 8) (N := some 167) (v := ?_) (a' := ?_) #[true, true, true, true, true, true, true, true, true] rfl rfl (any_of HT_.out (by kernel_rfl)) (fun _ _ _ h => h) (Or.inl ⟨by rfl, ?_⟩) ?_ ?_
           rotate_left
           ·exact q4x24_
           rotate_left
           ·exact q4x25_
           refine done_ (done_of HT_.out (by kernel_rfl)) ?_
           try go_wp2
           have n0_ := aM4_ (rD4_ HO_21.out)
           have n1_ := aM4_ (rD4_ HO_23.out)
           have n2_ := aM4_ (kD4_ BK282.out)
           have n3_ := aM4_ (kD4_ BK286.out)
           have n4_ := aM4_ (kD4_ BK296.out)
           have n5_ := aM4_ (bD4_ HB.out)
           clear HO_21 HO_23 BK282 BK286 BK296 HB
           have HO_21 := n0_
           have HO_23 := n1_
           have BK282 := n2_
           have BK286 := n3_
           have BK296 := n4_
           have HB := n5_
           clear n0_ n1_ n2_ n3_ n4_ n5_
           have p313 : 0 ≤ (x25_4 : Int) := of_decide_eq_true q4x3_
           have q313 : x25_4 < (t306.length : Int) := of_decide_eq_true q4x3_
           obtain ⟨ad313, e313, hx313_0, hx313_1⟩ := at_T25 (Kd.R_reads' HO_23.out).2.2 x25_4 p313 q313
           obtain rfl : ad312 = ad313 := (by injection e313)
           replace p313 := eq_true p313
           replace q313 := eq_true q313
           refine start_ (n := 11) (S := fun w' => w'.cell? ⟨gb286, 0, none⟩ = some (.int .i64 t283) ∧ w'.cell? ⟨gb286, 1, none⟩ = some (.int .i64 t284) ∧ w'.cell? (ad312.add ((x25_4).toNat * 2)) = some (.int .i64 ((rd_T25 t306 x25_4).f0)) ∧ w'.cell? ⟨(ad312.add ((x25_4).toNat * 2)).block, (ad312.add ((x25_4).toNat * 2)).off + 1, none⟩ = some (.int .i64 ((rd_T25 t306 x25_4).f1))) (ds := []) #[false, false, false, false, false, false, false, false, false, false, false] (by kernel_rfl) rfl rfl ⟨(kC4_ BK286.out 0).trans rfl, (kC4_ BK286.out 1).trans rfl, hx313_0, hx313_1⟩ (fun hHeld => ?_); refine with_tabW laws_FnTerms.tab25 laws_FnTerms.bits25 (fun HT_ HW_ => ?_)
           generalize w127.drew = w129 at HO_21 HO_23 BK282 BK286 BK296 HB hx313_0 hx313_1 hHeld ⊢
           refine pure_ (i := 0) (N := some 169) (v := ?_) (a' := ?_) #[true, false, false, false, false, false, false, false, false, false, false] rfl rfl (any_of HT_.out (by kernel_rfl)) (fun _ _ _ h => h) (Or.inl ⟨by rfl, ?_⟩) ?_ ?_
           rotate_left
           ·exact q4x24_
           rotate_left
           ·exact q4x25_
           refine pure_ (i := 1) (N := some 170) (v := ?_) (a' := ?_) #[true, true, false, false, false, false, false, false, false, false, false] rfl rfl (any_of HT_.out (by kernel_rfl)) (fun _ _ _ h => h) (Or.inl ⟨by rfl, ?_⟩) ?_ ?_
           rotate_left
           ·exact q4x24_
           rotate_left
           ·exact q4x25_
           refine pure_ (i := 2) (N := some 171) (v := ?_) (a' := ?_) #[true, true, true, false, false, false, false, false, false, false, false] rfl rfl (any_of HT_.out (by kernel_rfl)) (fun _ _ _ h => h) (Or.inl ⟨by rfl, ?_⟩) ?_ ?_
           rotate_left
           ·exact q4x24_
           rotate_left
           ·exact q4x25_
           refine take_ (i := 3) (N := some 172) (v := ?_) (a' := ?_) #[true, true, true, true, false, false, false, false, false, false, false] rfl rfl (take_ofW HT_.out HW_.out (by kernel_rfl)) (fun _ _ _ h => h) (Or.inl ⟨by rfl, ?_⟩) hHeld ?_ ?_
           rotate_left
           ·exact q4x26_
           rotate_left
           ·exact q4x25_
           refine take_ (i := 4) (N := some 173) (v := ?_) (a' := ?_) #[true, true, true, true, true, false, false, false, false, false, false] rfl rfl (take_ofW HT_.out HW_.out (by kernel_rfl)) (fun _ _ _ h => h) (Or.inl ⟨by rfl, ?_⟩) hHeld ?_ ?_
           rotate_left
           ·exact q4x26_
           rotate_left
           ·exact q4x25_
           refine one_ (i := 5) (N := some 174) #[true, true, true, true, true, true, false, false, false, false, false] rfl rfl (one_of HT_.out (by kernel_rfl)) (by decide) (fun K hK => ?_)
           refine goes_ Tryd.func12 (by kernel_rfl) rfl #[.agg #[.int .i64 ((rd_T25 t306 x25_4).f0), .int .i64 ((rd_T25 t306 x25_4).f1)], .agg #[.int .i64 t283, .int .i64 t284]] (by rfl) rfl rfl q4x1_ ?_
           with_reducible refine (impl_CompareRatios.calls k4 ((rd_T25 t306 x25_4).f0) ((rd_T25 t306 x25_4).f1) t283 t284 t314 t315 _ A87.out).mono ?_
           rintro e w130 ⟨rfl, hb⟩
           have HS2_ := (hb.cell (World.block_lt_of_cell? _ _ (hHeld.2.2.1))).trans (hHeld.2.2.1)
           have HS3_ := (hb.cell (World.block_lt_of_cell? _ _ (hHeld.2.2.2))).trans (hHeld.2.2.2)
           refine ⟨_, rfl, ?_⟩
           have n0_ := aM4_ (rB4_ q4x12_ hb)
           have n1_ := aM4_ (rB4_ q4x13_ hb)
           have n2_ := aM4_ (kB4_ (g := gb282) (o := .cells #[.int .i64 t279, .int .i64 t280] 25 (0, 0)) q4x5_ hb)
           have n3_ := aM4_ (kB4_ (g := gb286) (o := .cells #[.int .i64 t283, .int .i64 t284] 25 (0, 0)) q4x6_ hb)
           have n4_ := aM4_ (kB4_ (g := gb296) (o := .cells #[.int .i64 t293, .int .i64 t294] 25 (0, 0)) q4x8_ hb)
           have n5_ := aM4_ (below_step q4x2_ hb)
           clear HO_21 HO_23 BK282 BK286 BK296 HB
           have HO_21 := n0_
           have HO_23 := n1_
           have BK282 := n2_
           have BK286 := n3_
           have BK296 := n4_
           have HB := n5_
           clear n0_ n1_ n2_ n3_ n4_ n5_
           (try clear hb)
           (try clear hb2)
           (try clear hk)
           (try clear hi)
           refine hK.out _ _ ⟨(kC4_ BK286.out 0).trans rfl, (kC4_ BK286.out 1).trans rfl, HS2_, HS3_⟩ (fun hHeld => ?_)
           clear hK K
           refine norm_ (a' := ?_) ?_ ?_
           rotate_left
           ·exact q4x27_
           refine pure_ (i := 6) (N := some 168) (v := ?_) (a' := ?_) #[true, true, true, true, true, true, true, false, false, false, false] rfl rfl (any_of HT_.out (by kernel_rfl)) (fun _ _ _ h => h) (Or.inl ⟨by rfl, ?_⟩) ?_ ?_
           rotate_left
           ·exact q4x24_
           rotate_left
           ·exact q4x25_
           refine pure_ (i := 7) (N := some 175) (v := ?_) (a' := ?_) #[true, true, true, true, true, true, true, true, false, false, false] rfl rfl (any_of HT_.out (by kernel_rfl)) (fun _ _ _ h => h) (Or.inl ⟨by rfl, ?_⟩) ?_ ?_
           rotate_left
           ·exact q4x24_
           rotate_left
           ·exact q4x25_
           refine pure_ (i := 8) (N := some 176) (v := ?_) (a' := ?_) #[true, true, true, true, true, true, true, true, true, false, false] rfl rfl (any_of HT_.out (by kernel_rfl)) (fun _ _ _ h => h) (Or.inl ⟨by rfl, ?_⟩) ?_ ?_
           rotate_left
           ·exact q4x24_
           rotate_left
           ·exact q4x25_
           refine pure_ (i := 9) (N := some 26) (v := ?_) (a' := ?_) #[true, true, true, true, true, true, true, true, true, true, false] rfl rfl (any_of HT_.out (by kernel_rfl)) (fun _ _ _ h => h) (Or.inl ⟨by rfl, ?_⟩) ?_ ?_
           rotate_left
           ·exact q4x24_
           rotate_left
           ·exact q4x25_
           refine pure_ (i := 10) (N := some 27) (v := ?_) (a' := ?_) #[true, true, true, true, true, true, true, true, true, true, true] rfl rfl (any_of HT_.out (by kernel_rfl)) (fun _ _ _ h => h) (Or.inl ⟨by rfl, ?_⟩) ?_ ?_
           rotate_left
           ·exact q4x24_
           rotate_left
           ·exact q4x25_
           refine done_ (done_of HT_.out (by kernel_rfl)) ?_
           try go_wp2
           go_roundg k4
           case measure => have := HJ10.out; have := HJ43.out; have := HJ69.out; have := HK4.out; omega
           case rel => exact ⟨(wrap64 (x25_4 + 1)), q4x11_, H', ⟨by have := HJ10.out; have := HJ43.out; have := HJ69.out; have := HK4.out; omega⟩, ⟨by (with_reducible repeat (first | apply rA4_ | apply rN4_ | apply rD4_)); exact HO_21.out⟩, ⟨by (with_reducible repeat (first | apply rA4_ | apply rN4_ | apply rD4_)); exact HO_23.out⟩, ⟨by (with_reducible repeat (first | refine kN4_ ?_ _ | refine kD4_ ?_ | refine kA4_ ?_ _)); exact BK282.out⟩, ⟨by (with_reducible repeat (first | refine kN4_ ?_ _ | refine kD4_ ?_ | refine kA4_ ?_ _)); exact BK286.out⟩, ⟨by (with_reducible repeat (first | refine kN4_ ?_ _ | refine kD4_ ?_ | refine kA4_ ?_ _)); exact BK296.out⟩, ⟨by repeat (first | (with_reducible first | exact HB.out | apply bA4_ | apply bN4_ | apply bD4_ | refine bS4_ ?_ GE282.out | refine bS4_ ?_ GE286.out | refine bS4_ ?_ GE296.out) | exact HB.out)⟩⟩
          rw [if_pos c114] at H
          have c114b0 : ((Int.tmod x25_4 2) == 1) = true := beq_iff_eq.mpr c114
          have c114b1 : ((Int.tmod x25_4 2) != 1) = false := bne_eq_false_iff_eq.mpr c114
          clear c114
          by_cases c115 : t314 < 0
          ·rw [if_pos c115] at H
           have c115b0 : decide (t314 < 0) = true := decide_eq_true c115
           clear c115
           obtain rfl := Option.some.inj H
           obtain ⟨Ao116, co116, eo116⟩ := Kd.R_slice HO_23.out
           subst eo116
           try go_wp2
           have n0_ := aM4_ (rD4_ HO_21.out)
           have n1_ := aM4_ (rD4_ HO_23.out)
           have n2_ := aM4_ (kD4_ BK282.out)
           have n3_ := aM4_ (kD4_ BK286.out)
           have n4_ := aM4_ (kD4_ BK296.out)
           have n5_ := aM4_ (bD4_ HB.out)
           clear HO_21 HO_23 BK282 BK286 BK296 HB
           have HO_21 := n0_
           have HO_23 := n1_
           have BK282 := n2_
           have BK286 := n3_
           have BK296 := n4_
           have HB := n5_
           clear n0_ n1_ n2_ n3_ n4_ n5_
           obtain ⟨Ao118, co118, eo118⟩ := Kd.R_slice HO_21.out
           (first | subst eo118 | (injection eo118 with f1_ f2_ f3_; have f4_ := f1_.symm; have f5_ := f3_.symm; clear f1_ f2_ f3_; subst f4_; subst f5_))
           have p311 : 0 ≤ (x25_4 : Int) := of_decide_eq_true q4x3_
           have q311 : x25_4 < (t302.length : Int) := of_decide_eq_true q4x3_
           obtain ⟨ad311, e311, hx311_0, hx311_1⟩ := at_T25 (Kd.R_reads' HO_21.out).2.2 x25_4 p311 q311
           cases e311
           replace p311 := eq_true p311
           replace q311 := eq_true q311
           have p312 : 0 ≤ (x25_4 : Int) := of_decide_eq_true q4x3_
           have q312 : x25_4 < (t306.length : Int) := of_decide_eq_true q4x3_
           obtain ⟨ad312, e312, hx312_0, hx312_1⟩ := at_T25 (Kd.R_reads' HO_23.out).2.2 x25_4 p312 q312
           cases e312
           replace p312 := eq_true p312
           replace q312 := eq_true q312
           refine start_ (n := 9) (S := fun w' => w'.cell? (ad311.add ((x25_4).toNat * 2)) = some (.int .i64 ((rd_T25 t302 x25_4).f0)) ∧ w'.cell? ⟨(ad311.add ((x25_4).toNat * 2)).block, (ad311.add ((x25_4).toNat * 2)).off + 1, none⟩ = some (.int .i64 ((rd_T25 t302 x25_4).f1)) ∧ w'.cell? (ad312.add ((x25_4).toNat * 2)) = some (.int .i64 ((rd_T25 t306 x25_4).f0)) ∧ w'.cell? ⟨(ad312.add ((x25_4).toNat * 2)).block, (ad312.add ((x25_4).toNat * 2)).off + 1, none⟩ = some (.int .i64 ((rd_T25 t306 x25_4).f1))) (ds := []) #[false, false, false, false, false, false, false, false, false] (by kernel_rfl) rfl rfl ⟨hx311_0, hx311_1, hx312_0, hx312_1⟩ (fun hHeld => ?_); refine with_tabW laws_FnTerms.tab23 laws_FnTerms.bits23 (fun HT_ HW_ => ?_)
           generalize wr.drew = w117 at HO_21 HO_23 BK282 BK286 BK296 HB hx311_0 hx311_1 hx312_0 hx312_1 hHeld ⊢
           refine pure_ (i := 0) (N := some 159) (v := ?_) (a' := ?_) #[true, false, false, false, false, false, false, false, false] rfl rfl (any_of HT_.out (by kernel_rfl)) (fun _ _ _ h => h) (Or.inl ⟨by rfl, ?_⟩) ?_ ?_
           rotate_left
           ·exact q4x24_
           rotate_left
           ·exact q4x25_
           refine pure_ (i := 1) (N := some 160) (v := ?_) (a' := ?_) #[true, true, false, false, false, false, false, false, false] rfl rfl (any_of HT_.out (by kernel_rfl)) (fun _ _ _ h => h) (Or.inl ⟨by rfl, ?_⟩) ?_ ?_
           rotate_left
           ·exact q4x24_
           rotate_left
           ·exact q4x25_
           refine pure_ (i := 2) (N := some 161) (v := ?_) (a' := ?_) #[true, true, true, false, false, false, false, false, false] rfl rfl (any_of HT_.out (by kernel_rfl)) (fun _ _ _ h => h) (Or.inl ⟨by rfl, ?_⟩) ?_ ?_
           rotate_left
           ·exact q4x24_
           rotate_left
           ·exact q4x25_
           refine pure_ (i := 4) (N := some 163) (v := ?_) (a' := ?_) #[true, true, true, false, true, false, false, false, false] rfl rfl (any_of HT_.out (by kernel_rfl)) (fun _ _ _ h => h) (Or.inl ⟨by rfl, ?_⟩) ?_ ?_
           rotate_left
           ·exact q4x24_
           rotate_left
           ·exact q4x25_
           refine pure_ (i := 5) (N := some 164) (v := ?_) (a' := ?_) #[true, true, true, false, true, true, false, false, false] rfl rfl (any_of HT_.out (by kernel_rfl)) (fun _ _ _ h => h) (Or.inl ⟨by rfl, ?_⟩) ?_ ?_
           rotate_left
           ·exact q4x24_
           rotate_left
           ·exact q4x25_
           refine pure_ (i := 6) (N := some 165) (v := ?_) (a' := ?_) #[true, true, true, false, true, true, true, false, false] rfl rfl (any_of HT_.out (by kernel_rfl)) (fun _ _ _ h => h) (Or.inl ⟨by rfl, ?_⟩) ?_ ?_
           rotate_left
           ·exact q4x24_
           rotate_left
           ·exact q4x25_
           refine take_ (i := 3) (N := some 162) (v := ?_) (a' := ?_) #[true, true, true, true, true, true, true, false, false] rfl rfl (take_ofW HT_.out HW_.out (by kernel_rfl)) (fun _ _ _ h => h) (Or.inl ⟨by rfl, ?_⟩) hHeld ?_ ?_
           rotate_left
           ·exact q4x26_
           rotate_left
           ·exact q4x25_
           refine take_ (i := 7) (N := some 166) (v := ?_) (a' := ?_) #[true, true, true, true, true, true, true, true, false] rfl rfl (take_ofW HT_.out HW_.out (by kernel_rfl)) (fun _ _ _ h => h) (Or.inl ⟨by rfl, ?_⟩) hHeld ?_ ?_
           rotate_left
           ·exact q4x26_
           rotate_left
           ·exact q4x25_
           refine pure_ (i := 8) (N := some 167) (v := ?_) (a' := ?_) #[true, true, true, true, true, true, true, true, true] rfl rfl (any_of HT_.out (by kernel_rfl)) (fun _ _ _ h => h) (Or.inl ⟨by rfl, ?_⟩) ?_ ?_
           rotate_left
           ·exact q4x24_
           rotate_left
           ·exact q4x25_
           refine done_ (done_of HT_.out (by kernel_rfl)) ?_
           try go_wp2
           have n0_ := aM4_ (rD4_ HO_21.out)
           have n1_ := aM4_ (rD4_ HO_23.out)
           have n2_ := aM4_ (kD4_ BK282.out)
           have n3_ := aM4_ (kD4_ BK286.out)
           have n4_ := aM4_ (kD4_ BK296.out)
           have n5_ := aM4_ (bD4_ HB.out)
           clear HO_21 HO_23 BK282 BK286 BK296 HB
           have HO_21 := n0_
           have HO_23 := n1_
           have BK282 := n2_
           have BK286 := n3_
           have BK296 := n4_
           have HB := n5_
           clear n0_ n1_ n2_ n3_ n4_ n5_
           have p313 : 0 ≤ (x25_4 : Int) := of_decide_eq_true q4x3_
           have q313 : x25_4 < (t306.length : Int) := of_decide_eq_true q4x3_
           obtain ⟨ad313, e313, hx313_0, hx313_1⟩ := at_T25 (Kd.R_reads' HO_23.out).2.2 x25_4 p313 q313
           obtain rfl : ad312 = ad313 := (by injection e313)
           replace p313 := eq_true p313
           replace q313 := eq_true q313
           refine start_ (n := 11) (S := fun w' => w'.cell? ⟨gb286, 0, none⟩ = some (.int .i64 t283) ∧ w'.cell? ⟨gb286, 1, none⟩ = some (.int .i64 t284) ∧ w'.cell? (ad312.add ((x25_4).toNat * 2)) = some (.int .i64 ((rd_T25 t306 x25_4).f0)) ∧ w'.cell? ⟨(ad312.add ((x25_4).toNat * 2)).block, (ad312.add ((x25_4).toNat * 2)).off + 1, none⟩ = some (.int .i64 ((rd_T25 t306 x25_4).f1))) (ds := []) #[false, false, false, false, false, false, false, false, false, false, false] (by kernel_rfl) rfl rfl ⟨(kC4_ BK286.out 0).trans rfl, (kC4_ BK286.out 1).trans rfl, hx313_0, hx313_1⟩ (fun hHeld => ?_); refine with_tabW laws_FnTerms.tab25 laws_FnTerms.bits25 (fun HT_ HW_ => ?_)
           generalize w117.drew = w119 at HO_21 HO_23 BK282 BK286 BK296 HB hx313_0 hx313_1 hHeld ⊢
           refine pure_ (i := 0) (N := some 169) (v := ?_) (a' := ?_) #[true, false, false, false, false, false, false, false, false, false, false] rfl rfl (any_of HT_.out (by kernel_rfl)) (fun _ _ _ h => h) (Or.inl ⟨by rfl, ?_⟩) ?_ ?_
           rotate_left
           ·exact q4x24_
           rotate_left
           ·exact q4x25_
           refine pure_ (i := 1) (N := some 170) (v := ?_) (a' := ?_) #[true, true, false, false, false, false, false, false, false, false, false] rfl rfl (any_of HT_.out (by kernel_rfl)) (fun _ _ _ h => h) (Or.inl ⟨by rfl, ?_⟩) ?_ ?_
           rotate_left
           ·exact q4x24_
           rotate_left
           ·exact q4x25_
           refine pure_ (i := 2) (N := some 171) (v := ?_) (a' := ?_) #[true, true, true, false, false, false, false, false, false, false, false] rfl rfl (any_of HT_.out (by kernel_rfl)) (fun _ _ _ h => h) (Or.inl ⟨by rfl, ?_⟩) ?_ ?_
           rotate_left
           ·exact q4x24_
           rotate_left
           ·exact q4x25_
           refine take_ (i := 3) (N := some 172) (v := ?_) (a' := ?_) #[true, true, true, true, false, false, false, false, false, false, false] rfl rfl (take_ofW HT_.out HW_.out (by kernel_rfl)) (fun _ _ _ h => h) (Or.inl ⟨by rfl, ?_⟩) hHeld ?_ ?_
           rotate_left
           ·exact q4x26_
           rotate_left
           ·exact q4x25_
           refine take_ (i := 4) (N := some 173) (v := ?_) (a' := ?_) #[true, true, true, true, true, false, false, false, false, false, false] rfl rfl (take_ofW HT_.out HW_.out (by kernel_rfl)) (fun _ _ _ h => h) (Or.inl ⟨by rfl, ?_⟩) hHeld ?_ ?_
           rotate_left
           ·exact q4x26_
           rotate_left
           ·exact q4x25_
           refine one_ (i := 5) (N := some 174) #[true, true, true, true, true, true, false, false, false, false, false] rfl rfl (one_of HT_.out (by kernel_rfl)) (by decide) (fun K hK => ?_)
           refine goes_ Tryd.func12 (by kernel_rfl) rfl #[.agg #[.int .i64 ((rd_T25 t306 x25_4).f0), .int .i64 ((rd_T25 t306 x25_4).f1)], .agg #[.int .i64 t283, .int .i64 t284]] (by rfl) rfl rfl q4x1_ ?_
           with_reducible refine (impl_CompareRatios.calls k4 ((rd_T25 t306 x25_4).f0) ((rd_T25 t306 x25_4).f1) t283 t284 t314 t315 _ A87.out).mono ?_
           rintro e w120 ⟨rfl, hb⟩
           have HS2_ := (hb.cell (World.block_lt_of_cell? _ _ (hHeld.2.2.1))).trans (hHeld.2.2.1)
           have HS3_ := (hb.cell (World.block_lt_of_cell? _ _ (hHeld.2.2.2))).trans (hHeld.2.2.2)
           refine ⟨_, rfl, ?_⟩
           have n0_ := aM4_ (rB4_ q4x12_ hb)
           have n1_ := aM4_ (rB4_ q4x13_ hb)
           have n2_ := aM4_ (kB4_ (g := gb282) (o := .cells #[.int .i64 t279, .int .i64 t280] 25 (0, 0)) q4x5_ hb)
           have n3_ := aM4_ (kB4_ (g := gb286) (o := .cells #[.int .i64 t283, .int .i64 t284] 25 (0, 0)) q4x6_ hb)
           have n4_ := aM4_ (kB4_ (g := gb296) (o := .cells #[.int .i64 t293, .int .i64 t294] 25 (0, 0)) q4x8_ hb)
           have n5_ := aM4_ (below_step q4x2_ hb)
           clear HO_21 HO_23 BK282 BK286 BK296 HB
           have HO_21 := n0_
           have HO_23 := n1_
           have BK282 := n2_
           have BK286 := n3_
           have BK296 := n4_
           have HB := n5_
           clear n0_ n1_ n2_ n3_ n4_ n5_
           (try clear hb)
           (try clear hb2)
           (try clear hk)
           (try clear hi)
           refine hK.out _ _ ⟨(kC4_ BK286.out 0).trans rfl, (kC4_ BK286.out 1).trans rfl, HS2_, HS3_⟩ (fun hHeld => ?_)
           clear hK K
           refine norm_ (a' := ?_) ?_ ?_
           rotate_left
           ·exact q4x27_
           refine pure_ (i := 6) (N := some 168) (v := ?_) (a' := ?_) #[true, true, true, true, true, true, true, false, false, false, false] rfl rfl (any_of HT_.out (by kernel_rfl)) (fun _ _ _ h => h) (Or.inl ⟨by rfl, ?_⟩) ?_ ?_
           rotate_left
           ·exact q4x24_
           rotate_left
           ·exact q4x25_
           refine pure_ (i := 7) (N := some 175) (v := ?_) (a' := ?_) #[true, true, true, true, true, true, true, true, false, false, false] rfl rfl (any_of HT_.out (by kernel_rfl)) (fun _ _ _ h => h) (Or.inl ⟨by rfl, ?_⟩) ?_ ?_
           rotate_left
           ·exact q4x24_
           rotate_left
           ·exact q4x25_
           refine pure_ (i := 8) (N := some 176) (v := ?_) (a' := ?_) #[true, true, true, true, true, true, true, true, true, false, false] rfl rfl (any_of HT_.out (by kernel_rfl)) (fun _ _ _ h => h) (Or.inl ⟨by rfl, ?_⟩) ?_ ?_
           rotate_left
           ·exact q4x24_
           rotate_left
           ·exact q4x25_
           refine pure_ (i := 9) (N := some 26) (v := ?_) (a' := ?_) #[true, true, true, true, true, true, true, true, true, true, false] rfl rfl (any_of HT_.out (by kernel_rfl)) (fun _ _ _ h => h) (Or.inl ⟨by rfl, ?_⟩) ?_ ?_
           rotate_left
           ·exact q4x24_
           rotate_left
           ·exact q4x25_
           refine pure_ (i := 10) (N := some 27) (v := ?_) (a' := ?_) #[true, true, true, true, true, true, true, true, true, true, true] rfl rfl (any_of HT_.out (by kernel_rfl)) (fun _ _ _ h => h) (Or.inl ⟨by rfl, ?_⟩) ?_ ?_
           rotate_left
           ·exact q4x24_
           rotate_left
           ·exact q4x25_
           refine done_ (done_of HT_.out (by kernel_rfl)) ?_
           try go_wp2
           go_ret
           exact ⟨by first | rfl | (simp [errW_none, errW_some] <;> rfl) | (simp [*, errW_none, errW_some] <;> rfl), by repeat (first | (with_reducible first | exact HB.out | apply bA4_ | apply bN4_ | apply bD4_ | refine bS4_ ?_ GE282.out | refine bS4_ ?_ GE286.out | refine bS4_ ?_ GE296.out) | exact HB.out)⟩
          rw [if_neg c115] at H
          have c115b0 : decide (t314 < 0) = false := decide_eq_false c115
          clear c115
          have H' := aM4_ H
          clear H
          obtain ⟨Ao121, co121, eo121⟩ := Kd.R_slice HO_23.out
          subst eo121
          try go_wp2
          have n0_ := aM4_ (rD4_ HO_21.out)
          have n1_ := aM4_ (rD4_ HO_23.out)
          have n2_ := aM4_ (kD4_ BK282.out)
          have n3_ := aM4_ (kD4_ BK286.out)
          have n4_ := aM4_ (kD4_ BK296.out)
          have n5_ := aM4_ (bD4_ HB.out)
          clear HO_21 HO_23 BK282 BK286 BK296 HB
          have HO_21 := n0_
          have HO_23 := n1_
          have BK282 := n2_
          have BK286 := n3_
          have BK296 := n4_
          have HB := n5_
          clear n0_ n1_ n2_ n3_ n4_ n5_
          obtain ⟨Ao123, co123, eo123⟩ := Kd.R_slice HO_21.out
          (first | subst eo123 | (injection eo123 with f1_ f2_ f3_; have f4_ := f1_.symm; have f5_ := f3_.symm; clear f1_ f2_ f3_; subst f4_; subst f5_))
          have p311 : 0 ≤ (x25_4 : Int) := of_decide_eq_true q4x3_
          have q311 : x25_4 < (t302.length : Int) := of_decide_eq_true q4x3_
          obtain ⟨ad311, e311, hx311_0, hx311_1⟩ := at_T25 (Kd.R_reads' HO_21.out).2.2 x25_4 p311 q311
          cases e311
          replace p311 := eq_true p311
          replace q311 := eq_true q311
          have p312 : 0 ≤ (x25_4 : Int) := of_decide_eq_true q4x3_
          have q312 : x25_4 < (t306.length : Int) := of_decide_eq_true q4x3_
          obtain ⟨ad312, e312, hx312_0, hx312_1⟩ := at_T25 (Kd.R_reads' HO_23.out).2.2 x25_4 p312 q312
          cases e312
          replace p312 := eq_true p312
          replace q312 := eq_true q312
          refine start_ (n := 9) (S := fun w' => w'.cell? (ad311.add ((x25_4).toNat * 2)) = some (.int .i64 ((rd_T25 t302 x25_4).f0)) ∧ w'.cell? ⟨(ad311.add ((x25_4).toNat * 2)).block, (ad311.add ((x25_4).toNat * 2)).off + 1, none⟩ = some (.int .i64 ((rd_T25 t302 x25_4).f1)) ∧ w'.cell? (ad312.add ((x25_4).toNat * 2)) = some (.int .i64 ((rd_T25 t306 x25_4).f0)) ∧ w'.cell? ⟨(ad312.add ((x25_4).toNat * 2)).block, (ad312.add ((x25_4).toNat * 2)).off + 1, none⟩ = some (.int .i64 ((rd_T25 t306 x25_4).f1))) (ds := []) #[false, false, false, false, false, false, false, false, false] (by kernel_rfl) rfl rfl ⟨hx311_0, hx311_1, hx312_0, hx312_1⟩ (fun hHeld => ?_); refine with_tabW laws_FnTerms.tab23 laws_FnTerms.bits23 (fun HT_ HW_ => ?_)
          generalize wr.drew = w122 at HO_21 HO_23 BK282 BK286 BK296 HB hx311_0 hx311_1 hx312_0 hx312_1 hHeld ⊢
          refine pure_ (i := 0) (N := some 159) (v := ?_) (a' := ?_) #[true, false, false, false, false, false, false, false, false] rfl rfl (any_of HT_.out (by kernel_rfl)) (fun _ _ _ h => h) (Or.inl ⟨by rfl, ?_⟩) ?_ ?_
          rotate_left
          ·exact q4x24_
          rotate_left
          ·exact q4x25_
          refine pure_ (i := 1) (N := some 160) (v := ?_) (a' := ?_) #[true, true, false, false, false, false, false, false, false] rfl rfl (any_of HT_.out (by kernel_rfl)) (fun _ _ _ h => h) (Or.inl ⟨by rfl, ?_⟩) ?_ ?_
          rotate_left
          ·exact q4x24_
          rotate_left
          ·exact q4x25_
          refine pure_ (i := 2) (N := some 161) (v := ?_) (a' := ?_) #[true, true, true, false, false, false, false, false, false] rfl rfl (any_of HT_.out (by kernel_rfl)) (fun _ _ _ h => h) (Or.inl ⟨by rfl, ?_⟩) ?_ ?_
          rotate_left
          ·exact q4x24_
          rotate_left
          ·exact q4x25_
          refine pure_ (i := 4) (N := some 163) (v := ?_) (a' := ?_) #[true, true, true, false, true, false, false, false, false] rfl rfl (any_of HT_.out (by kernel_rfl)) (fun _ _ _ h => h) (Or.inl ⟨by rfl, ?_⟩) ?_ ?_
          rotate_left
          ·exact q4x24_
          rotate_left
          ·exact q4x25_
          refine pure_ (i := 5) (N := some 164) (v := ?_) (a' := ?_) #[true, true, true, false, true, true, false, false, false] rfl rfl (any_of HT_.out (by kernel_rfl)) (fun _ _ _ h => h) (Or.inl ⟨by rfl, ?_⟩) ?_ ?_
          rotate_left
          ·exact q4x24_
          rotate_left
          ·exact q4x25_
          refine pure_ (i := 6) (N := some 165) (v := ?_) (a' := ?_) #[true, true, true, false, true, true, true, false, false] rfl rfl (any_of HT_.out (by kernel_rfl)) (fun _ _ _ h => h) (Or.inl ⟨by rfl, ?_⟩) ?_ ?_
          rotate_left
          ·exact q4x24_
          rotate_left
          ·exact q4x25_
          refine take_ (i := 3) (N := some 162) (v := ?_) (a' := ?_) #[true, true, true, true, true, true, true, false, false] rfl rfl (take_ofW HT_.out HW_.out (by kernel_rfl)) (fun _ _ _ h => h) (Or.inl ⟨by rfl, ?_⟩) hHeld ?_ ?_
          rotate_left
          ·exact q4x26_
          rotate_left
          ·exact q4x25_
          refine take_ (i := 7) (N := some 166) (v := ?_) (a' := ?_) #[true, true, true, true, true, true, true, true, false] rfl rfl (take_ofW HT_.out HW_.out (by kernel_rfl)) (fun _ _ _ h => h) (Or.inl ⟨by rfl, ?_⟩) hHeld ?_ ?_
          rotate_left
          ·exact q4x26_
          rotate_left
          ·exact q4x25_
          refine pure_ (i := 8) (N := some 167) (v := ?_) (a' := ?_) #[true, true, true, true, true, true, true, true, true] rfl rfl (any_of HT_.out (by kernel_rfl)) (fun _ _ _ h => h) (Or.inl ⟨by rfl, ?_⟩) ?_ ?_
          rotate_left
          ·exact q4x24_
          rotate_left
          ·exact q4x25_
          refine done_ (done_of HT_.out (by kernel_rfl)) ?_
          try go_wp2
          have n0_ := aM4_ (rD4_ HO_21.out)
          have n1_ := aM4_ (rD4_ HO_23.out)
          have n2_ := aM4_ (kD4_ BK282.out)
          have n3_ := aM4_ (kD4_ BK286.out)
          have n4_ := aM4_ (kD4_ BK296.out)
          have n5_ := aM4_ (bD4_ HB.out)
          clear HO_21 HO_23 BK282 BK286 BK296 HB
          have HO_21 := n0_
          have HO_23 := n1_
          have BK282 := n2_
          have BK286 := n3_
          have BK296 := n4_
          have HB := n5_
          clear n0_ n1_ n2_ n3_ n4_ n5_
          have p313 : 0 ≤ (x25_4 : Int) := of_decide_eq_true q4x3_
          have q313 : x25_4 < (t306.length : Int) := of_decide_eq_true q4x3_
          obtain ⟨ad313, e313, hx313_0, hx313_1⟩ := at_T25 (Kd.R_reads' HO_23.out).2.2 x25_4 p313 q313
          obtain rfl : ad312 = ad313 := (by injection e313)
          replace p313 := eq_true p313
          replace q313 := eq_true q313
          refine start_ (n := 11) (S := fun w' => w'.cell? ⟨gb286, 0, none⟩ = some (.int .i64 t283) ∧ w'.cell? ⟨gb286, 1, none⟩ = some (.int .i64 t284) ∧ w'.cell? (ad312.add ((x25_4).toNat * 2)) = some (.int .i64 ((rd_T25 t306 x25_4).f0)) ∧ w'.cell? ⟨(ad312.add ((x25_4).toNat * 2)).block, (ad312.add ((x25_4).toNat * 2)).off + 1, none⟩ = some (.int .i64 ((rd_T25 t306 x25_4).f1))) (ds := []) #[false, false, false, false, false, false, false, false, false, false, false] (by kernel_rfl) rfl rfl ⟨(kC4_ BK286.out 0).trans rfl, (kC4_ BK286.out 1).trans rfl, hx313_0, hx313_1⟩ (fun hHeld => ?_); refine with_tabW laws_FnTerms.tab25 laws_FnTerms.bits25 (fun HT_ HW_ => ?_)
          generalize w122.drew = w124 at HO_21 HO_23 BK282 BK286 BK296 HB hx313_0 hx313_1 hHeld ⊢
          refine pure_ (i := 0) (N := some 169) (v := ?_) (a' := ?_) #[true, false, false, false, false, false, false, false, false, false, false] rfl rfl (any_of HT_.out (by kernel_rfl)) (fun _ _ _ h => h) (Or.inl ⟨by rfl, ?_⟩) ?_ ?_
          rotate_left
          ·exact q4x24_
          rotate_left
          ·exact q4x25_
          refine pure_ (i := 1) (N := some 170) (v := ?_) (a' := ?_) #[true, true, false, false, false, false, false, false, false, false, false] rfl rfl (any_of HT_.out (by kernel_rfl)) (fun _ _ _ h => h) (Or.inl ⟨by rfl, ?_⟩) ?_ ?_
          rotate_left
          ·exact q4x24_
          rotate_left
          ·exact q4x25_
          refine pure_ (i := 2) (N := some 171) (v := ?_) (a' := ?_) #[true, true, true, false, false, false, false, false, false, false, false] rfl rfl (any_of HT_.out (by kernel_rfl)) (fun _ _ _ h => h) (Or.inl ⟨by rfl, ?_⟩) ?_ ?_
          rotate_left
          ·exact q4x24_
          rotate_left
          ·exact q4x25_
          refine take_ (i := 3) (N := some 172) (v := ?_) (a' := ?_) #[true, true, true, true, false, false, false, false, false, false, false] rfl rfl (take_ofW HT_.out HW_.out (by kernel_rfl)) (fun _ _ _ h => h) (Or.inl ⟨by rfl, ?_⟩) hHeld ?_ ?_
          rotate_left
          ·exact q4x26_
          rotate_left
          ·exact q4x25_
          refine take_ (i := 4) (N := some 173) (v := ?_) (a' := ?_) #[true, true, true, true, true, false, false, false, false, false, false] rfl rfl (take_ofW HT_.out HW_.out (by kernel_rfl)) (fun _ _ _ h => h) (Or.inl ⟨by rfl, ?_⟩) hHeld ?_ ?_
          rotate_left
          ·exact q4x26_
          rotate_left
          ·exact q4x25_
          refine one_ (i := 5) (N := some 174) #[true, true, true, true, true, true, false, false, false, false, false] rfl rfl (one_of HT_.out (by kernel_rfl)) (by decide) (fun K hK => ?_)
          refine goes_ Tryd.func12 (by kernel_rfl) rfl #[.agg #[.int .i64 ((rd_T25 t306 x25_4).f0), .int .i64 ((rd_T25 t306 x25_4).f1)], .agg #[.int .i64 t283, .int .i64 t284]] (by rfl) rfl rfl q4x1_ ?_
          with_reducible refine (impl_CompareRatios.calls k4 ((rd_T25 t306 x25_4).f0) ((rd_T25 t306 x25_4).f1) t283 t284 t314 t315 _ A87.out).mono ?_
          rintro e w125 ⟨rfl, hb⟩
          have HS2_ := (hb.cell (World.block_lt_of_cell? _ _ (hHeld.2.2.1))).trans (hHeld.2.2.1)
          have HS3_ := (hb.cell (World.block_lt_of_cell? _ _ (hHeld.2.2.2))).trans (hHeld.2.2.2)
          refine ⟨_, rfl, ?_⟩
          have n0_ := aM4_ (rB4_ q4x12_ hb)
          have n1_ := aM4_ (rB4_ q4x13_ hb)
          have n2_ := aM4_ (kB4_ (g := gb282) (o := .cells #[.int .i64 t279, .int .i64 t280] 25 (0, 0)) q4x5_ hb)
          have n3_ := aM4_ (kB4_ (g := gb286) (o := .cells #[.int .i64 t283, .int .i64 t284] 25 (0, 0)) q4x6_ hb)
          have n4_ := aM4_ (kB4_ (g := gb296) (o := .cells #[.int .i64 t293, .int .i64 t294] 25 (0, 0)) q4x8_ hb)
          have n5_ := aM4_ (below_step q4x2_ hb)
          clear HO_21 HO_23 BK282 BK286 BK296 HB
          have HO_21 := n0_
          have HO_23 := n1_
          have BK282 := n2_
          have BK286 := n3_
          have BK296 := n4_
          have HB := n5_
          clear n0_ n1_ n2_ n3_ n4_ n5_
          (try clear hb)
          (try clear hb2)
          (try clear hk)
          (try clear hi)
          refine hK.out _ _ ⟨(kC4_ BK286.out 0).trans rfl, (kC4_ BK286.out 1).trans rfl, HS2_, HS3_⟩ (fun hHeld => ?_)
          clear hK K
          refine norm_ (a' := ?_) ?_ ?_
          rotate_left
          ·exact q4x27_
          refine pure_ (i := 6) (N := some 168) (v := ?_) (a' := ?_) #[true, true, true, true, true, true, true, false, false, false, false] rfl rfl (any_of HT_.out (by kernel_rfl)) (fun _ _ _ h => h) (Or.inl ⟨by rfl, ?_⟩) ?_ ?_
          rotate_left
          ·exact q4x24_
          rotate_left
          ·exact q4x25_
          refine pure_ (i := 7) (N := some 175) (v := ?_) (a' := ?_) #[true, true, true, true, true, true, true, true, false, false, false] rfl rfl (any_of HT_.out (by kernel_rfl)) (fun _ _ _ h => h) (Or.inl ⟨by rfl, ?_⟩) ?_ ?_
          rotate_left
          ·exact q4x24_
          rotate_left
          ·exact q4x25_
          refine pure_ (i := 8) (N := some 176) (v := ?_) (a' := ?_) #[true, true, true, true, true, true, true, true, true, false, false] rfl rfl (any_of HT_.out (by kernel_rfl)) (fun _ _ _ h => h) (Or.inl ⟨by rfl, ?_⟩) ?_ ?_
          rotate_left
          ·exact q4x24_
          rotate_left
          ·exact q4x25_
          refine pure_ (i := 9) (N := some 26) (v := ?_) (a' := ?_) #[true, true, true, true, true, true, true, true, true, true, false] rfl rfl (any_of HT_.out (by kernel_rfl)) (fun _ _ _ h => h) (Or.inl ⟨by rfl, ?_⟩) ?_ ?_
          rotate_left
          ·exact q4x24_
          rotate_left
          ·exact q4x25_
          refine pure_ (i := 10) (N := some 27) (v := ?_) (a' := ?_) #[true, true, true, true, true, true, true, true, true, true, true] rfl rfl (any_of HT_.out (by kernel_rfl)) (fun _ _ _ h => h) (Or.inl ⟨by rfl, ?_⟩) ?_ ?_
          rotate_left
          ·exact q4x24_
          rotate_left
          ·exact q4x25_
          refine done_ (done_of HT_.out (by kernel_rfl)) ?_
          try go_wp2
          go_roundg k4
          case measure => have := HJ10.out; have := HJ43.out; have := HJ69.out; have := HK4.out; omega
          case rel => exact ⟨(wrap64 (x25_4 + 1)), q4x11_, H', ⟨by have := HJ10.out; have := HJ43.out; have := HJ69.out; have := HK4.out; omega⟩, ⟨by (with_reducible repeat (first | apply rA4_ | apply rN4_ | apply rD4_)); exact HO_21.out⟩, ⟨by (with_reducible repeat (first | apply rA4_ | apply rN4_ | apply rD4_)); exact HO_23.out⟩, ⟨by (with_reducible repeat (first | refine kN4_ ?_ _ | refine kD4_ ?_ | refine kA4_ ?_ _)); exact BK282.out⟩, ⟨by (with_reducible repeat (first | refine kN4_ ?_ _ | refine kD4_ ?_ | refine kA4_ ?_ _)); exact BK286.out⟩, ⟨by (with_reducible repeat (first | refine kN4_ ?_ _ | refine kD4_ ?_ | refine kA4_ ?_ _)); exact BK296.out⟩, ⟨by repeat (first | (with_reducible first | exact HB.out | apply bA4_ | apply bN4_ | apply bD4_ | refine bS4_ ?_ GE282.out | refine bS4_ ?_ GE286.out | refine bS4_ ?_ GE296.out) | exact HB.out)⟩⟩
         rw [if_pos c90] at H
         have c90b0 : ((Int.tmod x25_4 2) == 0) = true := beq_iff_eq.mpr c90
         have c90b1 : ((Int.tmod x25_4 2) != 0) = false := bne_eq_false_iff_eq.mpr c90
         clear c90
         by_cases c91 : t314 > 0
         ·rw [if_pos c91] at H
          have c91b0 : decide (0 < t314) = true := decide_eq_true c91
          clear c91
          obtain rfl := Option.some.inj H
          obtain ⟨Ao92, co92, eo92⟩ := Kd.R_slice HO_23.out
          subst eo92
          try go_wp2
          have n0_ := aM4_ (rD4_ HO_21.out)
          have n1_ := aM4_ (rD4_ HO_23.out)
          have n2_ := aM4_ (kD4_ BK282.out)
          have n3_ := aM4_ (kD4_ BK286.out)
          have n4_ := aM4_ (kD4_ BK296.out)
          have n5_ := aM4_ (bD4_ HB.out)
          clear HO_21 HO_23 BK282 BK286 BK296 HB
          have HO_21 := n0_
          have HO_23 := n1_
          have BK282 := n2_
          have BK286 := n3_
          have BK296 := n4_
          have HB := n5_
          clear n0_ n1_ n2_ n3_ n4_ n5_
          obtain ⟨Ao94, co94, eo94⟩ := Kd.R_slice HO_21.out
          (first | subst eo94 | (injection eo94 with f1_ f2_ f3_; have f4_ := f1_.symm; have f5_ := f3_.symm; clear f1_ f2_ f3_; subst f4_; subst f5_))
          have p311 : 0 ≤ (x25_4 : Int) := of_decide_eq_true q4x3_
          have q311 : x25_4 < (t302.length : Int) := of_decide_eq_true q4x3_
          obtain ⟨ad311, e311, hx311_0, hx311_1⟩ := at_T25 (Kd.R_reads' HO_21.out).2.2 x25_4 p311 q311
          cases e311
          replace p311 := eq_true p311
          replace q311 := eq_true q311
          have p312 : 0 ≤ (x25_4 : Int) := of_decide_eq_true q4x3_
          have q312 : x25_4 < (t306.length : Int) := of_decide_eq_true q4x3_
          obtain ⟨ad312, e312, hx312_0, hx312_1⟩ := at_T25 (Kd.R_reads' HO_23.out).2.2 x25_4 p312 q312
          cases e312
          replace p312 := eq_true p312
          replace q312 := eq_true q312
          refine start_ (n := 9) (S := fun w' => w'.cell? (ad311.add ((x25_4).toNat * 2)) = some (.int .i64 ((rd_T25 t302 x25_4).f0)) ∧ w'.cell? ⟨(ad311.add ((x25_4).toNat * 2)).block, (ad311.add ((x25_4).toNat * 2)).off + 1, none⟩ = some (.int .i64 ((rd_T25 t302 x25_4).f1)) ∧ w'.cell? (ad312.add ((x25_4).toNat * 2)) = some (.int .i64 ((rd_T25 t306 x25_4).f0)) ∧ w'.cell? ⟨(ad312.add ((x25_4).toNat * 2)).block, (ad312.add ((x25_4).toNat * 2)).off + 1, none⟩ = some (.int .i64 ((rd_T25 t306 x25_4).f1))) (ds := []) #[false, false, false, false, false, false, false, false, false] (by kernel_rfl) rfl rfl ⟨hx311_0, hx311_1, hx312_0, hx312_1⟩ (fun hHeld => ?_); refine with_tabW laws_FnTerms.tab23 laws_FnTerms.bits23 (fun HT_ HW_ => ?_)
          generalize wr.drew = w93 at HO_21 HO_23 BK282 BK286 BK296 HB hx311_0 hx311_1 hx312_0 hx312_1 hHeld ⊢
          refine pure_ (i := 0) (N := some 159) (v := ?_) (a' := ?_) #[true, false, false, false, false, false, false, false, false] rfl rfl (any_of HT_.out (by kernel_rfl)) (fun _ _ _ h => h) (Or.inl ⟨by rfl, ?_⟩) ?_ ?_
          rotate_left
          ·exact q4x24_
          rotate_left
          ·exact q4x25_
          refine pure_ (i := 1) (N := some 160) (v := ?_) (a' := ?_) #[true, true, false, false, false, false, false, false, false] rfl rfl (any_of HT_.out (by kernel_rfl)) (fun _ _ _ h => h) (Or.inl ⟨by rfl, ?_⟩) ?_ ?_
          rotate_left
          ·exact q4x24_
          rotate_left
          ·exact q4x25_
          refine pure_ (i := 2) (N := some 161) (v := ?_) (a' := ?_) #[true, true, true, false, false, false, false, false, false] rfl rfl (any_of HT_.out (by kernel_rfl)) (fun _ _ _ h => h) (Or.inl ⟨by rfl, ?_⟩) ?_ ?_
          rotate_left
          ·exact q4x24_
          rotate_left
          ·exact q4x25_
          refine pure_ (i := 4) (N := some 163) (v := ?_) (a' := ?_) #[true, true, true, false, true, false, false, false, false] rfl rfl (any_of HT_.out (by kernel_rfl)) (fun _ _ _ h => h) (Or.inl ⟨by rfl, ?_⟩) ?_ ?_
          rotate_left
          ·exact q4x24_
          rotate_left
          ·exact q4x25_
          refine pure_ (i := 5) (N := some 164) (v := ?_) (a' := ?_) #[true, true, true, false, true, true, false, false, false] rfl rfl (any_of HT_.out (by kernel_rfl)) (fun _ _ _ h => h) (Or.inl ⟨by rfl, ?_⟩) ?_ ?_
          rotate_left
          ·exact q4x24_
          rotate_left
          ·exact q4x25_
          refine pure_ (i := 6) (N := some 165) (v := ?_) (a' := ?_) #[true, true, true, false, true, true, true, false, false] rfl rfl (any_of HT_.out (by kernel_rfl)) (fun _ _ _ h => h) (Or.inl ⟨by rfl, ?_⟩) ?_ ?_
          rotate_left
          ·exact q4x24_
          rotate_left
          ·exact q4x25_
          refine take_ (i := 3) (N := some 162) (v := ?_) (a' := ?_) #[true, true, true, true, true, true, true, false, false] rfl rfl (take_ofW HT_.out HW_.out (by kernel_rfl)) (fun _ _ _ h => h) (Or.inl ⟨by rfl, ?_⟩) hHeld ?_ ?_
          rotate_left
          ·exact q4x26_
          rotate_left
          ·exact q4x25_
          refine take_ (i := 7) (N := some 166) (v := ?_) (a' := ?_) #[true, true, true, true, true, true, true, true, false] rfl rfl (take_ofW HT_.out HW_.out (by kernel_rfl)) (fun _ _ _ h => h) (Or.inl ⟨by rfl, ?_⟩) hHeld ?_ ?_
          rotate_left
          ·exact q4x26_
          rotate_left
          ·exact q4x25_
          refine pure_ (i := 8) (N := some 167) (v := ?_) (a' := ?_) #[true, true, true, true, true, true, true, true, true] rfl rfl (any_of HT_.out (by kernel_rfl)) (fun _ _ _ h => h) (Or.inl ⟨by rfl, ?_⟩) ?_ ?_
          rotate_left
          ·exact q4x24_
          rotate_left
          ·exact q4x25_
          refine done_ (done_of HT_.out (by kernel_rfl)) ?_
          try go_wp2
          have n0_ := aM4_ (rD4_ HO_21.out)
          have n1_ := aM4_ (rD4_ HO_23.out)
          have n2_ := aM4_ (kD4_ BK282.out)
          have n3_ := aM4_ (kD4_ BK286.out)
          have n4_ := aM4_ (kD4_ BK296.out)
          have n5_ := aM4_ (bD4_ HB.out)
          clear HO_21 HO_23 BK282 BK286 BK296 HB
          have HO_21 := n0_
          have HO_23 := n1_
          have BK282 := n2_
          have BK286 := n3_
          have BK296 := n4_
          have HB := n5_
          clear n0_ n1_ n2_ n3_ n4_ n5_
          have p313 : 0 ≤ (x25_4 : Int) := of_decide_eq_true q4x3_
          have q313 : x25_4 < (t306.length : Int) := of_decide_eq_true q4x3_
          obtain ⟨ad313, e313, hx313_0, hx313_1⟩ := at_T25 (Kd.R_reads' HO_23.out).2.2 x25_4 p313 q313
          obtain rfl : ad312 = ad313 := (by injection e313)
          replace p313 := eq_true p313
          replace q313 := eq_true q313
          refine start_ (n := 11) (S := fun w' => w'.cell? ⟨gb286, 0, none⟩ = some (.int .i64 t283) ∧ w'.cell? ⟨gb286, 1, none⟩ = some (.int .i64 t284) ∧ w'.cell? (ad312.add ((x25_4).toNat * 2)) = some (.int .i64 ((rd_T25 t306 x25_4).f0)) ∧ w'.cell? ⟨(ad312.add ((x25_4).toNat * 2)).block, (ad312.add ((x25_4).toNat * 2)).off + 1, none⟩ = some (.int .i64 ((rd_T25 t306 x25_4).f1))) (ds := []) #[false, false, false, false, false, false, false, false, false, false, false] (by kernel_rfl) rfl rfl ⟨(kC4_ BK286.out 0).trans rfl, (kC4_ BK286.out 1).trans rfl, hx313_0, hx313_1⟩ (fun hHeld => ?_); refine with_tabW laws_FnTerms.tab25 laws_FnTerms.bits25 (fun HT_ HW_ => ?_)
          generalize w93.drew = w95 at HO_21 HO_23 BK282 BK286 BK296 HB hx313_0 hx313_1 hHeld ⊢
          refine pure_ (i := 0) (N := some 169) (v := ?_) (a' := ?_) #[true, false, false, false, false, false, false, false, false, false, false] rfl rfl (any_of HT_.out (by kernel_rfl)) (fun _ _ _ h => h) (Or.inl ⟨by rfl, ?_⟩) ?_ ?_
          rotate_left
          ·exact q4x24_
          rotate_left
          ·exact q4x25_
          refine pure_ (i := 1) (N := some 170) (v := ?_) (a' := ?_) #[true, true, false, false, false, false, false, false, false, false, false] rfl rfl (any_of HT_.out (by kernel_rfl)) (fun _ _ _ h => h) (Or.inl ⟨by rfl, ?_⟩) ?_ ?_
          rotate_left
          ·exact q4x24_
          rotate_left
          ·exact q4x25_
          refine pure_ (i := 2) (N := some 171) (v := ?_) (a' := ?_) #[true, true, true, false, false, false, false, false, false, false, false] rfl rfl (any_of HT_.out (by kernel_rfl)) (fun _ _ _ h => h) (Or.inl ⟨by rfl, ?_⟩) ?_ ?_
          rotate_left
          ·exact q4x24_
          rotate_left
          ·exact q4x25_
          refine take_ (i := 3) (N := some 172) (v := ?_) (a' := ?_) #[true, true, true, true, false, false, false, false, false, false, false] rfl rfl (take_ofW HT_.out HW_.out (by kernel_rfl)) (fun _ _ _ h => h) (Or.inl ⟨by rfl, ?_⟩) hHeld ?_ ?_
          rotate_left
          ·exact q4x26_
          rotate_left
          ·exact q4x25_
          refine take_ (i := 4) (N := some 173) (v := ?_) (a' := ?_) #[true, true, true, true, true, false, false, false, false, false, false] rfl rfl (take_ofW HT_.out HW_.out (by kernel_rfl)) (fun _ _ _ h => h) (Or.inl ⟨by rfl, ?_⟩) hHeld ?_ ?_
          rotate_left
          ·exact q4x26_
          rotate_left
          ·exact q4x25_
          refine one_ (i := 5) (N := some 174) #[true, true, true, true, true, true, false, false, false, false, false] rfl rfl (one_of HT_.out (by kernel_rfl)) (by decide) (fun K hK => ?_)
          refine goes_ Tryd.func12 (by kernel_rfl) rfl #[.agg #[.int .i64 ((rd_T25 t306 x25_4).f0), .int .i64 ((rd_T25 t306 x25_4).f1)], .agg #[.int .i64 t283, .int .i64 t284]] (by rfl) rfl rfl q4x1_ ?_
          with_reducible refine (impl_CompareRatios.calls k4 ((rd_T25 t306 x25_4).f0) ((rd_T25 t306 x25_4).f1) t283 t284 t314 t315 _ A87.out).mono ?_
          rintro e w96 ⟨rfl, hb⟩
          have HS2_ := (hb.cell (World.block_lt_of_cell? _ _ (hHeld.2.2.1))).trans (hHeld.2.2.1)
          have HS3_ := (hb.cell (World.block_lt_of_cell? _ _ (hHeld.2.2.2))).trans (hHeld.2.2.2)
          refine ⟨_, rfl, ?_⟩
          have n0_ := aM4_ (rB4_ q4x12_ hb)
          have n1_ := aM4_ (rB4_ q4x13_ hb)
          have n2_ := aM4_ (kB4_ (g := gb282) (o := .cells #[.int .i64 t279, .int .i64 t280] 25 (0, 0)) q4x5_ hb)
          have n3_ := aM4_ (kB4_ (g := gb286) (o := .cells #[.int .i64 t283, .int .i64 t284] 25 (0, 0)) q4x6_ hb)
          have n4_ := aM4_ (kB4_ (g := gb296) (o := .cells #[.int .i64 t293, .int .i64 t294] 25 (0, 0)) q4x8_ hb)
          have n5_ := aM4_ (below_step q4x2_ hb)
          clear HO_21 HO_23 BK282 BK286 BK296 HB
          have HO_21 := n0_
          have HO_23 := n1_
          have BK282 := n2_
          have BK286 := n3_
          have BK296 := n4_
          have HB := n5_
          clear n0_ n1_ n2_ n3_ n4_ n5_
          (try clear hb)
          (try clear hb2)
          (try clear hk)
          (try clear hi)
          refine hK.out _ _ ⟨(kC4_ BK286.out 0).trans rfl, (kC4_ BK286.out 1).trans rfl, HS2_, HS3_⟩ (fun hHeld => ?_)
          clear hK K
          refine norm_ (a' := ?_) ?_ ?_
          rotate_left
          ·exact q4x27_
          refine pure_ (i := 6) (N := some 168) (v := ?_) (a' := ?_) #[true, true, true, true, true, true, true, false, false, false, false] rfl rfl (any_of HT_.out (by kernel_rfl)) (fun _ _ _ h => h) (Or.inl ⟨by rfl, ?_⟩) ?_ ?_
          rotate_left
          ·exact q4x24_
          rotate_left
          ·exact q4x25_
          refine pure_ (i := 7) (N := some 175) (v := ?_) (a' := ?_) #[true, true, true, true, true, true, true, true, false, false, false] rfl rfl (any_of HT_.out (by kernel_rfl)) (fun _ _ _ h => h) (Or.inl ⟨by rfl, ?_⟩) ?_ ?_
          rotate_left
          ·exact q4x24_
          rotate_left
          ·exact q4x25_
          refine pure_ (i := 8) (N := some 176) (v := ?_) (a' := ?_) #[true, true, true, true, true, true, true, true, true, false, false] rfl rfl (any_of HT_.out (by kernel_rfl)) (fun _ _ _ h => h) (Or.inl ⟨by rfl, ?_⟩) ?_ ?_
          rotate_left
          ·exact q4x24_
          rotate_left
          ·exact q4x25_
          refine pure_ (i := 9) (N := some 26) (v := ?_) (a' := ?_) #[true, true, true, true, true, true, true, true, true, true, false] rfl rfl (any_of HT_.out (by kernel_rfl)) (fun _ _ _ h => h) (Or.inl ⟨by rfl, ?_⟩) ?_ ?_
          rotate_left
          ·exact q4x24_
          rotate_left
          ·exact q4x25_
          refine pure_ (i := 10) (N := some 27) (v := ?_) (a' := ?_) #[true, true, true, true, true, true, true, true, true, true, true] rfl rfl (any_of HT_.out (by kernel_rfl)) (fun _ _ _ h => h) (Or.inl ⟨by rfl, ?_⟩) ?_ ?_
          rotate_left
          ·exact q4x24_
          rotate_left
          ·exact q4x25_
          refine done_ (done_of HT_.out (by kernel_rfl)) ?_
          try go_wp2
          go_ret
          exact ⟨by first | rfl | (simp [errW_none, errW_some] <;> rfl) | (simp [*, errW_none, errW_some] <;> rfl), by repeat (first | (with_reducible first | exact HB.out | apply bA4_ | apply bN4_ | apply bD4_ | refine bS4_ ?_ GE282.out | refine bS4_ ?_ GE286.out | refine bS4_ ?_ GE296.out) | exact HB.out)⟩
         rw [if_neg c91] at H
         have c91b0 : decide (0 < t314) = false := decide_eq_false c91
         clear c91
         by_cases c97 : (Int.tmod x25_4 2) = 1
         rotate_left
         ·rw [if_neg c97] at H
          have c97b0 : ((Int.tmod x25_4 2) == 1) = false := beq_eq_false_iff_ne.mpr c97
          have c97b1 : ((Int.tmod x25_4 2) != 1) = true := bne_iff_ne.mpr c97
          have H' := aM4_ H
          clear H
          obtain ⟨Ao109, co109, eo109⟩ := Kd.R_slice HO_23.out
          subst eo109
          try go_wp2
          have n0_ := aM4_ (rD4_ HO_21.out)
          have n1_ := aM4_ (rD4_ HO_23.out)
          have n2_ := aM4_ (kD4_ BK282.out)
          have n3_ := aM4_ (kD4_ BK286.out)
          have n4_ := aM4_ (kD4_ BK296.out)
          have n5_ := aM4_ (bD4_ HB.out)
          clear HO_21 HO_23 BK282 BK286 BK296 HB
          have HO_21 := n0_
          have HO_23 := n1_
          have BK282 := n2_
          have BK286 := n3_
          have BK296 := n4_
          have HB := n5_
          clear n0_ n1_ n2_ n3_ n4_ n5_
          obtain ⟨Ao111, co111, eo111⟩ := Kd.R_slice HO_21.out
          (first | subst eo111 | (injection eo111 with f1_ f2_ f3_; have f4_ := f1_.symm; have f5_ := f3_.symm; clear f1_ f2_ f3_; subst f4_; subst f5_))
          have p311 : 0 ≤ (x25_4 : Int) := of_decide_eq_true q4x3_
          have q311 : x25_4 < (t302.length : Int) := of_decide_eq_true q4x3_
          obtain ⟨ad311, e311, hx311_0, hx311_1⟩ := at_T25 (Kd.R_reads' HO_21.out).2.2 x25_4 p311 q311
          cases e311
          replace p311 := eq_true p311
          replace q311 := eq_true q311
          have p312 : 0 ≤ (x25_4 : Int) := of_decide_eq_true q4x3_
          have q312 : x25_4 < (t306.length : Int) := of_decide_eq_true q4x3_
          obtain ⟨ad312, e312, hx312_0, hx312_1⟩ := at_T25 (Kd.R_reads' HO_23.out).2.2 x25_4 p312 q312
          cases e312
          replace p312 := eq_true p312
          replace q312 := eq_true q312
          refine start_ (n := 9) (S := fun w' => w'.cell? (ad311.add ((x25_4).toNat * 2)) = some (.int .i64 ((rd_T25 t302 x25_4).f0)) ∧ w'.cell? ⟨(ad311.add ((x25_4).toNat * 2)).block, (ad311.add ((x25_4).toNat * 2)).off + 1, none⟩ = some (.int .i64 ((rd_T25 t302 x25_4).f1)) ∧ w'.cell? (ad312.add ((x25_4).toNat * 2)) = some (.int .i64 ((rd_T25 t306 x25_4).f0)) ∧ w'.cell? ⟨(ad312.add ((x25_4).toNat * 2)).block, (ad312.add ((x25_4).toNat * 2)).off + 1, none⟩ = some (.int .i64 ((rd_T25 t306 x25_4).f1))) (ds := []) #[false, false, false, false, false, false, false, false, false] (by kernel_rfl) rfl rfl ⟨hx311_0, hx311_1, hx312_0, hx312_1⟩ (fun hHeld => ?_); refine with_tabW laws_FnTerms.tab23 laws_FnTerms.bits23 (fun HT_ HW_ => ?_)
          generalize wr.drew = w110 at HO_21 HO_23 BK282 BK286 BK296 HB hx311_0 hx311_1 hx312_0 hx312_1 hHeld ⊢
          refine pure_ (i := 0) (N := some 159) (v := ?_) (a' := ?_) #[true, false, false, false, false, false, false, false, false] rfl rfl (any_of HT_.out (by kernel_rfl)) (fun _ _ _ h => h) (Or.inl ⟨by rfl, ?_⟩) ?_ ?_
          rotate_left
          ·exact q4x24_
          rotate_left
          ·exact q4x25_
          refine pure_ (i := 1) (N := some 160) (v := ?_) (a' := ?_) #[true, true, false, false, false, false, false, false, false] rfl rfl (any_of HT_.out (by kernel_rfl)) (fun _ _ _ h => h) (Or.inl ⟨by rfl, ?_⟩) ?_ ?_
          rotate_left
          ·exact q4x24_
          rotate_left
          ·exact q4x25_
          refine pure_ (i := 2) (N := some 161) (v := ?_) (a' := ?_) #[true, true, true, false, false, false, false, false, false] rfl rfl (any_of HT_.out (by kernel_rfl)) (fun _ _ _ h => h) (Or.inl ⟨by rfl, ?_⟩) ?_ ?_
          rotate_left
          ·exact q4x24_
          rotate_left
          ·exact q4x25_
          refine pure_ (i := 4) (N := some 163) (v := ?_) (a' := ?_) #[true, true, true, false, true, false, false, false, false] rfl rfl (any_of HT_.out (by kernel_rfl)) (fun _ _ _ h => h) (Or.inl ⟨by rfl, ?_⟩) ?_ ?_
          rotate_left
          ·exact q4x24_
          rotate_left
          ·exact q4x25_
          refine pure_ (i := 5) (N := some 164) (v := ?_) (a' := ?_) #[true, true, true, false, true, true, false, false, false] rfl rfl (any_of HT_.out (by kernel_rfl)) (fun _ _ _ h => h) (Or.inl ⟨by rfl, ?_⟩) ?_ ?_
          rotate_left
          ·exact q4x24_
          rotate_left
          ·exact q4x25_
          refine pure_ (i := 6) (N := some 165) (v := ?_) (a' := ?_) #[true, true, true, false, true, true, true, false, false] rfl rfl (any_of HT_.out (by kernel_rfl)) (fun _ _ _ h => h) (Or.inl ⟨by rfl, ?_⟩) ?_ ?_
          rotate_left
          ·exact q4x24_
          rotate_left
          ·exact q4x25_
          refine take_ (i := 3) (N := some 162) (v := ?_) (a' := ?_) #[true, true, true, true, true, true, true, false, false] rfl rfl (take_ofW HT_.out HW_.out (by kernel_rfl)) (fun _ _ _ h => h) (Or.inl ⟨by rfl, ?_⟩) hHeld ?_ ?_
          rotate_left
          ·exact q4x26_
          rotate_left
          ·exact q4x25_
          refine take_ (i := 7) (N := some 166) (v := ?_) (a' := ?_) #[true, true, true, true, true, true, true, true, false] rfl rfl (take_ofW HT_.out HW_.out (by kernel_rfl)) (fun _ _ _ h => h) (Or.inl ⟨by rfl, ?_⟩) hHeld ?_ ?_
          rotate_left
          ·exact q4x26_
          rotate_left
          ·exact q4x25_
          refine pure_ (i := 8) (N := some 167) (v := ?_) (a' := ?_) #[true, true, true, true, true, true, true, true, true] rfl rfl (any_of HT_.out (by kernel_rfl)) (fun _ _ _ h => h) (Or.inl ⟨by rfl, ?_⟩) ?_ ?_
          rotate_left
          ·exact q4x24_
          rotate_left
          ·exact q4x25_
          refine done_ (done_of HT_.out (by kernel_rfl)) ?_
          try go_wp2
          have n0_ := aM4_ (rD4_ HO_21.out)
          have n1_ := aM4_ (rD4_ HO_23.out)
          have n2_ := aM4_ (kD4_ BK282.out)
          have n3_ := aM4_ (kD4_ BK286.out)
          have n4_ := aM4_ (kD4_ BK296.out)
          have n5_ := aM4_ (bD4_ HB.out)
          clear HO_21 HO_23 BK282 BK286 BK296 HB
          have HO_21 := n0_
          have HO_23 := n1_
          have BK282 := n2_
          have BK286 := n3_
          have BK296 := n4_
          have HB := n5_
          clear n0_ n1_ n2_ n3_ n4_ n5_
          have p313 : 0 ≤ (x25_4 : Int) := of_decide_eq_true q4x3_
          have q313 : x25_4 < (t306.length : Int) := of_decide_eq_true q4x3_
          obtain ⟨ad313, e313, hx313_0, hx313_1⟩ := at_T25 (Kd.R_reads' HO_23.out).2.2 x25_4 p313 q313
          obtain rfl : ad312 = ad313 := (by injection e313)
          replace p313 := eq_true p313
          replace q313 := eq_true q313
          refine start_ (n := 11) (S := fun w' => w'.cell? ⟨gb286, 0, none⟩ = some (.int .i64 t283) ∧ w'.cell? ⟨gb286, 1, none⟩ = some (.int .i64 t284) ∧ w'.cell? (ad312.add ((x25_4).toNat * 2)) = some (.int .i64 ((rd_T25 t306 x25_4).f0)) ∧ w'.cell? ⟨(ad312.add ((x25_4).toNat * 2)).block, (ad312.add ((x25_4).toNat * 2)).off + 1, none⟩ = some (.int .i64 ((rd_T25 t306 x25_4).f1))) (ds := []) #[false, false, false, false, false, false, false, false, false, false, false] (by kernel_rfl) rfl rfl ⟨(kC4_ BK286.out 0).trans rfl, (kC4_ BK286.out 1).trans rfl, hx313_0, hx313_1⟩ (fun hHeld => ?_); refine with_tabW laws_FnTerms.tab25 laws_FnTerms.bits25 (fun HT_ HW_ => ?_)
          generalize w110.drew = w112 at HO_21 HO_23 BK282 BK286 BK296 HB hx313_0 hx313_1 hHeld ⊢
          refine pure_ (i := 0) (N := some 169) (v := ?_) (a' := ?_) #[true, false, false, false, false, false, false, false, false, false, false] rfl rfl (any_of HT_.out (by kernel_rfl)) (fun _ _ _ h => h) (Or.inl ⟨by rfl, ?_⟩) ?_ ?_
          rotate_left
          ·exact q4x24_
          rotate_left
          ·exact q4x25_
          refine pure_ (i := 1) (N := some 170) (v := ?_) (a' := ?_) #[true, true, false, false, false, false, false, false, false, false, false] rfl rfl (any_of HT_.out (by kernel_rfl)) (fun _ _ _ h => h) (Or.inl ⟨by rfl, ?_⟩) ?_ ?_
          rotate_left
          ·exact q4x24_
          rotate_left
          ·exact q4x25_
          refine pure_ (i := 2) (N := some 171) (v := ?_) (a' := ?_) #[true, true, true, false, false, false, false, false, false, false, false] rfl rfl (any_of HT_.out (by kernel_rfl)) (fun _ _ _ h => h) (Or.inl ⟨by rfl, ?_⟩) ?_ ?_
          rotate_left
          ·exact q4x24_
          rotate_left
          ·exact q4x25_
          refine take_ (i := 3) (N := some 172) (v := ?_) (a' := ?_) #[true, true, true, true, false, false, false, false, false, false, false] rfl rfl (take_ofW HT_.out HW_.out (by kernel_rfl)) (fun _ _ _ h => h) (Or.inl ⟨by rfl, ?_⟩) hHeld ?_ ?_
          rotate_left
          ·exact q4x26_
          rotate_left
          ·exact q4x25_
          refine take_ (i := 4) (N := some 173) (v := ?_) (a' := ?_) #[true, true, true, true, true, false, false, false, false, false, false] rfl rfl (take_ofW HT_.out HW_.out (by kernel_rfl)) (fun _ _ _ h => h) (Or.inl ⟨by rfl, ?_⟩) hHeld ?_ ?_
          rotate_left
          ·exact q4x26_
          rotate_left
          ·exact q4x25_
          refine one_ (i := 5) (N := some 174) #[true, true, true, true, true, true, false, false, false, false, false] rfl rfl (one_of HT_.out (by kernel_rfl)) (by decide) (fun K hK => ?_)
          refine goes_ Tryd.func12 (by kernel_rfl) rfl #[.agg #[.int .i64 ((rd_T25 t306 x25_4).f0), .int .i64 ((rd_T25 t306 x25_4).f1)], .agg #[.int .i64 t283, .int .i64 t284]] (by rfl) rfl rfl q4x1_ ?_
          with_reducible refine (impl_CompareRatios.calls k4 ((rd_T25 t306 x25_4).f0) ((rd_T25 t306 x25_4).f1) t283 t284 t314 t315 _ A87.out).mono ?_
          rintro e w113 ⟨rfl, hb⟩
          have HS2_ := (hb.cell (World.block_lt_of_cell? _ _ (hHeld.2.2.1))).trans (hHeld.2.2.1)
          have HS3_ := (hb.cell (World.block_lt_of_cell? _ _ (hHeld.2.2.2))).trans (hHeld.2.2.2)
          refine ⟨_, rfl, ?_⟩
          have n0_ := aM4_ (rB4_ q4x12_ hb)
          have n1_ := aM4_ (rB4_ q4x13_ hb)
          have n2_ := aM4_ (kB4_ (g := gb282) (o := .cells #[.int .i64 t279, .int .i64 t280] 25 (0, 0)) q4x5_ hb)
          have n3_ := aM4_ (kB4_ (g := gb286) (o := .cells #[.int .i64 t283, .int .i64 t284] 25 (0, 0)) q4x6_ hb)
          have n4_ := aM4_ (kB4_ (g := gb296) (o := .cells #[.int .i64 t293, .int .i64 t294] 25 (0, 0)) q4x8_ hb)
          have n5_ := aM4_ (below_step q4x2_ hb)
          clear HO_21 HO_23 BK282 BK286 BK296 HB
          have HO_21 := n0_
          have HO_23 := n1_
          have BK282 := n2_
          have BK286 := n3_
          have BK296 := n4_
          have HB := n5_
          clear n0_ n1_ n2_ n3_ n4_ n5_
          (try clear hb)
          (try clear hb2)
          (try clear hk)
          (try clear hi)
          refine hK.out _ _ ⟨(kC4_ BK286.out 0).trans rfl, (kC4_ BK286.out 1).trans rfl, HS2_, HS3_⟩ (fun hHeld => ?_)
          clear hK K
          refine norm_ (a' := ?_) ?_ ?_
          rotate_left
          ·exact q4x27_
          refine pure_ (i := 6) (N := some 168) (v := ?_) (a' := ?_) #[true, true, true, true, true, true, true, false, false, false, false] rfl rfl (any_of HT_.out (by kernel_rfl)) (fun _ _ _ h => h) (Or.inl ⟨by rfl, ?_⟩) ?_ ?_
          rotate_left
          ·exact q4x24_
          rotate_left
          ·exact q4x25_
          refine pure_ (i := 7) (N := some 175) (v := ?_) (a' := ?_) #[true, true, true, true, true, true, true, true, false, false, false] rfl rfl (any_of HT_.out (by kernel_rfl)) (fun _ _ _ h => h) (Or.inl ⟨by rfl, ?_⟩) ?_ ?_
          rotate_left
          ·exact q4x24_
          rotate_left
          ·exact q4x25_
          refine pure_ (i := 8) (N := some 176) (v := ?_) (a' := ?_) #[true, true, true, true, true, true, true, true, true, false, false] rfl rfl (any_of HT_.out (by kernel_rfl)) (fun _ _ _ h => h) (Or.inl ⟨by rfl, ?_⟩) ?_ ?_
          rotate_left
          ·exact q4x24_
          rotate_left
          ·exact q4x25_
          refine pure_ (i := 9) (N := some 26) (v := ?_) (a' := ?_) #[true, true, true, true, true, true, true, true, true, true, false] rfl rfl (any_of HT_.out (by kernel_rfl)) (fun _ _ _ h => h) (Or.inl ⟨by rfl, ?_⟩) ?_ ?_
          rotate_left
          ·exact q4x24_
          rotate_left
          ·exact q4x25_
          refine pure_ (i := 10) (N := some 27) (v := ?_) (a' := ?_) #[true, true, true, true, true, true, true, true, true, true, true] rfl rfl (any_of HT_.out (by kernel_rfl)) (fun _ _ _ h => h) (Or.inl ⟨by rfl, ?_⟩) ?_ ?_
          rotate_left
          ·exact q4x24_
          rotate_left
          ·exact q4x25_
          refine done_ (done_of HT_.out (by kernel_rfl)) ?_
          try go_wp2
          go_roundg k4
          case measure => have := HJ10.out; have := HJ43.out; have := HJ69.out; have := HK4.out; omega
          case rel => exact ⟨(wrap64 (x25_4 + 1)), q4x11_, H', ⟨by have := HJ10.out; have := HJ43.out; have := HJ69.out; have := HK4.out; omega⟩, ⟨by (with_reducible repeat (first | apply rA4_ | apply rN4_ | apply rD4_)); exact HO_21.out⟩, ⟨by (with_reducible repeat (first | apply rA4_ | apply rN4_ | apply rD4_)); exact HO_23.out⟩, ⟨by (with_reducible repeat (first | refine kN4_ ?_ _ | refine kD4_ ?_ | refine kA4_ ?_ _)); exact BK282.out⟩, ⟨by (with_reducible repeat (first | refine kN4_ ?_ _ | refine kD4_ ?_ | refine kA4_ ?_ _)); exact BK286.out⟩, ⟨by (with_reducible repeat (first | refine kN4_ ?_ _ | refine kD4_ ?_ | refine kA4_ ?_ _)); exact BK296.out⟩, ⟨by repeat (first | (with_reducible first | exact HB.out | apply bA4_ | apply bN4_ | apply bD4_ | refine bS4_ ?_ GE282.out | refine bS4_ ?_ GE286.out | refine bS4_ ?_ GE296.out) | exact HB.out)⟩⟩
         rw [if_pos c97] at H
         have c97b0 : ((Int.tmod x25_4 2) == 1) = true := beq_iff_eq.mpr c97
         have c97b1 : ((Int.tmod x25_4 2) != 1) = false := bne_eq_false_iff_eq.mpr c97
         clear c97
         by_cases c98 : t314 < 0
         ·rw [if_pos c98] at H
          have c98b0 : decide (t314 < 0) = true := decide_eq_true c98
          clear c98
          obtain rfl := Option.some.inj H
          obtain ⟨Ao99, co99, eo99⟩ := Kd.R_slice HO_23.out
          subst eo99
          try go_wp2
          have n0_ := aM4_ (rD4_ HO_21.out)
          have n1_ := aM4_ (rD4_ HO_23.out)
          have n2_ := aM4_ (kD4_ BK282.out)
          have n3_ := aM4_ (kD4_ BK286.out)
          have n4_ := aM4_ (kD4_ BK296.out)
          have n5_ := aM4_ (bD4_ HB.out)
          clear HO_21 HO_23 BK282 BK286 BK296 HB
          have HO_21 := n0_
          have HO_23 := n1_
          have BK282 := n2_
          have BK286 := n3_
          have BK296 := n4_
          have HB := n5_
          clear n0_ n1_ n2_ n3_ n4_ n5_
          obtain ⟨Ao101, co101, eo101⟩ := Kd.R_slice HO_21.out
          (first | subst eo101 | (injection eo101 with f1_ f2_ f3_; have f4_ := f1_.symm; have f5_ := f3_.symm; clear f1_ f2_ f3_; subst f4_; subst f5_))
          have p311 : 0 ≤ (x25_4 : Int) := of_decide_eq_true q4x3_
          have q311 : x25_4 < (t302.length : Int) := of_decide_eq_true q4x3_
          obtain ⟨ad311, e311, hx311_0, hx311_1⟩ := at_T25 (Kd.R_reads' HO_21.out).2.2 x25_4 p311 q311
          cases e311
          replace p311 := eq_true p311
          replace q311 := eq_true q311
          have p312 : 0 ≤ (x25_4 : Int) := of_decide_eq_true q4x3_
          have q312 : x25_4 < (t306.length : Int) := of_decide_eq_true q4x3_
          obtain ⟨ad312, e312, hx312_0, hx312_1⟩ := at_T25 (Kd.R_reads' HO_23.out).2.2 x25_4 p312 q312
          cases e312
          replace p312 := eq_true p312
          replace q312 := eq_true q312
          refine start_ (n := 9) (S := fun w' => w'.cell? (ad311.add ((x25_4).toNat * 2)) = some (.int .i64 ((rd_T25 t302 x25_4).f0)) ∧ w'.cell? ⟨(ad311.add ((x25_4).toNat * 2)).block, (ad311.add ((x25_4).toNat * 2)).off + 1, none⟩ = some (.int .i64 ((rd_T25 t302 x25_4).f1)) ∧ w'.cell? (ad312.add ((x25_4).toNat * 2)) = some (.int .i64 ((rd_T25 t306 x25_4).f0)) ∧ w'.cell? ⟨(ad312.add ((x25_4).toNat * 2)).block, (ad312.add ((x25_4).toNat * 2)).off + 1, none⟩ = some (.int .i64 ((rd_T25 t306 x25_4).f1))) (ds := []) #[false, false, false, false, false, false, false, false, false] (by kernel_rfl) rfl rfl ⟨hx311_0, hx311_1, hx312_0, hx312_1⟩ (fun hHeld => ?_); refine with_tabW laws_FnTerms.tab23 laws_FnTerms.bits23 (fun HT_ HW_ => ?_)
          generalize wr.drew = w100 at HO_21 HO_23 BK282 BK286 BK296 HB hx311_0 hx311_1 hx312_0 hx312_1 hHeld ⊢
          refine pure_ (i := 0) (N := some 159) (v := ?_) (a' := ?_) #[true, false, false, false, false, false, false, false, false] rfl rfl (any_of HT_.out (by kernel_rfl)) (fun _ _ _ h => h) (Or.inl ⟨by rfl, ?_⟩) ?_ ?_
          rotate_left
          ·exact q4x24_
          rotate_left
          ·exact q4x25_
          refine pure_ (i := 1) (N := some 160) (v := ?_) (a' := ?_) #[true, true, false, false, false, false, false, false, false] rfl rfl (any_of HT_.out (by kernel_rfl)) (fun _ _ _ h => h) (Or.inl ⟨by rfl, ?_⟩) ?_ ?_
          rotate_left
          ·exact q4x24_
          rotate_left
          ·exact q4x25_
          refine pure_ (i := 2) (N := some 161) (v := ?_) (a' := ?_) #[true, true, true, false, false, false, false, false, false] rfl rfl (any_of HT_.out (by kernel_rfl)) (fun _ _ _ h => h) (Or.inl ⟨by rfl, ?_⟩) ?_ ?_
          rotate_left
          ·exact q4x24_
          rotate_left
          ·exact q4x25_
          refine pure_ (i := 4) (N := some 163) (v := ?_) (a' := ?_) #[true, true, true, false, true, false, false, false, false] rfl rfl (any_of HT_.out (by kernel_rfl)) (fun _ _ _ h => h) (Or.inl ⟨by rfl, ?_⟩) ?_ ?_
          rotate_left
          ·exact q4x24_
          rotate_left
          ·exact q4x25_
          refine pure_ (i := 5) (N := some 164) (v := ?_) (a' := ?_) #[true, true, true, false, true, true, false, false, false] rfl rfl (any_of HT_.out (by kernel_rfl)) (fun _ _ _ h => h) (Or.inl ⟨by rfl, ?_⟩) ?_ ?_
          rotate_left
          ·exact q4x24_
          rotate_left
          ·exact q4x25_
          refine pure_ (i := 6) (N := some 165) (v := ?_) (a' := ?_) #[true, true, true, false, true, true, true, false, false] rfl rfl (any_of HT_.out (by kernel_rfl)) (fun _ _ _ h => h) (Or.inl ⟨by rfl, ?_⟩) ?_ ?_
          rotate_left
          ·exact q4x24_
          rotate_left
          ·exact q4x25_
          refine take_ (i := 3) (N := some 162) (v := ?_) (a' := ?_) #[true, true, true, true, true, true, true, false, false] rfl rfl (take_ofW HT_.out HW_.out (by kernel_rfl)) (fun _ _ _ h => h) (Or.inl ⟨by rfl, ?_⟩) hHeld ?_ ?_
          rotate_left
          ·exact q4x26_
          rotate_left
          ·exact q4x25_
          refine take_ (i := 7) (N := some 166) (v := ?_) (a' := ?_) #[true, true, true, true, true, true, true, true, false] rfl rfl (take_ofW HT_.out HW_.out (by kernel_rfl)) (fun _ _ _ h => h) (Or.inl ⟨by rfl, ?_⟩) hHeld ?_ ?_
          rotate_left
          ·exact q4x26_
          rotate_left
          ·exact q4x25_
          refine pure_ (i := 8) (N := some 167) (v := ?_) (a' := ?_) #[true, true, true, true, true, true, true, true, true] rfl rfl (any_of HT_.out (by kernel_rfl)) (fun _ _ _ h => h) (Or.inl ⟨by rfl, ?_⟩) ?_ ?_
          rotate_left
          ·exact q4x24_
          rotate_left
          ·exact q4x25_
          refine done_ (done_of HT_.out (by kernel_rfl)) ?_
          try go_wp2
          have n0_ := aM4_ (rD4_ HO_21.out)
          have n1_ := aM4_ (rD4_ HO_23.out)
          have n2_ := aM4_ (kD4_ BK282.out)
          have n3_ := aM4_ (kD4_ BK286.out)
          have n4_ := aM4_ (kD4_ BK296.out)
          have n5_ := aM4_ (bD4_ HB.out)
          clear HO_21 HO_23 BK282 BK286 BK296 HB
          have HO_21 := n0_
          have HO_23 := n1_
          have BK282 := n2_
          have BK286 := n3_
          have BK296 := n4_
          have HB := n5_
          clear n0_ n1_ n2_ n3_ n4_ n5_
          have p313 : 0 ≤ (x25_4 : Int) := of_decide_eq_true q4x3_
          have q313 : x25_4 < (t306.length : Int) := of_decide_eq_true q4x3_
          obtain ⟨ad313, e313, hx313_0, hx313_1⟩ := at_T25 (Kd.R_reads' HO_23.out).2.2 x25_4 p313 q313
          obtain rfl : ad312 = ad313 := (by injection e313)
          replace p313 := eq_true p313
          replace q313 := eq_true q313
          refine start_ (n := 11) (S := fun w' => w'.cell? ⟨gb286, 0, none⟩ = some (.int .i64 t283) ∧ w'.cell? ⟨gb286, 1, none⟩ = some (.int .i64 t284) ∧ w'.cell? (ad312.add ((x25_4).toNat * 2)) = some (.int .i64 ((rd_T25 t306 x25_4).f0)) ∧ w'.cell? ⟨(ad312.add ((x25_4).toNat * 2)).block, (ad312.add ((x25_4).toNat * 2)).off + 1, none⟩ = some (.int .i64 ((rd_T25 t306 x25_4).f1))) (ds := []) #[false, false, false, false, false, false, false, false, false, false, false] (by kernel_rfl) rfl rfl ⟨(kC4_ BK286.out 0).trans rfl, (kC4_ BK286.out 1).trans rfl, hx313_0, hx313_1⟩ (fun hHeld => ?_); refine with_tabW laws_FnTerms.tab25 laws_FnTerms.bits25 (fun HT_ HW_ => ?_)
          generalize w100.drew = w102 at HO_21 HO_23 BK282 BK286 BK296 HB hx313_0 hx313_1 hHeld ⊢
          refine pure_ (i := 0) (N := some 169) (v := ?_) (a' := ?_) #[true, false, false, false, false, false, false, false, false, false, false] rfl rfl (any_of HT_.out (by kernel_rfl)) (fun _ _ _ h => h) (Or.inl ⟨by rfl, ?_⟩) ?_ ?_
          rotate_left
          ·exact q4x24_
          rotate_left
          ·exact q4x25_
          refine pure_ (i := 1) (N := some 170) (v := ?_) (a' := ?_) #[true, true, false, false, false, false, false, false, false, false, false] rfl rfl (any_of HT_.out (by kernel_rfl)) (fun _ _ _ h => h) (Or.inl ⟨by rfl, ?_⟩) ?_ ?_
          rotate_left
          ·exact q4x24_
          rotate_left
          ·exact q4x25_
          refine pure_ (i := 2) (N := some 171) (v := ?_) (a' := ?_) #[true, true, true, false, false, false, false, false, false, false, false] rfl rfl (any_of HT_.out (by kernel_rfl)) (fun _ _ _ h => h) (Or.inl ⟨by rfl, ?_⟩) ?_ ?_
          rotate_left
          ·exact q4x24_
          rotate_left
          ·exact q4x25_
          refine take_ (i := 3) (N := some 172) (v := ?_) (a' := ?_) #[true, true, true, true, false, false, false, false, false, false, false] rfl rfl (take_ofW HT_.out HW_.out (by kernel_rfl)) (fun _ _ _ h => h) (Or.inl ⟨by rfl, ?_⟩) hHeld ?_ ?_
          rotate_left
          ·exact q4x26_
          rotate_left
          ·exact q4x25_
          refine take_ (i := 4) (N := some 173) (v := ?_) (a' := ?_) #[true, true, true, true, true, false, false, false, false, false, false] rfl rfl (take_ofW HT_.out HW_.out (by kernel_rfl)) (fun _ _ _ h => h) (Or.inl ⟨by rfl, ?_⟩) hHeld ?_ ?_
          rotate_left
          ·exact q4x26_
          rotate_left
          ·exact q4x25_
          refine one_ (i := 5) (N := some 174) #[true, true, true, true, true, true, false, false, false, false, false] rfl rfl (one_of HT_.out (by kernel_rfl)) (by decide) (fun K hK => ?_)
          refine goes_ Tryd.func12 (by kernel_rfl) rfl #[.agg #[.int .i64 ((rd_T25 t306 x25_4).f0), .int .i64 ((rd_T25 t306 x25_4).f1)], .agg #[.int .i64 t283, .int .i64 t284]] (by rfl) rfl rfl q4x1_ ?_
          with_reducible refine (impl_CompareRatios.calls k4 ((rd_T25 t306 x25_4).f0) ((rd_T25 t306 x25_4).f1) t283 t284 t314 t315 _ A87.out).mono ?_
          rintro e w103 ⟨rfl, hb⟩
          have HS2_ := (hb.cell (World.block_lt_of_cell? _ _ (hHeld.2.2.1))).trans (hHeld.2.2.1)
          have HS3_ := (hb.cell (World.block_lt_of_cell? _ _ (hHeld.2.2.2))).trans (hHeld.2.2.2)
          refine ⟨_, rfl, ?_⟩
          have n0_ := aM4_ (rB4_ q4x12_ hb)
          have n1_ := aM4_ (rB4_ q4x13_ hb)
          have n2_ := aM4_ (kB4_ (g := gb282) (o := .cells #[.int .i64 t279, .int .i64 t280] 25 (0, 0)) q4x5_ hb)
          have n3_ := aM4_ (kB4_ (g := gb286) (o := .cells #[.int .i64 t283, .int .i64 t284] 25 (0, 0)) q4x6_ hb)
          have n4_ := aM4_ (kB4_ (g := gb296) (o := .cells #[.int .i64 t293, .int .i64 t294] 25 (0, 0)) q4x8_ hb)
          have n5_ := aM4_ (below_step q4x2_ hb)
          clear HO_21 HO_23 BK282 BK286 BK296 HB
          have HO_21 := n0_
          have HO_23 := n1_
          have BK282 := n2_
          have BK286 := n3_
          have BK296 := n4_
          have HB := n5_
          clear n0_ n1_ n2_ n3_ n4_ n5_
          (try clear hb)
          (try clear hb2)
          (try clear hk)
          (try clear hi)
          refine hK.out _ _ ⟨(kC4_ BK286.out 0).trans rfl, (kC4_ BK286.out 1).trans rfl, HS2_, HS3_⟩ (fun hHeld => ?_)
          clear hK K
          refine norm_ (a' := ?_) ?_ ?_
          rotate_left
          ·exact q4x27_
          refine pure_ (i := 6) (N := some 168) (v := ?_) (a' := ?_) #[true, true, true, true, true, true, true, false, false, false, false] rfl rfl (any_of HT_.out (by kernel_rfl)) (fun _ _ _ h => h) (Or.inl ⟨by rfl, ?_⟩) ?_ ?_
          rotate_left
          ·exact q4x24_
          rotate_left
          ·exact q4x25_
          refine pure_ (i := 7) (N := some 175) (v := ?_) (a' := ?_) #[true, true, true, true, true, true, true, true, false, false, false] rfl rfl (any_of HT_.out (by kernel_rfl)) (fun _ _ _ h => h) (Or.inl ⟨by rfl, ?_⟩) ?_ ?_
          rotate_left
          ·exact q4x24_
          rotate_left
          ·exact q4x25_
          refine pure_ (i := 8) (N := some 176) (v := ?_) (a' := ?_) #[true, true, true, true, true, true, true, true, true, false, false] rfl rfl (any_of HT_.out (by kernel_rfl)) (fun _ _ _ h => h) (Or.inl ⟨by rfl, ?_⟩) ?_ ?_
          rotate_left
          ·exact q4x24_
          rotate_left
          ·exact q4x25_
          refine pure_ (i := 9) (N := some 26) (v := ?_) (a' := ?_) #[true, true, true, true, true, true, true, true, true, true, false] rfl rfl (any_of HT_.out (by kernel_rfl)) (fun _ _ _ h => h) (Or.inl ⟨by rfl, ?_⟩) ?_ ?_
          rotate_left
          ·exact q4x24_
          rotate_left
          ·exact q4x25_
          refine pure_ (i := 10) (N := some 27) (v := ?_) (a' := ?_) #[true, true, true, true, true, true, true, true, true, true, true] rfl rfl (any_of HT_.out (by kernel_rfl)) (fun _ _ _ h => h) (Or.inl ⟨by rfl, ?_⟩) ?_ ?_
          rotate_left
          ·exact q4x24_
          rotate_left
          ·exact q4x25_
          refine done_ (done_of HT_.out (by kernel_rfl)) ?_
          try go_wp2
          go_ret
          exact ⟨by first | rfl | (simp [errW_none, errW_some] <;> rfl) | (simp [*, errW_none, errW_some] <;> rfl), by repeat (first | (with_reducible first | exact HB.out | apply bA4_ | apply bN4_ | apply bD4_ | refine bS4_ ?_ GE282.out | refine bS4_ ?_ GE286.out | refine bS4_ ?_ GE296.out) | exact HB.out)⟩
         rw [if_neg c98] at H
         have c98b0 : decide (t314 < 0) = false := decide_eq_false c98
         clear c98
         have H' := aM4_ H
         clear H
         obtain ⟨Ao104, co104, eo104⟩ := Kd.R_slice HO_23.out
         subst eo104
         try go_wp2
         have n0_ := aM4_ (rD4_ HO_21.out)
         have n1_ := aM4_ (rD4_ HO_23.out)
         have n2_ := aM4_ (kD4_ BK282.out)
         have n3_ := aM4_ (kD4_ BK286.out)
         have n4_ := aM4_ (kD4_ BK296.out)
         have n5_ := aM4_ (bD4_ HB.out)
         clear HO_21 HO_23 BK282 BK286 BK296 HB
         have HO_21 := n0_
         have HO_23 := n1_
         have BK282 := n2_
         have BK286 := n3_
         have BK296 := n4_
         have HB := n5_
         clear n0_ n1_ n2_ n3_ n4_ n5_
         obtain ⟨Ao106, co106, eo106⟩ := Kd.R_slice HO_21.out
         (first | subst eo106 | (injection eo106 with f1_ f2_ f3_; have f4_ := f1_.symm; have f5_ := f3_.symm; clear f1_ f2_ f3_; subst f4_; subst f5_))
         have p311 : 0 ≤ (x25_4 : Int) := of_decide_eq_true q4x3_
         have q311 : x25_4 < (t302.length : Int) := of_decide_eq_true q4x3_
         obtain ⟨ad311, e311, hx311_0, hx311_1⟩ := at_T25 (Kd.R_reads' HO_21.out).2.2 x25_4 p311 q311
         cases e311
         replace p311 := eq_true p311
         replace q311 := eq_true q311
         have p312 : 0 ≤ (x25_4 : Int) := of_decide_eq_true q4x3_
         have q312 : x25_4 < (t306.length : Int) := of_decide_eq_true q4x3_
         obtain ⟨ad312, e312, hx312_0, hx312_1⟩ := at_T25 (Kd.R_reads' HO_23.out).2.2 x25_4 p312 q312
         cases e312
         replace p312 := eq_true p312
         replace q312 := eq_true q312
         refine start_ (n := 9) (S := fun w' => w'.cell? (ad311.add ((x25_4).toNat * 2)) = some (.int .i64 ((rd_T25 t302 x25_4).f0)) ∧ w'.cell? ⟨(ad311.add ((x25_4).toNat * 2)).block, (ad311.add ((x25_4).toNat * 2)).off + 1, none⟩ = some (.int .i64 ((rd_T25 t302 x25_4).f1)) ∧ w'.cell? (ad312.add ((x25_4).toNat * 2)) = some (.int .i64 ((rd_T25 t306 x25_4).f0)) ∧ w'.cell? ⟨(ad312.add ((x25_4).toNat * 2)).block, (ad312.add ((x25_4).toNat * 2)).off + 1, none⟩ = some (.int .i64 ((rd_T25 t306 x25_4).f1))) (ds := []) #[false, false, false, false, false, false, false, false, false] (by kernel_rfl) rfl rfl ⟨hx311_0, hx311_1, hx312_0, hx312_1⟩ (fun hHeld => ?_); refine with_tabW laws_FnTerms.tab23 laws_FnTerms.bits23 (fun HT_ HW_ => ?_)
         generalize wr.drew = w105 at HO_21 HO_23 BK282 BK286 BK296 HB hx311_0 hx311_1 hx312_0 hx312_1 hHeld ⊢
         refine pure_ (i := 0) (N := some 159) (v := ?_) (a' := ?_) #[true, false, false, false, false, false, false, false, false] rfl rfl (any_of HT_.out (by kernel_rfl)) (fun _ _ _ h => h) (Or.inl ⟨by rfl, ?_⟩) ?_ ?_
         rotate_left
         ·exact q4x24_
         rotate_left
         ·exact q4x25_
         refine pure_ (i := 1) (N := some 160) (v := ?_) (a' := ?_) #[true, true, false, false, false, false, false, false, false] rfl rfl (any_of HT_.out (by kernel_rfl)) (fun _ _ _ h => h) (Or.inl ⟨by rfl, ?_⟩) ?_ ?_
         rotate_left
         ·exact q4x24_
         rotate_left
         ·exact q4x25_
         refine pure_ (i := 2) (N := some 161) (v := ?_) (a' := ?_) #[true, true, true, false, false, false, false, false, false] rfl rfl (any_of HT_.out (by kernel_rfl)) (fun _ _ _ h => h) (Or.inl ⟨by rfl, ?_⟩) ?_ ?_
         rotate_left
         ·exact q4x24_
         rotate_left
         ·exact q4x25_
         refine pure_ (i := 4) (N := some 163) (v := ?_) (a' := ?_) #[true, true, true, false, true, false, false, false, false] rfl rfl (any_of HT_.out (by kernel_rfl)) (fun _ _ _ h => h) (Or.inl ⟨by rfl, ?_⟩) ?_ ?_
         rotate_left
         ·exact q4x24_
         rotate_left
         ·exact q4x25_
         refine pure_ (i := 5) (N := some 164) (v := ?_) (a' := ?_) #[true, true, true, false, true, true, false, false, false] rfl rfl (any_of HT_.out (by kernel_rfl)) (fun _ _ _ h => h) (Or.inl ⟨by rfl, ?_⟩) ?_ ?_
         rotate_left
         ·exact q4x24_
         rotate_left
         ·exact q4x25_
         refine pure_ (i := 6) (N := some 165) (v := ?_) (a' := ?_) #[true, true, true, false, true, true, true, false, false] rfl rfl (any_of HT_.out (by kernel_rfl)) (fun _ _ _ h => h) (Or.inl ⟨by rfl, ?_⟩) ?_ ?_
         rotate_left
         ·exact q4x24_
         rotate_left
         ·exact q4x25_
         refine take_ (i := 3) (N := some 162) (v := ?_) (a' := ?_) #[true, true, true, true, true, true, true, false, false] rfl rfl (take_ofW HT_.out HW_.out (by kernel_rfl)) (fun _ _ _ h => h) (Or.inl ⟨by rfl, ?_⟩) hHeld ?_ ?_
         rotate_left
         ·exact q4x26_
         rotate_left
         ·exact q4x25_
         refine take_ (i := 7) (N := some 166) (v := ?_) (a' := ?_) #[true, true, true, true, true, true, true, true, false] rfl rfl (take_ofW HT_.out HW_.out (by kernel_rfl)) (fun _ _ _ h => h) (Or.inl ⟨by rfl, ?_⟩) hHeld ?_ ?_
         rotate_left
         ·exact q4x26_
         rotate_left
         ·exact q4x25_
         refine pure_ (i := 8) (N := some 167) (v := ?_) (a' := ?_) #[true, true, true, true, true, true, true, true, true] rfl rfl (any_of HT_.out (by kernel_rfl)) (fun _ _ _ h => h) (Or.inl ⟨by rfl, ?_⟩) ?_ ?_
         rotate_left
         ·exact q4x24_
         rotate_left
         ·exact q4x25_
         refine done_ (done_of HT_.out (by kernel_rfl)) ?_
         try go_wp2
         have n0_ := aM4_ (rD4_ HO_21.out)
         have n1_ := aM4_ (rD4_ HO_23.out)
         have n2_ := aM4_ (kD4_ BK282.out)
         have n3_ := aM4_ (kD4_ BK286.out)
         have n4_ := aM4_ (kD4_ BK296.out)
         have n5_ := aM4_ (bD4_ HB.out)
         clear HO_21 HO_23 BK282 BK286 BK296 HB
         have HO_21 := n0_
         have HO_23 := n1_
         have BK282 := n2_
         have BK286 := n3_
         have BK296 := n4_
         have HB := n5_
         clear n0_ n1_ n2_ n3_ n4_ n5_
         have p313 : 0 ≤ (x25_4 : Int) := of_decide_eq_true q4x3_
         have q313 : x25_4 < (t306.length : Int) := of_decide_eq_true q4x3_
         obtain ⟨ad313, e313, hx313_0, hx313_1⟩ := at_T25 (Kd.R_reads' HO_23.out).2.2 x25_4 p313 q313
         obtain rfl : ad312 = ad313 := (by injection e313)
         replace p313 := eq_true p313
         replace q313 := eq_true q313
         refine start_ (n := 11) (S := fun w' => w'.cell? ⟨gb286, 0, none⟩ = some (.int .i64 t283) ∧ w'.cell? ⟨gb286, 1, none⟩ = some (.int .i64 t284) ∧ w'.cell? (ad312.add ((x25_4).toNat * 2)) = some (.int .i64 ((rd_T25 t306 x25_4).f0)) ∧ w'.cell? ⟨(ad312.add ((x25_4).toNat * 2)).block, (ad312.add ((x25_4).toNat * 2)).off + 1, none⟩ = some (.int .i64 ((rd_T25 t306 x25_4).f1))) (ds := []) #[false, false, false, false, false, false, false, false, false, false, false] (by kernel_rfl) rfl rfl ⟨(kC4_ BK286.out 0).trans rfl, (kC4_ BK286.out 1).trans rfl, hx313_0, hx313_1⟩ (fun hHeld => ?_); refine with_tabW laws_FnTerms.tab25 laws_FnTerms.bits25 (fun HT_ HW_ => ?_)
         generalize w105.drew = w107 at HO_21 HO_23 BK282 BK286 BK296 HB hx313_0 hx313_1 hHeld ⊢
         refine pure_ (i := 0) (N := some 169) (v := ?_) (a' := ?_) #[true, false, false, false, false, false, false, false, false, false, false] rfl rfl (any_of HT_.out (by kernel_rfl)) (fun _ _ _ h => h) (Or.inl ⟨by rfl, ?_⟩) ?_ ?_
         rotate_left
         ·exact q4x24_
         rotate_left
         ·exact q4x25_
         refine pure_ (i := 1) (N := some 170) (v := ?_) (a' := ?_) #[true, true, false, false, false, false, false, false, false, false, false] rfl rfl (any_of HT_.out (by kernel_rfl)) (fun _ _ _ h => h) (Or.inl ⟨by rfl, ?_⟩) ?_ ?_
         rotate_left
         ·exact q4x24_
         rotate_left
         ·exact q4x25_
         refine pure_ (i := 2) (N := some 171) (v := ?_) (a' := ?_) #[true, true, true, false, false, false, false, false, false, false, false] rfl rfl (any_of HT_.out (by kernel_rfl)) (fun _ _ _ h => h) (Or.inl ⟨by rfl, ?_⟩) ?_ ?_
         rotate_left
         ·exact q4x24_
         rotate_left
         ·exact q4x25_
         refine take_ (i := 3) (N := some 172) (v := ?_) (a' := ?_) #[true, true, true, true, false, false, false, false, false, false, false] rfl rfl (take_ofW HT_.out HW_.out (by kernel_rfl)) (fun _ _ _ h => h) (Or.inl ⟨by rfl, ?_⟩) hHeld ?_ ?_
         rotate_left
         ·exact q4x26_
         rotate_left
         ·exact q4x25_
         refine take_ (i := 4) (N := some 173) (v := ?_) (a' := ?_) #[true, true, true, true, true, false, false, false, false, false, false] rfl rfl (take_ofW HT_.out HW_.out (by kernel_rfl)) (fun _ _ _ h => h) (Or.inl ⟨by rfl, ?_⟩) hHeld ?_ ?_
         rotate_left
         ·exact q4x26_
         rotate_left
         ·exact q4x25_
         refine one_ (i := 5) (N := some 174) #[true, true, true, true, true, true, false, false, false, false, false] rfl rfl (one_of HT_.out (by kernel_rfl)) (by decide) (fun K hK => ?_)
         refine goes_ Tryd.func12 (by kernel_rfl) rfl #[.agg #[.int .i64 ((rd_T25 t306 x25_4).f0), .int .i64 ((rd_T25 t306 x25_4).f1)], .agg #[.int .i64 t283, .int .i64 t284]] (by rfl) rfl rfl q4x1_ ?_
         with_reducible refine (impl_CompareRatios.calls k4 ((rd_T25 t306 x25_4).f0) ((rd_T25 t306 x25_4).f1) t283 t284 t314 t315 _ A87.out).mono ?_
         rintro e w108 ⟨rfl, hb⟩
         have HS2_ := (hb.cell (World.block_lt_of_cell? _ _ (hHeld.2.2.1))).trans (hHeld.2.2.1)
         have HS3_ := (hb.cell (World.block_lt_of_cell? _ _ (hHeld.2.2.2))).trans (hHeld.2.2.2)
         refine ⟨_, rfl, ?_⟩
         have n0_ := aM4_ (rB4_ q4x12_ hb)
         have n1_ := aM4_ (rB4_ q4x13_ hb)
         have n2_ := aM4_ (kB4_ (g := gb282) (o := .cells #[.int .i64 t279, .int .i64 t280] 25 (0, 0)) q4x5_ hb)
         have n3_ := aM4_ (kB4_ (g := gb286) (o := .cells #[.int .i64 t283, .int .i64 t284] 25 (0, 0)) q4x6_ hb)
         have n4_ := aM4_ (kB4_ (g := gb296) (o := .cells #[.int .i64 t293, .int .i64 t294] 25 (0, 0)) q4x8_ hb)
         have n5_ := aM4_ (below_step q4x2_ hb)
         clear HO_21 HO_23 BK282 BK286 BK296 HB
         have HO_21 := n0_
         have HO_23 := n1_
         have BK282 := n2_
         have BK286 := n3_
         have BK296 := n4_
         have HB := n5_
         clear n0_ n1_ n2_ n3_ n4_ n5_
         (try clear hb)
         (try clear hb2)
         (try clear hk)
         (try clear hi)
         refine hK.out _ _ ⟨(kC4_ BK286.out 0).trans rfl, (kC4_ BK286.out 1).trans rfl, HS2_, HS3_⟩ (fun hHeld => ?_)
         clear hK K
         refine norm_ (a' := ?_) ?_ ?_
         rotate_left
         ·exact q4x27_
         refine pure_ (i := 6) (N := some 168) (v := ?_) (a' := ?_) #[true, true, true, true, true, true, true, false, false, false, false] rfl rfl (any_of HT_.out (by kernel_rfl)) (fun _ _ _ h => h) (Or.inl ⟨by rfl, ?_⟩) ?_ ?_
         rotate_left
         ·exact q4x24_
         rotate_left
         ·exact q4x25_
         refine pure_ (i := 7) (N := some 175) (v := ?_) (a' := ?_) #[true, true, true, true, true, true, true, true, false, false, false] rfl rfl (any_of HT_.out (by kernel_rfl)) (fun _ _ _ h => h) (Or.inl ⟨by rfl, ?_⟩) ?_ ?_
         rotate_left
         ·exact q4x24_
         rotate_left
         ·exact q4x25_
         refine pure_ (i := 8) (N := some 176) (v := ?_) (a' := ?_) #[true, true, true, true, true, true, true, true, true, false, false] rfl rfl (any_of HT_.out (by kernel_rfl)) (fun _ _ _ h => h) (Or.inl ⟨by rfl, ?_⟩) ?_ ?_
         rotate_left
         ·exact q4x24_
         rotate_left
         ·exact q4x25_
         refine pure_ (i := 9) (N := some 26) (v := ?_) (a' := ?_) #[true, true, true, true, true, true, true, true, true, true, false] rfl rfl (any_of HT_.out (by kernel_rfl)) (fun _ _ _ h => h) (Or.inl ⟨by rfl, ?_⟩) ?_ ?_
         rotate_left
         ·exact q4x24_
         rotate_left
         ·exact q4x25_
         refine pure_ (i := 10) (N := some 27) (v := ?_) (a' := ?_) #[true, true, true, true, true, true, true, true, true, true, true] rfl rfl (any_of HT_.out (by kernel_rfl)) (fun _ _ _ h => h) (Or.inl ⟨by rfl, ?_⟩) ?_ ?_
         rotate_left
         ·exact q4x24_
         rotate_left
         ·exact q4x25_
         refine done_ (done_of HT_.out (by kernel_rfl)) ?_
         try go_wp2
         go_roundg k4
         case measure => have := HJ10.out; have := HJ43.out; have := HJ69.out; have := HK4.out; omega
         case rel => exact ⟨(wrap64 (x25_4 + 1)), q4x11_, H', ⟨by have := HJ10.out; have := HJ43.out; have := HJ69.out; have := HK4.out; omega⟩, ⟨by (with_reducible repeat (first | apply rA4_ | apply rN4_ | apply rD4_)); exact HO_21.out⟩, ⟨by (with_reducible repeat (first | apply rA4_ | apply rN4_ | apply rD4_)); exact HO_23.out⟩, ⟨by (with_reducible repeat (first | refine kN4_ ?_ _ | refine kD4_ ?_ | refine kA4_ ?_ _)); exact BK282.out⟩, ⟨by (with_reducible repeat (first | refine kN4_ ?_ _ | refine kD4_ ?_ | refine kA4_ ?_ _)); exact BK286.out⟩, ⟨by (with_reducible repeat (first | refine kN4_ ?_ _ | refine kD4_ ?_ | refine kA4_ ?_ _)); exact BK296.out⟩, ⟨by repeat (first | (with_reducible first | exact HB.out | apply bA4_ | apply bN4_ | apply bD4_ | refine bS4_ ?_ GE282.out | refine bS4_ ?_ GE286.out | refine bS4_ ?_ GE296.out) | exact HB.out)⟩⟩
/-! ### the law's arguments -/
/-- THE ONE PURE STATEMENT of laws_FnTerms. -/
def laws_FnTerms.Pure : Prop := ∀ (x0 : List Int) (x1 : List Int), (x0.length * 1 ≤ 140737488351232 ∧ ∀ z_ ∈ x0, 0 ≤ z_ ∧ z_ ≤ 255) → (x1.length * 1 ≤ 140737488351232 ∧ ∀ z_ ∈ x1, 0 ≤ z_ ∧ z_ ≤ 255) → ∃ k, laws_FnTerms.f k x0 x1 = some true
theorem laws_FnTerms.walk (P_ : laws_FnTerms.Pure) (w : World) (A0 : Option Addr) (c0 : Nat) (x0 : List Int) (hr0 : Kd.C (Kd.int .u8) w A0 x0.length x0) (hc0 : x0.length ≤ c0) (hw0 : x0.length * 1 ≤ 140737488351232 ∧ ∀ z_ ∈ x0, 0 ≤ z_ ∧ z_ ≤ 255) (A1 : Option Addr) (c1 : Nat) (x1 : List Int) (hr1 : Kd.C (Kd.int .u8) w A1 x1.length x1) (hc1 : x1.length ≤ c1) (hw1 : x1.length * 1 ≤ 140737488351232 ∧ ∀ z_ ∈ x1, 0 ≤ z_ ∧ z_ ≤ 255) (hTab_ : TabAt w) :
  Calls Tryd.prog 4 #[.slice A0 x0.length c0, .slice A1 x1.length c1] w fun e w' => e = .returned (.bool true) ∧ Below w.heap.size w w' := by
 obtain ⟨k, h⟩ := P_ x0 x1 hw0 hw1
 refine (laws_FnTerms.calls k _ _ x0 _ _ x1 true w hr0 hc0 hr1 hc1 hTab_ h).mono ?_
 rintro e w' ⟨rfl, hd⟩
 exact ⟨rfl, hd⟩

end Go.Proofs.YtcldnanpdpfhlaaDoor.MFnTerms
