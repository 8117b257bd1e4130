/- Functions as Lean functions, with proofs. By a program of this session. -/
import Derived.Test.YtgldplkbacfacaaMFnEightsx0
import Derived.Test.YtgldplkbacfacaaMFnEightsx1
import Derived.Test.YtgldplkbacfacaaMFnEightsx2
import Derived.Test.YtgldplkbacfacaaMFnEightsx7
import Derived.Test.YtgldplkbacfacaaMFnEightsx12
import Derived.Test.YtgldplkbacfacaaMFnEightsx13
import Derived.Test.YtgldplkbacfacaaMFnEightsx14
namespace Go.Proofs.Ytgldplkbacfacaa.MFnEights
open Go.RowKit Go.Proofs.Ytgldplkbacfacaa.MOpen Go.Proofs.YtgldplkbacfacaaW.PrintWords Go.Proofs.YtgldplkbacfacaaW.PrintLast Go.Proofs.YtgldplkbacfacaaW.PrintMore
attribute [local go_sem] max2_int min2_int max_two min_two max_three min_three max_four min_four
set_option linter.unusedVariables false
set_option linter.unusedSimpArgs false

attribute [local go_sem high] eqA52 eqA54
set_option linter.defProp false
def rA8_ := @Kd.R_alloc
def rN8_ := @Kd.R_drewN
def rD8_ := @Kd.R_drew
def kA8_ := @blk_alloc
def kN8_ := @blk_drewN
def kD8_ := @blk_drew
def bS8_ := @below_set
def aM8_ := @Aside0.mk
def bA8_ := @below_alloc
def bN8_ := @pw_below_drewN
def bD8_ := @below_drew1
def rB8_ := @Kd.R_below
def kB8_ := @blk_below
def bT8_ := @below_step
def kC8_ := @blk_cell
theorem q8x1_ {P : Prop} (h : P := by repeat (first | (with_reducible first | exact HB.out | apply bA8_ | apply bN8_ | apply bD8_ | refine bS8_ ?_ GE250.out | refine bS8_ ?_ GE254.out) | exact HB.out)) : P := h
theorem q8x2_ {P : Prop} (h : P := by (with_reducible repeat (first | refine kN8_ ?_ _ | refine kD8_ ?_ | refine kA8_ ?_ _)); exact BK250.out) : P := h
theorem q8x3_ {P : Prop} (h : P := by (with_reducible repeat (first | refine kN8_ ?_ _ | refine kD8_ ?_ | refine kA8_ ?_ _)); exact BK254.out) : P := h
theorem q8x4_ {P : Prop} (h : P := by repeat (first | (with_reducible first | exact HB.out | apply bA8_ | apply bN8_ | apply bD8_ | refine bS8_ ?_ GE250.out | refine bS8_ ?_ GE254.out | refine bS8_ ?_ GE308.out) | exact HB.out)) : P := h
theorem q8x5_ {P : Prop} (h : P := by repeat (first | (with_reducible first | exact HB.out | apply bA8_ | apply bN8_ | apply bD8_ | refine bS8_ ?_ GE250.out | refine bS8_ ?_ GE254.out | refine bS8_ ?_ GE316.out) | exact HB.out)) : P := h
theorem q8x6_ {P : Prop} (h : P := by (with_reducible repeat (first | apply rA8_ | apply rN8_ | apply rD8_)); exact HO_5.out) : P := h
theorem q8x7_ {P : Prop} (h : P := by (with_reducible repeat (first | apply rA8_ | apply rN8_ | apply rD8_)); exact HO_6.out) : P := h
theorem q8x8_ {P : Prop} (h : P := by (with_reducible repeat (first | apply rA8_ | apply rN8_ | apply rD8_)); exact HO_17.out) : P := h
theorem q8x9_ {P : Prop} (h : P := by rw [hg]; exact Nat.ne_of_lt (blk_lt (g := gb250) (o := .cells #[.int .i64 t247, .int .i64 t248] 54 (0, 0)) q8x2_)) : P := h
theorem q8x10_ {P : Prop} (h : P := by rw [hg]; exact Nat.ne_of_gt (blk_lt (g := gb250) (o := .cells #[.int .i64 t247, .int .i64 t248] 54 (0, 0)) q8x2_)) : P := h
theorem q8x11_ {P : Prop} (h : P := by rw [hg]; exact Nat.ne_of_lt (blk_lt (g := gb254) (o := .cells #[.int .i64 t251, .int .i64 t252] 54 (0, 0)) q8x3_)) : P := h
theorem q8x12_ {P : Prop} (h : P := by rw [hg]; exact Nat.ne_of_gt (blk_lt (g := gb254) (o := .cells #[.int .i64 t251, .int .i64 t252] 54 (0, 0)) q8x3_)) : P := h
theorem q8x13_ {P : Prop} (h : P := by (with_reducible repeat (first | apply rA8_ | apply rN8_ | apply rD8_)); exact HO243.out) : P := h
theorem q8x14_ {P : Prop} (h : P := by (with_reducible repeat (first | apply rA8_ | apply rN8_ | apply rD8_)); exact HO246.out) : P := h
theorem q8x15_ {P : Prop} (h : P := by (with_reducible repeat (first | refine kN8_ ?_ _ | refine kD8_ ?_ | refine kA8_ ?_ _)); refine blk_put (cs := #[.int .i64 t305, .int .i64 0]) ?_ 1 _ rfl; (with_reducible repeat (first | refine kN8_ ?_ _ | refine kD8_ ?_ | refine kA8_ ?_ _)); refine blk_put (cs := #[.int .i64 0, .int .i64 0]) ?_ 0 _ rfl; (with_reducible repeat (first | refine kN8_ ?_ _ | refine kD8_ ?_ | refine kA8_ ?_ _)); exact BK308.out) : P := h
theorem q8x16_ {P : Prop} (h : P := by (with_reducible repeat (first | refine kN8_ ?_ _ | refine kD8_ ?_ | refine kA8_ ?_ _)); refine blk_put (cs := #[.int .i64 t313, .int .i64 0]) ?_ 1 _ rfl; (with_reducible repeat (first | refine kN8_ ?_ _ | refine kD8_ ?_ | refine kA8_ ?_ _)); refine blk_put (cs := #[.int .i64 0, .int .i64 0]) ?_ 0 _ rfl; (with_reducible repeat (first | refine kN8_ ?_ _ | refine kD8_ ?_ | refine kA8_ ?_ _)); exact BK316.out) : P := h
theorem q8x17_ {P : Prop} (h : P := by (with_reducible repeat (first | refine kN8_ ?_ _ | refine kD8_ ?_ | refine kA8_ ?_ _)); exact BK308.out) : P := h
theorem q8x18_ {P : Prop} (h : P := by (with_reducible repeat (first | refine kN8_ ?_ _ | refine kD8_ ?_ | refine kA8_ ?_ _)); exact BK316.out) : P := h
theorem q8x19_ {P : Prop} (h : P := by (with_reducible repeat (first | refine kN8_ ?_ _ | refine kD8_ ?_ | refine kA8_ ?_ _)); refine blk_far ?_ NB250_308.out _; (with_reducible repeat (first | refine kN8_ ?_ _ | refine kD8_ ?_ | refine kA8_ ?_ _)); refine blk_far ?_ NB250_308.out _; (with_reducible repeat (first | refine kN8_ ?_ _ | refine kD8_ ?_ | refine kA8_ ?_ _)); exact BK250.out) : P := h
theorem q8x20_ {P : Prop} (h : P := by (with_reducible repeat (first | refine kN8_ ?_ _ | refine kD8_ ?_ | refine kA8_ ?_ _)); refine blk_far ?_ NB254_308.out _; (with_reducible repeat (first | refine kN8_ ?_ _ | refine kD8_ ?_ | refine kA8_ ?_ _)); refine blk_far ?_ NB254_308.out _; (with_reducible repeat (first | refine kN8_ ?_ _ | refine kD8_ ?_ | refine kA8_ ?_ _)); exact BK254.out) : P := h
theorem q8x21_ {P : Prop} (h : P := by (with_reducible repeat (first | refine kN8_ ?_ _ | refine kD8_ ?_ | refine kA8_ ?_ _)); refine blk_far ?_ NB250_316.out _; (with_reducible repeat (first | refine kN8_ ?_ _ | refine kD8_ ?_ | refine kA8_ ?_ _)); refine blk_far ?_ NB250_316.out _; (with_reducible repeat (first | refine kN8_ ?_ _ | refine kD8_ ?_ | refine kA8_ ?_ _)); exact BK250.out) : P := h
theorem q8x22_ {P : Prop} (h : P := by (with_reducible repeat (first | refine kN8_ ?_ _ | refine kD8_ ?_ | refine kA8_ ?_ _)); refine blk_far ?_ NB254_316.out _; (with_reducible repeat (first | refine kN8_ ?_ _ | refine kD8_ ?_ | refine kA8_ ?_ _)); refine blk_far ?_ NB254_316.out _; (with_reducible repeat (first | refine kN8_ ?_ _ | refine kD8_ ?_ | refine kA8_ ?_ _)); exact BK254.out) : P := h
theorem q8x23_ {P : Prop} (h : P := by first | rfl | (simp; done) | (simp [*]; done)) : P := h
theorem q8x24_ {P : Prop} (h : P := by (with_reducible repeat (first | apply rA8_ | apply rN8_ | apply rD8_)); exact HO_13.out) : P := h
theorem q8x25_ {P : Prop} (h : P := by first | (with_reducible assumption) | assumption) : P := h
theorem q8x26_ {P : Prop} (h : P := by (with_reducible repeat (first | apply rA8_ | apply rN8_ | apply rD8_)); exact (Kd.R_mono (Kd.R_far (p := ⟨gb308, 1, none⟩) (Kd.R_far (p := ⟨gb308, 0, none⟩) (Kd.R_types HO_13.out BK308.out (by decide)) (fun _ hk => hk.2) (.int .i64 t305)) (fun _ hk => hk.2) (.int .i64 t306)) (fun _ h_ => h_.1))) : P := h
theorem q8x27_ {P : Prop} (h : P := by (with_reducible repeat (first | apply rA8_ | apply rN8_ | apply rD8_)); exact (Kd.R_mono (Kd.R_far (p := ⟨gb308, 1, none⟩) (Kd.R_far (p := ⟨gb308, 0, none⟩) (Kd.R_types HO_17.out BK308.out (by decide)) (fun _ hk => hk.2) (.int .i64 t305)) (fun _ hk => hk.2) (.int .i64 t306)) (fun _ h_ => h_.1))) : P := h
theorem q8x28_ {P : Prop} (h : P := by (with_reducible repeat (first | apply rA8_ | apply rN8_ | apply rD8_)); exact (Kd.R_mono (Kd.R_far (p := ⟨gb316, 1, none⟩) (Kd.R_far (p := ⟨gb316, 0, none⟩) (Kd.R_types HO_17.out BK316.out (by decide)) (fun _ hk => hk.2) (.int .i64 t313)) (fun _ hk => hk.2) (.int .i64 t314)) (fun _ h_ => h_.1))) : P := h
theorem q8x29_ {P : Prop} (h : P := by (with_reducible repeat (first | apply rA8_ | apply rN8_ | apply rD8_)); exact (Kd.R_mono (Kd.R_far (p := ⟨gb308, 1, none⟩) (Kd.R_far (p := ⟨gb308, 0, none⟩) (Kd.R_types HO_5.out BK308.out (by decide)) (fun _ hk => hk.2) (.int .i64 t305)) (fun _ hk => hk.2) (.int .i64 t306)) (fun _ h_ => h_.1))) : P := h
theorem q8x30_ {P : Prop} (h : P := by (with_reducible repeat (first | apply rA8_ | apply rN8_ | apply rD8_)); exact (Kd.R_mono (Kd.R_far (p := ⟨gb308, 1, none⟩) (Kd.R_far (p := ⟨gb308, 0, none⟩) (Kd.R_types HO_6.out BK308.out (by decide)) (fun _ hk => hk.2) (.int .i64 t305)) (fun _ hk => hk.2) (.int .i64 t306)) (fun _ h_ => h_.1))) : P := h
theorem q8x31_ {P : Prop} (h : P := by (with_reducible repeat (first | apply rA8_ | apply rN8_ | apply rD8_)); exact (Kd.R_mono (Kd.R_far (p := ⟨gb316, 1, none⟩) (Kd.R_far (p := ⟨gb316, 0, none⟩) (Kd.R_types HO_5.out BK316.out (by decide)) (fun _ hk => hk.2) (.int .i64 t313)) (fun _ hk => hk.2) (.int .i64 t314)) (fun _ h_ => h_.1))) : P := h
theorem q8x32_ {P : Prop} (h : P := by (with_reducible repeat (first | apply rA8_ | apply rN8_ | apply rD8_)); exact (Kd.R_mono (Kd.R_far (p := ⟨gb316, 1, none⟩) (Kd.R_far (p := ⟨gb316, 0, none⟩) (Kd.R_types HO_6.out BK316.out (by decide)) (fun _ hk => hk.2) (.int .i64 t313)) (fun _ hk => hk.2) (.int .i64 t314)) (fun _ h_ => h_.1))) : P := h
theorem q8x33_ {P : Prop} (h : P := by repeat (first | (with_reducible first | exact HB.out | apply bA8_ | apply bN8_ | apply bD8_) | exact HB.out)) : P := h
theorem q8x34_ {P : Prop} (h : P := by (with_reducible repeat (first | apply rA8_ | apply rN8_ | apply rD8_)); exact HO265.out) : P := h
theorem q8x35_ {P : Prop} (h : P := by rw [hg]; exact (below_size q8x1_)) : P := h
theorem q8x36_ {P : Prop} (h : P := by (with_reducible repeat (first | apply rA8_ | apply rN8_ | apply rD8_)); exact HO277.out) : P := h
theorem q8x37_ {P : Prop} (h : P := by repeat (first | (with_reducible first | exact HB.out | apply bA8_ | apply bN8_ | apply bD8_ | refine bS8_ ?_ GE250.out) | exact HB.out)) : P := h
theorem q8x38_ {P : Prop} (h : P := by rw [hg]; exact Nat.ne_of_lt (blk_lt (g := gb308) (o := .cells #[.int .i64 t305, .int .i64 t306] 54 (0, 0)) q8x17_)) : P := h
theorem q8x39_ {P : Prop} (h : P := by rw [hg]; exact Nat.ne_of_gt (blk_lt (g := gb308) (o := .cells #[.int .i64 t305, .int .i64 t306] 54 (0, 0)) q8x17_)) : P := h
theorem q8x40_ {P : Prop} (h : P := by rw [hg]; exact Nat.ne_of_lt (blk_lt (g := gb316) (o := .cells #[.int .i64 t313, .int .i64 t314] 54 (0, 0)) q8x18_)) : P := h
theorem q8x41_ {P : Prop} (h : P := by rw [hg]; exact Nat.ne_of_gt (blk_lt (g := gb316) (o := .cells #[.int .i64 t313, .int .i64 t314] 54 (0, 0)) q8x18_)) : P := h
theorem q8x42_ {P : Prop} (h : P := by (with_reducible repeat (first | apply rA8_ | apply rN8_ | apply rD8_)); exact (Kd.R_mono (Kd.R_far (p := ⟨gb250, 1, none⟩) (Kd.R_far (p := ⟨gb250, 0, none⟩) (Kd.R_types HO246.out BK250.out (by decide)) (fun _ hk => hk.2) (.int .i64 t247)) (fun _ hk => hk.2) (.int .i64 t248)) (fun _ h_ => h_.1))) : P := h
theorem q8x43_ {P : Prop} (h : P := by rw [hg]; exact (below_size q8x4_)) : P := h
theorem q8x44_ {P : Prop} (h : P := by rw [hg]; exact (below_size q8x5_)) : P := h
theorem q8x45_ {P : Prop} (h : P := by (with_reducible repeat (first | apply rA8_ | apply rN8_ | apply rD8_)); exact HO289.out) : P := h
theorem q8x46_ {P : Prop} (h : P := by (with_reducible repeat (first | apply rA8_ | apply rN8_ | apply rD8_)); exact HO331.out) : P := h
/-! ### laws_FnEights: function 8 -/
mutual
def laws_FnEights.j0 : Nat → List Int → List Int → Int → List Int → Int → List Int → Bool → Int → Int → Int → Int → Option (Bool)
 | 0, _, _, _, _, _, _, _, _, _, _, _ => none
 | k + 1, x5, x6, x12, x13, x16, x17, x107, x251000, x251001, x255000, x255001 => if x107 = true then (some false) else (if x12 = 0 then ((impl_RatioOf.f k x13).bind fun bt305 => ((spec_A2Sum.f k x251000 x251001 x255000 x255001 false).bind fun bt309 => (if bt305.2.2 = 0 then (if bt309.2.2 = true then (if (!(bt305.1 == bt309.1) || (!(bt305.2.1 == bt309.2.1))) = true then (some false) else (laws_FnEights.j1 k x5 x6 x16 x17 x251000 x251001 x255000 x255001)) else (laws_FnEights.j1 k x5 x6 x16 x17 x251000 x251001 x255000 x255001)) else (laws_FnEights.j1 k x5 x6 x16 x17 x251000 x251001 x255000 x255001)))) else (if x12 = 3 then (laws_FnEights.j1 k x5 x6 x16 x17 x251000 x251001 x255000 x255001) else (some false)))
def laws_FnEights.j1 : Nat → List Int → List Int → Int → List Int → Int → Int → Int → Int → Option (Bool)
 | 0, _, _, _, _, _, _, _, _ => none
 | k + 1, x5, x6, x16, x17, x251000, x251001, x255000, x255001 => if x16 = 0 then ((impl_RatioOf.f k x17).bind fun bt313 => ((spec_A2Sum.f k x251000 x251001 x255000 x255001 true).bind fun bt317 => (if bt313.2.2 = 0 then (if bt317.2.2 = true then (if (!(bt313.1 == bt317.1) || (!(bt313.2.1 == bt317.2.1))) = true then (some false) else (laws_FnEights.j2 k x5 x6)) else (laws_FnEights.j2 k x5 x6)) else (laws_FnEights.j2 k x5 x6)))) else (if x16 = 3 then (laws_FnEights.j2 k x5 x6) else (some false))
def laws_FnEights.j2 : Nat → List Int → List Int → Option (Bool)
 | 0, _, _ => none
 | k + 1, x5, x6 => (impl_SumEight.f).bind fun bt321 => ((impl_EightMoves.f k bt321.1 bt321.2.1 bt321.2.2.1 bt321.2.2.2.1 bt321.2.2.2.2.1 bt321.2.2.2.2.2.1 bt321.2.2.2.2.2.2.1 bt321.2.2.2.2.2.2.2 x5 x6).bind fun bt329 => ((spec_SumEight.f).bind fun bt333 => ((spec_EightMoves.f k bt333.1 bt333.2.1 bt333.2.2.1 bt333.2.2.2.1 bt333.2.2.2.2.1 bt333.2.2.2.2.2.1 bt333.2.2.2.2.2.2.1 bt333.2.2.2.2.2.2.2 x5 x6).bind fun bt341 => (if bt329.2 = bt341.2 then (laws_FnEights.j3 k x5 x6 bt329.1 bt341.1 ((bt329.1.length : Int) != (bt341.1.length : Int))) else (laws_FnEights.j3 k x5 x6 bt329.1 bt341.1 true)))))
def laws_FnEights.j3 : Nat → List Int → List Int → List (S52) → List (S52) → Bool → Option (Bool)
 | 0, _, _, _, _, _ => none
 | k + 1, x5, x6, x27, x29, x181 => if x181 = true then (some false) else (laws_FnEights.l0 k x5 x6 x27 x29 3 0 0 0)
def laws_FnEights.l0 : Nat → List Int → List Int → List (S52) → List (S52) → Int → Int → Int → Int → Option (Bool)
 | 0, _, _, _, _, _, _, _, _ => none
 | k + 1, x5, x6, x27, x29, x31, x32, x33, x34 => if x34 < (x29.length : Int) then (if 0 ≤ x34 then (if x34 < (x27.length : Int) then (if (!(((rd_T52 x27 x34).f0) == ((rd_T52 x29 x34).f0)) || (!(((rd_T52 x27 x34).f1) == ((rd_T52 x29 x34).f1)))) = true then (some false) else (if ((rd_T52 x29 x34).f0) = 1 then (laws_FnEights.l0 k x5 x6 x27 x29 x31 x32 x33 (wrap64 (x34 + 1))) else (if x32 ≤ (x5.length : Int) then (if x33 ≤ (x6.length : Int) then (laws_FnEights.j5 k x5 x6 x27 x29 x32 x33 x34 (((rd_T52 x29 x34).f0) == x31)) else (laws_FnEights.j5 k x5 x6 x27 x29 x32 x33 x34 false)) else (laws_FnEights.j5 k x5 x6 x27 x29 x32 x33 x34 false)))) else (none)) else (none)) else (if x32 ≤ (wrap64 ((x5.length : Int) + 1)) then (some (decide (x33 ≤ (wrap64 ((x6.length : Int) + 1))))) else (some false))
def laws_FnEights.j5 : Nat → List Int → List Int → List (S52) → List (S52) → Int → Int → Int → Bool → Option (Bool)
 | 0, _, _, _, _, _, _, _, _ => none
 | k + 1, x5, x6, x27, x29, x32, x33, x34, x221 => if x221 = true then (some false) else (if 0 ≤ x34 then (if x34 < (x29.length : Int) then (if ((rd_T52 x29 x34).f0) = 2 then (laws_FnEights.l0 k x5 x6 x27 x29 ((rd_T52 x29 x34).f0) (wrap64 (x32 + 1)) x33 (wrap64 (x34 + 1))) else (laws_FnEights.l0 k x5 x6 x27 x29 ((rd_T52 x29 x34).f0) x32 (wrap64 (x33 + 1)) (wrap64 (x34 + 1)))) else (none)) else (none))
end
def laws_FnEights.f (k : Nat) (l0 : List Int) (l1 : List Int) : Option (Bool) := (laws_a2Long.f l0 l1).bind fun t240 => (if t240 = true then (some true) else ((spec_A2Terms.f k l0).bind fun t241 => ((spec_A2Terms.f k l1).bind fun t244 => ((spec_RatioOf.f k t241).bind fun bt247 => ((spec_RatioOf.f k t244).bind fun bt251 => ((impl_SumEight.f).bind fun bt255 => ((impl_EightTerms.f k bt255.1 bt255.2.1 bt255.2.2.1 bt255.2.2.2.1 bt255.2.2.2.2.1 bt255.2.2.2.2.2.1 bt255.2.2.2.2.2.2.1 bt255.2.2.2.2.2.2.2 t241 t244).bind fun bt263 => ((spec_SumEight.f).bind fun bt267 => ((spec_EightTerms.f k bt267.1 bt267.2.1 bt267.2.2.1 bt267.2.2.2.1 bt267.2.2.2.2.1 bt267.2.2.2.2.2.1 bt267.2.2.2.2.2.2.1 bt267.2.2.2.2.2.2.2 t241 t244).bind fun bt275 => ((impl_ProductEight.f).bind fun bt279 => ((impl_EightTerms.f k bt279.1 bt279.2.1 bt279.2.2.1 bt279.2.2.2.1 bt279.2.2.2.2.1 bt279.2.2.2.2.2.1 bt279.2.2.2.2.2.2.1 bt279.2.2.2.2.2.2.2 t241 t244).bind fun bt287 => ((spec_ProductEight.f).bind fun bt291 => ((spec_EightTerms.f k bt291.1 bt291.2.1 bt291.2.2.1 bt291.2.2.2.1 bt291.2.2.2.2.1 bt291.2.2.2.2.2.1 bt291.2.2.2.2.2.2.1 bt291.2.2.2.2.2.2.2 t241 t244).bind fun bt299 => (if bt247.2.2 = 0 then (if bt251.2.2 = 0 then (if bt263.2 = bt275.2 then ((spec_A2Same.f k bt263.1 bt275.1).bind fun t303 => (if t303 = true then (if bt287.2 = bt299.2 then ((spec_A2Same.f k bt287.1 bt299.1).bind fun t304 => (laws_FnEights.j0 k t241 t244 bt263.2 bt275.1 bt287.2 bt299.1 (!t304) bt247.1 bt247.2.1 bt251.1 bt251.2.1)) else (laws_FnEights.j0 k t241 t244 bt263.2 bt275.1 bt287.2 bt299.1 true bt247.1 bt247.2.1 bt251.1 bt251.2.1)) else (laws_FnEights.j0 k t241 t244 bt263.2 bt275.1 bt287.2 bt299.1 true bt247.1 bt247.2.1 bt251.1 bt251.2.1))) else (laws_FnEights.j0 k t241 t244 bt263.2 bt275.1 bt287.2 bt299.1 true bt247.1 bt247.2.1 bt251.1 bt251.2.1)) else (laws_FnEights.j0 k t241 t244 bt263.2 bt275.1 bt287.2 bt299.1 true bt247.1 bt247.2.1 bt251.1 bt251.2.1)) else (laws_FnEights.j0 k t241 t244 bt263.2 bt275.1 bt287.2 bt299.1 true bt247.1 bt247.2.1 bt251.1 bt251.2.1)))))))))))))))
theorem laws_FnEights.mono_l : ∀ k, (∀ y0 y1 y2 y3 y4 y5 y6 y7 y8 y9 y10, LeO (laws_FnEights.j0 k y0 y1 y2 y3 y4 y5 y6 y7 y8 y9 y10) (laws_FnEights.j0 (k + 1) y0 y1 y2 y3 y4 y5 y6 y7 y8 y9 y10)) ∧ (∀ y0 y1 y2 y3 y4 y5 y6 y7, LeO (laws_FnEights.j1 k y0 y1 y2 y3 y4 y5 y6 y7) (laws_FnEights.j1 (k + 1) y0 y1 y2 y3 y4 y5 y6 y7)) ∧ (∀ y0 y1, LeO (laws_FnEights.j2 k y0 y1) (laws_FnEights.j2 (k + 1) y0 y1)) ∧ (∀ y0 y1 y2 y3 y4, LeO (laws_FnEights.j3 k y0 y1 y2 y3 y4) (laws_FnEights.j3 (k + 1) y0 y1 y2 y3 y4)) ∧ (∀ y0 y1 y2 y3 y4 y5 y6 y7, LeO (laws_FnEights.l0 k y0 y1 y2 y3 y4 y5 y6 y7) (laws_FnEights.l0 (k + 1) y0 y1 y2 y3 y4 y5 y6 y7)) ∧ (∀ y0 y1 y2 y3 y4 y5 y6 y7, LeO (laws_FnEights.j5 k y0 y1 y2 y3 y4 y5 y6 y7) (laws_FnEights.j5 (k + 1) y0 y1 y2 y3 y4 y5 y6 y7))
 | 0 => ⟨fun _ _ _ _ _ _ _ _ _ _ _ r h => by simp [laws_FnEights.j0] at h, fun _ _ _ _ _ _ _ _ r h => by simp [laws_FnEights.j1] at h, fun _ _ r h => by simp [laws_FnEights.j2] at h, fun _ _ _ _ _ r h => by simp [laws_FnEights.j3] at h, fun _ _ _ _ _ _ _ _ r h => by simp [laws_FnEights.l0] at h, fun _ _ _ _ _ _ _ _ r h => by simp [laws_FnEights.j5] at h⟩
 | k + 1 => by
  obtain ⟨ih0, ih1, ih2, ih3, ih4, ih5⟩ := laws_FnEights.mono_l k
  refine ⟨?_, ?_, ?_, ?_, ?_, ?_⟩
  ·intro y0 y1 y2 y3 y4 y5 y6 y7 y8 y9 y10
   unfold laws_FnEights.j0
   repeat' first
   | (with_reducible exact ih0 _ _ _ _ _ _ _ _ _ _ _)
   | (with_reducible exact ih1 _ _ _ _ _ _ _ _)
   | (with_reducible exact ih2 _ _)
   | (with_reducible exact ih3 _ _ _ _ _)
   | (with_reducible exact ih4 _ _ _ _ _ _ _ _)
   | (with_reducible exact ih5 _ _ _ _ _ _ _ _)
   | (with_reducible exact impl_EightMoves.mono _ _ _ _ _ _ _ _ _ _ _)
   | (with_reducible exact impl_EightTerms.mono _ _ _ _ _ _ _ _ _ _ _)
   | (with_reducible exact impl_RatioOf.mono _ _)
   | (with_reducible exact spec_A2Same.mono _ _ _)
   | (with_reducible exact spec_A2Sum.mono _ _ _ _ _ _)
   | (with_reducible exact spec_A2Terms.mono _ _)
   | (with_reducible exact spec_EightMoves.mono _ _ _ _ _ _ _ _ _ _ _)
   | (with_reducible exact spec_EightTerms.mono _ _ _ _ _ _ _ _ _ _ _)
   | (with_reducible exact spec_RatioOf.mono _ _)
   | (with_reducible exact LeO.refl _)
   | (with_reducible exact LeO.none _)
   | (with_reducible refine LeO.ite ?_ ?_)
   | (with_reducible refine LeO.bind ?_ (fun _ => ?_))
   | exact ih0 _ _ _ _ _ _ _ _ _ _ _
   | exact ih1 _ _ _ _ _ _ _ _
   | exact ih2 _ _
   | exact ih3 _ _ _ _ _
   | exact ih4 _ _ _ _ _ _ _ _
   | exact ih5 _ _ _ _ _ _ _ _
   | exact impl_EightMoves.mono _ _ _ _ _ _ _ _ _ _ _
   | exact impl_EightTerms.mono _ _ _ _ _ _ _ _ _ _ _
   | exact impl_RatioOf.mono _ _
   | exact spec_A2Same.mono _ _ _
   | exact spec_A2Sum.mono _ _ _ _ _ _
   | exact spec_A2Terms.mono _ _
   | exact spec_EightMoves.mono _ _ _ _ _ _ _ _ _ _ _
   | exact spec_EightTerms.mono _ _ _ _ _ _ _ _ _ _ _
   | exact spec_RatioOf.mono _ _
   | exact LeO.none _
   | refine LeO.ite ?_ ?_
   | refine LeO.bind ?_ (fun _ => ?_)
  ·intro y0 y1 y2 y3 y4 y5 y6 y7
   unfold laws_FnEights.j1
   repeat' first
   | (with_reducible exact ih0 _ _ _ _ _ _ _ _ _ _ _)
   | (with_reducible exact ih1 _ _ _ _ _ _ _ _)
   | (with_reducible exact ih2 _ _)
   | (with_reducible exact ih3 _ _ _ _ _)
   | (with_reducible exact ih4 _ _ _ _ _ _ _ _)
   | (with_reducible exact ih5 _ _ _ _ _ _ _ _)
   | (with_reducible exact impl_EightMoves.mono _ _ _ _ _ _ _ _ _ _ _)
   | (with_reducible exact impl_EightTerms.mono _ _ _ _ _ _ _ _ _ _ _)
   | (with_reducible exact impl_RatioOf.mono _ _)
   | (with_reducible exact spec_A2Same.mono _ _ _)
   | (with_reducible exact spec_A2Sum.mono _ _ _ _ _ _)
   | (with_reducible exact spec_A2Terms.mono _ _)
   | (with_reducible exact spec_EightMoves.mono _ _ _ _ _ _ _ _ _ _ _)
   | (with_reducible exact spec_EightTerms.mono _ _ _ _ _ _ _ _ _ _ _)
   | (with_reducible exact spec_RatioOf.mono _ _)
   | (with_reducible exact LeO.refl _)
   | (with_reducible exact LeO.none _)
   | (with_reducible refine LeO.ite ?_ ?_)
   | (with_reducible refine LeO.bind ?_ (fun _ => ?_))
   | exact ih0 _ _ _ _ _ _ _ _ _ _ _
   | exact ih1 _ _ _ _ _ _ _ _
   | exact ih2 _ _
   | exact ih3 _ _ _ _ _
   | exact ih4 _ _ _ _ _ _ _ _
   | exact ih5 _ _ _ _ _ _ _ _
   | exact impl_EightMoves.mono _ _ _ _ _ _ _ _ _ _ _
   | exact impl_EightTerms.mono _ _ _ _ _ _ _ _ _ _ _
   | exact impl_RatioOf.mono _ _
   | exact spec_A2Same.mono _ _ _
   | exact spec_A2Sum.mono _ _ _ _ _ _
   | exact spec_A2Terms.mono _ _
   | exact spec_EightMoves.mono _ _ _ _ _ _ _ _ _ _ _
   | exact spec_EightTerms.mono _ _ _ _ _ _ _ _ _ _ _
   | exact spec_RatioOf.mono _ _
   | exact LeO.none _
   | refine LeO.ite ?_ ?_
   | refine LeO.bind ?_ (fun _ => ?_)
  ·intro y0 y1
   unfold laws_FnEights.j2
   repeat' first
   | (with_reducible exact ih0 _ _ _ _ _ _ _ _ _ _ _)
   | (with_reducible exact ih1 _ _ _ _ _ _ _ _)
   | (with_reducible exact ih2 _ _)
   | (with_reducible exact ih3 _ _ _ _ _)
   | (with_reducible exact ih4 _ _ _ _ _ _ _ _)
   | (with_reducible exact ih5 _ _ _ _ _ _ _ _)
   | (with_reducible exact impl_EightMoves.mono _ _ _ _ _ _ _ _ _ _ _)
   | (with_reducible exact impl_EightTerms.mono _ _ _ _ _ _ _ _ _ _ _)
   | (with_reducible exact impl_RatioOf.mono _ _)
   | (with_reducible exact spec_A2Same.mono _ _ _)
   | (with_reducible exact spec_A2Sum.mono _ _ _ _ _ _)
   | (with_reducible exact spec_A2Terms.mono _ _)
   | (with_reducible exact spec_EightMoves.mono _ _ _ _ _ _ _ _ _ _ _)
   | (with_reducible exact spec_EightTerms.mono _ _ _ _ _ _ _ _ _ _ _)
   | (with_reducible exact spec_RatioOf.mono _ _)
   | (with_reducible exact LeO.refl _)
   | (with_reducible exact LeO.none _)
   | (with_reducible refine LeO.ite ?_ ?_)
   | (with_reducible refine LeO.bind ?_ (fun _ => ?_))
   | exact ih0 _ _ _ _ _ _ _ _ _ _ _
   | exact ih1 _ _ _ _ _ _ _ _
   | exact ih2 _ _
   | exact ih3 _ _ _ _ _
   | exact ih4 _ _ _ _ _ _ _ _
   | exact ih5 _ _ _ _ _ _ _ _
   | exact impl_EightMoves.mono _ _ _ _ _ _ _ _ _ _ _
   | exact impl_EightTerms.mono _ _ _ _ _ _ _ _ _ _ _
   | exact impl_RatioOf.mono _ _
   | exact spec_A2Same.mono _ _ _
   | exact spec_A2Sum.mono _ _ _ _ _ _
   | exact spec_A2Terms.mono _ _
   | exact spec_EightMoves.mono _ _ _ _ _ _ _ _ _ _ _
   | exact spec_EightTerms.mono _ _ _ _ _ _ _ _ _ _ _
   | exact spec_RatioOf.mono _ _
   | exact LeO.none _
   | refine LeO.ite ?_ ?_
   | refine LeO.bind ?_ (fun _ => ?_)
  ·intro y0 y1 y2 y3 y4
   unfold laws_FnEights.j3
   repeat' first
   | (with_reducible exact ih0 _ _ _ _ _ _ _ _ _ _ _)
   | (with_reducible exact ih1 _ _ _ _ _ _ _ _)
   | (with_reducible exact ih2 _ _)
   | (with_reducible exact ih3 _ _ _ _ _)
   | (with_reducible exact ih4 _ _ _ _ _ _ _ _)
   | (with_reducible exact ih5 _ _ _ _ _ _ _ _)
   | (with_reducible exact impl_EightMoves.mono _ _ _ _ _ _ _ _ _ _ _)
   | (with_reducible exact impl_EightTerms.mono _ _ _ _ _ _ _ _ _ _ _)
   | (with_reducible exact impl_RatioOf.mono _ _)
   | (with_reducible exact spec_A2Same.mono _ _ _)
   | (with_reducible exact spec_A2Sum.mono _ _ _ _ _ _)
   | (with_reducible exact spec_A2Terms.mono _ _)
   | (with_reducible exact spec_EightMoves.mono _ _ _ _ _ _ _ _ _ _ _)
   | (with_reducible exact spec_EightTerms.mono _ _ _ _ _ _ _ _ _ _ _)
   | (with_reducible exact spec_RatioOf.mono _ _)
   | (with_reducible exact LeO.refl _)
   | (with_reducible exact LeO.none _)
   | (with_reducible refine LeO.ite ?_ ?_)
   | (with_reducible refine LeO.bind ?_ (fun _ => ?_))
   | exact ih0 _ _ _ _ _ _ _ _ _ _ _
   | exact ih1 _ _ _ _ _ _ _ _
   | exact ih2 _ _
   | exact ih3 _ _ _ _ _
   | exact ih4 _ _ _ _ _ _ _ _
   | exact ih5 _ _ _ _ _ _ _ _
   | exact impl_EightMoves.mono _ _ _ _ _ _ _ _ _ _ _
   | exact impl_EightTerms.mono _ _ _ _ _ _ _ _ _ _ _
   | exact impl_RatioOf.mono _ _
   | exact spec_A2Same.mono _ _ _
   | exact spec_A2Sum.mono _ _ _ _ _ _
   | exact spec_A2Terms.mono _ _
   | exact spec_EightMoves.mono _ _ _ _ _ _ _ _ _ _ _
   | exact spec_EightTerms.mono _ _ _ _ _ _ _ _ _ _ _
   | exact spec_RatioOf.mono _ _
   | exact LeO.none _
   | refine LeO.ite ?_ ?_
   | refine LeO.bind ?_ (fun _ => ?_)
  ·intro y0 y1 y2 y3 y4 y5 y6 y7
   unfold laws_FnEights.l0
   repeat' first
   | (with_reducible exact ih0 _ _ _ _ _ _ _ _ _ _ _)
   | (with_reducible exact ih1 _ _ _ _ _ _ _ _)
   | (with_reducible exact ih2 _ _)
   | (with_reducible exact ih3 _ _ _ _ _)
   | (with_reducible exact ih4 _ _ _ _ _ _ _ _)
   | (with_reducible exact ih5 _ _ _ _ _ _ _ _)
   | (with_reducible exact impl_EightMoves.mono _ _ _ _ _ _ _ _ _ _ _)
   | (with_reducible exact impl_EightTerms.mono _ _ _ _ _ _ _ _ _ _ _)
   | (with_reducible exact impl_RatioOf.mono _ _)
   | (with_reducible exact spec_A2Same.mono _ _ _)
   | (with_reducible exact spec_A2Sum.mono _ _ _ _ _ _)
   | (with_reducible exact spec_A2Terms.mono _ _)
   | (with_reducible exact spec_EightMoves.mono _ _ _ _ _ _ _ _ _ _ _)
   | (with_reducible exact spec_EightTerms.mono _ _ _ _ _ _ _ _ _ _ _)
   | (with_reducible exact spec_RatioOf.mono _ _)
   | (with_reducible exact LeO.refl _)
   | (with_reducible exact LeO.none _)
   | (with_reducible refine LeO.ite ?_ ?_)
   | (with_reducible refine LeO.bind ?_ (fun _ => ?_))
   | exact ih0 _ _ _ _ _ _ _ _ _ _ _
   | exact ih1 _ _ _ _ _ _ _ _
   | exact ih2 _ _
   | exact ih3 _ _ _ _ _
   | exact ih4 _ _ _ _ _ _ _ _
   | exact ih5 _ _ _ _ _ _ _ _
   | exact impl_EightMoves.mono _ _ _ _ _ _ _ _ _ _ _
   | exact impl_EightTerms.mono _ _ _ _ _ _ _ _ _ _ _
   | exact impl_RatioOf.mono _ _
   | exact spec_A2Same.mono _ _ _
   | exact spec_A2Sum.mono _ _ _ _ _ _
   | exact spec_A2Terms.mono _ _
   | exact spec_EightMoves.mono _ _ _ _ _ _ _ _ _ _ _
   | exact spec_EightTerms.mono _ _ _ _ _ _ _ _ _ _ _
   | exact spec_RatioOf.mono _ _
   | exact LeO.none _
   | refine LeO.ite ?_ ?_
   | refine LeO.bind ?_ (fun _ => ?_)
  intro y0 y1 y2 y3 y4 y5 y6 y7
  unfold laws_FnEights.j5
  repeat' first
  | (with_reducible exact ih0 _ _ _ _ _ _ _ _ _ _ _)
  | (with_reducible exact ih1 _ _ _ _ _ _ _ _)
  | (with_reducible exact ih2 _ _)
  | (with_reducible exact ih3 _ _ _ _ _)
  | (with_reducible exact ih4 _ _ _ _ _ _ _ _)
  | (with_reducible exact ih5 _ _ _ _ _ _ _ _)
  | (with_reducible exact impl_EightMoves.mono _ _ _ _ _ _ _ _ _ _ _)
  | (with_reducible exact impl_EightTerms.mono _ _ _ _ _ _ _ _ _ _ _)
  | (with_reducible exact impl_RatioOf.mono _ _)
  | (with_reducible exact spec_A2Same.mono _ _ _)
  | (with_reducible exact spec_A2Sum.mono _ _ _ _ _ _)
  | (with_reducible exact spec_A2Terms.mono _ _)
  | (with_reducible exact spec_EightMoves.mono _ _ _ _ _ _ _ _ _ _ _)
  | (with_reducible exact spec_EightTerms.mono _ _ _ _ _ _ _ _ _ _ _)
  | (with_reducible exact spec_RatioOf.mono _ _)
  | (with_reducible exact LeO.refl _)
  | (with_reducible exact LeO.none _)
  | (with_reducible refine LeO.ite ?_ ?_)
  | (with_reducible refine LeO.bind ?_ (fun _ => ?_))
  | exact ih0 _ _ _ _ _ _ _ _ _ _ _
  | exact ih1 _ _ _ _ _ _ _ _
  | exact ih2 _ _
  | exact ih3 _ _ _ _ _
  | exact ih4 _ _ _ _ _ _ _ _
  | exact ih5 _ _ _ _ _ _ _ _
  | exact impl_EightMoves.mono _ _ _ _ _ _ _ _ _ _ _
  | exact impl_EightTerms.mono _ _ _ _ _ _ _ _ _ _ _
  | exact impl_RatioOf.mono _ _
  | exact spec_A2Same.mono _ _ _
  | exact spec_A2Sum.mono _ _ _ _ _ _
  | exact spec_A2Terms.mono _ _
  | exact spec_EightMoves.mono _ _ _ _ _ _ _ _ _ _ _
  | exact spec_EightTerms.mono _ _ _ _ _ _ _ _ _ _ _
  | exact spec_RatioOf.mono _ _
  | exact LeO.none _
  | refine LeO.ite ?_ ?_
  | refine LeO.bind ?_ (fun _ => ?_)
theorem laws_FnEights.mono : ∀ a0 a1 k, LeO (laws_FnEights.f k a0 a1) (laws_FnEights.f (k + 1) a0 a1) := by
 intro a0 a1 k
 obtain ⟨ih0, ih1, ih2, ih3, ih4, ih5⟩ := laws_FnEights.mono_l k
 unfold laws_FnEights.f
 repeat' first
   | (with_reducible exact ih0 _ _ _ _ _ _ _ _ _ _ _)
   | (with_reducible exact ih1 _ _ _ _ _ _ _ _)
   | (with_reducible exact ih2 _ _)
   | (with_reducible exact ih3 _ _ _ _ _)
   | (with_reducible exact ih4 _ _ _ _ _ _ _ _)
   | (with_reducible exact ih5 _ _ _ _ _ _ _ _)
   | (with_reducible exact impl_EightMoves.mono _ _ _ _ _ _ _ _ _ _ _)
   | (with_reducible exact impl_EightTerms.mono _ _ _ _ _ _ _ _ _ _ _)
   | (with_reducible exact impl_RatioOf.mono _ _)
   | (with_reducible exact spec_A2Same.mono _ _ _)
   | (with_reducible exact spec_A2Sum.mono _ _ _ _ _ _)
   | (with_reducible exact spec_A2Terms.mono _ _)
   | (with_reducible exact spec_EightMoves.mono _ _ _ _ _ _ _ _ _ _ _)
   | (with_reducible exact spec_EightTerms.mono _ _ _ _ _ _ _ _ _ _ _)
   | (with_reducible exact spec_RatioOf.mono _ _)
   | (with_reducible exact LeO.refl _)
   | (with_reducible exact LeO.none _)
   | (with_reducible refine LeO.ite ?_ ?_)
   | (with_reducible refine LeO.bind ?_ (fun _ => ?_))
   | exact ih0 _ _ _ _ _ _ _ _ _ _ _
   | exact ih1 _ _ _ _ _ _ _ _
   | exact ih2 _ _
   | exact ih3 _ _ _ _ _
   | exact ih4 _ _ _ _ _ _ _ _
   | exact ih5 _ _ _ _ _ _ _ _
   | exact impl_EightMoves.mono _ _ _ _ _ _ _ _ _ _ _
   | exact impl_EightTerms.mono _ _ _ _ _ _ _ _ _ _ _
   | exact impl_RatioOf.mono _ _
   | exact spec_A2Same.mono _ _ _
   | exact spec_A2Sum.mono _ _ _ _ _ _
   | exact spec_A2Terms.mono _ _
   | exact spec_EightMoves.mono _ _ _ _ _ _ _ _ _ _ _
   | exact spec_EightTerms.mono _ _ _ _ _ _ _ _ _ _ _
   | exact spec_RatioOf.mono _ _
   | exact LeO.none _
   | refine LeO.ite ?_ ?_
   | refine LeO.bind ?_ (fun _ => ?_)
set_option maxHeartbeats 8000000 in
set_option maxRecDepth 100000 in
theorem laws_FnEights.calls (k : Nat) (A0 : Option Addr) (c0 : Nat) (l0 : List Int) (A1 : Option Addr) (c1 : Nat) (l1 : List Int) (r : Bool) (w : World) (hr0 : Kd.C (Kd.int .u8) w A0 l0.length l0) (hc0 : l0.length ≤ c0) (hr1 : Kd.C (Kd.int .u8) w A1 l1.length l1) (hc1 : l1.length ≤ c1) (h : laws_FnEights.f k l0 l1 = some r) :
  Calls Try.prog 8 #[.slice A0 l0.length c0, .slice A1 l1.length c1] w fun e w' => e = .returned (.bool r) ∧ Below w.heap.size w w' := by
 have hu54 := Try.underlying54
 have hu52 := Try.underlying52
 have HR0 := aM8_ hr0
 have HC0 := aM8_ hc0
 clear hr0 hc0
 have HR1 := aM8_ hr1
 have HC1 := aM8_ hc1
 clear hr1 hc1
 have HB := aM8_ (Below.refl w.heap.size w)
 have H : ((laws_a2Long.f l0 l1).bind fun t240 => (if t240 = true then (some true) else ((spec_A2Terms.f k l0).bind fun t241 => ((spec_A2Terms.f k l1).bind fun t244 => ((spec_RatioOf.f k t241).bind fun bt247 => ((spec_RatioOf.f k t244).bind fun bt251 => ((impl_SumEight.f).bind fun bt255 => ((impl_EightTerms.f k bt255.1 bt255.2.1 bt255.2.2.1 bt255.2.2.2.1 bt255.2.2.2.2.1 bt255.2.2.2.2.2.1 bt255.2.2.2.2.2.2.1 bt255.2.2.2.2.2.2.2 t241 t244).bind fun bt263 => ((spec_SumEight.f).bind fun bt267 => ((spec_EightTerms.f k bt267.1 bt267.2.1 bt267.2.2.1 bt267.2.2.2.1 bt267.2.2.2.2.1 bt267.2.2.2.2.2.1 bt267.2.2.2.2.2.2.1 bt267.2.2.2.2.2.2.2 t241 t244).bind fun bt275 => ((impl_ProductEight.f).bind fun bt279 => ((impl_EightTerms.f k bt279.1 bt279.2.1 bt279.2.2.1 bt279.2.2.2.1 bt279.2.2.2.2.1 bt279.2.2.2.2.2.1 bt279.2.2.2.2.2.2.1 bt279.2.2.2.2.2.2.2 t241 t244).bind fun bt287 => ((spec_ProductEight.f).bind fun bt291 => ((spec_EightTerms.f k bt291.1 bt291.2.1 bt291.2.2.1 bt291.2.2.2.1 bt291.2.2.2.2.1 bt291.2.2.2.2.2.1 bt291.2.2.2.2.2.2.1 bt291.2.2.2.2.2.2.2 t241 t244).bind fun bt299 => (if bt247.2.2 = 0 then (if bt251.2.2 = 0 then (if bt263.2 = bt275.2 then ((spec_A2Same.f k bt263.1 bt275.1).bind fun t303 => (if t303 = true then (if bt287.2 = bt299.2 then ((spec_A2Same.f k bt287.1 bt299.1).bind fun t304 => (laws_FnEights.j0 k t241 t244 bt263.2 bt275.1 bt287.2 bt299.1 (!t304) bt247.1 bt247.2.1 bt251.1 bt251.2.1)) else (laws_FnEights.j0 k t241 t244 bt263.2 bt275.1 bt287.2 bt299.1 true bt247.1 bt247.2.1 bt251.1 bt251.2.1)) else (laws_FnEights.j0 k t241 t244 bt263.2 bt275.1 bt287.2 bt299.1 true bt247.1 bt247.2.1 bt251.1 bt251.2.1))) else (laws_FnEights.j0 k t241 t244 bt263.2 bt275.1 bt287.2 bt299.1 true bt247.1 bt247.2.1 bt251.1 bt251.2.1)) else (laws_FnEights.j0 k t241 t244 bt263.2 bt275.1 bt287.2 bt299.1 true bt247.1 bt247.2.1 bt251.1 bt251.2.1)) else (laws_FnEights.j0 k t241 t244 bt263.2 bt275.1 bt287.2 bt299.1 true bt247.1 bt247.2.1 bt251.1 bt251.2.1)))))))))))))))) = some r := h
 clear h
 replace H := Option.bind_eq_some_iff.mp H
 obtain ⟨t240, A30, H⟩ := H
 replace H : (if t240 = true then (some true) else ((spec_A2Terms.f k l0).bind fun t241 => ((spec_A2Terms.f k l1).bind fun t244 => ((spec_RatioOf.f k t241).bind fun bt247 => ((spec_RatioOf.f k t244).bind fun bt251 => ((impl_SumEight.f).bind fun bt255 => ((impl_EightTerms.f k bt255.1 bt255.2.1 bt255.2.2.1 bt255.2.2.2.1 bt255.2.2.2.2.1 bt255.2.2.2.2.2.1 bt255.2.2.2.2.2.2.1 bt255.2.2.2.2.2.2.2 t241 t244).bind fun bt263 => ((spec_SumEight.f).bind fun bt267 => ((spec_EightTerms.f k bt267.1 bt267.2.1 bt267.2.2.1 bt267.2.2.2.1 bt267.2.2.2.2.1 bt267.2.2.2.2.2.1 bt267.2.2.2.2.2.2.1 bt267.2.2.2.2.2.2.2 t241 t244).bind fun bt275 => ((impl_ProductEight.f).bind fun bt279 => ((impl_EightTerms.f k bt279.1 bt279.2.1 bt279.2.2.1 bt279.2.2.2.1 bt279.2.2.2.2.1 bt279.2.2.2.2.2.1 bt279.2.2.2.2.2.2.1 bt279.2.2.2.2.2.2.2 t241 t244).bind fun bt287 => ((spec_ProductEight.f).bind fun bt291 => ((spec_EightTerms.f k bt291.1 bt291.2.1 bt291.2.2.1 bt291.2.2.2.1 bt291.2.2.2.2.1 bt291.2.2.2.2.2.1 bt291.2.2.2.2.2.2.1 bt291.2.2.2.2.2.2.2 t241 t244).bind fun bt299 => (if bt247.2.2 = 0 then (if bt251.2.2 = 0 then (if bt263.2 = bt275.2 then ((spec_A2Same.f k bt263.1 bt275.1).bind fun t303 => (if t303 = true then (if bt287.2 = bt299.2 then ((spec_A2Same.f k bt287.1 bt299.1).bind fun t304 => (laws_FnEights.j0 k t241 t244 bt263.2 bt275.1 bt287.2 bt299.1 (!t304) bt247.1 bt247.2.1 bt251.1 bt251.2.1)) else (laws_FnEights.j0 k t241 t244 bt263.2 bt275.1 bt287.2 bt299.1 true bt247.1 bt247.2.1 bt251.1 bt251.2.1)) else (laws_FnEights.j0 k t241 t244 bt263.2 bt275.1 bt287.2 bt299.1 true bt247.1 bt247.2.1 bt251.1 bt251.2.1))) else (laws_FnEights.j0 k t241 t244 bt263.2 bt275.1 bt287.2 bt299.1 true bt247.1 bt247.2.1 bt251.1 bt251.2.1)) else (laws_FnEights.j0 k t241 t244 bt263.2 bt275.1 bt287.2 bt299.1 true bt247.1 bt247.2.1 bt251.1 bt251.2.1)) else (laws_FnEights.j0 k t241 t244 bt263.2 bt275.1 bt287.2 bt299.1 true bt247.1 bt247.2.1 bt251.1 bt251.2.1))))))))))))))) = some r := H
 have A3 := aM8_ A30
 clear A30
 by_cases c4 : t240 = true
 ·subst c4
  have H1 : (some true) = some r := by rw [if_pos rfl] at H; exact H
  clear H
  have H := H1
  clear H1
  obtain rfl := Option.some.inj H
  go_enter Try.func8, Try.ntmps8
  go_wp2_with (first | (go_at_call 26; (with_reducible refine (laws_a2Long.calls _ _ l0 _ _ l1 true _ ?side1 ?side2 ?side3 ?side4 A3.out).mono ?_); (case side1 => repeat (first | exact HR0.out | (with_reducible refine Kd.C_alloc ?_ _) | (with_reducible refine Kd.C_drewN ?_ _) | (with_reducible refine Kd.C_drew ?_))); (case side2 => exact HC0.out); (case side3 => repeat (first | exact HR1.out | (with_reducible refine Kd.C_alloc ?_ _) | (with_reducible refine Kd.C_drewN ?_ _) | (with_reducible refine Kd.C_drew ?_))); (case side4 => exact HC1.out); rintro e w' ⟨rfl, ⟨nd, rfl⟩⟩; (try first | exact ⟨rfl, _, World.drewN_drewN _ _ _⟩ | exact ⟨rfl, _, Eq.trans (World.drewN_drewN _ _ _) (congrArg (World.drewN _) (Nat.add_assoc _ _ _))⟩)) | go_quiet (first | (go_at_call 26; (with_reducible refine (laws_a2Long.calls _ _ l0 _ _ l1 true _ ?side1 ?side2 ?side3 ?side4 A3.out).mono ?_); (case side1 => repeat (first | exact HR0.out | (with_reducible refine Kd.C_alloc ?_ _) | (with_reducible refine Kd.C_drewN ?_ _) | (with_reducible refine Kd.C_drew ?_))); (case side2 => exact HC0.out); (case side3 => repeat (first | exact HR1.out | (with_reducible refine Kd.C_alloc ?_ _) | (with_reducible refine Kd.C_drewN ?_ _) | (with_reducible refine Kd.C_drew ?_))); (case side4 => exact HC1.out); rintro e w' ⟨rfl, ⟨nd, rfl⟩⟩; (try first | exact ⟨rfl, _, World.drewN_drewN _ _ _⟩ | exact ⟨rfl, _, Eq.trans (World.drewN_drewN _ _ _) (congrArg (World.drewN _) (Nat.add_assoc _ _ _))⟩))))
  go_ret
  exact ⟨by first | rfl | (simp [errW_none, errW_some] <;> rfl) | (simp [*, errW_none, errW_some] <;> rfl), by repeat (first | (with_reducible first | exact HB.out | apply bA8_ | apply bN8_ | apply bD8_) | exact HB.out)⟩
 replace c4 := Bool.eq_false_iff.mpr c4
 subst c4
 have H1 : ((spec_A2Terms.f k l0).bind fun t241 => ((spec_A2Terms.f k l1).bind fun t244 => ((spec_RatioOf.f k t241).bind fun bt247 => ((spec_RatioOf.f k t244).bind fun bt251 => ((impl_SumEight.f).bind fun bt255 => ((impl_EightTerms.f k bt255.1 bt255.2.1 bt255.2.2.1 bt255.2.2.2.1 bt255.2.2.2.2.1 bt255.2.2.2.2.2.1 bt255.2.2.2.2.2.2.1 bt255.2.2.2.2.2.2.2 t241 t244).bind fun bt263 => ((spec_SumEight.f).bind fun bt267 => ((spec_EightTerms.f k bt267.1 bt267.2.1 bt267.2.2.1 bt267.2.2.2.1 bt267.2.2.2.2.1 bt267.2.2.2.2.2.1 bt267.2.2.2.2.2.2.1 bt267.2.2.2.2.2.2.2 t241 t244).bind fun bt275 => ((impl_ProductEight.f).bind fun bt279 => ((impl_EightTerms.f k bt279.1 bt279.2.1 bt279.2.2.1 bt279.2.2.2.1 bt279.2.2.2.2.1 bt279.2.2.2.2.2.1 bt279.2.2.2.2.2.2.1 bt279.2.2.2.2.2.2.2 t241 t244).bind fun bt287 => ((spec_ProductEight.f).bind fun bt291 => ((spec_EightTerms.f k bt291.1 bt291.2.1 bt291.2.2.1 bt291.2.2.2.1 bt291.2.2.2.2.1 bt291.2.2.2.2.2.1 bt291.2.2.2.2.2.2.1 bt291.2.2.2.2.2.2.2 t241 t244).bind fun bt299 => (if bt247.2.2 = 0 then (if bt251.2.2 = 0 then (if bt263.2 = bt275.2 then ((spec_A2Same.f k bt263.1 bt275.1).bind fun t303 => (if t303 = true then (if bt287.2 = bt299.2 then ((spec_A2Same.f k bt287.1 bt299.1).bind fun t304 => (laws_FnEights.j0 k t241 t244 bt263.2 bt275.1 bt287.2 bt299.1 (!t304) bt247.1 bt247.2.1 bt251.1 bt251.2.1)) else (laws_FnEights.j0 k t241 t244 bt263.2 bt275.1 bt287.2 bt299.1 true bt247.1 bt247.2.1 bt251.1 bt251.2.1)) else (laws_FnEights.j0 k t241 t244 bt263.2 bt275.1 bt287.2 bt299.1 true bt247.1 bt247.2.1 bt251.1 bt251.2.1))) else (laws_FnEights.j0 k t241 t244 bt263.2 bt275.1 bt287.2 bt299.1 true bt247.1 bt247.2.1 bt251.1 bt251.2.1)) else (laws_FnEights.j0 k t241 t244 bt263.2 bt275.1 bt287.2 bt299.1 true bt247.1 bt247.2.1 bt251.1 bt251.2.1)) else (laws_FnEights.j0 k t241 t244 bt263.2 bt275.1 bt287.2 bt299.1 true bt247.1 bt247.2.1 bt251.1 bt251.2.1)))))))))))))) = some r := by rw [if_neg (show ¬ (false = true) by decide)] at H; exact H
 clear H
 have H := H1
 clear H1
 replace H := Option.bind_eq_some_iff.mp H
 obtain ⟨t241, A50, H⟩ := H
 replace H : ((spec_A2Terms.f k l1).bind fun t244 => ((spec_RatioOf.f k t241).bind fun bt247 => ((spec_RatioOf.f k t244).bind fun bt251 => ((impl_SumEight.f).bind fun bt255 => ((impl_EightTerms.f k bt255.1 bt255.2.1 bt255.2.2.1 bt255.2.2.2.1 bt255.2.2.2.2.1 bt255.2.2.2.2.2.1 bt255.2.2.2.2.2.2.1 bt255.2.2.2.2.2.2.2 t241 t244).bind fun bt263 => ((spec_SumEight.f).bind fun bt267 => ((spec_EightTerms.f k bt267.1 bt267.2.1 bt267.2.2.1 bt267.2.2.2.1 bt267.2.2.2.2.1 bt267.2.2.2.2.2.1 bt267.2.2.2.2.2.2.1 bt267.2.2.2.2.2.2.2 t241 t244).bind fun bt275 => ((impl_ProductEight.f).bind fun bt279 => ((impl_EightTerms.f k bt279.1 bt279.2.1 bt279.2.2.1 bt279.2.2.2.1 bt279.2.2.2.2.1 bt279.2.2.2.2.2.1 bt279.2.2.2.2.2.2.1 bt279.2.2.2.2.2.2.2 t241 t244).bind fun bt287 => ((spec_ProductEight.f).bind fun bt291 => ((spec_EightTerms.f k bt291.1 bt291.2.1 bt291.2.2.1 bt291.2.2.2.1 bt291.2.2.2.2.1 bt291.2.2.2.2.2.1 bt291.2.2.2.2.2.2.1 bt291.2.2.2.2.2.2.2 t241 t244).bind fun bt299 => (if bt247.2.2 = 0 then (if bt251.2.2 = 0 then (if bt263.2 = bt275.2 then ((spec_A2Same.f k bt263.1 bt275.1).bind fun t303 => (if t303 = true then (if bt287.2 = bt299.2 then ((spec_A2Same.f k bt287.1 bt299.1).bind fun t304 => (laws_FnEights.j0 k t241 t244 bt263.2 bt275.1 bt287.2 bt299.1 (!t304) bt247.1 bt247.2.1 bt251.1 bt251.2.1)) else (laws_FnEights.j0 k t241 t244 bt263.2 bt275.1 bt287.2 bt299.1 true bt247.1 bt247.2.1 bt251.1 bt251.2.1)) else (laws_FnEights.j0 k t241 t244 bt263.2 bt275.1 bt287.2 bt299.1 true bt247.1 bt247.2.1 bt251.1 bt251.2.1))) else (laws_FnEights.j0 k t241 t244 bt263.2 bt275.1 bt287.2 bt299.1 true bt247.1 bt247.2.1 bt251.1 bt251.2.1)) else (laws_FnEights.j0 k t241 t244 bt263.2 bt275.1 bt287.2 bt299.1 true bt247.1 bt247.2.1 bt251.1 bt251.2.1)) else (laws_FnEights.j0 k t241 t244 bt263.2 bt275.1 bt287.2 bt299.1 true bt247.1 bt247.2.1 bt251.1 bt251.2.1))))))))))))) = some r := H
 have A5 := aM8_ A50
 clear A50
 replace H := Option.bind_eq_some_iff.mp H
 obtain ⟨t244, A60, H⟩ := H
 replace H : ((spec_RatioOf.f k t241).bind fun bt247 => ((spec_RatioOf.f k t244).bind fun bt251 => ((impl_SumEight.f).bind fun bt255 => ((impl_EightTerms.f k bt255.1 bt255.2.1 bt255.2.2.1 bt255.2.2.2.1 bt255.2.2.2.2.1 bt255.2.2.2.2.2.1 bt255.2.2.2.2.2.2.1 bt255.2.2.2.2.2.2.2 t241 t244).bind fun bt263 => ((spec_SumEight.f).bind fun bt267 => ((spec_EightTerms.f k bt267.1 bt267.2.1 bt267.2.2.1 bt267.2.2.2.1 bt267.2.2.2.2.1 bt267.2.2.2.2.2.1 bt267.2.2.2.2.2.2.1 bt267.2.2.2.2.2.2.2 t241 t244).bind fun bt275 => ((impl_ProductEight.f).bind fun bt279 => ((impl_EightTerms.f k bt279.1 bt279.2.1 bt279.2.2.1 bt279.2.2.2.1 bt279.2.2.2.2.1 bt279.2.2.2.2.2.1 bt279.2.2.2.2.2.2.1 bt279.2.2.2.2.2.2.2 t241 t244).bind fun bt287 => ((spec_ProductEight.f).bind fun bt291 => ((spec_EightTerms.f k bt291.1 bt291.2.1 bt291.2.2.1 bt291.2.2.2.1 bt291.2.2.2.2.1 bt291.2.2.2.2.2.1 bt291.2.2.2.2.2.2.1 bt291.2.2.2.2.2.2.2 t241 t244).bind fun bt299 => (if bt247.2.2 = 0 then (if bt251.2.2 = 0 then (if bt263.2 = bt275.2 then ((spec_A2Same.f k bt263.1 bt275.1).bind fun t303 => (if t303 = true then (if bt287.2 = bt299.2 then ((spec_A2Same.f k bt287.1 bt299.1).bind fun t304 => (laws_FnEights.j0 k t241 t244 bt263.2 bt275.1 bt287.2 bt299.1 (!t304) bt247.1 bt247.2.1 bt251.1 bt251.2.1)) else (laws_FnEights.j0 k t241 t244 bt263.2 bt275.1 bt287.2 bt299.1 true bt247.1 bt247.2.1 bt251.1 bt251.2.1)) else (laws_FnEights.j0 k t241 t244 bt263.2 bt275.1 bt287.2 bt299.1 true bt247.1 bt247.2.1 bt251.1 bt251.2.1))) else (laws_FnEights.j0 k t241 t244 bt263.2 bt275.1 bt287.2 bt299.1 true bt247.1 bt247.2.1 bt251.1 bt251.2.1)) else (laws_FnEights.j0 k t241 t244 bt263.2 bt275.1 bt287.2 bt299.1 true bt247.1 bt247.2.1 bt251.1 bt251.2.1)) else (laws_FnEights.j0 k t241 t244 bt263.2 bt275.1 bt287.2 bt299.1 true bt247.1 bt247.2.1 bt251.1 bt251.2.1)))))))))))) = some r := H
 have A6 := aM8_ A60
 clear A60
 replace H := Option.bind_eq_some_iff.mp H
 obtain ⟨⟨t247, t248, t249⟩, A70, H⟩ := H
 replace H : ((spec_RatioOf.f k t244).bind fun bt251 => ((impl_SumEight.f).bind fun bt255 => ((impl_EightTerms.f k bt255.1 bt255.2.1 bt255.2.2.1 bt255.2.2.2.1 bt255.2.2.2.2.1 bt255.2.2.2.2.2.1 bt255.2.2.2.2.2.2.1 bt255.2.2.2.2.2.2.2 t241 t244).bind fun bt263 => ((spec_SumEight.f).bind fun bt267 => ((spec_EightTerms.f k bt267.1 bt267.2.1 bt267.2.2.1 bt267.2.2.2.1 bt267.2.2.2.2.1 bt267.2.2.2.2.2.1 bt267.2.2.2.2.2.2.1 bt267.2.2.2.2.2.2.2 t241 t244).bind fun bt275 => ((impl_ProductEight.f).bind fun bt279 => ((impl_EightTerms.f k bt279.1 bt279.2.1 bt279.2.2.1 bt279.2.2.2.1 bt279.2.2.2.2.1 bt279.2.2.2.2.2.1 bt279.2.2.2.2.2.2.1 bt279.2.2.2.2.2.2.2 t241 t244).bind fun bt287 => ((spec_ProductEight.f).bind fun bt291 => ((spec_EightTerms.f k bt291.1 bt291.2.1 bt291.2.2.1 bt291.2.2.2.1 bt291.2.2.2.2.1 bt291.2.2.2.2.2.1 bt291.2.2.2.2.2.2.1 bt291.2.2.2.2.2.2.2 t241 t244).bind fun bt299 => (if t249 = 0 then (if bt251.2.2 = 0 then (if bt263.2 = bt275.2 then ((spec_A2Same.f k bt263.1 bt275.1).bind fun t303 => (if t303 = true then (if bt287.2 = bt299.2 then ((spec_A2Same.f k bt287.1 bt299.1).bind fun t304 => (laws_FnEights.j0 k t241 t244 bt263.2 bt275.1 bt287.2 bt299.1 (!t304) t247 t248 bt251.1 bt251.2.1)) else (laws_FnEights.j0 k t241 t244 bt263.2 bt275.1 bt287.2 bt299.1 true t247 t248 bt251.1 bt251.2.1)) else (laws_FnEights.j0 k t241 t244 bt263.2 bt275.1 bt287.2 bt299.1 true t247 t248 bt251.1 bt251.2.1))) else (laws_FnEights.j0 k t241 t244 bt263.2 bt275.1 bt287.2 bt299.1 true t247 t248 bt251.1 bt251.2.1)) else (laws_FnEights.j0 k t241 t244 bt263.2 bt275.1 bt287.2 bt299.1 true t247 t248 bt251.1 bt251.2.1)) else (laws_FnEights.j0 k t241 t244 bt263.2 bt275.1 bt287.2 bt299.1 true t247 t248 bt251.1 bt251.2.1))))))))))) = some r := H
 have A7 := aM8_ A70
 clear A70
 replace H := Option.bind_eq_some_iff.mp H
 obtain ⟨⟨t251, t252, t253⟩, A80, H⟩ := H
 replace H : ((impl_SumEight.f).bind fun bt255 => ((impl_EightTerms.f k bt255.1 bt255.2.1 bt255.2.2.1 bt255.2.2.2.1 bt255.2.2.2.2.1 bt255.2.2.2.2.2.1 bt255.2.2.2.2.2.2.1 bt255.2.2.2.2.2.2.2 t241 t244).bind fun bt263 => ((spec_SumEight.f).bind fun bt267 => ((spec_EightTerms.f k bt267.1 bt267.2.1 bt267.2.2.1 bt267.2.2.2.1 bt267.2.2.2.2.1 bt267.2.2.2.2.2.1 bt267.2.2.2.2.2.2.1 bt267.2.2.2.2.2.2.2 t241 t244).bind fun bt275 => ((impl_ProductEight.f).bind fun bt279 => ((impl_EightTerms.f k bt279.1 bt279.2.1 bt279.2.2.1 bt279.2.2.2.1 bt279.2.2.2.2.1 bt279.2.2.2.2.2.1 bt279.2.2.2.2.2.2.1 bt279.2.2.2.2.2.2.2 t241 t244).bind fun bt287 => ((spec_ProductEight.f).bind fun bt291 => ((spec_EightTerms.f k bt291.1 bt291.2.1 bt291.2.2.1 bt291.2.2.2.1 bt291.2.2.2.2.1 bt291.2.2.2.2.2.1 bt291.2.2.2.2.2.2.1 bt291.2.2.2.2.2.2.2 t241 t244).bind fun bt299 => (if t249 = 0 then (if t253 = 0 then (if bt263.2 = bt275.2 then ((spec_A2Same.f k bt263.1 bt275.1).bind fun t303 => (if t303 = true then (if bt287.2 = bt299.2 then ((spec_A2Same.f k bt287.1 bt299.1).bind fun t304 => (laws_FnEights.j0 k t241 t244 bt263.2 bt275.1 bt287.2 bt299.1 (!t304) t247 t248 t251 t252)) else (laws_FnEights.j0 k t241 t244 bt263.2 bt275.1 bt287.2 bt299.1 true t247 t248 t251 t252)) else (laws_FnEights.j0 k t241 t244 bt263.2 bt275.1 bt287.2 bt299.1 true t247 t248 t251 t252))) else (laws_FnEights.j0 k t241 t244 bt263.2 bt275.1 bt287.2 bt299.1 true t247 t248 t251 t252)) else (laws_FnEights.j0 k t241 t244 bt263.2 bt275.1 bt287.2 bt299.1 true t247 t248 t251 t252)) else (laws_FnEights.j0 k t241 t244 bt263.2 bt275.1 bt287.2 bt299.1 true t247 t248 t251 t252)))))))))) = some r := H
 have A8 := aM8_ A80
 clear A80
 replace H := Option.bind_eq_some_iff.mp H
 obtain ⟨⟨t255, t256, t257, t258, t259, t260, t261, t262⟩, A90, H⟩ := H
 replace H : ((impl_EightTerms.f k t255 t256 t257 t258 t259 t260 t261 t262 t241 t244).bind fun bt263 => ((spec_SumEight.f).bind fun bt267 => ((spec_EightTerms.f k bt267.1 bt267.2.1 bt267.2.2.1 bt267.2.2.2.1 bt267.2.2.2.2.1 bt267.2.2.2.2.2.1 bt267.2.2.2.2.2.2.1 bt267.2.2.2.2.2.2.2 t241 t244).bind fun bt275 => ((impl_ProductEight.f).bind fun bt279 => ((impl_EightTerms.f k bt279.1 bt279.2.1 bt279.2.2.1 bt279.2.2.2.1 bt279.2.2.2.2.1 bt279.2.2.2.2.2.1 bt279.2.2.2.2.2.2.1 bt279.2.2.2.2.2.2.2 t241 t244).bind fun bt287 => ((spec_ProductEight.f).bind fun bt291 => ((spec_EightTerms.f k bt291.1 bt291.2.1 bt291.2.2.1 bt291.2.2.2.1 bt291.2.2.2.2.1 bt291.2.2.2.2.2.1 bt291.2.2.2.2.2.2.1 bt291.2.2.2.2.2.2.2 t241 t244).bind fun bt299 => (if t249 = 0 then (if t253 = 0 then (if bt263.2 = bt275.2 then ((spec_A2Same.f k bt263.1 bt275.1).bind fun t303 => (if t303 = true then (if bt287.2 = bt299.2 then ((spec_A2Same.f k bt287.1 bt299.1).bind fun t304 => (laws_FnEights.j0 k t241 t244 bt263.2 bt275.1 bt287.2 bt299.1 (!t304) t247 t248 t251 t252)) else (laws_FnEights.j0 k t241 t244 bt263.2 bt275.1 bt287.2 bt299.1 true t247 t248 t251 t252)) else (laws_FnEights.j0 k t241 t244 bt263.2 bt275.1 bt287.2 bt299.1 true t247 t248 t251 t252))) else (laws_FnEights.j0 k t241 t244 bt263.2 bt275.1 bt287.2 bt299.1 true t247 t248 t251 t252)) else (laws_FnEights.j0 k t241 t244 bt263.2 bt275.1 bt287.2 bt299.1 true t247 t248 t251 t252)) else (laws_FnEights.j0 k t241 t244 bt263.2 bt275.1 bt287.2 bt299.1 true t247 t248 t251 t252))))))))) = some r := H
 have A9 := aM8_ A90
 clear A90
 replace H := Option.bind_eq_some_iff.mp H
 obtain ⟨⟨t263, t266⟩, A100, H⟩ := H
 replace H : ((spec_SumEight.f).bind fun bt267 => ((spec_EightTerms.f k bt267.1 bt267.2.1 bt267.2.2.1 bt267.2.2.2.1 bt267.2.2.2.2.1 bt267.2.2.2.2.2.1 bt267.2.2.2.2.2.2.1 bt267.2.2.2.2.2.2.2 t241 t244).bind fun bt275 => ((impl_ProductEight.f).bind fun bt279 => ((impl_EightTerms.f k bt279.1 bt279.2.1 bt279.2.2.1 bt279.2.2.2.1 bt279.2.2.2.2.1 bt279.2.2.2.2.2.1 bt279.2.2.2.2.2.2.1 bt279.2.2.2.2.2.2.2 t241 t244).bind fun bt287 => ((spec_ProductEight.f).bind fun bt291 => ((spec_EightTerms.f k bt291.1 bt291.2.1 bt291.2.2.1 bt291.2.2.2.1 bt291.2.2.2.2.1 bt291.2.2.2.2.2.1 bt291.2.2.2.2.2.2.1 bt291.2.2.2.2.2.2.2 t241 t244).bind fun bt299 => (if t249 = 0 then (if t253 = 0 then (if t266 = bt275.2 then ((spec_A2Same.f k t263 bt275.1).bind fun t303 => (if t303 = true then (if bt287.2 = bt299.2 then ((spec_A2Same.f k bt287.1 bt299.1).bind fun t304 => (laws_FnEights.j0 k t241 t244 t266 bt275.1 bt287.2 bt299.1 (!t304) t247 t248 t251 t252)) else (laws_FnEights.j0 k t241 t244 t266 bt275.1 bt287.2 bt299.1 true t247 t248 t251 t252)) else (laws_FnEights.j0 k t241 t244 t266 bt275.1 bt287.2 bt299.1 true t247 t248 t251 t252))) else (laws_FnEights.j0 k t241 t244 t266 bt275.1 bt287.2 bt299.1 true t247 t248 t251 t252)) else (laws_FnEights.j0 k t241 t244 t266 bt275.1 bt287.2 bt299.1 true t247 t248 t251 t252)) else (laws_FnEights.j0 k t241 t244 t266 bt275.1 bt287.2 bt299.1 true t247 t248 t251 t252)))))))) = some r := H
 have A10 := aM8_ A100
 clear A100
 replace H := Option.bind_eq_some_iff.mp H
 obtain ⟨⟨t267, t268, t269, t270, t271, t272, t273, t274⟩, A110, H⟩ := H
 replace H : ((spec_EightTerms.f k t267 t268 t269 t270 t271 t272 t273 t274 t241 t244).bind fun bt275 => ((impl_ProductEight.f).bind fun bt279 => ((impl_EightTerms.f k bt279.1 bt279.2.1 bt279.2.2.1 bt279.2.2.2.1 bt279.2.2.2.2.1 bt279.2.2.2.2.2.1 bt279.2.2.2.2.2.2.1 bt279.2.2.2.2.2.2.2 t241 t244).bind fun bt287 => ((spec_ProductEight.f).bind fun bt291 => ((spec_EightTerms.f k bt291.1 bt291.2.1 bt291.2.2.1 bt291.2.2.2.1 bt291.2.2.2.2.1 bt291.2.2.2.2.2.1 bt291.2.2.2.2.2.2.1 bt291.2.2.2.2.2.2.2 t241 t244).bind fun bt299 => (if t249 = 0 then (if t253 = 0 then (if t266 = bt275.2 then ((spec_A2Same.f k t263 bt275.1).bind fun t303 => (if t303 = true then (if bt287.2 = bt299.2 then ((spec_A2Same.f k bt287.1 bt299.1).bind fun t304 => (laws_FnEights.j0 k t241 t244 t266 bt275.1 bt287.2 bt299.1 (!t304) t247 t248 t251 t252)) else (laws_FnEights.j0 k t241 t244 t266 bt275.1 bt287.2 bt299.1 true t247 t248 t251 t252)) else (laws_FnEights.j0 k t241 t244 t266 bt275.1 bt287.2 bt299.1 true t247 t248 t251 t252))) else (laws_FnEights.j0 k t241 t244 t266 bt275.1 bt287.2 bt299.1 true t247 t248 t251 t252)) else (laws_FnEights.j0 k t241 t244 t266 bt275.1 bt287.2 bt299.1 true t247 t248 t251 t252)) else (laws_FnEights.j0 k t241 t244 t266 bt275.1 bt287.2 bt299.1 true t247 t248 t251 t252))))))) = some r := H
 have A11 := aM8_ A110
 clear A110
 replace H := Option.bind_eq_some_iff.mp H
 obtain ⟨⟨t275, t278⟩, A120, H⟩ := H
 replace H : ((impl_ProductEight.f).bind fun bt279 => ((impl_EightTerms.f k bt279.1 bt279.2.1 bt279.2.2.1 bt279.2.2.2.1 bt279.2.2.2.2.1 bt279.2.2.2.2.2.1 bt279.2.2.2.2.2.2.1 bt279.2.2.2.2.2.2.2 t241 t244).bind fun bt287 => ((spec_ProductEight.f).bind fun bt291 => ((spec_EightTerms.f k bt291.1 bt291.2.1 bt291.2.2.1 bt291.2.2.2.1 bt291.2.2.2.2.1 bt291.2.2.2.2.2.1 bt291.2.2.2.2.2.2.1 bt291.2.2.2.2.2.2.2 t241 t244).bind fun bt299 => (if t249 = 0 then (if t253 = 0 then (if t266 = t278 then ((spec_A2Same.f k t263 t275).bind fun t303 => (if t303 = true then (if bt287.2 = bt299.2 then ((spec_A2Same.f k bt287.1 bt299.1).bind fun t304 => (laws_FnEights.j0 k t241 t244 t266 t275 bt287.2 bt299.1 (!t304) t247 t248 t251 t252)) else (laws_FnEights.j0 k t241 t244 t266 t275 bt287.2 bt299.1 true t247 t248 t251 t252)) else (laws_FnEights.j0 k t241 t244 t266 t275 bt287.2 bt299.1 true t247 t248 t251 t252))) else (laws_FnEights.j0 k t241 t244 t266 t275 bt287.2 bt299.1 true t247 t248 t251 t252)) else (laws_FnEights.j0 k t241 t244 t266 t275 bt287.2 bt299.1 true t247 t248 t251 t252)) else (laws_FnEights.j0 k t241 t244 t266 t275 bt287.2 bt299.1 true t247 t248 t251 t252)))))) = some r := H
 have A12 := aM8_ A120
 clear A120
 replace H := Option.bind_eq_some_iff.mp H
 obtain ⟨⟨t279, t280, t281, t282, t283, t284, t285, t286⟩, A130, H⟩ := H
 replace H : ((impl_EightTerms.f k t279 t280 t281 t282 t283 t284 t285 t286 t241 t244).bind fun bt287 => ((spec_ProductEight.f).bind fun bt291 => ((spec_EightTerms.f k bt291.1 bt291.2.1 bt291.2.2.1 bt291.2.2.2.1 bt291.2.2.2.2.1 bt291.2.2.2.2.2.1 bt291.2.2.2.2.2.2.1 bt291.2.2.2.2.2.2.2 t241 t244).bind fun bt299 => (if t249 = 0 then (if t253 = 0 then (if t266 = t278 then ((spec_A2Same.f k t263 t275).bind fun t303 => (if t303 = true then (if bt287.2 = bt299.2 then ((spec_A2Same.f k bt287.1 bt299.1).bind fun t304 => (laws_FnEights.j0 k t241 t244 t266 t275 bt287.2 bt299.1 (!t304) t247 t248 t251 t252)) else (laws_FnEights.j0 k t241 t244 t266 t275 bt287.2 bt299.1 true t247 t248 t251 t252)) else (laws_FnEights.j0 k t241 t244 t266 t275 bt287.2 bt299.1 true t247 t248 t251 t252))) else (laws_FnEights.j0 k t241 t244 t266 t275 bt287.2 bt299.1 true t247 t248 t251 t252)) else (laws_FnEights.j0 k t241 t244 t266 t275 bt287.2 bt299.1 true t247 t248 t251 t252)) else (laws_FnEights.j0 k t241 t244 t266 t275 bt287.2 bt299.1 true t247 t248 t251 t252))))) = some r := H
 have A13 := aM8_ A130
 clear A130
 replace H := Option.bind_eq_some_iff.mp H
 obtain ⟨⟨t287, t290⟩, A140, H⟩ := H
 replace H : ((spec_ProductEight.f).bind fun bt291 => ((spec_EightTerms.f k bt291.1 bt291.2.1 bt291.2.2.1 bt291.2.2.2.1 bt291.2.2.2.2.1 bt291.2.2.2.2.2.1 bt291.2.2.2.2.2.2.1 bt291.2.2.2.2.2.2.2 t241 t244).bind fun bt299 => (if t249 = 0 then (if t253 = 0 then (if t266 = t278 then ((spec_A2Same.f k t263 t275).bind fun t303 => (if t303 = true then (if t290 = bt299.2 then ((spec_A2Same.f k t287 bt299.1).bind fun t304 => (laws_FnEights.j0 k t241 t244 t266 t275 t290 bt299.1 (!t304) t247 t248 t251 t252)) else (laws_FnEights.j0 k t241 t244 t266 t275 t290 bt299.1 true t247 t248 t251 t252)) else (laws_FnEights.j0 k t241 t244 t266 t275 t290 bt299.1 true t247 t248 t251 t252))) else (laws_FnEights.j0 k t241 t244 t266 t275 t290 bt299.1 true t247 t248 t251 t252)) else (laws_FnEights.j0 k t241 t244 t266 t275 t290 bt299.1 true t247 t248 t251 t252)) else (laws_FnEights.j0 k t241 t244 t266 t275 t290 bt299.1 true t247 t248 t251 t252)))) = some r := H
 have A14 := aM8_ A140
 clear A140
 replace H := Option.bind_eq_some_iff.mp H
 obtain ⟨⟨t291, t292, t293, t294, t295, t296, t297, t298⟩, A150, H⟩ := H
 replace H : ((spec_EightTerms.f k t291 t292 t293 t294 t295 t296 t297 t298 t241 t244).bind fun bt299 => (if t249 = 0 then (if t253 = 0 then (if t266 = t278 then ((spec_A2Same.f k t263 t275).bind fun t303 => (if t303 = true then (if t290 = bt299.2 then ((spec_A2Same.f k t287 bt299.1).bind fun t304 => (laws_FnEights.j0 k t241 t244 t266 t275 t290 bt299.1 (!t304) t247 t248 t251 t252)) else (laws_FnEights.j0 k t241 t244 t266 t275 t290 bt299.1 true t247 t248 t251 t252)) else (laws_FnEights.j0 k t241 t244 t266 t275 t290 bt299.1 true t247 t248 t251 t252))) else (laws_FnEights.j0 k t241 t244 t266 t275 t290 bt299.1 true t247 t248 t251 t252)) else (laws_FnEights.j0 k t241 t244 t266 t275 t290 bt299.1 true t247 t248 t251 t252)) else (laws_FnEights.j0 k t241 t244 t266 t275 t290 bt299.1 true t247 t248 t251 t252))) = some r := H
 have A15 := aM8_ A150
 clear A150
 replace H := Option.bind_eq_some_iff.mp H
 obtain ⟨⟨t299, t302⟩, A160, H⟩ := H
 replace H : (if t249 = 0 then (if t253 = 0 then (if t266 = t278 then ((spec_A2Same.f k t263 t275).bind fun t303 => (if t303 = true then (if t290 = t302 then ((spec_A2Same.f k t287 t299).bind fun t304 => (laws_FnEights.j0 k t241 t244 t266 t275 t290 t299 (!t304) t247 t248 t251 t252)) else (laws_FnEights.j0 k t241 t244 t266 t275 t290 t299 true t247 t248 t251 t252)) else (laws_FnEights.j0 k t241 t244 t266 t275 t290 t299 true t247 t248 t251 t252))) else (laws_FnEights.j0 k t241 t244 t266 t275 t290 t299 true t247 t248 t251 t252)) else (laws_FnEights.j0 k t241 t244 t266 t275 t290 t299 true t247 t248 t251 t252)) else (laws_FnEights.j0 k t241 t244 t266 t275 t290 t299 true t247 t248 t251 t252)) = some r := H
 have A16 := aM8_ A160
 clear A160
 have HC17 := aM8_ H
 clear H
 go_enter Try.func8, Try.ntmps8
 go_upto_region 11 with (first | (go_at_call 26; (with_reducible refine (laws_a2Long.calls _ _ l0 _ _ l1 false _ ?side1 ?side2 ?side3 ?side4 A3.out).mono ?_); (case side1 => repeat (first | exact HR0.out | (with_reducible refine Kd.C_alloc ?_ _) | (with_reducible refine Kd.C_drewN ?_ _) | (with_reducible refine Kd.C_drew ?_))); (case side2 => exact HC0.out); (case side3 => repeat (first | exact HR1.out | (with_reducible refine Kd.C_alloc ?_ _) | (with_reducible refine Kd.C_drewN ?_ _) | (with_reducible refine Kd.C_drew ?_))); (case side4 => exact HC1.out); rintro e w' ⟨rfl, ⟨nd, rfl⟩⟩; (try first | exact ⟨rfl, _, World.drewN_drewN _ _ _⟩ | exact ⟨rfl, _, Eq.trans (World.drewN_drewN _ _ _) (congrArg (World.drewN _) (Nat.add_assoc _ _ _))⟩)) | (go_at_call 27; (with_reducible refine (spec_A2Terms.calls k _ _ l0 t241 _ ?side1 ?side2 A5.out).mono ?_); (case side1 => repeat (first | exact HR0.out | (with_reducible refine Kd.C_alloc ?_ _) | (with_reducible refine Kd.C_drewN ?_ _) | (with_reducible refine Kd.C_drew ?_))); (case side2 => exact HC0.out); rintro e w18 ⟨v242, rfl, ho0, hb⟩; have n0_ := aM8_ (Kd.R_lower ho0 (below_size q8x33_)); have n1_ := aM8_ (bT8_ q8x33_ hb); clear HB; have HO243 := n0_; have HB := n1_; clear n0_ n1_; (try clear hb); (try clear hb2); (try clear hk); (try clear hi); (try clear ho0)) | (go_at_call 27; (with_reducible refine (spec_A2Terms.calls k _ _ l1 t244 _ ?side1 ?side2 A6.out).mono ?_); (case side1 => repeat (first | exact (Kd.C_below HR1.out HB.out) | (with_reducible refine Kd.C_alloc ?_ _) | (with_reducible refine Kd.C_drewN ?_ _) | (with_reducible refine Kd.C_drew ?_))); (case side2 => exact HC1.out); rintro e w19 ⟨v245, rfl, ho0, hb⟩; have n0_ := aM8_ (Kd.R_elder' q8x13_ (Kd.R_base ho0) hb); have n1_ := aM8_ (Kd.R_lower (Kd.R_new' ho0 (Kd.R_lt q8x13_)) (below_size q8x33_)); have n2_ := aM8_ (bT8_ q8x33_ hb); clear HO243; clear HB; have HO243 := n0_; have HO246 := n1_; have HB := n2_; clear n0_ n1_ n2_; (try clear hb); (try clear hb2); (try clear hk); (try clear hi); (try clear ho0); obtain ⟨Ao20, co20, eo20⟩ := Kd.R_slice HO243.out; subst eo20) | (go_at_call 30; (with_reducible refine (spec_RatioOf.calls k _ _ t241 t247 t248 t249 _ ?side1 ?side2 A7.out).mono ?_); (case side1 => repeat (first | exact (Kd.R_reads' HO243.out).2.2 | (with_reducible refine Kd.C_alloc ?_ _) | (with_reducible refine Kd.C_drewN ?_ _) | (with_reducible refine Kd.C_drew ?_))); (case side2 => exact (Kd.R_reads' HO243.out).2.1); rintro e w21 ⟨rfl, hb⟩; have n0_ := aM8_ (rB8_ q8x13_ hb); have n1_ := aM8_ (rB8_ q8x14_ hb); have n2_ := aM8_ (bT8_ q8x33_ hb); clear HO243; clear HO246; clear HB; have HO243 := n0_; have HO246 := n1_; have HB := n2_; clear n0_ n1_ n2_; (try clear hb); (try clear hb2); (try clear hk); (try clear hi)) | ((with_reducible refine gate_dst (N := 7) rfl ?_); (try (refine gate_guard (by rfl) ?_; dsimp only)); refine box_event ?hg (N := 7) ?hd (cs := #[.int .i64 0, .int .i64 0]) (t := 54) ?hr ?_; (case hd => rfl); (case hg => rfl); (case hr => first | (go_simp; done) | (go_simp; rfl)); intro gb250 hg w22 hbox hb; have n0_ := aM8_ (rB8_ q8x13_ hb); have n1_ := aM8_ (rB8_ q8x14_ hb); have n2_ := aM8_ (bT8_ q8x33_ hb); have n3_ := aM8_ (hbox); have n4_ := aM8_ ((by rw [hg]; exact (below_size q8x33_) : w.heap.size ≤ gb250)); have n5_ := aM8_ ((by rw [hg]; exact (below_size q8x33_) : w.heap.size ≤ gb250)); clear HO243; clear HO246; clear HB; have HO243 := n0_; have HO246 := n1_; have HB := n2_; have BK250 := n3_; have GW250 := n4_; have GE250 := n5_; clear n0_ n1_ n2_ n3_ n4_ n5_; clear hb hbox hg; have hcz23_0 : w22.cell? ⟨gb250, 0, none⟩ = some (.int .i64 0) := (kC8_ BK250.out 0).trans rfl; have hcz23_1 : w22.cell? ⟨gb250, 1, none⟩ = some (.int .i64 0) := (kC8_ BK250.out 1).trans rfl; have hfz23_0 := blk_frozen BK250.out 0; have hfz23_1 := blk_frozen BK250.out 1; obtain ⟨Ao24, co24, eo24⟩ := Kd.R_slice HO246.out; subst eo24) | (go_at_call 30; (with_reducible refine (spec_RatioOf.calls k _ _ t244 t251 t252 t253 _ ?side1 ?side2 A8.out).mono ?_); (case side1 => refine (Kd.R_reads' (e := 2) (base := w.heap.size) (ok := fun k_ => (True ∧ some k_ ≠ (.slice Ao20 t241.length co20 : Value).ownBlock)) (n := t244.length) (c := co24) ?_).2.2; exact q8x42_); (case side2 => exact (Kd.R_reads' HO246.out).2.1); rintro e w25 ⟨rfl, hb⟩; have n0_ := aM8_ (rB8_ (by (with_reducible repeat (first | apply rA8_ | apply rN8_ | apply rD8_)); exact (Kd.R_mono (Kd.R_far (p := ⟨gb250, 1, none⟩) (Kd.R_far (p := ⟨gb250, 0, none⟩) (Kd.R_types HO243.out BK250.out (by decide)) (fun _ hk => hk.2) (.int .i64 t247)) (fun _ hk => hk.2) (.int .i64 t248)) (fun _ h_ => h_.1))) hb); have n1_ := aM8_ (rB8_ q8x42_ hb); have n2_ := aM8_ (kB8_ (g := gb250) (o := .cells #[.int .i64 t247, .int .i64 t248] 54 (0, 0)) (by (with_reducible repeat (first | refine kN8_ ?_ _ | refine kD8_ ?_ | refine kA8_ ?_ _)); refine blk_put (cs := #[.int .i64 t247, .int .i64 0]) ?_ 1 _ rfl; (with_reducible repeat (first | refine kN8_ ?_ _ | refine kD8_ ?_ | refine kA8_ ?_ _)); refine blk_put (cs := #[.int .i64 0, .int .i64 0]) ?_ 0 _ rfl; (with_reducible repeat (first | refine kN8_ ?_ _ | refine kD8_ ?_ | refine kA8_ ?_ _)); exact BK250.out) hb); have n3_ := aM8_ (bT8_ q8x37_ hb); clear HO243; clear HO246; clear BK250; clear HB; have HO243 := n0_; have HO246 := n1_; have BK250 := n2_; have HB := n3_; clear n0_ n1_ n2_ n3_; (try clear hb); (try clear hb2); (try clear hk); (try clear hi)) | ((with_reducible refine gate_dst (N := 9) rfl ?_); (try (refine gate_guard (by rfl) ?_; dsimp only)); refine box_event ?hg (N := 9) ?hd (cs := #[.int .i64 0, .int .i64 0]) (t := 54) ?hr ?_; (case hd => rfl); (case hg => rfl); (case hr => first | (go_simp; done) | (go_simp; rfl)); intro gb254 hg w26 hbox hb; have n0_ := aM8_ (rB8_ q8x13_ hb); have n1_ := aM8_ (rB8_ q8x14_ hb); have n2_ := aM8_ (kB8_ (g := gb250) (o := .cells #[.int .i64 t247, .int .i64 t248] 54 (0, 0)) q8x2_ hb); have n3_ := aM8_ (bT8_ q8x37_ hb); have n4_ := aM8_ (hbox); have n5_ := aM8_ ((by rw [hg]; exact (below_size q8x37_) : w.heap.size ≤ gb254)); have n6_ := aM8_ ((by rw [hg]; exact (below_size q8x37_) : w.heap.size ≤ gb254)); have n7_ := aM8_ ((q8x9_ : gb250 ≠ gb254)); have n8_ := aM8_ ((q8x10_ : gb254 ≠ gb250)); clear HO243; clear HO246; clear BK250; clear HB; have HO243 := n0_; have HO246 := n1_; have BK250 := n2_; have HB := n3_; have BK254 := n4_; have GW254 := n5_; have GE254 := n6_; have NB250_254 := n7_; have NB254_250 := n8_; clear n0_ n1_ n2_ n3_ n4_ n5_ n6_ n7_ n8_; clear hb hbox hg; have hnb27 := NB254_250.out; have hnc27 := NB250_254.out; have hcz28_0 : w26.cell? ⟨gb254, 0, none⟩ = some (.int .i64 0) := (kC8_ BK254.out 0).trans rfl; have hcz28_1 : w26.cell? ⟨gb254, 1, none⟩ = some (.int .i64 0) := (kC8_ BK254.out 1).trans rfl; have hfz28_0 := blk_frozen BK254.out 0; have hfz28_1 := blk_frozen BK254.out 1) | (go_at_call 33; (with_reducible refine (impl_SumEight.calls  t255 t256 t257 t258 t259 t260 t261 t262 _ A9.out).mono ?_); rintro e w29 ⟨rfl, hb⟩; have n0_ := aM8_ (rB8_ (by (with_reducible repeat (first | apply rA8_ | apply rN8_ | apply rD8_)); exact (Kd.R_mono (Kd.R_far (p := ⟨gb254, 1, none⟩) (Kd.R_far (p := ⟨gb254, 0, none⟩) (Kd.R_types HO243.out BK254.out (by decide)) (fun _ hk => hk.2) (.int .i64 t251)) (fun _ hk => hk.2) (.int .i64 t252)) (fun _ h_ => h_.1))) hb); have n1_ := aM8_ (rB8_ (by (with_reducible repeat (first | apply rA8_ | apply rN8_ | apply rD8_)); exact (Kd.R_mono (Kd.R_far (p := ⟨gb254, 1, none⟩) (Kd.R_far (p := ⟨gb254, 0, none⟩) (Kd.R_types HO246.out BK254.out (by decide)) (fun _ hk => hk.2) (.int .i64 t251)) (fun _ hk => hk.2) (.int .i64 t252)) (fun _ h_ => h_.1))) hb); have n2_ := aM8_ (kB8_ (g := gb250) (o := .cells #[.int .i64 t247, .int .i64 t248] 54 (0, 0)) (by (with_reducible repeat (first | refine kN8_ ?_ _ | refine kD8_ ?_ | refine kA8_ ?_ _)); refine blk_far ?_ NB250_254.out _; (with_reducible repeat (first | refine kN8_ ?_ _ | refine kD8_ ?_ | refine kA8_ ?_ _)); refine blk_far ?_ NB250_254.out _; (with_reducible repeat (first | refine kN8_ ?_ _ | refine kD8_ ?_ | refine kA8_ ?_ _)); exact BK250.out) hb); have n3_ := aM8_ (kB8_ (g := gb254) (o := .cells #[.int .i64 t251, .int .i64 t252] 54 (0, 0)) (by (with_reducible repeat (first | refine kN8_ ?_ _ | refine kD8_ ?_ | refine kA8_ ?_ _)); refine blk_put (cs := #[.int .i64 t251, .int .i64 0]) ?_ 1 _ rfl; (with_reducible repeat (first | refine kN8_ ?_ _ | refine kD8_ ?_ | refine kA8_ ?_ _)); refine blk_put (cs := #[.int .i64 0, .int .i64 0]) ?_ 0 _ rfl; (with_reducible repeat (first | refine kN8_ ?_ _ | refine kD8_ ?_ | refine kA8_ ?_ _)); exact BK254.out) hb); have n4_ := aM8_ (bT8_ q8x1_ hb); clear HO243; clear HO246; clear BK250; clear BK254; clear HB; have HO243 := n0_; have HO246 := n1_; have BK250 := n2_; have BK254 := n3_; have HB := n4_; clear n0_ n1_ n2_ n3_ n4_; (try clear hb); (try clear hb2); (try clear hk); (try clear hi)) | (go_at_call 23; (with_reducible refine (impl_EightTerms.calls k t255 t256 t257 t258 t259 t260 t261 t262 _ _ t241 _ _ t244 t263 t266 _ ?side1 ?side2 ?side3 ?side4 A10.out).mono ?_); (case side1 => repeat (first | exact (Kd.R_reads' HO243.out).2.2 | (with_reducible refine Kd.C_alloc ?_ _) | (with_reducible refine Kd.C_drewN ?_ _) | (with_reducible refine Kd.C_drew ?_))); (case side2 => exact (Kd.R_reads' HO243.out).2.1); (case side3 => repeat (first | exact (Kd.R_reads' HO246.out).2.2 | (with_reducible refine Kd.C_alloc ?_ _) | (with_reducible refine Kd.C_drewN ?_ _) | (with_reducible refine Kd.C_drew ?_))); (case side4 => exact (Kd.R_reads' HO246.out).2.1); rintro e w30 ⟨v264, rfl, ho0, hb⟩; have n0_ := aM8_ (Kd.R_elder' q8x13_ (Kd.R_base ho0) hb); have n1_ := aM8_ (Kd.R_elder' q8x14_ (Kd.R_base ho0) hb); have n2_ := aM8_ (Kd.R_lower (Kd.R_new' (Kd.R_new' ho0 (Kd.R_lt q8x13_)) (Kd.R_lt q8x14_)) (below_size q8x1_)); have n3_ := aM8_ (kB8_ (g := gb250) (o := .cells #[.int .i64 t247, .int .i64 t248] 54 (0, 0)) q8x2_ hb); have n4_ := aM8_ (kB8_ (g := gb254) (o := .cells #[.int .i64 t251, .int .i64 t252] 54 (0, 0)) q8x3_ hb); have n5_ := aM8_ (bT8_ q8x1_ hb); clear HO243; clear HO246; clear BK250; clear BK254; clear HB; have HO243 := n0_; have HO246 := n1_; have HO265 := n2_; have BK250 := n3_; have BK254 := n4_; have HB := n5_; clear n0_ n1_ n2_ n3_ n4_ n5_; (try clear hb); (try clear hb2); (try clear hk); (try clear hi); (try clear ho0)) | (go_at_call 34; (with_reducible refine (spec_SumEight.calls  t267 t268 t269 t270 t271 t272 t273 t274 _ A11.out).mono ?_); rintro e w31 ⟨rfl, hb⟩; have n0_ := aM8_ (rB8_ q8x13_ hb); have n1_ := aM8_ (rB8_ q8x14_ hb); have n2_ := aM8_ (rB8_ q8x34_ hb); have n3_ := aM8_ (kB8_ (g := gb250) (o := .cells #[.int .i64 t247, .int .i64 t248] 54 (0, 0)) q8x2_ hb); have n4_ := aM8_ (kB8_ (g := gb254) (o := .cells #[.int .i64 t251, .int .i64 t252] 54 (0, 0)) q8x3_ hb); have n5_ := aM8_ (bT8_ q8x1_ hb); clear HO243; clear HO246; clear HO265; clear BK250; clear BK254; clear HB; have HO243 := n0_; have HO246 := n1_; have HO265 := n2_; have BK250 := n3_; have BK254 := n4_; have HB := n5_; clear n0_ n1_ n2_ n3_ n4_ n5_; (try clear hb); (try clear hb2); (try clear hk); (try clear hi)) | (go_at_call 21; (with_reducible refine (spec_EightTerms.calls k t267 t268 t269 t270 t271 t272 t273 t274 _ _ t241 _ _ t244 t275 t278 _ ?side1 ?side2 ?side3 ?side4 A12.out).mono ?_); (case side1 => repeat (first | exact (Kd.R_reads' HO243.out).2.2 | (with_reducible refine Kd.C_alloc ?_ _) | (with_reducible refine Kd.C_drewN ?_ _) | (with_reducible refine Kd.C_drew ?_))); (case side2 => exact (Kd.R_reads' HO243.out).2.1); (case side3 => repeat (first | exact (Kd.R_reads' HO246.out).2.2 | (with_reducible refine Kd.C_alloc ?_ _) | (with_reducible refine Kd.C_drewN ?_ _) | (with_reducible refine Kd.C_drew ?_))); (case side4 => exact (Kd.R_reads' HO246.out).2.1); rintro e w32 ⟨v276, rfl, ho0, hb⟩; have n0_ := aM8_ (Kd.R_elder' q8x13_ (Kd.R_base ho0) hb); have n1_ := aM8_ (Kd.R_elder' q8x14_ (Kd.R_base ho0) hb); have n2_ := aM8_ (Kd.R_elder' q8x34_ (Kd.R_base ho0) hb); have n3_ := aM8_ (Kd.R_lower (Kd.R_new' (Kd.R_new' (Kd.R_new' ho0 (Kd.R_lt q8x13_)) (Kd.R_lt q8x14_)) (Kd.R_lt q8x34_)) (below_size q8x1_)); have n4_ := aM8_ (kB8_ (g := gb250) (o := .cells #[.int .i64 t247, .int .i64 t248] 54 (0, 0)) q8x2_ hb); have n5_ := aM8_ (kB8_ (g := gb254) (o := .cells #[.int .i64 t251, .int .i64 t252] 54 (0, 0)) q8x3_ hb); have n6_ := aM8_ (bT8_ q8x1_ hb); clear HO243; clear HO246; clear HO265; clear BK250; clear BK254; clear HB; have HO243 := n0_; have HO246 := n1_; have HO265 := n2_; have HO277 := n3_; have BK250 := n4_; have BK254 := n5_; have HB := n6_; clear n0_ n1_ n2_ n3_ n4_ n5_ n6_; (try clear hb); (try clear hb2); (try clear hk); (try clear hi); (try clear ho0)) | (go_at_call 35; (with_reducible refine (impl_ProductEight.calls  t279 t280 t281 t282 t283 t284 t285 t286 _ A13.out).mono ?_); rintro e w33 ⟨rfl, hb⟩; have n0_ := aM8_ (rB8_ q8x13_ hb); have n1_ := aM8_ (rB8_ q8x14_ hb); have n2_ := aM8_ (rB8_ q8x34_ hb); have n3_ := aM8_ (rB8_ q8x36_ hb); have n4_ := aM8_ (kB8_ (g := gb250) (o := .cells #[.int .i64 t247, .int .i64 t248] 54 (0, 0)) q8x2_ hb); have n5_ := aM8_ (kB8_ (g := gb254) (o := .cells #[.int .i64 t251, .int .i64 t252] 54 (0, 0)) q8x3_ hb); have n6_ := aM8_ (bT8_ q8x1_ hb); clear HO243; clear HO246; clear HO265; clear HO277; clear BK250; clear BK254; clear HB; have HO243 := n0_; have HO246 := n1_; have HO265 := n2_; have HO277 := n3_; have BK250 := n4_; have BK254 := n5_; have HB := n6_; clear n0_ n1_ n2_ n3_ n4_ n5_ n6_; (try clear hb); (try clear hb2); (try clear hk); (try clear hi)) | (go_at_call 23; (with_reducible refine (impl_EightTerms.calls k t279 t280 t281 t282 t283 t284 t285 t286 _ _ t241 _ _ t244 t287 t290 _ ?side1 ?side2 ?side3 ?side4 A14.out).mono ?_); (case side1 => repeat (first | exact (Kd.R_reads' HO243.out).2.2 | (with_reducible refine Kd.C_alloc ?_ _) | (with_reducible refine Kd.C_drewN ?_ _) | (with_reducible refine Kd.C_drew ?_))); (case side2 => exact (Kd.R_reads' HO243.out).2.1); (case side3 => repeat (first | exact (Kd.R_reads' HO246.out).2.2 | (with_reducible refine Kd.C_alloc ?_ _) | (with_reducible refine Kd.C_drewN ?_ _) | (with_reducible refine Kd.C_drew ?_))); (case side4 => exact (Kd.R_reads' HO246.out).2.1); rintro e w34 ⟨v288, rfl, ho0, hb⟩; have n0_ := aM8_ (Kd.R_elder' q8x13_ (Kd.R_base ho0) hb); have n1_ := aM8_ (Kd.R_elder' q8x14_ (Kd.R_base ho0) hb); have n2_ := aM8_ (Kd.R_elder' q8x34_ (Kd.R_base ho0) hb); have n3_ := aM8_ (Kd.R_elder' q8x36_ (Kd.R_base ho0) hb); have n4_ := aM8_ (Kd.R_lower (Kd.R_new' (Kd.R_new' (Kd.R_new' (Kd.R_new' ho0 (Kd.R_lt q8x13_)) (Kd.R_lt q8x14_)) (Kd.R_lt q8x34_)) (Kd.R_lt q8x36_)) (below_size q8x1_)); have n5_ := aM8_ (kB8_ (g := gb250) (o := .cells #[.int .i64 t247, .int .i64 t248] 54 (0, 0)) q8x2_ hb); have n6_ := aM8_ (kB8_ (g := gb254) (o := .cells #[.int .i64 t251, .int .i64 t252] 54 (0, 0)) q8x3_ hb); have n7_ := aM8_ (bT8_ q8x1_ hb); clear HO243; clear HO246; clear HO265; clear HO277; clear BK250; clear BK254; clear HB; have HO243 := n0_; have HO246 := n1_; have HO265 := n2_; have HO277 := n3_; have HO289 := n4_; have BK250 := n5_; have BK254 := n6_; have HB := n7_; clear n0_ n1_ n2_ n3_ n4_ n5_ n6_ n7_; (try clear hb); (try clear hb2); (try clear hk); (try clear hi); (try clear ho0)) | (go_at_call 36; (with_reducible refine (spec_ProductEight.calls  t291 t292 t293 t294 t295 t296 t297 t298 _ A15.out).mono ?_); rintro e w35 ⟨rfl, hb⟩; have n0_ := aM8_ (rB8_ q8x13_ hb); have n1_ := aM8_ (rB8_ q8x14_ hb); have n2_ := aM8_ (rB8_ q8x34_ hb); have n3_ := aM8_ (rB8_ q8x36_ hb); have n4_ := aM8_ (rB8_ q8x45_ hb); have n5_ := aM8_ (kB8_ (g := gb250) (o := .cells #[.int .i64 t247, .int .i64 t248] 54 (0, 0)) q8x2_ hb); have n6_ := aM8_ (kB8_ (g := gb254) (o := .cells #[.int .i64 t251, .int .i64 t252] 54 (0, 0)) q8x3_ hb); have n7_ := aM8_ (bT8_ q8x1_ hb); clear HO243; clear HO246; clear HO265; clear HO277; clear HO289; clear BK250; clear BK254; clear HB; have HO243 := n0_; have HO246 := n1_; have HO265 := n2_; have HO277 := n3_; have HO289 := n4_; have BK250 := n5_; have BK254 := n6_; have HB := n7_; clear n0_ n1_ n2_ n3_ n4_ n5_ n6_ n7_; (try clear hb); (try clear hb2); (try clear hk); (try clear hi)) | (go_at_call 21; (with_reducible refine (spec_EightTerms.calls k t291 t292 t293 t294 t295 t296 t297 t298 _ _ t241 _ _ t244 t299 t302 _ ?side1 ?side2 ?side3 ?side4 A16.out).mono ?_); (case side1 => repeat (first | exact (Kd.R_reads' HO243.out).2.2 | (with_reducible refine Kd.C_alloc ?_ _) | (with_reducible refine Kd.C_drewN ?_ _) | (with_reducible refine Kd.C_drew ?_))); (case side2 => exact (Kd.R_reads' HO243.out).2.1); (case side3 => repeat (first | exact (Kd.R_reads' HO246.out).2.2 | (with_reducible refine Kd.C_alloc ?_ _) | (with_reducible refine Kd.C_drewN ?_ _) | (with_reducible refine Kd.C_drew ?_))); (case side4 => exact (Kd.R_reads' HO246.out).2.1); rintro e w36 ⟨v300, rfl, ho0, hb⟩; have n0_ := aM8_ (Kd.R_elder' q8x13_ (Kd.R_base ho0) hb); have n1_ := aM8_ (Kd.R_elder' q8x14_ (Kd.R_base ho0) hb); have n2_ := aM8_ (Kd.R_elder' q8x34_ (Kd.R_base ho0) hb); have n3_ := aM8_ (Kd.R_elder' q8x36_ (Kd.R_base ho0) hb); have n4_ := aM8_ (Kd.R_elder' q8x45_ (Kd.R_base ho0) hb); have n5_ := aM8_ (Kd.R_lower (Kd.R_new' (Kd.R_new' (Kd.R_new' (Kd.R_new' (Kd.R_new' ho0 (Kd.R_lt q8x13_)) (Kd.R_lt q8x14_)) (Kd.R_lt q8x34_)) (Kd.R_lt q8x36_)) (Kd.R_lt q8x45_)) (below_size q8x1_)); have n6_ := aM8_ (kB8_ (g := gb250) (o := .cells #[.int .i64 t247, .int .i64 t248] 54 (0, 0)) q8x2_ hb); have n7_ := aM8_ (kB8_ (g := gb254) (o := .cells #[.int .i64 t251, .int .i64 t252] 54 (0, 0)) q8x3_ hb); have n8_ := aM8_ (bT8_ q8x1_ hb); clear HO243; clear HO246; clear HO265; clear HO277; clear HO289; clear BK250; clear BK254; clear HB; have HO243 := n0_; have HO246 := n1_; have HO265 := n2_; have HO277 := n3_; have HO289 := n4_; have HO301 := n5_; have BK250 := n6_; have BK254 := n7_; have HB := n8_; clear n0_ n1_ n2_ n3_ n4_ n5_ n6_ n7_ n8_; (try clear hb); (try clear hb2); (try clear hk); (try clear hi); (try clear ho0)) | go_quiet (first | (go_at_call 26; (with_reducible refine (laws_a2Long.calls _ _ l0 _ _ l1 false _ ?side1 ?side2 ?side3 ?side4 A3.out).mono ?_); (case side1 => repeat (first | exact HR0.out | (with_reducible refine Kd.C_alloc ?_ _) | (with_reducible refine Kd.C_drewN ?_ _) | (with_reducible refine Kd.C_drew ?_))); (case side2 => exact HC0.out); (case side3 => repeat (first | exact HR1.out | (with_reducible refine Kd.C_alloc ?_ _) | (with_reducible refine Kd.C_drewN ?_ _) | (with_reducible refine Kd.C_drew ?_))); (case side4 => exact HC1.out); rintro e w' ⟨rfl, ⟨nd, rfl⟩⟩; (try first | exact ⟨rfl, _, World.drewN_drewN _ _ _⟩ | exact ⟨rfl, _, Eq.trans (World.drewN_drewN _ _ _) (congrArg (World.drewN _) (Nat.add_assoc _ _ _))⟩))))
 (try simp only [Act.put, sa_, sz_, ss_])
 go_cut [107] (fun v107 wc => ∃ (kq : Nat) (x107_16 : Bool), v107 = .bool x107_16 ∧ Aside0 (laws_FnEights.j0 kq t241 t244 t266 t275 t290 t299 x107_16 t247 t248 t251 t252 = some r) ∧ Aside0 (kq ≤ k) ∧ Aside0 (Kd.R (Kd.int .i64) 2 wc w.heap.size (fun k_ => some k_ ≠ ((.slice Ao24 t244.length co24) : Value).ownBlock ∧ some k_ ≠ (v276 : Value).ownBlock ∧ some k_ ≠ (v300 : Value).ownBlock) (.slice Ao20 t241.length co20) t241) ∧ Aside0 (Kd.R (Kd.int .i64) 2 wc w.heap.size (fun k_ => some k_ ≠ ((.slice Ao20 t241.length co20) : Value).ownBlock ∧ some k_ ≠ (v276 : Value).ownBlock ∧ some k_ ≠ (v300 : Value).ownBlock) (.slice Ao24 t244.length co24) t244) ∧ Aside0 (Kd.R (Kd.int .i64) 2 wc w.heap.size (fun k_ => some k_ ≠ ((.slice Ao20 t241.length co20) : Value).ownBlock ∧ some k_ ≠ ((.slice Ao24 t244.length co24) : Value).ownBlock ∧ some k_ ≠ (v300 : Value).ownBlock) v276 t275) ∧ Aside0 (Kd.R (Kd.int .i64) 2 wc w.heap.size (fun k_ => some k_ ≠ ((.slice Ao20 t241.length co20) : Value).ownBlock ∧ some k_ ≠ ((.slice Ao24 t244.length co24) : Value).ownBlock ∧ some k_ ≠ (v276 : Value).ownBlock) v300 t299) ∧ Aside0 (wc.heap[gb250]? = some (.cells #[.int .i64 t247, .int .i64 t248] 54 (0, 0))) ∧ Aside0 (wc.heap[gb254]? = some (.cells #[.int .i64 t251, .int .i64 t252] 54 (0, 0))) ∧ Aside0 (Below w.heap.size w wc))
 case first =>
  have H := HC17.out
  clear HC17
  by_cases c37 : t249 = 0
  rotate_left
  ·rw [if_neg c37] at H
   have c37b0 : (t249 == 0) = false := beq_eq_false_iff_ne.mpr c37
   have c37b1 : (t249 != 0) = true := bne_iff_ne.mpr c37
   (first | rw [c37b0] | (simp only [i64_w, i32_w]; rw [c37b0]) | skip)
   have H' := aM8_ H
   clear H
   go_wp2
   repeat (go_quiet (fail); try go_wp2)
   go_meet
   case rel => exact ⟨_, (true), q8x23_, H', ⟨by first | omega | exact Nat.le_refl _⟩, ⟨by (with_reducible repeat (first | apply rA8_ | apply rN8_ | apply rD8_)); exact Kd.R_mono HO243.out (fun _ hk => ⟨hk.1.1.1.1.2, ⟨hk.1.1.2, hk.2⟩⟩)⟩, ⟨by (with_reducible repeat (first | apply rA8_ | apply rN8_ | apply rD8_)); exact Kd.R_mono HO246.out (fun _ hk => ⟨hk.1.1.1.1.2, ⟨hk.1.1.2, hk.2⟩⟩)⟩, ⟨by (with_reducible repeat (first | apply rA8_ | apply rN8_ | apply rD8_)); exact Kd.R_mono HO277.out (fun _ hk => ⟨hk.1.1.1.1.2, ⟨hk.1.1.1.2, hk.2⟩⟩)⟩, ⟨by (with_reducible repeat (first | apply rA8_ | apply rN8_ | apply rD8_)); exact Kd.R_mono HO301.out (fun _ hk => ⟨hk.1.1.1.1.2, ⟨hk.1.1.1.2, hk.1.2⟩⟩)⟩, ⟨by (with_reducible repeat (first | refine kN8_ ?_ _ | refine kD8_ ?_ | refine kA8_ ?_ _)); exact BK250.out⟩, ⟨by (with_reducible repeat (first | refine kN8_ ?_ _ | refine kD8_ ?_ | refine kA8_ ?_ _)); exact BK254.out⟩, ⟨by repeat (first | (with_reducible first | exact HB.out | apply bA8_ | apply bN8_ | apply bD8_ | refine bS8_ ?_ GE250.out | refine bS8_ ?_ GE254.out) | exact HB.out)⟩⟩
  rw [if_pos c37] at H
  have c37b0 : (t249 == 0) = true := beq_iff_eq.mpr c37
  have c37b1 : (t249 != 0) = false := bne_eq_false_iff_eq.mpr c37
  clear c37
  (first | rw [c37b0] | (simp only [i64_w, i32_w]; rw [c37b0]) | skip)
  by_cases c38 : t253 = 0
  rotate_left
  ·rw [if_neg c38] at H
   have c38b0 : (t253 == 0) = false := beq_eq_false_iff_ne.mpr c38
   have c38b1 : (t253 != 0) = true := bne_iff_ne.mpr c38
   have H' := aM8_ H
   clear H
   go_wp2
   repeat (go_quiet (fail); try go_wp2)
   go_meet
   case rel => exact ⟨_, (true), q8x23_, H', ⟨by first | omega | exact Nat.le_refl _⟩, ⟨by (with_reducible repeat (first | apply rA8_ | apply rN8_ | apply rD8_)); exact Kd.R_mono HO243.out (fun _ hk => ⟨hk.1.1.1.1.2, ⟨hk.1.1.2, hk.2⟩⟩)⟩, ⟨by (with_reducible repeat (first | apply rA8_ | apply rN8_ | apply rD8_)); exact Kd.R_mono HO246.out (fun _ hk => ⟨hk.1.1.1.1.2, ⟨hk.1.1.2, hk.2⟩⟩)⟩, ⟨by (with_reducible repeat (first | apply rA8_ | apply rN8_ | apply rD8_)); exact Kd.R_mono HO277.out (fun _ hk => ⟨hk.1.1.1.1.2, ⟨hk.1.1.1.2, hk.2⟩⟩)⟩, ⟨by (with_reducible repeat (first | apply rA8_ | apply rN8_ | apply rD8_)); exact Kd.R_mono HO301.out (fun _ hk => ⟨hk.1.1.1.1.2, ⟨hk.1.1.1.2, hk.1.2⟩⟩)⟩, ⟨by (with_reducible repeat (first | refine kN8_ ?_ _ | refine kD8_ ?_ | refine kA8_ ?_ _)); exact BK250.out⟩, ⟨by (with_reducible repeat (first | refine kN8_ ?_ _ | refine kD8_ ?_ | refine kA8_ ?_ _)); exact BK254.out⟩, ⟨by repeat (first | (with_reducible first | exact HB.out | apply bA8_ | apply bN8_ | apply bD8_ | refine bS8_ ?_ GE250.out | refine bS8_ ?_ GE254.out) | exact HB.out)⟩⟩
  rw [if_pos c38] at H
  have c38b0 : (t253 == 0) = true := beq_iff_eq.mpr c38
  have c38b1 : (t253 != 0) = false := bne_eq_false_iff_eq.mpr c38
  clear c38
  by_cases c39 : t266 = t278
  rotate_left
  ·rw [if_neg c39] at H
   have c39b0 : (t266 == t278) = false := beq_eq_false_iff_ne.mpr c39
   have c39b1 : (t266 != t278) = true := bne_iff_ne.mpr c39
   have H' := aM8_ H
   clear H
   go_wp2
   repeat (go_quiet (fail); try go_wp2)
   go_meet
   case rel => exact ⟨_, (true), q8x23_, H', ⟨by first | omega | exact Nat.le_refl _⟩, ⟨by (with_reducible repeat (first | apply rA8_ | apply rN8_ | apply rD8_)); exact Kd.R_mono HO243.out (fun _ hk => ⟨hk.1.1.1.1.2, ⟨hk.1.1.2, hk.2⟩⟩)⟩, ⟨by (with_reducible repeat (first | apply rA8_ | apply rN8_ | apply rD8_)); exact Kd.R_mono HO246.out (fun _ hk => ⟨hk.1.1.1.1.2, ⟨hk.1.1.2, hk.2⟩⟩)⟩, ⟨by (with_reducible repeat (first | apply rA8_ | apply rN8_ | apply rD8_)); exact Kd.R_mono HO277.out (fun _ hk => ⟨hk.1.1.1.1.2, ⟨hk.1.1.1.2, hk.2⟩⟩)⟩, ⟨by (with_reducible repeat (first | apply rA8_ | apply rN8_ | apply rD8_)); exact Kd.R_mono HO301.out (fun _ hk => ⟨hk.1.1.1.1.2, ⟨hk.1.1.1.2, hk.1.2⟩⟩)⟩, ⟨by (with_reducible repeat (first | refine kN8_ ?_ _ | refine kD8_ ?_ | refine kA8_ ?_ _)); exact BK250.out⟩, ⟨by (with_reducible repeat (first | refine kN8_ ?_ _ | refine kD8_ ?_ | refine kA8_ ?_ _)); exact BK254.out⟩, ⟨by repeat (first | (with_reducible first | exact HB.out | apply bA8_ | apply bN8_ | apply bD8_ | refine bS8_ ?_ GE250.out | refine bS8_ ?_ GE254.out) | exact HB.out)⟩⟩
  rw [if_pos c39] at H
  have c39b0 : (t266 == t278) = true := beq_iff_eq.mpr c39
  have c39b1 : (t266 != t278) = false := bne_eq_false_iff_eq.mpr c39
  clear c39
  replace H := Option.bind_eq_some_iff.mp H
  obtain ⟨t303, A400, H⟩ := H
  replace H : (if t303 = true then (if t290 = t302 then ((spec_A2Same.f k t287 t299).bind fun t304 => (laws_FnEights.j0 k t241 t244 t266 t275 t290 t299 (!t304) t247 t248 t251 t252)) else (laws_FnEights.j0 k t241 t244 t266 t275 t290 t299 true t247 t248 t251 t252)) else (laws_FnEights.j0 k t241 t244 t266 t275 t290 t299 true t247 t248 t251 t252)) = some r := H
  have A40 := aM8_ A400
  clear A400
  by_cases c41 : t303 = true
  rotate_left
  ·replace c41 := Bool.eq_false_iff.mpr c41
   subst c41
   have H1 : (laws_FnEights.j0 k t241 t244 t266 t275 t290 t299 true t247 t248 t251 t252) = some r := by rw [if_neg (show ¬ (false = true) by decide)] at H; exact H
   clear H
   have H := H1
   clear H1
   have H' := aM8_ H
   clear H
   obtain ⟨Ao50, co50, eo50⟩ := Kd.R_slice HO265.out
   subst eo50
   obtain ⟨Ao51, co51, eo51⟩ := Kd.R_slice HO277.out
   subst eo51
   go_wp2_with (first | (go_at_call 29; (with_reducible refine (spec_A2Same.calls k _ _ t263 _ _ t275 false _ ?side1 ?side2 ?side3 ?side4 A40.out).mono ?_); (case side1 => repeat (first | exact (Kd.R_reads' HO265.out).2.2 | (with_reducible refine Kd.C_alloc ?_ _) | (with_reducible refine Kd.C_drewN ?_ _) | (with_reducible refine Kd.C_drew ?_))); (case side2 => exact (Kd.R_reads' HO265.out).2.1); (case side3 => repeat (first | exact (Kd.R_reads' HO277.out).2.2 | (with_reducible refine Kd.C_alloc ?_ _) | (with_reducible refine Kd.C_drewN ?_ _) | (with_reducible refine Kd.C_drew ?_))); (case side4 => exact (Kd.R_reads' HO277.out).2.1); rintro e w' ⟨rfl, ⟨nd, rfl⟩⟩; (try first | exact ⟨rfl, _, World.drewN_drewN _ _ _⟩ | exact ⟨rfl, _, Eq.trans (World.drewN_drewN _ _ _) (congrArg (World.drewN _) (Nat.add_assoc _ _ _))⟩)) | go_quiet (first | (go_at_call 29; (with_reducible refine (spec_A2Same.calls k _ _ t263 _ _ t275 false _ ?side1 ?side2 ?side3 ?side4 A40.out).mono ?_); (case side1 => repeat (first | exact (Kd.R_reads' HO265.out).2.2 | (with_reducible refine Kd.C_alloc ?_ _) | (with_reducible refine Kd.C_drewN ?_ _) | (with_reducible refine Kd.C_drew ?_))); (case side2 => exact (Kd.R_reads' HO265.out).2.1); (case side3 => repeat (first | exact (Kd.R_reads' HO277.out).2.2 | (with_reducible refine Kd.C_alloc ?_ _) | (with_reducible refine Kd.C_drewN ?_ _) | (with_reducible refine Kd.C_drew ?_))); (case side4 => exact (Kd.R_reads' HO277.out).2.1); rintro e w' ⟨rfl, ⟨nd, rfl⟩⟩; (try first | exact ⟨rfl, _, World.drewN_drewN _ _ _⟩ | exact ⟨rfl, _, Eq.trans (World.drewN_drewN _ _ _) (congrArg (World.drewN _) (Nat.add_assoc _ _ _))⟩))))
   go_meet
   case rel => exact ⟨_, (true), q8x23_, H', ⟨by first | omega | exact Nat.le_refl _⟩, ⟨by (with_reducible repeat (first | apply rA8_ | apply rN8_ | apply rD8_)); exact Kd.R_mono HO243.out (fun _ hk => ⟨hk.1.1.1.1.2, ⟨hk.1.1.2, hk.2⟩⟩)⟩, ⟨by (with_reducible repeat (first | apply rA8_ | apply rN8_ | apply rD8_)); exact Kd.R_mono HO246.out (fun _ hk => ⟨hk.1.1.1.1.2, ⟨hk.1.1.2, hk.2⟩⟩)⟩, ⟨by (with_reducible repeat (first | apply rA8_ | apply rN8_ | apply rD8_)); exact Kd.R_mono HO277.out (fun _ hk => ⟨hk.1.1.1.1.2, ⟨hk.1.1.1.2, hk.2⟩⟩)⟩, ⟨by (with_reducible repeat (first | apply rA8_ | apply rN8_ | apply rD8_)); exact Kd.R_mono HO301.out (fun _ hk => ⟨hk.1.1.1.1.2, ⟨hk.1.1.1.2, hk.1.2⟩⟩)⟩, ⟨by (with_reducible repeat (first | refine kN8_ ?_ _ | refine kD8_ ?_ | refine kA8_ ?_ _)); exact BK250.out⟩, ⟨by (with_reducible repeat (first | refine kN8_ ?_ _ | refine kD8_ ?_ | refine kA8_ ?_ _)); exact BK254.out⟩, ⟨by repeat (first | (with_reducible first | exact HB.out | apply bA8_ | apply bN8_ | apply bD8_ | refine bS8_ ?_ GE250.out | refine bS8_ ?_ GE254.out) | exact HB.out)⟩⟩
  subst c41
  have H1 : (if t290 = t302 then ((spec_A2Same.f k t287 t299).bind fun t304 => (laws_FnEights.j0 k t241 t244 t266 t275 t290 t299 (!t304) t247 t248 t251 t252)) else (laws_FnEights.j0 k t241 t244 t266 t275 t290 t299 true t247 t248 t251 t252)) = some r := by rw [if_pos rfl] at H; exact H
  clear H
  have H := H1
  clear H1
  by_cases c42 : t290 = t302
  rotate_left
  ·rw [if_neg c42] at H
   have c42b0 : (t290 == t302) = false := beq_eq_false_iff_ne.mpr c42
   have c42b1 : (t290 != t302) = true := bne_iff_ne.mpr c42
   have H' := aM8_ H
   clear H
   obtain ⟨Ao48, co48, eo48⟩ := Kd.R_slice HO265.out
   subst eo48
   obtain ⟨Ao49, co49, eo49⟩ := Kd.R_slice HO277.out
   subst eo49
   go_wp2_with (first | (go_at_call 29; (with_reducible refine (spec_A2Same.calls k _ _ t263 _ _ t275 true _ ?side1 ?side2 ?side3 ?side4 A40.out).mono ?_); (case side1 => repeat (first | exact (Kd.R_reads' HO265.out).2.2 | (with_reducible refine Kd.C_alloc ?_ _) | (with_reducible refine Kd.C_drewN ?_ _) | (with_reducible refine Kd.C_drew ?_))); (case side2 => exact (Kd.R_reads' HO265.out).2.1); (case side3 => repeat (first | exact (Kd.R_reads' HO277.out).2.2 | (with_reducible refine Kd.C_alloc ?_ _) | (with_reducible refine Kd.C_drewN ?_ _) | (with_reducible refine Kd.C_drew ?_))); (case side4 => exact (Kd.R_reads' HO277.out).2.1); rintro e w' ⟨rfl, ⟨nd, rfl⟩⟩; (try first | exact ⟨rfl, _, World.drewN_drewN _ _ _⟩ | exact ⟨rfl, _, Eq.trans (World.drewN_drewN _ _ _) (congrArg (World.drewN _) (Nat.add_assoc _ _ _))⟩)) | go_quiet (first | (go_at_call 29; (with_reducible refine (spec_A2Same.calls k _ _ t263 _ _ t275 true _ ?side1 ?side2 ?side3 ?side4 A40.out).mono ?_); (case side1 => repeat (first | exact (Kd.R_reads' HO265.out).2.2 | (with_reducible refine Kd.C_alloc ?_ _) | (with_reducible refine Kd.C_drewN ?_ _) | (with_reducible refine Kd.C_drew ?_))); (case side2 => exact (Kd.R_reads' HO265.out).2.1); (case side3 => repeat (first | exact (Kd.R_reads' HO277.out).2.2 | (with_reducible refine Kd.C_alloc ?_ _) | (with_reducible refine Kd.C_drewN ?_ _) | (with_reducible refine Kd.C_drew ?_))); (case side4 => exact (Kd.R_reads' HO277.out).2.1); rintro e w' ⟨rfl, ⟨nd, rfl⟩⟩; (try first | exact ⟨rfl, _, World.drewN_drewN _ _ _⟩ | exact ⟨rfl, _, Eq.trans (World.drewN_drewN _ _ _) (congrArg (World.drewN _) (Nat.add_assoc _ _ _))⟩))))
   go_meet
   case rel => exact ⟨_, (true), q8x23_, H', ⟨by first | omega | exact Nat.le_refl _⟩, ⟨by (with_reducible repeat (first | apply rA8_ | apply rN8_ | apply rD8_)); exact Kd.R_mono HO243.out (fun _ hk => ⟨hk.1.1.1.1.2, ⟨hk.1.1.2, hk.2⟩⟩)⟩, ⟨by (with_reducible repeat (first | apply rA8_ | apply rN8_ | apply rD8_)); exact Kd.R_mono HO246.out (fun _ hk => ⟨hk.1.1.1.1.2, ⟨hk.1.1.2, hk.2⟩⟩)⟩, ⟨by (with_reducible repeat (first | apply rA8_ | apply rN8_ | apply rD8_)); exact Kd.R_mono HO277.out (fun _ hk => ⟨hk.1.1.1.1.2, ⟨hk.1.1.1.2, hk.2⟩⟩)⟩, ⟨by (with_reducible repeat (first | apply rA8_ | apply rN8_ | apply rD8_)); exact Kd.R_mono HO301.out (fun _ hk => ⟨hk.1.1.1.1.2, ⟨hk.1.1.1.2, hk.1.2⟩⟩)⟩, ⟨by (with_reducible repeat (first | refine kN8_ ?_ _ | refine kD8_ ?_ | refine kA8_ ?_ _)); exact BK250.out⟩, ⟨by (with_reducible repeat (first | refine kN8_ ?_ _ | refine kD8_ ?_ | refine kA8_ ?_ _)); exact BK254.out⟩, ⟨by repeat (first | (with_reducible first | exact HB.out | apply bA8_ | apply bN8_ | apply bD8_ | refine bS8_ ?_ GE250.out | refine bS8_ ?_ GE254.out) | exact HB.out)⟩⟩
  rw [if_pos c42] at H
  have c42b0 : (t290 == t302) = true := beq_iff_eq.mpr c42
  have c42b1 : (t290 != t302) = false := bne_eq_false_iff_eq.mpr c42
  clear c42
  replace H := Option.bind_eq_some_iff.mp H
  obtain ⟨t304, A430, H⟩ := H
  replace H : (laws_FnEights.j0 k t241 t244 t266 t275 t290 t299 (!t304) t247 t248 t251 t252) = some r := H
  have A43 := aM8_ A430
  clear A430
  have H' := aM8_ H
  clear H
  obtain ⟨Ao44, co44, eo44⟩ := Kd.R_slice HO265.out
  subst eo44
  obtain ⟨Ao45, co45, eo45⟩ := Kd.R_slice HO277.out
  subst eo45
  go_wp2_with (first | (go_at_call 29; (with_reducible refine (spec_A2Same.calls k _ _ t263 _ _ t275 true _ ?side1 ?side2 ?side3 ?side4 A40.out).mono ?_); (case side1 => repeat (first | exact (Kd.R_reads' HO265.out).2.2 | (with_reducible refine Kd.C_alloc ?_ _) | (with_reducible refine Kd.C_drewN ?_ _) | (with_reducible refine Kd.C_drew ?_))); (case side2 => exact (Kd.R_reads' HO265.out).2.1); (case side3 => repeat (first | exact (Kd.R_reads' HO277.out).2.2 | (with_reducible refine Kd.C_alloc ?_ _) | (with_reducible refine Kd.C_drewN ?_ _) | (with_reducible refine Kd.C_drew ?_))); (case side4 => exact (Kd.R_reads' HO277.out).2.1); rintro e w' ⟨rfl, ⟨nd, rfl⟩⟩; (try first | exact ⟨rfl, _, World.drewN_drewN _ _ _⟩ | exact ⟨rfl, _, Eq.trans (World.drewN_drewN _ _ _) (congrArg (World.drewN _) (Nat.add_assoc _ _ _))⟩); obtain ⟨Ao46, co46, eo46⟩ := Kd.R_slice HO289.out; subst eo46; obtain ⟨Ao47, co47, eo47⟩ := Kd.R_slice HO301.out; subst eo47) | (go_at_call 29; (with_reducible refine (spec_A2Same.calls k _ _ t287 _ _ t299 t304 _ ?side1 ?side2 ?side3 ?side4 A43.out).mono ?_); (case side1 => repeat (first | exact (Kd.R_reads' HO289.out).2.2 | (with_reducible refine Kd.C_alloc ?_ _) | (with_reducible refine Kd.C_drewN ?_ _) | (with_reducible refine Kd.C_drew ?_))); (case side2 => exact (Kd.R_reads' HO289.out).2.1); (case side3 => repeat (first | exact (Kd.R_reads' HO301.out).2.2 | (with_reducible refine Kd.C_alloc ?_ _) | (with_reducible refine Kd.C_drewN ?_ _) | (with_reducible refine Kd.C_drew ?_))); (case side4 => exact (Kd.R_reads' HO301.out).2.1); rintro e w' ⟨rfl, ⟨nd, rfl⟩⟩; (try first | exact ⟨rfl, _, World.drewN_drewN _ _ _⟩ | exact ⟨rfl, _, Eq.trans (World.drewN_drewN _ _ _) (congrArg (World.drewN _) (Nat.add_assoc _ _ _))⟩)) | go_quiet (first | (go_at_call 29; (with_reducible refine (spec_A2Same.calls k _ _ t263 _ _ t275 true _ ?side1 ?side2 ?side3 ?side4 A40.out).mono ?_); (case side1 => repeat (first | exact (Kd.R_reads' HO265.out).2.2 | (with_reducible refine Kd.C_alloc ?_ _) | (with_reducible refine Kd.C_drewN ?_ _) | (with_reducible refine Kd.C_drew ?_))); (case side2 => exact (Kd.R_reads' HO265.out).2.1); (case side3 => repeat (first | exact (Kd.R_reads' HO277.out).2.2 | (with_reducible refine Kd.C_alloc ?_ _) | (with_reducible refine Kd.C_drewN ?_ _) | (with_reducible refine Kd.C_drew ?_))); (case side4 => exact (Kd.R_reads' HO277.out).2.1); rintro e w' ⟨rfl, ⟨nd, rfl⟩⟩; (try first | exact ⟨rfl, _, World.drewN_drewN _ _ _⟩ | exact ⟨rfl, _, Eq.trans (World.drewN_drewN _ _ _) (congrArg (World.drewN _) (Nat.add_assoc _ _ _))⟩); obtain ⟨Ao46, co46, eo46⟩ := Kd.R_slice HO289.out; subst eo46; obtain ⟨Ao47, co47, eo47⟩ := Kd.R_slice HO301.out; subst eo47) | (go_at_call 29; (with_reducible refine (spec_A2Same.calls k _ _ t287 _ _ t299 t304 _ ?side1 ?side2 ?side3 ?side4 A43.out).mono ?_); (case side1 => repeat (first | exact (Kd.R_reads' HO289.out).2.2 | (with_reducible refine Kd.C_alloc ?_ _) | (with_reducible refine Kd.C_drewN ?_ _) | (with_reducible refine Kd.C_drew ?_))); (case side2 => exact (Kd.R_reads' HO289.out).2.1); (case side3 => repeat (first | exact (Kd.R_reads' HO301.out).2.2 | (with_reducible refine Kd.C_alloc ?_ _) | (with_reducible refine Kd.C_drewN ?_ _) | (with_reducible refine Kd.C_drew ?_))); (case side4 => exact (Kd.R_reads' HO301.out).2.1); rintro e w' ⟨rfl, ⟨nd, rfl⟩⟩; (try first | exact ⟨rfl, _, World.drewN_drewN _ _ _⟩ | exact ⟨rfl, _, Eq.trans (World.drewN_drewN _ _ _) (congrArg (World.drewN _) (Nat.add_assoc _ _ _))⟩))))
  go_meet
  case rel => exact ⟨_, (!t304), q8x23_, H', ⟨by first | omega | exact Nat.le_refl _⟩, ⟨by (with_reducible repeat (first | apply rA8_ | apply rN8_ | apply rD8_)); exact Kd.R_mono HO243.out (fun _ hk => ⟨hk.1.1.1.1.2, ⟨hk.1.1.2, hk.2⟩⟩)⟩, ⟨by (with_reducible repeat (first | apply rA8_ | apply rN8_ | apply rD8_)); exact Kd.R_mono HO246.out (fun _ hk => ⟨hk.1.1.1.1.2, ⟨hk.1.1.2, hk.2⟩⟩)⟩, ⟨by (with_reducible repeat (first | apply rA8_ | apply rN8_ | apply rD8_)); exact Kd.R_mono HO277.out (fun _ hk => ⟨hk.1.1.1.1.2, ⟨hk.1.1.1.2, hk.2⟩⟩)⟩, ⟨by (with_reducible repeat (first | apply rA8_ | apply rN8_ | apply rD8_)); exact Kd.R_mono HO301.out (fun _ hk => ⟨hk.1.1.1.1.2, ⟨hk.1.1.1.2, hk.1.2⟩⟩)⟩, ⟨by (with_reducible repeat (first | refine kN8_ ?_ _ | refine kD8_ ?_ | refine kA8_ ?_ _)); exact BK250.out⟩, ⟨by (with_reducible repeat (first | refine kN8_ ?_ _ | refine kD8_ ?_ | refine kA8_ ?_ _)); exact BK254.out⟩, ⟨by repeat (first | (with_reducible first | exact HB.out | apply bA8_ | apply bN8_ | apply bD8_ | refine bS8_ ?_ GE250.out | refine bS8_ ?_ GE254.out) | exact HB.out)⟩⟩
 case rest =>
  clear HC17
  try clear c1
  try clear c2
  try clear p2
  try clear c3
  try clear c4
  try clear c8
  try clear c27
  try clear c37
  try clear c37b0
  try clear c37b1
  try clear c38
  try clear c38b0
  try clear c38b1
  try clear c39
  try clear c39b0
  try clear c39b1
  try clear c41
  try clear c42
  try clear c42b0
  try clear c42b1
  try clear hcz23_0 hcz23_1
  try clear hcz28_0 hcz28_1
  try clear hfz23_0 hfz23_1
  try clear hfz28_0 hfz28_1
  obtain ⟨kq, x107_16, rfl, HA, HJ16, HO_5, HO_6, HO_13, HO_17, BK250, BK254, HB⟩ := hcut
  cases kq with
  | zero => exact absurd HA.out (by simp [laws_FnEights.j0])
  | succ kj16 => as_aux_lemma =>
   have H := HA.out
   clear HA
   simp only [laws_FnEights.j0] at H
   by_cases c52 : x107_16 = true
   ·subst c52
    have H1 : (some false) = some r := by rw [if_pos rfl] at H; exact H
    clear H
    have H := H1
    clear H1
    obtain rfl := Option.some.inj H
    go_wp2
    repeat (go_quiet (fail); try go_wp2)
    go_ret
    exact ⟨by first | rfl | (simp [errW_none, errW_some] <;> rfl) | (simp [*, errW_none, errW_some] <;> rfl), by repeat (first | (with_reducible first | exact HB.out | apply bA8_ | apply bN8_ | apply bD8_ | refine bS8_ ?_ GE250.out | refine bS8_ ?_ GE254.out) | exact HB.out)⟩
   replace c52 := Bool.eq_false_iff.mpr c52
   subst c52
   have H1 : (if t266 = 0 then ((impl_RatioOf.f kj16 t275).bind fun bt305 => ((spec_A2Sum.f kj16 t247 t248 t251 t252 false).bind fun bt309 => (if bt305.2.2 = 0 then (if bt309.2.2 = true then (if (!(bt305.1 == bt309.1) || (!(bt305.2.1 == bt309.2.1))) = true then (some false) else (laws_FnEights.j1 kj16 t241 t244 t290 t299 t247 t248 t251 t252)) else (laws_FnEights.j1 kj16 t241 t244 t290 t299 t247 t248 t251 t252)) else (laws_FnEights.j1 kj16 t241 t244 t290 t299 t247 t248 t251 t252)))) else (if t266 = 3 then (laws_FnEights.j1 kj16 t241 t244 t290 t299 t247 t248 t251 t252) else (some false))) = some r := by rw [if_neg (show ¬ (false = true) by decide)] at H; exact H
   clear H
   have H := H1
   clear H1
   have HC53 := aM8_ H
   clear H
   go_upto_if 109 with (fail)
   repeat (go_quiet (fail); go_upto_if 109 with (fail))
   go_cut [] (fun wc => ∃ (kq : Nat), Aside0 (laws_FnEights.j1 kq t241 t244 t290 t299 t247 t248 t251 t252 = some r) ∧ Aside0 (kq ≤ kj16) ∧ Aside0 (Kd.R (Kd.int .i64) 2 wc w.heap.size (fun k_ => some k_ ≠ ((.slice Ao24 t244.length co24) : Value).ownBlock ∧ some k_ ≠ (v300 : Value).ownBlock) (.slice Ao20 t241.length co20) t241) ∧ Aside0 (Kd.R (Kd.int .i64) 2 wc w.heap.size (fun k_ => some k_ ≠ ((.slice Ao20 t241.length co20) : Value).ownBlock ∧ some k_ ≠ (v300 : Value).ownBlock) (.slice Ao24 t244.length co24) t244) ∧ Aside0 (Kd.R (Kd.int .i64) 2 wc w.heap.size (fun k_ => some k_ ≠ ((.slice Ao20 t241.length co20) : Value).ownBlock ∧ some k_ ≠ ((.slice Ao24 t244.length co24) : Value).ownBlock) v300 t299) ∧ Aside0 (wc.heap[gb250]? = some (.cells #[.int .i64 t247, .int .i64 t248] 54 (0, 0))) ∧ Aside0 (wc.heap[gb254]? = some (.cells #[.int .i64 t251, .int .i64 t252] 54 (0, 0))) ∧ Aside0 (Below w.heap.size w wc))
   case first =>
    have H := HC53.out
    clear HC53
    by_cases c54 : t266 = 0
    rotate_left
    ·rw [if_neg c54] at H
     have c54b0 : (t266 == 0) = false := beq_eq_false_iff_ne.mpr c54
     have c54b1 : (t266 != 0) = true := bne_iff_ne.mpr c54
     (first | rw [c54b0] | (simp only [i64_w, i32_w]; rw [c54b0]) | skip)
     by_cases c122 : t266 = 3
     rotate_left
     ·rw [if_neg c122] at H
      have c122b0 : (t266 == 3) = false := beq_eq_false_iff_ne.mpr c122
      have c122b1 : (t266 != 3) = true := bne_iff_ne.mpr c122
      obtain rfl := Option.some.inj H
      go_wp2
      repeat (go_quiet (fail); try go_wp2)
      go_ret
      exact ⟨by first | rfl | (simp [errW_none, errW_some] <;> rfl) | (simp [*, errW_none, errW_some] <;> rfl), by repeat (first | (with_reducible first | exact HB.out | apply bA8_ | apply bN8_ | apply bD8_ | refine bS8_ ?_ GE250.out | refine bS8_ ?_ GE254.out) | exact HB.out)⟩
     rw [if_pos c122] at H
     have c122b0 : (t266 == 3) = true := beq_iff_eq.mpr c122
     have c122b1 : (t266 != 3) = false := bne_eq_false_iff_eq.mpr c122
     clear c122
     have H' := aM8_ H
     clear H
     go_wp2
     repeat (go_quiet (fail); try go_wp2)
     go_meet
     case rel => exact ⟨_, H', ⟨by have := HJ16.out; first | omega | exact Nat.le_refl _⟩, ⟨by (with_reducible repeat (first | apply rA8_ | apply rN8_ | apply rD8_)); exact Kd.R_mono HO_5.out (fun _ hk => ⟨hk.1, hk.2.2⟩)⟩, ⟨by (with_reducible repeat (first | apply rA8_ | apply rN8_ | apply rD8_)); exact Kd.R_mono HO_6.out (fun _ hk => ⟨hk.1, hk.2.2⟩)⟩, ⟨by (with_reducible repeat (first | apply rA8_ | apply rN8_ | apply rD8_)); exact Kd.R_mono HO_17.out (fun _ hk => ⟨hk.1, hk.2.1⟩)⟩, ⟨by (with_reducible repeat (first | refine kN8_ ?_ _ | refine kD8_ ?_ | refine kA8_ ?_ _)); exact BK250.out⟩, ⟨by (with_reducible repeat (first | refine kN8_ ?_ _ | refine kD8_ ?_ | refine kA8_ ?_ _)); exact BK254.out⟩, ⟨by repeat (first | (with_reducible first | exact HB.out | apply bA8_ | apply bN8_ | apply bD8_ | refine bS8_ ?_ GE250.out | refine bS8_ ?_ GE254.out) | exact HB.out)⟩⟩
    rw [if_pos c54] at H
    have c54b0 : (t266 == 0) = true := beq_iff_eq.mpr c54
    have c54b1 : (t266 != 0) = false := bne_eq_false_iff_eq.mpr c54
    clear c54
    (first | rw [c54b0] | (simp only [i64_w, i32_w]; rw [c54b0]) | skip)
    replace H := Option.bind_eq_some_iff.mp H
    obtain ⟨⟨t305, t306, t307⟩, A550, H⟩ := H
    replace H : ((spec_A2Sum.f kj16 t247 t248 t251 t252 false).bind fun bt309 => (if t307 = 0 then (if bt309.2.2 = true then (if (!(t305 == bt309.1) || (!(t306 == bt309.2.1))) = true then (some false) else (laws_FnEights.j1 kj16 t241 t244 t290 t299 t247 t248 t251 t252)) else (laws_FnEights.j1 kj16 t241 t244 t290 t299 t247 t248 t251 t252)) else (laws_FnEights.j1 kj16 t241 t244 t290 t299 t247 t248 t251 t252))) = some r := H
    have A55 := aM8_ A550
    clear A550
    replace H := Option.bind_eq_some_iff.mp H
    obtain ⟨⟨t309, t310, t311⟩, A560, H⟩ := H
    replace H : (if t307 = 0 then (if t311 = true then (if (!(t305 == t309) || (!(t306 == t310))) = true then (some false) else (laws_FnEights.j1 kj16 t241 t244 t290 t299 t247 t248 t251 t252)) else (laws_FnEights.j1 kj16 t241 t244 t290 t299 t247 t248 t251 t252)) else (laws_FnEights.j1 kj16 t241 t244 t290 t299 t247 t248 t251 t252)) = some r := H
    have A56 := aM8_ A560
    clear A560
    by_cases c57 : t307 = 0
    rotate_left
    ·rw [if_neg c57] at H
     have c57b0 : (t307 == 0) = false := beq_eq_false_iff_ne.mpr c57
     have c57b1 : (t307 != 0) = true := bne_iff_ne.mpr c57
     have H' := aM8_ H
     clear H
     obtain ⟨Ao107, co107, eo107⟩ := Kd.R_slice HO_13.out
     subst eo107
     go_wp2_with (first | (go_at_call 32; (with_reducible refine (impl_RatioOf.calls kj16 _ _ t275 t305 t306 t307 _ ?side1 ?side2 A55.out).mono ?_); (case side1 => repeat (first | exact (Kd.R_reads' HO_13.out).2.2 | (with_reducible refine Kd.C_alloc ?_ _) | (with_reducible refine Kd.C_drewN ?_ _) | (with_reducible refine Kd.C_drew ?_))); (case side2 => exact (Kd.R_reads' HO_13.out).2.1); rintro e w108 ⟨rfl, hb⟩; have n0_ := aM8_ (rB8_ q8x6_ hb); have n1_ := aM8_ (rB8_ q8x7_ hb); have n2_ := aM8_ (rB8_ q8x24_ hb); have n3_ := aM8_ (rB8_ q8x8_ hb); have n4_ := aM8_ (kB8_ (g := gb250) (o := .cells #[.int .i64 t247, .int .i64 t248] 54 (0, 0)) q8x2_ hb); have n5_ := aM8_ (kB8_ (g := gb254) (o := .cells #[.int .i64 t251, .int .i64 t252] 54 (0, 0)) q8x3_ hb); have n6_ := aM8_ (bT8_ q8x1_ hb); clear HO_5; clear HO_6; clear HO_13; clear HO_17; clear BK250; clear BK254; clear HB; have HO_5 := n0_; have HO_6 := n1_; have HO_13 := n2_; have HO_17 := n3_; have BK250 := n4_; have BK254 := n5_; have HB := n6_; clear n0_ n1_ n2_ n3_ n4_ n5_ n6_; (try clear hb); (try clear hb2); (try clear hk); (try clear hi)) | ((with_reducible refine gate_dst (N := 19) rfl ?_); (try (refine gate_guard (by rfl) ?_; dsimp only)); refine box_event ?hg (N := 19) ?hd (cs := #[.int .i64 0, .int .i64 0]) (t := 54) ?hr ?_; (case hd => rfl); (case hg => rfl); (case hr => first | (go_simp; done) | (go_simp; rfl)); intro gb308 hg w109 hbox hb; have n0_ := aM8_ (rB8_ q8x6_ hb); have n1_ := aM8_ (rB8_ q8x7_ hb); have n2_ := aM8_ (rB8_ q8x24_ hb); have n3_ := aM8_ (rB8_ q8x8_ hb); have n4_ := aM8_ (kB8_ (g := gb250) (o := .cells #[.int .i64 t247, .int .i64 t248] 54 (0, 0)) q8x2_ hb); have n5_ := aM8_ (kB8_ (g := gb254) (o := .cells #[.int .i64 t251, .int .i64 t252] 54 (0, 0)) q8x3_ hb); have n6_ := aM8_ (bT8_ q8x1_ hb); have n7_ := aM8_ (hbox); have n8_ := aM8_ ((q8x35_ : w.heap.size ≤ gb308)); have n9_ := aM8_ ((q8x35_ : w.heap.size ≤ gb308)); have n10_ := aM8_ ((q8x9_ : gb250 ≠ gb308)); have n11_ := aM8_ ((q8x10_ : gb308 ≠ gb250)); have n12_ := aM8_ ((q8x11_ : gb254 ≠ gb308)); have n13_ := aM8_ ((q8x12_ : gb308 ≠ gb254)); clear HO_5; clear HO_6; clear HO_13; clear HO_17; clear BK250; clear BK254; clear HB; have HO_5 := n0_; have HO_6 := n1_; have HO_13 := n2_; have HO_17 := n3_; have BK250 := n4_; have BK254 := n5_; have HB := n6_; have BK308 := n7_; have GW308 := n8_; have GE308 := n9_; have NB250_308 := n10_; have NB308_250 := n11_; have NB254_308 := n12_; have NB308_254 := n13_; clear n0_ n1_ n2_ n3_ n4_ n5_ n6_ n7_ n8_ n9_ n10_ n11_ n12_ n13_; clear hb hbox hg; have hnb110 := NB308_250.out; have hnc110 := NB250_308.out; have hnb111 := NB308_254.out; have hnc111 := NB254_308.out; have hcz112_0 : w109.cell? ⟨gb308, 0, none⟩ = some (.int .i64 0) := (kC8_ BK308.out 0).trans rfl; have hcz112_1 : w109.cell? ⟨gb308, 1, none⟩ = some (.int .i64 0) := (kC8_ BK308.out 1).trans rfl; have hfz112_0 := blk_frozen BK308.out 0; have hfz112_1 := blk_frozen BK308.out 1; have hnb113 := NB250_254.out; have hnc113 := NB254_250.out; have hcz114_0 : w109.cell? ⟨gb250, 0, none⟩ = some (.int .i64 t247) := (kC8_ BK250.out 0).trans rfl; have hcz114_1 : w109.cell? ⟨gb250, 1, none⟩ = some (.int .i64 t248) := (kC8_ BK250.out 1).trans rfl; have hfz114_0 := blk_frozen BK250.out 0; have hfz114_1 := blk_frozen BK250.out 1; have hcz115_0 : w109.cell? ⟨gb254, 0, none⟩ = some (.int .i64 t251) := (kC8_ BK254.out 0).trans rfl; have hcz115_1 : w109.cell? ⟨gb254, 1, none⟩ = some (.int .i64 t252) := (kC8_ BK254.out 1).trans rfl; have hfz115_0 := blk_frozen BK254.out 0; have hfz115_1 := blk_frozen BK254.out 1) | (go_at_call 37; (with_reducible refine (spec_A2Sum.calls kj16 t247 t248 t251 t252 false t309 t310 t311 _ A56.out).mono ?_); rintro e w116 ⟨rfl, hb⟩; have n0_ := aM8_ (rB8_ q8x29_ hb); have n1_ := aM8_ (rB8_ q8x30_ hb); have n2_ := aM8_ (rB8_ q8x26_ hb); have n3_ := aM8_ (rB8_ q8x27_ hb); have n4_ := aM8_ (kB8_ (g := gb250) (o := .cells #[.int .i64 t247, .int .i64 t248] 54 (0, 0)) q8x19_ hb); have n5_ := aM8_ (kB8_ (g := gb254) (o := .cells #[.int .i64 t251, .int .i64 t252] 54 (0, 0)) q8x20_ hb); have n6_ := aM8_ (kB8_ (g := gb308) (o := .cells #[.int .i64 t305, .int .i64 t306] 54 (0, 0)) q8x15_ hb); have n7_ := aM8_ (bT8_ q8x4_ hb); clear HO_5; clear HO_6; clear HO_13; clear HO_17; clear BK250; clear BK254; clear BK308; clear HB; have HO_5 := n0_; have HO_6 := n1_; have HO_13 := n2_; have HO_17 := n3_; have BK250 := n4_; have BK254 := n5_; have BK308 := n6_; have HB := n7_; clear n0_ n1_ n2_ n3_ n4_ n5_ n6_ n7_; (try clear hb); (try clear hb2); (try clear hk); (try clear hi)) | ((with_reducible refine gate_dst (N := 21) rfl ?_); (try (refine gate_guard (by rfl) ?_; dsimp only)); refine box_event ?hg (N := 21) ?hd (cs := #[.int .i64 0, .int .i64 0]) (t := 54) ?hr ?_; (case hd => rfl); (case hg => rfl); (case hr => first | (go_simp; done) | (go_simp; rfl)); intro gb312 hg w117 hbox hb; have n0_ := aM8_ (rB8_ q8x6_ hb); have n1_ := aM8_ (rB8_ q8x7_ hb); have n2_ := aM8_ (rB8_ q8x24_ hb); have n3_ := aM8_ (rB8_ q8x8_ hb); have n4_ := aM8_ (kB8_ (g := gb250) (o := .cells #[.int .i64 t247, .int .i64 t248] 54 (0, 0)) q8x2_ hb); have n5_ := aM8_ (kB8_ (g := gb254) (o := .cells #[.int .i64 t251, .int .i64 t252] 54 (0, 0)) q8x3_ hb); have n6_ := aM8_ (kB8_ (g := gb308) (o := .cells #[.int .i64 t305, .int .i64 t306] 54 (0, 0)) q8x17_ hb); have n7_ := aM8_ (bT8_ q8x4_ hb); have n8_ := aM8_ (hbox); have n9_ := aM8_ ((q8x43_ : w.heap.size ≤ gb312)); have n10_ := aM8_ ((q8x43_ : w.heap.size ≤ gb312)); have n11_ := aM8_ ((q8x9_ : gb250 ≠ gb312)); have n12_ := aM8_ ((q8x10_ : gb312 ≠ gb250)); have n13_ := aM8_ ((q8x11_ : gb254 ≠ gb312)); have n14_ := aM8_ ((q8x12_ : gb312 ≠ gb254)); have n15_ := aM8_ ((q8x38_ : gb308 ≠ gb312)); have n16_ := aM8_ ((q8x39_ : gb312 ≠ gb308)); clear HO_5; clear HO_6; clear HO_13; clear HO_17; clear BK250; clear BK254; clear BK308; clear HB; have HO_5 := n0_; have HO_6 := n1_; have HO_13 := n2_; have HO_17 := n3_; have BK250 := n4_; have BK254 := n5_; have BK308 := n6_; have HB := n7_; have BK312 := n8_; have GW312 := n9_; have GE312 := n10_; have NB250_312 := n11_; have NB312_250 := n12_; have NB254_312 := n13_; have NB312_254 := n14_; have NB308_312 := n15_; have NB312_308 := n16_; clear n0_ n1_ n2_ n3_ n4_ n5_ n6_ n7_ n8_ n9_ n10_ n11_ n12_ n13_ n14_ n15_ n16_; clear hb hbox hg; have hnb118 := NB312_250.out; have hnc118 := NB250_312.out; have hnb119 := NB312_254.out; have hnc119 := NB254_312.out; have hnb120 := NB312_308.out; have hnc120 := NB308_312.out; have hcz121_0 : w117.cell? ⟨gb312, 0, none⟩ = some (.int .i64 0) := (kC8_ BK312.out 0).trans rfl; have hcz121_1 : w117.cell? ⟨gb312, 1, none⟩ = some (.int .i64 0) := (kC8_ BK312.out 1).trans rfl; have hfz121_0 := blk_frozen BK312.out 0; have hfz121_1 := blk_frozen BK312.out 1) | go_quiet (fail))
     go_meet
     case rel => exact ⟨_, H', ⟨by have := HJ16.out; first | omega | exact Nat.le_refl _⟩, ⟨by (with_reducible repeat (first | apply rA8_ | apply rN8_ | apply rD8_)); exact Kd.R_mono (Kd.R_far (p := ⟨gb312, 1, none⟩) (Kd.R_far (p := ⟨gb312, 0, none⟩) (Kd.R_types HO_5.out BK312.out (by decide)) (fun _ hk => hk.2) (.int .i64 t309)) (fun _ hk => hk.2) (.int .i64 t310)) (fun _ hk => ⟨hk.1.1, hk.1.2.2⟩)⟩, ⟨by (with_reducible repeat (first | apply rA8_ | apply rN8_ | apply rD8_)); exact Kd.R_mono (Kd.R_far (p := ⟨gb312, 1, none⟩) (Kd.R_far (p := ⟨gb312, 0, none⟩) (Kd.R_types HO_6.out BK312.out (by decide)) (fun _ hk => hk.2) (.int .i64 t309)) (fun _ hk => hk.2) (.int .i64 t310)) (fun _ hk => ⟨hk.1.1, hk.1.2.2⟩)⟩, ⟨by (with_reducible repeat (first | apply rA8_ | apply rN8_ | apply rD8_)); exact Kd.R_mono (Kd.R_far (p := ⟨gb312, 1, none⟩) (Kd.R_far (p := ⟨gb312, 0, none⟩) (Kd.R_types HO_17.out BK312.out (by decide)) (fun _ hk => hk.2) (.int .i64 t309)) (fun _ hk => hk.2) (.int .i64 t310)) (fun _ hk => ⟨hk.1.1, hk.1.2.1⟩)⟩, ⟨by (with_reducible repeat (first | refine kN8_ ?_ _ | refine kD8_ ?_ | refine kA8_ ?_ _)); refine blk_far ?_ NB250_312.out _; (with_reducible repeat (first | refine kN8_ ?_ _ | refine kD8_ ?_ | refine kA8_ ?_ _)); refine blk_far ?_ NB250_312.out _; (with_reducible repeat (first | refine kN8_ ?_ _ | refine kD8_ ?_ | refine kA8_ ?_ _)); exact BK250.out⟩, ⟨by (with_reducible repeat (first | refine kN8_ ?_ _ | refine kD8_ ?_ | refine kA8_ ?_ _)); refine blk_far ?_ NB254_312.out _; (with_reducible repeat (first | refine kN8_ ?_ _ | refine kD8_ ?_ | refine kA8_ ?_ _)); refine blk_far ?_ NB254_312.out _; (with_reducible repeat (first | refine kN8_ ?_ _ | refine kD8_ ?_ | refine kA8_ ?_ _)); exact BK254.out⟩, ⟨by repeat (first | (with_reducible first | exact HB.out | apply bA8_ | apply bN8_ | apply bD8_ | refine bS8_ ?_ GE250.out | refine bS8_ ?_ GE254.out | refine bS8_ ?_ GE308.out | refine bS8_ ?_ GE312.out) | exact HB.out)⟩⟩
    rw [if_pos c57] at H
    have c57b0 : (t307 == 0) = true := beq_iff_eq.mpr c57
    have c57b1 : (t307 != 0) = false := bne_eq_false_iff_eq.mpr c57
    clear c57
    by_cases c58 : t311 = true
    rotate_left
    ·replace c58 := Bool.eq_false_iff.mpr c58
     subst c58
     have H1 : (laws_FnEights.j1 kj16 t241 t244 t290 t299 t247 t248 t251 t252) = some r := by rw [if_neg (show ¬ (false = true) by decide)] at H; exact H
     clear H
     have H := H1
     clear H1
     have H' := aM8_ H
     clear H
     obtain ⟨Ao92, co92, eo92⟩ := Kd.R_slice HO_13.out
     subst eo92
     go_wp2_with (first | (go_at_call 32; (with_reducible refine (impl_RatioOf.calls kj16 _ _ t275 t305 t306 t307 _ ?side1 ?side2 A55.out).mono ?_); (case side1 => repeat (first | exact (Kd.R_reads' HO_13.out).2.2 | (with_reducible refine Kd.C_alloc ?_ _) | (with_reducible refine Kd.C_drewN ?_ _) | (with_reducible refine Kd.C_drew ?_))); (case side2 => exact (Kd.R_reads' HO_13.out).2.1); rintro e w93 ⟨rfl, hb⟩; have n0_ := aM8_ (rB8_ q8x6_ hb); have n1_ := aM8_ (rB8_ q8x7_ hb); have n2_ := aM8_ (rB8_ q8x24_ hb); have n3_ := aM8_ (rB8_ q8x8_ hb); have n4_ := aM8_ (kB8_ (g := gb250) (o := .cells #[.int .i64 t247, .int .i64 t248] 54 (0, 0)) q8x2_ hb); have n5_ := aM8_ (kB8_ (g := gb254) (o := .cells #[.int .i64 t251, .int .i64 t252] 54 (0, 0)) q8x3_ hb); have n6_ := aM8_ (bT8_ q8x1_ hb); clear HO_5; clear HO_6; clear HO_13; clear HO_17; clear BK250; clear BK254; clear HB; have HO_5 := n0_; have HO_6 := n1_; have HO_13 := n2_; have HO_17 := n3_; have BK250 := n4_; have BK254 := n5_; have HB := n6_; clear n0_ n1_ n2_ n3_ n4_ n5_ n6_; (try clear hb); (try clear hb2); (try clear hk); (try clear hi)) | ((with_reducible refine gate_dst (N := 19) rfl ?_); (try (refine gate_guard (by rfl) ?_; dsimp only)); refine box_event ?hg (N := 19) ?hd (cs := #[.int .i64 0, .int .i64 0]) (t := 54) ?hr ?_; (case hd => rfl); (case hg => rfl); (case hr => first | (go_simp; done) | (go_simp; rfl)); intro gb308 hg w94 hbox hb; have n0_ := aM8_ (rB8_ q8x6_ hb); have n1_ := aM8_ (rB8_ q8x7_ hb); have n2_ := aM8_ (rB8_ q8x24_ hb); have n3_ := aM8_ (rB8_ q8x8_ hb); have n4_ := aM8_ (kB8_ (g := gb250) (o := .cells #[.int .i64 t247, .int .i64 t248] 54 (0, 0)) q8x2_ hb); have n5_ := aM8_ (kB8_ (g := gb254) (o := .cells #[.int .i64 t251, .int .i64 t252] 54 (0, 0)) q8x3_ hb); have n6_ := aM8_ (bT8_ q8x1_ hb); have n7_ := aM8_ (hbox); have n8_ := aM8_ ((q8x35_ : w.heap.size ≤ gb308)); have n9_ := aM8_ ((q8x35_ : w.heap.size ≤ gb308)); have n10_ := aM8_ ((q8x9_ : gb250 ≠ gb308)); have n11_ := aM8_ ((q8x10_ : gb308 ≠ gb250)); have n12_ := aM8_ ((q8x11_ : gb254 ≠ gb308)); have n13_ := aM8_ ((q8x12_ : gb308 ≠ gb254)); clear HO_5; clear HO_6; clear HO_13; clear HO_17; clear BK250; clear BK254; clear HB; have HO_5 := n0_; have HO_6 := n1_; have HO_13 := n2_; have HO_17 := n3_; have BK250 := n4_; have BK254 := n5_; have HB := n6_; have BK308 := n7_; have GW308 := n8_; have GE308 := n9_; have NB250_308 := n10_; have NB308_250 := n11_; have NB254_308 := n12_; have NB308_254 := n13_; clear n0_ n1_ n2_ n3_ n4_ n5_ n6_ n7_ n8_ n9_ n10_ n11_ n12_ n13_; clear hb hbox hg; have hnb95 := NB308_250.out; have hnc95 := NB250_308.out; have hnb96 := NB308_254.out; have hnc96 := NB254_308.out; have hcz97_0 : w94.cell? ⟨gb308, 0, none⟩ = some (.int .i64 0) := (kC8_ BK308.out 0).trans rfl; have hcz97_1 : w94.cell? ⟨gb308, 1, none⟩ = some (.int .i64 0) := (kC8_ BK308.out 1).trans rfl; have hfz97_0 := blk_frozen BK308.out 0; have hfz97_1 := blk_frozen BK308.out 1; have hnb98 := NB250_254.out; have hnc98 := NB254_250.out; have hcz99_0 : w94.cell? ⟨gb250, 0, none⟩ = some (.int .i64 t247) := (kC8_ BK250.out 0).trans rfl; have hcz99_1 : w94.cell? ⟨gb250, 1, none⟩ = some (.int .i64 t248) := (kC8_ BK250.out 1).trans rfl; have hfz99_0 := blk_frozen BK250.out 0; have hfz99_1 := blk_frozen BK250.out 1; have hcz100_0 : w94.cell? ⟨gb254, 0, none⟩ = some (.int .i64 t251) := (kC8_ BK254.out 0).trans rfl; have hcz100_1 : w94.cell? ⟨gb254, 1, none⟩ = some (.int .i64 t252) := (kC8_ BK254.out 1).trans rfl; have hfz100_0 := blk_frozen BK254.out 0; have hfz100_1 := blk_frozen BK254.out 1) | (go_at_call 37; (with_reducible refine (spec_A2Sum.calls kj16 t247 t248 t251 t252 false t309 t310 false _ A56.out).mono ?_); rintro e w101 ⟨rfl, hb⟩; have n0_ := aM8_ (rB8_ q8x29_ hb); have n1_ := aM8_ (rB8_ q8x30_ hb); have n2_ := aM8_ (rB8_ q8x26_ hb); have n3_ := aM8_ (rB8_ q8x27_ hb); have n4_ := aM8_ (kB8_ (g := gb250) (o := .cells #[.int .i64 t247, .int .i64 t248] 54 (0, 0)) q8x19_ hb); have n5_ := aM8_ (kB8_ (g := gb254) (o := .cells #[.int .i64 t251, .int .i64 t252] 54 (0, 0)) q8x20_ hb); have n6_ := aM8_ (kB8_ (g := gb308) (o := .cells #[.int .i64 t305, .int .i64 t306] 54 (0, 0)) q8x15_ hb); have n7_ := aM8_ (bT8_ q8x4_ hb); clear HO_5; clear HO_6; clear HO_13; clear HO_17; clear BK250; clear BK254; clear BK308; clear HB; have HO_5 := n0_; have HO_6 := n1_; have HO_13 := n2_; have HO_17 := n3_; have BK250 := n4_; have BK254 := n5_; have BK308 := n6_; have HB := n7_; clear n0_ n1_ n2_ n3_ n4_ n5_ n6_ n7_; (try clear hb); (try clear hb2); (try clear hk); (try clear hi)) | ((with_reducible refine gate_dst (N := 21) rfl ?_); (try (refine gate_guard (by rfl) ?_; dsimp only)); refine box_event ?hg (N := 21) ?hd (cs := #[.int .i64 0, .int .i64 0]) (t := 54) ?hr ?_; (case hd => rfl); (case hg => rfl); (case hr => first | (go_simp; done) | (go_simp; rfl)); intro gb312 hg w102 hbox hb; have n0_ := aM8_ (rB8_ q8x6_ hb); have n1_ := aM8_ (rB8_ q8x7_ hb); have n2_ := aM8_ (rB8_ q8x24_ hb); have n3_ := aM8_ (rB8_ q8x8_ hb); have n4_ := aM8_ (kB8_ (g := gb250) (o := .cells #[.int .i64 t247, .int .i64 t248] 54 (0, 0)) q8x2_ hb); have n5_ := aM8_ (kB8_ (g := gb254) (o := .cells #[.int .i64 t251, .int .i64 t252] 54 (0, 0)) q8x3_ hb); have n6_ := aM8_ (kB8_ (g := gb308) (o := .cells #[.int .i64 t305, .int .i64 t306] 54 (0, 0)) q8x17_ hb); have n7_ := aM8_ (bT8_ q8x4_ hb); have n8_ := aM8_ (hbox); have n9_ := aM8_ ((q8x43_ : w.heap.size ≤ gb312)); have n10_ := aM8_ ((q8x43_ : w.heap.size ≤ gb312)); have n11_ := aM8_ ((q8x9_ : gb250 ≠ gb312)); have n12_ := aM8_ ((q8x10_ : gb312 ≠ gb250)); have n13_ := aM8_ ((q8x11_ : gb254 ≠ gb312)); have n14_ := aM8_ ((q8x12_ : gb312 ≠ gb254)); have n15_ := aM8_ ((q8x38_ : gb308 ≠ gb312)); have n16_ := aM8_ ((q8x39_ : gb312 ≠ gb308)); clear HO_5; clear HO_6; clear HO_13; clear HO_17; clear BK250; clear BK254; clear BK308; clear HB; have HO_5 := n0_; have HO_6 := n1_; have HO_13 := n2_; have HO_17 := n3_; have BK250 := n4_; have BK254 := n5_; have BK308 := n6_; have HB := n7_; have BK312 := n8_; have GW312 := n9_; have GE312 := n10_; have NB250_312 := n11_; have NB312_250 := n12_; have NB254_312 := n13_; have NB312_254 := n14_; have NB308_312 := n15_; have NB312_308 := n16_; clear n0_ n1_ n2_ n3_ n4_ n5_ n6_ n7_ n8_ n9_ n10_ n11_ n12_ n13_ n14_ n15_ n16_; clear hb hbox hg; have hnb103 := NB312_250.out; have hnc103 := NB250_312.out; have hnb104 := NB312_254.out; have hnc104 := NB254_312.out; have hnb105 := NB312_308.out; have hnc105 := NB308_312.out; have hcz106_0 : w102.cell? ⟨gb312, 0, none⟩ = some (.int .i64 0) := (kC8_ BK312.out 0).trans rfl; have hcz106_1 : w102.cell? ⟨gb312, 1, none⟩ = some (.int .i64 0) := (kC8_ BK312.out 1).trans rfl; have hfz106_0 := blk_frozen BK312.out 0; have hfz106_1 := blk_frozen BK312.out 1) | go_quiet (fail))
     go_meet
     case rel => exact ⟨_, H', ⟨by have := HJ16.out; first | omega | exact Nat.le_refl _⟩, ⟨by (with_reducible repeat (first | apply rA8_ | apply rN8_ | apply rD8_)); exact Kd.R_mono (Kd.R_far (p := ⟨gb312, 1, none⟩) (Kd.R_far (p := ⟨gb312, 0, none⟩) (Kd.R_types HO_5.out BK312.out (by decide)) (fun _ hk => hk.2) (.int .i64 t309)) (fun _ hk => hk.2) (.int .i64 t310)) (fun _ hk => ⟨hk.1.1, hk.1.2.2⟩)⟩, ⟨by (with_reducible repeat (first | apply rA8_ | apply rN8_ | apply rD8_)); exact Kd.R_mono (Kd.R_far (p := ⟨gb312, 1, none⟩) (Kd.R_far (p := ⟨gb312, 0, none⟩) (Kd.R_types HO_6.out BK312.out (by decide)) (fun _ hk => hk.2) (.int .i64 t309)) (fun _ hk => hk.2) (.int .i64 t310)) (fun _ hk => ⟨hk.1.1, hk.1.2.2⟩)⟩, ⟨by (with_reducible repeat (first | apply rA8_ | apply rN8_ | apply rD8_)); exact Kd.R_mono (Kd.R_far (p := ⟨gb312, 1, none⟩) (Kd.R_far (p := ⟨gb312, 0, none⟩) (Kd.R_types HO_17.out BK312.out (by decide)) (fun _ hk => hk.2) (.int .i64 t309)) (fun _ hk => hk.2) (.int .i64 t310)) (fun _ hk => ⟨hk.1.1, hk.1.2.1⟩)⟩, ⟨by (with_reducible repeat (first | refine kN8_ ?_ _ | refine kD8_ ?_ | refine kA8_ ?_ _)); refine blk_far ?_ NB250_312.out _; (with_reducible repeat (first | refine kN8_ ?_ _ | refine kD8_ ?_ | refine kA8_ ?_ _)); refine blk_far ?_ NB250_312.out _; (with_reducible repeat (first | refine kN8_ ?_ _ | refine kD8_ ?_ | refine kA8_ ?_ _)); exact BK250.out⟩, ⟨by (with_reducible repeat (first | refine kN8_ ?_ _ | refine kD8_ ?_ | refine kA8_ ?_ _)); refine blk_far ?_ NB254_312.out _; (with_reducible repeat (first | refine kN8_ ?_ _ | refine kD8_ ?_ | refine kA8_ ?_ _)); refine blk_far ?_ NB254_312.out _; (with_reducible repeat (first | refine kN8_ ?_ _ | refine kD8_ ?_ | refine kA8_ ?_ _)); exact BK254.out⟩, ⟨by repeat (first | (with_reducible first | exact HB.out | apply bA8_ | apply bN8_ | apply bD8_ | refine bS8_ ?_ GE250.out | refine bS8_ ?_ GE254.out | refine bS8_ ?_ GE308.out | refine bS8_ ?_ GE312.out) | exact HB.out)⟩⟩
    subst c58
    have H1 : (if (!(t305 == t309) || (!(t306 == t310))) = true then (some false) else (laws_FnEights.j1 kj16 t241 t244 t290 t299 t247 t248 t251 t252)) = some r := by rw [if_pos rfl] at H; exact H
    clear H
    have H := H1
    clear H1
    by_cases c59 : (!(t305 == t309) || (!(t306 == t310))) = true
    ·rw [if_pos c59] at H
     have c59b0 : (!(t305 == t309) || (!(t306 == t310))) = true := c59
     clear c59
     obtain rfl := Option.some.inj H
     obtain ⟨Ao60, co60, eo60⟩ := Kd.R_slice HO_13.out
     subst eo60
     go_wp2_with (first | (go_at_call 32; (with_reducible refine (impl_RatioOf.calls kj16 _ _ t275 t305 t306 t307 _ ?side1 ?side2 A55.out).mono ?_); (case side1 => repeat (first | exact (Kd.R_reads' HO_13.out).2.2 | (with_reducible refine Kd.C_alloc ?_ _) | (with_reducible refine Kd.C_drewN ?_ _) | (with_reducible refine Kd.C_drew ?_))); (case side2 => exact (Kd.R_reads' HO_13.out).2.1); rintro e w61 ⟨rfl, hb⟩; have n0_ := aM8_ (rB8_ q8x6_ hb); have n1_ := aM8_ (rB8_ q8x7_ hb); have n2_ := aM8_ (rB8_ q8x24_ hb); have n3_ := aM8_ (rB8_ q8x8_ hb); have n4_ := aM8_ (kB8_ (g := gb250) (o := .cells #[.int .i64 t247, .int .i64 t248] 54 (0, 0)) q8x2_ hb); have n5_ := aM8_ (kB8_ (g := gb254) (o := .cells #[.int .i64 t251, .int .i64 t252] 54 (0, 0)) q8x3_ hb); have n6_ := aM8_ (bT8_ q8x1_ hb); clear HO_5; clear HO_6; clear HO_13; clear HO_17; clear BK250; clear BK254; clear HB; have HO_5 := n0_; have HO_6 := n1_; have HO_13 := n2_; have HO_17 := n3_; have BK250 := n4_; have BK254 := n5_; have HB := n6_; clear n0_ n1_ n2_ n3_ n4_ n5_ n6_; (try clear hb); (try clear hb2); (try clear hk); (try clear hi)) | ((with_reducible refine gate_dst (N := 19) rfl ?_); (try (refine gate_guard (by rfl) ?_; dsimp only)); refine box_event ?hg (N := 19) ?hd (cs := #[.int .i64 0, .int .i64 0]) (t := 54) ?hr ?_; (case hd => rfl); (case hg => rfl); (case hr => first | (go_simp; done) | (go_simp; rfl)); intro gb308 hg w62 hbox hb; have n0_ := aM8_ (rB8_ q8x6_ hb); have n1_ := aM8_ (rB8_ q8x7_ hb); have n2_ := aM8_ (rB8_ q8x24_ hb); have n3_ := aM8_ (rB8_ q8x8_ hb); have n4_ := aM8_ (kB8_ (g := gb250) (o := .cells #[.int .i64 t247, .int .i64 t248] 54 (0, 0)) q8x2_ hb); have n5_ := aM8_ (kB8_ (g := gb254) (o := .cells #[.int .i64 t251, .int .i64 t252] 54 (0, 0)) q8x3_ hb); have n6_ := aM8_ (bT8_ q8x1_ hb); have n7_ := aM8_ (hbox); have n8_ := aM8_ ((q8x35_ : w.heap.size ≤ gb308)); have n9_ := aM8_ ((q8x35_ : w.heap.size ≤ gb308)); have n10_ := aM8_ ((q8x9_ : gb250 ≠ gb308)); have n11_ := aM8_ ((q8x10_ : gb308 ≠ gb250)); have n12_ := aM8_ ((q8x11_ : gb254 ≠ gb308)); have n13_ := aM8_ ((q8x12_ : gb308 ≠ gb254)); clear HO_5; clear HO_6; clear HO_13; clear HO_17; clear BK250; clear BK254; clear HB; have HO_5 := n0_; have HO_6 := n1_; have HO_13 := n2_; have HO_17 := n3_; have BK250 := n4_; have BK254 := n5_; have HB := n6_; have BK308 := n7_; have GW308 := n8_; have GE308 := n9_; have NB250_308 := n10_; have NB308_250 := n11_; have NB254_308 := n12_; have NB308_254 := n13_; clear n0_ n1_ n2_ n3_ n4_ n5_ n6_ n7_ n8_ n9_ n10_ n11_ n12_ n13_; clear hb hbox hg; have hnb63 := NB308_250.out; have hnc63 := NB250_308.out; have hnb64 := NB308_254.out; have hnc64 := NB254_308.out; have hcz65_0 : w62.cell? ⟨gb308, 0, none⟩ = some (.int .i64 0) := (kC8_ BK308.out 0).trans rfl; have hcz65_1 : w62.cell? ⟨gb308, 1, none⟩ = some (.int .i64 0) := (kC8_ BK308.out 1).trans rfl; have hfz65_0 := blk_frozen BK308.out 0; have hfz65_1 := blk_frozen BK308.out 1; have hnb66 := NB250_254.out; have hnc66 := NB254_250.out; have hcz67_0 : w62.cell? ⟨gb250, 0, none⟩ = some (.int .i64 t247) := (kC8_ BK250.out 0).trans rfl; have hcz67_1 : w62.cell? ⟨gb250, 1, none⟩ = some (.int .i64 t248) := (kC8_ BK250.out 1).trans rfl; have hfz67_0 := blk_frozen BK250.out 0; have hfz67_1 := blk_frozen BK250.out 1; have hcz68_0 : w62.cell? ⟨gb254, 0, none⟩ = some (.int .i64 t251) := (kC8_ BK254.out 0).trans rfl; have hcz68_1 : w62.cell? ⟨gb254, 1, none⟩ = some (.int .i64 t252) := (kC8_ BK254.out 1).trans rfl; have hfz68_0 := blk_frozen BK254.out 0; have hfz68_1 := blk_frozen BK254.out 1) | (go_at_call 37; (with_reducible refine (spec_A2Sum.calls kj16 t247 t248 t251 t252 false t309 t310 true _ A56.out).mono ?_); rintro e w69 ⟨rfl, hb⟩; have n0_ := aM8_ (rB8_ q8x29_ hb); have n1_ := aM8_ (rB8_ q8x30_ hb); have n2_ := aM8_ (rB8_ q8x26_ hb); have n3_ := aM8_ (rB8_ q8x27_ hb); have n4_ := aM8_ (kB8_ (g := gb250) (o := .cells #[.int .i64 t247, .int .i64 t248] 54 (0, 0)) q8x19_ hb); have n5_ := aM8_ (kB8_ (g := gb254) (o := .cells #[.int .i64 t251, .int .i64 t252] 54 (0, 0)) q8x20_ hb); have n6_ := aM8_ (kB8_ (g := gb308) (o := .cells #[.int .i64 t305, .int .i64 t306] 54 (0, 0)) q8x15_ hb); have n7_ := aM8_ (bT8_ q8x4_ hb); clear HO_5; clear HO_6; clear HO_13; clear HO_17; clear BK250; clear BK254; clear BK308; clear HB; have HO_5 := n0_; have HO_6 := n1_; have HO_13 := n2_; have HO_17 := n3_; have BK250 := n4_; have BK254 := n5_; have BK308 := n6_; have HB := n7_; clear n0_ n1_ n2_ n3_ n4_ n5_ n6_ n7_; (try clear hb); (try clear hb2); (try clear hk); (try clear hi)) | ((with_reducible refine gate_dst (N := 21) rfl ?_); (try (refine gate_guard (by rfl) ?_; dsimp only)); refine box_event ?hg (N := 21) ?hd (cs := #[.int .i64 0, .int .i64 0]) (t := 54) ?hr ?_; (case hd => rfl); (case hg => rfl); (case hr => first | (go_simp; done) | (go_simp; rfl)); intro gb312 hg w70 hbox hb; have n0_ := aM8_ (rB8_ q8x6_ hb); have n1_ := aM8_ (rB8_ q8x7_ hb); have n2_ := aM8_ (rB8_ q8x24_ hb); have n3_ := aM8_ (rB8_ q8x8_ hb); have n4_ := aM8_ (kB8_ (g := gb250) (o := .cells #[.int .i64 t247, .int .i64 t248] 54 (0, 0)) q8x2_ hb); have n5_ := aM8_ (kB8_ (g := gb254) (o := .cells #[.int .i64 t251, .int .i64 t252] 54 (0, 0)) q8x3_ hb); have n6_ := aM8_ (kB8_ (g := gb308) (o := .cells #[.int .i64 t305, .int .i64 t306] 54 (0, 0)) q8x17_ hb); have n7_ := aM8_ (bT8_ q8x4_ hb); have n8_ := aM8_ (hbox); have n9_ := aM8_ ((q8x43_ : w.heap.size ≤ gb312)); have n10_ := aM8_ ((q8x43_ : w.heap.size ≤ gb312)); have n11_ := aM8_ ((q8x9_ : gb250 ≠ gb312)); have n12_ := aM8_ ((q8x10_ : gb312 ≠ gb250)); have n13_ := aM8_ ((q8x11_ : gb254 ≠ gb312)); have n14_ := aM8_ ((q8x12_ : gb312 ≠ gb254)); have n15_ := aM8_ ((q8x38_ : gb308 ≠ gb312)); have n16_ := aM8_ ((q8x39_ : gb312 ≠ gb308)); clear HO_5; clear HO_6; clear HO_13; clear HO_17; clear BK250; clear BK254; clear BK308; clear HB; have HO_5 := n0_; have HO_6 := n1_; have HO_13 := n2_; have HO_17 := n3_; have BK250 := n4_; have BK254 := n5_; have BK308 := n6_; have HB := n7_; have BK312 := n8_; have GW312 := n9_; have GE312 := n10_; have NB250_312 := n11_; have NB312_250 := n12_; have NB254_312 := n13_; have NB312_254 := n14_; have NB308_312 := n15_; have NB312_308 := n16_; clear n0_ n1_ n2_ n3_ n4_ n5_ n6_ n7_ n8_ n9_ n10_ n11_ n12_ n13_ n14_ n15_ n16_; clear hb hbox hg; have hnb71 := NB312_250.out; have hnc71 := NB250_312.out; have hnb72 := NB312_254.out; have hnc72 := NB254_312.out; have hnb73 := NB312_308.out; have hnc73 := NB308_312.out; have hcz74_0 : w70.cell? ⟨gb312, 0, none⟩ = some (.int .i64 0) := (kC8_ BK312.out 0).trans rfl; have hcz74_1 : w70.cell? ⟨gb312, 1, none⟩ = some (.int .i64 0) := (kC8_ BK312.out 1).trans rfl; have hfz74_0 := blk_frozen BK312.out 0; have hfz74_1 := blk_frozen BK312.out 1; have hcz75_0 : w70.cell? ⟨gb308, 0, none⟩ = some (.int .i64 t305) := (kC8_ BK308.out 0).trans rfl; have hcz75_1 : w70.cell? ⟨gb308, 1, none⟩ = some (.int .i64 t306) := (kC8_ BK308.out 1).trans rfl; have hfz75_0 := blk_frozen BK308.out 0; have hfz75_1 := blk_frozen BK308.out 1) | go_quiet (fail))
     go_ret
     exact ⟨by first | rfl | (simp [errW_none, errW_some] <;> rfl) | (simp [*, errW_none, errW_some] <;> rfl), by repeat (first | (with_reducible first | exact HB.out | apply bA8_ | apply bN8_ | apply bD8_ | refine bS8_ ?_ GE250.out | refine bS8_ ?_ GE254.out | refine bS8_ ?_ GE308.out | refine bS8_ ?_ GE312.out) | exact HB.out)⟩
    rw [if_neg c59] at H
    have c59b0 : (!(t305 == t309) || (!(t306 == t310))) = false := by simpa using c59
    clear c59
    have H' := aM8_ H
    clear H
    obtain ⟨Ao76, co76, eo76⟩ := Kd.R_slice HO_13.out
    subst eo76
    go_wp2_with (first | (go_at_call 32; (with_reducible refine (impl_RatioOf.calls kj16 _ _ t275 t305 t306 t307 _ ?side1 ?side2 A55.out).mono ?_); (case side1 => repeat (first | exact (Kd.R_reads' HO_13.out).2.2 | (with_reducible refine Kd.C_alloc ?_ _) | (with_reducible refine Kd.C_drewN ?_ _) | (with_reducible refine Kd.C_drew ?_))); (case side2 => exact (Kd.R_reads' HO_13.out).2.1); rintro e w77 ⟨rfl, hb⟩; have n0_ := aM8_ (rB8_ q8x6_ hb); have n1_ := aM8_ (rB8_ q8x7_ hb); have n2_ := aM8_ (rB8_ q8x24_ hb); have n3_ := aM8_ (rB8_ q8x8_ hb); have n4_ := aM8_ (kB8_ (g := gb250) (o := .cells #[.int .i64 t247, .int .i64 t248] 54 (0, 0)) q8x2_ hb); have n5_ := aM8_ (kB8_ (g := gb254) (o := .cells #[.int .i64 t251, .int .i64 t252] 54 (0, 0)) q8x3_ hb); have n6_ := aM8_ (bT8_ q8x1_ hb); clear HO_5; clear HO_6; clear HO_13; clear HO_17; clear BK250; clear BK254; clear HB; have HO_5 := n0_; have HO_6 := n1_; have HO_13 := n2_; have HO_17 := n3_; have BK250 := n4_; have BK254 := n5_; have HB := n6_; clear n0_ n1_ n2_ n3_ n4_ n5_ n6_; (try clear hb); (try clear hb2); (try clear hk); (try clear hi)) | ((with_reducible refine gate_dst (N := 19) rfl ?_); (try (refine gate_guard (by rfl) ?_; dsimp only)); refine box_event ?hg (N := 19) ?hd (cs := #[.int .i64 0, .int .i64 0]) (t := 54) ?hr ?_; (case hd => rfl); (case hg => rfl); (case hr => first | (go_simp; done) | (go_simp; rfl)); intro gb308 hg w78 hbox hb; have n0_ := aM8_ (rB8_ q8x6_ hb); have n1_ := aM8_ (rB8_ q8x7_ hb); have n2_ := aM8_ (rB8_ q8x24_ hb); have n3_ := aM8_ (rB8_ q8x8_ hb); have n4_ := aM8_ (kB8_ (g := gb250) (o := .cells #[.int .i64 t247, .int .i64 t248] 54 (0, 0)) q8x2_ hb); have n5_ := aM8_ (kB8_ (g := gb254) (o := .cells #[.int .i64 t251, .int .i64 t252] 54 (0, 0)) q8x3_ hb); have n6_ := aM8_ (bT8_ q8x1_ hb); have n7_ := aM8_ (hbox); have n8_ := aM8_ ((q8x35_ : w.heap.size ≤ gb308)); have n9_ := aM8_ ((q8x35_ : w.heap.size ≤ gb308)); have n10_ := aM8_ ((q8x9_ : gb250 ≠ gb308)); have n11_ := aM8_ ((q8x10_ : gb308 ≠ gb250)); have n12_ := aM8_ ((q8x11_ : gb254 ≠ gb308)); have n13_ := aM8_ ((q8x12_ : gb308 ≠ gb254)); clear HO_5; clear HO_6; clear HO_13; clear HO_17; clear BK250; clear BK254; clear HB; have HO_5 := n0_; have HO_6 := n1_; have HO_13 := n2_; have HO_17 := n3_; have BK250 := n4_; have BK254 := n5_; have HB := n6_; have BK308 := n7_; have GW308 := n8_; have GE308 := n9_; have NB250_308 := n10_; have NB308_250 := n11_; have NB254_308 := n12_; have NB308_254 := n13_; clear n0_ n1_ n2_ n3_ n4_ n5_ n6_ n7_ n8_ n9_ n10_ n11_ n12_ n13_; clear hb hbox hg; have hnb79 := NB308_250.out; have hnc79 := NB250_308.out; have hnb80 := NB308_254.out; have hnc80 := NB254_308.out; have hcz81_0 : w78.cell? ⟨gb308, 0, none⟩ = some (.int .i64 0) := (kC8_ BK308.out 0).trans rfl; have hcz81_1 : w78.cell? ⟨gb308, 1, none⟩ = some (.int .i64 0) := (kC8_ BK308.out 1).trans rfl; have hfz81_0 := blk_frozen BK308.out 0; have hfz81_1 := blk_frozen BK308.out 1; have hnb82 := NB250_254.out; have hnc82 := NB254_250.out; have hcz83_0 : w78.cell? ⟨gb250, 0, none⟩ = some (.int .i64 t247) := (kC8_ BK250.out 0).trans rfl; have hcz83_1 : w78.cell? ⟨gb250, 1, none⟩ = some (.int .i64 t248) := (kC8_ BK250.out 1).trans rfl; have hfz83_0 := blk_frozen BK250.out 0; have hfz83_1 := blk_frozen BK250.out 1; have hcz84_0 : w78.cell? ⟨gb254, 0, none⟩ = some (.int .i64 t251) := (kC8_ BK254.out 0).trans rfl; have hcz84_1 : w78.cell? ⟨gb254, 1, none⟩ = some (.int .i64 t252) := (kC8_ BK254.out 1).trans rfl; have hfz84_0 := blk_frozen BK254.out 0; have hfz84_1 := blk_frozen BK254.out 1) | (go_at_call 37; (with_reducible refine (spec_A2Sum.calls kj16 t247 t248 t251 t252 false t309 t310 true _ A56.out).mono ?_); rintro e w85 ⟨rfl, hb⟩; have n0_ := aM8_ (rB8_ q8x29_ hb); have n1_ := aM8_ (rB8_ q8x30_ hb); have n2_ := aM8_ (rB8_ q8x26_ hb); have n3_ := aM8_ (rB8_ q8x27_ hb); have n4_ := aM8_ (kB8_ (g := gb250) (o := .cells #[.int .i64 t247, .int .i64 t248] 54 (0, 0)) q8x19_ hb); have n5_ := aM8_ (kB8_ (g := gb254) (o := .cells #[.int .i64 t251, .int .i64 t252] 54 (0, 0)) q8x20_ hb); have n6_ := aM8_ (kB8_ (g := gb308) (o := .cells #[.int .i64 t305, .int .i64 t306] 54 (0, 0)) q8x15_ hb); have n7_ := aM8_ (bT8_ q8x4_ hb); clear HO_5; clear HO_6; clear HO_13; clear HO_17; clear BK250; clear BK254; clear BK308; clear HB; have HO_5 := n0_; have HO_6 := n1_; have HO_13 := n2_; have HO_17 := n3_; have BK250 := n4_; have BK254 := n5_; have BK308 := n6_; have HB := n7_; clear n0_ n1_ n2_ n3_ n4_ n5_ n6_ n7_; (try clear hb); (try clear hb2); (try clear hk); (try clear hi)) | ((with_reducible refine gate_dst (N := 21) rfl ?_); (try (refine gate_guard (by rfl) ?_; dsimp only)); refine box_event ?hg (N := 21) ?hd (cs := #[.int .i64 0, .int .i64 0]) (t := 54) ?hr ?_; (case hd => rfl); (case hg => rfl); (case hr => first | (go_simp; done) | (go_simp; rfl)); intro gb312 hg w86 hbox hb; have n0_ := aM8_ (rB8_ q8x6_ hb); have n1_ := aM8_ (rB8_ q8x7_ hb); have n2_ := aM8_ (rB8_ q8x24_ hb); have n3_ := aM8_ (rB8_ q8x8_ hb); have n4_ := aM8_ (kB8_ (g := gb250) (o := .cells #[.int .i64 t247, .int .i64 t248] 54 (0, 0)) q8x2_ hb); have n5_ := aM8_ (kB8_ (g := gb254) (o := .cells #[.int .i64 t251, .int .i64 t252] 54 (0, 0)) q8x3_ hb); have n6_ := aM8_ (kB8_ (g := gb308) (o := .cells #[.int .i64 t305, .int .i64 t306] 54 (0, 0)) q8x17_ hb); have n7_ := aM8_ (bT8_ q8x4_ hb); have n8_ := aM8_ (hbox); have n9_ := aM8_ ((q8x43_ : w.heap.size ≤ gb312)); have n10_ := aM8_ ((q8x43_ : w.heap.size ≤ gb312)); have n11_ := aM8_ ((q8x9_ : gb250 ≠ gb312)); have n12_ := aM8_ ((q8x10_ : gb312 ≠ gb250)); have n13_ := aM8_ ((q8x11_ : gb254 ≠ gb312)); have n14_ := aM8_ ((q8x12_ : gb312 ≠ gb254)); have n15_ := aM8_ ((q8x38_ : gb308 ≠ gb312)); have n16_ := aM8_ ((q8x39_ : gb312 ≠ gb308)); clear HO_5; clear HO_6; clear HO_13; clear HO_17; clear BK250; clear BK254; clear BK308; clear HB; have HO_5 := n0_; have HO_6 := n1_; have HO_13 := n2_; have HO_17 := n3_; have BK250 := n4_; have BK254 := n5_; have BK308 := n6_; have HB := n7_; have BK312 := n8_; have GW312 := n9_; have GE312 := n10_; have NB250_312 := n11_; have NB312_250 := n12_; have NB254_312 := n13_; have NB312_254 := n14_; have NB308_312 := n15_; have NB312_308 := n16_; clear n0_ n1_ n2_ n3_ n4_ n5_ n6_ n7_ n8_ n9_ n10_ n11_ n12_ n13_ n14_ n15_ n16_; clear hb hbox hg; have hnb87 := NB312_250.out; have hnc87 := NB250_312.out; have hnb88 := NB312_254.out; have hnc88 := NB254_312.out; have hnb89 := NB312_308.out; have hnc89 := NB308_312.out; have hcz90_0 : w86.cell? ⟨gb312, 0, none⟩ = some (.int .i64 0) := (kC8_ BK312.out 0).trans rfl; have hcz90_1 : w86.cell? ⟨gb312, 1, none⟩ = some (.int .i64 0) := (kC8_ BK312.out 1).trans rfl; have hfz90_0 := blk_frozen BK312.out 0; have hfz90_1 := blk_frozen BK312.out 1; have hcz91_0 : w86.cell? ⟨gb308, 0, none⟩ = some (.int .i64 t305) := (kC8_ BK308.out 0).trans rfl; have hcz91_1 : w86.cell? ⟨gb308, 1, none⟩ = some (.int .i64 t306) := (kC8_ BK308.out 1).trans rfl; have hfz91_0 := blk_frozen BK308.out 0; have hfz91_1 := blk_frozen BK308.out 1) | go_quiet (fail))
    go_meet
    case rel => exact ⟨_, H', ⟨by have := HJ16.out; first | omega | exact Nat.le_refl _⟩, ⟨by (with_reducible repeat (first | apply rA8_ | apply rN8_ | apply rD8_)); exact Kd.R_mono (Kd.R_far (p := ⟨gb312, 1, none⟩) (Kd.R_far (p := ⟨gb312, 0, none⟩) (Kd.R_types HO_5.out BK312.out (by decide)) (fun _ hk => hk.2) (.int .i64 t309)) (fun _ hk => hk.2) (.int .i64 t310)) (fun _ hk => ⟨hk.1.1, hk.1.2.2⟩)⟩, ⟨by (with_reducible repeat (first | apply rA8_ | apply rN8_ | apply rD8_)); exact Kd.R_mono (Kd.R_far (p := ⟨gb312, 1, none⟩) (Kd.R_far (p := ⟨gb312, 0, none⟩) (Kd.R_types HO_6.out BK312.out (by decide)) (fun _ hk => hk.2) (.int .i64 t309)) (fun _ hk => hk.2) (.int .i64 t310)) (fun _ hk => ⟨hk.1.1, hk.1.2.2⟩)⟩, ⟨by (with_reducible repeat (first | apply rA8_ | apply rN8_ | apply rD8_)); exact Kd.R_mono (Kd.R_far (p := ⟨gb312, 1, none⟩) (Kd.R_far (p := ⟨gb312, 0, none⟩) (Kd.R_types HO_17.out BK312.out (by decide)) (fun _ hk => hk.2) (.int .i64 t309)) (fun _ hk => hk.2) (.int .i64 t310)) (fun _ hk => ⟨hk.1.1, hk.1.2.1⟩)⟩, ⟨by (with_reducible repeat (first | refine kN8_ ?_ _ | refine kD8_ ?_ | refine kA8_ ?_ _)); refine blk_far ?_ NB250_312.out _; (with_reducible repeat (first | refine kN8_ ?_ _ | refine kD8_ ?_ | refine kA8_ ?_ _)); refine blk_far ?_ NB250_312.out _; (with_reducible repeat (first | refine kN8_ ?_ _ | refine kD8_ ?_ | refine kA8_ ?_ _)); exact BK250.out⟩, ⟨by (with_reducible repeat (first | refine kN8_ ?_ _ | refine kD8_ ?_ | refine kA8_ ?_ _)); refine blk_far ?_ NB254_312.out _; (with_reducible repeat (first | refine kN8_ ?_ _ | refine kD8_ ?_ | refine kA8_ ?_ _)); refine blk_far ?_ NB254_312.out _; (with_reducible repeat (first | refine kN8_ ?_ _ | refine kD8_ ?_ | refine kA8_ ?_ _)); exact BK254.out⟩, ⟨by repeat (first | (with_reducible first | exact HB.out | apply bA8_ | apply bN8_ | apply bD8_ | refine bS8_ ?_ GE250.out | refine bS8_ ?_ GE254.out | refine bS8_ ?_ GE308.out | refine bS8_ ?_ GE312.out) | exact HB.out)⟩⟩
   case rest =>
    clear HC53
    try clear c1
    try clear c2
    try clear p2
    try clear c3
    try clear c4
    try clear c5
    try clear c6
    try clear c7
    try clear c8
    try clear c9
    try clear c10
    try clear c11
    try clear c12
    try clear c27
    try clear c37
    try clear c37b0
    try clear c37b1
    try clear c38
    try clear c38b0
    try clear c38b1
    try clear c39
    try clear c39b0
    try clear c39b1
    try clear c41
    try clear c42
    try clear c42b0
    try clear c42b1
    try clear c52
    try clear c54
    try clear c54b0
    try clear c54b1
    try clear c57
    try clear c57b0
    try clear c57b1
    try clear c58
    try clear c59
    try clear c59b0
    try clear c63
    try clear c64
    try clear c66
    try clear c71
    try clear c72
    try clear c73
    try clear c79
    try clear c80
    try clear c82
    try clear c87
    try clear c88
    try clear c89
    try clear c95
    try clear c96
    try clear c98
    try clear c103
    try clear c104
    try clear c105
    try clear c110
    try clear c111
    try clear c113
    try clear c118
    try clear c119
    try clear c120
    try clear c122
    try clear c122b0
    try clear c122b1
    try clear hcz100_0 hcz100_1
    try clear hcz106_0 hcz106_1
    try clear hcz112_0 hcz112_1
    try clear hcz114_0 hcz114_1
    try clear hcz115_0 hcz115_1
    try clear hcz121_0 hcz121_1
    try clear hcz23_0 hcz23_1
    try clear hcz28_0 hcz28_1
    try clear hcz65_0 hcz65_1
    try clear hcz67_0 hcz67_1
    try clear hcz68_0 hcz68_1
    try clear hcz74_0 hcz74_1
    try clear hcz75_0 hcz75_1
    try clear hcz81_0 hcz81_1
    try clear hcz83_0 hcz83_1
    try clear hcz84_0 hcz84_1
    try clear hcz90_0 hcz90_1
    try clear hcz91_0 hcz91_1
    try clear hcz97_0 hcz97_1
    try clear hcz99_0 hcz99_1
    try clear hfz100_0 hfz100_1
    try clear hfz106_0 hfz106_1
    try clear hfz112_0 hfz112_1
    try clear hfz114_0 hfz114_1
    try clear hfz115_0 hfz115_1
    try clear hfz121_0 hfz121_1
    try clear hfz23_0 hfz23_1
    try clear hfz28_0 hfz28_1
    try clear hfz65_0 hfz65_1
    try clear hfz67_0 hfz67_1
    try clear hfz68_0 hfz68_1
    try clear hfz74_0 hfz74_1
    try clear hfz75_0 hfz75_1
    try clear hfz81_0 hfz81_1
    try clear hfz83_0 hfz83_1
    try clear hfz84_0 hfz84_1
    try clear hfz90_0 hfz90_1
    try clear hfz91_0 hfz91_1
    try clear hfz97_0 hfz97_1
    try clear hfz99_0 hfz99_1
    try clear p2
    obtain ⟨kq, HA, HJ52, HO_5, HO_6, HO_17, BK250, BK254, HB⟩ := hcut
    cases kq with
    | zero => exact absurd HA.out (by simp [laws_FnEights.j1])
    | succ kj52 => as_aux_lemma =>
     have H := HA.out
     clear HA
     simp only [laws_FnEights.j1] at H
     have HC123 := aM8_ H
     clear H
     go_upto_if 134 with (fail)
     repeat (go_quiet (fail); go_upto_if 134 with (fail))
     go_cut [] (fun wc => ∃ (kq : Nat), Aside0 (laws_FnEights.j2 kq t241 t244 = some r) ∧ Aside0 (kq ≤ kj52) ∧ Aside0 (Kd.R (Kd.int .i64) 2 wc w.heap.size (fun k_ => some k_ ≠ ((.slice Ao24 t244.length co24) : Value).ownBlock) (.slice Ao20 t241.length co20) t241) ∧ Aside0 (Kd.R (Kd.int .i64) 2 wc w.heap.size (fun k_ => some k_ ≠ ((.slice Ao20 t241.length co20) : Value).ownBlock) (.slice Ao24 t244.length co24) t244) ∧ Aside0 (wc.heap[gb250]? = some (.cells #[.int .i64 t247, .int .i64 t248] 54 (0, 0))) ∧ Aside0 (wc.heap[gb254]? = some (.cells #[.int .i64 t251, .int .i64 t252] 54 (0, 0))) ∧ Aside0 (Below w.heap.size w wc))
     case first =>
      have H := HC123.out
      clear HC123
      by_cases c124 : t290 = 0
      rotate_left
      ·rw [if_neg c124] at H
       have c124b0 : (t290 == 0) = false := beq_eq_false_iff_ne.mpr c124
       have c124b1 : (t290 != 0) = true := bne_iff_ne.mpr c124
       (first | rw [c124b0] | (simp only [i64_w, i32_w]; rw [c124b0]) | skip)
       by_cases c192 : t290 = 3
       rotate_left
       ·rw [if_neg c192] at H
        have c192b0 : (t290 == 3) = false := beq_eq_false_iff_ne.mpr c192
        have c192b1 : (t290 != 3) = true := bne_iff_ne.mpr c192
        obtain rfl := Option.some.inj H
        go_wp2
        repeat (go_quiet (fail); try go_wp2)
        go_ret
        exact ⟨by first | rfl | (simp [errW_none, errW_some] <;> rfl) | (simp [*, errW_none, errW_some] <;> rfl), by repeat (first | (with_reducible first | exact HB.out | apply bA8_ | apply bN8_ | apply bD8_ | refine bS8_ ?_ GE250.out | refine bS8_ ?_ GE254.out) | exact HB.out)⟩
       rw [if_pos c192] at H
       have c192b0 : (t290 == 3) = true := beq_iff_eq.mpr c192
       have c192b1 : (t290 != 3) = false := bne_eq_false_iff_eq.mpr c192
       clear c192
       have H' := aM8_ H
       clear H
       go_wp2
       repeat (go_quiet (fail); try go_wp2)
       go_meet
       case rel => exact ⟨_, H', ⟨by have := HJ16.out; have := HJ52.out; first | omega | exact Nat.le_refl _⟩, ⟨by (with_reducible repeat (first | apply rA8_ | apply rN8_ | apply rD8_)); exact Kd.R_mono HO_5.out (fun _ hk => hk.1)⟩, ⟨by (with_reducible repeat (first | apply rA8_ | apply rN8_ | apply rD8_)); exact Kd.R_mono HO_6.out (fun _ hk => hk.1)⟩, ⟨by (with_reducible repeat (first | refine kN8_ ?_ _ | refine kD8_ ?_ | refine kA8_ ?_ _)); exact BK250.out⟩, ⟨by (with_reducible repeat (first | refine kN8_ ?_ _ | refine kD8_ ?_ | refine kA8_ ?_ _)); exact BK254.out⟩, ⟨by repeat (first | (with_reducible first | exact HB.out | apply bA8_ | apply bN8_ | apply bD8_ | refine bS8_ ?_ GE250.out | refine bS8_ ?_ GE254.out) | exact HB.out)⟩⟩
      rw [if_pos c124] at H
      have c124b0 : (t290 == 0) = true := beq_iff_eq.mpr c124
      have c124b1 : (t290 != 0) = false := bne_eq_false_iff_eq.mpr c124
      clear c124
      (first | rw [c124b0] | (simp only [i64_w, i32_w]; rw [c124b0]) | skip)
      replace H := Option.bind_eq_some_iff.mp H
      obtain ⟨⟨t313, t314, t315⟩, A1250, H⟩ := H
      replace H : ((spec_A2Sum.f kj52 t247 t248 t251 t252 true).bind fun bt317 => (if t315 = 0 then (if bt317.2.2 = true then (if (!(t313 == bt317.1) || (!(t314 == bt317.2.1))) = true then (some false) else (laws_FnEights.j2 kj52 t241 t244)) else (laws_FnEights.j2 kj52 t241 t244)) else (laws_FnEights.j2 kj52 t241 t244))) = some r := H
      have A125 := aM8_ A1250
      clear A1250
      replace H := Option.bind_eq_some_iff.mp H
      obtain ⟨⟨t317, t318, t319⟩, A1260, H⟩ := H
      replace H : (if t315 = 0 then (if t319 = true then (if (!(t313 == t317) || (!(t314 == t318))) = true then (some false) else (laws_FnEights.j2 kj52 t241 t244)) else (laws_FnEights.j2 kj52 t241 t244)) else (laws_FnEights.j2 kj52 t241 t244)) = some r := H
      have A126 := aM8_ A1260
      clear A1260
      by_cases c127 : t315 = 0
      rotate_left
      ·rw [if_neg c127] at H
       have c127b0 : (t315 == 0) = false := beq_eq_false_iff_ne.mpr c127
       have c127b1 : (t315 != 0) = true := bne_iff_ne.mpr c127
       have H' := aM8_ H
       clear H
       obtain ⟨Ao177, co177, eo177⟩ := Kd.R_slice HO_17.out
       subst eo177
       go_wp2_with (first | (go_at_call 32; (with_reducible refine (impl_RatioOf.calls kj52 _ _ t299 t313 t314 t315 _ ?side1 ?side2 A125.out).mono ?_); (case side1 => repeat (first | exact (Kd.R_reads' HO_17.out).2.2 | (with_reducible refine Kd.C_alloc ?_ _) | (with_reducible refine Kd.C_drewN ?_ _) | (with_reducible refine Kd.C_drew ?_))); (case side2 => exact (Kd.R_reads' HO_17.out).2.1); rintro e w178 ⟨rfl, hb⟩; have n0_ := aM8_ (rB8_ q8x6_ hb); have n1_ := aM8_ (rB8_ q8x7_ hb); have n2_ := aM8_ (rB8_ q8x8_ hb); have n3_ := aM8_ (kB8_ (g := gb250) (o := .cells #[.int .i64 t247, .int .i64 t248] 54 (0, 0)) q8x2_ hb); have n4_ := aM8_ (kB8_ (g := gb254) (o := .cells #[.int .i64 t251, .int .i64 t252] 54 (0, 0)) q8x3_ hb); have n5_ := aM8_ (bT8_ q8x1_ hb); clear HO_5; clear HO_6; clear HO_17; clear BK250; clear BK254; clear HB; have HO_5 := n0_; have HO_6 := n1_; have HO_17 := n2_; have BK250 := n3_; have BK254 := n4_; have HB := n5_; clear n0_ n1_ n2_ n3_ n4_ n5_; (try clear hb); (try clear hb2); (try clear hk); (try clear hi)) | ((with_reducible refine gate_dst (N := 23) rfl ?_); (try (refine gate_guard (by rfl) ?_; dsimp only)); refine box_event ?hg (N := 23) ?hd (cs := #[.int .i64 0, .int .i64 0]) (t := 54) ?hr ?_; (case hd => rfl); (case hg => rfl); (case hr => first | (go_simp; done) | (go_simp; rfl)); intro gb316 hg w179 hbox hb; have n0_ := aM8_ (rB8_ q8x6_ hb); have n1_ := aM8_ (rB8_ q8x7_ hb); have n2_ := aM8_ (rB8_ q8x8_ hb); have n3_ := aM8_ (kB8_ (g := gb250) (o := .cells #[.int .i64 t247, .int .i64 t248] 54 (0, 0)) q8x2_ hb); have n4_ := aM8_ (kB8_ (g := gb254) (o := .cells #[.int .i64 t251, .int .i64 t252] 54 (0, 0)) q8x3_ hb); have n5_ := aM8_ (bT8_ q8x1_ hb); have n6_ := aM8_ (hbox); have n7_ := aM8_ ((q8x35_ : w.heap.size ≤ gb316)); have n8_ := aM8_ ((q8x35_ : w.heap.size ≤ gb316)); have n9_ := aM8_ ((q8x9_ : gb250 ≠ gb316)); have n10_ := aM8_ ((q8x10_ : gb316 ≠ gb250)); have n11_ := aM8_ ((q8x11_ : gb254 ≠ gb316)); have n12_ := aM8_ ((q8x12_ : gb316 ≠ gb254)); clear HO_5; clear HO_6; clear HO_17; clear BK250; clear BK254; clear HB; have HO_5 := n0_; have HO_6 := n1_; have HO_17 := n2_; have BK250 := n3_; have BK254 := n4_; have HB := n5_; have BK316 := n6_; have GW316 := n7_; have GE316 := n8_; have NB250_316 := n9_; have NB316_250 := n10_; have NB254_316 := n11_; have NB316_254 := n12_; clear n0_ n1_ n2_ n3_ n4_ n5_ n6_ n7_ n8_ n9_ n10_ n11_ n12_; clear hb hbox hg; have hnb180 := NB316_250.out; have hnc180 := NB250_316.out; have hnb181 := NB316_254.out; have hnc181 := NB254_316.out; have hcz182_0 : w179.cell? ⟨gb316, 0, none⟩ = some (.int .i64 0) := (kC8_ BK316.out 0).trans rfl; have hcz182_1 : w179.cell? ⟨gb316, 1, none⟩ = some (.int .i64 0) := (kC8_ BK316.out 1).trans rfl; have hfz182_0 := blk_frozen BK316.out 0; have hfz182_1 := blk_frozen BK316.out 1; have hnb183 := NB250_254.out; have hnc183 := NB254_250.out; have hcz184_0 : w179.cell? ⟨gb250, 0, none⟩ = some (.int .i64 t247) := (kC8_ BK250.out 0).trans rfl; have hcz184_1 : w179.cell? ⟨gb250, 1, none⟩ = some (.int .i64 t248) := (kC8_ BK250.out 1).trans rfl; have hfz184_0 := blk_frozen BK250.out 0; have hfz184_1 := blk_frozen BK250.out 1; have hcz185_0 : w179.cell? ⟨gb254, 0, none⟩ = some (.int .i64 t251) := (kC8_ BK254.out 0).trans rfl; have hcz185_1 : w179.cell? ⟨gb254, 1, none⟩ = some (.int .i64 t252) := (kC8_ BK254.out 1).trans rfl; have hfz185_0 := blk_frozen BK254.out 0; have hfz185_1 := blk_frozen BK254.out 1) | (go_at_call 37; (with_reducible refine (spec_A2Sum.calls kj52 t247 t248 t251 t252 true t317 t318 t319 _ A126.out).mono ?_); rintro e w186 ⟨rfl, hb⟩; have n0_ := aM8_ (rB8_ q8x31_ hb); have n1_ := aM8_ (rB8_ q8x32_ hb); have n2_ := aM8_ (rB8_ q8x28_ hb); have n3_ := aM8_ (kB8_ (g := gb250) (o := .cells #[.int .i64 t247, .int .i64 t248] 54 (0, 0)) q8x21_ hb); have n4_ := aM8_ (kB8_ (g := gb254) (o := .cells #[.int .i64 t251, .int .i64 t252] 54 (0, 0)) q8x22_ hb); have n5_ := aM8_ (kB8_ (g := gb316) (o := .cells #[.int .i64 t313, .int .i64 t314] 54 (0, 0)) q8x16_ hb); have n6_ := aM8_ (bT8_ q8x5_ hb); clear HO_5; clear HO_6; clear HO_17; clear BK250; clear BK254; clear BK316; clear HB; have HO_5 := n0_; have HO_6 := n1_; have HO_17 := n2_; have BK250 := n3_; have BK254 := n4_; have BK316 := n5_; have HB := n6_; clear n0_ n1_ n2_ n3_ n4_ n5_ n6_; (try clear hb); (try clear hb2); (try clear hk); (try clear hi)) | ((with_reducible refine gate_dst (N := 25) rfl ?_); (try (refine gate_guard (by rfl) ?_; dsimp only)); refine box_event ?hg (N := 25) ?hd (cs := #[.int .i64 0, .int .i64 0]) (t := 54) ?hr ?_; (case hd => rfl); (case hg => rfl); (case hr => first | (go_simp; done) | (go_simp; rfl)); intro gb320 hg w187 hbox hb; have n0_ := aM8_ (rB8_ q8x6_ hb); have n1_ := aM8_ (rB8_ q8x7_ hb); have n2_ := aM8_ (rB8_ q8x8_ hb); have n3_ := aM8_ (kB8_ (g := gb250) (o := .cells #[.int .i64 t247, .int .i64 t248] 54 (0, 0)) q8x2_ hb); have n4_ := aM8_ (kB8_ (g := gb254) (o := .cells #[.int .i64 t251, .int .i64 t252] 54 (0, 0)) q8x3_ hb); have n5_ := aM8_ (kB8_ (g := gb316) (o := .cells #[.int .i64 t313, .int .i64 t314] 54 (0, 0)) q8x18_ hb); have n6_ := aM8_ (bT8_ q8x5_ hb); have n7_ := aM8_ (hbox); have n8_ := aM8_ ((q8x44_ : w.heap.size ≤ gb320)); have n9_ := aM8_ ((q8x44_ : w.heap.size ≤ gb320)); have n10_ := aM8_ ((q8x9_ : gb250 ≠ gb320)); have n11_ := aM8_ ((q8x10_ : gb320 ≠ gb250)); have n12_ := aM8_ ((q8x11_ : gb254 ≠ gb320)); have n13_ := aM8_ ((q8x12_ : gb320 ≠ gb254)); have n14_ := aM8_ ((q8x40_ : gb316 ≠ gb320)); have n15_ := aM8_ ((q8x41_ : gb320 ≠ gb316)); clear HO_5; clear HO_6; clear HO_17; clear BK250; clear BK254; clear BK316; clear HB; have HO_5 := n0_; have HO_6 := n1_; have HO_17 := n2_; have BK250 := n3_; have BK254 := n4_; have BK316 := n5_; have HB := n6_; have BK320 := n7_; have GW320 := n8_; have GE320 := n9_; have NB250_320 := n10_; have NB320_250 := n11_; have NB254_320 := n12_; have NB320_254 := n13_; have NB316_320 := n14_; have NB320_316 := n15_; clear n0_ n1_ n2_ n3_ n4_ n5_ n6_ n7_ n8_ n9_ n10_ n11_ n12_ n13_ n14_ n15_; clear hb hbox hg; have hnb188 := NB320_250.out; have hnc188 := NB250_320.out; have hnb189 := NB320_254.out; have hnc189 := NB254_320.out; have hnb190 := NB320_316.out; have hnc190 := NB316_320.out; have hcz191_0 : w187.cell? ⟨gb320, 0, none⟩ = some (.int .i64 0) := (kC8_ BK320.out 0).trans rfl; have hcz191_1 : w187.cell? ⟨gb320, 1, none⟩ = some (.int .i64 0) := (kC8_ BK320.out 1).trans rfl; have hfz191_0 := blk_frozen BK320.out 0; have hfz191_1 := blk_frozen BK320.out 1) | go_quiet (fail))
       go_meet
       case rel => exact ⟨_, H', ⟨by have := HJ16.out; have := HJ52.out; first | omega | exact Nat.le_refl _⟩, ⟨by (with_reducible repeat (first | apply rA8_ | apply rN8_ | apply rD8_)); exact Kd.R_mono (Kd.R_far (p := ⟨gb320, 1, none⟩) (Kd.R_far (p := ⟨gb320, 0, none⟩) (Kd.R_types HO_5.out BK320.out (by decide)) (fun _ hk => hk.2) (.int .i64 t317)) (fun _ hk => hk.2) (.int .i64 t318)) (fun _ hk => hk.1.1)⟩, ⟨by (with_reducible repeat (first | apply rA8_ | apply rN8_ | apply rD8_)); exact Kd.R_mono (Kd.R_far (p := ⟨gb320, 1, none⟩) (Kd.R_far (p := ⟨gb320, 0, none⟩) (Kd.R_types HO_6.out BK320.out (by decide)) (fun _ hk => hk.2) (.int .i64 t317)) (fun _ hk => hk.2) (.int .i64 t318)) (fun _ hk => hk.1.1)⟩, ⟨by (with_reducible repeat (first | refine kN8_ ?_ _ | refine kD8_ ?_ | refine kA8_ ?_ _)); refine blk_far ?_ NB250_320.out _; (with_reducible repeat (first | refine kN8_ ?_ _ | refine kD8_ ?_ | refine kA8_ ?_ _)); refine blk_far ?_ NB250_320.out _; (with_reducible repeat (first | refine kN8_ ?_ _ | refine kD8_ ?_ | refine kA8_ ?_ _)); exact BK250.out⟩, ⟨by (with_reducible repeat (first | refine kN8_ ?_ _ | refine kD8_ ?_ | refine kA8_ ?_ _)); refine blk_far ?_ NB254_320.out _; (with_reducible repeat (first | refine kN8_ ?_ _ | refine kD8_ ?_ | refine kA8_ ?_ _)); refine blk_far ?_ NB254_320.out _; (with_reducible repeat (first | refine kN8_ ?_ _ | refine kD8_ ?_ | refine kA8_ ?_ _)); exact BK254.out⟩, ⟨by repeat (first | (with_reducible first | exact HB.out | apply bA8_ | apply bN8_ | apply bD8_ | refine bS8_ ?_ GE250.out | refine bS8_ ?_ GE254.out | refine bS8_ ?_ GE316.out | refine bS8_ ?_ GE320.out) | exact HB.out)⟩⟩
      rw [if_pos c127] at H
      have c127b0 : (t315 == 0) = true := beq_iff_eq.mpr c127
      have c127b1 : (t315 != 0) = false := bne_eq_false_iff_eq.mpr c127
      clear c127
      by_cases c128 : t319 = true
      rotate_left
      ·replace c128 := Bool.eq_false_iff.mpr c128
       subst c128
       have H1 : (laws_FnEights.j2 kj52 t241 t244) = some r := by rw [if_neg (show ¬ (false = true) by decide)] at H; exact H
       clear H
       have H := H1
       clear H1
       have H' := aM8_ H
       clear H
       obtain ⟨Ao162, co162, eo162⟩ := Kd.R_slice HO_17.out
       subst eo162
       go_wp2_with (first | (go_at_call 32; (with_reducible refine (impl_RatioOf.calls kj52 _ _ t299 t313 t314 t315 _ ?side1 ?side2 A125.out).mono ?_); (case side1 => repeat (first | exact (Kd.R_reads' HO_17.out).2.2 | (with_reducible refine Kd.C_alloc ?_ _) | (with_reducible refine Kd.C_drewN ?_ _) | (with_reducible refine Kd.C_drew ?_))); (case side2 => exact (Kd.R_reads' HO_17.out).2.1); rintro e w163 ⟨rfl, hb⟩; have n0_ := aM8_ (rB8_ q8x6_ hb); have n1_ := aM8_ (rB8_ q8x7_ hb); have n2_ := aM8_ (rB8_ q8x8_ hb); have n3_ := aM8_ (kB8_ (g := gb250) (o := .cells #[.int .i64 t247, .int .i64 t248] 54 (0, 0)) q8x2_ hb); have n4_ := aM8_ (kB8_ (g := gb254) (o := .cells #[.int .i64 t251, .int .i64 t252] 54 (0, 0)) q8x3_ hb); have n5_ := aM8_ (bT8_ q8x1_ hb); clear HO_5; clear HO_6; clear HO_17; clear BK250; clear BK254; clear HB; have HO_5 := n0_; have HO_6 := n1_; have HO_17 := n2_; have BK250 := n3_; have BK254 := n4_; have HB := n5_; clear n0_ n1_ n2_ n3_ n4_ n5_; (try clear hb); (try clear hb2); (try clear hk); (try clear hi)) | ((with_reducible refine gate_dst (N := 23) rfl ?_); (try (refine gate_guard (by rfl) ?_; dsimp only)); refine box_event ?hg (N := 23) ?hd (cs := #[.int .i64 0, .int .i64 0]) (t := 54) ?hr ?_; (case hd => rfl); (case hg => rfl); (case hr => first | (go_simp; done) | (go_simp; rfl)); intro gb316 hg w164 hbox hb; have n0_ := aM8_ (rB8_ q8x6_ hb); have n1_ := aM8_ (rB8_ q8x7_ hb); have n2_ := aM8_ (rB8_ q8x8_ hb); have n3_ := aM8_ (kB8_ (g := gb250) (o := .cells #[.int .i64 t247, .int .i64 t248] 54 (0, 0)) q8x2_ hb); have n4_ := aM8_ (kB8_ (g := gb254) (o := .cells #[.int .i64 t251, .int .i64 t252] 54 (0, 0)) q8x3_ hb); have n5_ := aM8_ (bT8_ q8x1_ hb); have n6_ := aM8_ (hbox); have n7_ := aM8_ ((q8x35_ : w.heap.size ≤ gb316)); have n8_ := aM8_ ((q8x35_ : w.heap.size ≤ gb316)); have n9_ := aM8_ ((q8x9_ : gb250 ≠ gb316)); have n10_ := aM8_ ((q8x10_ : gb316 ≠ gb250)); have n11_ := aM8_ ((q8x11_ : gb254 ≠ gb316)); have n12_ := aM8_ ((q8x12_ : gb316 ≠ gb254)); clear HO_5; clear HO_6; clear HO_17; clear BK250; clear BK254; clear HB; have HO_5 := n0_; have HO_6 := n1_; have HO_17 := n2_; have BK250 := n3_; have BK254 := n4_; have HB := n5_; have BK316 := n6_; have GW316 := n7_; have GE316 := n8_; have NB250_316 := n9_; have NB316_250 := n10_; have NB254_316 := n11_; have NB316_254 := n12_; clear n0_ n1_ n2_ n3_ n4_ n5_ n6_ n7_ n8_ n9_ n10_ n11_ n12_; clear hb hbox hg; have hnb165 := NB316_250.out; have hnc165 := NB250_316.out; have hnb166 := NB316_254.out; have hnc166 := NB254_316.out; have hcz167_0 : w164.cell? ⟨gb316, 0, none⟩ = some (.int .i64 0) := (kC8_ BK316.out 0).trans rfl; have hcz167_1 : w164.cell? ⟨gb316, 1, none⟩ = some (.int .i64 0) := (kC8_ BK316.out 1).trans rfl; have hfz167_0 := blk_frozen BK316.out 0; have hfz167_1 := blk_frozen BK316.out 1; have hnb168 := NB250_254.out; have hnc168 := NB254_250.out; have hcz169_0 : w164.cell? ⟨gb250, 0, none⟩ = some (.int .i64 t247) := (kC8_ BK250.out 0).trans rfl; have hcz169_1 : w164.cell? ⟨gb250, 1, none⟩ = some (.int .i64 t248) := (kC8_ BK250.out 1).trans rfl; have hfz169_0 := blk_frozen BK250.out 0; have hfz169_1 := blk_frozen BK250.out 1; have hcz170_0 : w164.cell? ⟨gb254, 0, none⟩ = some (.int .i64 t251) := (kC8_ BK254.out 0).trans rfl; have hcz170_1 : w164.cell? ⟨gb254, 1, none⟩ = some (.int .i64 t252) := (kC8_ BK254.out 1).trans rfl; have hfz170_0 := blk_frozen BK254.out 0; have hfz170_1 := blk_frozen BK254.out 1) | (go_at_call 37; (with_reducible refine (spec_A2Sum.calls kj52 t247 t248 t251 t252 true t317 t318 false _ A126.out).mono ?_); rintro e w171 ⟨rfl, hb⟩; have n0_ := aM8_ (rB8_ q8x31_ hb); have n1_ := aM8_ (rB8_ q8x32_ hb); have n2_ := aM8_ (rB8_ q8x28_ hb); have n3_ := aM8_ (kB8_ (g := gb250) (o := .cells #[.int .i64 t247, .int .i64 t248] 54 (0, 0)) q8x21_ hb); have n4_ := aM8_ (kB8_ (g := gb254) (o := .cells #[.int .i64 t251, .int .i64 t252] 54 (0, 0)) q8x22_ hb); have n5_ := aM8_ (kB8_ (g := gb316) (o := .cells #[.int .i64 t313, .int .i64 t314] 54 (0, 0)) q8x16_ hb); have n6_ := aM8_ (bT8_ q8x5_ hb); clear HO_5; clear HO_6; clear HO_17; clear BK250; clear BK254; clear BK316; clear HB; have HO_5 := n0_; have HO_6 := n1_; have HO_17 := n2_; have BK250 := n3_; have BK254 := n4_; have BK316 := n5_; have HB := n6_; clear n0_ n1_ n2_ n3_ n4_ n5_ n6_; (try clear hb); (try clear hb2); (try clear hk); (try clear hi)) | ((with_reducible refine gate_dst (N := 25) rfl ?_); (try (refine gate_guard (by rfl) ?_; dsimp only)); refine box_event ?hg (N := 25) ?hd (cs := #[.int .i64 0, .int .i64 0]) (t := 54) ?hr ?_; (case hd => rfl); (case hg => rfl); (case hr => first | (go_simp; done) | (go_simp; rfl)); intro gb320 hg w172 hbox hb; have n0_ := aM8_ (rB8_ q8x6_ hb); have n1_ := aM8_ (rB8_ q8x7_ hb); have n2_ := aM8_ (rB8_ q8x8_ hb); have n3_ := aM8_ (kB8_ (g := gb250) (o := .cells #[.int .i64 t247, .int .i64 t248] 54 (0, 0)) q8x2_ hb); have n4_ := aM8_ (kB8_ (g := gb254) (o := .cells #[.int .i64 t251, .int .i64 t252] 54 (0, 0)) q8x3_ hb); have n5_ := aM8_ (kB8_ (g := gb316) (o := .cells #[.int .i64 t313, .int .i64 t314] 54 (0, 0)) q8x18_ hb); have n6_ := aM8_ (bT8_ q8x5_ hb); have n7_ := aM8_ (hbox); have n8_ := aM8_ ((q8x44_ : w.heap.size ≤ gb320)); have n9_ := aM8_ ((q8x44_ : w.heap.size ≤ gb320)); have n10_ := aM8_ ((q8x9_ : gb250 ≠ gb320)); have n11_ := aM8_ ((q8x10_ : gb320 ≠ gb250)); have n12_ := aM8_ ((q8x11_ : gb254 ≠ gb320)); have n13_ := aM8_ ((q8x12_ : gb320 ≠ gb254)); have n14_ := aM8_ ((q8x40_ : gb316 ≠ gb320)); have n15_ := aM8_ ((q8x41_ : gb320 ≠ gb316)); clear HO_5; clear HO_6; clear HO_17; clear BK250; clear BK254; clear BK316; clear HB; have HO_5 := n0_; have HO_6 := n1_; have HO_17 := n2_; have BK250 := n3_; have BK254 := n4_; have BK316 := n5_; have HB := n6_; have BK320 := n7_; have GW320 := n8_; have GE320 := n9_; have NB250_320 := n10_; have NB320_250 := n11_; have NB254_320 := n12_; have NB320_254 := n13_; have NB316_320 := n14_; have NB320_316 := n15_; clear n0_ n1_ n2_ n3_ n4_ n5_ n6_ n7_ n8_ n9_ n10_ n11_ n12_ n13_ n14_ n15_; clear hb hbox hg; have hnb173 := NB320_250.out; have hnc173 := NB250_320.out; have hnb174 := NB320_254.out; have hnc174 := NB254_320.out; have hnb175 := NB320_316.out; have hnc175 := NB316_320.out; have hcz176_0 : w172.cell? ⟨gb320, 0, none⟩ = some (.int .i64 0) := (kC8_ BK320.out 0).trans rfl; have hcz176_1 : w172.cell? ⟨gb320, 1, none⟩ = some (.int .i64 0) := (kC8_ BK320.out 1).trans rfl; have hfz176_0 := blk_frozen BK320.out 0; have hfz176_1 := blk_frozen BK320.out 1) | go_quiet (fail))
       go_meet
       case rel => exact ⟨_, H', ⟨by have := HJ16.out; have := HJ52.out; first | omega | exact Nat.le_refl _⟩, ⟨by (with_reducible repeat (first | apply rA8_ | apply rN8_ | apply rD8_)); exact Kd.R_mono (Kd.R_far (p := ⟨gb320, 1, none⟩) (Kd.R_far (p := ⟨gb320, 0, none⟩) (Kd.R_types HO_5.out BK320.out (by decide)) (fun _ hk => hk.2) (.int .i64 t317)) (fun _ hk => hk.2) (.int .i64 t318)) (fun _ hk => hk.1.1)⟩, ⟨by (with_reducible repeat (first | apply rA8_ | apply rN8_ | apply rD8_)); exact Kd.R_mono (Kd.R_far (p := ⟨gb320, 1, none⟩) (Kd.R_far (p := ⟨gb320, 0, none⟩) (Kd.R_types HO_6.out BK320.out (by decide)) (fun _ hk => hk.2) (.int .i64 t317)) (fun _ hk => hk.2) (.int .i64 t318)) (fun _ hk => hk.1.1)⟩, ⟨by (with_reducible repeat (first | refine kN8_ ?_ _ | refine kD8_ ?_ | refine kA8_ ?_ _)); refine blk_far ?_ NB250_320.out _; (with_reducible repeat (first | refine kN8_ ?_ _ | refine kD8_ ?_ | refine kA8_ ?_ _)); refine blk_far ?_ NB250_320.out _; (with_reducible repeat (first | refine kN8_ ?_ _ | refine kD8_ ?_ | refine kA8_ ?_ _)); exact BK250.out⟩, ⟨by (with_reducible repeat (first | refine kN8_ ?_ _ | refine kD8_ ?_ | refine kA8_ ?_ _)); refine blk_far ?_ NB254_320.out _; (with_reducible repeat (first | refine kN8_ ?_ _ | refine kD8_ ?_ | refine kA8_ ?_ _)); refine blk_far ?_ NB254_320.out _; (with_reducible repeat (first | refine kN8_ ?_ _ | refine kD8_ ?_ | refine kA8_ ?_ _)); exact BK254.out⟩, ⟨by repeat (first | (with_reducible first | exact HB.out | apply bA8_ | apply bN8_ | apply bD8_ | refine bS8_ ?_ GE250.out | refine bS8_ ?_ GE254.out | refine bS8_ ?_ GE316.out | refine bS8_ ?_ GE320.out) | exact HB.out)⟩⟩
      subst c128
      have H1 : (if (!(t313 == t317) || (!(t314 == t318))) = true then (some false) else (laws_FnEights.j2 kj52 t241 t244)) = some r := by rw [if_pos rfl] at H; exact H
      clear H
      have H := H1
      clear H1
      by_cases c129 : (!(t313 == t317) || (!(t314 == t318))) = true
      ·rw [if_pos c129] at H
       have c129b0 : (!(t313 == t317) || (!(t314 == t318))) = true := c129
       clear c129
       obtain rfl := Option.some.inj H
       obtain ⟨Ao130, co130, eo130⟩ := Kd.R_slice HO_17.out
       subst eo130
       go_wp2_with (first | (go_at_call 32; (with_reducible refine (impl_RatioOf.calls kj52 _ _ t299 t313 t314 t315 _ ?side1 ?side2 A125.out).mono ?_); (case side1 => repeat (first | exact (Kd.R_reads' HO_17.out).2.2 | (with_reducible refine Kd.C_alloc ?_ _) | (with_reducible refine Kd.C_drewN ?_ _) | (with_reducible refine Kd.C_drew ?_))); (case side2 => exact (Kd.R_reads' HO_17.out).2.1); rintro e w131 ⟨rfl, hb⟩; have n0_ := aM8_ (rB8_ q8x6_ hb); have n1_ := aM8_ (rB8_ q8x7_ hb); have n2_ := aM8_ (rB8_ q8x8_ hb); have n3_ := aM8_ (kB8_ (g := gb250) (o := .cells #[.int .i64 t247, .int .i64 t248] 54 (0, 0)) q8x2_ hb); have n4_ := aM8_ (kB8_ (g := gb254) (o := .cells #[.int .i64 t251, .int .i64 t252] 54 (0, 0)) q8x3_ hb); have n5_ := aM8_ (bT8_ q8x1_ hb); clear HO_5; clear HO_6; clear HO_17; clear BK250; clear BK254; clear HB; have HO_5 := n0_; have HO_6 := n1_; have HO_17 := n2_; have BK250 := n3_; have BK254 := n4_; have HB := n5_; clear n0_ n1_ n2_ n3_ n4_ n5_; (try clear hb); (try clear hb2); (try clear hk); (try clear hi)) | ((with_reducible refine gate_dst (N := 23) rfl ?_); (try (refine gate_guard (by rfl) ?_; dsimp only)); refine box_event ?hg (N := 23) ?hd (cs := #[.int .i64 0, .int .i64 0]) (t := 54) ?hr ?_; (case hd => rfl); (case hg => rfl); (case hr => first | (go_simp; done) | (go_simp; rfl)); intro gb316 hg w132 hbox hb; have n0_ := aM8_ (rB8_ q8x6_ hb); have n1_ := aM8_ (rB8_ q8x7_ hb); have n2_ := aM8_ (rB8_ q8x8_ hb); have n3_ := aM8_ (kB8_ (g := gb250) (o := .cells #[.int .i64 t247, .int .i64 t248] 54 (0, 0)) q8x2_ hb); have n4_ := aM8_ (kB8_ (g := gb254) (o := .cells #[.int .i64 t251, .int .i64 t252] 54 (0, 0)) q8x3_ hb); have n5_ := aM8_ (bT8_ q8x1_ hb); have n6_ := aM8_ (hbox); have n7_ := aM8_ ((q8x35_ : w.heap.size ≤ gb316)); have n8_ := aM8_ ((q8x35_ : w.heap.size ≤ gb316)); have n9_ := aM8_ ((q8x9_ : gb250 ≠ gb316)); have n10_ := aM8_ ((q8x10_ : gb316 ≠ gb250)); have n11_ := aM8_ ((q8x11_ : gb254 ≠ gb316)); have n12_ := aM8_ ((q8x12_ : gb316 ≠ gb254)); clear HO_5; clear HO_6; clear HO_17; clear BK250; clear BK254; clear HB; have HO_5 := n0_; have HO_6 := n1_; have HO_17 := n2_; have BK250 := n3_; have BK254 := n4_; have HB := n5_; have BK316 := n6_; have GW316 := n7_; have GE316 := n8_; have NB250_316 := n9_; have NB316_250 := n10_; have NB254_316 := n11_; have NB316_254 := n12_; clear n0_ n1_ n2_ n3_ n4_ n5_ n6_ n7_ n8_ n9_ n10_ n11_ n12_; clear hb hbox hg; have hnb133 := NB316_250.out; have hnc133 := NB250_316.out; have hnb134 := NB316_254.out; have hnc134 := NB254_316.out; have hcz135_0 : w132.cell? ⟨gb316, 0, none⟩ = some (.int .i64 0) := (kC8_ BK316.out 0).trans rfl; have hcz135_1 : w132.cell? ⟨gb316, 1, none⟩ = some (.int .i64 0) := (kC8_ BK316.out 1).trans rfl; have hfz135_0 := blk_frozen BK316.out 0; have hfz135_1 := blk_frozen BK316.out 1; have hnb136 := NB250_254.out; have hnc136 := NB254_250.out; have hcz137_0 : w132.cell? ⟨gb250, 0, none⟩ = some (.int .i64 t247) := (kC8_ BK250.out 0).trans rfl; have hcz137_1 : w132.cell? ⟨gb250, 1, none⟩ = some (.int .i64 t248) := (kC8_ BK250.out 1).trans rfl; have hfz137_0 := blk_frozen BK250.out 0; have hfz137_1 := blk_frozen BK250.out 1; have hcz138_0 : w132.cell? ⟨gb254, 0, none⟩ = some (.int .i64 t251) := (kC8_ BK254.out 0).trans rfl; have hcz138_1 : w132.cell? ⟨gb254, 1, none⟩ = some (.int .i64 t252) := (kC8_ BK254.out 1).trans rfl; have hfz138_0 := blk_frozen BK254.out 0; have hfz138_1 := blk_frozen BK254.out 1) | (go_at_call 37; (with_reducible refine (spec_A2Sum.calls kj52 t247 t248 t251 t252 true t317 t318 true _ A126.out).mono ?_); rintro e w139 ⟨rfl, hb⟩; have n0_ := aM8_ (rB8_ q8x31_ hb); have n1_ := aM8_ (rB8_ q8x32_ hb); have n2_ := aM8_ (rB8_ q8x28_ hb); have n3_ := aM8_ (kB8_ (g := gb250) (o := .cells #[.int .i64 t247, .int .i64 t248] 54 (0, 0)) q8x21_ hb); have n4_ := aM8_ (kB8_ (g := gb254) (o := .cells #[.int .i64 t251, .int .i64 t252] 54 (0, 0)) q8x22_ hb); have n5_ := aM8_ (kB8_ (g := gb316) (o := .cells #[.int .i64 t313, .int .i64 t314] 54 (0, 0)) q8x16_ hb); have n6_ := aM8_ (bT8_ q8x5_ hb); clear HO_5; clear HO_6; clear HO_17; clear BK250; clear BK254; clear BK316; clear HB; have HO_5 := n0_; have HO_6 := n1_; have HO_17 := n2_; have BK250 := n3_; have BK254 := n4_; have BK316 := n5_; have HB := n6_; clear n0_ n1_ n2_ n3_ n4_ n5_ n6_; (try clear hb); (try clear hb2); (try clear hk); (try clear hi)) | ((with_reducible refine gate_dst (N := 25) rfl ?_); (try (refine gate_guard (by rfl) ?_; dsimp only)); refine box_event ?hg (N := 25) ?hd (cs := #[.int .i64 0, .int .i64 0]) (t := 54) ?hr ?_; (case hd => rfl); (case hg => rfl); (case hr => first | (go_simp; done) | (go_simp; rfl)); intro gb320 hg w140 hbox hb; have n0_ := aM8_ (rB8_ q8x6_ hb); have n1_ := aM8_ (rB8_ q8x7_ hb); have n2_ := aM8_ (rB8_ q8x8_ hb); have n3_ := aM8_ (kB8_ (g := gb250) (o := .cells #[.int .i64 t247, .int .i64 t248] 54 (0, 0)) q8x2_ hb); have n4_ := aM8_ (kB8_ (g := gb254) (o := .cells #[.int .i64 t251, .int .i64 t252] 54 (0, 0)) q8x3_ hb); have n5_ := aM8_ (kB8_ (g := gb316) (o := .cells #[.int .i64 t313, .int .i64 t314] 54 (0, 0)) q8x18_ hb); have n6_ := aM8_ (bT8_ q8x5_ hb); have n7_ := aM8_ (hbox); have n8_ := aM8_ ((q8x44_ : w.heap.size ≤ gb320)); have n9_ := aM8_ ((q8x44_ : w.heap.size ≤ gb320)); have n10_ := aM8_ ((q8x9_ : gb250 ≠ gb320)); have n11_ := aM8_ ((q8x10_ : gb320 ≠ gb250)); have n12_ := aM8_ ((q8x11_ : gb254 ≠ gb320)); have n13_ := aM8_ ((q8x12_ : gb320 ≠ gb254)); have n14_ := aM8_ ((q8x40_ : gb316 ≠ gb320)); have n15_ := aM8_ ((q8x41_ : gb320 ≠ gb316)); clear HO_5; clear HO_6; clear HO_17; clear BK250; clear BK254; clear BK316; clear HB; have HO_5 := n0_; have HO_6 := n1_; have HO_17 := n2_; have BK250 := n3_; have BK254 := n4_; have BK316 := n5_; have HB := n6_; have BK320 := n7_; have GW320 := n8_; have GE320 := n9_; have NB250_320 := n10_; have NB320_250 := n11_; have NB254_320 := n12_; have NB320_254 := n13_; have NB316_320 := n14_; have NB320_316 := n15_; clear n0_ n1_ n2_ n3_ n4_ n5_ n6_ n7_ n8_ n9_ n10_ n11_ n12_ n13_ n14_ n15_; clear hb hbox hg; have hnb141 := NB320_250.out; have hnc141 := NB250_320.out; have hnb142 := NB320_254.out; have hnc142 := NB254_320.out; have hnb143 := NB320_316.out; have hnc143 := NB316_320.out; have hcz144_0 : w140.cell? ⟨gb320, 0, none⟩ = some (.int .i64 0) := (kC8_ BK320.out 0).trans rfl; have hcz144_1 : w140.cell? ⟨gb320, 1, none⟩ = some (.int .i64 0) := (kC8_ BK320.out 1).trans rfl; have hfz144_0 := blk_frozen BK320.out 0; have hfz144_1 := blk_frozen BK320.out 1; have hcz145_0 : w140.cell? ⟨gb316, 0, none⟩ = some (.int .i64 t313) := (kC8_ BK316.out 0).trans rfl; have hcz145_1 : w140.cell? ⟨gb316, 1, none⟩ = some (.int .i64 t314) := (kC8_ BK316.out 1).trans rfl; have hfz145_0 := blk_frozen BK316.out 0; have hfz145_1 := blk_frozen BK316.out 1) | go_quiet (fail))
       go_ret
       exact ⟨by first | rfl | (simp [errW_none, errW_some] <;> rfl) | (simp [*, errW_none, errW_some] <;> rfl), by repeat (first | (with_reducible first | exact HB.out | apply bA8_ | apply bN8_ | apply bD8_ | refine bS8_ ?_ GE250.out | refine bS8_ ?_ GE254.out | refine bS8_ ?_ GE316.out | refine bS8_ ?_ GE320.out) | exact HB.out)⟩
      rw [if_neg c129] at H
      have c129b0 : (!(t313 == t317) || (!(t314 == t318))) = false := by simpa using c129
      clear c129
      have H' := aM8_ H
      clear H
      obtain ⟨Ao146, co146, eo146⟩ := Kd.R_slice HO_17.out
      subst eo146
      go_wp2_with (first | (go_at_call 32; (with_reducible refine (impl_RatioOf.calls kj52 _ _ t299 t313 t314 t315 _ ?side1 ?side2 A125.out).mono ?_); (case side1 => repeat (first | exact (Kd.R_reads' HO_17.out).2.2 | (with_reducible refine Kd.C_alloc ?_ _) | (with_reducible refine Kd.C_drewN ?_ _) | (with_reducible refine Kd.C_drew ?_))); (case side2 => exact (Kd.R_reads' HO_17.out).2.1); rintro e w147 ⟨rfl, hb⟩; have n0_ := aM8_ (rB8_ q8x6_ hb); have n1_ := aM8_ (rB8_ q8x7_ hb); have n2_ := aM8_ (rB8_ q8x8_ hb); have n3_ := aM8_ (kB8_ (g := gb250) (o := .cells #[.int .i64 t247, .int .i64 t248] 54 (0, 0)) q8x2_ hb); have n4_ := aM8_ (kB8_ (g := gb254) (o := .cells #[.int .i64 t251, .int .i64 t252] 54 (0, 0)) q8x3_ hb); have n5_ := aM8_ (bT8_ q8x1_ hb); clear HO_5; clear HO_6; clear HO_17; clear BK250; clear BK254; clear HB; have HO_5 := n0_; have HO_6 := n1_; have HO_17 := n2_; have BK250 := n3_; have BK254 := n4_; have HB := n5_; clear n0_ n1_ n2_ n3_ n4_ n5_; (try clear hb); (try clear hb2); (try clear hk); (try clear hi)) | ((with_reducible refine gate_dst (N := 23) rfl ?_); (try (refine gate_guard (by rfl) ?_; dsimp only)); refine box_event ?hg (N := 23) ?hd (cs := #[.int .i64 0, .int .i64 0]) (t := 54) ?hr ?_; (case hd => rfl); (case hg => rfl); (case hr => first | (go_simp; done) | (go_simp; rfl)); intro gb316 hg w148 hbox hb; have n0_ := aM8_ (rB8_ q8x6_ hb); have n1_ := aM8_ (rB8_ q8x7_ hb); have n2_ := aM8_ (rB8_ q8x8_ hb); have n3_ := aM8_ (kB8_ (g := gb250) (o := .cells #[.int .i64 t247, .int .i64 t248] 54 (0, 0)) q8x2_ hb); have n4_ := aM8_ (kB8_ (g := gb254) (o := .cells #[.int .i64 t251, .int .i64 t252] 54 (0, 0)) q8x3_ hb); have n5_ := aM8_ (bT8_ q8x1_ hb); have n6_ := aM8_ (hbox); have n7_ := aM8_ ((q8x35_ : w.heap.size ≤ gb316)); have n8_ := aM8_ ((q8x35_ : w.heap.size ≤ gb316)); have n9_ := aM8_ ((q8x9_ : gb250 ≠ gb316)); have n10_ := aM8_ ((q8x10_ : gb316 ≠ gb250)); have n11_ := aM8_ ((q8x11_ : gb254 ≠ gb316)); have n12_ := aM8_ ((q8x12_ : gb316 ≠ gb254)); clear HO_5; clear HO_6; clear HO_17; clear BK250; clear BK254; clear HB; have HO_5 := n0_; have HO_6 := n1_; have HO_17 := n2_; have BK250 := n3_; have BK254 := n4_; have HB := n5_; have BK316 := n6_; have GW316 := n7_; have GE316 := n8_; have NB250_316 := n9_; have NB316_250 := n10_; have NB254_316 := n11_; have NB316_254 := n12_; clear n0_ n1_ n2_ n3_ n4_ n5_ n6_ n7_ n8_ n9_ n10_ n11_ n12_; clear hb hbox hg; have hnb149 := NB316_250.out; have hnc149 := NB250_316.out; have hnb150 := NB316_254.out; have hnc150 := NB254_316.out; have hcz151_0 : w148.cell? ⟨gb316, 0, none⟩ = some (.int .i64 0) := (kC8_ BK316.out 0).trans rfl; have hcz151_1 : w148.cell? ⟨gb316, 1, none⟩ = some (.int .i64 0) := (kC8_ BK316.out 1).trans rfl; have hfz151_0 := blk_frozen BK316.out 0; have hfz151_1 := blk_frozen BK316.out 1; have hnb152 := NB250_254.out; have hnc152 := NB254_250.out; have hcz153_0 : w148.cell? ⟨gb250, 0, none⟩ = some (.int .i64 t247) := (kC8_ BK250.out 0).trans rfl; have hcz153_1 : w148.cell? ⟨gb250, 1, none⟩ = some (.int .i64 t248) := (kC8_ BK250.out 1).trans rfl; have hfz153_0 := blk_frozen BK250.out 0; have hfz153_1 := blk_frozen BK250.out 1; have hcz154_0 : w148.cell? ⟨gb254, 0, none⟩ = some (.int .i64 t251) := (kC8_ BK254.out 0).trans rfl; have hcz154_1 : w148.cell? ⟨gb254, 1, none⟩ = some (.int .i64 t252) := (kC8_ BK254.out 1).trans rfl; have hfz154_0 := blk_frozen BK254.out 0; have hfz154_1 := blk_frozen BK254.out 1) | (go_at_call 37; (with_reducible refine (spec_A2Sum.calls kj52 t247 t248 t251 t252 true t317 t318 true _ A126.out).mono ?_); rintro e w155 ⟨rfl, hb⟩; have n0_ := aM8_ (rB8_ q8x31_ hb); have n1_ := aM8_ (rB8_ q8x32_ hb); have n2_ := aM8_ (rB8_ q8x28_ hb); have n3_ := aM8_ (kB8_ (g := gb250) (o := .cells #[.int .i64 t247, .int .i64 t248] 54 (0, 0)) q8x21_ hb); have n4_ := aM8_ (kB8_ (g := gb254) (o := .cells #[.int .i64 t251, .int .i64 t252] 54 (0, 0)) q8x22_ hb); have n5_ := aM8_ (kB8_ (g := gb316) (o := .cells #[.int .i64 t313, .int .i64 t314] 54 (0, 0)) q8x16_ hb); have n6_ := aM8_ (bT8_ q8x5_ hb); clear HO_5; clear HO_6; clear HO_17; clear BK250; clear BK254; clear BK316; clear HB; have HO_5 := n0_; have HO_6 := n1_; have HO_17 := n2_; have BK250 := n3_; have BK254 := n4_; have BK316 := n5_; have HB := n6_; clear n0_ n1_ n2_ n3_ n4_ n5_ n6_; (try clear hb); (try clear hb2); (try clear hk); (try clear hi)) | ((with_reducible refine gate_dst (N := 25) rfl ?_); (try (refine gate_guard (by rfl) ?_; dsimp only)); refine box_event ?hg (N := 25) ?hd (cs := #[.int .i64 0, .int .i64 0]) (t := 54) ?hr ?_; (case hd => rfl); (case hg => rfl); (case hr => first | (go_simp; done) | (go_simp; rfl)); intro gb320 hg w156 hbox hb; have n0_ := aM8_ (rB8_ q8x6_ hb); have n1_ := aM8_ (rB8_ q8x7_ hb); have n2_ := aM8_ (rB8_ q8x8_ hb); have n3_ := aM8_ (kB8_ (g := gb250) (o := .cells #[.int .i64 t247, .int .i64 t248] 54 (0, 0)) q8x2_ hb); have n4_ := aM8_ (kB8_ (g := gb254) (o := .cells #[.int .i64 t251, .int .i64 t252] 54 (0, 0)) q8x3_ hb); have n5_ := aM8_ (kB8_ (g := gb316) (o := .cells #[.int .i64 t313, .int .i64 t314] 54 (0, 0)) q8x18_ hb); have n6_ := aM8_ (bT8_ q8x5_ hb); have n7_ := aM8_ (hbox); have n8_ := aM8_ ((q8x44_ : w.heap.size ≤ gb320)); have n9_ := aM8_ ((q8x44_ : w.heap.size ≤ gb320)); have n10_ := aM8_ ((q8x9_ : gb250 ≠ gb320)); have n11_ := aM8_ ((q8x10_ : gb320 ≠ gb250)); have n12_ := aM8_ ((q8x11_ : gb254 ≠ gb320)); have n13_ := aM8_ ((q8x12_ : gb320 ≠ gb254)); have n14_ := aM8_ ((q8x40_ : gb316 ≠ gb320)); have n15_ := aM8_ ((q8x41_ : gb320 ≠ gb316)); clear HO_5; clear HO_6; clear HO_17; clear BK250; clear BK254; clear BK316; clear HB; have HO_5 := n0_; have HO_6 := n1_; have HO_17 := n2_; have BK250 := n3_; have BK254 := n4_; have BK316 := n5_; have HB := n6_; have BK320 := n7_; have GW320 := n8_; have GE320 := n9_; have NB250_320 := n10_; have NB320_250 := n11_; have NB254_320 := n12_; have NB320_254 := n13_; have NB316_320 := n14_; have NB320_316 := n15_; clear n0_ n1_ n2_ n3_ n4_ n5_ n6_ n7_ n8_ n9_ n10_ n11_ n12_ n13_ n14_ n15_; clear hb hbox hg; have hnb157 := NB320_250.out; have hnc157 := NB250_320.out; have hnb158 := NB320_254.out; have hnc158 := NB254_320.out; have hnb159 := NB320_316.out; have hnc159 := NB316_320.out; have hcz160_0 : w156.cell? ⟨gb320, 0, none⟩ = some (.int .i64 0) := (kC8_ BK320.out 0).trans rfl; have hcz160_1 : w156.cell? ⟨gb320, 1, none⟩ = some (.int .i64 0) := (kC8_ BK320.out 1).trans rfl; have hfz160_0 := blk_frozen BK320.out 0; have hfz160_1 := blk_frozen BK320.out 1; have hcz161_0 : w156.cell? ⟨gb316, 0, none⟩ = some (.int .i64 t313) := (kC8_ BK316.out 0).trans rfl; have hcz161_1 : w156.cell? ⟨gb316, 1, none⟩ = some (.int .i64 t314) := (kC8_ BK316.out 1).trans rfl; have hfz161_0 := blk_frozen BK316.out 0; have hfz161_1 := blk_frozen BK316.out 1) | go_quiet (fail))
      go_meet
      case rel => exact ⟨_, H', ⟨by have := HJ16.out; have := HJ52.out; first | omega | exact Nat.le_refl _⟩, ⟨by (with_reducible repeat (first | apply rA8_ | apply rN8_ | apply rD8_)); exact Kd.R_mono (Kd.R_far (p := ⟨gb320, 1, none⟩) (Kd.R_far (p := ⟨gb320, 0, none⟩) (Kd.R_types HO_5.out BK320.out (by decide)) (fun _ hk => hk.2) (.int .i64 t317)) (fun _ hk => hk.2) (.int .i64 t318)) (fun _ hk => hk.1.1)⟩, ⟨by (with_reducible repeat (first | apply rA8_ | apply rN8_ | apply rD8_)); exact Kd.R_mono (Kd.R_far (p := ⟨gb320, 1, none⟩) (Kd.R_far (p := ⟨gb320, 0, none⟩) (Kd.R_types HO_6.out BK320.out (by decide)) (fun _ hk => hk.2) (.int .i64 t317)) (fun _ hk => hk.2) (.int .i64 t318)) (fun _ hk => hk.1.1)⟩, ⟨by (with_reducible repeat (first | refine kN8_ ?_ _ | refine kD8_ ?_ | refine kA8_ ?_ _)); refine blk_far ?_ NB250_320.out _; (with_reducible repeat (first | refine kN8_ ?_ _ | refine kD8_ ?_ | refine kA8_ ?_ _)); refine blk_far ?_ NB250_320.out _; (with_reducible repeat (first | refine kN8_ ?_ _ | refine kD8_ ?_ | refine kA8_ ?_ _)); exact BK250.out⟩, ⟨by (with_reducible repeat (first | refine kN8_ ?_ _ | refine kD8_ ?_ | refine kA8_ ?_ _)); refine blk_far ?_ NB254_320.out _; (with_reducible repeat (first | refine kN8_ ?_ _ | refine kD8_ ?_ | refine kA8_ ?_ _)); refine blk_far ?_ NB254_320.out _; (with_reducible repeat (first | refine kN8_ ?_ _ | refine kD8_ ?_ | refine kA8_ ?_ _)); exact BK254.out⟩, ⟨by repeat (first | (with_reducible first | exact HB.out | apply bA8_ | apply bN8_ | apply bD8_ | refine bS8_ ?_ GE250.out | refine bS8_ ?_ GE254.out | refine bS8_ ?_ GE316.out | refine bS8_ ?_ GE320.out) | exact HB.out)⟩⟩
     case rest =>
      clear HC123
      try clear c1
      try clear c2
      try clear p2
      try clear c3
      try clear c4
      try clear c5
      try clear c6
      try clear c7
      try clear c8
      try clear c9
      try clear c10
      try clear c11
      try clear c12
      try clear c13
      try clear c14
      try clear c15
      try clear c16
      try clear c17
      try clear c18
      try clear c19
      try clear c27
      try clear c37
      try clear c37b0
      try clear c37b1
      try clear c38
      try clear c38b0
      try clear c38b1
      try clear c39
      try clear c39b0
      try clear c39b1
      try clear c41
      try clear c42
      try clear c42b0
      try clear c42b1
      try clear c52
      try clear c54
      try clear c54b0
      try clear c54b1
      try clear c57
      try clear c57b0
      try clear c57b1
      try clear c58
      try clear c59
      try clear c59b0
      try clear c63
      try clear c64
      try clear c66
      try clear c71
      try clear c72
      try clear c73
      try clear c79
      try clear c80
      try clear c82
      try clear c87
      try clear c88
      try clear c89
      try clear c95
      try clear c96
      try clear c98
      try clear c103
      try clear c104
      try clear c105
      try clear c110
      try clear c111
      try clear c113
      try clear c118
      try clear c119
      try clear c120
      try clear c122
      try clear c122b0
      try clear c122b1
      try clear c124
      try clear c124b0
      try clear c124b1
      try clear c127
      try clear c127b0
      try clear c127b1
      try clear c128
      try clear c129
      try clear c129b0
      try clear c133
      try clear c134
      try clear c136
      try clear c141
      try clear c142
      try clear c143
      try clear c149
      try clear c150
      try clear c152
      try clear c157
      try clear c158
      try clear c159
      try clear c165
      try clear c166
      try clear c168
      try clear c173
      try clear c174
      try clear c175
      try clear c180
      try clear c181
      try clear c183
      try clear c188
      try clear c189
      try clear c190
      try clear c192
      try clear c192b0
      try clear c192b1
      try clear hcz100_0 hcz100_1
      try clear hcz106_0 hcz106_1
      try clear hcz112_0 hcz112_1
      try clear hcz114_0 hcz114_1
      try clear hcz115_0 hcz115_1
      try clear hcz121_0 hcz121_1
      try clear hcz135_0 hcz135_1
      try clear hcz137_0 hcz137_1
      try clear hcz138_0 hcz138_1
      try clear hcz144_0 hcz144_1
      try clear hcz145_0 hcz145_1
      try clear hcz151_0 hcz151_1
      try clear hcz153_0 hcz153_1
      try clear hcz154_0 hcz154_1
      try clear hcz160_0 hcz160_1
      try clear hcz161_0 hcz161_1
      try clear hcz167_0 hcz167_1
      try clear hcz169_0 hcz169_1
      try clear hcz170_0 hcz170_1
      try clear hcz176_0 hcz176_1
      try clear hcz182_0 hcz182_1
      try clear hcz184_0 hcz184_1
      try clear hcz185_0 hcz185_1
      try clear hcz191_0 hcz191_1
      try clear hcz23_0 hcz23_1
      try clear hcz28_0 hcz28_1
      try clear hcz65_0 hcz65_1
      try clear hcz67_0 hcz67_1
      try clear hcz68_0 hcz68_1
      try clear hcz74_0 hcz74_1
      try clear hcz75_0 hcz75_1
      try clear hcz81_0 hcz81_1
      try clear hcz83_0 hcz83_1
      try clear hcz84_0 hcz84_1
      try clear hcz90_0 hcz90_1
      try clear hcz91_0 hcz91_1
      try clear hcz97_0 hcz97_1
      try clear hcz99_0 hcz99_1
      try clear hfz100_0 hfz100_1
      try clear hfz106_0 hfz106_1
      try clear hfz112_0 hfz112_1
      try clear hfz114_0 hfz114_1
      try clear hfz115_0 hfz115_1
      try clear hfz121_0 hfz121_1
      try clear hfz135_0 hfz135_1
      try clear hfz137_0 hfz137_1
      try clear hfz138_0 hfz138_1
      try clear hfz144_0 hfz144_1
      try clear hfz145_0 hfz145_1
      try clear hfz151_0 hfz151_1
      try clear hfz153_0 hfz153_1
      try clear hfz154_0 hfz154_1
      try clear hfz160_0 hfz160_1
      try clear hfz161_0 hfz161_1
      try clear hfz167_0 hfz167_1
      try clear hfz169_0 hfz169_1
      try clear hfz170_0 hfz170_1
      try clear hfz176_0 hfz176_1
      try clear hfz182_0 hfz182_1
      try clear hfz184_0 hfz184_1
      try clear hfz185_0 hfz185_1
      try clear hfz191_0 hfz191_1
      try clear hfz23_0 hfz23_1
      try clear hfz28_0 hfz28_1
      try clear hfz65_0 hfz65_1
      try clear hfz67_0 hfz67_1
      try clear hfz68_0 hfz68_1
      try clear hfz74_0 hfz74_1
      try clear hfz75_0 hfz75_1
      try clear hfz81_0 hfz81_1
      try clear hfz83_0 hfz83_1
      try clear hfz84_0 hfz84_1
      try clear hfz90_0 hfz90_1
      try clear hfz91_0 hfz91_1
      try clear hfz97_0 hfz97_1
      try clear hfz99_0 hfz99_1
      try clear p2
      obtain ⟨kq, HA, HJ122, HO_5, HO_6, BK250, BK254, HB⟩ := hcut
      cases kq with
      | zero => exact absurd HA.out (by simp [laws_FnEights.j2])
      | succ kj122 => as_aux_lemma =>
       have H := HA.out
       clear HA
       simp only [laws_FnEights.j2] at H
       replace H := Option.bind_eq_some_iff.mp H
       obtain ⟨⟨t321, t322, t323, t324, t325, t326, t327, t328⟩, A1930, H⟩ := H
       replace H : ((impl_EightMoves.f kj122 t321 t322 t323 t324 t325 t326 t327 t328 t241 t244).bind fun bt329 => ((spec_SumEight.f).bind fun bt333 => ((spec_EightMoves.f kj122 bt333.1 bt333.2.1 bt333.2.2.1 bt333.2.2.2.1 bt333.2.2.2.2.1 bt333.2.2.2.2.2.1 bt333.2.2.2.2.2.2.1 bt333.2.2.2.2.2.2.2 t241 t244).bind fun bt341 => (if bt329.2 = bt341.2 then (laws_FnEights.j3 kj122 t241 t244 bt329.1 bt341.1 ((bt329.1.length : Int) != (bt341.1.length : Int))) else (laws_FnEights.j3 kj122 t241 t244 bt329.1 bt341.1 true))))) = some r := H
       have A193 := aM8_ A1930
       clear A1930
       replace H := Option.bind_eq_some_iff.mp H
       obtain ⟨⟨t329, t332⟩, A1940, H⟩ := H
       replace H : ((spec_SumEight.f).bind fun bt333 => ((spec_EightMoves.f kj122 bt333.1 bt333.2.1 bt333.2.2.1 bt333.2.2.2.1 bt333.2.2.2.2.1 bt333.2.2.2.2.2.1 bt333.2.2.2.2.2.2.1 bt333.2.2.2.2.2.2.2 t241 t244).bind fun bt341 => (if t332 = bt341.2 then (laws_FnEights.j3 kj122 t241 t244 t329 bt341.1 ((t329.length : Int) != (bt341.1.length : Int))) else (laws_FnEights.j3 kj122 t241 t244 t329 bt341.1 true)))) = some r := H
       have A194 := aM8_ A1940
       clear A1940
       replace H := Option.bind_eq_some_iff.mp H
       obtain ⟨⟨t333, t334, t335, t336, t337, t338, t339, t340⟩, A1950, H⟩ := H
       replace H : ((spec_EightMoves.f kj122 t333 t334 t335 t336 t337 t338 t339 t340 t241 t244).bind fun bt341 => (if t332 = bt341.2 then (laws_FnEights.j3 kj122 t241 t244 t329 bt341.1 ((t329.length : Int) != (bt341.1.length : Int))) else (laws_FnEights.j3 kj122 t241 t244 t329 bt341.1 true))) = some r := H
       have A195 := aM8_ A1950
       clear A1950
       replace H := Option.bind_eq_some_iff.mp H
       obtain ⟨⟨t341, t344⟩, A1960, H⟩ := H
       replace H : (if t332 = t344 then (laws_FnEights.j3 kj122 t241 t244 t329 t341 ((t329.length : Int) != (t341.length : Int))) else (laws_FnEights.j3 kj122 t241 t244 t329 t341 true)) = some r := H
       have A196 := aM8_ A1960
       clear A1960
       have HC197 := aM8_ H
       clear H
       go_upto_region 29 with (first | (go_at_call 33; (with_reducible refine (impl_SumEight.calls  t321 t322 t323 t324 t325 t326 t327 t328 _ A193.out).mono ?_); rintro e w198 ⟨rfl, hb⟩; have n0_ := aM8_ (rB8_ q8x6_ hb); have n1_ := aM8_ (rB8_ q8x7_ hb); have n2_ := aM8_ (kB8_ (g := gb250) (o := .cells #[.int .i64 t247, .int .i64 t248] 54 (0, 0)) q8x2_ hb); have n3_ := aM8_ (kB8_ (g := gb254) (o := .cells #[.int .i64 t251, .int .i64 t252] 54 (0, 0)) q8x3_ hb); have n4_ := aM8_ (bT8_ q8x1_ hb); clear HO_5; clear HO_6; clear BK250; clear BK254; clear HB; have HO_5 := n0_; have HO_6 := n1_; have BK250 := n2_; have BK254 := n3_; have HB := n4_; clear n0_ n1_ n2_ n3_ n4_; (try clear hb); (try clear hb2); (try clear hk); (try clear hi)) | (go_at_call 25; (with_reducible refine (impl_EightMoves.calls kj122 t321 t322 t323 t324 t325 t326 t327 t328 _ _ t241 _ _ t244 t329 t332 _ ?side1 ?side2 ?side3 ?side4 A194.out).mono ?_); (case side1 => repeat (first | exact (Kd.R_reads' HO_5.out).2.2 | (with_reducible refine Kd.C_alloc ?_ _) | (with_reducible refine Kd.C_drewN ?_ _) | (with_reducible refine Kd.C_drew ?_))); (case side2 => exact (Kd.R_reads' HO_5.out).2.1); (case side3 => repeat (first | exact (Kd.R_reads' HO_6.out).2.2 | (with_reducible refine Kd.C_alloc ?_ _) | (with_reducible refine Kd.C_drewN ?_ _) | (with_reducible refine Kd.C_drew ?_))); (case side4 => exact (Kd.R_reads' HO_6.out).2.1); rintro e w199 ⟨v330, rfl, ho0, hb⟩; have n0_ := aM8_ (rB8_ q8x6_ hb); have n1_ := aM8_ (rB8_ q8x7_ hb); have n2_ := aM8_ (Kd.R_lower ho0 (below_size q8x1_)); have n3_ := aM8_ (kB8_ (g := gb250) (o := .cells #[.int .i64 t247, .int .i64 t248] 54 (0, 0)) q8x2_ hb); have n4_ := aM8_ (kB8_ (g := gb254) (o := .cells #[.int .i64 t251, .int .i64 t252] 54 (0, 0)) q8x3_ hb); have n5_ := aM8_ (bT8_ q8x1_ hb); clear HO_5; clear HO_6; clear BK250; clear BK254; clear HB; have HO_5 := n0_; have HO_6 := n1_; have HO331 := n2_; have BK250 := n3_; have BK254 := n4_; have HB := n5_; clear n0_ n1_ n2_ n3_ n4_ n5_; (try clear hb); (try clear hb2); (try clear hk); (try clear hi); (try clear ho0)) | (go_at_call 34; (with_reducible refine (spec_SumEight.calls  t333 t334 t335 t336 t337 t338 t339 t340 _ A195.out).mono ?_); rintro e w200 ⟨rfl, hb⟩; have n0_ := aM8_ (rB8_ q8x6_ hb); have n1_ := aM8_ (rB8_ q8x7_ hb); have n2_ := aM8_ (rB8_ q8x46_ hb); have n3_ := aM8_ (kB8_ (g := gb250) (o := .cells #[.int .i64 t247, .int .i64 t248] 54 (0, 0)) q8x2_ hb); have n4_ := aM8_ (kB8_ (g := gb254) (o := .cells #[.int .i64 t251, .int .i64 t252] 54 (0, 0)) q8x3_ hb); have n5_ := aM8_ (bT8_ q8x1_ hb); clear HO_5; clear HO_6; clear HO331; clear BK250; clear BK254; clear HB; have HO_5 := n0_; have HO_6 := n1_; have HO331 := n2_; have BK250 := n3_; have BK254 := n4_; have HB := n5_; clear n0_ n1_ n2_ n3_ n4_ n5_; (try clear hb); (try clear hb2); (try clear hk); (try clear hi)) | (go_at_call 24; (with_reducible refine (spec_EightMoves.calls kj122 t333 t334 t335 t336 t337 t338 t339 t340 _ _ t241 _ _ t244 t341 t344 _ ?side1 ?side2 ?side3 ?side4 A196.out).mono ?_); (case side1 => repeat (first | exact (Kd.R_reads' HO_5.out).2.2 | (with_reducible refine Kd.C_alloc ?_ _) | (with_reducible refine Kd.C_drewN ?_ _) | (with_reducible refine Kd.C_drew ?_))); (case side2 => exact (Kd.R_reads' HO_5.out).2.1); (case side3 => repeat (first | exact (Kd.R_reads' HO_6.out).2.2 | (with_reducible refine Kd.C_alloc ?_ _) | (with_reducible refine Kd.C_drewN ?_ _) | (with_reducible refine Kd.C_drew ?_))); (case side4 => exact (Kd.R_reads' HO_6.out).2.1); rintro e w201 ⟨v342, rfl, ho0, hb⟩; have n0_ := aM8_ (rB8_ q8x6_ hb); have n1_ := aM8_ (rB8_ q8x7_ hb); have n2_ := aM8_ (Kd.R_elder' q8x46_ (Kd.R_base ho0) hb); have n3_ := aM8_ (Kd.R_lower (Kd.R_new' ho0 (Kd.R_lt q8x46_)) (below_size q8x1_)); have n4_ := aM8_ (kB8_ (g := gb250) (o := .cells #[.int .i64 t247, .int .i64 t248] 54 (0, 0)) q8x2_ hb); have n5_ := aM8_ (kB8_ (g := gb254) (o := .cells #[.int .i64 t251, .int .i64 t252] 54 (0, 0)) q8x3_ hb); have n6_ := aM8_ (bT8_ q8x1_ hb); clear HO_5; clear HO_6; clear HO331; clear BK250; clear BK254; clear HB; have HO_5 := n0_; have HO_6 := n1_; have HO331 := n2_; have HO343 := n3_; have BK250 := n4_; have BK254 := n5_; have HB := n6_; clear n0_ n1_ n2_ n3_ n4_ n5_ n6_; (try clear hb); (try clear hb2); (try clear hk); (try clear hi); (try clear ho0)) | go_quiet (fail))
       (try simp only [Act.put, sa_, sz_, ss_])
       go_cut [181] (fun v181 wc => ∃ (kq : Nat) (x181_196 : Bool), v181 = .bool x181_196 ∧ Aside0 (laws_FnEights.j3 kq t241 t244 t329 t341 x181_196 = some r) ∧ Aside0 (kq ≤ kj122) ∧ Aside0 (Kd.R (Kd.int .i64) 2 wc w.heap.size (fun k_ => some k_ ≠ ((.slice Ao24 t244.length co24) : Value).ownBlock) (.slice Ao20 t241.length co20) t241) ∧ Aside0 (Kd.R (Kd.int .i64) 2 wc w.heap.size (fun k_ => some k_ ≠ ((.slice Ao20 t241.length co20) : Value).ownBlock) (.slice Ao24 t244.length co24) t244) ∧ Aside0 (Kd.R k52 52 wc w.heap.size (fun k_ => some k_ ≠ (v342 : Value).ownBlock) v330 t329) ∧ Aside0 (Kd.R k52 52 wc w.heap.size (fun k_ => some k_ ≠ (v330 : Value).ownBlock) v342 t341) ∧ Aside0 (wc.heap[gb250]? = some (.cells #[.int .i64 t247, .int .i64 t248] 54 (0, 0))) ∧ Aside0 (wc.heap[gb254]? = some (.cells #[.int .i64 t251, .int .i64 t252] 54 (0, 0))) ∧ Aside0 (Below w.heap.size w wc))
       case first =>
        have H := HC197.out
        clear HC197
        by_cases c202 : t332 = t344
        ·rw [if_pos c202] at H
         have c202b0 : (t332 == t344) = true := beq_iff_eq.mpr c202
         have c202b1 : (t332 != t344) = false := bne_eq_false_iff_eq.mpr c202
         clear c202
         (first | rw [c202b0] | (simp only [i64_w, i32_w]; rw [c202b0]) | skip)
         have H' := aM8_ H
         clear H
         obtain ⟨Ao203, co203, eo203⟩ := Kd.R_slice HO331.out
         subst eo203
         obtain ⟨Ao204, co204, eo204⟩ := Kd.R_slice HO343.out
         subst eo204
         go_wp2
         repeat (go_quiet (fail); try go_wp2)
         go_meet
         case rel => exact ⟨_, (((t329.length : Int) != (t341.length : Int))), q8x23_, H', ⟨by have := HJ16.out; have := HJ52.out; have := HJ122.out; first | omega | exact Nat.le_refl _⟩, ⟨by (with_reducible repeat (first | apply rA8_ | apply rN8_ | apply rD8_)); exact HO_5.out⟩, ⟨by (with_reducible repeat (first | apply rA8_ | apply rN8_ | apply rD8_)); exact HO_6.out⟩, ⟨by (with_reducible repeat (first | apply rA8_ | apply rN8_ | apply rD8_)); exact Kd.R_mono HO331.out (fun _ hk => hk.2)⟩, ⟨by (with_reducible repeat (first | apply rA8_ | apply rN8_ | apply rD8_)); exact Kd.R_mono HO343.out (fun _ hk => hk.2)⟩, ⟨by (with_reducible repeat (first | refine kN8_ ?_ _ | refine kD8_ ?_ | refine kA8_ ?_ _)); exact BK250.out⟩, ⟨by (with_reducible repeat (first | refine kN8_ ?_ _ | refine kD8_ ?_ | refine kA8_ ?_ _)); exact BK254.out⟩, ⟨by repeat (first | (with_reducible first | exact HB.out | apply bA8_ | apply bN8_ | apply bD8_ | refine bS8_ ?_ GE250.out | refine bS8_ ?_ GE254.out) | exact HB.out)⟩⟩
        rw [if_neg c202] at H
        have c202b0 : (t332 == t344) = false := beq_eq_false_iff_ne.mpr c202
        have c202b1 : (t332 != t344) = true := bne_iff_ne.mpr c202
        (first | rw [c202b0] | (simp only [i64_w, i32_w]; rw [c202b0]) | skip)
        have H' := aM8_ H
        clear H
        go_wp2
        repeat (go_quiet (fail); try go_wp2)
        go_meet
        case rel => exact ⟨_, (true), q8x23_, H', ⟨by have := HJ16.out; have := HJ52.out; have := HJ122.out; first | omega | exact Nat.le_refl _⟩, ⟨by (with_reducible repeat (first | apply rA8_ | apply rN8_ | apply rD8_)); exact HO_5.out⟩, ⟨by (with_reducible repeat (first | apply rA8_ | apply rN8_ | apply rD8_)); exact HO_6.out⟩, ⟨by (with_reducible repeat (first | apply rA8_ | apply rN8_ | apply rD8_)); exact Kd.R_mono HO331.out (fun _ hk => hk.2)⟩, ⟨by (with_reducible repeat (first | apply rA8_ | apply rN8_ | apply rD8_)); exact Kd.R_mono HO343.out (fun _ hk => hk.2)⟩, ⟨by (with_reducible repeat (first | refine kN8_ ?_ _ | refine kD8_ ?_ | refine kA8_ ?_ _)); exact BK250.out⟩, ⟨by (with_reducible repeat (first | refine kN8_ ?_ _ | refine kD8_ ?_ | refine kA8_ ?_ _)); exact BK254.out⟩, ⟨by repeat (first | (with_reducible first | exact HB.out | apply bA8_ | apply bN8_ | apply bD8_ | refine bS8_ ?_ GE250.out | refine bS8_ ?_ GE254.out) | exact HB.out)⟩⟩
       case rest =>
        clear HC197
        try clear c1
        try clear c2
        try clear p2
        try clear c3
        try clear c4
        try clear c5
        try clear c6
        try clear c7
        try clear c8
        try clear c9
        try clear c10
        try clear c11
        try clear c12
        try clear c13
        try clear c14
        try clear c15
        try clear c16
        try clear c17
        try clear c18
        try clear c19
        try clear c20
        try clear c27
        try clear c37
        try clear c37b0
        try clear c37b1
        try clear c38
        try clear c38b0
        try clear c38b1
        try clear c39
        try clear c39b0
        try clear c39b1
        try clear c41
        try clear c42
        try clear c42b0
        try clear c42b1
        try clear c52
        try clear c54
        try clear c54b0
        try clear c54b1
        try clear c57
        try clear c57b0
        try clear c57b1
        try clear c58
        try clear c59
        try clear c59b0
        try clear c63
        try clear c64
        try clear c66
        try clear c71
        try clear c72
        try clear c73
        try clear c79
        try clear c80
        try clear c82
        try clear c87
        try clear c88
        try clear c89
        try clear c95
        try clear c96
        try clear c98
        try clear c103
        try clear c104
        try clear c105
        try clear c110
        try clear c111
        try clear c113
        try clear c118
        try clear c119
        try clear c120
        try clear c122
        try clear c122b0
        try clear c122b1
        try clear c124
        try clear c124b0
        try clear c124b1
        try clear c127
        try clear c127b0
        try clear c127b1
        try clear c128
        try clear c129
        try clear c129b0
        try clear c133
        try clear c134
        try clear c136
        try clear c141
        try clear c142
        try clear c143
        try clear c149
        try clear c150
        try clear c152
        try clear c157
        try clear c158
        try clear c159
        try clear c165
        try clear c166
        try clear c168
        try clear c173
        try clear c174
        try clear c175
        try clear c180
        try clear c181
        try clear c183
        try clear c188
        try clear c189
        try clear c190
        try clear c192
        try clear c192b0
        try clear c192b1
        try clear c202
        try clear c202b0
        try clear c202b1
        try clear hcz100_0 hcz100_1
        try clear hcz106_0 hcz106_1
        try clear hcz112_0 hcz112_1
        try clear hcz114_0 hcz114_1
        try clear hcz115_0 hcz115_1
        try clear hcz121_0 hcz121_1
        try clear hcz135_0 hcz135_1
        try clear hcz137_0 hcz137_1
        try clear hcz138_0 hcz138_1
        try clear hcz144_0 hcz144_1
        try clear hcz145_0 hcz145_1
        try clear hcz151_0 hcz151_1
        try clear hcz153_0 hcz153_1
        try clear hcz154_0 hcz154_1
        try clear hcz160_0 hcz160_1
        try clear hcz161_0 hcz161_1
        try clear hcz167_0 hcz167_1
        try clear hcz169_0 hcz169_1
        try clear hcz170_0 hcz170_1
        try clear hcz176_0 hcz176_1
        try clear hcz182_0 hcz182_1
        try clear hcz184_0 hcz184_1
        try clear hcz185_0 hcz185_1
        try clear hcz191_0 hcz191_1
        try clear hcz23_0 hcz23_1
        try clear hcz28_0 hcz28_1
        try clear hcz65_0 hcz65_1
        try clear hcz67_0 hcz67_1
        try clear hcz68_0 hcz68_1
        try clear hcz74_0 hcz74_1
        try clear hcz75_0 hcz75_1
        try clear hcz81_0 hcz81_1
        try clear hcz83_0 hcz83_1
        try clear hcz84_0 hcz84_1
        try clear hcz90_0 hcz90_1
        try clear hcz91_0 hcz91_1
        try clear hcz97_0 hcz97_1
        try clear hcz99_0 hcz99_1
        try clear hfz100_0 hfz100_1
        try clear hfz106_0 hfz106_1
        try clear hfz112_0 hfz112_1
        try clear hfz114_0 hfz114_1
        try clear hfz115_0 hfz115_1
        try clear hfz121_0 hfz121_1
        try clear hfz135_0 hfz135_1
        try clear hfz137_0 hfz137_1
        try clear hfz138_0 hfz138_1
        try clear hfz144_0 hfz144_1
        try clear hfz145_0 hfz145_1
        try clear hfz151_0 hfz151_1
        try clear hfz153_0 hfz153_1
        try clear hfz154_0 hfz154_1
        try clear hfz160_0 hfz160_1
        try clear hfz161_0 hfz161_1
        try clear hfz167_0 hfz167_1
        try clear hfz169_0 hfz169_1
        try clear hfz170_0 hfz170_1
        try clear hfz176_0 hfz176_1
        try clear hfz182_0 hfz182_1
        try clear hfz184_0 hfz184_1
        try clear hfz185_0 hfz185_1
        try clear hfz191_0 hfz191_1
        try clear hfz23_0 hfz23_1
        try clear hfz28_0 hfz28_1
        try clear hfz65_0 hfz65_1
        try clear hfz67_0 hfz67_1
        try clear hfz68_0 hfz68_1
        try clear hfz74_0 hfz74_1
        try clear hfz75_0 hfz75_1
        try clear hfz81_0 hfz81_1
        try clear hfz83_0 hfz83_1
        try clear hfz84_0 hfz84_1
        try clear hfz90_0 hfz90_1
        try clear hfz91_0 hfz91_1
        try clear hfz97_0 hfz97_1
        try clear hfz99_0 hfz99_1
        try clear p2
        obtain ⟨kq, x181_196, rfl, HA, HJ196, HO_5, HO_6, HO_27, HO_29, BK250, BK254, HB⟩ := hcut
        cases kq with
        | zero => exact absurd HA.out (by simp [laws_FnEights.j3])
        | succ kj196 => as_aux_lemma =>
         have H := HA.out
         clear HA
         simp only [laws_FnEights.j3] at H
         by_cases c205 : x181_196 = true
         ·subst c205
          have H1 : (some false) = some r := by rw [if_pos rfl] at H; exact H
          clear H
          have H := H1
          clear H1
          obtain rfl := Option.some.inj H
          go_wp2
          repeat (go_quiet (fail); try go_wp2)
          go_ret
          exact ⟨by first | rfl | (simp [errW_none, errW_some] <;> rfl) | (simp [*, errW_none, errW_some] <;> rfl), by repeat (first | (with_reducible first | exact HB.out | apply bA8_ | apply bN8_ | apply bD8_ | refine bS8_ ?_ GE250.out | refine bS8_ ?_ GE254.out) | exact HB.out)⟩
         replace c205 := Bool.eq_false_iff.mpr c205
         subst c205
         have H1 : (laws_FnEights.l0 kj196 t241 t244 t329 t341 3 0 0 0) = some r := by rw [if_neg (show ¬ (false = true) by decide)] at H; exact H
         clear H
         have H := H1
         clear H1
         have H' := aM8_ H
         clear H
         go_wp2
         repeat (go_quiet (fail); try go_wp2)
         go_loopg [31, 32, 33, 34] kj196 (fun kq v31 v32 v33 v34 w' => ∃ (x31_5 : Int) (x32_5 : Int) (x33_5 : Int) (x34_5 : Int), v31 = .int .i8 x31_5 ∧ v32 = .int .i64 x32_5 ∧ v33 = .int .i64 x33_5 ∧ v34 = .int .i64 x34_5 ∧ Aside0 (laws_FnEights.l0 kq t241 t244 t329 t341 x31_5 x32_5 x33_5 x34_5 = some r) ∧ Aside0 (kq ≤ kj196) ∧ Aside0 (Kd.R (Kd.int .i64) 2 w' w.heap.size (fun k_ => some k_ ≠ ((.slice Ao24 t244.length co24) : Value).ownBlock) (.slice Ao20 t241.length co20) t241) ∧ Aside0 (Kd.R (Kd.int .i64) 2 w' w.heap.size (fun k_ => some k_ ≠ ((.slice Ao20 t241.length co20) : Value).ownBlock) (.slice Ao24 t244.length co24) t244) ∧ Aside0 (Kd.R k52 52 w' w.heap.size (fun k_ => some k_ ≠ (v342 : Value).ownBlock) v330 t329) ∧ Aside0 (Kd.R k52 52 w' w.heap.size (fun k_ => some k_ ≠ (v330 : Value).ownBlock) v342 t341) ∧ Aside0 (w'.heap[gb250]? = some (.cells #[.int .i64 t247, .int .i64 t248] 54 (0, 0))) ∧ Aside0 (w'.heap[gb254]? = some (.cells #[.int .i64 t251, .int .i64 t252] 54 (0, 0))) ∧ Aside0 (Below w.heap.size w w'))
         case atStart => exact ⟨(3), (0), (0), (0), q8x23_, q8x23_, q8x23_, q8x23_, H', ⟨Nat.le_refl _⟩, ⟨by (with_reducible repeat (first | apply rA8_ | apply rN8_ | apply rD8_)); exact HO_5.out⟩, ⟨by (with_reducible repeat (first | apply rA8_ | apply rN8_ | apply rD8_)); exact HO_6.out⟩, ⟨by (with_reducible repeat (first | apply rA8_ | apply rN8_ | apply rD8_)); exact HO_27.out⟩, ⟨by (with_reducible repeat (first | apply rA8_ | apply rN8_ | apply rD8_)); exact HO_29.out⟩, ⟨by (with_reducible repeat (first | refine kN8_ ?_ _ | refine kD8_ ?_ | refine kA8_ ?_ _)); exact BK250.out⟩, ⟨by (with_reducible repeat (first | refine kN8_ ?_ _ | refine kD8_ ?_ | refine kA8_ ?_ _)); exact BK254.out⟩, ⟨by repeat (first | (with_reducible first | exact HB.out | apply bA8_ | apply bN8_ | apply bD8_ | refine bS8_ ?_ GE250.out | refine bS8_ ?_ GE254.out) | exact HB.out)⟩⟩
         case round =>
          clear H'
          try clear c1
          try clear c2
          try clear p2
          try clear c3
          try clear c4
          try clear c5
          try clear c6
          try clear c7
          try clear c8
          try clear c9
          try clear c10
          try clear c11
          try clear c12
          try clear c13
          try clear c14
          try clear c15
          try clear c16
          try clear c17
          try clear c18
          try clear c19
          try clear c20
          try clear c27
          try clear c37
          try clear c37b0
          try clear c37b1
          try clear c38
          try clear c38b0
          try clear c38b1
          try clear c39
          try clear c39b0
          try clear c39b1
          try clear c41
          try clear c42
          try clear c42b0
          try clear c42b1
          try clear c52
          try clear c54
          try clear c54b0
          try clear c54b1
          try clear c57
          try clear c57b0
          try clear c57b1
          try clear c58
          try clear c59
          try clear c59b0
          try clear c63
          try clear c64
          try clear c66
          try clear c71
          try clear c72
          try clear c73
          try clear c79
          try clear c80
          try clear c82
          try clear c87
          try clear c88
          try clear c89
          try clear c95
          try clear c96
          try clear c98
          try clear c103
          try clear c104
          try clear c105
          try clear c110
          try clear c111
          try clear c113
          try clear c118
          try clear c119
          try clear c120
          try clear c122
          try clear c122b0
          try clear c122b1
          try clear c124
          try clear c124b0
          try clear c124b1
          try clear c127
          try clear c127b0
          try clear c127b1
          try clear c128
          try clear c129
          try clear c129b0
          try clear c133
          try clear c134
          try clear c136
          try clear c141
          try clear c142
          try clear c143
          try clear c149
          try clear c150
          try clear c152
          try clear c157
          try clear c158
          try clear c159
          try clear c165
          try clear c166
          try clear c168
          try clear c173
          try clear c174
          try clear c175
          try clear c180
          try clear c181
          try clear c183
          try clear c188
          try clear c189
          try clear c190
          try clear c192
          try clear c192b0
          try clear c192b1
          try clear c202
          try clear c202b0
          try clear c202b1
          try clear c205
          try clear hcz100_0 hcz100_1
          try clear hcz106_0 hcz106_1
          try clear hcz112_0 hcz112_1
          try clear hcz114_0 hcz114_1
          try clear hcz115_0 hcz115_1
          try clear hcz121_0 hcz121_1
          try clear hcz135_0 hcz135_1
          try clear hcz137_0 hcz137_1
          try clear hcz138_0 hcz138_1
          try clear hcz144_0 hcz144_1
          try clear hcz145_0 hcz145_1
          try clear hcz151_0 hcz151_1
          try clear hcz153_0 hcz153_1
          try clear hcz154_0 hcz154_1
          try clear hcz160_0 hcz160_1
          try clear hcz161_0 hcz161_1
          try clear hcz167_0 hcz167_1
          try clear hcz169_0 hcz169_1
          try clear hcz170_0 hcz170_1
          try clear hcz176_0 hcz176_1
          try clear hcz182_0 hcz182_1
          try clear hcz184_0 hcz184_1
          try clear hcz185_0 hcz185_1
          try clear hcz191_0 hcz191_1
          try clear hcz23_0 hcz23_1
          try clear hcz28_0 hcz28_1
          try clear hcz65_0 hcz65_1
          try clear hcz67_0 hcz67_1
          try clear hcz68_0 hcz68_1
          try clear hcz74_0 hcz74_1
          try clear hcz75_0 hcz75_1
          try clear hcz81_0 hcz81_1
          try clear hcz83_0 hcz83_1
          try clear hcz84_0 hcz84_1
          try clear hcz90_0 hcz90_1
          try clear hcz91_0 hcz91_1
          try clear hcz97_0 hcz97_1
          try clear hcz99_0 hcz99_1
          try clear hfz100_0 hfz100_1
          try clear hfz106_0 hfz106_1
          try clear hfz112_0 hfz112_1
          try clear hfz114_0 hfz114_1
          try clear hfz115_0 hfz115_1
          try clear hfz121_0 hfz121_1
          try clear hfz135_0 hfz135_1
          try clear hfz137_0 hfz137_1
          try clear hfz138_0 hfz138_1
          try clear hfz144_0 hfz144_1
          try clear hfz145_0 hfz145_1
          try clear hfz151_0 hfz151_1
          try clear hfz153_0 hfz153_1
          try clear hfz154_0 hfz154_1
          try clear hfz160_0 hfz160_1
          try clear hfz161_0 hfz161_1
          try clear hfz167_0 hfz167_1
          try clear hfz169_0 hfz169_1
          try clear hfz170_0 hfz170_1
          try clear hfz176_0 hfz176_1
          try clear hfz182_0 hfz182_1
          try clear hfz184_0 hfz184_1
          try clear hfz185_0 hfz185_1
          try clear hfz191_0 hfz191_1
          try clear hfz23_0 hfz23_1
          try clear hfz28_0 hfz28_1
          try clear hfz65_0 hfz65_1
          try clear hfz67_0 hfz67_1
          try clear hfz68_0 hfz68_1
          try clear hfz74_0 hfz74_1
          try clear hfz75_0 hfz75_1
          try clear hfz81_0 hfz81_1
          try clear hfz83_0 hfz83_1
          try clear hfz84_0 hfz84_1
          try clear hfz90_0 hfz90_1
          try clear hfz91_0 hfz91_1
          try clear hfz97_0 hfz97_1
          try clear hfz99_0 hfz99_1
          try clear p2
          obtain ⟨x31_5, x32_5, x33_5, x34_5, rfl, rfl, rfl, rfl, HA, HK5, HO_5, HO_6, HO_27, HO_29, BK250, BK254, HB⟩ := hrel
          cases gk with
          | zero => exact absurd HA.out (by simp [laws_FnEights.l0])
          | succ k5 => as_aux_lemma =>
           have H := HA.out
           clear HA
           simp only [laws_FnEights.l0] at H
           by_cases c206 : x34_5 < (t341.length : Int)
           rotate_left
           ·rw [if_neg c206] at H
            have c206b0 : decide (x34_5 < (t341.length : Int)) = false := decide_eq_false c206
            clear c206
            by_cases c224 : x32_5 ≤ (wrap64 ((t241.length : Int) + 1))
            ·rw [if_pos c224] at H
             have c224b0 : decide (x32_5 ≤ (wrap64 ((t241.length : Int) + 1))) = true := decide_eq_true c224
             clear c224
             obtain rfl := Option.some.inj H
             obtain ⟨Ao225, co225, eo225⟩ := Kd.R_slice HO_29.out
             subst eo225
             go_wp2
             repeat (go_quiet (fail); try go_wp2)
             go_ret
             exact ⟨by first | rfl | (simp [errW_none, errW_some] <;> rfl) | (simp [*, errW_none, errW_some] <;> rfl), by repeat (first | (with_reducible first | exact HB.out | apply bA8_ | apply bN8_ | apply bD8_ | refine bS8_ ?_ GE250.out | refine bS8_ ?_ GE254.out) | exact HB.out)⟩
            rw [if_neg c224] at H
            have c224b0 : decide (x32_5 ≤ (wrap64 ((t241.length : Int) + 1))) = false := decide_eq_false c224
            clear c224
            obtain rfl := Option.some.inj H
            obtain ⟨Ao226, co226, eo226⟩ := Kd.R_slice HO_29.out
            subst eo226
            go_wp2
            repeat (go_quiet (fail); try go_wp2)
            go_ret
            exact ⟨by first | rfl | (simp [errW_none, errW_some] <;> rfl) | (simp [*, errW_none, errW_some] <;> rfl), by repeat (first | (with_reducible first | exact HB.out | apply bA8_ | apply bN8_ | apply bD8_ | refine bS8_ ?_ GE250.out | refine bS8_ ?_ GE254.out) | exact HB.out)⟩

           rw [if_pos c206] at H
           have c206b0 : decide (x34_5 < (t341.length : Int)) = true := decide_eq_true c206
           clear c206
           by_cases c207 : 0 ≤ x34_5
           rotate_left
           ·rw [if_neg c207] at H
            exact absurd H (by simp)
           rw [if_pos c207] at H
           have c207b0 : decide (0 ≤ x34_5) = true := decide_eq_true c207
           clear c207
           by_cases c208 : x34_5 < (t329.length : Int)
           rotate_left
           ·rw [if_neg c208] at H
            exact absurd H (by simp)
           rw [if_pos c208] at H
           have c208b0 : decide (x34_5 < (t329.length : Int)) = true := decide_eq_true c208
           clear c208
           by_cases c209 : (!(((rd_T52 t329 x34_5).f0) == ((rd_T52 t341 x34_5).f0)) || (!(((rd_T52 t329 x34_5).f1) == ((rd_T52 t341 x34_5).f1)))) = true
           ·rw [if_pos c209] at H
            have c209b0 : (!(((rd_T52 t329 x34_5).f0) == ((rd_T52 t341 x34_5).f0)) || (!(((rd_T52 t329 x34_5).f1) == ((rd_T52 t341 x34_5).f1)))) = true := c209
            clear c209
            obtain rfl := Option.some.inj H
            obtain ⟨Ao210, co210, eo210⟩ := Kd.R_slice HO_29.out
            subst eo210
            obtain ⟨Ao211, co211, eo211⟩ := Kd.R_slice HO_27.out
            subst eo211
            have p345 : 0 ≤ (x34_5 : Int) := of_decide_eq_true q8x25_
            have q345 : x34_5 < (t329.length : Int) := of_decide_eq_true q8x25_
            obtain ⟨ad345, e345, hx345_0, hx345_1⟩ := at_T52 (Kd.R_reads' HO_27.out).2.2 x34_5 p345 q345
            cases e345
            replace p345 := eq_true p345
            replace q345 := eq_true q345
            have p346 : 0 ≤ (x34_5 : Int) := of_decide_eq_true q8x25_
            have q346 : x34_5 < (t341.length : Int) := of_decide_eq_true q8x25_
            obtain ⟨ad346, e346, hx346_0, hx346_1⟩ := at_T52 (Kd.R_reads' HO_29.out).2.2 x34_5 p346 q346
            cases e346
            replace p346 := eq_true p346
            replace q346 := eq_true q346
            go_wp2
            repeat (go_quiet (fail); try go_wp2)
            go_ret
            exact ⟨by first | rfl | (simp [errW_none, errW_some] <;> rfl) | (simp [*, errW_none, errW_some] <;> rfl), by repeat (first | (with_reducible first | exact HB.out | apply bA8_ | apply bN8_ | apply bD8_ | refine bS8_ ?_ GE250.out | refine bS8_ ?_ GE254.out) | exact HB.out)⟩
           rw [if_neg c209] at H
           have c209b0 : (!(((rd_T52 t329 x34_5).f0) == ((rd_T52 t341 x34_5).f0)) || (!(((rd_T52 t329 x34_5).f1) == ((rd_T52 t341 x34_5).f1)))) = false := by simpa using c209
           clear c209
           by_cases c212 : ((rd_T52 t341 x34_5).f0) = 1
           ·rw [if_pos c212] at H
            have c212b0 : (((rd_T52 t341 x34_5).f0) == 1) = true := beq_iff_eq.mpr c212
            have c212b1 : (((rd_T52 t341 x34_5).f0) != 1) = false := bne_eq_false_iff_eq.mpr c212
            clear c212
            have H' := aM8_ H
            clear H
            obtain ⟨Ao213, co213, eo213⟩ := Kd.R_slice HO_29.out
            subst eo213
            obtain ⟨Ao214, co214, eo214⟩ := Kd.R_slice HO_27.out
            subst eo214
            have p345 : 0 ≤ (x34_5 : Int) := of_decide_eq_true q8x25_
            have q345 : x34_5 < (t329.length : Int) := of_decide_eq_true q8x25_
            obtain ⟨ad345, e345, hx345_0, hx345_1⟩ := at_T52 (Kd.R_reads' HO_27.out).2.2 x34_5 p345 q345
            cases e345
            replace p345 := eq_true p345
            replace q345 := eq_true q345
            have p346 : 0 ≤ (x34_5 : Int) := of_decide_eq_true q8x25_
            have q346 : x34_5 < (t341.length : Int) := of_decide_eq_true q8x25_
            obtain ⟨ad346, e346, hx346_0, hx346_1⟩ := at_T52 (Kd.R_reads' HO_29.out).2.2 x34_5 p346 q346
            cases e346
            replace p346 := eq_true p346
            replace q346 := eq_true q346
            have p347 : 0 ≤ (x34_5 : Int) := of_decide_eq_true q8x25_
            have q347 : x34_5 < (t341.length : Int) := of_decide_eq_true q8x25_
            obtain ⟨ad347, e347, hx347_0, hx347_1⟩ := at_T52 (Kd.R_reads' HO_29.out).2.2 x34_5 p347 q347
            obtain rfl : ad346 = ad347 := (by injection e347)
            replace p347 := eq_true p347
            replace q347 := eq_true q347
            go_wp2
            repeat (go_quiet (fail); try go_wp2)
            go_roundg k5
            case measure => have := HJ16.out; have := HJ52.out; have := HJ122.out; have := HJ196.out; have := HK5.out; omega
            case rel => exact ⟨(x31_5), (x32_5), (x33_5), (wrap64 (x34_5 + 1)), q8x23_, q8x23_, q8x23_, q8x23_, H', ⟨by have := HJ16.out; have := HJ52.out; have := HJ122.out; have := HJ196.out; have := HK5.out; omega⟩, ⟨by (with_reducible repeat (first | apply rA8_ | apply rN8_ | apply rD8_)); exact HO_5.out⟩, ⟨by (with_reducible repeat (first | apply rA8_ | apply rN8_ | apply rD8_)); exact HO_6.out⟩, ⟨by (with_reducible repeat (first | apply rA8_ | apply rN8_ | apply rD8_)); exact HO_27.out⟩, ⟨by (with_reducible repeat (first | apply rA8_ | apply rN8_ | apply rD8_)); exact HO_29.out⟩, ⟨by (with_reducible repeat (first | refine kN8_ ?_ _ | refine kD8_ ?_ | refine kA8_ ?_ _)); exact BK250.out⟩, ⟨by (with_reducible repeat (first | refine kN8_ ?_ _ | refine kD8_ ?_ | refine kA8_ ?_ _)); exact BK254.out⟩, ⟨by repeat (first | (with_reducible first | exact HB.out | apply bA8_ | apply bN8_ | apply bD8_ | refine bS8_ ?_ GE250.out | refine bS8_ ?_ GE254.out) | exact HB.out)⟩⟩
           rw [if_neg c212] at H
           have c212b0 : (((rd_T52 t341 x34_5).f0) == 1) = false := beq_eq_false_iff_ne.mpr c212
           have c212b1 : (((rd_T52 t341 x34_5).f0) != 1) = true := bne_iff_ne.mpr c212
           have HC215 := aM8_ H
           clear H
           obtain ⟨Ao216, co216, eo216⟩ := Kd.R_slice HO_29.out
           subst eo216
           obtain ⟨Ao217, co217, eo217⟩ := Kd.R_slice HO_27.out
           subst eo217
           have p345 : 0 ≤ (x34_5 : Int) := of_decide_eq_true q8x25_
           have q345 : x34_5 < (t329.length : Int) := of_decide_eq_true q8x25_
           obtain ⟨ad345, e345, hx345_0, hx345_1⟩ := at_T52 (Kd.R_reads' HO_27.out).2.2 x34_5 p345 q345
           cases e345
           replace p345 := eq_true p345
           replace q345 := eq_true q345
           have p346 : 0 ≤ (x34_5 : Int) := of_decide_eq_true q8x25_
           have q346 : x34_5 < (t341.length : Int) := of_decide_eq_true q8x25_
           obtain ⟨ad346, e346, hx346_0, hx346_1⟩ := at_T52 (Kd.R_reads' HO_29.out).2.2 x34_5 p346 q346
           cases e346
           replace p346 := eq_true p346
           replace q346 := eq_true q346
           have p347 : 0 ≤ (x34_5 : Int) := of_decide_eq_true q8x25_
           have q347 : x34_5 < (t341.length : Int) := of_decide_eq_true q8x25_
           obtain ⟨ad347, e347, hx347_0, hx347_1⟩ := at_T52 (Kd.R_reads' HO_29.out).2.2 x34_5 p347 q347
           obtain rfl : ad346 = ad347 := (by injection e347)
           replace p347 := eq_true p347
           replace q347 := eq_true q347
           go_upto_region 40 with (fail)
           repeat (go_quiet (fail); go_upto_region 40 with (fail))
           go_cut [221] (fun v221 wc => ∃ (kq : Nat) (x221_214 : Bool), v221 = .bool x221_214 ∧ Aside0 (laws_FnEights.j5 kq t241 t244 t329 t341 x32_5 x33_5 x34_5 x221_214 = some r) ∧ Aside0 (kq ≤ k5) ∧ Aside0 (Kd.R (Kd.int .i64) 2 wc w.heap.size (fun k_ => some k_ ≠ ((.slice Ao24 t244.length co24) : Value).ownBlock) (.slice Ao20 t241.length co20) t241) ∧ Aside0 (Kd.R (Kd.int .i64) 2 wc w.heap.size (fun k_ => some k_ ≠ ((.slice Ao20 t241.length co20) : Value).ownBlock) (.slice Ao24 t244.length co24) t244) ∧ Aside0 (Kd.R k52 52 wc w.heap.size (fun k_ => some k_ ≠ ((.slice (some ad346) t341.length co216) : Value).ownBlock) (.slice (some ad345) t329.length co217) t329) ∧ Aside0 (Kd.R k52 52 wc w.heap.size (fun k_ => some k_ ≠ ((.slice (some ad345) t329.length co217) : Value).ownBlock) (.slice (some ad346) t341.length co216) t341) ∧ Aside0 (wc.heap[gb250]? = some (.cells #[.int .i64 t247, .int .i64 t248] 54 (0, 0))) ∧ Aside0 (wc.heap[gb254]? = some (.cells #[.int .i64 t251, .int .i64 t252] 54 (0, 0))) ∧ Aside0 (Below w.heap.size w wc))
           case first =>
            have H := HC215.out
            clear HC215
            by_cases c218 : x32_5 ≤ (t241.length : Int)
            rotate_left
            ·rw [if_neg c218] at H
             have c218b0 : decide (x32_5 ≤ (t241.length : Int)) = false := decide_eq_false c218
             clear c218
             (first | rw [c218b0] | (simp only [i64_w, i32_w]; rw [c218b0]) | skip)
             have H' := aM8_ H
             clear H
             go_wp2
             repeat (go_quiet (fail); try go_wp2)
             go_meet
             case rel => exact ⟨_, (false), q8x23_, H', ⟨by have := HJ16.out; have := HJ52.out; have := HJ122.out; have := HJ196.out; have := HK5.out; first | omega | exact Nat.le_refl _⟩, ⟨by (with_reducible repeat (first | apply rA8_ | apply rN8_ | apply rD8_)); exact HO_5.out⟩, ⟨by (with_reducible repeat (first | apply rA8_ | apply rN8_ | apply rD8_)); exact HO_6.out⟩, ⟨by (with_reducible repeat (first | apply rA8_ | apply rN8_ | apply rD8_)); exact HO_27.out⟩, ⟨by (with_reducible repeat (first | apply rA8_ | apply rN8_ | apply rD8_)); exact HO_29.out⟩, ⟨by (with_reducible repeat (first | refine kN8_ ?_ _ | refine kD8_ ?_ | refine kA8_ ?_ _)); exact BK250.out⟩, ⟨by (with_reducible repeat (first | refine kN8_ ?_ _ | refine kD8_ ?_ | refine kA8_ ?_ _)); exact BK254.out⟩, ⟨by repeat (first | (with_reducible first | exact HB.out | apply bA8_ | apply bN8_ | apply bD8_ | refine bS8_ ?_ GE250.out | refine bS8_ ?_ GE254.out) | exact HB.out)⟩⟩
            rw [if_pos c218] at H
            have c218b0 : decide (x32_5 ≤ (t241.length : Int)) = true := decide_eq_true c218
            clear c218
            (first | rw [c218b0] | (simp only [i64_w, i32_w]; rw [c218b0]) | skip)
            by_cases c219 : x33_5 ≤ (t244.length : Int)
            rotate_left
            ·rw [if_neg c219] at H
             have c219b0 : decide (x33_5 ≤ (t244.length : Int)) = false := decide_eq_false c219
             clear c219
             have H' := aM8_ H
             clear H
             go_wp2
             repeat (go_quiet (fail); try go_wp2)
             go_meet
             case rel => exact ⟨_, (false), q8x23_, H', ⟨by have := HJ16.out; have := HJ52.out; have := HJ122.out; have := HJ196.out; have := HK5.out; first | omega | exact Nat.le_refl _⟩, ⟨by (with_reducible repeat (first | apply rA8_ | apply rN8_ | apply rD8_)); exact HO_5.out⟩, ⟨by (with_reducible repeat (first | apply rA8_ | apply rN8_ | apply rD8_)); exact HO_6.out⟩, ⟨by (with_reducible repeat (first | apply rA8_ | apply rN8_ | apply rD8_)); exact HO_27.out⟩, ⟨by (with_reducible repeat (first | apply rA8_ | apply rN8_ | apply rD8_)); exact HO_29.out⟩, ⟨by (with_reducible repeat (first | refine kN8_ ?_ _ | refine kD8_ ?_ | refine kA8_ ?_ _)); exact BK250.out⟩, ⟨by (with_reducible repeat (first | refine kN8_ ?_ _ | refine kD8_ ?_ | refine kA8_ ?_ _)); exact BK254.out⟩, ⟨by repeat (first | (with_reducible first | exact HB.out | apply bA8_ | apply bN8_ | apply bD8_ | refine bS8_ ?_ GE250.out | refine bS8_ ?_ GE254.out) | exact HB.out)⟩⟩
            rw [if_pos c219] at H
            have c219b0 : decide (x33_5 ≤ (t244.length : Int)) = true := decide_eq_true c219
            clear c219
            have H' := aM8_ H
            clear H
            have p348 : 0 ≤ (x34_5 : Int) := of_decide_eq_true q8x25_
            have q348 : x34_5 < (t341.length : Int) := of_decide_eq_true q8x25_
            obtain ⟨ad348, e348, hx348_0, hx348_1⟩ := at_T52 (Kd.R_reads' HO_29.out).2.2 x34_5 p348 q348
            obtain rfl : ad346 = ad348 := (by injection e348)
            replace p348 := eq_true p348
            replace q348 := eq_true q348
            go_wp2
            repeat (go_quiet (fail); try go_wp2)
            go_meet
            case rel => exact ⟨_, ((((rd_T52 t341 x34_5).f0) == x31_5)), q8x23_, H', ⟨by have := HJ16.out; have := HJ52.out; have := HJ122.out; have := HJ196.out; have := HK5.out; first | omega | exact Nat.le_refl _⟩, ⟨by (with_reducible repeat (first | apply rA8_ | apply rN8_ | apply rD8_)); exact HO_5.out⟩, ⟨by (with_reducible repeat (first | apply rA8_ | apply rN8_ | apply rD8_)); exact HO_6.out⟩, ⟨by (with_reducible repeat (first | apply rA8_ | apply rN8_ | apply rD8_)); exact HO_27.out⟩, ⟨by (with_reducible repeat (first | apply rA8_ | apply rN8_ | apply rD8_)); exact HO_29.out⟩, ⟨by (with_reducible repeat (first | refine kN8_ ?_ _ | refine kD8_ ?_ | refine kA8_ ?_ _)); exact BK250.out⟩, ⟨by (with_reducible repeat (first | refine kN8_ ?_ _ | refine kD8_ ?_ | refine kA8_ ?_ _)); exact BK254.out⟩, ⟨by repeat (first | (with_reducible first | exact HB.out | apply bA8_ | apply bN8_ | apply bD8_ | refine bS8_ ?_ GE250.out | refine bS8_ ?_ GE254.out) | exact HB.out)⟩⟩
           case rest =>
            clear HC215
            try clear c1
            try clear c2
            try clear p2
            try clear c3
            try clear p3
            try clear q3
            try clear hx3
            try clear c4
            try clear c5
            try clear c6
            try clear p6
            try clear c7
            try clear c8
            try clear c9
            try clear c10
            try clear c11
            try clear c12
            try clear c13
            try clear c14
            try clear c15
            try clear c16
            try clear c17
            try clear c18
            try clear c19
            try clear c20
            try clear c21
            try clear c27
            try clear p34
            try clear q34
            try clear hx34
            try clear c37
            try clear c37b0
            try clear c37b1
            try clear c38
            try clear c38b0
            try clear c38b1
            try clear c39
            try clear c39b0
            try clear c39b1
            try clear c41
            try clear c42
            try clear c42b0
            try clear c42b1
            try clear c52
            try clear c54
            try clear c54b0
            try clear c54b1
            try clear c57
            try clear c57b0
            try clear c57b1
            try clear c58
            try clear c59
            try clear c59b0
            try clear c63
            try clear c64
            try clear p64
            try clear c66
            try clear c71
            try clear c72
            try clear c73
            try clear c79
            try clear c80
            try clear c82
            try clear c87
            try clear c88
            try clear c89
            try clear c95
            try clear c96
            try clear c98
            try clear c103
            try clear c104
            try clear c105
            try clear c110
            try clear c111
            try clear c113
            try clear c118
            try clear c119
            try clear c120
            try clear c122
            try clear c122b0
            try clear c122b1
            try clear c124
            try clear c124b0
            try clear c124b1
            try clear c127
            try clear c127b0
            try clear c127b1
            try clear c128
            try clear c129
            try clear c129b0
            try clear c133
            try clear c134
            try clear c136
            try clear c141
            try clear c142
            try clear c143
            try clear c149
            try clear c150
            try clear c152
            try clear c157
            try clear c158
            try clear c159
            try clear c165
            try clear c166
            try clear c168
            try clear c173
            try clear c174
            try clear c175
            try clear c180
            try clear c181
            try clear c183
            try clear c188
            try clear c189
            try clear c190
            try clear c192
            try clear c192b0
            try clear c192b1
            try clear c202
            try clear c202b0
            try clear c202b1
            try clear c205
            try clear c206
            try clear c206b0
            try clear c207
            try clear c207b0
            try clear c208
            try clear c208b0
            try clear c209
            try clear c209b0
            try clear c212
            try clear c212b0
            try clear c212b1
            try clear c218
            try clear c218b0
            try clear c219
            try clear c219b0
            try clear hcz100_0 hcz100_1
            try clear hcz106_0 hcz106_1
            try clear hcz112_0 hcz112_1
            try clear hcz114_0 hcz114_1
            try clear hcz115_0 hcz115_1
            try clear hcz121_0 hcz121_1
            try clear hcz135_0 hcz135_1
            try clear hcz137_0 hcz137_1
            try clear hcz138_0 hcz138_1
            try clear hcz144_0 hcz144_1
            try clear hcz145_0 hcz145_1
            try clear hcz151_0 hcz151_1
            try clear hcz153_0 hcz153_1
            try clear hcz154_0 hcz154_1
            try clear hcz160_0 hcz160_1
            try clear hcz161_0 hcz161_1
            try clear hcz167_0 hcz167_1
            try clear hcz169_0 hcz169_1
            try clear hcz170_0 hcz170_1
            try clear hcz176_0 hcz176_1
            try clear hcz182_0 hcz182_1
            try clear hcz184_0 hcz184_1
            try clear hcz185_0 hcz185_1
            try clear hcz191_0 hcz191_1
            try clear hcz23_0 hcz23_1
            try clear hcz28_0 hcz28_1
            try clear hcz65_0 hcz65_1
            try clear hcz67_0 hcz67_1
            try clear hcz68_0 hcz68_1
            try clear hcz74_0 hcz74_1
            try clear hcz75_0 hcz75_1
            try clear hcz81_0 hcz81_1
            try clear hcz83_0 hcz83_1
            try clear hcz84_0 hcz84_1
            try clear hcz90_0 hcz90_1
            try clear hcz91_0 hcz91_1
            try clear hcz97_0 hcz97_1
            try clear hcz99_0 hcz99_1
            try clear hfz100_0 hfz100_1
            try clear hfz106_0 hfz106_1
            try clear hfz112_0 hfz112_1
            try clear hfz114_0 hfz114_1
            try clear hfz115_0 hfz115_1
            try clear hfz121_0 hfz121_1
            try clear hfz135_0 hfz135_1
            try clear hfz137_0 hfz137_1
            try clear hfz138_0 hfz138_1
            try clear hfz144_0 hfz144_1
            try clear hfz145_0 hfz145_1
            try clear hfz151_0 hfz151_1
            try clear hfz153_0 hfz153_1
            try clear hfz154_0 hfz154_1
            try clear hfz160_0 hfz160_1
            try clear hfz161_0 hfz161_1
            try clear hfz167_0 hfz167_1
            try clear hfz169_0 hfz169_1
            try clear hfz170_0 hfz170_1
            try clear hfz176_0 hfz176_1
            try clear hfz182_0 hfz182_1
            try clear hfz184_0 hfz184_1
            try clear hfz185_0 hfz185_1
            try clear hfz191_0 hfz191_1
            try clear hfz23_0 hfz23_1
            try clear hfz28_0 hfz28_1
            try clear hfz65_0 hfz65_1
            try clear hfz67_0 hfz67_1
            try clear hfz68_0 hfz68_1
            try clear hfz74_0 hfz74_1
            try clear hfz75_0 hfz75_1
            try clear hfz81_0 hfz81_1
            try clear hfz83_0 hfz83_1
            try clear hfz84_0 hfz84_1
            try clear hfz90_0 hfz90_1
            try clear hfz91_0 hfz91_1
            try clear hfz97_0 hfz97_1
            try clear hfz99_0 hfz99_1
            try clear hx345_0
            try clear hx345_1
            try clear hx346_0
            try clear hx346_1
            try clear hx347_0
            try clear hx347_1
            try clear hx348_0
            try clear hx348_1
            try clear p2
            try clear p345
            try clear p346
            try clear p347
            try clear p348
            try clear q345
            try clear q346
            try clear q347
            try clear q348
            obtain ⟨kq, x221_214, rfl, HA, HJ214, HO_5, HO_6, HO_27, HO_29, BK250, BK254, HB⟩ := hcut
            cases kq with
            | zero => exact absurd HA.out (by simp [laws_FnEights.j5])
            | succ kj214 => as_aux_lemma =>
             have H := HA.out
             clear HA
             simp only [laws_FnEights.j5] at H
             by_cases c220 : x221_214 = true
             ·subst c220
              have H1 : (some false) = some r := by rw [if_pos rfl] at H; exact H
              clear H
              have H := H1
              clear H1
              obtain rfl := Option.some.inj H
              go_wp2
              repeat (go_quiet (fail); try go_wp2)
              go_ret
              exact ⟨by first | rfl | (simp [errW_none, errW_some] <;> rfl) | (simp [*, errW_none, errW_some] <;> rfl), by repeat (first | (with_reducible first | exact HB.out | apply bA8_ | apply bN8_ | apply bD8_ | refine bS8_ ?_ GE250.out | refine bS8_ ?_ GE254.out) | exact HB.out)⟩
             replace c220 := Bool.eq_false_iff.mpr c220
             subst c220
             have H1 : (if 0 ≤ x34_5 then (if x34_5 < (t341.length : Int) then (if ((rd_T52 t341 x34_5).f0) = 2 then (laws_FnEights.l0 kj214 t241 t244 t329 t341 ((rd_T52 t341 x34_5).f0) (wrap64 (x32_5 + 1)) x33_5 (wrap64 (x34_5 + 1))) else (laws_FnEights.l0 kj214 t241 t244 t329 t341 ((rd_T52 t341 x34_5).f0) x32_5 (wrap64 (x33_5 + 1)) (wrap64 (x34_5 + 1)))) else (none)) else (none)) = some r := by rw [if_neg (show ¬ (false = true) by decide)] at H; exact H
             clear H
             have H := H1
             clear H1
             by_cases c221 : 0 ≤ x34_5
             rotate_left
             ·rw [if_neg c221] at H
              exact absurd H (by simp)
             rw [if_pos c221] at H
             have c221b0 : decide (0 ≤ x34_5) = true := decide_eq_true c221
             clear c221
             by_cases c222 : x34_5 < (t341.length : Int)
             rotate_left
             ·rw [if_neg c222] at H
              exact absurd H (by simp)
             rw [if_pos c222] at H
             have c222b0 : decide (x34_5 < (t341.length : Int)) = true := decide_eq_true c222
             clear c222
             by_cases c223 : ((rd_T52 t341 x34_5).f0) = 2
             ·rw [if_pos c223] at H
              have c223b0 : (((rd_T52 t341 x34_5).f0) == 2) = true := beq_iff_eq.mpr c223
              have c223b1 : (((rd_T52 t341 x34_5).f0) != 2) = false := bne_eq_false_iff_eq.mpr c223
              clear c223
              have H' := aM8_ H
              clear H
              have p349 : 0 ≤ (x34_5 : Int) := of_decide_eq_true q8x25_
              have q349 : x34_5 < (t341.length : Int) := of_decide_eq_true q8x25_
              obtain ⟨ad349, e349, hx349_0, hx349_1⟩ := at_T52 (Kd.R_reads' HO_29.out).2.2 x34_5 p349 q349
              obtain rfl : ad346 = ad349 := (by injection e349)
              replace p349 := eq_true p349
              replace q349 := eq_true q349
              go_wp2
              repeat (go_quiet (fail); try go_wp2)
              go_roundg kj214
              case measure => have := HJ16.out; have := HJ52.out; have := HJ122.out; have := HJ196.out; have := HK5.out; have := HJ214.out; omega
              case rel => exact ⟨((rd_T52 t341 x34_5).f0), (wrap64 (x32_5 + 1)), (x33_5), (wrap64 (x34_5 + 1)), q8x23_, q8x23_, q8x23_, q8x23_, H', ⟨by have := HJ16.out; have := HJ52.out; have := HJ122.out; have := HJ196.out; have := HK5.out; have := HJ214.out; omega⟩, ⟨by (with_reducible repeat (first | apply rA8_ | apply rN8_ | apply rD8_)); exact HO_5.out⟩, ⟨by (with_reducible repeat (first | apply rA8_ | apply rN8_ | apply rD8_)); exact HO_6.out⟩, ⟨by (with_reducible repeat (first | apply rA8_ | apply rN8_ | apply rD8_)); exact HO_27.out⟩, ⟨by (with_reducible repeat (first | apply rA8_ | apply rN8_ | apply rD8_)); exact HO_29.out⟩, ⟨by (with_reducible repeat (first | refine kN8_ ?_ _ | refine kD8_ ?_ | refine kA8_ ?_ _)); exact BK250.out⟩, ⟨by (with_reducible repeat (first | refine kN8_ ?_ _ | refine kD8_ ?_ | refine kA8_ ?_ _)); exact BK254.out⟩, ⟨by repeat (first | (with_reducible first | exact HB.out | apply bA8_ | apply bN8_ | apply bD8_ | refine bS8_ ?_ GE250.out | refine bS8_ ?_ GE254.out) | exact HB.out)⟩⟩
             rw [if_neg c223] at H
             have c223b0 : (((rd_T52 t341 x34_5).f0) == 2) = false := beq_eq_false_iff_ne.mpr c223
             have c223b1 : (((rd_T52 t341 x34_5).f0) != 2) = true := bne_iff_ne.mpr c223
             have H' := aM8_ H
             clear H
             have p349 : 0 ≤ (x34_5 : Int) := of_decide_eq_true q8x25_
             have q349 : x34_5 < (t341.length : Int) := of_decide_eq_true q8x25_
             obtain ⟨ad349, e349, hx349_0, hx349_1⟩ := at_T52 (Kd.R_reads' HO_29.out).2.2 x34_5 p349 q349
             obtain rfl : ad346 = ad349 := (by injection e349)
             replace p349 := eq_true p349
             replace q349 := eq_true q349
             go_wp2
             repeat (go_quiet (fail); try go_wp2)
             go_roundg kj214
             case measure => have := HJ16.out; have := HJ52.out; have := HJ122.out; have := HJ196.out; have := HK5.out; have := HJ214.out; omega
             case rel => exact ⟨((rd_T52 t341 x34_5).f0), (x32_5), (wrap64 (x33_5 + 1)), (wrap64 (x34_5 + 1)), q8x23_, q8x23_, q8x23_, q8x23_, H', ⟨by have := HJ16.out; have := HJ52.out; have := HJ122.out; have := HJ196.out; have := HK5.out; have := HJ214.out; omega⟩, ⟨by (with_reducible repeat (first | apply rA8_ | apply rN8_ | apply rD8_)); exact HO_5.out⟩, ⟨by (with_reducible repeat (first | apply rA8_ | apply rN8_ | apply rD8_)); exact HO_6.out⟩, ⟨by (with_reducible repeat (first | apply rA8_ | apply rN8_ | apply rD8_)); exact HO_27.out⟩, ⟨by (with_reducible repeat (first | apply rA8_ | apply rN8_ | apply rD8_)); exact HO_29.out⟩, ⟨by (with_reducible repeat (first | refine kN8_ ?_ _ | refine kD8_ ?_ | refine kA8_ ?_ _)); exact BK250.out⟩, ⟨by (with_reducible repeat (first | refine kN8_ ?_ _ | refine kD8_ ?_ | refine kA8_ ?_ _)); exact BK254.out⟩, ⟨by repeat (first | (with_reducible first | exact HB.out | apply bA8_ | apply bN8_ | apply bD8_ | refine bS8_ ?_ GE250.out | refine bS8_ ?_ GE254.out) | exact HB.out)⟩⟩
/-! ### the law's arguments -/
/-- THE ONE PURE STATEMENT of laws_FnEights. -/
def laws_FnEights.Pure : Prop := ∀ (x0 : List Int) (x1 : List Int), (x0.length * 1 ≤ 140737488351232 ∧ ∀ z_ ∈ x0, 0 ≤ z_ ∧ z_ ≤ 255) → (x1.length * 1 ≤ 140737488351232 ∧ ∀ z_ ∈ x1, 0 ≤ z_ ∧ z_ ≤ 255) → ∃ k, laws_FnEights.f k x0 x1 = some true
theorem laws_FnEights.walk (P_ : laws_FnEights.Pure) (w : World) (A0 : Option Addr) (c0 : Nat) (x0 : List Int) (hr0 : Kd.C (Kd.int .u8) w A0 x0.length x0) (hc0 : x0.length ≤ c0) (hw0 : x0.length * 1 ≤ 140737488351232 ∧ ∀ z_ ∈ x0, 0 ≤ z_ ∧ z_ ≤ 255) (A1 : Option Addr) (c1 : Nat) (x1 : List Int) (hr1 : Kd.C (Kd.int .u8) w A1 x1.length x1) (hc1 : x1.length ≤ c1) (hw1 : x1.length * 1 ≤ 140737488351232 ∧ ∀ z_ ∈ x1, 0 ≤ z_ ∧ z_ ≤ 255) :
  Calls Try.prog 8 #[.slice A0 x0.length c0, .slice A1 x1.length c1] w fun e w' => e = .returned (.bool true) ∧ Below w.heap.size w w' := by
 obtain ⟨k, h⟩ := P_ x0 x1 hw0 hw1
 refine (laws_FnEights.calls k _ _ x0 _ _ x1 true w hr0 hc0 hr1 hc1 h).mono ?_
 rintro e w' ⟨rfl, hd⟩
 exact ⟨rfl, hd⟩

end Go.Proofs.Ytgldplkbacfacaa.MFnEights
