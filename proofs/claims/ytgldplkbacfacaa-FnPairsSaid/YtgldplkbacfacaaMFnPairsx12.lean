/- Functions of the program as Lean functions, and the proof that the code comes to what they say. Written by a program of this session (myprint.py). -/
import Derived.Test.YtgldplkbacfacaaMFnPairsx0
import Derived.Test.YtgldplkbacfacaaMFnPairsx1
import Derived.Test.YtgldplkbacfacaaMFnPairsx2
import Derived.Test.YtgldplkbacfacaaMFnPairsx6
import Derived.Test.YtgldplkbacfacaaMFnPairsx9
import Derived.Test.YtgldplkbacfacaaMFnPairsx10
import Derived.Test.YtgldplkbacfacaaMFnPairsx11
namespace Go.Proofs.Ytgldplkbacfacaa.MFnPairs
open Go.RowKit Go.Proofs.Ytgldplkbacfacaa.MOpen Go.Proofs.YtgldplkbacfacaaW.PrintWords Go.Proofs.YtgldplkbacfacaaW.PrintLast Go.Proofs.YtgldplkbacfacaaW.PrintMore
attribute [local go_sem] max2_int min2_int max_two min_two max_three min_three max_four min_four   -- for this text's walks alone
set_option linter.unusedVariables false
set_option linter.unusedSimpArgs false

attribute [local go_sem high] eqA52 eqA54
set_option linter.defProp false
def rA7_ := @Kd.R_alloc
def rN7_ := @Kd.R_drewN
def rD7_ := @Kd.R_drew
def kA7_ := @blk_alloc
def kN7_ := @blk_drewN
def kD7_ := @blk_drew
def bS7_ := @below_set
def aM7_ := @Aside0.mk
def rB7_ := @Kd.R_below
def kB7_ := @blk_below
def bT7_ := @below_step
def kC7_ := @blk_cell
theorem q7x1_ {P : Prop} (h : P := by repeat (first | (with_reducible first | exact HB.out | apply below_alloc | apply pw_below_drewN | apply below_drew1 | refine bS7_ ?_ GE233.out) | exact HB.out)) : P := h
theorem q7x2_ {P : Prop} (h : P := by (with_reducible repeat (first | refine kN7_ ?_ _ | refine kD7_ ?_ | refine kA7_ ?_ _)); exact BK233.out) : P := h
theorem q7x3_ {P : Prop} (h : P := by repeat (first | (with_reducible first | exact HB.out | apply below_alloc | apply pw_below_drewN | apply below_drew1 | refine bS7_ ?_ GE233.out | refine bS7_ ?_ GE268.out) | exact HB.out)) : P := h
theorem q7x4_ {P : Prop} (h : P := by (with_reducible repeat (first | apply rA7_ | apply rN7_ | apply rD7_)); exact (Kd.R_mono (Kd.R_far (p := ⟨gb233, 3, none⟩) (Kd.R_far (p := ⟨gb233, 2, none⟩) (Kd.R_far (p := ⟨gb233, 1, none⟩) (Kd.R_far (p := ⟨gb233, 0, none⟩) (Kd.R_types HO228.out BK233.out (by decide)) (fun _ hk => hk.2) (.int .i64 (wrap64 (t229 - 4)))) (fun _ hk => hk.2) (.int .i64 (wrap64 (t230 - 4)))) (fun _ hk => hk.2) (.int .i64 (wrap64 (t231 - 2)))) (fun _ hk => hk.2) (.int .i64 (wrap64 (t232 - 4)))) (fun _ h_ => h_.1))) : P := h
theorem q7x5_ {P : Prop} (h : P := by first | (with_reducible assumption) | assumption) : P := h
theorem q7x6_ {P : Prop} (h : P := by rw [hg]; exact Nat.ne_of_lt (blk_lt (g := gb233) (o := .cells #[.int .i64 (wrap64 (t229 - 4)), .int .i64 (wrap64 (t230 - 4)), .int .i64 (wrap64 (t231 - 2)), .int .i64 (wrap64 (t232 - 4))] 27 (0, 0)) q7x2_)) : P := h
theorem q7x7_ {P : Prop} (h : P := by rw [hg]; exact Nat.ne_of_gt (blk_lt (g := gb233) (o := .cells #[.int .i64 (wrap64 (t229 - 4)), .int .i64 (wrap64 (t230 - 4)), .int .i64 (wrap64 (t231 - 2)), .int .i64 (wrap64 (t232 - 4))] 27 (0, 0)) q7x2_)) : P := h
theorem q7x8_ {P : Prop} (h : P := by (with_reducible repeat (first | refine kN7_ ?_ _ | refine kD7_ ?_ | refine kA7_ ?_ _)); exact BK268.out) : P := h
theorem q7x9_ {P : Prop} (h : P := by (with_reducible repeat (first | refine kN7_ ?_ _ | refine kD7_ ?_ | refine kA7_ ?_ _)); refine blk_put (cs := #[.int .i64 t265, .int .i64 0]) ?_ 1 _ rfl; (with_reducible repeat (first | refine kN7_ ?_ _ | refine kD7_ ?_ | refine kA7_ ?_ _)); refine blk_put (cs := #[.int .i64 0, .int .i64 0]) ?_ 0 _ rfl; (with_reducible repeat (first | refine kN7_ ?_ _ | refine kD7_ ?_ | refine kA7_ ?_ _)); exact BK268.out) : P := h
theorem q7x10_ {P : Prop} (h : P := by repeat (first | (with_reducible first | exact HB.out | apply below_alloc | apply pw_below_drewN | apply below_drew1) | exact HB.out)) : P := h
theorem q7x11_ {P : Prop} (h : P := by (with_reducible repeat (first | apply rA7_ | apply rN7_ | apply rD7_)); exact HO_5.out) : P := h
theorem q7x12_ {P : Prop} (h : P := by (with_reducible repeat (first | apply rA7_ | apply rN7_ | apply rD7_)); exact HO_9.out) : P := h
theorem q7x13_ {P : Prop} (h : P := by (with_reducible repeat (first | apply rA7_ | apply rN7_ | apply rD7_)); exact HO_15.out) : P := h
theorem q7x14_ {P : Prop} (h : P := by (with_reducible repeat (first | apply rA7_ | apply rN7_ | apply rD7_)); exact (Kd.R_mono (Kd.R_far (p := ⟨gb272, 1, none⟩) (Kd.R_far (p := ⟨gb272, 0, none⟩) (Kd.R_types HO_9.out BK272.out (by decide)) (fun _ hk => hk.2) (.int .i64 t269)) (fun _ hk => hk.2) (.int .i64 t270)) (fun _ h_ => h_.1))) : P := h
theorem q7x15_ {P : Prop} (h : P := by (with_reducible repeat (first | apply rA7_ | apply rN7_ | apply rD7_)); exact HO_11.out) : P := h
theorem q7x16_ {P : Prop} (h : P := by (with_reducible repeat (first | apply rA7_ | apply rN7_ | apply rD7_)); exact HO_13.out) : P := h
theorem q7x17_ {P : Prop} (h : P := by (with_reducible repeat (first | refine kN7_ ?_ _ | refine kD7_ ?_ | refine kA7_ ?_ _)); refine blk_far ?_ NB233_268.out _; (with_reducible repeat (first | refine kN7_ ?_ _ | refine kD7_ ?_ | refine kA7_ ?_ _)); refine blk_far ?_ NB233_268.out _; (with_reducible repeat (first | refine kN7_ ?_ _ | refine kD7_ ?_ | refine kA7_ ?_ _)); exact BK233.out) : P := h
theorem q7x18_ {P : Prop} (h : P := by (with_reducible repeat (first | apply rA7_ | apply rN7_ | apply rD7_)); exact (Kd.R_mono (Kd.R_far (p := ⟨gb268, 1, none⟩) (Kd.R_far (p := ⟨gb268, 0, none⟩) (Kd.R_types HO_11.out BK268.out (by decide)) (fun _ hk => hk.2) (.int .i64 t265)) (fun _ hk => hk.2) (.int .i64 t266)) (fun _ h_ => h_.1))) : P := h
theorem q7x19_ {P : Prop} (h : P := by (with_reducible repeat (first | apply rA7_ | apply rN7_ | apply rD7_)); exact (Kd.R_mono (Kd.R_far (p := ⟨gb268, 1, none⟩) (Kd.R_far (p := ⟨gb268, 0, none⟩) (Kd.R_types HO_13.out BK268.out (by decide)) (fun _ hk => hk.2) (.int .i64 t265)) (fun _ hk => hk.2) (.int .i64 t266)) (fun _ h_ => h_.1))) : P := h
theorem q7x20_ {P : Prop} (h : P := by (with_reducible repeat (first | apply rA7_ | apply rN7_ | apply rD7_)); exact (Kd.R_mono (Kd.R_far (p := ⟨gb268, 1, none⟩) (Kd.R_far (p := ⟨gb268, 0, none⟩) (Kd.R_types HO_15.out BK268.out (by decide)) (fun _ hk => hk.2) (.int .i64 t265)) (fun _ hk => hk.2) (.int .i64 t266)) (fun _ h_ => h_.1))) : P := h
theorem q7x21_ {P : Prop} (h : P := by (with_reducible repeat (first | apply rA7_ | apply rN7_ | apply rD7_)); exact (Kd.R_mono (Kd.R_far (p := ⟨gb272, 1, none⟩) (Kd.R_far (p := ⟨gb272, 0, none⟩) (Kd.R_types HO_15.out BK272.out (by decide)) (fun _ hk => hk.2) (.int .i64 t269)) (fun _ hk => hk.2) (.int .i64 t270)) (fun _ h_ => h_.1))) : P := h
theorem q7x22_ {P : Prop} (h : P := by (with_reducible repeat (first | apply rA7_ | apply rN7_ | apply rD7_)); exact (Kd.R_mono (Kd.R_far (p := ⟨gb268, 1, none⟩) (Kd.R_far (p := ⟨gb268, 0, none⟩) (Kd.R_types HO_5.out BK268.out (by decide)) (fun _ hk => hk.2) (.int .i64 t265)) (fun _ hk => hk.2) (.int .i64 t266)) (fun _ h_ => h_.1))) : P := h
theorem q7x23_ {P : Prop} (h : P := by (with_reducible repeat (first | apply rA7_ | apply rN7_ | apply rD7_)); exact (Kd.R_mono (Kd.R_far (p := ⟨gb268, 1, none⟩) (Kd.R_far (p := ⟨gb268, 0, none⟩) (Kd.R_types HO_9.out BK268.out (by decide)) (fun _ hk => hk.2) (.int .i64 t265)) (fun _ hk => hk.2) (.int .i64 t266)) (fun _ h_ => h_.1))) : P := h
theorem q7x24_ {P : Prop} (h : P := by (with_reducible repeat (first | refine kN7_ ?_ _ | refine kD7_ ?_ | refine kA7_ ?_ _)); refine blk_put (cs := #[.int .i64 (wrap64 (t229 - 4)), .int .i64 (wrap64 (t230 - 4)), .int .i64 (wrap64 (t231 - 2)), .int .i64 0]) ?_ 3 _ rfl; (with_reducible repeat (first | refine kN7_ ?_ _ | refine kD7_ ?_ | refine kA7_ ?_ _)); refine blk_put (cs := #[.int .i64 (wrap64 (t229 - 4)), .int .i64 (wrap64 (t230 - 4)), .int .i64 0, .int .i64 0]) ?_ 2 _ rfl; (with_reducible repeat (first | refine kN7_ ?_ _ | refine kD7_ ?_ | refine kA7_ ?_ _)); refine blk_put (cs := #[.int .i64 (wrap64 (t229 - 4)), .int .i64 0, .int .i64 0, .int .i64 0]) ?_ 1 _ rfl; (with_reducible repeat (first | refine kN7_ ?_ _ | refine kD7_ ?_ | refine kA7_ ?_ _)); refine blk_put (cs := #[.int .i64 0, .int .i64 0, .int .i64 0, .int .i64 0]) ?_ 0 _ rfl; (with_reducible repeat (first | refine kN7_ ?_ _ | refine kD7_ ?_ | refine kA7_ ?_ _)); exact BK233.out) : P := h
theorem q7x25_ {P : Prop} (h : P := by repeat (first | (with_reducible first | exact HB.out | apply below_alloc | apply pw_below_drewN | apply below_drew1 | refine bS7_ ?_ GE233.out | refine bS7_ ?_ GE268.out | refine bS7_ ?_ GE272.out) | exact HB.out)) : P := h
theorem q7x26_ {P : Prop} (h : P := by (with_reducible repeat (first | apply rA7_ | apply rN7_ | apply rD7_)); exact HO228.out) : P := h
theorem q7x27_ {P : Prop} (h : P := by (with_reducible repeat (first | apply rA7_ | apply rN7_ | apply rD7_)); exact HO236.out) : P := h
theorem q7x28_ {P : Prop} (h : P := by rw [hg]; exact Nat.ne_of_lt (blk_lt (g := gb268) (o := .cells #[.int .i64 t265, .int .i64 t266] 54 (0, 0)) q7x8_)) : P := h
theorem q7x29_ {P : Prop} (h : P := by rw [hg]; exact Nat.ne_of_gt (blk_lt (g := gb268) (o := .cells #[.int .i64 t265, .int .i64 t266] 54 (0, 0)) q7x8_)) : P := h
theorem q7x30_ {P : Prop} (h : P := by first | rfl | (simp; done) | (simp [*]; done)) : P := h
theorem q7x31_ {P : Prop} (h : P := by (with_reducible repeat (first | refine kN7_ ?_ _ | refine kD7_ ?_ | refine kA7_ ?_ _)); exact BK272.out) : P := h
theorem q7x32_ {P : Prop} (h : P := by rw [hg]; exact (below_size q7x1_)) : P := h
theorem q7x33_ {P : Prop} (h : P := by rw [hg]; exact (below_size q7x3_)) : P := h
theorem q7x34_ {P : Prop} (h : P := by (with_reducible repeat (first | apply rA7_ | apply rN7_ | apply rD7_)); exact HO240.out) : P := h
theorem q7x35_ {P : Prop} (h : P := by (with_reducible repeat (first | apply rA7_ | apply rN7_ | apply rD7_)); exact HO244.out) : P := h
theorem q7x36_ {P : Prop} (h : P := by (with_reducible repeat (first | refine kN7_ ?_ _ | refine kD7_ ?_ | refine kA7_ ?_ _)); refine blk_put (cs := #[.int .i64 t269, .int .i64 0]) ?_ 1 _ rfl; (with_reducible repeat (first | refine kN7_ ?_ _ | refine kD7_ ?_ | refine kA7_ ?_ _)); refine blk_put (cs := #[.int .i64 0, .int .i64 0]) ?_ 0 _ rfl; (with_reducible repeat (first | refine kN7_ ?_ _ | refine kD7_ ?_ | refine kA7_ ?_ _)); exact BK272.out) : P := h
theorem q7x37_ {P : Prop} (h : P := by (with_reducible repeat (first | refine kN7_ ?_ _ | refine kD7_ ?_ | refine kA7_ ?_ _)); refine blk_far ?_ NB233_272.out _; (with_reducible repeat (first | refine kN7_ ?_ _ | refine kD7_ ?_ | refine kA7_ ?_ _)); refine blk_far ?_ NB233_272.out _; (with_reducible repeat (first | refine kN7_ ?_ _ | refine kD7_ ?_ | refine kA7_ ?_ _)); exact BK233.out) : P := h
theorem q7x38_ {P : Prop} (h : P := by (with_reducible repeat (first | refine kN7_ ?_ _ | refine kD7_ ?_ | refine kA7_ ?_ _)); refine blk_far ?_ NB268_272.out _; (with_reducible repeat (first | refine kN7_ ?_ _ | refine kD7_ ?_ | refine kA7_ ?_ _)); refine blk_far ?_ NB268_272.out _; (with_reducible repeat (first | refine kN7_ ?_ _ | refine kD7_ ?_ | refine kA7_ ?_ _)); exact BK268.out) : P := h
theorem q7x39_ {P : Prop} (h : P := by (with_reducible repeat (first | apply rA7_ | apply rN7_ | apply rD7_)); exact (Kd.R_mono (Kd.R_far (p := ⟨gb272, 1, none⟩) (Kd.R_far (p := ⟨gb272, 0, none⟩) (Kd.R_types HO_11.out BK272.out (by decide)) (fun _ hk => hk.2) (.int .i64 t269)) (fun _ hk => hk.2) (.int .i64 t270)) (fun _ h_ => h_.1))) : P := h
theorem q7x40_ {P : Prop} (h : P := by (with_reducible repeat (first | apply rA7_ | apply rN7_ | apply rD7_)); exact (Kd.R_mono (Kd.R_far (p := ⟨gb272, 1, none⟩) (Kd.R_far (p := ⟨gb272, 0, none⟩) (Kd.R_types HO_13.out BK272.out (by decide)) (fun _ hk => hk.2) (.int .i64 t269)) (fun _ hk => hk.2) (.int .i64 t270)) (fun _ h_ => h_.1))) : P := h
theorem q7x41_ {P : Prop} (h : P := by (with_reducible repeat (first | apply rA7_ | apply rN7_ | apply rD7_)); exact (Kd.R_mono (Kd.R_far (p := ⟨gb272, 1, none⟩) (Kd.R_far (p := ⟨gb272, 0, none⟩) (Kd.R_types HO_5.out BK272.out (by decide)) (fun _ hk => hk.2) (.int .i64 t269)) (fun _ hk => hk.2) (.int .i64 t270)) (fun _ h_ => h_.1))) : P := h
theorem q7x42_ {P : Prop} (h : P := by rw [hg]; exact (below_size q7x10_)) : P := h
/-! ### laws_FnPairs: function 7 -/
mutual
def laws_FnPairs.j0 : Nat → List Int → Int → List Int → List (S52) → List (S52) → Bool → Int → Int → Int → Int → Option (Bool)
 | 0, _, _, _, _, _, _, _, _, _, _ => none
 | k + 1, x5, x8, x9, x11, x13, x86, x234000, x234001, x234002, x234003 => if x86 = true then (some false) else (laws_FnPairs.l0 k x5 x8 x9 x11 x13 (([] : List Int)) 0 0 x234000 x234001 x234002 x234003)
def laws_FnPairs.l0 : Nat → List Int → Int → List Int → List (S52) → List (S52) → List Int → Int → Int → Int → Int → Int → Int → Option (Bool)
 | 0, _, _, _, _, _, _, _, _, _, _, _, _ => none
 | k + 1, x5, x8, x9, x11, x13, x15, x16, x17, x234000, x234001, x234002, x234003 => if x17 < (x13.length : Int) then (if 0 ≤ x17 then (if x17 < (x11.length : Int) then (if (!(((rd_T52 x11 x17).f0) == ((rd_T52 x13 x17).f0)) || (!(((rd_T52 x11 x17).f1) == ((rd_T52 x13 x17).f1)))) = true then (some false) else (if ((rd_T52 x13 x17).f0) = 1 then (if x15.length < 17592186044416 then (laws_FnPairs.l0 k x5 x8 x9 x11 x13 (x15 ++ [(rd_T52 x13 x17).f1]) x16 (wrap64 (x17 + 1)) x234000 x234001 x234002 x234003) else (none)) else (if x16 < (x5.length : Int) then (if 0 ≤ x16 then (if ((rd_T52 x13 x17).f1) = (rd x5 x16) then (if x16 ≥ (x5.length : Int) then (if ((rd_T52 x13 x17).f1) = 0 then (laws_FnPairs.l0 k x5 x8 x9 x11 x13 x15 (wrap64 (x16 + 1)) (wrap64 (x17 + 1)) x234000 x234001 x234002 x234003) else (some false)) else (laws_FnPairs.l0 k x5 x8 x9 x11 x13 x15 (wrap64 (x16 + 1)) (wrap64 (x17 + 1)) x234000 x234001 x234002 x234003)) else (some false)) else (none)) else (if x16 ≥ (x5.length : Int) then (if ((rd_T52 x13 x17).f1) = 0 then (laws_FnPairs.l0 k x5 x8 x9 x11 x13 x15 (wrap64 (x16 + 1)) (wrap64 (x17 + 1)) x234000 x234001 x234002 x234003) else (some false)) else (laws_FnPairs.l0 k x5 x8 x9 x11 x13 x15 (wrap64 (x16 + 1)) (wrap64 (x17 + 1)) x234000 x234001 x234002 x234003))))) else (none)) else (none)) else ((spec_RatioOf.f k x5).bind fun bt265 => ((spec_A2Pair.f k x234000 x234001 x234002 x234003 bt265.1 bt265.2.1).bind fun bt269 => (if bt265.2.2 = 0 then (if x8 = 0 then (if bt269.2.2 = true then ((spec_A2Same.f k x15 x9).bind fun t273 => (if t273 = true then ((impl_RatioOf.f k x9).bind fun bt274 => (if bt274.2.2 = 0 then (some (bt274.1 == bt269.1 && (bt274.2.1 == bt269.2.1))) else (some false))) else (some false))) else (some false)) else (if x8 = 4 then (if bt269.2.2 = true then (some (x8 == 3)) else (some true)) else (some (x8 == 3)))) else (some false))))
end
def laws_FnPairs.f (k : Nat) (l0 : List Int) (l1 : List Int) : Option (Bool) := (laws_a2Long.f l0 l1).bind fun t225 => (if t225 = true then (some true) else ((spec_A2Terms.f k l0).bind fun t226 => ((laws_a2At.f l1 0 9).bind fun t229 => ((laws_a2At.f l1 1 9).bind fun t230 => ((laws_a2At.f l1 2 5).bind fun t231 => ((laws_a2At.f l1 3 9).bind fun t232 => ((impl_PairTerms.f k (wrap64 (t229 - 4)) (wrap64 (t230 - 4)) (wrap64 (t231 - 2)) (wrap64 (t232 - 4)) t226).bind fun bt234 => ((spec_PairTerms.f k (wrap64 (t229 - 4)) (wrap64 (t230 - 4)) (wrap64 (t231 - 2)) (wrap64 (t232 - 4)) t226).bind fun bt238 => ((impl_PairMoves.f k (wrap64 (t229 - 4)) (wrap64 (t230 - 4)) (wrap64 (t231 - 2)) (wrap64 (t232 - 4)) t226).bind fun bt242 => ((spec_PairMoves.f k (wrap64 (t229 - 4)) (wrap64 (t230 - 4)) (wrap64 (t231 - 2)) (wrap64 (t232 - 4)) t226).bind fun bt246 => (if bt234.2 = bt238.2 then ((spec_A2Same.f k bt234.1 bt238.1).bind fun t250 => (if t250 = true then (if bt242.2 = bt246.2 then (laws_FnPairs.j0 k t226 bt234.2 bt238.1 bt242.1 bt246.1 ((bt242.1.length : Int) != (bt246.1.length : Int)) (wrap64 (t229 - 4)) (wrap64 (t230 - 4)) (wrap64 (t231 - 2)) (wrap64 (t232 - 4))) else (laws_FnPairs.j0 k t226 bt234.2 bt238.1 bt242.1 bt246.1 true (wrap64 (t229 - 4)) (wrap64 (t230 - 4)) (wrap64 (t231 - 2)) (wrap64 (t232 - 4)))) else (laws_FnPairs.j0 k t226 bt234.2 bt238.1 bt242.1 bt246.1 true (wrap64 (t229 - 4)) (wrap64 (t230 - 4)) (wrap64 (t231 - 2)) (wrap64 (t232 - 4))))) else (laws_FnPairs.j0 k t226 bt234.2 bt238.1 bt242.1 bt246.1 true (wrap64 (t229 - 4)) (wrap64 (t230 - 4)) (wrap64 (t231 - 2)) (wrap64 (t232 - 4))))))))))))))
theorem laws_FnPairs.mono_l : ∀ k, (∀ y0 y1 y2 y3 y4 y5 y6 y7 y8 y9, LeO (laws_FnPairs.j0 k y0 y1 y2 y3 y4 y5 y6 y7 y8 y9) (laws_FnPairs.j0 (k + 1) y0 y1 y2 y3 y4 y5 y6 y7 y8 y9)) ∧ (∀ y0 y1 y2 y3 y4 y5 y6 y7 y8 y9 y10 y11, LeO (laws_FnPairs.l0 k y0 y1 y2 y3 y4 y5 y6 y7 y8 y9 y10 y11) (laws_FnPairs.l0 (k + 1) y0 y1 y2 y3 y4 y5 y6 y7 y8 y9 y10 y11))
 | 0 => ⟨fun _ _ _ _ _ _ _ _ _ _ r h => by simp [laws_FnPairs.j0] at h, fun _ _ _ _ _ _ _ _ _ _ _ _ r h => by simp [laws_FnPairs.l0] at h⟩
 | k + 1 => by
  obtain ⟨ih0, ih1⟩ := laws_FnPairs.mono_l k
  refine ⟨?_, ?_⟩
  ·intro y0 y1 y2 y3 y4 y5 y6 y7 y8 y9
   unfold laws_FnPairs.j0
   repeat' first
   | (with_reducible exact ih0 _ _ _ _ _ _ _ _ _ _)
   | (with_reducible exact ih1 _ _ _ _ _ _ _ _ _ _ _ _)
   | (with_reducible exact impl_PairMoves.mono _ _ _ _ _ _)
   | (with_reducible exact impl_PairTerms.mono _ _ _ _ _ _)
   | (with_reducible exact impl_RatioOf.mono _ _)
   | (with_reducible exact spec_A2Pair.mono _ _ _ _ _ _ _)
   | (with_reducible exact spec_A2Same.mono _ _ _)
   | (with_reducible exact spec_A2Terms.mono _ _)
   | (with_reducible exact spec_PairMoves.mono _ _ _ _ _ _)
   | (with_reducible exact spec_PairTerms.mono _ _ _ _ _ _)
   | (with_reducible exact spec_RatioOf.mono _ _)
   | (with_reducible exact LeO.refl _)
   | (with_reducible exact LeO.none _)
   | (with_reducible refine LeO.ite ?_ ?_)
   | (with_reducible refine LeO.bind ?_ (fun _ => ?_))
   | exact ih0 _ _ _ _ _ _ _ _ _ _
   | exact ih1 _ _ _ _ _ _ _ _ _ _ _ _
   | exact impl_PairMoves.mono _ _ _ _ _ _
   | exact impl_PairTerms.mono _ _ _ _ _ _
   | exact impl_RatioOf.mono _ _
   | exact spec_A2Pair.mono _ _ _ _ _ _ _
   | exact spec_A2Same.mono _ _ _
   | exact spec_A2Terms.mono _ _
   | exact spec_PairMoves.mono _ _ _ _ _ _
   | exact spec_PairTerms.mono _ _ _ _ _ _
   | exact spec_RatioOf.mono _ _
   | exact LeO.none _
   | refine LeO.ite ?_ ?_
   | refine LeO.bind ?_ (fun _ => ?_)
  intro y0 y1 y2 y3 y4 y5 y6 y7 y8 y9 y10 y11
  unfold laws_FnPairs.l0
  repeat' first
  | (with_reducible exact ih0 _ _ _ _ _ _ _ _ _ _)
  | (with_reducible exact ih1 _ _ _ _ _ _ _ _ _ _ _ _)
  | (with_reducible exact impl_PairMoves.mono _ _ _ _ _ _)
  | (with_reducible exact impl_PairTerms.mono _ _ _ _ _ _)
  | (with_reducible exact impl_RatioOf.mono _ _)
  | (with_reducible exact spec_A2Pair.mono _ _ _ _ _ _ _)
  | (with_reducible exact spec_A2Same.mono _ _ _)
  | (with_reducible exact spec_A2Terms.mono _ _)
  | (with_reducible exact spec_PairMoves.mono _ _ _ _ _ _)
  | (with_reducible exact spec_PairTerms.mono _ _ _ _ _ _)
  | (with_reducible exact spec_RatioOf.mono _ _)
  | (with_reducible exact LeO.refl _)
  | (with_reducible exact LeO.none _)
  | (with_reducible refine LeO.ite ?_ ?_)
  | (with_reducible refine LeO.bind ?_ (fun _ => ?_))
  | exact ih0 _ _ _ _ _ _ _ _ _ _
  | exact ih1 _ _ _ _ _ _ _ _ _ _ _ _
  | exact impl_PairMoves.mono _ _ _ _ _ _
  | exact impl_PairTerms.mono _ _ _ _ _ _
  | exact impl_RatioOf.mono _ _
  | exact spec_A2Pair.mono _ _ _ _ _ _ _
  | exact spec_A2Same.mono _ _ _
  | exact spec_A2Terms.mono _ _
  | exact spec_PairMoves.mono _ _ _ _ _ _
  | exact spec_PairTerms.mono _ _ _ _ _ _
  | exact spec_RatioOf.mono _ _
  | exact LeO.none _
  | refine LeO.ite ?_ ?_
  | refine LeO.bind ?_ (fun _ => ?_)
theorem laws_FnPairs.mono : ∀ a0 a1 k, LeO (laws_FnPairs.f k a0 a1) (laws_FnPairs.f (k + 1) a0 a1) := by
 intro a0 a1 k
 obtain ⟨ih0, ih1⟩ := laws_FnPairs.mono_l k
 unfold laws_FnPairs.f
 repeat' first
   | (with_reducible exact ih0 _ _ _ _ _ _ _ _ _ _)
   | (with_reducible exact ih1 _ _ _ _ _ _ _ _ _ _ _ _)
   | (with_reducible exact impl_PairMoves.mono _ _ _ _ _ _)
   | (with_reducible exact impl_PairTerms.mono _ _ _ _ _ _)
   | (with_reducible exact impl_RatioOf.mono _ _)
   | (with_reducible exact spec_A2Pair.mono _ _ _ _ _ _ _)
   | (with_reducible exact spec_A2Same.mono _ _ _)
   | (with_reducible exact spec_A2Terms.mono _ _)
   | (with_reducible exact spec_PairMoves.mono _ _ _ _ _ _)
   | (with_reducible exact spec_PairTerms.mono _ _ _ _ _ _)
   | (with_reducible exact spec_RatioOf.mono _ _)
   | (with_reducible exact LeO.refl _)
   | (with_reducible exact LeO.none _)
   | (with_reducible refine LeO.ite ?_ ?_)
   | (with_reducible refine LeO.bind ?_ (fun _ => ?_))
   | exact ih0 _ _ _ _ _ _ _ _ _ _
   | exact ih1 _ _ _ _ _ _ _ _ _ _ _ _
   | exact impl_PairMoves.mono _ _ _ _ _ _
   | exact impl_PairTerms.mono _ _ _ _ _ _
   | exact impl_RatioOf.mono _ _
   | exact spec_A2Pair.mono _ _ _ _ _ _ _
   | exact spec_A2Same.mono _ _ _
   | exact spec_A2Terms.mono _ _
   | exact spec_PairMoves.mono _ _ _ _ _ _
   | exact spec_PairTerms.mono _ _ _ _ _ _
   | exact spec_RatioOf.mono _ _
   | exact LeO.none _
   | refine LeO.ite ?_ ?_
   | refine LeO.bind ?_ (fun _ => ?_)
set_option maxHeartbeats 8000000 in
set_option maxRecDepth 100000 in
theorem laws_FnPairs.calls (k : Nat) (A0 : Option Addr) (c0 : Nat) (l0 : List Int) (A1 : Option Addr) (c1 : Nat) (l1 : List Int) (r : Bool) (w : World) (hr0 : Kd.C (Kd.int .u8) w A0 l0.length l0) (hc0 : l0.length ≤ c0) (hr1 : Kd.C (Kd.int .u8) w A1 l1.length l1) (hc1 : l1.length ≤ c1) (h : laws_FnPairs.f k l0 l1 = some r) :
  Calls Try.prog 7 #[.slice A0 l0.length c0, .slice A1 l1.length c1] w fun e w' => e = .returned (.bool r) ∧ Below w.heap.size w w' := by
 have hu27 := Try.underlying27
 have hu52 := Try.underlying52
 have hu54 := Try.underlying54
 have HR0 := aM7_ hr0
 have HC0 := aM7_ hc0
 clear hr0 hc0
 have HR1 := aM7_ hr1
 have HC1 := aM7_ hc1
 clear hr1 hc1
 have HB := aM7_ (Below.refl w.heap.size w)
 have H : ((laws_a2Long.f l0 l1).bind fun t225 => (if t225 = true then (some true) else ((spec_A2Terms.f k l0).bind fun t226 => ((laws_a2At.f l1 0 9).bind fun t229 => ((laws_a2At.f l1 1 9).bind fun t230 => ((laws_a2At.f l1 2 5).bind fun t231 => ((laws_a2At.f l1 3 9).bind fun t232 => ((impl_PairTerms.f k (wrap64 (t229 - 4)) (wrap64 (t230 - 4)) (wrap64 (t231 - 2)) (wrap64 (t232 - 4)) t226).bind fun bt234 => ((spec_PairTerms.f k (wrap64 (t229 - 4)) (wrap64 (t230 - 4)) (wrap64 (t231 - 2)) (wrap64 (t232 - 4)) t226).bind fun bt238 => ((impl_PairMoves.f k (wrap64 (t229 - 4)) (wrap64 (t230 - 4)) (wrap64 (t231 - 2)) (wrap64 (t232 - 4)) t226).bind fun bt242 => ((spec_PairMoves.f k (wrap64 (t229 - 4)) (wrap64 (t230 - 4)) (wrap64 (t231 - 2)) (wrap64 (t232 - 4)) t226).bind fun bt246 => (if bt234.2 = bt238.2 then ((spec_A2Same.f k bt234.1 bt238.1).bind fun t250 => (if t250 = true then (if bt242.2 = bt246.2 then (laws_FnPairs.j0 k t226 bt234.2 bt238.1 bt242.1 bt246.1 ((bt242.1.length : Int) != (bt246.1.length : Int)) (wrap64 (t229 - 4)) (wrap64 (t230 - 4)) (wrap64 (t231 - 2)) (wrap64 (t232 - 4))) else (laws_FnPairs.j0 k t226 bt234.2 bt238.1 bt242.1 bt246.1 true (wrap64 (t229 - 4)) (wrap64 (t230 - 4)) (wrap64 (t231 - 2)) (wrap64 (t232 - 4)))) else (laws_FnPairs.j0 k t226 bt234.2 bt238.1 bt242.1 bt246.1 true (wrap64 (t229 - 4)) (wrap64 (t230 - 4)) (wrap64 (t231 - 2)) (wrap64 (t232 - 4))))) else (laws_FnPairs.j0 k t226 bt234.2 bt238.1 bt242.1 bt246.1 true (wrap64 (t229 - 4)) (wrap64 (t230 - 4)) (wrap64 (t231 - 2)) (wrap64 (t232 - 4))))))))))))))) = some r := h
 clear h
 replace H := Option.bind_eq_some_iff.mp H
 obtain ⟨t225, A30, H⟩ := H
 replace H : (if t225 = true then (some true) else ((spec_A2Terms.f k l0).bind fun t226 => ((laws_a2At.f l1 0 9).bind fun t229 => ((laws_a2At.f l1 1 9).bind fun t230 => ((laws_a2At.f l1 2 5).bind fun t231 => ((laws_a2At.f l1 3 9).bind fun t232 => ((impl_PairTerms.f k (wrap64 (t229 - 4)) (wrap64 (t230 - 4)) (wrap64 (t231 - 2)) (wrap64 (t232 - 4)) t226).bind fun bt234 => ((spec_PairTerms.f k (wrap64 (t229 - 4)) (wrap64 (t230 - 4)) (wrap64 (t231 - 2)) (wrap64 (t232 - 4)) t226).bind fun bt238 => ((impl_PairMoves.f k (wrap64 (t229 - 4)) (wrap64 (t230 - 4)) (wrap64 (t231 - 2)) (wrap64 (t232 - 4)) t226).bind fun bt242 => ((spec_PairMoves.f k (wrap64 (t229 - 4)) (wrap64 (t230 - 4)) (wrap64 (t231 - 2)) (wrap64 (t232 - 4)) t226).bind fun bt246 => (if bt234.2 = bt238.2 then ((spec_A2Same.f k bt234.1 bt238.1).bind fun t250 => (if t250 = true then (if bt242.2 = bt246.2 then (laws_FnPairs.j0 k t226 bt234.2 bt238.1 bt242.1 bt246.1 ((bt242.1.length : Int) != (bt246.1.length : Int)) (wrap64 (t229 - 4)) (wrap64 (t230 - 4)) (wrap64 (t231 - 2)) (wrap64 (t232 - 4))) else (laws_FnPairs.j0 k t226 bt234.2 bt238.1 bt242.1 bt246.1 true (wrap64 (t229 - 4)) (wrap64 (t230 - 4)) (wrap64 (t231 - 2)) (wrap64 (t232 - 4)))) else (laws_FnPairs.j0 k t226 bt234.2 bt238.1 bt242.1 bt246.1 true (wrap64 (t229 - 4)) (wrap64 (t230 - 4)) (wrap64 (t231 - 2)) (wrap64 (t232 - 4))))) else (laws_FnPairs.j0 k t226 bt234.2 bt238.1 bt242.1 bt246.1 true (wrap64 (t229 - 4)) (wrap64 (t230 - 4)) (wrap64 (t231 - 2)) (wrap64 (t232 - 4)))))))))))))) = some r := H
 have A3 := aM7_ A30
 clear A30
 by_cases c4 : t225 = true
 ·subst c4
  have H1 : (some true) = some r := by rw [if_pos rfl] at H; exact H
  clear H
  have H := H1
  clear H1
  obtain rfl := Option.some.inj H
  go_enter Try.func7, Try.ntmps7
  go_wp2_with (first | (go_at_call 26; (with_reducible refine (laws_a2Long.calls _ _ l0 _ _ l1 true _ ?side1 ?side2 ?side3 ?side4 A3.out).mono ?_); (case side1 => repeat (first | exact HR0.out | (with_reducible refine Kd.C_alloc ?_ _) | (with_reducible refine Kd.C_drewN ?_ _) | (with_reducible refine Kd.C_drew ?_))); (case side2 => exact HC0.out); (case side3 => repeat (first | exact HR1.out | (with_reducible refine Kd.C_alloc ?_ _) | (with_reducible refine Kd.C_drewN ?_ _) | (with_reducible refine Kd.C_drew ?_))); (case side4 => exact HC1.out); rintro e w' ⟨rfl, ⟨nd, rfl⟩⟩; (try first | exact ⟨rfl, _, World.drewN_drewN _ _ _⟩ | exact ⟨rfl, _, Eq.trans (World.drewN_drewN _ _ _) (congrArg (World.drewN _) (Nat.add_assoc _ _ _))⟩)) | go_quiet (first | (go_at_call 26; (with_reducible refine (laws_a2Long.calls _ _ l0 _ _ l1 true _ ?side1 ?side2 ?side3 ?side4 A3.out).mono ?_); (case side1 => repeat (first | exact HR0.out | (with_reducible refine Kd.C_alloc ?_ _) | (with_reducible refine Kd.C_drewN ?_ _) | (with_reducible refine Kd.C_drew ?_))); (case side2 => exact HC0.out); (case side3 => repeat (first | exact HR1.out | (with_reducible refine Kd.C_alloc ?_ _) | (with_reducible refine Kd.C_drewN ?_ _) | (with_reducible refine Kd.C_drew ?_))); (case side4 => exact HC1.out); rintro e w' ⟨rfl, ⟨nd, rfl⟩⟩; (try first | exact ⟨rfl, _, World.drewN_drewN _ _ _⟩ | exact ⟨rfl, _, Eq.trans (World.drewN_drewN _ _ _) (congrArg (World.drewN _) (Nat.add_assoc _ _ _))⟩))))
  go_ret
  exact ⟨by first | rfl | (simp [errW_none, errW_some] <;> rfl) | (simp [*, errW_none, errW_some] <;> rfl), by repeat (first | (with_reducible first | exact HB.out | apply below_alloc | apply pw_below_drewN | apply below_drew1) | exact HB.out)⟩
 replace c4 := Bool.eq_false_iff.mpr c4
 subst c4
 have H1 : ((spec_A2Terms.f k l0).bind fun t226 => ((laws_a2At.f l1 0 9).bind fun t229 => ((laws_a2At.f l1 1 9).bind fun t230 => ((laws_a2At.f l1 2 5).bind fun t231 => ((laws_a2At.f l1 3 9).bind fun t232 => ((impl_PairTerms.f k (wrap64 (t229 - 4)) (wrap64 (t230 - 4)) (wrap64 (t231 - 2)) (wrap64 (t232 - 4)) t226).bind fun bt234 => ((spec_PairTerms.f k (wrap64 (t229 - 4)) (wrap64 (t230 - 4)) (wrap64 (t231 - 2)) (wrap64 (t232 - 4)) t226).bind fun bt238 => ((impl_PairMoves.f k (wrap64 (t229 - 4)) (wrap64 (t230 - 4)) (wrap64 (t231 - 2)) (wrap64 (t232 - 4)) t226).bind fun bt242 => ((spec_PairMoves.f k (wrap64 (t229 - 4)) (wrap64 (t230 - 4)) (wrap64 (t231 - 2)) (wrap64 (t232 - 4)) t226).bind fun bt246 => (if bt234.2 = bt238.2 then ((spec_A2Same.f k bt234.1 bt238.1).bind fun t250 => (if t250 = true then (if bt242.2 = bt246.2 then (laws_FnPairs.j0 k t226 bt234.2 bt238.1 bt242.1 bt246.1 ((bt242.1.length : Int) != (bt246.1.length : Int)) (wrap64 (t229 - 4)) (wrap64 (t230 - 4)) (wrap64 (t231 - 2)) (wrap64 (t232 - 4))) else (laws_FnPairs.j0 k t226 bt234.2 bt238.1 bt242.1 bt246.1 true (wrap64 (t229 - 4)) (wrap64 (t230 - 4)) (wrap64 (t231 - 2)) (wrap64 (t232 - 4)))) else (laws_FnPairs.j0 k t226 bt234.2 bt238.1 bt242.1 bt246.1 true (wrap64 (t229 - 4)) (wrap64 (t230 - 4)) (wrap64 (t231 - 2)) (wrap64 (t232 - 4))))) else (laws_FnPairs.j0 k t226 bt234.2 bt238.1 bt242.1 bt246.1 true (wrap64 (t229 - 4)) (wrap64 (t230 - 4)) (wrap64 (t231 - 2)) (wrap64 (t232 - 4))))))))))))) = some r := by rw [if_neg (show ¬ (false = true) by decide)] at H; exact H
 clear H
 have H := H1
 clear H1
 replace H := Option.bind_eq_some_iff.mp H
 obtain ⟨t226, A50, H⟩ := H
 replace H : ((laws_a2At.f l1 0 9).bind fun t229 => ((laws_a2At.f l1 1 9).bind fun t230 => ((laws_a2At.f l1 2 5).bind fun t231 => ((laws_a2At.f l1 3 9).bind fun t232 => ((impl_PairTerms.f k (wrap64 (t229 - 4)) (wrap64 (t230 - 4)) (wrap64 (t231 - 2)) (wrap64 (t232 - 4)) t226).bind fun bt234 => ((spec_PairTerms.f k (wrap64 (t229 - 4)) (wrap64 (t230 - 4)) (wrap64 (t231 - 2)) (wrap64 (t232 - 4)) t226).bind fun bt238 => ((impl_PairMoves.f k (wrap64 (t229 - 4)) (wrap64 (t230 - 4)) (wrap64 (t231 - 2)) (wrap64 (t232 - 4)) t226).bind fun bt242 => ((spec_PairMoves.f k (wrap64 (t229 - 4)) (wrap64 (t230 - 4)) (wrap64 (t231 - 2)) (wrap64 (t232 - 4)) t226).bind fun bt246 => (if bt234.2 = bt238.2 then ((spec_A2Same.f k bt234.1 bt238.1).bind fun t250 => (if t250 = true then (if bt242.2 = bt246.2 then (laws_FnPairs.j0 k t226 bt234.2 bt238.1 bt242.1 bt246.1 ((bt242.1.length : Int) != (bt246.1.length : Int)) (wrap64 (t229 - 4)) (wrap64 (t230 - 4)) (wrap64 (t231 - 2)) (wrap64 (t232 - 4))) else (laws_FnPairs.j0 k t226 bt234.2 bt238.1 bt242.1 bt246.1 true (wrap64 (t229 - 4)) (wrap64 (t230 - 4)) (wrap64 (t231 - 2)) (wrap64 (t232 - 4)))) else (laws_FnPairs.j0 k t226 bt234.2 bt238.1 bt242.1 bt246.1 true (wrap64 (t229 - 4)) (wrap64 (t230 - 4)) (wrap64 (t231 - 2)) (wrap64 (t232 - 4))))) else (laws_FnPairs.j0 k t226 bt234.2 bt238.1 bt242.1 bt246.1 true (wrap64 (t229 - 4)) (wrap64 (t230 - 4)) (wrap64 (t231 - 2)) (wrap64 (t232 - 4)))))))))))) = some r := H
 have A5 := aM7_ A50
 clear A50
 replace H := Option.bind_eq_some_iff.mp H
 obtain ⟨t229, A60, H⟩ := H
 replace H : ((laws_a2At.f l1 1 9).bind fun t230 => ((laws_a2At.f l1 2 5).bind fun t231 => ((laws_a2At.f l1 3 9).bind fun t232 => ((impl_PairTerms.f k (wrap64 (t229 - 4)) (wrap64 (t230 - 4)) (wrap64 (t231 - 2)) (wrap64 (t232 - 4)) t226).bind fun bt234 => ((spec_PairTerms.f k (wrap64 (t229 - 4)) (wrap64 (t230 - 4)) (wrap64 (t231 - 2)) (wrap64 (t232 - 4)) t226).bind fun bt238 => ((impl_PairMoves.f k (wrap64 (t229 - 4)) (wrap64 (t230 - 4)) (wrap64 (t231 - 2)) (wrap64 (t232 - 4)) t226).bind fun bt242 => ((spec_PairMoves.f k (wrap64 (t229 - 4)) (wrap64 (t230 - 4)) (wrap64 (t231 - 2)) (wrap64 (t232 - 4)) t226).bind fun bt246 => (if bt234.2 = bt238.2 then ((spec_A2Same.f k bt234.1 bt238.1).bind fun t250 => (if t250 = true then (if bt242.2 = bt246.2 then (laws_FnPairs.j0 k t226 bt234.2 bt238.1 bt242.1 bt246.1 ((bt242.1.length : Int) != (bt246.1.length : Int)) (wrap64 (t229 - 4)) (wrap64 (t230 - 4)) (wrap64 (t231 - 2)) (wrap64 (t232 - 4))) else (laws_FnPairs.j0 k t226 bt234.2 bt238.1 bt242.1 bt246.1 true (wrap64 (t229 - 4)) (wrap64 (t230 - 4)) (wrap64 (t231 - 2)) (wrap64 (t232 - 4)))) else (laws_FnPairs.j0 k t226 bt234.2 bt238.1 bt242.1 bt246.1 true (wrap64 (t229 - 4)) (wrap64 (t230 - 4)) (wrap64 (t231 - 2)) (wrap64 (t232 - 4))))) else (laws_FnPairs.j0 k t226 bt234.2 bt238.1 bt242.1 bt246.1 true (wrap64 (t229 - 4)) (wrap64 (t230 - 4)) (wrap64 (t231 - 2)) (wrap64 (t232 - 4))))))))))) = some r := H
 have A6 := aM7_ A60
 clear A60
 replace H := Option.bind_eq_some_iff.mp H
 obtain ⟨t230, A70, H⟩ := H
 replace H : ((laws_a2At.f l1 2 5).bind fun t231 => ((laws_a2At.f l1 3 9).bind fun t232 => ((impl_PairTerms.f k (wrap64 (t229 - 4)) (wrap64 (t230 - 4)) (wrap64 (t231 - 2)) (wrap64 (t232 - 4)) t226).bind fun bt234 => ((spec_PairTerms.f k (wrap64 (t229 - 4)) (wrap64 (t230 - 4)) (wrap64 (t231 - 2)) (wrap64 (t232 - 4)) t226).bind fun bt238 => ((impl_PairMoves.f k (wrap64 (t229 - 4)) (wrap64 (t230 - 4)) (wrap64 (t231 - 2)) (wrap64 (t232 - 4)) t226).bind fun bt242 => ((spec_PairMoves.f k (wrap64 (t229 - 4)) (wrap64 (t230 - 4)) (wrap64 (t231 - 2)) (wrap64 (t232 - 4)) t226).bind fun bt246 => (if bt234.2 = bt238.2 then ((spec_A2Same.f k bt234.1 bt238.1).bind fun t250 => (if t250 = true then (if bt242.2 = bt246.2 then (laws_FnPairs.j0 k t226 bt234.2 bt238.1 bt242.1 bt246.1 ((bt242.1.length : Int) != (bt246.1.length : Int)) (wrap64 (t229 - 4)) (wrap64 (t230 - 4)) (wrap64 (t231 - 2)) (wrap64 (t232 - 4))) else (laws_FnPairs.j0 k t226 bt234.2 bt238.1 bt242.1 bt246.1 true (wrap64 (t229 - 4)) (wrap64 (t230 - 4)) (wrap64 (t231 - 2)) (wrap64 (t232 - 4)))) else (laws_FnPairs.j0 k t226 bt234.2 bt238.1 bt242.1 bt246.1 true (wrap64 (t229 - 4)) (wrap64 (t230 - 4)) (wrap64 (t231 - 2)) (wrap64 (t232 - 4))))) else (laws_FnPairs.j0 k t226 bt234.2 bt238.1 bt242.1 bt246.1 true (wrap64 (t229 - 4)) (wrap64 (t230 - 4)) (wrap64 (t231 - 2)) (wrap64 (t232 - 4)))))))))) = some r := H
 have A7 := aM7_ A70
 clear A70
 replace H := Option.bind_eq_some_iff.mp H
 obtain ⟨t231, A80, H⟩ := H
 replace H : ((laws_a2At.f l1 3 9).bind fun t232 => ((impl_PairTerms.f k (wrap64 (t229 - 4)) (wrap64 (t230 - 4)) (wrap64 (t231 - 2)) (wrap64 (t232 - 4)) t226).bind fun bt234 => ((spec_PairTerms.f k (wrap64 (t229 - 4)) (wrap64 (t230 - 4)) (wrap64 (t231 - 2)) (wrap64 (t232 - 4)) t226).bind fun bt238 => ((impl_PairMoves.f k (wrap64 (t229 - 4)) (wrap64 (t230 - 4)) (wrap64 (t231 - 2)) (wrap64 (t232 - 4)) t226).bind fun bt242 => ((spec_PairMoves.f k (wrap64 (t229 - 4)) (wrap64 (t230 - 4)) (wrap64 (t231 - 2)) (wrap64 (t232 - 4)) t226).bind fun bt246 => (if bt234.2 = bt238.2 then ((spec_A2Same.f k bt234.1 bt238.1).bind fun t250 => (if t250 = true then (if bt242.2 = bt246.2 then (laws_FnPairs.j0 k t226 bt234.2 bt238.1 bt242.1 bt246.1 ((bt242.1.length : Int) != (bt246.1.length : Int)) (wrap64 (t229 - 4)) (wrap64 (t230 - 4)) (wrap64 (t231 - 2)) (wrap64 (t232 - 4))) else (laws_FnPairs.j0 k t226 bt234.2 bt238.1 bt242.1 bt246.1 true (wrap64 (t229 - 4)) (wrap64 (t230 - 4)) (wrap64 (t231 - 2)) (wrap64 (t232 - 4)))) else (laws_FnPairs.j0 k t226 bt234.2 bt238.1 bt242.1 bt246.1 true (wrap64 (t229 - 4)) (wrap64 (t230 - 4)) (wrap64 (t231 - 2)) (wrap64 (t232 - 4))))) else (laws_FnPairs.j0 k t226 bt234.2 bt238.1 bt242.1 bt246.1 true (wrap64 (t229 - 4)) (wrap64 (t230 - 4)) (wrap64 (t231 - 2)) (wrap64 (t232 - 4))))))))) = some r := H
 have A8 := aM7_ A80
 clear A80
 replace H := Option.bind_eq_some_iff.mp H
 obtain ⟨t232, A90, H⟩ := H
 replace H : ((impl_PairTerms.f k (wrap64 (t229 - 4)) (wrap64 (t230 - 4)) (wrap64 (t231 - 2)) (wrap64 (t232 - 4)) t226).bind fun bt234 => ((spec_PairTerms.f k (wrap64 (t229 - 4)) (wrap64 (t230 - 4)) (wrap64 (t231 - 2)) (wrap64 (t232 - 4)) t226).bind fun bt238 => ((impl_PairMoves.f k (wrap64 (t229 - 4)) (wrap64 (t230 - 4)) (wrap64 (t231 - 2)) (wrap64 (t232 - 4)) t226).bind fun bt242 => ((spec_PairMoves.f k (wrap64 (t229 - 4)) (wrap64 (t230 - 4)) (wrap64 (t231 - 2)) (wrap64 (t232 - 4)) t226).bind fun bt246 => (if bt234.2 = bt238.2 then ((spec_A2Same.f k bt234.1 bt238.1).bind fun t250 => (if t250 = true then (if bt242.2 = bt246.2 then (laws_FnPairs.j0 k t226 bt234.2 bt238.1 bt242.1 bt246.1 ((bt242.1.length : Int) != (bt246.1.length : Int)) (wrap64 (t229 - 4)) (wrap64 (t230 - 4)) (wrap64 (t231 - 2)) (wrap64 (t232 - 4))) else (laws_FnPairs.j0 k t226 bt234.2 bt238.1 bt242.1 bt246.1 true (wrap64 (t229 - 4)) (wrap64 (t230 - 4)) (wrap64 (t231 - 2)) (wrap64 (t232 - 4)))) else (laws_FnPairs.j0 k t226 bt234.2 bt238.1 bt242.1 bt246.1 true (wrap64 (t229 - 4)) (wrap64 (t230 - 4)) (wrap64 (t231 - 2)) (wrap64 (t232 - 4))))) else (laws_FnPairs.j0 k t226 bt234.2 bt238.1 bt242.1 bt246.1 true (wrap64 (t229 - 4)) (wrap64 (t230 - 4)) (wrap64 (t231 - 2)) (wrap64 (t232 - 4)))))))) = some r := H
 have A9 := aM7_ A90
 clear A90
 replace H := Option.bind_eq_some_iff.mp H
 obtain ⟨⟨t234, t237⟩, A100, H⟩ := H
 replace H : ((spec_PairTerms.f k (wrap64 (t229 - 4)) (wrap64 (t230 - 4)) (wrap64 (t231 - 2)) (wrap64 (t232 - 4)) t226).bind fun bt238 => ((impl_PairMoves.f k (wrap64 (t229 - 4)) (wrap64 (t230 - 4)) (wrap64 (t231 - 2)) (wrap64 (t232 - 4)) t226).bind fun bt242 => ((spec_PairMoves.f k (wrap64 (t229 - 4)) (wrap64 (t230 - 4)) (wrap64 (t231 - 2)) (wrap64 (t232 - 4)) t226).bind fun bt246 => (if t237 = bt238.2 then ((spec_A2Same.f k t234 bt238.1).bind fun t250 => (if t250 = true then (if bt242.2 = bt246.2 then (laws_FnPairs.j0 k t226 t237 bt238.1 bt242.1 bt246.1 ((bt242.1.length : Int) != (bt246.1.length : Int)) (wrap64 (t229 - 4)) (wrap64 (t230 - 4)) (wrap64 (t231 - 2)) (wrap64 (t232 - 4))) else (laws_FnPairs.j0 k t226 t237 bt238.1 bt242.1 bt246.1 true (wrap64 (t229 - 4)) (wrap64 (t230 - 4)) (wrap64 (t231 - 2)) (wrap64 (t232 - 4)))) else (laws_FnPairs.j0 k t226 t237 bt238.1 bt242.1 bt246.1 true (wrap64 (t229 - 4)) (wrap64 (t230 - 4)) (wrap64 (t231 - 2)) (wrap64 (t232 - 4))))) else (laws_FnPairs.j0 k t226 t237 bt238.1 bt242.1 bt246.1 true (wrap64 (t229 - 4)) (wrap64 (t230 - 4)) (wrap64 (t231 - 2)) (wrap64 (t232 - 4))))))) = some r := H
 have A10 := aM7_ A100
 clear A100
 replace H := Option.bind_eq_some_iff.mp H
 obtain ⟨⟨t238, t241⟩, A110, H⟩ := H
 replace H : ((impl_PairMoves.f k (wrap64 (t229 - 4)) (wrap64 (t230 - 4)) (wrap64 (t231 - 2)) (wrap64 (t232 - 4)) t226).bind fun bt242 => ((spec_PairMoves.f k (wrap64 (t229 - 4)) (wrap64 (t230 - 4)) (wrap64 (t231 - 2)) (wrap64 (t232 - 4)) t226).bind fun bt246 => (if t237 = t241 then ((spec_A2Same.f k t234 t238).bind fun t250 => (if t250 = true then (if bt242.2 = bt246.2 then (laws_FnPairs.j0 k t226 t237 t238 bt242.1 bt246.1 ((bt242.1.length : Int) != (bt246.1.length : Int)) (wrap64 (t229 - 4)) (wrap64 (t230 - 4)) (wrap64 (t231 - 2)) (wrap64 (t232 - 4))) else (laws_FnPairs.j0 k t226 t237 t238 bt242.1 bt246.1 true (wrap64 (t229 - 4)) (wrap64 (t230 - 4)) (wrap64 (t231 - 2)) (wrap64 (t232 - 4)))) else (laws_FnPairs.j0 k t226 t237 t238 bt242.1 bt246.1 true (wrap64 (t229 - 4)) (wrap64 (t230 - 4)) (wrap64 (t231 - 2)) (wrap64 (t232 - 4))))) else (laws_FnPairs.j0 k t226 t237 t238 bt242.1 bt246.1 true (wrap64 (t229 - 4)) (wrap64 (t230 - 4)) (wrap64 (t231 - 2)) (wrap64 (t232 - 4)))))) = some r := H
 have A11 := aM7_ A110
 clear A110
 replace H := Option.bind_eq_some_iff.mp H
 obtain ⟨⟨t242, t245⟩, A120, H⟩ := H
 replace H : ((spec_PairMoves.f k (wrap64 (t229 - 4)) (wrap64 (t230 - 4)) (wrap64 (t231 - 2)) (wrap64 (t232 - 4)) t226).bind fun bt246 => (if t237 = t241 then ((spec_A2Same.f k t234 t238).bind fun t250 => (if t250 = true then (if t245 = bt246.2 then (laws_FnPairs.j0 k t226 t237 t238 t242 bt246.1 ((t242.length : Int) != (bt246.1.length : Int)) (wrap64 (t229 - 4)) (wrap64 (t230 - 4)) (wrap64 (t231 - 2)) (wrap64 (t232 - 4))) else (laws_FnPairs.j0 k t226 t237 t238 t242 bt246.1 true (wrap64 (t229 - 4)) (wrap64 (t230 - 4)) (wrap64 (t231 - 2)) (wrap64 (t232 - 4)))) else (laws_FnPairs.j0 k t226 t237 t238 t242 bt246.1 true (wrap64 (t229 - 4)) (wrap64 (t230 - 4)) (wrap64 (t231 - 2)) (wrap64 (t232 - 4))))) else (laws_FnPairs.j0 k t226 t237 t238 t242 bt246.1 true (wrap64 (t229 - 4)) (wrap64 (t230 - 4)) (wrap64 (t231 - 2)) (wrap64 (t232 - 4))))) = some r := H
 have A12 := aM7_ A120
 clear A120
 replace H := Option.bind_eq_some_iff.mp H
 obtain ⟨⟨t246, t249⟩, A130, H⟩ := H
 replace H : (if t237 = t241 then ((spec_A2Same.f k t234 t238).bind fun t250 => (if t250 = true then (if t245 = t249 then (laws_FnPairs.j0 k t226 t237 t238 t242 t246 ((t242.length : Int) != (t246.length : Int)) (wrap64 (t229 - 4)) (wrap64 (t230 - 4)) (wrap64 (t231 - 2)) (wrap64 (t232 - 4))) else (laws_FnPairs.j0 k t226 t237 t238 t242 t246 true (wrap64 (t229 - 4)) (wrap64 (t230 - 4)) (wrap64 (t231 - 2)) (wrap64 (t232 - 4)))) else (laws_FnPairs.j0 k t226 t237 t238 t242 t246 true (wrap64 (t229 - 4)) (wrap64 (t230 - 4)) (wrap64 (t231 - 2)) (wrap64 (t232 - 4))))) else (laws_FnPairs.j0 k t226 t237 t238 t242 t246 true (wrap64 (t229 - 4)) (wrap64 (t230 - 4)) (wrap64 (t231 - 2)) (wrap64 (t232 - 4)))) = some r := H
 have A13 := aM7_ A130
 clear A130
 have HC14 := aM7_ H
 clear H
 go_enter Try.func7, Try.ntmps7
 go_upto_region 9 with (first | (go_at_call 26; (with_reducible refine (laws_a2Long.calls _ _ l0 _ _ l1 false _ ?side1 ?side2 ?side3 ?side4 A3.out).mono ?_); (case side1 => repeat (first | exact HR0.out | (with_reducible refine Kd.C_alloc ?_ _) | (with_reducible refine Kd.C_drewN ?_ _) | (with_reducible refine Kd.C_drew ?_))); (case side2 => exact HC0.out); (case side3 => repeat (first | exact HR1.out | (with_reducible refine Kd.C_alloc ?_ _) | (with_reducible refine Kd.C_drewN ?_ _) | (with_reducible refine Kd.C_drew ?_))); (case side4 => exact HC1.out); rintro e w' ⟨rfl, ⟨nd, rfl⟩⟩; (try first | exact ⟨rfl, _, World.drewN_drewN _ _ _⟩ | exact ⟨rfl, _, Eq.trans (World.drewN_drewN _ _ _) (congrArg (World.drewN _) (Nat.add_assoc _ _ _))⟩)) | (go_at_call 27; (with_reducible refine (spec_A2Terms.calls k _ _ l0 t226 _ ?side1 ?side2 A5.out).mono ?_); (case side1 => repeat (first | exact HR0.out | (with_reducible refine Kd.C_alloc ?_ _) | (with_reducible refine Kd.C_drewN ?_ _) | (with_reducible refine Kd.C_drew ?_))); (case side2 => exact HC0.out); rintro e w15 ⟨v227, rfl, ho0, hb⟩; have n0_ := aM7_ (Kd.R_lower ho0 (below_size q7x10_)); have n1_ := aM7_ (bT7_ q7x10_ hb); clear HB; have HO228 := n0_; have HB := n1_; clear n0_ n1_; (try clear hb); (try clear hb2); (try clear hk); (try clear hi); (try clear ho0)) | (go_at_call 28; (with_reducible refine (laws_a2At.calls _ _ l1 0 9 t229 _ ?side1 ?side2 A6.out).mono ?_); (case side1 => repeat (first | exact (Kd.C_below HR1.out HB.out) | (with_reducible refine Kd.C_alloc ?_ _) | (with_reducible refine Kd.C_drewN ?_ _) | (with_reducible refine Kd.C_drew ?_))); (case side2 => exact HC1.out); rintro e w' ⟨rfl, ⟨nd, rfl⟩⟩; (try first | exact ⟨rfl, _, World.drewN_drewN _ _ _⟩ | exact ⟨rfl, _, Eq.trans (World.drewN_drewN _ _ _) (congrArg (World.drewN _) (Nat.add_assoc _ _ _))⟩)) | (go_at_call 28; (with_reducible refine (laws_a2At.calls _ _ l1 1 9 t230 _ ?side1 ?side2 A7.out).mono ?_); (case side1 => repeat (first | exact (Kd.C_below HR1.out q7x10_) | (with_reducible refine Kd.C_alloc ?_ _) | (with_reducible refine Kd.C_drewN ?_ _) | (with_reducible refine Kd.C_drew ?_))); (case side2 => exact HC1.out); rintro e w' ⟨rfl, ⟨nd, rfl⟩⟩; (try first | exact ⟨rfl, _, World.drewN_drewN _ _ _⟩ | exact ⟨rfl, _, Eq.trans (World.drewN_drewN _ _ _) (congrArg (World.drewN _) (Nat.add_assoc _ _ _))⟩)) | (go_at_call 28; (with_reducible refine (laws_a2At.calls _ _ l1 2 5 t231 _ ?side1 ?side2 A8.out).mono ?_); (case side1 => repeat (first | exact (Kd.C_below HR1.out q7x10_) | (with_reducible refine Kd.C_alloc ?_ _) | (with_reducible refine Kd.C_drewN ?_ _) | (with_reducible refine Kd.C_drew ?_))); (case side2 => exact HC1.out); rintro e w' ⟨rfl, ⟨nd, rfl⟩⟩; (try first | exact ⟨rfl, _, World.drewN_drewN _ _ _⟩ | exact ⟨rfl, _, Eq.trans (World.drewN_drewN _ _ _) (congrArg (World.drewN _) (Nat.add_assoc _ _ _))⟩)) | (go_at_call 28; (with_reducible refine (laws_a2At.calls _ _ l1 3 9 t232 _ ?side1 ?side2 A9.out).mono ?_); (case side1 => repeat (first | exact (Kd.C_below HR1.out q7x10_) | (with_reducible refine Kd.C_alloc ?_ _) | (with_reducible refine Kd.C_drewN ?_ _) | (with_reducible refine Kd.C_drew ?_))); (case side2 => exact HC1.out); rintro e w' ⟨rfl, ⟨nd, rfl⟩⟩; (try first | exact ⟨rfl, _, World.drewN_drewN _ _ _⟩ | exact ⟨rfl, _, Eq.trans (World.drewN_drewN _ _ _) (congrArg (World.drewN _) (Nat.add_assoc _ _ _))⟩)) | ((with_reducible refine gate_dst (N := 6) rfl ?_); (try (refine gate_guard (by rfl) ?_; dsimp only)); refine box_event ?hg (N := 6) ?hd (cs := #[.int .i64 0, .int .i64 0, .int .i64 0, .int .i64 0]) (t := 27) ?hr ?_; (case hd => rfl); (case hg => rfl); (case hr => first | (go_simp; done) | (go_simp; rfl)); intro gb233 hg w16 hbox hb; have n0_ := aM7_ (rB7_ q7x26_ hb); have n1_ := aM7_ (bT7_ q7x10_ hb); have n2_ := aM7_ (hbox); have n3_ := aM7_ ((q7x42_ : w.heap.size ≤ gb233)); have n4_ := aM7_ ((q7x42_ : w.heap.size ≤ gb233)); clear HO228; clear HB; have HO228 := n0_; have HB := n1_; have BK233 := n2_; have GW233 := n3_; have GE233 := n4_; clear n0_ n1_ n2_ n3_ n4_; clear hb hbox hg; have hcz17_0 : w16.cell? ⟨gb233, 0, none⟩ = some (.int .i64 0) := (kC7_ BK233.out 0).trans rfl; have hcz17_1 : w16.cell? ⟨gb233, 1, none⟩ = some (.int .i64 0) := (kC7_ BK233.out 1).trans rfl; have hcz17_2 : w16.cell? ⟨gb233, 2, none⟩ = some (.int .i64 0) := (kC7_ BK233.out 2).trans rfl; have hcz17_3 : w16.cell? ⟨gb233, 3, none⟩ = some (.int .i64 0) := (kC7_ BK233.out 3).trans rfl; have hfz17_0 := blk_frozen BK233.out 0; have hfz17_1 := blk_frozen BK233.out 1; have hfz17_2 := blk_frozen BK233.out 2; have hfz17_3 := blk_frozen BK233.out 3; obtain ⟨Ao18, co18, eo18⟩ := Kd.R_slice HO228.out; subst eo18) | (go_at_call 12; (with_reducible refine (impl_PairTerms.calls k (wrap64 (t229 - 4)) (wrap64 (t230 - 4)) (wrap64 (t231 - 2)) (wrap64 (t232 - 4)) _ _ t226 t234 t237 _ ?side1 ?side2 A10.out).mono ?_); (case side1 => refine (Kd.R_reads' (e := 2) (base := w.heap.size) (ok := fun k_ => True) (n := t226.length) (c := co18) ?_).2.2; exact q7x4_); (case side2 => exact (Kd.R_reads' HO228.out).2.1); rintro e w19 ⟨v235, rfl, ho0, hb⟩; have n0_ := aM7_ (Kd.R_elder' q7x4_ (Kd.R_base ho0) hb); have n1_ := aM7_ (Kd.R_lower (Kd.R_new' ho0 (Kd.R_lt q7x4_)) (below_size q7x1_)); have n2_ := aM7_ (kB7_ (g := gb233) (o := .cells #[.int .i64 (wrap64 (t229 - 4)), .int .i64 (wrap64 (t230 - 4)), .int .i64 (wrap64 (t231 - 2)), .int .i64 (wrap64 (t232 - 4))] 27 (0, 0)) q7x24_ hb); have n3_ := aM7_ (bT7_ q7x1_ hb); clear HO228; clear BK233; clear HB; have HO228 := n0_; have HO236 := n1_; have BK233 := n2_; have HB := n3_; clear n0_ n1_ n2_ n3_; (try clear hb); (try clear hb2); (try clear hk); (try clear hi); (try clear ho0); have hcz20_0 : w19.cell? ⟨gb233, 0, none⟩ = some (.int .i64 (wrap64 (t229 - 4))) := (kC7_ BK233.out 0).trans rfl; have hcz20_1 : w19.cell? ⟨gb233, 1, none⟩ = some (.int .i64 (wrap64 (t230 - 4))) := (kC7_ BK233.out 1).trans rfl; have hcz20_2 : w19.cell? ⟨gb233, 2, none⟩ = some (.int .i64 (wrap64 (t231 - 2))) := (kC7_ BK233.out 2).trans rfl; have hcz20_3 : w19.cell? ⟨gb233, 3, none⟩ = some (.int .i64 (wrap64 (t232 - 4))) := (kC7_ BK233.out 3).trans rfl; have hfz20_0 := blk_frozen BK233.out 0; have hfz20_1 := blk_frozen BK233.out 1; have hfz20_2 := blk_frozen BK233.out 2; have hfz20_3 := blk_frozen BK233.out 3) | (go_at_call 9; (with_reducible refine (spec_PairTerms.calls k (wrap64 (t229 - 4)) (wrap64 (t230 - 4)) (wrap64 (t231 - 2)) (wrap64 (t232 - 4)) _ _ t226 t238 t241 _ ?side1 ?side2 A11.out).mono ?_); (case side1 => repeat (first | exact (Kd.R_reads' HO228.out).2.2 | (with_reducible refine Kd.C_alloc ?_ _) | (with_reducible refine Kd.C_drewN ?_ _) | (with_reducible refine Kd.C_drew ?_))); (case side2 => exact (Kd.R_reads' HO228.out).2.1); rintro e w21 ⟨v239, rfl, ho0, hb⟩; have n0_ := aM7_ (Kd.R_elder' q7x26_ (Kd.R_base ho0) hb); have n1_ := aM7_ (Kd.R_elder' q7x27_ (Kd.R_base ho0) hb); have n2_ := aM7_ (Kd.R_lower (Kd.R_new' (Kd.R_new' ho0 (Kd.R_lt q7x26_)) (Kd.R_lt q7x27_)) (below_size q7x1_)); have n3_ := aM7_ (kB7_ (g := gb233) (o := .cells #[.int .i64 (wrap64 (t229 - 4)), .int .i64 (wrap64 (t230 - 4)), .int .i64 (wrap64 (t231 - 2)), .int .i64 (wrap64 (t232 - 4))] 27 (0, 0)) q7x2_ hb); have n4_ := aM7_ (bT7_ q7x1_ hb); clear HO228; clear HO236; clear BK233; clear HB; have HO228 := n0_; have HO236 := n1_; have HO240 := n2_; have BK233 := n3_; have HB := n4_; clear n0_ n1_ n2_ n3_ n4_; (try clear hb); (try clear hb2); (try clear hk); (try clear hi); (try clear ho0); have hcz22_0 : w21.cell? ⟨gb233, 0, none⟩ = some (.int .i64 (wrap64 (t229 - 4))) := (kC7_ BK233.out 0).trans rfl; have hcz22_1 : w21.cell? ⟨gb233, 1, none⟩ = some (.int .i64 (wrap64 (t230 - 4))) := (kC7_ BK233.out 1).trans rfl; have hcz22_2 : w21.cell? ⟨gb233, 2, none⟩ = some (.int .i64 (wrap64 (t231 - 2))) := (kC7_ BK233.out 2).trans rfl; have hcz22_3 : w21.cell? ⟨gb233, 3, none⟩ = some (.int .i64 (wrap64 (t232 - 4))) := (kC7_ BK233.out 3).trans rfl; have hfz22_0 := blk_frozen BK233.out 0; have hfz22_1 := blk_frozen BK233.out 1; have hfz22_2 := blk_frozen BK233.out 2; have hfz22_3 := blk_frozen BK233.out 3) | (go_at_call 17; (with_reducible refine (impl_PairMoves.calls k (wrap64 (t229 - 4)) (wrap64 (t230 - 4)) (wrap64 (t231 - 2)) (wrap64 (t232 - 4)) _ _ t226 t242 t245 _ ?side1 ?side2 A12.out).mono ?_); (case side1 => repeat (first | exact (Kd.R_reads' HO228.out).2.2 | (with_reducible refine Kd.C_alloc ?_ _) | (with_reducible refine Kd.C_drewN ?_ _) | (with_reducible refine Kd.C_drew ?_))); (case side2 => exact (Kd.R_reads' HO228.out).2.1); rintro e w23 ⟨v243, rfl, ho0, hb⟩; have n0_ := aM7_ (rB7_ q7x26_ hb); have n1_ := aM7_ (rB7_ q7x27_ hb); have n2_ := aM7_ (rB7_ q7x34_ hb); have n3_ := aM7_ (Kd.R_lower ho0 (below_size q7x1_)); have n4_ := aM7_ (kB7_ (g := gb233) (o := .cells #[.int .i64 (wrap64 (t229 - 4)), .int .i64 (wrap64 (t230 - 4)), .int .i64 (wrap64 (t231 - 2)), .int .i64 (wrap64 (t232 - 4))] 27 (0, 0)) q7x2_ hb); have n5_ := aM7_ (bT7_ q7x1_ hb); clear HO228; clear HO236; clear HO240; clear BK233; clear HB; have HO228 := n0_; have HO236 := n1_; have HO240 := n2_; have HO244 := n3_; have BK233 := n4_; have HB := n5_; clear n0_ n1_ n2_ n3_ n4_ n5_; (try clear hb); (try clear hb2); (try clear hk); (try clear hi); (try clear ho0); have hcz24_0 : w23.cell? ⟨gb233, 0, none⟩ = some (.int .i64 (wrap64 (t229 - 4))) := (kC7_ BK233.out 0).trans rfl; have hcz24_1 : w23.cell? ⟨gb233, 1, none⟩ = some (.int .i64 (wrap64 (t230 - 4))) := (kC7_ BK233.out 1).trans rfl; have hcz24_2 : w23.cell? ⟨gb233, 2, none⟩ = some (.int .i64 (wrap64 (t231 - 2))) := (kC7_ BK233.out 2).trans rfl; have hcz24_3 : w23.cell? ⟨gb233, 3, none⟩ = some (.int .i64 (wrap64 (t232 - 4))) := (kC7_ BK233.out 3).trans rfl; have hfz24_0 := blk_frozen BK233.out 0; have hfz24_1 := blk_frozen BK233.out 1; have hfz24_2 := blk_frozen BK233.out 2; have hfz24_3 := blk_frozen BK233.out 3) | (go_at_call 16; (with_reducible refine (spec_PairMoves.calls k (wrap64 (t229 - 4)) (wrap64 (t230 - 4)) (wrap64 (t231 - 2)) (wrap64 (t232 - 4)) _ _ t226 t246 t249 _ ?side1 ?side2 A13.out).mono ?_); (case side1 => repeat (first | exact (Kd.R_reads' HO228.out).2.2 | (with_reducible refine Kd.C_alloc ?_ _) | (with_reducible refine Kd.C_drewN ?_ _) | (with_reducible refine Kd.C_drew ?_))); (case side2 => exact (Kd.R_reads' HO228.out).2.1); rintro e w25 ⟨v247, rfl, ho0, hb⟩; have n0_ := aM7_ (rB7_ q7x26_ hb); have n1_ := aM7_ (rB7_ q7x27_ hb); have n2_ := aM7_ (rB7_ q7x34_ hb); have n3_ := aM7_ (Kd.R_elder' q7x35_ (Kd.R_base ho0) hb); have n4_ := aM7_ (Kd.R_lower (Kd.R_new' ho0 (Kd.R_lt q7x35_)) (below_size q7x1_)); have n5_ := aM7_ (kB7_ (g := gb233) (o := .cells #[.int .i64 (wrap64 (t229 - 4)), .int .i64 (wrap64 (t230 - 4)), .int .i64 (wrap64 (t231 - 2)), .int .i64 (wrap64 (t232 - 4))] 27 (0, 0)) q7x2_ hb); have n6_ := aM7_ (bT7_ q7x1_ hb); clear HO228; clear HO236; clear HO240; clear HO244; clear BK233; clear HB; have HO228 := n0_; have HO236 := n1_; have HO240 := n2_; have HO244 := n3_; have HO248 := n4_; have BK233 := n5_; have HB := n6_; clear n0_ n1_ n2_ n3_ n4_ n5_ n6_; (try clear hb); (try clear hb2); (try clear hk); (try clear hi); (try clear ho0)))
 repeat (go_quiet (first | (go_at_call 26; (with_reducible refine (laws_a2Long.calls _ _ l0 _ _ l1 false _ ?side1 ?side2 ?side3 ?side4 A3.out).mono ?_); (case side1 => repeat (first | exact HR0.out | (with_reducible refine Kd.C_alloc ?_ _) | (with_reducible refine Kd.C_drewN ?_ _) | (with_reducible refine Kd.C_drew ?_))); (case side2 => exact HC0.out); (case side3 => repeat (first | exact HR1.out | (with_reducible refine Kd.C_alloc ?_ _) | (with_reducible refine Kd.C_drewN ?_ _) | (with_reducible refine Kd.C_drew ?_))); (case side4 => exact HC1.out); rintro e w' ⟨rfl, ⟨nd, rfl⟩⟩; (try first | exact ⟨rfl, _, World.drewN_drewN _ _ _⟩ | exact ⟨rfl, _, Eq.trans (World.drewN_drewN _ _ _) (congrArg (World.drewN _) (Nat.add_assoc _ _ _))⟩)) | (go_at_call 27; (with_reducible refine (spec_A2Terms.calls k _ _ l0 t226 _ ?side1 ?side2 A5.out).mono ?_); (case side1 => repeat (first | exact HR0.out | (with_reducible refine Kd.C_alloc ?_ _) | (with_reducible refine Kd.C_drewN ?_ _) | (with_reducible refine Kd.C_drew ?_))); (case side2 => exact HC0.out); rintro e w15 ⟨v227, rfl, ho0, hb⟩; have n0_ := aM7_ (Kd.R_lower ho0 (below_size q7x10_)); have n1_ := aM7_ (bT7_ q7x10_ hb); clear HB; have HO228 := n0_; have HB := n1_; clear n0_ n1_; (try clear hb); (try clear hb2); (try clear hk); (try clear hi); (try clear ho0)) | (go_at_call 28; (with_reducible refine (laws_a2At.calls _ _ l1 0 9 t229 _ ?side1 ?side2 A6.out).mono ?_); (case side1 => repeat (first | exact (Kd.C_below HR1.out HB.out) | (with_reducible refine Kd.C_alloc ?_ _) | (with_reducible refine Kd.C_drewN ?_ _) | (with_reducible refine Kd.C_drew ?_))); (case side2 => exact HC1.out); rintro e w' ⟨rfl, ⟨nd, rfl⟩⟩; (try first | exact ⟨rfl, _, World.drewN_drewN _ _ _⟩ | exact ⟨rfl, _, Eq.trans (World.drewN_drewN _ _ _) (congrArg (World.drewN _) (Nat.add_assoc _ _ _))⟩)) | (go_at_call 28; (with_reducible refine (laws_a2At.calls _ _ l1 1 9 t230 _ ?side1 ?side2 A7.out).mono ?_); (case side1 => repeat (first | exact (Kd.C_below HR1.out q7x10_) | (with_reducible refine Kd.C_alloc ?_ _) | (with_reducible refine Kd.C_drewN ?_ _) | (with_reducible refine Kd.C_drew ?_))); (case side2 => exact HC1.out); rintro e w' ⟨rfl, ⟨nd, rfl⟩⟩; (try first | exact ⟨rfl, _, World.drewN_drewN _ _ _⟩ | exact ⟨rfl, _, Eq.trans (World.drewN_drewN _ _ _) (congrArg (World.drewN _) (Nat.add_assoc _ _ _))⟩)) | (go_at_call 28; (with_reducible refine (laws_a2At.calls _ _ l1 2 5 t231 _ ?side1 ?side2 A8.out).mono ?_); (case side1 => repeat (first | exact (Kd.C_below HR1.out q7x10_) | (with_reducible refine Kd.C_alloc ?_ _) | (with_reducible refine Kd.C_drewN ?_ _) | (with_reducible refine Kd.C_drew ?_))); (case side2 => exact HC1.out); rintro e w' ⟨rfl, ⟨nd, rfl⟩⟩; (try first | exact ⟨rfl, _, World.drewN_drewN _ _ _⟩ | exact ⟨rfl, _, Eq.trans (World.drewN_drewN _ _ _) (congrArg (World.drewN _) (Nat.add_assoc _ _ _))⟩)) | (go_at_call 28; (with_reducible refine (laws_a2At.calls _ _ l1 3 9 t232 _ ?side1 ?side2 A9.out).mono ?_); (case side1 => repeat (first | exact (Kd.C_below HR1.out q7x10_) | (with_reducible refine Kd.C_alloc ?_ _) | (with_reducible refine Kd.C_drewN ?_ _) | (with_reducible refine Kd.C_drew ?_))); (case side2 => exact HC1.out); rintro e w' ⟨rfl, ⟨nd, rfl⟩⟩; (try first | exact ⟨rfl, _, World.drewN_drewN _ _ _⟩ | exact ⟨rfl, _, Eq.trans (World.drewN_drewN _ _ _) (congrArg (World.drewN _) (Nat.add_assoc _ _ _))⟩)) | ((with_reducible refine gate_dst (N := 6) rfl ?_); (try (refine gate_guard (by rfl) ?_; dsimp only)); refine box_event ?hg (N := 6) ?hd (cs := #[.int .i64 0, .int .i64 0, .int .i64 0, .int .i64 0]) (t := 27) ?hr ?_; (case hd => rfl); (case hg => rfl); (case hr => first | (go_simp; done) | (go_simp; rfl)); intro gb233 hg w16 hbox hb; have n0_ := aM7_ (rB7_ q7x26_ hb); have n1_ := aM7_ (bT7_ q7x10_ hb); have n2_ := aM7_ (hbox); have n3_ := aM7_ ((q7x42_ : w.heap.size ≤ gb233)); have n4_ := aM7_ ((q7x42_ : w.heap.size ≤ gb233)); clear HO228; clear HB; have HO228 := n0_; have HB := n1_; have BK233 := n2_; have GW233 := n3_; have GE233 := n4_; clear n0_ n1_ n2_ n3_ n4_; clear hb hbox hg; have hcz17_0 : w16.cell? ⟨gb233, 0, none⟩ = some (.int .i64 0) := (kC7_ BK233.out 0).trans rfl; have hcz17_1 : w16.cell? ⟨gb233, 1, none⟩ = some (.int .i64 0) := (kC7_ BK233.out 1).trans rfl; have hcz17_2 : w16.cell? ⟨gb233, 2, none⟩ = some (.int .i64 0) := (kC7_ BK233.out 2).trans rfl; have hcz17_3 : w16.cell? ⟨gb233, 3, none⟩ = some (.int .i64 0) := (kC7_ BK233.out 3).trans rfl; have hfz17_0 := blk_frozen BK233.out 0; have hfz17_1 := blk_frozen BK233.out 1; have hfz17_2 := blk_frozen BK233.out 2; have hfz17_3 := blk_frozen BK233.out 3; obtain ⟨Ao18, co18, eo18⟩ := Kd.R_slice HO228.out; subst eo18) | (go_at_call 12; (with_reducible refine (impl_PairTerms.calls k (wrap64 (t229 - 4)) (wrap64 (t230 - 4)) (wrap64 (t231 - 2)) (wrap64 (t232 - 4)) _ _ t226 t234 t237 _ ?side1 ?side2 A10.out).mono ?_); (case side1 => refine (Kd.R_reads' (e := 2) (base := w.heap.size) (ok := fun k_ => True) (n := t226.length) (c := co18) ?_).2.2; exact q7x4_); (case side2 => exact (Kd.R_reads' HO228.out).2.1); rintro e w19 ⟨v235, rfl, ho0, hb⟩; have n0_ := aM7_ (Kd.R_elder' q7x4_ (Kd.R_base ho0) hb); have n1_ := aM7_ (Kd.R_lower (Kd.R_new' ho0 (Kd.R_lt q7x4_)) (below_size q7x1_)); have n2_ := aM7_ (kB7_ (g := gb233) (o := .cells #[.int .i64 (wrap64 (t229 - 4)), .int .i64 (wrap64 (t230 - 4)), .int .i64 (wrap64 (t231 - 2)), .int .i64 (wrap64 (t232 - 4))] 27 (0, 0)) q7x24_ hb); have n3_ := aM7_ (bT7_ q7x1_ hb); clear HO228; clear BK233; clear HB; have HO228 := n0_; have HO236 := n1_; have BK233 := n2_; have HB := n3_; clear n0_ n1_ n2_ n3_; (try clear hb); (try clear hb2); (try clear hk); (try clear hi); (try clear ho0); have hcz20_0 : w19.cell? ⟨gb233, 0, none⟩ = some (.int .i64 (wrap64 (t229 - 4))) := (kC7_ BK233.out 0).trans rfl; have hcz20_1 : w19.cell? ⟨gb233, 1, none⟩ = some (.int .i64 (wrap64 (t230 - 4))) := (kC7_ BK233.out 1).trans rfl; have hcz20_2 : w19.cell? ⟨gb233, 2, none⟩ = some (.int .i64 (wrap64 (t231 - 2))) := (kC7_ BK233.out 2).trans rfl; have hcz20_3 : w19.cell? ⟨gb233, 3, none⟩ = some (.int .i64 (wrap64 (t232 - 4))) := (kC7_ BK233.out 3).trans rfl; have hfz20_0 := blk_frozen BK233.out 0; have hfz20_1 := blk_frozen BK233.out 1; have hfz20_2 := blk_frozen BK233.out 2; have hfz20_3 := blk_frozen BK233.out 3) | (go_at_call 9; (with_reducible refine (spec_PairTerms.calls k (wrap64 (t229 - 4)) (wrap64 (t230 - 4)) (wrap64 (t231 - 2)) (wrap64 (t232 - 4)) _ _ t226 t238 t241 _ ?side1 ?side2 A11.out).mono ?_); (case side1 => repeat (first | exact (Kd.R_reads' HO228.out).2.2 | (with_reducible refine Kd.C_alloc ?_ _) | (with_reducible refine Kd.C_drewN ?_ _) | (with_reducible refine Kd.C_drew ?_))); (case side2 => exact (Kd.R_reads' HO228.out).2.1); rintro e w21 ⟨v239, rfl, ho0, hb⟩; have n0_ := aM7_ (Kd.R_elder' q7x26_ (Kd.R_base ho0) hb); have n1_ := aM7_ (Kd.R_elder' q7x27_ (Kd.R_base ho0) hb); have n2_ := aM7_ (Kd.R_lower (Kd.R_new' (Kd.R_new' ho0 (Kd.R_lt q7x26_)) (Kd.R_lt q7x27_)) (below_size q7x1_)); have n3_ := aM7_ (kB7_ (g := gb233) (o := .cells #[.int .i64 (wrap64 (t229 - 4)), .int .i64 (wrap64 (t230 - 4)), .int .i64 (wrap64 (t231 - 2)), .int .i64 (wrap64 (t232 - 4))] 27 (0, 0)) q7x2_ hb); have n4_ := aM7_ (bT7_ q7x1_ hb); clear HO228; clear HO236; clear BK233; clear HB; have HO228 := n0_; have HO236 := n1_; have HO240 := n2_; have BK233 := n3_; have HB := n4_; clear n0_ n1_ n2_ n3_ n4_; (try clear hb); (try clear hb2); (try clear hk); (try clear hi); (try clear ho0); have hcz22_0 : w21.cell? ⟨gb233, 0, none⟩ = some (.int .i64 (wrap64 (t229 - 4))) := (kC7_ BK233.out 0).trans rfl; have hcz22_1 : w21.cell? ⟨gb233, 1, none⟩ = some (.int .i64 (wrap64 (t230 - 4))) := (kC7_ BK233.out 1).trans rfl; have hcz22_2 : w21.cell? ⟨gb233, 2, none⟩ = some (.int .i64 (wrap64 (t231 - 2))) := (kC7_ BK233.out 2).trans rfl; have hcz22_3 : w21.cell? ⟨gb233, 3, none⟩ = some (.int .i64 (wrap64 (t232 - 4))) := (kC7_ BK233.out 3).trans rfl; have hfz22_0 := blk_frozen BK233.out 0; have hfz22_1 := blk_frozen BK233.out 1; have hfz22_2 := blk_frozen BK233.out 2; have hfz22_3 := blk_frozen BK233.out 3) | (go_at_call 17; (with_reducible refine (impl_PairMoves.calls k (wrap64 (t229 - 4)) (wrap64 (t230 - 4)) (wrap64 (t231 - 2)) (wrap64 (t232 - 4)) _ _ t226 t242 t245 _ ?side1 ?side2 A12.out).mono ?_); (case side1 => repeat (first | exact (Kd.R_reads' HO228.out).2.2 | (with_reducible refine Kd.C_alloc ?_ _) | (with_reducible refine Kd.C_drewN ?_ _) | (with_reducible refine Kd.C_drew ?_))); (case side2 => exact (Kd.R_reads' HO228.out).2.1); rintro e w23 ⟨v243, rfl, ho0, hb⟩; have n0_ := aM7_ (rB7_ q7x26_ hb); have n1_ := aM7_ (rB7_ q7x27_ hb); have n2_ := aM7_ (rB7_ q7x34_ hb); have n3_ := aM7_ (Kd.R_lower ho0 (below_size q7x1_)); have n4_ := aM7_ (kB7_ (g := gb233) (o := .cells #[.int .i64 (wrap64 (t229 - 4)), .int .i64 (wrap64 (t230 - 4)), .int .i64 (wrap64 (t231 - 2)), .int .i64 (wrap64 (t232 - 4))] 27 (0, 0)) q7x2_ hb); have n5_ := aM7_ (bT7_ q7x1_ hb); clear HO228; clear HO236; clear HO240; clear BK233; clear HB; have HO228 := n0_; have HO236 := n1_; have HO240 := n2_; have HO244 := n3_; have BK233 := n4_; have HB := n5_; clear n0_ n1_ n2_ n3_ n4_ n5_; (try clear hb); (try clear hb2); (try clear hk); (try clear hi); (try clear ho0); have hcz24_0 : w23.cell? ⟨gb233, 0, none⟩ = some (.int .i64 (wrap64 (t229 - 4))) := (kC7_ BK233.out 0).trans rfl; have hcz24_1 : w23.cell? ⟨gb233, 1, none⟩ = some (.int .i64 (wrap64 (t230 - 4))) := (kC7_ BK233.out 1).trans rfl; have hcz24_2 : w23.cell? ⟨gb233, 2, none⟩ = some (.int .i64 (wrap64 (t231 - 2))) := (kC7_ BK233.out 2).trans rfl; have hcz24_3 : w23.cell? ⟨gb233, 3, none⟩ = some (.int .i64 (wrap64 (t232 - 4))) := (kC7_ BK233.out 3).trans rfl; have hfz24_0 := blk_frozen BK233.out 0; have hfz24_1 := blk_frozen BK233.out 1; have hfz24_2 := blk_frozen BK233.out 2; have hfz24_3 := blk_frozen BK233.out 3) | (go_at_call 16; (with_reducible refine (spec_PairMoves.calls k (wrap64 (t229 - 4)) (wrap64 (t230 - 4)) (wrap64 (t231 - 2)) (wrap64 (t232 - 4)) _ _ t226 t246 t249 _ ?side1 ?side2 A13.out).mono ?_); (case side1 => repeat (first | exact (Kd.R_reads' HO228.out).2.2 | (with_reducible refine Kd.C_alloc ?_ _) | (with_reducible refine Kd.C_drewN ?_ _) | (with_reducible refine Kd.C_drew ?_))); (case side2 => exact (Kd.R_reads' HO228.out).2.1); rintro e w25 ⟨v247, rfl, ho0, hb⟩; have n0_ := aM7_ (rB7_ q7x26_ hb); have n1_ := aM7_ (rB7_ q7x27_ hb); have n2_ := aM7_ (rB7_ q7x34_ hb); have n3_ := aM7_ (Kd.R_elder' q7x35_ (Kd.R_base ho0) hb); have n4_ := aM7_ (Kd.R_lower (Kd.R_new' ho0 (Kd.R_lt q7x35_)) (below_size q7x1_)); have n5_ := aM7_ (kB7_ (g := gb233) (o := .cells #[.int .i64 (wrap64 (t229 - 4)), .int .i64 (wrap64 (t230 - 4)), .int .i64 (wrap64 (t231 - 2)), .int .i64 (wrap64 (t232 - 4))] 27 (0, 0)) q7x2_ hb); have n6_ := aM7_ (bT7_ q7x1_ hb); clear HO228; clear HO236; clear HO240; clear HO244; clear BK233; clear HB; have HO228 := n0_; have HO236 := n1_; have HO240 := n2_; have HO244 := n3_; have HO248 := n4_; have BK233 := n5_; have HB := n6_; clear n0_ n1_ n2_ n3_ n4_ n5_ n6_; (try clear hb); (try clear hb2); (try clear hk); (try clear hi); (try clear ho0))); go_upto_region 9 with (first | (go_at_call 26; (with_reducible refine (laws_a2Long.calls _ _ l0 _ _ l1 false _ ?side1 ?side2 ?side3 ?side4 A3.out).mono ?_); (case side1 => repeat (first | exact HR0.out | (with_reducible refine Kd.C_alloc ?_ _) | (with_reducible refine Kd.C_drewN ?_ _) | (with_reducible refine Kd.C_drew ?_))); (case side2 => exact HC0.out); (case side3 => repeat (first | exact HR1.out | (with_reducible refine Kd.C_alloc ?_ _) | (with_reducible refine Kd.C_drewN ?_ _) | (with_reducible refine Kd.C_drew ?_))); (case side4 => exact HC1.out); rintro e w' ⟨rfl, ⟨nd, rfl⟩⟩; (try first | exact ⟨rfl, _, World.drewN_drewN _ _ _⟩ | exact ⟨rfl, _, Eq.trans (World.drewN_drewN _ _ _) (congrArg (World.drewN _) (Nat.add_assoc _ _ _))⟩)) | (go_at_call 27; (with_reducible refine (spec_A2Terms.calls k _ _ l0 t226 _ ?side1 ?side2 A5.out).mono ?_); (case side1 => repeat (first | exact HR0.out | (with_reducible refine Kd.C_alloc ?_ _) | (with_reducible refine Kd.C_drewN ?_ _) | (with_reducible refine Kd.C_drew ?_))); (case side2 => exact HC0.out); rintro e w15 ⟨v227, rfl, ho0, hb⟩; have n0_ := aM7_ (Kd.R_lower ho0 (below_size q7x10_)); have n1_ := aM7_ (bT7_ q7x10_ hb); clear HB; have HO228 := n0_; have HB := n1_; clear n0_ n1_; (try clear hb); (try clear hb2); (try clear hk); (try clear hi); (try clear ho0)) | (go_at_call 28; (with_reducible refine (laws_a2At.calls _ _ l1 0 9 t229 _ ?side1 ?side2 A6.out).mono ?_); (case side1 => repeat (first | exact (Kd.C_below HR1.out HB.out) | (with_reducible refine Kd.C_alloc ?_ _) | (with_reducible refine Kd.C_drewN ?_ _) | (with_reducible refine Kd.C_drew ?_))); (case side2 => exact HC1.out); rintro e w' ⟨rfl, ⟨nd, rfl⟩⟩; (try first | exact ⟨rfl, _, World.drewN_drewN _ _ _⟩ | exact ⟨rfl, _, Eq.trans (World.drewN_drewN _ _ _) (congrArg (World.drewN _) (Nat.add_assoc _ _ _))⟩)) | (go_at_call 28; (with_reducible refine (laws_a2At.calls _ _ l1 1 9 t230 _ ?side1 ?side2 A7.out).mono ?_); (case side1 => repeat (first | exact (Kd.C_below HR1.out q7x10_) | (with_reducible refine Kd.C_alloc ?_ _) | (with_reducible refine Kd.C_drewN ?_ _) | (with_reducible refine Kd.C_drew ?_))); (case side2 => exact HC1.out); rintro e w' ⟨rfl, ⟨nd, rfl⟩⟩; (try first | exact ⟨rfl, _, World.drewN_drewN _ _ _⟩ | exact ⟨rfl, _, Eq.trans (World.drewN_drewN _ _ _) (congrArg (World.drewN _) (Nat.add_assoc _ _ _))⟩)) | (go_at_call 28; (with_reducible refine (laws_a2At.calls _ _ l1 2 5 t231 _ ?side1 ?side2 A8.out).mono ?_); (case side1 => repeat (first | exact (Kd.C_below HR1.out q7x10_) | (with_reducible refine Kd.C_alloc ?_ _) | (with_reducible refine Kd.C_drewN ?_ _) | (with_reducible refine Kd.C_drew ?_))); (case side2 => exact HC1.out); rintro e w' ⟨rfl, ⟨nd, rfl⟩⟩; (try first | exact ⟨rfl, _, World.drewN_drewN _ _ _⟩ | exact ⟨rfl, _, Eq.trans (World.drewN_drewN _ _ _) (congrArg (World.drewN _) (Nat.add_assoc _ _ _))⟩)) | (go_at_call 28; (with_reducible refine (laws_a2At.calls _ _ l1 3 9 t232 _ ?side1 ?side2 A9.out).mono ?_); (case side1 => repeat (first | exact (Kd.C_below HR1.out q7x10_) | (with_reducible refine Kd.C_alloc ?_ _) | (with_reducible refine Kd.C_drewN ?_ _) | (with_reducible refine Kd.C_drew ?_))); (case side2 => exact HC1.out); rintro e w' ⟨rfl, ⟨nd, rfl⟩⟩; (try first | exact ⟨rfl, _, World.drewN_drewN _ _ _⟩ | exact ⟨rfl, _, Eq.trans (World.drewN_drewN _ _ _) (congrArg (World.drewN _) (Nat.add_assoc _ _ _))⟩)) | ((with_reducible refine gate_dst (N := 6) rfl ?_); (try (refine gate_guard (by rfl) ?_; dsimp only)); refine box_event ?hg (N := 6) ?hd (cs := #[.int .i64 0, .int .i64 0, .int .i64 0, .int .i64 0]) (t := 27) ?hr ?_; (case hd => rfl); (case hg => rfl); (case hr => first | (go_simp; done) | (go_simp; rfl)); intro gb233 hg w16 hbox hb; have n0_ := aM7_ (rB7_ q7x26_ hb); have n1_ := aM7_ (bT7_ q7x10_ hb); have n2_ := aM7_ (hbox); have n3_ := aM7_ ((q7x42_ : w.heap.size ≤ gb233)); have n4_ := aM7_ ((q7x42_ : w.heap.size ≤ gb233)); clear HO228; clear HB; have HO228 := n0_; have HB := n1_; have BK233 := n2_; have GW233 := n3_; have GE233 := n4_; clear n0_ n1_ n2_ n3_ n4_; clear hb hbox hg; have hcz17_0 : w16.cell? ⟨gb233, 0, none⟩ = some (.int .i64 0) := (kC7_ BK233.out 0).trans rfl; have hcz17_1 : w16.cell? ⟨gb233, 1, none⟩ = some (.int .i64 0) := (kC7_ BK233.out 1).trans rfl; have hcz17_2 : w16.cell? ⟨gb233, 2, none⟩ = some (.int .i64 0) := (kC7_ BK233.out 2).trans rfl; have hcz17_3 : w16.cell? ⟨gb233, 3, none⟩ = some (.int .i64 0) := (kC7_ BK233.out 3).trans rfl; have hfz17_0 := blk_frozen BK233.out 0; have hfz17_1 := blk_frozen BK233.out 1; have hfz17_2 := blk_frozen BK233.out 2; have hfz17_3 := blk_frozen BK233.out 3; obtain ⟨Ao18, co18, eo18⟩ := Kd.R_slice HO228.out; subst eo18) | (go_at_call 12; (with_reducible refine (impl_PairTerms.calls k (wrap64 (t229 - 4)) (wrap64 (t230 - 4)) (wrap64 (t231 - 2)) (wrap64 (t232 - 4)) _ _ t226 t234 t237 _ ?side1 ?side2 A10.out).mono ?_); (case side1 => refine (Kd.R_reads' (e := 2) (base := w.heap.size) (ok := fun k_ => True) (n := t226.length) (c := co18) ?_).2.2; exact q7x4_); (case side2 => exact (Kd.R_reads' HO228.out).2.1); rintro e w19 ⟨v235, rfl, ho0, hb⟩; have n0_ := aM7_ (Kd.R_elder' q7x4_ (Kd.R_base ho0) hb); have n1_ := aM7_ (Kd.R_lower (Kd.R_new' ho0 (Kd.R_lt q7x4_)) (below_size q7x1_)); have n2_ := aM7_ (kB7_ (g := gb233) (o := .cells #[.int .i64 (wrap64 (t229 - 4)), .int .i64 (wrap64 (t230 - 4)), .int .i64 (wrap64 (t231 - 2)), .int .i64 (wrap64 (t232 - 4))] 27 (0, 0)) q7x24_ hb); have n3_ := aM7_ (bT7_ q7x1_ hb); clear HO228; clear BK233; clear HB; have HO228 := n0_; have HO236 := n1_; have BK233 := n2_; have HB := n3_; clear n0_ n1_ n2_ n3_; (try clear hb); (try clear hb2); (try clear hk); (try clear hi); (try clear ho0); have hcz20_0 : w19.cell? ⟨gb233, 0, none⟩ = some (.int .i64 (wrap64 (t229 - 4))) := (kC7_ BK233.out 0).trans rfl; have hcz20_1 : w19.cell? ⟨gb233, 1, none⟩ = some (.int .i64 (wrap64 (t230 - 4))) := (kC7_ BK233.out 1).trans rfl; have hcz20_2 : w19.cell? ⟨gb233, 2, none⟩ = some (.int .i64 (wrap64 (t231 - 2))) := (kC7_ BK233.out 2).trans rfl; have hcz20_3 : w19.cell? ⟨gb233, 3, none⟩ = some (.int .i64 (wrap64 (t232 - 4))) := (kC7_ BK233.out 3).trans rfl; have hfz20_0 := blk_frozen BK233.out 0; have hfz20_1 := blk_frozen BK233.out 1; have hfz20_2 := blk_frozen BK233.out 2; have hfz20_3 := blk_frozen BK233.out 3) | (go_at_call 9; (with_reducible refine (spec_PairTerms.calls k (wrap64 (t229 - 4)) (wrap64 (t230 - 4)) (wrap64 (t231 - 2)) (wrap64 (t232 - 4)) _ _ t226 t238 t241 _ ?side1 ?side2 A11.out).mono ?_); (case side1 => repeat (first | exact (Kd.R_reads' HO228.out).2.2 | (with_reducible refine Kd.C_alloc ?_ _) | (with_reducible refine Kd.C_drewN ?_ _) | (with_reducible refine Kd.C_drew ?_))); (case side2 => exact (Kd.R_reads' HO228.out).2.1); rintro e w21 ⟨v239, rfl, ho0, hb⟩; have n0_ := aM7_ (Kd.R_elder' q7x26_ (Kd.R_base ho0) hb); have n1_ := aM7_ (Kd.R_elder' q7x27_ (Kd.R_base ho0) hb); have n2_ := aM7_ (Kd.R_lower (Kd.R_new' (Kd.R_new' ho0 (Kd.R_lt q7x26_)) (Kd.R_lt q7x27_)) (below_size q7x1_)); have n3_ := aM7_ (kB7_ (g := gb233) (o := .cells #[.int .i64 (wrap64 (t229 - 4)), .int .i64 (wrap64 (t230 - 4)), .int .i64 (wrap64 (t231 - 2)), .int .i64 (wrap64 (t232 - 4))] 27 (0, 0)) q7x2_ hb); have n4_ := aM7_ (bT7_ q7x1_ hb); clear HO228; clear HO236; clear BK233; clear HB; have HO228 := n0_; have HO236 := n1_; have HO240 := n2_; have BK233 := n3_; have HB := n4_; clear n0_ n1_ n2_ n3_ n4_; (try clear hb); (try clear hb2); (try clear hk); (try clear hi); (try clear ho0); have hcz22_0 : w21.cell? ⟨gb233, 0, none⟩ = some (.int .i64 (wrap64 (t229 - 4))) := (kC7_ BK233.out 0).trans rfl; have hcz22_1 : w21.cell? ⟨gb233, 1, none⟩ = some (.int .i64 (wrap64 (t230 - 4))) := (kC7_ BK233.out 1).trans rfl; have hcz22_2 : w21.cell? ⟨gb233, 2, none⟩ = some (.int .i64 (wrap64 (t231 - 2))) := (kC7_ BK233.out 2).trans rfl; have hcz22_3 : w21.cell? ⟨gb233, 3, none⟩ = some (.int .i64 (wrap64 (t232 - 4))) := (kC7_ BK233.out 3).trans rfl; have hfz22_0 := blk_frozen BK233.out 0; have hfz22_1 := blk_frozen BK233.out 1; have hfz22_2 := blk_frozen BK233.out 2; have hfz22_3 := blk_frozen BK233.out 3) | (go_at_call 17; (with_reducible refine (impl_PairMoves.calls k (wrap64 (t229 - 4)) (wrap64 (t230 - 4)) (wrap64 (t231 - 2)) (wrap64 (t232 - 4)) _ _ t226 t242 t245 _ ?side1 ?side2 A12.out).mono ?_); (case side1 => repeat (first | exact (Kd.R_reads' HO228.out).2.2 | (with_reducible refine Kd.C_alloc ?_ _) | (with_reducible refine Kd.C_drewN ?_ _) | (with_reducible refine Kd.C_drew ?_))); (case side2 => exact (Kd.R_reads' HO228.out).2.1); rintro e w23 ⟨v243, rfl, ho0, hb⟩; have n0_ := aM7_ (rB7_ q7x26_ hb); have n1_ := aM7_ (rB7_ q7x27_ hb); have n2_ := aM7_ (rB7_ q7x34_ hb); have n3_ := aM7_ (Kd.R_lower ho0 (below_size q7x1_)); have n4_ := aM7_ (kB7_ (g := gb233) (o := .cells #[.int .i64 (wrap64 (t229 - 4)), .int .i64 (wrap64 (t230 - 4)), .int .i64 (wrap64 (t231 - 2)), .int .i64 (wrap64 (t232 - 4))] 27 (0, 0)) q7x2_ hb); have n5_ := aM7_ (bT7_ q7x1_ hb); clear HO228; clear HO236; clear HO240; clear BK233; clear HB; have HO228 := n0_; have HO236 := n1_; have HO240 := n2_; have HO244 := n3_; have BK233 := n4_; have HB := n5_; clear n0_ n1_ n2_ n3_ n4_ n5_; (try clear hb); (try clear hb2); (try clear hk); (try clear hi); (try clear ho0); have hcz24_0 : w23.cell? ⟨gb233, 0, none⟩ = some (.int .i64 (wrap64 (t229 - 4))) := (kC7_ BK233.out 0).trans rfl; have hcz24_1 : w23.cell? ⟨gb233, 1, none⟩ = some (.int .i64 (wrap64 (t230 - 4))) := (kC7_ BK233.out 1).trans rfl; have hcz24_2 : w23.cell? ⟨gb233, 2, none⟩ = some (.int .i64 (wrap64 (t231 - 2))) := (kC7_ BK233.out 2).trans rfl; have hcz24_3 : w23.cell? ⟨gb233, 3, none⟩ = some (.int .i64 (wrap64 (t232 - 4))) := (kC7_ BK233.out 3).trans rfl; have hfz24_0 := blk_frozen BK233.out 0; have hfz24_1 := blk_frozen BK233.out 1; have hfz24_2 := blk_frozen BK233.out 2; have hfz24_3 := blk_frozen BK233.out 3) | (go_at_call 16; (with_reducible refine (spec_PairMoves.calls k (wrap64 (t229 - 4)) (wrap64 (t230 - 4)) (wrap64 (t231 - 2)) (wrap64 (t232 - 4)) _ _ t226 t246 t249 _ ?side1 ?side2 A13.out).mono ?_); (case side1 => repeat (first | exact (Kd.R_reads' HO228.out).2.2 | (with_reducible refine Kd.C_alloc ?_ _) | (with_reducible refine Kd.C_drewN ?_ _) | (with_reducible refine Kd.C_drew ?_))); (case side2 => exact (Kd.R_reads' HO228.out).2.1); rintro e w25 ⟨v247, rfl, ho0, hb⟩; have n0_ := aM7_ (rB7_ q7x26_ hb); have n1_ := aM7_ (rB7_ q7x27_ hb); have n2_ := aM7_ (rB7_ q7x34_ hb); have n3_ := aM7_ (Kd.R_elder' q7x35_ (Kd.R_base ho0) hb); have n4_ := aM7_ (Kd.R_lower (Kd.R_new' ho0 (Kd.R_lt q7x35_)) (below_size q7x1_)); have n5_ := aM7_ (kB7_ (g := gb233) (o := .cells #[.int .i64 (wrap64 (t229 - 4)), .int .i64 (wrap64 (t230 - 4)), .int .i64 (wrap64 (t231 - 2)), .int .i64 (wrap64 (t232 - 4))] 27 (0, 0)) q7x2_ hb); have n6_ := aM7_ (bT7_ q7x1_ hb); clear HO228; clear HO236; clear HO240; clear HO244; clear BK233; clear HB; have HO228 := n0_; have HO236 := n1_; have HO240 := n2_; have HO244 := n3_; have HO248 := n4_; have BK233 := n5_; have HB := n6_; clear n0_ n1_ n2_ n3_ n4_ n5_ n6_; (try clear hb); (try clear hb2); (try clear hk); (try clear hi); (try clear ho0))))
 (try simp only [Act.put, List.setIfInBounds_toArray, List.set_cons_zero, List.set_cons_succ])
 go_cut [86] (fun v86 wc => ∃ (kq : Nat) (x86_13 : Bool), v86 = .bool x86_13 ∧ Aside0 (laws_FnPairs.j0 kq t226 t237 t238 t242 t246 x86_13 (wrap64 (t229 - 4)) (wrap64 (t230 - 4)) (wrap64 (t231 - 2)) (wrap64 (t232 - 4)) = some r) ∧ Aside0 (kq ≤ k) ∧ Aside0 (Kd.R (Kd.int .i64) 2 wc w.heap.size (fun k_ => some k_ ≠ (v239 : Value).ownBlock) (.slice Ao18 t226.length co18) t226) ∧ Aside0 (Kd.R (Kd.int .i64) 2 wc w.heap.size (fun k_ => some k_ ≠ ((.slice Ao18 t226.length co18) : Value).ownBlock) v239 t238) ∧ Aside0 (Kd.R k52 52 wc w.heap.size (fun k_ => some k_ ≠ (v247 : Value).ownBlock) v243 t242) ∧ Aside0 (Kd.R k52 52 wc w.heap.size (fun k_ => some k_ ≠ (v243 : Value).ownBlock) v247 t246) ∧ Aside0 (wc.heap[gb233]? = some (.cells #[.int .i64 (wrap64 (t229 - 4)), .int .i64 (wrap64 (t230 - 4)), .int .i64 (wrap64 (t231 - 2)), .int .i64 (wrap64 (t232 - 4))] 27 (0, 0))) ∧ Aside0 (Below w.heap.size w wc))
 case first =>
  have H := HC14.out
  clear HC14
  by_cases c26 : t237 = t241
  rotate_left
  ·rw [if_neg c26] at H
   have c26b0 : (t237 == t241) = false := beq_eq_false_iff_ne.mpr c26
   have c26b1 : (t237 != t241) = true := bne_iff_ne.mpr c26
   (first | rw [c26b0] | (simp only [i64_w, i32_w]; rw [c26b0]) | skip)
   have H' := aM7_ H
   clear H
   go_wp2
   repeat (go_quiet (fail); try go_wp2)
   go_meet
   case rel => exact ⟨_, (true), q7x30_, H', ⟨by first | omega | exact Nat.le_refl _⟩, ⟨by (with_reducible repeat (first | apply rA7_ | apply rN7_ | apply rD7_)); exact Kd.R_mono HO228.out (fun _ hk => hk.2)⟩, ⟨by (with_reducible repeat (first | apply rA7_ | apply rN7_ | apply rD7_)); exact Kd.R_mono HO240.out (fun _ hk => hk.1.2)⟩, ⟨by (with_reducible repeat (first | apply rA7_ | apply rN7_ | apply rD7_)); exact Kd.R_mono HO244.out (fun _ hk => hk.2)⟩, ⟨by (with_reducible repeat (first | apply rA7_ | apply rN7_ | apply rD7_)); exact Kd.R_mono HO248.out (fun _ hk => hk.2)⟩, ⟨by (with_reducible repeat (first | refine kN7_ ?_ _ | refine kD7_ ?_ | refine kA7_ ?_ _)); exact BK233.out⟩, ⟨by repeat (first | (with_reducible first | exact HB.out | apply below_alloc | apply pw_below_drewN | apply below_drew1 | refine bS7_ ?_ GE233.out) | exact HB.out)⟩⟩
  rw [if_pos c26] at H
  have c26b0 : (t237 == t241) = true := beq_iff_eq.mpr c26
  have c26b1 : (t237 != t241) = false := bne_eq_false_iff_eq.mpr c26
  clear c26
  (first | rw [c26b0] | (simp only [i64_w, i32_w]; rw [c26b0]) | skip)
  replace H := Option.bind_eq_some_iff.mp H
  obtain ⟨t250, A270, H⟩ := H
  replace H : (if t250 = true then (if t245 = t249 then (laws_FnPairs.j0 k t226 t237 t238 t242 t246 ((t242.length : Int) != (t246.length : Int)) (wrap64 (t229 - 4)) (wrap64 (t230 - 4)) (wrap64 (t231 - 2)) (wrap64 (t232 - 4))) else (laws_FnPairs.j0 k t226 t237 t238 t242 t246 true (wrap64 (t229 - 4)) (wrap64 (t230 - 4)) (wrap64 (t231 - 2)) (wrap64 (t232 - 4)))) else (laws_FnPairs.j0 k t226 t237 t238 t242 t246 true (wrap64 (t229 - 4)) (wrap64 (t230 - 4)) (wrap64 (t231 - 2)) (wrap64 (t232 - 4)))) = some r := H
  have A27 := aM7_ A270
  clear A270
  by_cases c28 : t250 = true
  rotate_left
  ·replace c28 := Bool.eq_false_iff.mpr c28
   subst c28
   have H1 : (laws_FnPairs.j0 k t226 t237 t238 t242 t246 true (wrap64 (t229 - 4)) (wrap64 (t230 - 4)) (wrap64 (t231 - 2)) (wrap64 (t232 - 4))) = some r := by rw [if_neg (show ¬ (false = true) by decide)] at H; exact H
   clear H
   have H := H1
   clear H1
   have H' := aM7_ H
   clear H
   obtain ⟨Ao36, co36, eo36⟩ := Kd.R_slice HO236.out
   subst eo36
   obtain ⟨Ao37, co37, eo37⟩ := Kd.R_slice HO240.out
   subst eo37
   go_wp2_with (first | (go_at_call 29; (with_reducible refine (spec_A2Same.calls k _ _ t234 _ _ t238 false _ ?side1 ?side2 ?side3 ?side4 A27.out).mono ?_); (case side1 => repeat (first | exact (Kd.R_reads' HO236.out).2.2 | (with_reducible refine Kd.C_alloc ?_ _) | (with_reducible refine Kd.C_drewN ?_ _) | (with_reducible refine Kd.C_drew ?_))); (case side2 => exact (Kd.R_reads' HO236.out).2.1); (case side3 => repeat (first | exact (Kd.R_reads' HO240.out).2.2 | (with_reducible refine Kd.C_alloc ?_ _) | (with_reducible refine Kd.C_drewN ?_ _) | (with_reducible refine Kd.C_drew ?_))); (case side4 => exact (Kd.R_reads' HO240.out).2.1); rintro e w' ⟨rfl, ⟨nd, rfl⟩⟩; (try first | exact ⟨rfl, _, World.drewN_drewN _ _ _⟩ | exact ⟨rfl, _, Eq.trans (World.drewN_drewN _ _ _) (congrArg (World.drewN _) (Nat.add_assoc _ _ _))⟩)) | go_quiet (first | (go_at_call 29; (with_reducible refine (spec_A2Same.calls k _ _ t234 _ _ t238 false _ ?side1 ?side2 ?side3 ?side4 A27.out).mono ?_); (case side1 => repeat (first | exact (Kd.R_reads' HO236.out).2.2 | (with_reducible refine Kd.C_alloc ?_ _) | (with_reducible refine Kd.C_drewN ?_ _) | (with_reducible refine Kd.C_drew ?_))); (case side2 => exact (Kd.R_reads' HO236.out).2.1); (case side3 => repeat (first | exact (Kd.R_reads' HO240.out).2.2 | (with_reducible refine Kd.C_alloc ?_ _) | (with_reducible refine Kd.C_drewN ?_ _) | (with_reducible refine Kd.C_drew ?_))); (case side4 => exact (Kd.R_reads' HO240.out).2.1); rintro e w' ⟨rfl, ⟨nd, rfl⟩⟩; (try first | exact ⟨rfl, _, World.drewN_drewN _ _ _⟩ | exact ⟨rfl, _, Eq.trans (World.drewN_drewN _ _ _) (congrArg (World.drewN _) (Nat.add_assoc _ _ _))⟩))))
   go_meet
   case rel => exact ⟨_, (true), q7x30_, H', ⟨by first | omega | exact Nat.le_refl _⟩, ⟨by (with_reducible repeat (first | apply rA7_ | apply rN7_ | apply rD7_)); exact Kd.R_mono HO228.out (fun _ hk => hk.2)⟩, ⟨by (with_reducible repeat (first | apply rA7_ | apply rN7_ | apply rD7_)); exact Kd.R_mono HO240.out (fun _ hk => hk.1.2)⟩, ⟨by (with_reducible repeat (first | apply rA7_ | apply rN7_ | apply rD7_)); exact Kd.R_mono HO244.out (fun _ hk => hk.2)⟩, ⟨by (with_reducible repeat (first | apply rA7_ | apply rN7_ | apply rD7_)); exact Kd.R_mono HO248.out (fun _ hk => hk.2)⟩, ⟨by (with_reducible repeat (first | refine kN7_ ?_ _ | refine kD7_ ?_ | refine kA7_ ?_ _)); exact BK233.out⟩, ⟨by repeat (first | (with_reducible first | exact HB.out | apply below_alloc | apply pw_below_drewN | apply below_drew1 | refine bS7_ ?_ GE233.out) | exact HB.out)⟩⟩
  subst c28
  have H1 : (if t245 = t249 then (laws_FnPairs.j0 k t226 t237 t238 t242 t246 ((t242.length : Int) != (t246.length : Int)) (wrap64 (t229 - 4)) (wrap64 (t230 - 4)) (wrap64 (t231 - 2)) (wrap64 (t232 - 4))) else (laws_FnPairs.j0 k t226 t237 t238 t242 t246 true (wrap64 (t229 - 4)) (wrap64 (t230 - 4)) (wrap64 (t231 - 2)) (wrap64 (t232 - 4)))) = some r := by rw [if_pos rfl] at H; exact H
  clear H
  have H := H1
  clear H1
  by_cases c29 : t245 = t249
  ·rw [if_pos c29] at H
   have c29b0 : (t245 == t249) = true := beq_iff_eq.mpr c29
   have c29b1 : (t245 != t249) = false := bne_eq_false_iff_eq.mpr c29
   clear c29
   have H' := aM7_ H
   clear H
   obtain ⟨Ao30, co30, eo30⟩ := Kd.R_slice HO236.out
   subst eo30
   obtain ⟨Ao31, co31, eo31⟩ := Kd.R_slice HO240.out
   subst eo31
   go_wp2_with (first | (go_at_call 29; (with_reducible refine (spec_A2Same.calls k _ _ t234 _ _ t238 true _ ?side1 ?side2 ?side3 ?side4 A27.out).mono ?_); (case side1 => repeat (first | exact (Kd.R_reads' HO236.out).2.2 | (with_reducible refine Kd.C_alloc ?_ _) | (with_reducible refine Kd.C_drewN ?_ _) | (with_reducible refine Kd.C_drew ?_))); (case side2 => exact (Kd.R_reads' HO236.out).2.1); (case side3 => repeat (first | exact (Kd.R_reads' HO240.out).2.2 | (with_reducible refine Kd.C_alloc ?_ _) | (with_reducible refine Kd.C_drewN ?_ _) | (with_reducible refine Kd.C_drew ?_))); (case side4 => exact (Kd.R_reads' HO240.out).2.1); rintro e w' ⟨rfl, ⟨nd, rfl⟩⟩; (try first | exact ⟨rfl, _, World.drewN_drewN _ _ _⟩ | exact ⟨rfl, _, Eq.trans (World.drewN_drewN _ _ _) (congrArg (World.drewN _) (Nat.add_assoc _ _ _))⟩); obtain ⟨Ao32, co32, eo32⟩ := Kd.R_slice HO244.out; subst eo32; obtain ⟨Ao33, co33, eo33⟩ := Kd.R_slice HO248.out; subst eo33) | go_quiet (first | (go_at_call 29; (with_reducible refine (spec_A2Same.calls k _ _ t234 _ _ t238 true _ ?side1 ?side2 ?side3 ?side4 A27.out).mono ?_); (case side1 => repeat (first | exact (Kd.R_reads' HO236.out).2.2 | (with_reducible refine Kd.C_alloc ?_ _) | (with_reducible refine Kd.C_drewN ?_ _) | (with_reducible refine Kd.C_drew ?_))); (case side2 => exact (Kd.R_reads' HO236.out).2.1); (case side3 => repeat (first | exact (Kd.R_reads' HO240.out).2.2 | (with_reducible refine Kd.C_alloc ?_ _) | (with_reducible refine Kd.C_drewN ?_ _) | (with_reducible refine Kd.C_drew ?_))); (case side4 => exact (Kd.R_reads' HO240.out).2.1); rintro e w' ⟨rfl, ⟨nd, rfl⟩⟩; (try first | exact ⟨rfl, _, World.drewN_drewN _ _ _⟩ | exact ⟨rfl, _, Eq.trans (World.drewN_drewN _ _ _) (congrArg (World.drewN _) (Nat.add_assoc _ _ _))⟩); obtain ⟨Ao32, co32, eo32⟩ := Kd.R_slice HO244.out; subst eo32; obtain ⟨Ao33, co33, eo33⟩ := Kd.R_slice HO248.out; subst eo33)))
   go_meet
   case rel => exact ⟨_, (((t242.length : Int) != (t246.length : Int))), q7x30_, H', ⟨by first | omega | exact Nat.le_refl _⟩, ⟨by (with_reducible repeat (first | apply rA7_ | apply rN7_ | apply rD7_)); exact Kd.R_mono HO228.out (fun _ hk => hk.2)⟩, ⟨by (with_reducible repeat (first | apply rA7_ | apply rN7_ | apply rD7_)); exact Kd.R_mono HO240.out (fun _ hk => hk.1.2)⟩, ⟨by (with_reducible repeat (first | apply rA7_ | apply rN7_ | apply rD7_)); exact Kd.R_mono HO244.out (fun _ hk => hk.2)⟩, ⟨by (with_reducible repeat (first | apply rA7_ | apply rN7_ | apply rD7_)); exact Kd.R_mono HO248.out (fun _ hk => hk.2)⟩, ⟨by (with_reducible repeat (first | refine kN7_ ?_ _ | refine kD7_ ?_ | refine kA7_ ?_ _)); exact BK233.out⟩, ⟨by repeat (first | (with_reducible first | exact HB.out | apply below_alloc | apply pw_below_drewN | apply below_drew1 | refine bS7_ ?_ GE233.out) | exact HB.out)⟩⟩
  rw [if_neg c29] at H
  have c29b0 : (t245 == t249) = false := beq_eq_false_iff_ne.mpr c29
  have c29b1 : (t245 != t249) = true := bne_iff_ne.mpr c29
  have H' := aM7_ H
  clear H
  obtain ⟨Ao34, co34, eo34⟩ := Kd.R_slice HO236.out
  subst eo34
  obtain ⟨Ao35, co35, eo35⟩ := Kd.R_slice HO240.out
  subst eo35
  go_wp2_with (first | (go_at_call 29; (with_reducible refine (spec_A2Same.calls k _ _ t234 _ _ t238 true _ ?side1 ?side2 ?side3 ?side4 A27.out).mono ?_); (case side1 => repeat (first | exact (Kd.R_reads' HO236.out).2.2 | (with_reducible refine Kd.C_alloc ?_ _) | (with_reducible refine Kd.C_drewN ?_ _) | (with_reducible refine Kd.C_drew ?_))); (case side2 => exact (Kd.R_reads' HO236.out).2.1); (case side3 => repeat (first | exact (Kd.R_reads' HO240.out).2.2 | (with_reducible refine Kd.C_alloc ?_ _) | (with_reducible refine Kd.C_drewN ?_ _) | (with_reducible refine Kd.C_drew ?_))); (case side4 => exact (Kd.R_reads' HO240.out).2.1); rintro e w' ⟨rfl, ⟨nd, rfl⟩⟩; (try first | exact ⟨rfl, _, World.drewN_drewN _ _ _⟩ | exact ⟨rfl, _, Eq.trans (World.drewN_drewN _ _ _) (congrArg (World.drewN _) (Nat.add_assoc _ _ _))⟩)) | go_quiet (first | (go_at_call 29; (with_reducible refine (spec_A2Same.calls k _ _ t234 _ _ t238 true _ ?side1 ?side2 ?side3 ?side4 A27.out).mono ?_); (case side1 => repeat (first | exact (Kd.R_reads' HO236.out).2.2 | (with_reducible refine Kd.C_alloc ?_ _) | (with_reducible refine Kd.C_drewN ?_ _) | (with_reducible refine Kd.C_drew ?_))); (case side2 => exact (Kd.R_reads' HO236.out).2.1); (case side3 => repeat (first | exact (Kd.R_reads' HO240.out).2.2 | (with_reducible refine Kd.C_alloc ?_ _) | (with_reducible refine Kd.C_drewN ?_ _) | (with_reducible refine Kd.C_drew ?_))); (case side4 => exact (Kd.R_reads' HO240.out).2.1); rintro e w' ⟨rfl, ⟨nd, rfl⟩⟩; (try first | exact ⟨rfl, _, World.drewN_drewN _ _ _⟩ | exact ⟨rfl, _, Eq.trans (World.drewN_drewN _ _ _) (congrArg (World.drewN _) (Nat.add_assoc _ _ _))⟩))))
  go_meet
  case rel => exact ⟨_, (true), q7x30_, H', ⟨by first | omega | exact Nat.le_refl _⟩, ⟨by (with_reducible repeat (first | apply rA7_ | apply rN7_ | apply rD7_)); exact Kd.R_mono HO228.out (fun _ hk => hk.2)⟩, ⟨by (with_reducible repeat (first | apply rA7_ | apply rN7_ | apply rD7_)); exact Kd.R_mono HO240.out (fun _ hk => hk.1.2)⟩, ⟨by (with_reducible repeat (first | apply rA7_ | apply rN7_ | apply rD7_)); exact Kd.R_mono HO244.out (fun _ hk => hk.2)⟩, ⟨by (with_reducible repeat (first | apply rA7_ | apply rN7_ | apply rD7_)); exact Kd.R_mono HO248.out (fun _ hk => hk.2)⟩, ⟨by (with_reducible repeat (first | refine kN7_ ?_ _ | refine kD7_ ?_ | refine kA7_ ?_ _)); exact BK233.out⟩, ⟨by repeat (first | (with_reducible first | exact HB.out | apply below_alloc | apply pw_below_drewN | apply below_drew1 | refine bS7_ ?_ GE233.out) | exact HB.out)⟩⟩
 case rest =>
  clear HC14
  try clear c1
  try clear c2
  try clear p2
  try clear c4
  try clear p6
  try clear c7
  try clear c26
  try clear c26b0
  try clear c26b1
  try clear c28
  try clear c29
  try clear c29b0
  try clear c29b1
  try clear hcz17_0
  try clear hcz17_1
  try clear hcz17_2
  try clear hcz17_3
  try clear hcz20_0
  try clear hcz20_1
  try clear hcz20_2
  try clear hcz20_3
  try clear hcz22_0
  try clear hcz22_1
  try clear hcz22_2
  try clear hcz22_3
  try clear hcz24_0
  try clear hcz24_1
  try clear hcz24_2
  try clear hcz24_3
  try clear hfz17_0
  try clear hfz17_1
  try clear hfz17_2
  try clear hfz17_3
  try clear hfz20_0
  try clear hfz20_1
  try clear hfz20_2
  try clear hfz20_3
  try clear hfz22_0
  try clear hfz22_1
  try clear hfz22_2
  try clear hfz22_3
  try clear hfz24_0
  try clear hfz24_1
  try clear hfz24_2
  try clear hfz24_3
  obtain ⟨kq, x86_13, rfl, HA, HJ13, HO_5, HO_9, HO_11, HO_13, BK233, HB⟩ := hcut
  cases kq with
  | zero => exact absurd HA.out (by simp [laws_FnPairs.j0])
  | succ kj13 =>
   have H := HA.out
   clear HA
   simp only [laws_FnPairs.j0] at H
   by_cases c38 : x86_13 = true
   ·subst c38
    have H1 : (some false) = some r := by rw [if_pos rfl] at H; exact H
    clear H
    have H := H1
    clear H1
    obtain rfl := Option.some.inj H
    go_wp2
    repeat (go_quiet (fail); try go_wp2)
    go_ret
    exact ⟨by first | rfl | (simp [errW_none, errW_some] <;> rfl) | (simp [*, errW_none, errW_some] <;> rfl), by repeat (first | (with_reducible first | exact HB.out | apply below_alloc | apply pw_below_drewN | apply below_drew1 | refine bS7_ ?_ GE233.out) | exact HB.out)⟩
   replace c38 := Bool.eq_false_iff.mpr c38
   subst c38
   have H1 : (laws_FnPairs.l0 kj13 t226 t237 t238 t242 t246 (([] : List Int)) 0 0 (wrap64 (t229 - 4)) (wrap64 (t230 - 4)) (wrap64 (t231 - 2)) (wrap64 (t232 - 4))) = some r := by rw [if_neg (show ¬ (false = true) by decide)] at H; exact H
   clear H
   have H := H1
   clear H1
   obtain ⟨y251, hy251⟩ : ∃ y_ : List Int, y_ = (([] : List Int)) := ⟨_, rfl⟩
   replace H : (laws_FnPairs.l0 kj13 t226 t237 t238 t242 t246 y251 0 0 (wrap64 (t229 - 4)) (wrap64 (t230 - 4)) (wrap64 (t231 - 2)) (wrap64 (t232 - 4))) = some r := by first | (rw [hy251]; with_reducible exact H) | (have H2_ := (Option.bind_some _ _).symm.trans H; rw [hy251]; with_reducible exact H2_) | (have H2_ := (Option.bind_some _ _).symm.trans H; with_reducible exact H2_) | with_reducible exact H | (rw [hy251]; exact H) | exact H
   have Ny251 := aM7_ hy251
   clear hy251
   have H' := aM7_ H
   clear H
   go_wp2_with (first | ((with_reducible refine gate_dst (N := 87) rfl ?_); (try (refine gate_guard (by rfl) ?_; dsimp only)); refine Kd.R_lit (Kd.int .i64) _ 2 ?hg (N := 87) ?hd (xs := ([] : List Int)) (inner := []) (ok := fun _ => True) (okp := fun _ => True) ?hr ?hp (fun _ hk => hk) trivial (Below.refl _ _) (Nat.le_refl _) (by simp) ?_; (case hd => rfl); (case hg => rfl); (case hr => first | (go_simp; done) | (go_simp; rfl)); (case hp => exact (Reps.none _ _)); intro v252 w39 ho40 hb hg_ hnew_; clear hg_ hnew_; (first | rw [← Ny251.out] at ho40 | (simp only [Int.reduceToNat] at ho40; rw [← Ny251.out] at ho40)); have n0_ := aM7_ (Kd.R_elder' q7x11_ (Kd.R_base ho40) hb); have n1_ := aM7_ (Kd.R_elder' q7x12_ (Kd.R_base ho40) hb); have n2_ := aM7_ (rB7_ q7x15_ hb); have n3_ := aM7_ (rB7_ q7x16_ hb); have n4_ := aM7_ (Kd.R_lower (Kd.R_new' (Kd.R_new' ho40 (Kd.R_lt q7x11_)) (Kd.R_lt q7x12_)) (below_size q7x1_)); have n5_ := aM7_ (kB7_ (g := gb233) (o := .cells #[.int .i64 (wrap64 (t229 - 4)), .int .i64 (wrap64 (t230 - 4)), .int .i64 (wrap64 (t231 - 2)), .int .i64 (wrap64 (t232 - 4))] 27 (0, 0)) q7x2_ hb); have n6_ := aM7_ (bT7_ q7x1_ hb); clear HO_5; clear HO_9; clear HO_11; clear HO_13; clear BK233; clear HB; have HO_5 := n0_; have HO_9 := n1_; have HO_11 := n2_; have HO_13 := n3_; have HO253 := n4_; have BK233 := n5_; have HB := n6_; clear n0_ n1_ n2_ n3_ n4_ n5_ n6_; clear hb ho40) | go_quiet (fail))
   go_loopg [15, 16, 17] kj13 (fun kq v15 v16 v17 w' => ∃ (x15_2 : List Int) (x16_2 : Int) (x17_2 : Int), v16 = .int .i64 x16_2 ∧ v17 = .int .i64 x17_2 ∧ Aside0 (laws_FnPairs.l0 kq t226 t237 t238 t242 t246 x15_2 x16_2 x17_2 (wrap64 (t229 - 4)) (wrap64 (t230 - 4)) (wrap64 (t231 - 2)) (wrap64 (t232 - 4)) = some r) ∧ Aside0 (kq ≤ kj13) ∧ Aside0 (Kd.R (Kd.int .i64) 2 w' w.heap.size (fun k_ => some k_ ≠ (v239 : Value).ownBlock ∧ some k_ ≠ (v15 : Value).ownBlock) (.slice Ao18 t226.length co18) t226) ∧ Aside0 (Kd.R (Kd.int .i64) 2 w' w.heap.size (fun k_ => some k_ ≠ ((.slice Ao18 t226.length co18) : Value).ownBlock ∧ some k_ ≠ (v15 : Value).ownBlock) v239 t238) ∧ Aside0 (Kd.R k52 52 w' w.heap.size (fun k_ => some k_ ≠ (v247 : Value).ownBlock) v243 t242) ∧ Aside0 (Kd.R k52 52 w' w.heap.size (fun k_ => some k_ ≠ (v243 : Value).ownBlock) v247 t246) ∧ Aside0 (Kd.R (Kd.int .i64) 2 w' w.heap.size (fun k_ => some k_ ≠ ((.slice Ao18 t226.length co18) : Value).ownBlock ∧ some k_ ≠ (v239 : Value).ownBlock) v15 x15_2) ∧ Aside0 (w'.heap[gb233]? = some (.cells #[.int .i64 (wrap64 (t229 - 4)), .int .i64 (wrap64 (t230 - 4)), .int .i64 (wrap64 (t231 - 2)), .int .i64 (wrap64 (t232 - 4))] 27 (0, 0))) ∧ Aside0 (Below w.heap.size w w'))
   case atStart => exact ⟨(y251), (0), (0), q7x30_, q7x30_, H', ⟨Nat.le_refl _⟩, ⟨by (with_reducible repeat (first | apply rA7_ | apply rN7_ | apply rD7_)); exact HO_5.out⟩, ⟨by (with_reducible repeat (first | apply rA7_ | apply rN7_ | apply rD7_)); exact HO_9.out⟩, ⟨by (with_reducible repeat (first | apply rA7_ | apply rN7_ | apply rD7_)); exact HO_11.out⟩, ⟨by (with_reducible repeat (first | apply rA7_ | apply rN7_ | apply rD7_)); exact HO_13.out⟩, ⟨by (with_reducible repeat (first | apply rA7_ | apply rN7_ | apply rD7_)); exact Kd.R_mono HO253.out (fun _ hk => ⟨hk.1.2, hk.2⟩)⟩, ⟨by (with_reducible repeat (first | refine kN7_ ?_ _ | refine kD7_ ?_ | refine kA7_ ?_ _)); exact BK233.out⟩, ⟨by repeat (first | (with_reducible first | exact HB.out | apply below_alloc | apply pw_below_drewN | apply below_drew1 | refine bS7_ ?_ GE233.out) | exact HB.out)⟩⟩
   case round =>
    clear H'
    try clear c1
    try clear c2
    try clear p2
    try clear c3
    try clear c4
    try clear p6
    try clear c7
    try clear c26
    try clear c26b0
    try clear c26b1
    try clear c28
    try clear c29
    try clear c29b0
    try clear c29b1
    try clear c38
    try clear hcz17_0
    try clear hcz17_1
    try clear hcz17_2
    try clear hcz17_3
    try clear hcz20_0
    try clear hcz20_1
    try clear hcz20_2
    try clear hcz20_3
    try clear hcz22_0
    try clear hcz22_1
    try clear hcz22_2
    try clear hcz22_3
    try clear hcz24_0
    try clear hcz24_1
    try clear hcz24_2
    try clear hcz24_3
    try clear hfz17_0
    try clear hfz17_1
    try clear hfz17_2
    try clear hfz17_3
    try clear hfz20_0
    try clear hfz20_1
    try clear hfz20_2
    try clear hfz20_3
    try clear hfz22_0
    try clear hfz22_1
    try clear hfz22_2
    try clear hfz22_3
    try clear hfz24_0
    try clear hfz24_1
    try clear hfz24_2
    try clear hfz24_3
    try clear p2
    try clear p6
    obtain ⟨x15_2, x16_2, x17_2, rfl, rfl, HA, HK2, HO_5, HO_9, HO_11, HO_13, HO_15, BK233, HB⟩ := hrel
    cases gk with
    | zero => exact absurd HA.out (by simp [laws_FnPairs.l0])
    | succ k2 =>
     have H := HA.out
     clear HA
     simp only [laws_FnPairs.l0] at H
     by_cases c41 : x17_2 < (t246.length : Int)
     ·rw [if_pos c41] at H
      have c41b0 : decide (x17_2 < (t246.length : Int)) = true := decide_eq_true c41
      clear c41
      by_cases c42 : 0 ≤ x17_2
      rotate_left
      ·rw [if_neg c42] at H
       exact absurd H (by simp)
      rw [if_pos c42] at H
      have c42b0 : decide (0 ≤ x17_2) = true := decide_eq_true c42
      clear c42
      by_cases c43 : x17_2 < (t242.length : Int)
      rotate_left
      ·rw [if_neg c43] at H
       exact absurd H (by simp)
      rw [if_pos c43] at H
      have c43b0 : decide (x17_2 < (t242.length : Int)) = true := decide_eq_true c43
      clear c43
      by_cases c44 : (!(((rd_T52 t242 x17_2).f0) == ((rd_T52 t246 x17_2).f0)) || (!(((rd_T52 t242 x17_2).f1) == ((rd_T52 t246 x17_2).f1)))) = true
      ·rw [if_pos c44] at H
       have c44b0 : (!(((rd_T52 t242 x17_2).f0) == ((rd_T52 t246 x17_2).f0)) || (!(((rd_T52 t242 x17_2).f1) == ((rd_T52 t246 x17_2).f1)))) = true := c44
       clear c44
       obtain rfl := Option.some.inj H
       obtain ⟨Ao45, co45, eo45⟩ := Kd.R_slice HO_13.out
       subst eo45
       obtain ⟨Ao46, co46, eo46⟩ := Kd.R_slice HO_11.out
       subst eo46
       have p254 : 0 ≤ (x17_2 : Int) := of_decide_eq_true q7x5_
       have q254 : x17_2 < (t242.length : Int) := of_decide_eq_true q7x5_
       obtain ⟨ad254, e254, hx254_0, hx254_1⟩ := at_T52 (Kd.R_reads' HO_11.out).2.2 x17_2 p254 q254
       cases e254
       replace p254 := eq_true p254
       replace q254 := eq_true q254
       have p255 : 0 ≤ (x17_2 : Int) := of_decide_eq_true q7x5_
       have q255 : x17_2 < (t246.length : Int) := of_decide_eq_true q7x5_
       obtain ⟨ad255, e255, hx255_0, hx255_1⟩ := at_T52 (Kd.R_reads' HO_13.out).2.2 x17_2 p255 q255
       cases e255
       replace p255 := eq_true p255
       replace q255 := eq_true q255
       go_wp2
       repeat (go_quiet (fail); try go_wp2)
       go_ret
       exact ⟨by first | rfl | (simp [errW_none, errW_some] <;> rfl) | (simp [*, errW_none, errW_some] <;> rfl), by repeat (first | (with_reducible first | exact HB.out | apply below_alloc | apply pw_below_drewN | apply below_drew1 | refine bS7_ ?_ GE233.out) | exact HB.out)⟩
      rw [if_neg c44] at H
      have c44b0 : (!(((rd_T52 t242 x17_2).f0) == ((rd_T52 t246 x17_2).f0)) || (!(((rd_T52 t242 x17_2).f1) == ((rd_T52 t246 x17_2).f1)))) = false := by simpa using c44
      clear c44
      by_cases c47 : ((rd_T52 t246 x17_2).f0) = 1
      ·rw [if_pos c47] at H
       have c47b0 : (((rd_T52 t246 x17_2).f0) == 1) = true := beq_iff_eq.mpr c47
       have c47b1 : (((rd_T52 t246 x17_2).f0) != 1) = false := bne_eq_false_iff_eq.mpr c47
       clear c47
       by_cases c48 : x15_2.length < 17592186044416
       rotate_left
       ·rw [if_neg c48] at H
        exact absurd H (by simp)
       rw [if_pos c48] at H
       have LMc48 := aM7_ c48
       clear c48
       obtain ⟨y258, hy258⟩ : ∃ y_ : List Int, y_ = (x15_2 ++ [(rd_T52 t246 x17_2).f1]) := ⟨_, rfl⟩
       replace H : (laws_FnPairs.l0 k2 t226 t237 t238 t242 t246 y258 x16_2 (wrap64 (x17_2 + 1)) (wrap64 (t229 - 4)) (wrap64 (t230 - 4)) (wrap64 (t231 - 2)) (wrap64 (t232 - 4))) = some r := by first | (rw [hy258]; with_reducible exact H) | (have H2_ := (Option.bind_some _ _).symm.trans H; rw [hy258]; with_reducible exact H2_) | (have H2_ := (Option.bind_some _ _).symm.trans H; with_reducible exact H2_) | with_reducible exact H | (rw [hy258]; exact H) | exact H
       have Ny258 := aM7_ hy258
       clear hy258
       have H' := aM7_ H
       clear H
       obtain ⟨Ao49, co49, eo49⟩ := Kd.R_slice HO_13.out
       subst eo49
       obtain ⟨Ao50, co50, eo50⟩ := Kd.R_slice HO_11.out
       subst eo50
       have p254 : 0 ≤ (x17_2 : Int) := of_decide_eq_true q7x5_
       have q254 : x17_2 < (t242.length : Int) := of_decide_eq_true q7x5_
       obtain ⟨ad254, e254, hx254_0, hx254_1⟩ := at_T52 (Kd.R_reads' HO_11.out).2.2 x17_2 p254 q254
       cases e254
       replace p254 := eq_true p254
       replace q254 := eq_true q254
       have p255 : 0 ≤ (x17_2 : Int) := of_decide_eq_true q7x5_
       have q255 : x17_2 < (t246.length : Int) := of_decide_eq_true q7x5_
       obtain ⟨ad255, e255, hx255_0, hx255_1⟩ := at_T52 (Kd.R_reads' HO_13.out).2.2 x17_2 p255 q255
       cases e255
       replace p255 := eq_true p255
       replace q255 := eq_true q255
       have p256 : 0 ≤ (x17_2 : Int) := of_decide_eq_true q7x5_
       have q256 : x17_2 < (t246.length : Int) := of_decide_eq_true q7x5_
       obtain ⟨ad256, e256, hx256_0, hx256_1⟩ := at_T52 (Kd.R_reads' HO_13.out).2.2 x17_2 p256 q256
       obtain rfl : ad255 = ad256 := (by injection e256)
       replace p256 := eq_true p256
       replace q256 := eq_true q256
       have p257 : 0 ≤ (x17_2 : Int) := of_decide_eq_true q7x5_
       have q257 : x17_2 < (t246.length : Int) := of_decide_eq_true q7x5_
       obtain ⟨ad257, e257, hx257_0, hx257_1⟩ := at_T52 (Kd.R_reads' HO_13.out).2.2 x17_2 p257 q257
       obtain rfl : ad255 = ad257 := (by injection e257)
       replace p257 := eq_true p257
       replace q257 := eq_true q257
       go_wp2_with (first | ((with_reducible refine gate_builtin (b := .append) (xs := #[.tmp 109, .tmp 115]) rfl ?_); (try (refine gate_guard (by rfl) ?_; dsimp only)); at_builtin; refine Kd.R_append (Kd.int .i64) (w0 := w) w.heap.size rfl (.tmp 109) (.tmp 115) 24 2 (.int .i64 0) 8 rfl Try.underlying24 info2 rfl (by decide) (by omega) u15 x15_2 ((rd_T52 t246 x17_2).f1) [.int .i64 ((rd_T52 t246 x17_2).f1)] (fun k_ => some k_ ≠ (.slice Ao18 t226.length co18 : Value).ownBlock ∧ some k_ ≠ (v239 : Value).ownBlock) (fun _ => False) rfl rfl ?aP (fun _ hk => hk.elim) ?aF ?aO ?aB ?aS ?aL ?_; (case aP => exact rfl); (case aB => exact q7x1_); (case aF => exact (fun k_ hk => ⟨Kd.fresh' (Kd.R_lt q7x11_) k_ hk, Kd.fresh' (Kd.R_lt q7x12_) k_ hk⟩)); (case aO => exact q7x13_); (case aS => exact (below_size q7x1_)); (case aL => have := LMc48.out; omega); intro v259 w51 ho hb hg hat; rw [← Ny258.out] at ho; have n0_ := aM7_ (Kd.R_after (ok := (fun k_ => some k_ ≠ (v239 : Value).ownBlock)) q7x11_ hg hat); have n1_ := aM7_ (Kd.R_after (ok := (fun k_ => some k_ ≠ (.slice Ao18 t226.length co18 : Value).ownBlock)) q7x12_ hg hat); have n2_ := aM7_ (Kd.R_over' q7x15_ (Kd.R_typed q7x13_) (by decide) hg); have n3_ := aM7_ (Kd.R_over' q7x16_ (Kd.R_typed q7x13_) (by decide) hg); have n4_ := aM7_ (blk_grown (g := gb233) (o := .cells #[.int .i64 (wrap64 (t229 - 4)), .int .i64 (wrap64 (t230 - 4)), .int .i64 (wrap64 (t231 - 2)), .int .i64 (wrap64 (t232 - 4))] 27 (0, 0)) q7x2_ hg (Kd.R_ne HO_15.out BK233.out (by decide))); have n5_ := aM7_ (hb); have n6_ := aM7_ (ho); clear HO_5; clear HO_9; clear HO_11; clear HO_13; clear BK233; clear HB; clear HO_15; have HO_5 := n0_; have HO_9 := n1_; have HO_11 := n2_; have HO_13 := n3_; have BK233 := n4_; have HB := n5_; have HO260 := n6_; clear n0_ n1_ n2_ n3_ n4_ n5_ n6_; clear ho hb hg hat) | go_quiet (fail))
       go_roundg k2
       case measure => have := HJ13.out; have := HK2.out; omega
       case rel => exact ⟨(y258), (x16_2), (wrap64 (x17_2 + 1)), q7x30_, q7x30_, H', ⟨by have := HJ13.out; have := HK2.out; omega⟩, ⟨by (with_reducible repeat (first | apply rA7_ | apply rN7_ | apply rD7_)); exact HO_5.out⟩, ⟨by (with_reducible repeat (first | apply rA7_ | apply rN7_ | apply rD7_)); exact HO_9.out⟩, ⟨by (with_reducible repeat (first | apply rA7_ | apply rN7_ | apply rD7_)); exact HO_11.out⟩, ⟨by (with_reducible repeat (first | apply rA7_ | apply rN7_ | apply rD7_)); exact HO_13.out⟩, ⟨by (with_reducible repeat (first | apply rA7_ | apply rN7_ | apply rD7_)); exact HO260.out⟩, ⟨by (with_reducible repeat (first | refine kN7_ ?_ _ | refine kD7_ ?_ | refine kA7_ ?_ _)); exact BK233.out⟩, ⟨by repeat (first | (with_reducible first | exact HB.out | apply below_alloc | apply pw_below_drewN | apply below_drew1 | refine bS7_ ?_ GE233.out) | exact HB.out)⟩⟩
      rw [if_neg c47] at H
      have c47b0 : (((rd_T52 t246 x17_2).f0) == 1) = false := beq_eq_false_iff_ne.mpr c47
      have c47b1 : (((rd_T52 t246 x17_2).f0) != 1) = true := bne_iff_ne.mpr c47
      by_cases c52 : x16_2 < (t226.length : Int)
      rotate_left
      ·rw [if_neg c52] at H
       have c52b0 : decide (x16_2 < (t226.length : Int)) = false := decide_eq_false c52
       clear c52
       by_cases c65 : x16_2 ≥ (t226.length : Int)
       rotate_left
       ·rw [if_neg c65] at H
        have c65b0 : decide ((t226.length : Int) ≤ x16_2) = false := decide_eq_false c65
        clear c65
        have H' := aM7_ H
        clear H
        obtain ⟨Ao71, co71, eo71⟩ := Kd.R_slice HO_13.out
        subst eo71
        obtain ⟨Ao72, co72, eo72⟩ := Kd.R_slice HO_11.out
        subst eo72
        have p254 : 0 ≤ (x17_2 : Int) := of_decide_eq_true q7x5_
        have q254 : x17_2 < (t242.length : Int) := of_decide_eq_true q7x5_
        obtain ⟨ad254, e254, hx254_0, hx254_1⟩ := at_T52 (Kd.R_reads' HO_11.out).2.2 x17_2 p254 q254
        cases e254
        replace p254 := eq_true p254
        replace q254 := eq_true q254
        have p255 : 0 ≤ (x17_2 : Int) := of_decide_eq_true q7x5_
        have q255 : x17_2 < (t246.length : Int) := of_decide_eq_true q7x5_
        obtain ⟨ad255, e255, hx255_0, hx255_1⟩ := at_T52 (Kd.R_reads' HO_13.out).2.2 x17_2 p255 q255
        cases e255
        replace p255 := eq_true p255
        replace q255 := eq_true q255
        have p256 : 0 ≤ (x17_2 : Int) := of_decide_eq_true q7x5_
        have q256 : x17_2 < (t246.length : Int) := of_decide_eq_true q7x5_
        obtain ⟨ad256, e256, hx256_0, hx256_1⟩ := at_T52 (Kd.R_reads' HO_13.out).2.2 x17_2 p256 q256
        obtain rfl : ad255 = ad256 := (by injection e256)
        replace p256 := eq_true p256
        replace q256 := eq_true q256
        go_wp2
        repeat (go_quiet (fail); try go_wp2)
        go_roundg k2
        case measure => have := HJ13.out; have := HK2.out; omega
        case rel => exact ⟨(x15_2), (wrap64 (x16_2 + 1)), (wrap64 (x17_2 + 1)), q7x30_, q7x30_, H', ⟨by have := HJ13.out; have := HK2.out; omega⟩, ⟨by (with_reducible repeat (first | apply rA7_ | apply rN7_ | apply rD7_)); exact HO_5.out⟩, ⟨by (with_reducible repeat (first | apply rA7_ | apply rN7_ | apply rD7_)); exact HO_9.out⟩, ⟨by (with_reducible repeat (first | apply rA7_ | apply rN7_ | apply rD7_)); exact HO_11.out⟩, ⟨by (with_reducible repeat (first | apply rA7_ | apply rN7_ | apply rD7_)); exact HO_13.out⟩, ⟨by (with_reducible repeat (first | apply rA7_ | apply rN7_ | apply rD7_)); exact HO_15.out⟩, ⟨by (with_reducible repeat (first | refine kN7_ ?_ _ | refine kD7_ ?_ | refine kA7_ ?_ _)); exact BK233.out⟩, ⟨by repeat (first | (with_reducible first | exact HB.out | apply below_alloc | apply pw_below_drewN | apply below_drew1 | refine bS7_ ?_ GE233.out) | exact HB.out)⟩⟩
       rw [if_pos c65] at H
       have c65b0 : decide ((t226.length : Int) ≤ x16_2) = true := decide_eq_true c65
       clear c65
       by_cases c66 : ((rd_T52 t246 x17_2).f1) = 0
       rotate_left
       ·rw [if_neg c66] at H
        have c66b0 : (((rd_T52 t246 x17_2).f1) == 0) = false := beq_eq_false_iff_ne.mpr c66
        have c66b1 : (((rd_T52 t246 x17_2).f1) != 0) = true := bne_iff_ne.mpr c66
        obtain rfl := Option.some.inj H
        obtain ⟨Ao69, co69, eo69⟩ := Kd.R_slice HO_13.out
        subst eo69
        obtain ⟨Ao70, co70, eo70⟩ := Kd.R_slice HO_11.out
        subst eo70
        have p254 : 0 ≤ (x17_2 : Int) := of_decide_eq_true q7x5_
        have q254 : x17_2 < (t242.length : Int) := of_decide_eq_true q7x5_
        obtain ⟨ad254, e254, hx254_0, hx254_1⟩ := at_T52 (Kd.R_reads' HO_11.out).2.2 x17_2 p254 q254
        cases e254
        replace p254 := eq_true p254
        replace q254 := eq_true q254
        have p255 : 0 ≤ (x17_2 : Int) := of_decide_eq_true q7x5_
        have q255 : x17_2 < (t246.length : Int) := of_decide_eq_true q7x5_
        obtain ⟨ad255, e255, hx255_0, hx255_1⟩ := at_T52 (Kd.R_reads' HO_13.out).2.2 x17_2 p255 q255
        cases e255
        replace p255 := eq_true p255
        replace q255 := eq_true q255
        have p256 : 0 ≤ (x17_2 : Int) := of_decide_eq_true q7x5_
        have q256 : x17_2 < (t246.length : Int) := of_decide_eq_true q7x5_
        obtain ⟨ad256, e256, hx256_0, hx256_1⟩ := at_T52 (Kd.R_reads' HO_13.out).2.2 x17_2 p256 q256
        obtain rfl : ad255 = ad256 := (by injection e256)
        replace p256 := eq_true p256
        replace q256 := eq_true q256
        have p264 : 0 ≤ (x17_2 : Int) := of_decide_eq_true q7x5_
        have q264 : x17_2 < (t246.length : Int) := of_decide_eq_true q7x5_
        obtain ⟨ad264, e264, hx264_0, hx264_1⟩ := at_T52 (Kd.R_reads' HO_13.out).2.2 x17_2 p264 q264
        obtain rfl : ad255 = ad264 := (by injection e264)
        replace p264 := eq_true p264
        replace q264 := eq_true q264
        go_wp2
        repeat (go_quiet (fail); try go_wp2)
        go_ret
        exact ⟨by first | rfl | (simp [errW_none, errW_some] <;> rfl) | (simp [*, errW_none, errW_some] <;> rfl), by repeat (first | (with_reducible first | exact HB.out | apply below_alloc | apply pw_below_drewN | apply below_drew1 | refine bS7_ ?_ GE233.out) | exact HB.out)⟩
       rw [if_pos c66] at H
       have c66b0 : (((rd_T52 t246 x17_2).f1) == 0) = true := beq_iff_eq.mpr c66
       have c66b1 : (((rd_T52 t246 x17_2).f1) != 0) = false := bne_eq_false_iff_eq.mpr c66
       clear c66
       have H' := aM7_ H
       clear H
       obtain ⟨Ao67, co67, eo67⟩ := Kd.R_slice HO_13.out
       subst eo67
       obtain ⟨Ao68, co68, eo68⟩ := Kd.R_slice HO_11.out
       subst eo68
       have p254 : 0 ≤ (x17_2 : Int) := of_decide_eq_true q7x5_
       have q254 : x17_2 < (t242.length : Int) := of_decide_eq_true q7x5_
       obtain ⟨ad254, e254, hx254_0, hx254_1⟩ := at_T52 (Kd.R_reads' HO_11.out).2.2 x17_2 p254 q254
       cases e254
       replace p254 := eq_true p254
       replace q254 := eq_true q254
       have p255 : 0 ≤ (x17_2 : Int) := of_decide_eq_true q7x5_
       have q255 : x17_2 < (t246.length : Int) := of_decide_eq_true q7x5_
       obtain ⟨ad255, e255, hx255_0, hx255_1⟩ := at_T52 (Kd.R_reads' HO_13.out).2.2 x17_2 p255 q255
       cases e255
       replace p255 := eq_true p255
       replace q255 := eq_true q255
       have p256 : 0 ≤ (x17_2 : Int) := of_decide_eq_true q7x5_
       have q256 : x17_2 < (t246.length : Int) := of_decide_eq_true q7x5_
       obtain ⟨ad256, e256, hx256_0, hx256_1⟩ := at_T52 (Kd.R_reads' HO_13.out).2.2 x17_2 p256 q256
       obtain rfl : ad255 = ad256 := (by injection e256)
       replace p256 := eq_true p256
       replace q256 := eq_true q256
       have p264 : 0 ≤ (x17_2 : Int) := of_decide_eq_true q7x5_
       have q264 : x17_2 < (t246.length : Int) := of_decide_eq_true q7x5_
       obtain ⟨ad264, e264, hx264_0, hx264_1⟩ := at_T52 (Kd.R_reads' HO_13.out).2.2 x17_2 p264 q264
       obtain rfl : ad255 = ad264 := (by injection e264)
       replace p264 := eq_true p264
       replace q264 := eq_true q264
       go_wp2
       repeat (go_quiet (fail); try go_wp2)
       go_roundg k2
       case measure => have := HJ13.out; have := HK2.out; omega
       case rel => exact ⟨(x15_2), (wrap64 (x16_2 + 1)), (wrap64 (x17_2 + 1)), q7x30_, q7x30_, H', ⟨by have := HJ13.out; have := HK2.out; omega⟩, ⟨by (with_reducible repeat (first | apply rA7_ | apply rN7_ | apply rD7_)); exact HO_5.out⟩, ⟨by (with_reducible repeat (first | apply rA7_ | apply rN7_ | apply rD7_)); exact HO_9.out⟩, ⟨by (with_reducible repeat (first | apply rA7_ | apply rN7_ | apply rD7_)); exact HO_11.out⟩, ⟨by (with_reducible repeat (first | apply rA7_ | apply rN7_ | apply rD7_)); exact HO_13.out⟩, ⟨by (with_reducible repeat (first | apply rA7_ | apply rN7_ | apply rD7_)); exact HO_15.out⟩, ⟨by (with_reducible repeat (first | refine kN7_ ?_ _ | refine kD7_ ?_ | refine kA7_ ?_ _)); exact BK233.out⟩, ⟨by repeat (first | (with_reducible first | exact HB.out | apply below_alloc | apply pw_below_drewN | apply below_drew1 | refine bS7_ ?_ GE233.out) | exact HB.out)⟩⟩
      rw [if_pos c52] at H
      have c52b0 : decide (x16_2 < (t226.length : Int)) = true := decide_eq_true c52
      clear c52
      by_cases c53 : 0 ≤ x16_2
      rotate_left
      ·rw [if_neg c53] at H
       exact absurd H (by simp)
      rw [if_pos c53] at H
      have c53b0 : decide (0 ≤ x16_2) = true := decide_eq_true c53
      clear c53
      by_cases c54 : ((rd_T52 t246 x17_2).f1) = (rd t226 x16_2)
      rotate_left
      ·rw [if_neg c54] at H
       have c54b0 : (((rd_T52 t246 x17_2).f1) == (rd t226 x16_2)) = false := beq_eq_false_iff_ne.mpr c54
       have c54b1 : (((rd_T52 t246 x17_2).f1) != (rd t226 x16_2)) = true := bne_iff_ne.mpr c54
       obtain rfl := Option.some.inj H
       obtain ⟨Ao63, co63, eo63⟩ := Kd.R_slice HO_13.out
       subst eo63
       obtain ⟨Ao64, co64, eo64⟩ := Kd.R_slice HO_11.out
       subst eo64
       have p254 : 0 ≤ (x17_2 : Int) := of_decide_eq_true q7x5_
       have q254 : x17_2 < (t242.length : Int) := of_decide_eq_true q7x5_
       obtain ⟨ad254, e254, hx254_0, hx254_1⟩ := at_T52 (Kd.R_reads' HO_11.out).2.2 x17_2 p254 q254
       cases e254
       replace p254 := eq_true p254
       replace q254 := eq_true q254
       have p255 : 0 ≤ (x17_2 : Int) := of_decide_eq_true q7x5_
       have q255 : x17_2 < (t246.length : Int) := of_decide_eq_true q7x5_
       obtain ⟨ad255, e255, hx255_0, hx255_1⟩ := at_T52 (Kd.R_reads' HO_13.out).2.2 x17_2 p255 q255
       cases e255
       replace p255 := eq_true p255
       replace q255 := eq_true q255
       have p256 : 0 ≤ (x17_2 : Int) := of_decide_eq_true q7x5_
       have q256 : x17_2 < (t246.length : Int) := of_decide_eq_true q7x5_
       obtain ⟨ad256, e256, hx256_0, hx256_1⟩ := at_T52 (Kd.R_reads' HO_13.out).2.2 x17_2 p256 q256
       obtain rfl : ad255 = ad256 := (by injection e256)
       replace p256 := eq_true p256
       replace q256 := eq_true q256
       have p261 : 0 ≤ (x17_2 : Int) := of_decide_eq_true q7x5_
       have q261 : x17_2 < (t246.length : Int) := of_decide_eq_true q7x5_
       obtain ⟨ad261, e261, hx261_0, hx261_1⟩ := at_T52 (Kd.R_reads' HO_13.out).2.2 x17_2 p261 q261
       obtain rfl : ad255 = ad261 := (by injection e261)
       replace p261 := eq_true p261
       replace q261 := eq_true q261
       have p262 : 0 ≤ (x16_2 : Int) := of_decide_eq_true q7x5_
       have q262 : x16_2 < (t226.length : Int) := of_decide_eq_true q7x5_
       obtain ⟨ad262, e262, hx262_0⟩ := Kd.at_int (Kd.R_reads' HO_5.out).2.2 x16_2 p262 q262
       cases e262
       replace p262 := eq_true p262
       replace q262 := eq_true q262
       go_wp2
       repeat (go_quiet (fail); try go_wp2)
       go_ret
       exact ⟨by first | rfl | (simp [errW_none, errW_some] <;> rfl) | (simp [*, errW_none, errW_some] <;> rfl), by repeat (first | (with_reducible first | exact HB.out | apply below_alloc | apply pw_below_drewN | apply below_drew1 | refine bS7_ ?_ GE233.out) | exact HB.out)⟩
      rw [if_pos c54] at H
      have c54b0 : (((rd_T52 t246 x17_2).f1) == (rd t226 x16_2)) = true := beq_iff_eq.mpr c54
      have c54b1 : (((rd_T52 t246 x17_2).f1) != (rd t226 x16_2)) = false := bne_eq_false_iff_eq.mpr c54
      clear c54
      by_cases c55 : x16_2 ≥ (t226.length : Int)
      rotate_left
      ·rw [if_neg c55] at H
       have c55b0 : decide ((t226.length : Int) ≤ x16_2) = false := decide_eq_false c55
       clear c55
       have H' := aM7_ H
       clear H
       obtain ⟨Ao61, co61, eo61⟩ := Kd.R_slice HO_13.out
       subst eo61
       obtain ⟨Ao62, co62, eo62⟩ := Kd.R_slice HO_11.out
       subst eo62
       have p254 : 0 ≤ (x17_2 : Int) := of_decide_eq_true q7x5_
       have q254 : x17_2 < (t242.length : Int) := of_decide_eq_true q7x5_
       obtain ⟨ad254, e254, hx254_0, hx254_1⟩ := at_T52 (Kd.R_reads' HO_11.out).2.2 x17_2 p254 q254
       cases e254
       replace p254 := eq_true p254
       replace q254 := eq_true q254
       have p255 : 0 ≤ (x17_2 : Int) := of_decide_eq_true q7x5_
       have q255 : x17_2 < (t246.length : Int) := of_decide_eq_true q7x5_
       obtain ⟨ad255, e255, hx255_0, hx255_1⟩ := at_T52 (Kd.R_reads' HO_13.out).2.2 x17_2 p255 q255
       cases e255
       replace p255 := eq_true p255
       replace q255 := eq_true q255
       have p256 : 0 ≤ (x17_2 : Int) := of_decide_eq_true q7x5_
       have q256 : x17_2 < (t246.length : Int) := of_decide_eq_true q7x5_
       obtain ⟨ad256, e256, hx256_0, hx256_1⟩ := at_T52 (Kd.R_reads' HO_13.out).2.2 x17_2 p256 q256
       obtain rfl : ad255 = ad256 := (by injection e256)
       replace p256 := eq_true p256
       replace q256 := eq_true q256
       have p261 : 0 ≤ (x17_2 : Int) := of_decide_eq_true q7x5_
       have q261 : x17_2 < (t246.length : Int) := of_decide_eq_true q7x5_
       obtain ⟨ad261, e261, hx261_0, hx261_1⟩ := at_T52 (Kd.R_reads' HO_13.out).2.2 x17_2 p261 q261
       obtain rfl : ad255 = ad261 := (by injection e261)
       replace p261 := eq_true p261
       replace q261 := eq_true q261
       have p262 : 0 ≤ (x16_2 : Int) := of_decide_eq_true q7x5_
       have q262 : x16_2 < (t226.length : Int) := of_decide_eq_true q7x5_
       obtain ⟨ad262, e262, hx262_0⟩ := Kd.at_int (Kd.R_reads' HO_5.out).2.2 x16_2 p262 q262
       cases e262
       replace p262 := eq_true p262
       replace q262 := eq_true q262
       go_wp2
       repeat (go_quiet (fail); try go_wp2)
       go_roundg k2
       case measure => have := HJ13.out; have := HK2.out; omega
       case rel => exact ⟨(x15_2), (wrap64 (x16_2 + 1)), (wrap64 (x17_2 + 1)), q7x30_, q7x30_, H', ⟨by have := HJ13.out; have := HK2.out; omega⟩, ⟨by (with_reducible repeat (first | apply rA7_ | apply rN7_ | apply rD7_)); exact HO_5.out⟩, ⟨by (with_reducible repeat (first | apply rA7_ | apply rN7_ | apply rD7_)); exact HO_9.out⟩, ⟨by (with_reducible repeat (first | apply rA7_ | apply rN7_ | apply rD7_)); exact HO_11.out⟩, ⟨by (with_reducible repeat (first | apply rA7_ | apply rN7_ | apply rD7_)); exact HO_13.out⟩, ⟨by (with_reducible repeat (first | apply rA7_ | apply rN7_ | apply rD7_)); exact HO_15.out⟩, ⟨by (with_reducible repeat (first | refine kN7_ ?_ _ | refine kD7_ ?_ | refine kA7_ ?_ _)); exact BK233.out⟩, ⟨by repeat (first | (with_reducible first | exact HB.out | apply below_alloc | apply pw_below_drewN | apply below_drew1 | refine bS7_ ?_ GE233.out) | exact HB.out)⟩⟩
      rw [if_pos c55] at H
      have c55b0 : decide ((t226.length : Int) ≤ x16_2) = true := decide_eq_true c55
      clear c55
      by_cases c56 : ((rd_T52 t246 x17_2).f1) = 0
      rotate_left
      ·rw [if_neg c56] at H
       have c56b0 : (((rd_T52 t246 x17_2).f1) == 0) = false := beq_eq_false_iff_ne.mpr c56
       have c56b1 : (((rd_T52 t246 x17_2).f1) != 0) = true := bne_iff_ne.mpr c56
       obtain rfl := Option.some.inj H
       obtain ⟨Ao59, co59, eo59⟩ := Kd.R_slice HO_13.out
       subst eo59
       obtain ⟨Ao60, co60, eo60⟩ := Kd.R_slice HO_11.out
       subst eo60
       have p254 : 0 ≤ (x17_2 : Int) := of_decide_eq_true q7x5_
       have q254 : x17_2 < (t242.length : Int) := of_decide_eq_true q7x5_
       obtain ⟨ad254, e254, hx254_0, hx254_1⟩ := at_T52 (Kd.R_reads' HO_11.out).2.2 x17_2 p254 q254
       cases e254
       replace p254 := eq_true p254
       replace q254 := eq_true q254
       have p255 : 0 ≤ (x17_2 : Int) := of_decide_eq_true q7x5_
       have q255 : x17_2 < (t246.length : Int) := of_decide_eq_true q7x5_
       obtain ⟨ad255, e255, hx255_0, hx255_1⟩ := at_T52 (Kd.R_reads' HO_13.out).2.2 x17_2 p255 q255
       cases e255
       replace p255 := eq_true p255
       replace q255 := eq_true q255
       have p256 : 0 ≤ (x17_2 : Int) := of_decide_eq_true q7x5_
       have q256 : x17_2 < (t246.length : Int) := of_decide_eq_true q7x5_
       obtain ⟨ad256, e256, hx256_0, hx256_1⟩ := at_T52 (Kd.R_reads' HO_13.out).2.2 x17_2 p256 q256
       obtain rfl : ad255 = ad256 := (by injection e256)
       replace p256 := eq_true p256
       replace q256 := eq_true q256
       have p261 : 0 ≤ (x17_2 : Int) := of_decide_eq_true q7x5_
       have q261 : x17_2 < (t246.length : Int) := of_decide_eq_true q7x5_
       obtain ⟨ad261, e261, hx261_0, hx261_1⟩ := at_T52 (Kd.R_reads' HO_13.out).2.2 x17_2 p261 q261
       obtain rfl : ad255 = ad261 := (by injection e261)
       replace p261 := eq_true p261
       replace q261 := eq_true q261
       have p262 : 0 ≤ (x16_2 : Int) := of_decide_eq_true q7x5_
       have q262 : x16_2 < (t226.length : Int) := of_decide_eq_true q7x5_
       obtain ⟨ad262, e262, hx262_0⟩ := Kd.at_int (Kd.R_reads' HO_5.out).2.2 x16_2 p262 q262
       cases e262
       replace p262 := eq_true p262
       replace q262 := eq_true q262
       have p263 : 0 ≤ (x17_2 : Int) := of_decide_eq_true q7x5_
       have q263 : x17_2 < (t246.length : Int) := of_decide_eq_true q7x5_
       obtain ⟨ad263, e263, hx263_0, hx263_1⟩ := at_T52 (Kd.R_reads' HO_13.out).2.2 x17_2 p263 q263
       obtain rfl : ad255 = ad263 := (by injection e263)
       replace p263 := eq_true p263
       replace q263 := eq_true q263
       go_wp2
       repeat (go_quiet (fail); try go_wp2)
       go_ret
       exact ⟨by first | rfl | (simp [errW_none, errW_some] <;> rfl) | (simp [*, errW_none, errW_some] <;> rfl), by repeat (first | (with_reducible first | exact HB.out | apply below_alloc | apply pw_below_drewN | apply below_drew1 | refine bS7_ ?_ GE233.out) | exact HB.out)⟩
      rw [if_pos c56] at H
      have c56b0 : (((rd_T52 t246 x17_2).f1) == 0) = true := beq_iff_eq.mpr c56
      have c56b1 : (((rd_T52 t246 x17_2).f1) != 0) = false := bne_eq_false_iff_eq.mpr c56
      clear c56
      have H' := aM7_ H
      clear H
      obtain ⟨Ao57, co57, eo57⟩ := Kd.R_slice HO_13.out
      subst eo57
      obtain ⟨Ao58, co58, eo58⟩ := Kd.R_slice HO_11.out
      subst eo58
      have p254 : 0 ≤ (x17_2 : Int) := of_decide_eq_true q7x5_
      have q254 : x17_2 < (t242.length : Int) := of_decide_eq_true q7x5_
      obtain ⟨ad254, e254, hx254_0, hx254_1⟩ := at_T52 (Kd.R_reads' HO_11.out).2.2 x17_2 p254 q254
      cases e254
      replace p254 := eq_true p254
      replace q254 := eq_true q254
      have p255 : 0 ≤ (x17_2 : Int) := of_decide_eq_true q7x5_
      have q255 : x17_2 < (t246.length : Int) := of_decide_eq_true q7x5_
      obtain ⟨ad255, e255, hx255_0, hx255_1⟩ := at_T52 (Kd.R_reads' HO_13.out).2.2 x17_2 p255 q255
      cases e255
      replace p255 := eq_true p255
      replace q255 := eq_true q255
      have p256 : 0 ≤ (x17_2 : Int) := of_decide_eq_true q7x5_
      have q256 : x17_2 < (t246.length : Int) := of_decide_eq_true q7x5_
      obtain ⟨ad256, e256, hx256_0, hx256_1⟩ := at_T52 (Kd.R_reads' HO_13.out).2.2 x17_2 p256 q256
      obtain rfl : ad255 = ad256 := (by injection e256)
      replace p256 := eq_true p256
      replace q256 := eq_true q256
      have p261 : 0 ≤ (x17_2 : Int) := of_decide_eq_true q7x5_
      have q261 : x17_2 < (t246.length : Int) := of_decide_eq_true q7x5_
      obtain ⟨ad261, e261, hx261_0, hx261_1⟩ := at_T52 (Kd.R_reads' HO_13.out).2.2 x17_2 p261 q261
      obtain rfl : ad255 = ad261 := (by injection e261)
      replace p261 := eq_true p261
      replace q261 := eq_true q261
      have p262 : 0 ≤ (x16_2 : Int) := of_decide_eq_true q7x5_
      have q262 : x16_2 < (t226.length : Int) := of_decide_eq_true q7x5_
      obtain ⟨ad262, e262, hx262_0⟩ := Kd.at_int (Kd.R_reads' HO_5.out).2.2 x16_2 p262 q262
      cases e262
      replace p262 := eq_true p262
      replace q262 := eq_true q262
      have p263 : 0 ≤ (x17_2 : Int) := of_decide_eq_true q7x5_
      have q263 : x17_2 < (t246.length : Int) := of_decide_eq_true q7x5_
      obtain ⟨ad263, e263, hx263_0, hx263_1⟩ := at_T52 (Kd.R_reads' HO_13.out).2.2 x17_2 p263 q263
      obtain rfl : ad255 = ad263 := (by injection e263)
      replace p263 := eq_true p263
      replace q263 := eq_true q263
      go_wp2
      repeat (go_quiet (fail); try go_wp2)
      go_roundg k2
      case measure => have := HJ13.out; have := HK2.out; omega
      case rel => exact ⟨(x15_2), (wrap64 (x16_2 + 1)), (wrap64 (x17_2 + 1)), q7x30_, q7x30_, H', ⟨by have := HJ13.out; have := HK2.out; omega⟩, ⟨by (with_reducible repeat (first | apply rA7_ | apply rN7_ | apply rD7_)); exact HO_5.out⟩, ⟨by (with_reducible repeat (first | apply rA7_ | apply rN7_ | apply rD7_)); exact HO_9.out⟩, ⟨by (with_reducible repeat (first | apply rA7_ | apply rN7_ | apply rD7_)); exact HO_11.out⟩, ⟨by (with_reducible repeat (first | apply rA7_ | apply rN7_ | apply rD7_)); exact HO_13.out⟩, ⟨by (with_reducible repeat (first | apply rA7_ | apply rN7_ | apply rD7_)); exact HO_15.out⟩, ⟨by (with_reducible repeat (first | refine kN7_ ?_ _ | refine kD7_ ?_ | refine kA7_ ?_ _)); exact BK233.out⟩, ⟨by repeat (first | (with_reducible first | exact HB.out | apply below_alloc | apply pw_below_drewN | apply below_drew1 | refine bS7_ ?_ GE233.out) | exact HB.out)⟩⟩
     rw [if_neg c41] at H
     have c41b0 : decide (x17_2 < (t246.length : Int)) = false := decide_eq_false c41
     clear c41
     replace H := Option.bind_eq_some_iff.mp H
     obtain ⟨⟨t265, t266, t267⟩, A730, H⟩ := H
     replace H : ((spec_A2Pair.f k2 (wrap64 (t229 - 4)) (wrap64 (t230 - 4)) (wrap64 (t231 - 2)) (wrap64 (t232 - 4)) t265 t266).bind fun bt269 => (if t267 = 0 then (if t237 = 0 then (if bt269.2.2 = true then ((spec_A2Same.f k2 x15_2 t238).bind fun t273 => (if t273 = true then ((impl_RatioOf.f k2 t238).bind fun bt274 => (if bt274.2.2 = 0 then (some (bt274.1 == bt269.1 && (bt274.2.1 == bt269.2.1))) else (some false))) else (some false))) else (some false)) else (if t237 = 4 then (if bt269.2.2 = true then (some (t237 == 3)) else (some true)) else (some (t237 == 3)))) else (some false))) = some r := H
     have A73 := aM7_ A730
     clear A730
     replace H := Option.bind_eq_some_iff.mp H
     obtain ⟨⟨t269, t270, t271⟩, A740, H⟩ := H
     replace H : (if t267 = 0 then (if t237 = 0 then (if t271 = true then ((spec_A2Same.f k2 x15_2 t238).bind fun t273 => (if t273 = true then ((impl_RatioOf.f k2 t238).bind fun bt274 => (if bt274.2.2 = 0 then (some (bt274.1 == t269 && (bt274.2.1 == t270))) else (some false))) else (some false))) else (some false)) else (if t237 = 4 then (if t271 = true then (some (t237 == 3)) else (some true)) else (some (t237 == 3)))) else (some false)) = some r := H
     have A74 := aM7_ A740
     clear A740
     by_cases c75 : t267 = 0
     rotate_left
     ·rw [if_neg c75] at H
      have c75b0 : (t267 == 0) = false := beq_eq_false_iff_ne.mpr c75
      have c75b1 : (t267 != 0) = true := bne_iff_ne.mpr c75
      obtain rfl := Option.some.inj H
      obtain ⟨Ao180, co180, eo180⟩ := Kd.R_slice HO_13.out
      subst eo180
      go_wp2_with (first | (go_at_call 30; (with_reducible refine (spec_RatioOf.calls k2 _ _ t226 t265 t266 t267 _ ?side1 ?side2 A73.out).mono ?_); (case side1 => repeat (first | exact (Kd.R_reads' HO_5.out).2.2 | (with_reducible refine Kd.C_alloc ?_ _) | (with_reducible refine Kd.C_drewN ?_ _) | (with_reducible refine Kd.C_drew ?_))); (case side2 => exact (Kd.R_reads' HO_5.out).2.1); rintro e w181 ⟨rfl, hb⟩; have n0_ := aM7_ (rB7_ q7x11_ hb); have n1_ := aM7_ (rB7_ q7x12_ hb); have n2_ := aM7_ (rB7_ q7x15_ hb); have n3_ := aM7_ (rB7_ q7x16_ hb); have n4_ := aM7_ (rB7_ q7x13_ hb); have n5_ := aM7_ (kB7_ (g := gb233) (o := .cells #[.int .i64 (wrap64 (t229 - 4)), .int .i64 (wrap64 (t230 - 4)), .int .i64 (wrap64 (t231 - 2)), .int .i64 (wrap64 (t232 - 4))] 27 (0, 0)) q7x2_ hb); have n6_ := aM7_ (bT7_ q7x1_ hb); clear HO_5; clear HO_9; clear HO_11; clear HO_13; clear HO_15; clear BK233; clear HB; have HO_5 := n0_; have HO_9 := n1_; have HO_11 := n2_; have HO_13 := n3_; have HO_15 := n4_; have BK233 := n5_; have HB := n6_; clear n0_ n1_ n2_ n3_ n4_ n5_ n6_; (try clear hb); (try clear hb2); (try clear hk); (try clear hi)) | ((with_reducible refine gate_dst (N := 18) rfl ?_); (try (refine gate_guard (by rfl) ?_; dsimp only)); refine box_event ?hg (N := 18) ?hd (cs := #[.int .i64 0, .int .i64 0]) (t := 54) ?hr ?_; (case hd => rfl); (case hg => rfl); (case hr => first | (go_simp; done) | (go_simp; rfl)); intro gb268 hg w182 hbox hb; have n0_ := aM7_ (rB7_ q7x11_ hb); have n1_ := aM7_ (rB7_ q7x12_ hb); have n2_ := aM7_ (rB7_ q7x15_ hb); have n3_ := aM7_ (rB7_ q7x16_ hb); have n4_ := aM7_ (rB7_ q7x13_ hb); have n5_ := aM7_ (kB7_ (g := gb233) (o := .cells #[.int .i64 (wrap64 (t229 - 4)), .int .i64 (wrap64 (t230 - 4)), .int .i64 (wrap64 (t231 - 2)), .int .i64 (wrap64 (t232 - 4))] 27 (0, 0)) q7x2_ hb); have n6_ := aM7_ (bT7_ q7x1_ hb); have n7_ := aM7_ (hbox); have n8_ := aM7_ ((q7x32_ : w.heap.size ≤ gb268)); have n9_ := aM7_ ((q7x32_ : w.heap.size ≤ gb268)); have n10_ := aM7_ ((q7x6_ : gb233 ≠ gb268)); have n11_ := aM7_ ((q7x7_ : gb268 ≠ gb233)); clear HO_5; clear HO_9; clear HO_11; clear HO_13; clear HO_15; clear BK233; clear HB; have HO_5 := n0_; have HO_9 := n1_; have HO_11 := n2_; have HO_13 := n3_; have HO_15 := n4_; have BK233 := n5_; have HB := n6_; have BK268 := n7_; have GW268 := n8_; have GE268 := n9_; have NB233_268 := n10_; have NB268_233 := n11_; clear n0_ n1_ n2_ n3_ n4_ n5_ n6_ n7_ n8_ n9_ n10_ n11_; clear hb hbox hg; have hnb183 := NB268_233.out; have hnc183 := NB233_268.out; have hcz184_0 : w182.cell? ⟨gb268, 0, none⟩ = some (.int .i64 0) := (kC7_ BK268.out 0).trans rfl; have hcz184_1 : w182.cell? ⟨gb268, 1, none⟩ = some (.int .i64 0) := (kC7_ BK268.out 1).trans rfl; have hfz184_0 := blk_frozen BK268.out 0; have hfz184_1 := blk_frozen BK268.out 1; have hcz185_0 : w182.cell? ⟨gb233, 0, none⟩ = some (.int .i64 (wrap64 (t229 - 4))) := (kC7_ BK233.out 0).trans rfl; have hcz185_1 : w182.cell? ⟨gb233, 1, none⟩ = some (.int .i64 (wrap64 (t230 - 4))) := (kC7_ BK233.out 1).trans rfl; have hcz185_2 : w182.cell? ⟨gb233, 2, none⟩ = some (.int .i64 (wrap64 (t231 - 2))) := (kC7_ BK233.out 2).trans rfl; have hcz185_3 : w182.cell? ⟨gb233, 3, none⟩ = some (.int .i64 (wrap64 (t232 - 4))) := (kC7_ BK233.out 3).trans rfl; have hfz185_0 := blk_frozen BK233.out 0; have hfz185_1 := blk_frozen BK233.out 1; have hfz185_2 := blk_frozen BK233.out 2; have hfz185_3 := blk_frozen BK233.out 3) | (go_at_call 31; (with_reducible refine (spec_A2Pair.calls k2 (wrap64 (t229 - 4)) (wrap64 (t230 - 4)) (wrap64 (t231 - 2)) (wrap64 (t232 - 4)) t265 t266 t269 t270 t271 _ A74.out).mono ?_); rintro e w186 ⟨rfl, hb⟩; have n0_ := aM7_ (rB7_ q7x22_ hb); have n1_ := aM7_ (rB7_ q7x23_ hb); have n2_ := aM7_ (rB7_ q7x18_ hb); have n3_ := aM7_ (rB7_ q7x19_ hb); have n4_ := aM7_ (rB7_ q7x20_ hb); have n5_ := aM7_ (kB7_ (g := gb233) (o := .cells #[.int .i64 (wrap64 (t229 - 4)), .int .i64 (wrap64 (t230 - 4)), .int .i64 (wrap64 (t231 - 2)), .int .i64 (wrap64 (t232 - 4))] 27 (0, 0)) q7x17_ hb); have n6_ := aM7_ (kB7_ (g := gb268) (o := .cells #[.int .i64 t265, .int .i64 t266] 54 (0, 0)) q7x9_ hb); have n7_ := aM7_ (bT7_ q7x3_ hb); clear HO_5; clear HO_9; clear HO_11; clear HO_13; clear HO_15; clear BK233; clear BK268; clear HB; have HO_5 := n0_; have HO_9 := n1_; have HO_11 := n2_; have HO_13 := n3_; have HO_15 := n4_; have BK233 := n5_; have BK268 := n6_; have HB := n7_; clear n0_ n1_ n2_ n3_ n4_ n5_ n6_ n7_; (try clear hb); (try clear hb2); (try clear hk); (try clear hi)) | ((with_reducible refine gate_dst (N := 20) rfl ?_); (try (refine gate_guard (by rfl) ?_; dsimp only)); refine box_event ?hg (N := 20) ?hd (cs := #[.int .i64 0, .int .i64 0]) (t := 54) ?hr ?_; (case hd => rfl); (case hg => rfl); (case hr => first | (go_simp; done) | (go_simp; rfl)); intro gb272 hg w187 hbox hb; have n0_ := aM7_ (rB7_ q7x11_ hb); have n1_ := aM7_ (rB7_ q7x12_ hb); have n2_ := aM7_ (rB7_ q7x15_ hb); have n3_ := aM7_ (rB7_ q7x16_ hb); have n4_ := aM7_ (rB7_ q7x13_ hb); have n5_ := aM7_ (kB7_ (g := gb233) (o := .cells #[.int .i64 (wrap64 (t229 - 4)), .int .i64 (wrap64 (t230 - 4)), .int .i64 (wrap64 (t231 - 2)), .int .i64 (wrap64 (t232 - 4))] 27 (0, 0)) q7x2_ hb); have n6_ := aM7_ (kB7_ (g := gb268) (o := .cells #[.int .i64 t265, .int .i64 t266] 54 (0, 0)) q7x8_ hb); have n7_ := aM7_ (bT7_ q7x3_ hb); have n8_ := aM7_ (hbox); have n9_ := aM7_ ((q7x33_ : w.heap.size ≤ gb272)); have n10_ := aM7_ ((q7x33_ : w.heap.size ≤ gb272)); have n11_ := aM7_ ((q7x6_ : gb233 ≠ gb272)); have n12_ := aM7_ ((q7x7_ : gb272 ≠ gb233)); have n13_ := aM7_ ((q7x28_ : gb268 ≠ gb272)); have n14_ := aM7_ ((q7x29_ : gb272 ≠ gb268)); clear HO_5; clear HO_9; clear HO_11; clear HO_13; clear HO_15; clear BK233; clear BK268; clear HB; have HO_5 := n0_; have HO_9 := n1_; have HO_11 := n2_; have HO_13 := n3_; have HO_15 := n4_; have BK233 := n5_; have BK268 := n6_; have HB := n7_; have BK272 := n8_; have GW272 := n9_; have GE272 := n10_; have NB233_272 := n11_; have NB272_233 := n12_; have NB268_272 := n13_; have NB272_268 := n14_; clear n0_ n1_ n2_ n3_ n4_ n5_ n6_ n7_ n8_ n9_ n10_ n11_ n12_ n13_ n14_; clear hb hbox hg; have hnb188 := NB272_233.out; have hnc188 := NB233_272.out; have hnb189 := NB272_268.out; have hnc189 := NB268_272.out; have hcz190_0 : w187.cell? ⟨gb272, 0, none⟩ = some (.int .i64 0) := (kC7_ BK272.out 0).trans rfl; have hcz190_1 : w187.cell? ⟨gb272, 1, none⟩ = some (.int .i64 0) := (kC7_ BK272.out 1).trans rfl; have hfz190_0 := blk_frozen BK272.out 0; have hfz190_1 := blk_frozen BK272.out 1) | go_quiet (fail))
      go_ret
      exact ⟨by first | rfl | (simp [errW_none, errW_some] <;> rfl) | (simp [*, errW_none, errW_some] <;> rfl), by repeat (first | (with_reducible first | exact HB.out | apply below_alloc | apply pw_below_drewN | apply below_drew1 | refine bS7_ ?_ GE233.out | refine bS7_ ?_ GE268.out | refine bS7_ ?_ GE272.out) | exact HB.out)⟩

     rw [if_pos c75] at H
     have c75b0 : (t267 == 0) = true := beq_iff_eq.mpr c75
     have c75b1 : (t267 != 0) = false := bne_eq_false_iff_eq.mpr c75
     clear c75
     by_cases c76 : t237 = 0
     rotate_left
     ·rw [if_neg c76] at H
      have c76b0 : (t237 == 0) = false := beq_eq_false_iff_ne.mpr c76
      have c76b1 : (t237 != 0) = true := bne_iff_ne.mpr c76
      by_cases c145 : t237 = 4
      rotate_left
      ·rw [if_neg c145] at H
       have c145b0 : (t237 == 4) = false := beq_eq_false_iff_ne.mpr c145
       have c145b1 : (t237 != 4) = true := bne_iff_ne.mpr c145
       obtain rfl := Option.some.inj H
       obtain ⟨Ao169, co169, eo169⟩ := Kd.R_slice HO_13.out
       subst eo169
       go_wp2_with (first | (go_at_call 30; (with_reducible refine (spec_RatioOf.calls k2 _ _ t226 t265 t266 t267 _ ?side1 ?side2 A73.out).mono ?_); (case side1 => repeat (first | exact (Kd.R_reads' HO_5.out).2.2 | (with_reducible refine Kd.C_alloc ?_ _) | (with_reducible refine Kd.C_drewN ?_ _) | (with_reducible refine Kd.C_drew ?_))); (case side2 => exact (Kd.R_reads' HO_5.out).2.1); rintro e w170 ⟨rfl, hb⟩; have n0_ := aM7_ (rB7_ q7x11_ hb); have n1_ := aM7_ (rB7_ q7x12_ hb); have n2_ := aM7_ (rB7_ q7x15_ hb); have n3_ := aM7_ (rB7_ q7x16_ hb); have n4_ := aM7_ (rB7_ q7x13_ hb); have n5_ := aM7_ (kB7_ (g := gb233) (o := .cells #[.int .i64 (wrap64 (t229 - 4)), .int .i64 (wrap64 (t230 - 4)), .int .i64 (wrap64 (t231 - 2)), .int .i64 (wrap64 (t232 - 4))] 27 (0, 0)) q7x2_ hb); have n6_ := aM7_ (bT7_ q7x1_ hb); clear HO_5; clear HO_9; clear HO_11; clear HO_13; clear HO_15; clear BK233; clear HB; have HO_5 := n0_; have HO_9 := n1_; have HO_11 := n2_; have HO_13 := n3_; have HO_15 := n4_; have BK233 := n5_; have HB := n6_; clear n0_ n1_ n2_ n3_ n4_ n5_ n6_; (try clear hb); (try clear hb2); (try clear hk); (try clear hi)) | ((with_reducible refine gate_dst (N := 18) rfl ?_); (try (refine gate_guard (by rfl) ?_; dsimp only)); refine box_event ?hg (N := 18) ?hd (cs := #[.int .i64 0, .int .i64 0]) (t := 54) ?hr ?_; (case hd => rfl); (case hg => rfl); (case hr => first | (go_simp; done) | (go_simp; rfl)); intro gb268 hg w171 hbox hb; have n0_ := aM7_ (rB7_ q7x11_ hb); have n1_ := aM7_ (rB7_ q7x12_ hb); have n2_ := aM7_ (rB7_ q7x15_ hb); have n3_ := aM7_ (rB7_ q7x16_ hb); have n4_ := aM7_ (rB7_ q7x13_ hb); have n5_ := aM7_ (kB7_ (g := gb233) (o := .cells #[.int .i64 (wrap64 (t229 - 4)), .int .i64 (wrap64 (t230 - 4)), .int .i64 (wrap64 (t231 - 2)), .int .i64 (wrap64 (t232 - 4))] 27 (0, 0)) q7x2_ hb); have n6_ := aM7_ (bT7_ q7x1_ hb); have n7_ := aM7_ (hbox); have n8_ := aM7_ ((q7x32_ : w.heap.size ≤ gb268)); have n9_ := aM7_ ((q7x32_ : w.heap.size ≤ gb268)); have n10_ := aM7_ ((q7x6_ : gb233 ≠ gb268)); have n11_ := aM7_ ((q7x7_ : gb268 ≠ gb233)); clear HO_5; clear HO_9; clear HO_11; clear HO_13; clear HO_15; clear BK233; clear HB; have HO_5 := n0_; have HO_9 := n1_; have HO_11 := n2_; have HO_13 := n3_; have HO_15 := n4_; have BK233 := n5_; have HB := n6_; have BK268 := n7_; have GW268 := n8_; have GE268 := n9_; have NB233_268 := n10_; have NB268_233 := n11_; clear n0_ n1_ n2_ n3_ n4_ n5_ n6_ n7_ n8_ n9_ n10_ n11_; clear hb hbox hg; have hnb172 := NB268_233.out; have hnc172 := NB233_268.out; have hcz173_0 : w171.cell? ⟨gb268, 0, none⟩ = some (.int .i64 0) := (kC7_ BK268.out 0).trans rfl; have hcz173_1 : w171.cell? ⟨gb268, 1, none⟩ = some (.int .i64 0) := (kC7_ BK268.out 1).trans rfl; have hfz173_0 := blk_frozen BK268.out 0; have hfz173_1 := blk_frozen BK268.out 1; have hcz174_0 : w171.cell? ⟨gb233, 0, none⟩ = some (.int .i64 (wrap64 (t229 - 4))) := (kC7_ BK233.out 0).trans rfl; have hcz174_1 : w171.cell? ⟨gb233, 1, none⟩ = some (.int .i64 (wrap64 (t230 - 4))) := (kC7_ BK233.out 1).trans rfl; have hcz174_2 : w171.cell? ⟨gb233, 2, none⟩ = some (.int .i64 (wrap64 (t231 - 2))) := (kC7_ BK233.out 2).trans rfl; have hcz174_3 : w171.cell? ⟨gb233, 3, none⟩ = some (.int .i64 (wrap64 (t232 - 4))) := (kC7_ BK233.out 3).trans rfl; have hfz174_0 := blk_frozen BK233.out 0; have hfz174_1 := blk_frozen BK233.out 1; have hfz174_2 := blk_frozen BK233.out 2; have hfz174_3 := blk_frozen BK233.out 3) | (go_at_call 31; (with_reducible refine (spec_A2Pair.calls k2 (wrap64 (t229 - 4)) (wrap64 (t230 - 4)) (wrap64 (t231 - 2)) (wrap64 (t232 - 4)) t265 t266 t269 t270 t271 _ A74.out).mono ?_); rintro e w175 ⟨rfl, hb⟩; have n0_ := aM7_ (rB7_ q7x22_ hb); have n1_ := aM7_ (rB7_ q7x23_ hb); have n2_ := aM7_ (rB7_ q7x18_ hb); have n3_ := aM7_ (rB7_ q7x19_ hb); have n4_ := aM7_ (rB7_ q7x20_ hb); have n5_ := aM7_ (kB7_ (g := gb233) (o := .cells #[.int .i64 (wrap64 (t229 - 4)), .int .i64 (wrap64 (t230 - 4)), .int .i64 (wrap64 (t231 - 2)), .int .i64 (wrap64 (t232 - 4))] 27 (0, 0)) q7x17_ hb); have n6_ := aM7_ (kB7_ (g := gb268) (o := .cells #[.int .i64 t265, .int .i64 t266] 54 (0, 0)) q7x9_ hb); have n7_ := aM7_ (bT7_ q7x3_ hb); clear HO_5; clear HO_9; clear HO_11; clear HO_13; clear HO_15; clear BK233; clear BK268; clear HB; have HO_5 := n0_; have HO_9 := n1_; have HO_11 := n2_; have HO_13 := n3_; have HO_15 := n4_; have BK233 := n5_; have BK268 := n6_; have HB := n7_; clear n0_ n1_ n2_ n3_ n4_ n5_ n6_ n7_; (try clear hb); (try clear hb2); (try clear hk); (try clear hi)) | ((with_reducible refine gate_dst (N := 20) rfl ?_); (try (refine gate_guard (by rfl) ?_; dsimp only)); refine box_event ?hg (N := 20) ?hd (cs := #[.int .i64 0, .int .i64 0]) (t := 54) ?hr ?_; (case hd => rfl); (case hg => rfl); (case hr => first | (go_simp; done) | (go_simp; rfl)); intro gb272 hg w176 hbox hb; have n0_ := aM7_ (rB7_ q7x11_ hb); have n1_ := aM7_ (rB7_ q7x12_ hb); have n2_ := aM7_ (rB7_ q7x15_ hb); have n3_ := aM7_ (rB7_ q7x16_ hb); have n4_ := aM7_ (rB7_ q7x13_ hb); have n5_ := aM7_ (kB7_ (g := gb233) (o := .cells #[.int .i64 (wrap64 (t229 - 4)), .int .i64 (wrap64 (t230 - 4)), .int .i64 (wrap64 (t231 - 2)), .int .i64 (wrap64 (t232 - 4))] 27 (0, 0)) q7x2_ hb); have n6_ := aM7_ (kB7_ (g := gb268) (o := .cells #[.int .i64 t265, .int .i64 t266] 54 (0, 0)) q7x8_ hb); have n7_ := aM7_ (bT7_ q7x3_ hb); have n8_ := aM7_ (hbox); have n9_ := aM7_ ((q7x33_ : w.heap.size ≤ gb272)); have n10_ := aM7_ ((q7x33_ : w.heap.size ≤ gb272)); have n11_ := aM7_ ((q7x6_ : gb233 ≠ gb272)); have n12_ := aM7_ ((q7x7_ : gb272 ≠ gb233)); have n13_ := aM7_ ((q7x28_ : gb268 ≠ gb272)); have n14_ := aM7_ ((q7x29_ : gb272 ≠ gb268)); clear HO_5; clear HO_9; clear HO_11; clear HO_13; clear HO_15; clear BK233; clear BK268; clear HB; have HO_5 := n0_; have HO_9 := n1_; have HO_11 := n2_; have HO_13 := n3_; have HO_15 := n4_; have BK233 := n5_; have BK268 := n6_; have HB := n7_; have BK272 := n8_; have GW272 := n9_; have GE272 := n10_; have NB233_272 := n11_; have NB272_233 := n12_; have NB268_272 := n13_; have NB272_268 := n14_; clear n0_ n1_ n2_ n3_ n4_ n5_ n6_ n7_ n8_ n9_ n10_ n11_ n12_ n13_ n14_; clear hb hbox hg; have hnb177 := NB272_233.out; have hnc177 := NB233_272.out; have hnb178 := NB272_268.out; have hnc178 := NB268_272.out; have hcz179_0 : w176.cell? ⟨gb272, 0, none⟩ = some (.int .i64 0) := (kC7_ BK272.out 0).trans rfl; have hcz179_1 : w176.cell? ⟨gb272, 1, none⟩ = some (.int .i64 0) := (kC7_ BK272.out 1).trans rfl; have hfz179_0 := blk_frozen BK272.out 0; have hfz179_1 := blk_frozen BK272.out 1) | go_quiet (fail))
       go_ret
       exact ⟨by first | rfl | (simp [errW_none, errW_some] <;> rfl) | (simp [*, errW_none, errW_some] <;> rfl), by repeat (first | (with_reducible first | exact HB.out | apply below_alloc | apply pw_below_drewN | apply below_drew1 | refine bS7_ ?_ GE233.out | refine bS7_ ?_ GE268.out | refine bS7_ ?_ GE272.out) | exact HB.out)⟩
      rw [if_pos c145] at H
      have c145b0 : (t237 == 4) = true := beq_iff_eq.mpr c145
      have c145b1 : (t237 != 4) = false := bne_eq_false_iff_eq.mpr c145
      clear c145
      by_cases c146 : t271 = true
      ·subst c146
       have H1 : (some (t237 == 3)) = some r := by rw [if_pos rfl] at H; exact H
       clear H
       have H := H1
       clear H1
       obtain rfl := Option.some.inj H
       obtain ⟨Ao147, co147, eo147⟩ := Kd.R_slice HO_13.out
       subst eo147
       go_wp2_with (first | (go_at_call 30; (with_reducible refine (spec_RatioOf.calls k2 _ _ t226 t265 t266 t267 _ ?side1 ?side2 A73.out).mono ?_); (case side1 => repeat (first | exact (Kd.R_reads' HO_5.out).2.2 | (with_reducible refine Kd.C_alloc ?_ _) | (with_reducible refine Kd.C_drewN ?_ _) | (with_reducible refine Kd.C_drew ?_))); (case side2 => exact (Kd.R_reads' HO_5.out).2.1); rintro e w148 ⟨rfl, hb⟩; have n0_ := aM7_ (rB7_ q7x11_ hb); have n1_ := aM7_ (rB7_ q7x12_ hb); have n2_ := aM7_ (rB7_ q7x15_ hb); have n3_ := aM7_ (rB7_ q7x16_ hb); have n4_ := aM7_ (rB7_ q7x13_ hb); have n5_ := aM7_ (kB7_ (g := gb233) (o := .cells #[.int .i64 (wrap64 (t229 - 4)), .int .i64 (wrap64 (t230 - 4)), .int .i64 (wrap64 (t231 - 2)), .int .i64 (wrap64 (t232 - 4))] 27 (0, 0)) q7x2_ hb); have n6_ := aM7_ (bT7_ q7x1_ hb); clear HO_5; clear HO_9; clear HO_11; clear HO_13; clear HO_15; clear BK233; clear HB; have HO_5 := n0_; have HO_9 := n1_; have HO_11 := n2_; have HO_13 := n3_; have HO_15 := n4_; have BK233 := n5_; have HB := n6_; clear n0_ n1_ n2_ n3_ n4_ n5_ n6_; (try clear hb); (try clear hb2); (try clear hk); (try clear hi)) | ((with_reducible refine gate_dst (N := 18) rfl ?_); (try (refine gate_guard (by rfl) ?_; dsimp only)); refine box_event ?hg (N := 18) ?hd (cs := #[.int .i64 0, .int .i64 0]) (t := 54) ?hr ?_; (case hd => rfl); (case hg => rfl); (case hr => first | (go_simp; done) | (go_simp; rfl)); intro gb268 hg w149 hbox hb; have n0_ := aM7_ (rB7_ q7x11_ hb); have n1_ := aM7_ (rB7_ q7x12_ hb); have n2_ := aM7_ (rB7_ q7x15_ hb); have n3_ := aM7_ (rB7_ q7x16_ hb); have n4_ := aM7_ (rB7_ q7x13_ hb); have n5_ := aM7_ (kB7_ (g := gb233) (o := .cells #[.int .i64 (wrap64 (t229 - 4)), .int .i64 (wrap64 (t230 - 4)), .int .i64 (wrap64 (t231 - 2)), .int .i64 (wrap64 (t232 - 4))] 27 (0, 0)) q7x2_ hb); have n6_ := aM7_ (bT7_ q7x1_ hb); have n7_ := aM7_ (hbox); have n8_ := aM7_ ((q7x32_ : w.heap.size ≤ gb268)); have n9_ := aM7_ ((q7x32_ : w.heap.size ≤ gb268)); have n10_ := aM7_ ((q7x6_ : gb233 ≠ gb268)); have n11_ := aM7_ ((q7x7_ : gb268 ≠ gb233)); clear HO_5; clear HO_9; clear HO_11; clear HO_13; clear HO_15; clear BK233; clear HB; have HO_5 := n0_; have HO_9 := n1_; have HO_11 := n2_; have HO_13 := n3_; have HO_15 := n4_; have BK233 := n5_; have HB := n6_; have BK268 := n7_; have GW268 := n8_; have GE268 := n9_; have NB233_268 := n10_; have NB268_233 := n11_; clear n0_ n1_ n2_ n3_ n4_ n5_ n6_ n7_ n8_ n9_ n10_ n11_; clear hb hbox hg; have hnb150 := NB268_233.out; have hnc150 := NB233_268.out; have hcz151_0 : w149.cell? ⟨gb268, 0, none⟩ = some (.int .i64 0) := (kC7_ BK268.out 0).trans rfl; have hcz151_1 : w149.cell? ⟨gb268, 1, none⟩ = some (.int .i64 0) := (kC7_ BK268.out 1).trans rfl; have hfz151_0 := blk_frozen BK268.out 0; have hfz151_1 := blk_frozen BK268.out 1; have hcz152_0 : w149.cell? ⟨gb233, 0, none⟩ = some (.int .i64 (wrap64 (t229 - 4))) := (kC7_ BK233.out 0).trans rfl; have hcz152_1 : w149.cell? ⟨gb233, 1, none⟩ = some (.int .i64 (wrap64 (t230 - 4))) := (kC7_ BK233.out 1).trans rfl; have hcz152_2 : w149.cell? ⟨gb233, 2, none⟩ = some (.int .i64 (wrap64 (t231 - 2))) := (kC7_ BK233.out 2).trans rfl; have hcz152_3 : w149.cell? ⟨gb233, 3, none⟩ = some (.int .i64 (wrap64 (t232 - 4))) := (kC7_ BK233.out 3).trans rfl; have hfz152_0 := blk_frozen BK233.out 0; have hfz152_1 := blk_frozen BK233.out 1; have hfz152_2 := blk_frozen BK233.out 2; have hfz152_3 := blk_frozen BK233.out 3) | (go_at_call 31; (with_reducible refine (spec_A2Pair.calls k2 (wrap64 (t229 - 4)) (wrap64 (t230 - 4)) (wrap64 (t231 - 2)) (wrap64 (t232 - 4)) t265 t266 t269 t270 true _ A74.out).mono ?_); rintro e w153 ⟨rfl, hb⟩; have n0_ := aM7_ (rB7_ q7x22_ hb); have n1_ := aM7_ (rB7_ q7x23_ hb); have n2_ := aM7_ (rB7_ q7x18_ hb); have n3_ := aM7_ (rB7_ q7x19_ hb); have n4_ := aM7_ (rB7_ q7x20_ hb); have n5_ := aM7_ (kB7_ (g := gb233) (o := .cells #[.int .i64 (wrap64 (t229 - 4)), .int .i64 (wrap64 (t230 - 4)), .int .i64 (wrap64 (t231 - 2)), .int .i64 (wrap64 (t232 - 4))] 27 (0, 0)) q7x17_ hb); have n6_ := aM7_ (kB7_ (g := gb268) (o := .cells #[.int .i64 t265, .int .i64 t266] 54 (0, 0)) q7x9_ hb); have n7_ := aM7_ (bT7_ q7x3_ hb); clear HO_5; clear HO_9; clear HO_11; clear HO_13; clear HO_15; clear BK233; clear BK268; clear HB; have HO_5 := n0_; have HO_9 := n1_; have HO_11 := n2_; have HO_13 := n3_; have HO_15 := n4_; have BK233 := n5_; have BK268 := n6_; have HB := n7_; clear n0_ n1_ n2_ n3_ n4_ n5_ n6_ n7_; (try clear hb); (try clear hb2); (try clear hk); (try clear hi)) | ((with_reducible refine gate_dst (N := 20) rfl ?_); (try (refine gate_guard (by rfl) ?_; dsimp only)); refine box_event ?hg (N := 20) ?hd (cs := #[.int .i64 0, .int .i64 0]) (t := 54) ?hr ?_; (case hd => rfl); (case hg => rfl); (case hr => first | (go_simp; done) | (go_simp; rfl)); intro gb272 hg w154 hbox hb; have n0_ := aM7_ (rB7_ q7x11_ hb); have n1_ := aM7_ (rB7_ q7x12_ hb); have n2_ := aM7_ (rB7_ q7x15_ hb); have n3_ := aM7_ (rB7_ q7x16_ hb); have n4_ := aM7_ (rB7_ q7x13_ hb); have n5_ := aM7_ (kB7_ (g := gb233) (o := .cells #[.int .i64 (wrap64 (t229 - 4)), .int .i64 (wrap64 (t230 - 4)), .int .i64 (wrap64 (t231 - 2)), .int .i64 (wrap64 (t232 - 4))] 27 (0, 0)) q7x2_ hb); have n6_ := aM7_ (kB7_ (g := gb268) (o := .cells #[.int .i64 t265, .int .i64 t266] 54 (0, 0)) q7x8_ hb); have n7_ := aM7_ (bT7_ q7x3_ hb); have n8_ := aM7_ (hbox); have n9_ := aM7_ ((q7x33_ : w.heap.size ≤ gb272)); have n10_ := aM7_ ((q7x33_ : w.heap.size ≤ gb272)); have n11_ := aM7_ ((q7x6_ : gb233 ≠ gb272)); have n12_ := aM7_ ((q7x7_ : gb272 ≠ gb233)); have n13_ := aM7_ ((q7x28_ : gb268 ≠ gb272)); have n14_ := aM7_ ((q7x29_ : gb272 ≠ gb268)); clear HO_5; clear HO_9; clear HO_11; clear HO_13; clear HO_15; clear BK233; clear BK268; clear HB; have HO_5 := n0_; have HO_9 := n1_; have HO_11 := n2_; have HO_13 := n3_; have HO_15 := n4_; have BK233 := n5_; have BK268 := n6_; have HB := n7_; have BK272 := n8_; have GW272 := n9_; have GE272 := n10_; have NB233_272 := n11_; have NB272_233 := n12_; have NB268_272 := n13_; have NB272_268 := n14_; clear n0_ n1_ n2_ n3_ n4_ n5_ n6_ n7_ n8_ n9_ n10_ n11_ n12_ n13_ n14_; clear hb hbox hg; have hnb155 := NB272_233.out; have hnc155 := NB233_272.out; have hnb156 := NB272_268.out; have hnc156 := NB268_272.out; have hcz157_0 : w154.cell? ⟨gb272, 0, none⟩ = some (.int .i64 0) := (kC7_ BK272.out 0).trans rfl; have hcz157_1 : w154.cell? ⟨gb272, 1, none⟩ = some (.int .i64 0) := (kC7_ BK272.out 1).trans rfl; have hfz157_0 := blk_frozen BK272.out 0; have hfz157_1 := blk_frozen BK272.out 1) | go_quiet (fail))
       go_ret
       exact ⟨by first | rfl | (simp [errW_none, errW_some] <;> rfl) | (simp [*, errW_none, errW_some] <;> rfl), by repeat (first | (with_reducible first | exact HB.out | apply below_alloc | apply pw_below_drewN | apply below_drew1 | refine bS7_ ?_ GE233.out | refine bS7_ ?_ GE268.out | refine bS7_ ?_ GE272.out) | exact HB.out)⟩
      replace c146 := Bool.eq_false_iff.mpr c146
      subst c146
      have H1 : (some true) = some r := by rw [if_neg (show ¬ (false = true) by decide)] at H; exact H
      clear H
      have H := H1
      clear H1
      obtain rfl := Option.some.inj H
      obtain ⟨Ao158, co158, eo158⟩ := Kd.R_slice HO_13.out
      subst eo158
      go_wp2_with (first | (go_at_call 30; (with_reducible refine (spec_RatioOf.calls k2 _ _ t226 t265 t266 t267 _ ?side1 ?side2 A73.out).mono ?_); (case side1 => repeat (first | exact (Kd.R_reads' HO_5.out).2.2 | (with_reducible refine Kd.C_alloc ?_ _) | (with_reducible refine Kd.C_drewN ?_ _) | (with_reducible refine Kd.C_drew ?_))); (case side2 => exact (Kd.R_reads' HO_5.out).2.1); rintro e w159 ⟨rfl, hb⟩; have n0_ := aM7_ (rB7_ q7x11_ hb); have n1_ := aM7_ (rB7_ q7x12_ hb); have n2_ := aM7_ (rB7_ q7x15_ hb); have n3_ := aM7_ (rB7_ q7x16_ hb); have n4_ := aM7_ (rB7_ q7x13_ hb); have n5_ := aM7_ (kB7_ (g := gb233) (o := .cells #[.int .i64 (wrap64 (t229 - 4)), .int .i64 (wrap64 (t230 - 4)), .int .i64 (wrap64 (t231 - 2)), .int .i64 (wrap64 (t232 - 4))] 27 (0, 0)) q7x2_ hb); have n6_ := aM7_ (bT7_ q7x1_ hb); clear HO_5; clear HO_9; clear HO_11; clear HO_13; clear HO_15; clear BK233; clear HB; have HO_5 := n0_; have HO_9 := n1_; have HO_11 := n2_; have HO_13 := n3_; have HO_15 := n4_; have BK233 := n5_; have HB := n6_; clear n0_ n1_ n2_ n3_ n4_ n5_ n6_; (try clear hb); (try clear hb2); (try clear hk); (try clear hi)) | ((with_reducible refine gate_dst (N := 18) rfl ?_); (try (refine gate_guard (by rfl) ?_; dsimp only)); refine box_event ?hg (N := 18) ?hd (cs := #[.int .i64 0, .int .i64 0]) (t := 54) ?hr ?_; (case hd => rfl); (case hg => rfl); (case hr => first | (go_simp; done) | (go_simp; rfl)); intro gb268 hg w160 hbox hb; have n0_ := aM7_ (rB7_ q7x11_ hb); have n1_ := aM7_ (rB7_ q7x12_ hb); have n2_ := aM7_ (rB7_ q7x15_ hb); have n3_ := aM7_ (rB7_ q7x16_ hb); have n4_ := aM7_ (rB7_ q7x13_ hb); have n5_ := aM7_ (kB7_ (g := gb233) (o := .cells #[.int .i64 (wrap64 (t229 - 4)), .int .i64 (wrap64 (t230 - 4)), .int .i64 (wrap64 (t231 - 2)), .int .i64 (wrap64 (t232 - 4))] 27 (0, 0)) q7x2_ hb); have n6_ := aM7_ (bT7_ q7x1_ hb); have n7_ := aM7_ (hbox); have n8_ := aM7_ ((q7x32_ : w.heap.size ≤ gb268)); have n9_ := aM7_ ((q7x32_ : w.heap.size ≤ gb268)); have n10_ := aM7_ ((q7x6_ : gb233 ≠ gb268)); have n11_ := aM7_ ((q7x7_ : gb268 ≠ gb233)); clear HO_5; clear HO_9; clear HO_11; clear HO_13; clear HO_15; clear BK233; clear HB; have HO_5 := n0_; have HO_9 := n1_; have HO_11 := n2_; have HO_13 := n3_; have HO_15 := n4_; have BK233 := n5_; have HB := n6_; have BK268 := n7_; have GW268 := n8_; have GE268 := n9_; have NB233_268 := n10_; have NB268_233 := n11_; clear n0_ n1_ n2_ n3_ n4_ n5_ n6_ n7_ n8_ n9_ n10_ n11_; clear hb hbox hg; have hnb161 := NB268_233.out; have hnc161 := NB233_268.out; have hcz162_0 : w160.cell? ⟨gb268, 0, none⟩ = some (.int .i64 0) := (kC7_ BK268.out 0).trans rfl; have hcz162_1 : w160.cell? ⟨gb268, 1, none⟩ = some (.int .i64 0) := (kC7_ BK268.out 1).trans rfl; have hfz162_0 := blk_frozen BK268.out 0; have hfz162_1 := blk_frozen BK268.out 1; have hcz163_0 : w160.cell? ⟨gb233, 0, none⟩ = some (.int .i64 (wrap64 (t229 - 4))) := (kC7_ BK233.out 0).trans rfl; have hcz163_1 : w160.cell? ⟨gb233, 1, none⟩ = some (.int .i64 (wrap64 (t230 - 4))) := (kC7_ BK233.out 1).trans rfl; have hcz163_2 : w160.cell? ⟨gb233, 2, none⟩ = some (.int .i64 (wrap64 (t231 - 2))) := (kC7_ BK233.out 2).trans rfl; have hcz163_3 : w160.cell? ⟨gb233, 3, none⟩ = some (.int .i64 (wrap64 (t232 - 4))) := (kC7_ BK233.out 3).trans rfl; have hfz163_0 := blk_frozen BK233.out 0; have hfz163_1 := blk_frozen BK233.out 1; have hfz163_2 := blk_frozen BK233.out 2; have hfz163_3 := blk_frozen BK233.out 3) | (go_at_call 31; (with_reducible refine (spec_A2Pair.calls k2 (wrap64 (t229 - 4)) (wrap64 (t230 - 4)) (wrap64 (t231 - 2)) (wrap64 (t232 - 4)) t265 t266 t269 t270 false _ A74.out).mono ?_); rintro e w164 ⟨rfl, hb⟩; have n0_ := aM7_ (rB7_ q7x22_ hb); have n1_ := aM7_ (rB7_ q7x23_ hb); have n2_ := aM7_ (rB7_ q7x18_ hb); have n3_ := aM7_ (rB7_ q7x19_ hb); have n4_ := aM7_ (rB7_ q7x20_ hb); have n5_ := aM7_ (kB7_ (g := gb233) (o := .cells #[.int .i64 (wrap64 (t229 - 4)), .int .i64 (wrap64 (t230 - 4)), .int .i64 (wrap64 (t231 - 2)), .int .i64 (wrap64 (t232 - 4))] 27 (0, 0)) q7x17_ hb); have n6_ := aM7_ (kB7_ (g := gb268) (o := .cells #[.int .i64 t265, .int .i64 t266] 54 (0, 0)) q7x9_ hb); have n7_ := aM7_ (bT7_ q7x3_ hb); clear HO_5; clear HO_9; clear HO_11; clear HO_13; clear HO_15; clear BK233; clear BK268; clear HB; have HO_5 := n0_; have HO_9 := n1_; have HO_11 := n2_; have HO_13 := n3_; have HO_15 := n4_; have BK233 := n5_; have BK268 := n6_; have HB := n7_; clear n0_ n1_ n2_ n3_ n4_ n5_ n6_ n7_; (try clear hb); (try clear hb2); (try clear hk); (try clear hi)) | ((with_reducible refine gate_dst (N := 20) rfl ?_); (try (refine gate_guard (by rfl) ?_; dsimp only)); refine box_event ?hg (N := 20) ?hd (cs := #[.int .i64 0, .int .i64 0]) (t := 54) ?hr ?_; (case hd => rfl); (case hg => rfl); (case hr => first | (go_simp; done) | (go_simp; rfl)); intro gb272 hg w165 hbox hb; have n0_ := aM7_ (rB7_ q7x11_ hb); have n1_ := aM7_ (rB7_ q7x12_ hb); have n2_ := aM7_ (rB7_ q7x15_ hb); have n3_ := aM7_ (rB7_ q7x16_ hb); have n4_ := aM7_ (rB7_ q7x13_ hb); have n5_ := aM7_ (kB7_ (g := gb233) (o := .cells #[.int .i64 (wrap64 (t229 - 4)), .int .i64 (wrap64 (t230 - 4)), .int .i64 (wrap64 (t231 - 2)), .int .i64 (wrap64 (t232 - 4))] 27 (0, 0)) q7x2_ hb); have n6_ := aM7_ (kB7_ (g := gb268) (o := .cells #[.int .i64 t265, .int .i64 t266] 54 (0, 0)) q7x8_ hb); have n7_ := aM7_ (bT7_ q7x3_ hb); have n8_ := aM7_ (hbox); have n9_ := aM7_ ((q7x33_ : w.heap.size ≤ gb272)); have n10_ := aM7_ ((q7x33_ : w.heap.size ≤ gb272)); have n11_ := aM7_ ((q7x6_ : gb233 ≠ gb272)); have n12_ := aM7_ ((q7x7_ : gb272 ≠ gb233)); have n13_ := aM7_ ((q7x28_ : gb268 ≠ gb272)); have n14_ := aM7_ ((q7x29_ : gb272 ≠ gb268)); clear HO_5; clear HO_9; clear HO_11; clear HO_13; clear HO_15; clear BK233; clear BK268; clear HB; have HO_5 := n0_; have HO_9 := n1_; have HO_11 := n2_; have HO_13 := n3_; have HO_15 := n4_; have BK233 := n5_; have BK268 := n6_; have HB := n7_; have BK272 := n8_; have GW272 := n9_; have GE272 := n10_; have NB233_272 := n11_; have NB272_233 := n12_; have NB268_272 := n13_; have NB272_268 := n14_; clear n0_ n1_ n2_ n3_ n4_ n5_ n6_ n7_ n8_ n9_ n10_ n11_ n12_ n13_ n14_; clear hb hbox hg; have hnb166 := NB272_233.out; have hnc166 := NB233_272.out; have hnb167 := NB272_268.out; have hnc167 := NB268_272.out; have hcz168_0 : w165.cell? ⟨gb272, 0, none⟩ = some (.int .i64 0) := (kC7_ BK272.out 0).trans rfl; have hcz168_1 : w165.cell? ⟨gb272, 1, none⟩ = some (.int .i64 0) := (kC7_ BK272.out 1).trans rfl; have hfz168_0 := blk_frozen BK272.out 0; have hfz168_1 := blk_frozen BK272.out 1) | go_quiet (fail))
      go_ret
      exact ⟨by first | rfl | (simp [errW_none, errW_some] <;> rfl) | (simp [*, errW_none, errW_some] <;> rfl), by repeat (first | (with_reducible first | exact HB.out | apply below_alloc | apply pw_below_drewN | apply below_drew1 | refine bS7_ ?_ GE233.out | refine bS7_ ?_ GE268.out | refine bS7_ ?_ GE272.out) | exact HB.out)⟩
     rw [if_pos c76] at H
     have c76b0 : (t237 == 0) = true := beq_iff_eq.mpr c76
     have c76b1 : (t237 != 0) = false := bne_eq_false_iff_eq.mpr c76
     clear c76
     by_cases c77 : t271 = true
     rotate_left
     ·replace c77 := Bool.eq_false_iff.mpr c77
      subst c77
      have H1 : (some false) = some r := by rw [if_neg (show ¬ (false = true) by decide)] at H; exact H
      clear H
      have H := H1
      clear H1
      obtain rfl := Option.some.inj H
      obtain ⟨Ao134, co134, eo134⟩ := Kd.R_slice HO_13.out
      subst eo134
      go_wp2_with (first | (go_at_call 30; (with_reducible refine (spec_RatioOf.calls k2 _ _ t226 t265 t266 t267 _ ?side1 ?side2 A73.out).mono ?_); (case side1 => repeat (first | exact (Kd.R_reads' HO_5.out).2.2 | (with_reducible refine Kd.C_alloc ?_ _) | (with_reducible refine Kd.C_drewN ?_ _) | (with_reducible refine Kd.C_drew ?_))); (case side2 => exact (Kd.R_reads' HO_5.out).2.1); rintro e w135 ⟨rfl, hb⟩; have n0_ := aM7_ (rB7_ q7x11_ hb); have n1_ := aM7_ (rB7_ q7x12_ hb); have n2_ := aM7_ (rB7_ q7x15_ hb); have n3_ := aM7_ (rB7_ q7x16_ hb); have n4_ := aM7_ (rB7_ q7x13_ hb); have n5_ := aM7_ (kB7_ (g := gb233) (o := .cells #[.int .i64 (wrap64 (t229 - 4)), .int .i64 (wrap64 (t230 - 4)), .int .i64 (wrap64 (t231 - 2)), .int .i64 (wrap64 (t232 - 4))] 27 (0, 0)) q7x2_ hb); have n6_ := aM7_ (bT7_ q7x1_ hb); clear HO_5; clear HO_9; clear HO_11; clear HO_13; clear HO_15; clear BK233; clear HB; have HO_5 := n0_; have HO_9 := n1_; have HO_11 := n2_; have HO_13 := n3_; have HO_15 := n4_; have BK233 := n5_; have HB := n6_; clear n0_ n1_ n2_ n3_ n4_ n5_ n6_; (try clear hb); (try clear hb2); (try clear hk); (try clear hi)) | ((with_reducible refine gate_dst (N := 18) rfl ?_); (try (refine gate_guard (by rfl) ?_; dsimp only)); refine box_event ?hg (N := 18) ?hd (cs := #[.int .i64 0, .int .i64 0]) (t := 54) ?hr ?_; (case hd => rfl); (case hg => rfl); (case hr => first | (go_simp; done) | (go_simp; rfl)); intro gb268 hg w136 hbox hb; have n0_ := aM7_ (rB7_ q7x11_ hb); have n1_ := aM7_ (rB7_ q7x12_ hb); have n2_ := aM7_ (rB7_ q7x15_ hb); have n3_ := aM7_ (rB7_ q7x16_ hb); have n4_ := aM7_ (rB7_ q7x13_ hb); have n5_ := aM7_ (kB7_ (g := gb233) (o := .cells #[.int .i64 (wrap64 (t229 - 4)), .int .i64 (wrap64 (t230 - 4)), .int .i64 (wrap64 (t231 - 2)), .int .i64 (wrap64 (t232 - 4))] 27 (0, 0)) q7x2_ hb); have n6_ := aM7_ (bT7_ q7x1_ hb); have n7_ := aM7_ (hbox); have n8_ := aM7_ ((q7x32_ : w.heap.size ≤ gb268)); have n9_ := aM7_ ((q7x32_ : w.heap.size ≤ gb268)); have n10_ := aM7_ ((q7x6_ : gb233 ≠ gb268)); have n11_ := aM7_ ((q7x7_ : gb268 ≠ gb233)); clear HO_5; clear HO_9; clear HO_11; clear HO_13; clear HO_15; clear BK233; clear HB; have HO_5 := n0_; have HO_9 := n1_; have HO_11 := n2_; have HO_13 := n3_; have HO_15 := n4_; have BK233 := n5_; have HB := n6_; have BK268 := n7_; have GW268 := n8_; have GE268 := n9_; have NB233_268 := n10_; have NB268_233 := n11_; clear n0_ n1_ n2_ n3_ n4_ n5_ n6_ n7_ n8_ n9_ n10_ n11_; clear hb hbox hg; have hnb137 := NB268_233.out; have hnc137 := NB233_268.out; have hcz138_0 : w136.cell? ⟨gb268, 0, none⟩ = some (.int .i64 0) := (kC7_ BK268.out 0).trans rfl; have hcz138_1 : w136.cell? ⟨gb268, 1, none⟩ = some (.int .i64 0) := (kC7_ BK268.out 1).trans rfl; have hfz138_0 := blk_frozen BK268.out 0; have hfz138_1 := blk_frozen BK268.out 1; have hcz139_0 : w136.cell? ⟨gb233, 0, none⟩ = some (.int .i64 (wrap64 (t229 - 4))) := (kC7_ BK233.out 0).trans rfl; have hcz139_1 : w136.cell? ⟨gb233, 1, none⟩ = some (.int .i64 (wrap64 (t230 - 4))) := (kC7_ BK233.out 1).trans rfl; have hcz139_2 : w136.cell? ⟨gb233, 2, none⟩ = some (.int .i64 (wrap64 (t231 - 2))) := (kC7_ BK233.out 2).trans rfl; have hcz139_3 : w136.cell? ⟨gb233, 3, none⟩ = some (.int .i64 (wrap64 (t232 - 4))) := (kC7_ BK233.out 3).trans rfl; have hfz139_0 := blk_frozen BK233.out 0; have hfz139_1 := blk_frozen BK233.out 1; have hfz139_2 := blk_frozen BK233.out 2; have hfz139_3 := blk_frozen BK233.out 3) | (go_at_call 31; (with_reducible refine (spec_A2Pair.calls k2 (wrap64 (t229 - 4)) (wrap64 (t230 - 4)) (wrap64 (t231 - 2)) (wrap64 (t232 - 4)) t265 t266 t269 t270 false _ A74.out).mono ?_); rintro e w140 ⟨rfl, hb⟩; have n0_ := aM7_ (rB7_ q7x22_ hb); have n1_ := aM7_ (rB7_ q7x23_ hb); have n2_ := aM7_ (rB7_ q7x18_ hb); have n3_ := aM7_ (rB7_ q7x19_ hb); have n4_ := aM7_ (rB7_ q7x20_ hb); have n5_ := aM7_ (kB7_ (g := gb233) (o := .cells #[.int .i64 (wrap64 (t229 - 4)), .int .i64 (wrap64 (t230 - 4)), .int .i64 (wrap64 (t231 - 2)), .int .i64 (wrap64 (t232 - 4))] 27 (0, 0)) q7x17_ hb); have n6_ := aM7_ (kB7_ (g := gb268) (o := .cells #[.int .i64 t265, .int .i64 t266] 54 (0, 0)) q7x9_ hb); have n7_ := aM7_ (bT7_ q7x3_ hb); clear HO_5; clear HO_9; clear HO_11; clear HO_13; clear HO_15; clear BK233; clear BK268; clear HB; have HO_5 := n0_; have HO_9 := n1_; have HO_11 := n2_; have HO_13 := n3_; have HO_15 := n4_; have BK233 := n5_; have BK268 := n6_; have HB := n7_; clear n0_ n1_ n2_ n3_ n4_ n5_ n6_ n7_; (try clear hb); (try clear hb2); (try clear hk); (try clear hi)) | ((with_reducible refine gate_dst (N := 20) rfl ?_); (try (refine gate_guard (by rfl) ?_; dsimp only)); refine box_event ?hg (N := 20) ?hd (cs := #[.int .i64 0, .int .i64 0]) (t := 54) ?hr ?_; (case hd => rfl); (case hg => rfl); (case hr => first | (go_simp; done) | (go_simp; rfl)); intro gb272 hg w141 hbox hb; have n0_ := aM7_ (rB7_ q7x11_ hb); have n1_ := aM7_ (rB7_ q7x12_ hb); have n2_ := aM7_ (rB7_ q7x15_ hb); have n3_ := aM7_ (rB7_ q7x16_ hb); have n4_ := aM7_ (rB7_ q7x13_ hb); have n5_ := aM7_ (kB7_ (g := gb233) (o := .cells #[.int .i64 (wrap64 (t229 - 4)), .int .i64 (wrap64 (t230 - 4)), .int .i64 (wrap64 (t231 - 2)), .int .i64 (wrap64 (t232 - 4))] 27 (0, 0)) q7x2_ hb); have n6_ := aM7_ (kB7_ (g := gb268) (o := .cells #[.int .i64 t265, .int .i64 t266] 54 (0, 0)) q7x8_ hb); have n7_ := aM7_ (bT7_ q7x3_ hb); have n8_ := aM7_ (hbox); have n9_ := aM7_ ((q7x33_ : w.heap.size ≤ gb272)); have n10_ := aM7_ ((q7x33_ : w.heap.size ≤ gb272)); have n11_ := aM7_ ((q7x6_ : gb233 ≠ gb272)); have n12_ := aM7_ ((q7x7_ : gb272 ≠ gb233)); have n13_ := aM7_ ((q7x28_ : gb268 ≠ gb272)); have n14_ := aM7_ ((q7x29_ : gb272 ≠ gb268)); clear HO_5; clear HO_9; clear HO_11; clear HO_13; clear HO_15; clear BK233; clear BK268; clear HB; have HO_5 := n0_; have HO_9 := n1_; have HO_11 := n2_; have HO_13 := n3_; have HO_15 := n4_; have BK233 := n5_; have BK268 := n6_; have HB := n7_; have BK272 := n8_; have GW272 := n9_; have GE272 := n10_; have NB233_272 := n11_; have NB272_233 := n12_; have NB268_272 := n13_; have NB272_268 := n14_; clear n0_ n1_ n2_ n3_ n4_ n5_ n6_ n7_ n8_ n9_ n10_ n11_ n12_ n13_ n14_; clear hb hbox hg; have hnb142 := NB272_233.out; have hnc142 := NB233_272.out; have hnb143 := NB272_268.out; have hnc143 := NB268_272.out; have hcz144_0 : w141.cell? ⟨gb272, 0, none⟩ = some (.int .i64 0) := (kC7_ BK272.out 0).trans rfl; have hcz144_1 : w141.cell? ⟨gb272, 1, none⟩ = some (.int .i64 0) := (kC7_ BK272.out 1).trans rfl; have hfz144_0 := blk_frozen BK272.out 0; have hfz144_1 := blk_frozen BK272.out 1) | go_quiet (fail))
      go_ret
      exact ⟨by first | rfl | (simp [errW_none, errW_some] <;> rfl) | (simp [*, errW_none, errW_some] <;> rfl), by repeat (first | (with_reducible first | exact HB.out | apply below_alloc | apply pw_below_drewN | apply below_drew1 | refine bS7_ ?_ GE233.out | refine bS7_ ?_ GE268.out | refine bS7_ ?_ GE272.out) | exact HB.out)⟩
     subst c77
     have H1 : ((spec_A2Same.f k2 x15_2 t238).bind fun t273 => (if t273 = true then ((impl_RatioOf.f k2 t238).bind fun bt274 => (if bt274.2.2 = 0 then (some (bt274.1 == t269 && (bt274.2.1 == t270))) else (some false))) else (some false))) = some r := by rw [if_pos rfl] at H; exact H
     clear H
     have H := H1
     clear H1
     replace H := Option.bind_eq_some_iff.mp H
     obtain ⟨t273, A780, H⟩ := H
     replace H : (if t273 = true then ((impl_RatioOf.f k2 t238).bind fun bt274 => (if bt274.2.2 = 0 then (some (bt274.1 == t269 && (bt274.2.1 == t270))) else (some false))) else (some false)) = some r := H
     have A78 := aM7_ A780
     clear A780
     by_cases c79 : t273 = true
     rotate_left
     ·replace c79 := Bool.eq_false_iff.mpr c79
      subst c79
      have H1 : (some false) = some r := by rw [if_neg (show ¬ (false = true) by decide)] at H; exact H
      clear H
      have H := H1
      clear H1
      obtain rfl := Option.some.inj H
      obtain ⟨Ao121, co121, eo121⟩ := Kd.R_slice HO_13.out
      subst eo121
      go_wp2_with (first | (go_at_call 30; (with_reducible refine (spec_RatioOf.calls k2 _ _ t226 t265 t266 t267 _ ?side1 ?side2 A73.out).mono ?_); (case side1 => repeat (first | exact (Kd.R_reads' HO_5.out).2.2 | (with_reducible refine Kd.C_alloc ?_ _) | (with_reducible refine Kd.C_drewN ?_ _) | (with_reducible refine Kd.C_drew ?_))); (case side2 => exact (Kd.R_reads' HO_5.out).2.1); rintro e w122 ⟨rfl, hb⟩; have n0_ := aM7_ (rB7_ q7x11_ hb); have n1_ := aM7_ (rB7_ q7x12_ hb); have n2_ := aM7_ (rB7_ q7x15_ hb); have n3_ := aM7_ (rB7_ q7x16_ hb); have n4_ := aM7_ (rB7_ q7x13_ hb); have n5_ := aM7_ (kB7_ (g := gb233) (o := .cells #[.int .i64 (wrap64 (t229 - 4)), .int .i64 (wrap64 (t230 - 4)), .int .i64 (wrap64 (t231 - 2)), .int .i64 (wrap64 (t232 - 4))] 27 (0, 0)) q7x2_ hb); have n6_ := aM7_ (bT7_ q7x1_ hb); clear HO_5; clear HO_9; clear HO_11; clear HO_13; clear HO_15; clear BK233; clear HB; have HO_5 := n0_; have HO_9 := n1_; have HO_11 := n2_; have HO_13 := n3_; have HO_15 := n4_; have BK233 := n5_; have HB := n6_; clear n0_ n1_ n2_ n3_ n4_ n5_ n6_; (try clear hb); (try clear hb2); (try clear hk); (try clear hi)) | ((with_reducible refine gate_dst (N := 18) rfl ?_); (try (refine gate_guard (by rfl) ?_; dsimp only)); refine box_event ?hg (N := 18) ?hd (cs := #[.int .i64 0, .int .i64 0]) (t := 54) ?hr ?_; (case hd => rfl); (case hg => rfl); (case hr => first | (go_simp; done) | (go_simp; rfl)); intro gb268 hg w123 hbox hb; have n0_ := aM7_ (rB7_ q7x11_ hb); have n1_ := aM7_ (rB7_ q7x12_ hb); have n2_ := aM7_ (rB7_ q7x15_ hb); have n3_ := aM7_ (rB7_ q7x16_ hb); have n4_ := aM7_ (rB7_ q7x13_ hb); have n5_ := aM7_ (kB7_ (g := gb233) (o := .cells #[.int .i64 (wrap64 (t229 - 4)), .int .i64 (wrap64 (t230 - 4)), .int .i64 (wrap64 (t231 - 2)), .int .i64 (wrap64 (t232 - 4))] 27 (0, 0)) q7x2_ hb); have n6_ := aM7_ (bT7_ q7x1_ hb); have n7_ := aM7_ (hbox); have n8_ := aM7_ ((q7x32_ : w.heap.size ≤ gb268)); have n9_ := aM7_ ((q7x32_ : w.heap.size ≤ gb268)); have n10_ := aM7_ ((q7x6_ : gb233 ≠ gb268)); have n11_ := aM7_ ((q7x7_ : gb268 ≠ gb233)); clear HO_5; clear HO_9; clear HO_11; clear HO_13; clear HO_15; clear BK233; clear HB; have HO_5 := n0_; have HO_9 := n1_; have HO_11 := n2_; have HO_13 := n3_; have HO_15 := n4_; have BK233 := n5_; have HB := n6_; have BK268 := n7_; have GW268 := n8_; have GE268 := n9_; have NB233_268 := n10_; have NB268_233 := n11_; clear n0_ n1_ n2_ n3_ n4_ n5_ n6_ n7_ n8_ n9_ n10_ n11_; clear hb hbox hg; have hnb124 := NB268_233.out; have hnc124 := NB233_268.out; have hcz125_0 : w123.cell? ⟨gb268, 0, none⟩ = some (.int .i64 0) := (kC7_ BK268.out 0).trans rfl; have hcz125_1 : w123.cell? ⟨gb268, 1, none⟩ = some (.int .i64 0) := (kC7_ BK268.out 1).trans rfl; have hfz125_0 := blk_frozen BK268.out 0; have hfz125_1 := blk_frozen BK268.out 1; have hcz126_0 : w123.cell? ⟨gb233, 0, none⟩ = some (.int .i64 (wrap64 (t229 - 4))) := (kC7_ BK233.out 0).trans rfl; have hcz126_1 : w123.cell? ⟨gb233, 1, none⟩ = some (.int .i64 (wrap64 (t230 - 4))) := (kC7_ BK233.out 1).trans rfl; have hcz126_2 : w123.cell? ⟨gb233, 2, none⟩ = some (.int .i64 (wrap64 (t231 - 2))) := (kC7_ BK233.out 2).trans rfl; have hcz126_3 : w123.cell? ⟨gb233, 3, none⟩ = some (.int .i64 (wrap64 (t232 - 4))) := (kC7_ BK233.out 3).trans rfl; have hfz126_0 := blk_frozen BK233.out 0; have hfz126_1 := blk_frozen BK233.out 1; have hfz126_2 := blk_frozen BK233.out 2; have hfz126_3 := blk_frozen BK233.out 3) | (go_at_call 31; (with_reducible refine (spec_A2Pair.calls k2 (wrap64 (t229 - 4)) (wrap64 (t230 - 4)) (wrap64 (t231 - 2)) (wrap64 (t232 - 4)) t265 t266 t269 t270 true _ A74.out).mono ?_); rintro e w127 ⟨rfl, hb⟩; have n0_ := aM7_ (rB7_ q7x22_ hb); have n1_ := aM7_ (rB7_ q7x23_ hb); have n2_ := aM7_ (rB7_ q7x18_ hb); have n3_ := aM7_ (rB7_ q7x19_ hb); have n4_ := aM7_ (rB7_ q7x20_ hb); have n5_ := aM7_ (kB7_ (g := gb233) (o := .cells #[.int .i64 (wrap64 (t229 - 4)), .int .i64 (wrap64 (t230 - 4)), .int .i64 (wrap64 (t231 - 2)), .int .i64 (wrap64 (t232 - 4))] 27 (0, 0)) q7x17_ hb); have n6_ := aM7_ (kB7_ (g := gb268) (o := .cells #[.int .i64 t265, .int .i64 t266] 54 (0, 0)) q7x9_ hb); have n7_ := aM7_ (bT7_ q7x3_ hb); clear HO_5; clear HO_9; clear HO_11; clear HO_13; clear HO_15; clear BK233; clear BK268; clear HB; have HO_5 := n0_; have HO_9 := n1_; have HO_11 := n2_; have HO_13 := n3_; have HO_15 := n4_; have BK233 := n5_; have BK268 := n6_; have HB := n7_; clear n0_ n1_ n2_ n3_ n4_ n5_ n6_ n7_; (try clear hb); (try clear hb2); (try clear hk); (try clear hi)) | ((with_reducible refine gate_dst (N := 20) rfl ?_); (try (refine gate_guard (by rfl) ?_; dsimp only)); refine box_event ?hg (N := 20) ?hd (cs := #[.int .i64 0, .int .i64 0]) (t := 54) ?hr ?_; (case hd => rfl); (case hg => rfl); (case hr => first | (go_simp; done) | (go_simp; rfl)); intro gb272 hg w128 hbox hb; have n0_ := aM7_ (rB7_ q7x11_ hb); have n1_ := aM7_ (rB7_ q7x12_ hb); have n2_ := aM7_ (rB7_ q7x15_ hb); have n3_ := aM7_ (rB7_ q7x16_ hb); have n4_ := aM7_ (rB7_ q7x13_ hb); have n5_ := aM7_ (kB7_ (g := gb233) (o := .cells #[.int .i64 (wrap64 (t229 - 4)), .int .i64 (wrap64 (t230 - 4)), .int .i64 (wrap64 (t231 - 2)), .int .i64 (wrap64 (t232 - 4))] 27 (0, 0)) q7x2_ hb); have n6_ := aM7_ (kB7_ (g := gb268) (o := .cells #[.int .i64 t265, .int .i64 t266] 54 (0, 0)) q7x8_ hb); have n7_ := aM7_ (bT7_ q7x3_ hb); have n8_ := aM7_ (hbox); have n9_ := aM7_ ((q7x33_ : w.heap.size ≤ gb272)); have n10_ := aM7_ ((q7x33_ : w.heap.size ≤ gb272)); have n11_ := aM7_ ((q7x6_ : gb233 ≠ gb272)); have n12_ := aM7_ ((q7x7_ : gb272 ≠ gb233)); have n13_ := aM7_ ((q7x28_ : gb268 ≠ gb272)); have n14_ := aM7_ ((q7x29_ : gb272 ≠ gb268)); clear HO_5; clear HO_9; clear HO_11; clear HO_13; clear HO_15; clear BK233; clear BK268; clear HB; have HO_5 := n0_; have HO_9 := n1_; have HO_11 := n2_; have HO_13 := n3_; have HO_15 := n4_; have BK233 := n5_; have BK268 := n6_; have HB := n7_; have BK272 := n8_; have GW272 := n9_; have GE272 := n10_; have NB233_272 := n11_; have NB272_233 := n12_; have NB268_272 := n13_; have NB272_268 := n14_; clear n0_ n1_ n2_ n3_ n4_ n5_ n6_ n7_ n8_ n9_ n10_ n11_ n12_ n13_ n14_; clear hb hbox hg; have hnb129 := NB272_233.out; have hnc129 := NB233_272.out; have hnb130 := NB272_268.out; have hnc130 := NB268_272.out; have hcz131_0 : w128.cell? ⟨gb272, 0, none⟩ = some (.int .i64 0) := (kC7_ BK272.out 0).trans rfl; have hcz131_1 : w128.cell? ⟨gb272, 1, none⟩ = some (.int .i64 0) := (kC7_ BK272.out 1).trans rfl; have hfz131_0 := blk_frozen BK272.out 0; have hfz131_1 := blk_frozen BK272.out 1; obtain ⟨Ao132, co132, eo132⟩ := Kd.R_slice HO_15.out; subst eo132; obtain ⟨Ao133, co133, eo133⟩ := Kd.R_slice HO_9.out; subst eo133) | (go_at_call 29; (with_reducible refine (spec_A2Same.calls k2 _ _ x15_2 _ _ t238 false _ ?side1 ?side2 ?side3 ?side4 A78.out).mono ?_); (case side1 => refine (Kd.R_reads' (e := 2) (base := w.heap.size) (ok := fun k_ => (some k_ ≠ (.slice Ao18 t226.length co18 : Value).ownBlock ∧ some k_ ≠ (.slice Ao133 t238.length co133 : Value).ownBlock)) (n := x15_2.length) (c := co132) ?_).2.2; exact q7x21_); (case side2 => exact (Kd.R_reads' HO_15.out).2.1); (case side3 => refine (Kd.R_reads' (e := 2) (base := w.heap.size) (ok := fun k_ => (some k_ ≠ (.slice Ao18 t226.length co18 : Value).ownBlock ∧ some k_ ≠ (.slice Ao132 x15_2.length co132 : Value).ownBlock)) (n := t238.length) (c := co133) ?_).2.2; exact q7x14_); (case side4 => exact (Kd.R_reads' HO_9.out).2.1); rintro e w' ⟨rfl, ⟨nd, rfl⟩⟩; (try first | exact ⟨rfl, _, World.drewN_drewN _ _ _⟩ | exact ⟨rfl, _, Eq.trans (World.drewN_drewN _ _ _) (congrArg (World.drewN _) (Nat.add_assoc _ _ _))⟩)) | go_quiet (first | (go_at_call 29; (with_reducible refine (spec_A2Same.calls k2 _ _ x15_2 _ _ t238 false _ ?side1 ?side2 ?side3 ?side4 A78.out).mono ?_); (case side1 => refine (Kd.R_reads' (e := 2) (base := w.heap.size) (ok := fun k_ => (some k_ ≠ (.slice Ao18 t226.length co18 : Value).ownBlock ∧ some k_ ≠ (.slice Ao133 t238.length co133 : Value).ownBlock)) (n := x15_2.length) (c := co132) ?_).2.2; exact q7x21_); (case side2 => exact (Kd.R_reads' HO_15.out).2.1); (case side3 => refine (Kd.R_reads' (e := 2) (base := w.heap.size) (ok := fun k_ => (some k_ ≠ (.slice Ao18 t226.length co18 : Value).ownBlock ∧ some k_ ≠ (.slice Ao132 x15_2.length co132 : Value).ownBlock)) (n := t238.length) (c := co133) ?_).2.2; exact q7x14_); (case side4 => exact (Kd.R_reads' HO_9.out).2.1); rintro e w' ⟨rfl, ⟨nd, rfl⟩⟩; (try first | exact ⟨rfl, _, World.drewN_drewN _ _ _⟩ | exact ⟨rfl, _, Eq.trans (World.drewN_drewN _ _ _) (congrArg (World.drewN _) (Nat.add_assoc _ _ _))⟩))))
      go_ret
      exact ⟨by first | rfl | (simp [errW_none, errW_some] <;> rfl) | (simp [*, errW_none, errW_some] <;> rfl), by repeat (first | (with_reducible first | exact HB.out | apply below_alloc | apply pw_below_drewN | apply below_drew1 | refine bS7_ ?_ GE233.out | refine bS7_ ?_ GE268.out | refine bS7_ ?_ GE272.out) | exact HB.out)⟩
     subst c79
     have H1 : ((impl_RatioOf.f k2 t238).bind fun bt274 => (if bt274.2.2 = 0 then (some (bt274.1 == t269 && (bt274.2.1 == t270))) else (some false))) = some r := by rw [if_pos rfl] at H; exact H
     clear H
     have H := H1
     clear H1
     replace H := Option.bind_eq_some_iff.mp H
     obtain ⟨⟨t274, t275, t276⟩, A800, H⟩ := H
     replace H : (if t276 = 0 then (some (t274 == t269 && (t275 == t270))) else (some false)) = some r := H
     have A80 := aM7_ A800
     clear A800
     by_cases c81 : t276 = 0
     ·rw [if_pos c81] at H
      have c81b0 : (t276 == 0) = true := beq_iff_eq.mpr c81
      have c81b1 : (t276 != 0) = false := bne_eq_false_iff_eq.mpr c81
      clear c81
      obtain rfl := Option.some.inj H
      obtain ⟨Ao82, co82, eo82⟩ := Kd.R_slice HO_13.out
      subst eo82
      go_wp2_with (first | (go_at_call 30; (with_reducible refine (spec_RatioOf.calls k2 _ _ t226 t265 t266 t267 _ ?side1 ?side2 A73.out).mono ?_); (case side1 => repeat (first | exact (Kd.R_reads' HO_5.out).2.2 | (with_reducible refine Kd.C_alloc ?_ _) | (with_reducible refine Kd.C_drewN ?_ _) | (with_reducible refine Kd.C_drew ?_))); (case side2 => exact (Kd.R_reads' HO_5.out).2.1); rintro e w83 ⟨rfl, hb⟩; have n0_ := aM7_ (rB7_ q7x11_ hb); have n1_ := aM7_ (rB7_ q7x12_ hb); have n2_ := aM7_ (rB7_ q7x15_ hb); have n3_ := aM7_ (rB7_ q7x16_ hb); have n4_ := aM7_ (rB7_ q7x13_ hb); have n5_ := aM7_ (kB7_ (g := gb233) (o := .cells #[.int .i64 (wrap64 (t229 - 4)), .int .i64 (wrap64 (t230 - 4)), .int .i64 (wrap64 (t231 - 2)), .int .i64 (wrap64 (t232 - 4))] 27 (0, 0)) q7x2_ hb); have n6_ := aM7_ (bT7_ q7x1_ hb); clear HO_5; clear HO_9; clear HO_11; clear HO_13; clear HO_15; clear BK233; clear HB; have HO_5 := n0_; have HO_9 := n1_; have HO_11 := n2_; have HO_13 := n3_; have HO_15 := n4_; have BK233 := n5_; have HB := n6_; clear n0_ n1_ n2_ n3_ n4_ n5_ n6_; (try clear hb); (try clear hb2); (try clear hk); (try clear hi)) | ((with_reducible refine gate_dst (N := 18) rfl ?_); (try (refine gate_guard (by rfl) ?_; dsimp only)); refine box_event ?hg (N := 18) ?hd (cs := #[.int .i64 0, .int .i64 0]) (t := 54) ?hr ?_; (case hd => rfl); (case hg => rfl); (case hr => first | (go_simp; done) | (go_simp; rfl)); intro gb268 hg w84 hbox hb; have n0_ := aM7_ (rB7_ q7x11_ hb); have n1_ := aM7_ (rB7_ q7x12_ hb); have n2_ := aM7_ (rB7_ q7x15_ hb); have n3_ := aM7_ (rB7_ q7x16_ hb); have n4_ := aM7_ (rB7_ q7x13_ hb); have n5_ := aM7_ (kB7_ (g := gb233) (o := .cells #[.int .i64 (wrap64 (t229 - 4)), .int .i64 (wrap64 (t230 - 4)), .int .i64 (wrap64 (t231 - 2)), .int .i64 (wrap64 (t232 - 4))] 27 (0, 0)) q7x2_ hb); have n6_ := aM7_ (bT7_ q7x1_ hb); have n7_ := aM7_ (hbox); have n8_ := aM7_ ((q7x32_ : w.heap.size ≤ gb268)); have n9_ := aM7_ ((q7x32_ : w.heap.size ≤ gb268)); have n10_ := aM7_ ((q7x6_ : gb233 ≠ gb268)); have n11_ := aM7_ ((q7x7_ : gb268 ≠ gb233)); clear HO_5; clear HO_9; clear HO_11; clear HO_13; clear HO_15; clear BK233; clear HB; have HO_5 := n0_; have HO_9 := n1_; have HO_11 := n2_; have HO_13 := n3_; have HO_15 := n4_; have BK233 := n5_; have HB := n6_; have BK268 := n7_; have GW268 := n8_; have GE268 := n9_; have NB233_268 := n10_; have NB268_233 := n11_; clear n0_ n1_ n2_ n3_ n4_ n5_ n6_ n7_ n8_ n9_ n10_ n11_; clear hb hbox hg; have hnb85 := NB268_233.out; have hnc85 := NB233_268.out; have hcz86_0 : w84.cell? ⟨gb268, 0, none⟩ = some (.int .i64 0) := (kC7_ BK268.out 0).trans rfl; have hcz86_1 : w84.cell? ⟨gb268, 1, none⟩ = some (.int .i64 0) := (kC7_ BK268.out 1).trans rfl; have hfz86_0 := blk_frozen BK268.out 0; have hfz86_1 := blk_frozen BK268.out 1; have hcz87_0 : w84.cell? ⟨gb233, 0, none⟩ = some (.int .i64 (wrap64 (t229 - 4))) := (kC7_ BK233.out 0).trans rfl; have hcz87_1 : w84.cell? ⟨gb233, 1, none⟩ = some (.int .i64 (wrap64 (t230 - 4))) := (kC7_ BK233.out 1).trans rfl; have hcz87_2 : w84.cell? ⟨gb233, 2, none⟩ = some (.int .i64 (wrap64 (t231 - 2))) := (kC7_ BK233.out 2).trans rfl; have hcz87_3 : w84.cell? ⟨gb233, 3, none⟩ = some (.int .i64 (wrap64 (t232 - 4))) := (kC7_ BK233.out 3).trans rfl; have hfz87_0 := blk_frozen BK233.out 0; have hfz87_1 := blk_frozen BK233.out 1; have hfz87_2 := blk_frozen BK233.out 2; have hfz87_3 := blk_frozen BK233.out 3) | (go_at_call 31; (with_reducible refine (spec_A2Pair.calls k2 (wrap64 (t229 - 4)) (wrap64 (t230 - 4)) (wrap64 (t231 - 2)) (wrap64 (t232 - 4)) t265 t266 t269 t270 true _ A74.out).mono ?_); rintro e w88 ⟨rfl, hb⟩; have n0_ := aM7_ (rB7_ q7x22_ hb); have n1_ := aM7_ (rB7_ q7x23_ hb); have n2_ := aM7_ (rB7_ q7x18_ hb); have n3_ := aM7_ (rB7_ q7x19_ hb); have n4_ := aM7_ (rB7_ q7x20_ hb); have n5_ := aM7_ (kB7_ (g := gb233) (o := .cells #[.int .i64 (wrap64 (t229 - 4)), .int .i64 (wrap64 (t230 - 4)), .int .i64 (wrap64 (t231 - 2)), .int .i64 (wrap64 (t232 - 4))] 27 (0, 0)) q7x17_ hb); have n6_ := aM7_ (kB7_ (g := gb268) (o := .cells #[.int .i64 t265, .int .i64 t266] 54 (0, 0)) q7x9_ hb); have n7_ := aM7_ (bT7_ q7x3_ hb); clear HO_5; clear HO_9; clear HO_11; clear HO_13; clear HO_15; clear BK233; clear BK268; clear HB; have HO_5 := n0_; have HO_9 := n1_; have HO_11 := n2_; have HO_13 := n3_; have HO_15 := n4_; have BK233 := n5_; have BK268 := n6_; have HB := n7_; clear n0_ n1_ n2_ n3_ n4_ n5_ n6_ n7_; (try clear hb); (try clear hb2); (try clear hk); (try clear hi)) | ((with_reducible refine gate_dst (N := 20) rfl ?_); (try (refine gate_guard (by rfl) ?_; dsimp only)); refine box_event ?hg (N := 20) ?hd (cs := #[.int .i64 0, .int .i64 0]) (t := 54) ?hr ?_; (case hd => rfl); (case hg => rfl); (case hr => first | (go_simp; done) | (go_simp; rfl)); intro gb272 hg w89 hbox hb; have n0_ := aM7_ (rB7_ q7x11_ hb); have n1_ := aM7_ (rB7_ q7x12_ hb); have n2_ := aM7_ (rB7_ q7x15_ hb); have n3_ := aM7_ (rB7_ q7x16_ hb); have n4_ := aM7_ (rB7_ q7x13_ hb); have n5_ := aM7_ (kB7_ (g := gb233) (o := .cells #[.int .i64 (wrap64 (t229 - 4)), .int .i64 (wrap64 (t230 - 4)), .int .i64 (wrap64 (t231 - 2)), .int .i64 (wrap64 (t232 - 4))] 27 (0, 0)) q7x2_ hb); have n6_ := aM7_ (kB7_ (g := gb268) (o := .cells #[.int .i64 t265, .int .i64 t266] 54 (0, 0)) q7x8_ hb); have n7_ := aM7_ (bT7_ q7x3_ hb); have n8_ := aM7_ (hbox); have n9_ := aM7_ ((q7x33_ : w.heap.size ≤ gb272)); have n10_ := aM7_ ((q7x33_ : w.heap.size ≤ gb272)); have n11_ := aM7_ ((q7x6_ : gb233 ≠ gb272)); have n12_ := aM7_ ((q7x7_ : gb272 ≠ gb233)); have n13_ := aM7_ ((q7x28_ : gb268 ≠ gb272)); have n14_ := aM7_ ((q7x29_ : gb272 ≠ gb268)); clear HO_5; clear HO_9; clear HO_11; clear HO_13; clear HO_15; clear BK233; clear BK268; clear HB; have HO_5 := n0_; have HO_9 := n1_; have HO_11 := n2_; have HO_13 := n3_; have HO_15 := n4_; have BK233 := n5_; have BK268 := n6_; have HB := n7_; have BK272 := n8_; have GW272 := n9_; have GE272 := n10_; have NB233_272 := n11_; have NB272_233 := n12_; have NB268_272 := n13_; have NB272_268 := n14_; clear n0_ n1_ n2_ n3_ n4_ n5_ n6_ n7_ n8_ n9_ n10_ n11_ n12_ n13_ n14_; clear hb hbox hg; have hnb90 := NB272_233.out; have hnc90 := NB233_272.out; have hnb91 := NB272_268.out; have hnc91 := NB268_272.out; have hcz92_0 : w89.cell? ⟨gb272, 0, none⟩ = some (.int .i64 0) := (kC7_ BK272.out 0).trans rfl; have hcz92_1 : w89.cell? ⟨gb272, 1, none⟩ = some (.int .i64 0) := (kC7_ BK272.out 1).trans rfl; have hfz92_0 := blk_frozen BK272.out 0; have hfz92_1 := blk_frozen BK272.out 1; obtain ⟨Ao93, co93, eo93⟩ := Kd.R_slice HO_15.out; subst eo93; obtain ⟨Ao94, co94, eo94⟩ := Kd.R_slice HO_9.out; subst eo94) | (go_at_call 29; (with_reducible refine (spec_A2Same.calls k2 _ _ x15_2 _ _ t238 true _ ?side1 ?side2 ?side3 ?side4 A78.out).mono ?_); (case side1 => refine (Kd.R_reads' (e := 2) (base := w.heap.size) (ok := fun k_ => (some k_ ≠ (.slice Ao18 t226.length co18 : Value).ownBlock ∧ some k_ ≠ (.slice Ao94 t238.length co94 : Value).ownBlock)) (n := x15_2.length) (c := co93) ?_).2.2; exact q7x21_); (case side2 => exact (Kd.R_reads' HO_15.out).2.1); (case side3 => refine (Kd.R_reads' (e := 2) (base := w.heap.size) (ok := fun k_ => (some k_ ≠ (.slice Ao18 t226.length co18 : Value).ownBlock ∧ some k_ ≠ (.slice Ao93 x15_2.length co93 : Value).ownBlock)) (n := t238.length) (c := co94) ?_).2.2; exact q7x14_); (case side4 => exact (Kd.R_reads' HO_9.out).2.1); rintro e w' ⟨rfl, ⟨nd, rfl⟩⟩; (try first | exact ⟨rfl, _, World.drewN_drewN _ _ _⟩ | exact ⟨rfl, _, Eq.trans (World.drewN_drewN _ _ _) (congrArg (World.drewN _) (Nat.add_assoc _ _ _))⟩)) | (go_at_call 32; (with_reducible refine (impl_RatioOf.calls k2 _ _ t238 t274 t275 t276 _ ?side1 ?side2 A80.out).mono ?_); (case side1 => refine (Kd.R_reads' (e := 2) (base := w.heap.size) (ok := fun k_ => (some k_ ≠ (.slice Ao18 t226.length co18 : Value).ownBlock ∧ some k_ ≠ (.slice Ao93 x15_2.length co93 : Value).ownBlock)) (n := t238.length) (c := co94) ?_).2.2; exact q7x14_); (case side2 => exact (Kd.R_reads' HO_9.out).2.1); rintro e w95 ⟨rfl, hb⟩; have n0_ := aM7_ (rB7_ q7x41_ hb); have n1_ := aM7_ (rB7_ q7x14_ hb); have n2_ := aM7_ (rB7_ q7x39_ hb); have n3_ := aM7_ (rB7_ q7x40_ hb); have n4_ := aM7_ (rB7_ q7x21_ hb); have n5_ := aM7_ (kB7_ (g := gb233) (o := .cells #[.int .i64 (wrap64 (t229 - 4)), .int .i64 (wrap64 (t230 - 4)), .int .i64 (wrap64 (t231 - 2)), .int .i64 (wrap64 (t232 - 4))] 27 (0, 0)) q7x37_ hb); have n6_ := aM7_ (kB7_ (g := gb268) (o := .cells #[.int .i64 t265, .int .i64 t266] 54 (0, 0)) q7x38_ hb); have n7_ := aM7_ (kB7_ (g := gb272) (o := .cells #[.int .i64 t269, .int .i64 t270] 54 (0, 0)) q7x36_ hb); have n8_ := aM7_ (bT7_ q7x25_ hb); clear HO_5; clear HO_9; clear HO_11; clear HO_13; clear HO_15; clear BK233; clear BK268; clear BK272; clear HB; have HO_5 := n0_; have HO_9 := n1_; have HO_11 := n2_; have HO_13 := n3_; have HO_15 := n4_; have BK233 := n5_; have BK268 := n6_; have BK272 := n7_; have HB := n8_; clear n0_ n1_ n2_ n3_ n4_ n5_ n6_ n7_ n8_; (try clear hb); (try clear hb2); (try clear hk); (try clear hi)) | ((with_reducible refine gate_dst (N := 22) rfl ?_); (try (refine gate_guard (by rfl) ?_; dsimp only)); refine box_event ?hg (N := 22) ?hd (cs := #[.int .i64 0, .int .i64 0]) (t := 54) ?hr ?_; (case hd => rfl); (case hg => rfl); (case hr => first | (go_simp; done) | (go_simp; rfl)); intro gb277 hg w96 hbox hb; have n0_ := aM7_ (rB7_ q7x11_ hb); have n1_ := aM7_ (rB7_ q7x12_ hb); have n2_ := aM7_ (rB7_ q7x15_ hb); have n3_ := aM7_ (rB7_ q7x16_ hb); have n4_ := aM7_ (rB7_ q7x13_ hb); have n5_ := aM7_ (kB7_ (g := gb233) (o := .cells #[.int .i64 (wrap64 (t229 - 4)), .int .i64 (wrap64 (t230 - 4)), .int .i64 (wrap64 (t231 - 2)), .int .i64 (wrap64 (t232 - 4))] 27 (0, 0)) q7x2_ hb); have n6_ := aM7_ (kB7_ (g := gb268) (o := .cells #[.int .i64 t265, .int .i64 t266] 54 (0, 0)) q7x8_ hb); have n7_ := aM7_ (kB7_ (g := gb272) (o := .cells #[.int .i64 t269, .int .i64 t270] 54 (0, 0)) q7x31_ hb); have n8_ := aM7_ (bT7_ q7x25_ hb); have n9_ := aM7_ (hbox); have n10_ := aM7_ ((by rw [hg]; exact (below_size q7x25_) : w.heap.size ≤ gb277)); have n11_ := aM7_ ((by rw [hg]; exact (below_size q7x25_) : w.heap.size ≤ gb277)); have n12_ := aM7_ ((q7x6_ : gb233 ≠ gb277)); have n13_ := aM7_ ((q7x7_ : gb277 ≠ gb233)); have n14_ := aM7_ ((q7x28_ : gb268 ≠ gb277)); have n15_ := aM7_ ((q7x29_ : gb277 ≠ gb268)); have n16_ := aM7_ ((by rw [hg]; exact Nat.ne_of_lt (blk_lt (g := gb272) (o := .cells #[.int .i64 t269, .int .i64 t270] 54 (0, 0)) q7x31_) : gb272 ≠ gb277)); have n17_ := aM7_ ((by rw [hg]; exact Nat.ne_of_gt (blk_lt (g := gb272) (o := .cells #[.int .i64 t269, .int .i64 t270] 54 (0, 0)) q7x31_) : gb277 ≠ gb272)); clear HO_5; clear HO_9; clear HO_11; clear HO_13; clear HO_15; clear BK233; clear BK268; clear BK272; clear HB; have HO_5 := n0_; have HO_9 := n1_; have HO_11 := n2_; have HO_13 := n3_; have HO_15 := n4_; have BK233 := n5_; have BK268 := n6_; have BK272 := n7_; have HB := n8_; have BK277 := n9_; have GW277 := n10_; have GE277 := n11_; have NB233_277 := n12_; have NB277_233 := n13_; have NB268_277 := n14_; have NB277_268 := n15_; have NB272_277 := n16_; have NB277_272 := n17_; clear n0_ n1_ n2_ n3_ n4_ n5_ n6_ n7_ n8_ n9_ n10_ n11_ n12_ n13_ n14_ n15_ n16_ n17_; clear hb hbox hg; have hnb97 := NB277_233.out; have hnc97 := NB233_277.out; have hnb98 := NB277_268.out; have hnc98 := NB268_277.out; have hnb99 := NB277_272.out; have hnc99 := NB272_277.out; have hcz100_0 : w96.cell? ⟨gb277, 0, none⟩ = some (.int .i64 0) := (kC7_ BK277.out 0).trans rfl; have hcz100_1 : w96.cell? ⟨gb277, 1, none⟩ = some (.int .i64 0) := (kC7_ BK277.out 1).trans rfl; have hfz100_0 := blk_frozen BK277.out 0; have hfz100_1 := blk_frozen BK277.out 1; have hcz101_0 : w96.cell? ⟨gb272, 0, none⟩ = some (.int .i64 t269) := (kC7_ BK272.out 0).trans rfl; have hcz101_1 : w96.cell? ⟨gb272, 1, none⟩ = some (.int .i64 t270) := (kC7_ BK272.out 1).trans rfl; have hfz101_0 := blk_frozen BK272.out 0; have hfz101_1 := blk_frozen BK272.out 1) | go_quiet (first | (go_at_call 29; (with_reducible refine (spec_A2Same.calls k2 _ _ x15_2 _ _ t238 true _ ?side1 ?side2 ?side3 ?side4 A78.out).mono ?_); (case side1 => refine (Kd.R_reads' (e := 2) (base := w.heap.size) (ok := fun k_ => (some k_ ≠ (.slice Ao18 t226.length co18 : Value).ownBlock ∧ some k_ ≠ (.slice Ao94 t238.length co94 : Value).ownBlock)) (n := x15_2.length) (c := co93) ?_).2.2; exact q7x21_); (case side2 => exact (Kd.R_reads' HO_15.out).2.1); (case side3 => refine (Kd.R_reads' (e := 2) (base := w.heap.size) (ok := fun k_ => (some k_ ≠ (.slice Ao18 t226.length co18 : Value).ownBlock ∧ some k_ ≠ (.slice Ao93 x15_2.length co93 : Value).ownBlock)) (n := t238.length) (c := co94) ?_).2.2; exact q7x14_); (case side4 => exact (Kd.R_reads' HO_9.out).2.1); rintro e w' ⟨rfl, ⟨nd, rfl⟩⟩; (try first | exact ⟨rfl, _, World.drewN_drewN _ _ _⟩ | exact ⟨rfl, _, Eq.trans (World.drewN_drewN _ _ _) (congrArg (World.drewN _) (Nat.add_assoc _ _ _))⟩))))
      go_ret
      exact ⟨by first | rfl | (simp [errW_none, errW_some] <;> rfl) | (simp [*, errW_none, errW_some] <;> rfl), by repeat (first | (with_reducible first | exact HB.out | apply below_alloc | apply pw_below_drewN | apply below_drew1 | refine bS7_ ?_ GE233.out | refine bS7_ ?_ GE268.out | refine bS7_ ?_ GE272.out | refine bS7_ ?_ GE277.out) | exact HB.out)⟩
     rw [if_neg c81] at H
     have c81b0 : (t276 == 0) = false := beq_eq_false_iff_ne.mpr c81
     have c81b1 : (t276 != 0) = true := bne_iff_ne.mpr c81
     obtain rfl := Option.some.inj H
     obtain ⟨Ao102, co102, eo102⟩ := Kd.R_slice HO_13.out
     subst eo102
     go_wp2_with (first | (go_at_call 30; (with_reducible refine (spec_RatioOf.calls k2 _ _ t226 t265 t266 t267 _ ?side1 ?side2 A73.out).mono ?_); (case side1 => repeat (first | exact (Kd.R_reads' HO_5.out).2.2 | (with_reducible refine Kd.C_alloc ?_ _) | (with_reducible refine Kd.C_drewN ?_ _) | (with_reducible refine Kd.C_drew ?_))); (case side2 => exact (Kd.R_reads' HO_5.out).2.1); rintro e w103 ⟨rfl, hb⟩; have n0_ := aM7_ (rB7_ q7x11_ hb); have n1_ := aM7_ (rB7_ q7x12_ hb); have n2_ := aM7_ (rB7_ q7x15_ hb); have n3_ := aM7_ (rB7_ q7x16_ hb); have n4_ := aM7_ (rB7_ q7x13_ hb); have n5_ := aM7_ (kB7_ (g := gb233) (o := .cells #[.int .i64 (wrap64 (t229 - 4)), .int .i64 (wrap64 (t230 - 4)), .int .i64 (wrap64 (t231 - 2)), .int .i64 (wrap64 (t232 - 4))] 27 (0, 0)) q7x2_ hb); have n6_ := aM7_ (bT7_ q7x1_ hb); clear HO_5; clear HO_9; clear HO_11; clear HO_13; clear HO_15; clear BK233; clear HB; have HO_5 := n0_; have HO_9 := n1_; have HO_11 := n2_; have HO_13 := n3_; have HO_15 := n4_; have BK233 := n5_; have HB := n6_; clear n0_ n1_ n2_ n3_ n4_ n5_ n6_; (try clear hb); (try clear hb2); (try clear hk); (try clear hi)) | ((with_reducible refine gate_dst (N := 18) rfl ?_); (try (refine gate_guard (by rfl) ?_; dsimp only)); refine box_event ?hg (N := 18) ?hd (cs := #[.int .i64 0, .int .i64 0]) (t := 54) ?hr ?_; (case hd => rfl); (case hg => rfl); (case hr => first | (go_simp; done) | (go_simp; rfl)); intro gb268 hg w104 hbox hb; have n0_ := aM7_ (rB7_ q7x11_ hb); have n1_ := aM7_ (rB7_ q7x12_ hb); have n2_ := aM7_ (rB7_ q7x15_ hb); have n3_ := aM7_ (rB7_ q7x16_ hb); have n4_ := aM7_ (rB7_ q7x13_ hb); have n5_ := aM7_ (kB7_ (g := gb233) (o := .cells #[.int .i64 (wrap64 (t229 - 4)), .int .i64 (wrap64 (t230 - 4)), .int .i64 (wrap64 (t231 - 2)), .int .i64 (wrap64 (t232 - 4))] 27 (0, 0)) q7x2_ hb); have n6_ := aM7_ (bT7_ q7x1_ hb); have n7_ := aM7_ (hbox); have n8_ := aM7_ ((q7x32_ : w.heap.size ≤ gb268)); have n9_ := aM7_ ((q7x32_ : w.heap.size ≤ gb268)); have n10_ := aM7_ ((q7x6_ : gb233 ≠ gb268)); have n11_ := aM7_ ((q7x7_ : gb268 ≠ gb233)); clear HO_5; clear HO_9; clear HO_11; clear HO_13; clear HO_15; clear BK233; clear HB; have HO_5 := n0_; have HO_9 := n1_; have HO_11 := n2_; have HO_13 := n3_; have HO_15 := n4_; have BK233 := n5_; have HB := n6_; have BK268 := n7_; have GW268 := n8_; have GE268 := n9_; have NB233_268 := n10_; have NB268_233 := n11_; clear n0_ n1_ n2_ n3_ n4_ n5_ n6_ n7_ n8_ n9_ n10_ n11_; clear hb hbox hg; have hnb105 := NB268_233.out; have hnc105 := NB233_268.out; have hcz106_0 : w104.cell? ⟨gb268, 0, none⟩ = some (.int .i64 0) := (kC7_ BK268.out 0).trans rfl; have hcz106_1 : w104.cell? ⟨gb268, 1, none⟩ = some (.int .i64 0) := (kC7_ BK268.out 1).trans rfl; have hfz106_0 := blk_frozen BK268.out 0; have hfz106_1 := blk_frozen BK268.out 1; have hcz107_0 : w104.cell? ⟨gb233, 0, none⟩ = some (.int .i64 (wrap64 (t229 - 4))) := (kC7_ BK233.out 0).trans rfl; have hcz107_1 : w104.cell? ⟨gb233, 1, none⟩ = some (.int .i64 (wrap64 (t230 - 4))) := (kC7_ BK233.out 1).trans rfl; have hcz107_2 : w104.cell? ⟨gb233, 2, none⟩ = some (.int .i64 (wrap64 (t231 - 2))) := (kC7_ BK233.out 2).trans rfl; have hcz107_3 : w104.cell? ⟨gb233, 3, none⟩ = some (.int .i64 (wrap64 (t232 - 4))) := (kC7_ BK233.out 3).trans rfl; have hfz107_0 := blk_frozen BK233.out 0; have hfz107_1 := blk_frozen BK233.out 1; have hfz107_2 := blk_frozen BK233.out 2; have hfz107_3 := blk_frozen BK233.out 3) | (go_at_call 31; (with_reducible refine (spec_A2Pair.calls k2 (wrap64 (t229 - 4)) (wrap64 (t230 - 4)) (wrap64 (t231 - 2)) (wrap64 (t232 - 4)) t265 t266 t269 t270 true _ A74.out).mono ?_); rintro e w108 ⟨rfl, hb⟩; have n0_ := aM7_ (rB7_ q7x22_ hb); have n1_ := aM7_ (rB7_ q7x23_ hb); have n2_ := aM7_ (rB7_ q7x18_ hb); have n3_ := aM7_ (rB7_ q7x19_ hb); have n4_ := aM7_ (rB7_ q7x20_ hb); have n5_ := aM7_ (kB7_ (g := gb233) (o := .cells #[.int .i64 (wrap64 (t229 - 4)), .int .i64 (wrap64 (t230 - 4)), .int .i64 (wrap64 (t231 - 2)), .int .i64 (wrap64 (t232 - 4))] 27 (0, 0)) q7x17_ hb); have n6_ := aM7_ (kB7_ (g := gb268) (o := .cells #[.int .i64 t265, .int .i64 t266] 54 (0, 0)) q7x9_ hb); have n7_ := aM7_ (bT7_ q7x3_ hb); clear HO_5; clear HO_9; clear HO_11; clear HO_13; clear HO_15; clear BK233; clear BK268; clear HB; have HO_5 := n0_; have HO_9 := n1_; have HO_11 := n2_; have HO_13 := n3_; have HO_15 := n4_; have BK233 := n5_; have BK268 := n6_; have HB := n7_; clear n0_ n1_ n2_ n3_ n4_ n5_ n6_ n7_; (try clear hb); (try clear hb2); (try clear hk); (try clear hi)) | ((with_reducible refine gate_dst (N := 20) rfl ?_); (try (refine gate_guard (by rfl) ?_; dsimp only)); refine box_event ?hg (N := 20) ?hd (cs := #[.int .i64 0, .int .i64 0]) (t := 54) ?hr ?_; (case hd => rfl); (case hg => rfl); (case hr => first | (go_simp; done) | (go_simp; rfl)); intro gb272 hg w109 hbox hb; have n0_ := aM7_ (rB7_ q7x11_ hb); have n1_ := aM7_ (rB7_ q7x12_ hb); have n2_ := aM7_ (rB7_ q7x15_ hb); have n3_ := aM7_ (rB7_ q7x16_ hb); have n4_ := aM7_ (rB7_ q7x13_ hb); have n5_ := aM7_ (kB7_ (g := gb233) (o := .cells #[.int .i64 (wrap64 (t229 - 4)), .int .i64 (wrap64 (t230 - 4)), .int .i64 (wrap64 (t231 - 2)), .int .i64 (wrap64 (t232 - 4))] 27 (0, 0)) q7x2_ hb); have n6_ := aM7_ (kB7_ (g := gb268) (o := .cells #[.int .i64 t265, .int .i64 t266] 54 (0, 0)) q7x8_ hb); have n7_ := aM7_ (bT7_ q7x3_ hb); have n8_ := aM7_ (hbox); have n9_ := aM7_ ((q7x33_ : w.heap.size ≤ gb272)); have n10_ := aM7_ ((q7x33_ : w.heap.size ≤ gb272)); have n11_ := aM7_ ((q7x6_ : gb233 ≠ gb272)); have n12_ := aM7_ ((q7x7_ : gb272 ≠ gb233)); have n13_ := aM7_ ((q7x28_ : gb268 ≠ gb272)); have n14_ := aM7_ ((q7x29_ : gb272 ≠ gb268)); clear HO_5; clear HO_9; clear HO_11; clear HO_13; clear HO_15; clear BK233; clear BK268; clear HB; have HO_5 := n0_; have HO_9 := n1_; have HO_11 := n2_; have HO_13 := n3_; have HO_15 := n4_; have BK233 := n5_; have BK268 := n6_; have HB := n7_; have BK272 := n8_; have GW272 := n9_; have GE272 := n10_; have NB233_272 := n11_; have NB272_233 := n12_; have NB268_272 := n13_; have NB272_268 := n14_; clear n0_ n1_ n2_ n3_ n4_ n5_ n6_ n7_ n8_ n9_ n10_ n11_ n12_ n13_ n14_; clear hb hbox hg; have hnb110 := NB272_233.out; have hnc110 := NB233_272.out; have hnb111 := NB272_268.out; have hnc111 := NB268_272.out; have hcz112_0 : w109.cell? ⟨gb272, 0, none⟩ = some (.int .i64 0) := (kC7_ BK272.out 0).trans rfl; have hcz112_1 : w109.cell? ⟨gb272, 1, none⟩ = some (.int .i64 0) := (kC7_ BK272.out 1).trans rfl; have hfz112_0 := blk_frozen BK272.out 0; have hfz112_1 := blk_frozen BK272.out 1; obtain ⟨Ao113, co113, eo113⟩ := Kd.R_slice HO_15.out; subst eo113; obtain ⟨Ao114, co114, eo114⟩ := Kd.R_slice HO_9.out; subst eo114) | (go_at_call 29; (with_reducible refine (spec_A2Same.calls k2 _ _ x15_2 _ _ t238 true _ ?side1 ?side2 ?side3 ?side4 A78.out).mono ?_); (case side1 => refine (Kd.R_reads' (e := 2) (base := w.heap.size) (ok := fun k_ => (some k_ ≠ (.slice Ao18 t226.length co18 : Value).ownBlock ∧ some k_ ≠ (.slice Ao114 t238.length co114 : Value).ownBlock)) (n := x15_2.length) (c := co113) ?_).2.2; exact q7x21_); (case side2 => exact (Kd.R_reads' HO_15.out).2.1); (case side3 => refine (Kd.R_reads' (e := 2) (base := w.heap.size) (ok := fun k_ => (some k_ ≠ (.slice Ao18 t226.length co18 : Value).ownBlock ∧ some k_ ≠ (.slice Ao113 x15_2.length co113 : Value).ownBlock)) (n := t238.length) (c := co114) ?_).2.2; exact q7x14_); (case side4 => exact (Kd.R_reads' HO_9.out).2.1); rintro e w' ⟨rfl, ⟨nd, rfl⟩⟩; (try first | exact ⟨rfl, _, World.drewN_drewN _ _ _⟩ | exact ⟨rfl, _, Eq.trans (World.drewN_drewN _ _ _) (congrArg (World.drewN _) (Nat.add_assoc _ _ _))⟩)) | (go_at_call 32; (with_reducible refine (impl_RatioOf.calls k2 _ _ t238 t274 t275 t276 _ ?side1 ?side2 A80.out).mono ?_); (case side1 => refine (Kd.R_reads' (e := 2) (base := w.heap.size) (ok := fun k_ => (some k_ ≠ (.slice Ao18 t226.length co18 : Value).ownBlock ∧ some k_ ≠ (.slice Ao113 x15_2.length co113 : Value).ownBlock)) (n := t238.length) (c := co114) ?_).2.2; exact q7x14_); (case side2 => exact (Kd.R_reads' HO_9.out).2.1); rintro e w115 ⟨rfl, hb⟩; have n0_ := aM7_ (rB7_ q7x41_ hb); have n1_ := aM7_ (rB7_ q7x14_ hb); have n2_ := aM7_ (rB7_ q7x39_ hb); have n3_ := aM7_ (rB7_ q7x40_ hb); have n4_ := aM7_ (rB7_ q7x21_ hb); have n5_ := aM7_ (kB7_ (g := gb233) (o := .cells #[.int .i64 (wrap64 (t229 - 4)), .int .i64 (wrap64 (t230 - 4)), .int .i64 (wrap64 (t231 - 2)), .int .i64 (wrap64 (t232 - 4))] 27 (0, 0)) q7x37_ hb); have n6_ := aM7_ (kB7_ (g := gb268) (o := .cells #[.int .i64 t265, .int .i64 t266] 54 (0, 0)) q7x38_ hb); have n7_ := aM7_ (kB7_ (g := gb272) (o := .cells #[.int .i64 t269, .int .i64 t270] 54 (0, 0)) q7x36_ hb); have n8_ := aM7_ (bT7_ q7x25_ hb); clear HO_5; clear HO_9; clear HO_11; clear HO_13; clear HO_15; clear BK233; clear BK268; clear BK272; clear HB; have HO_5 := n0_; have HO_9 := n1_; have HO_11 := n2_; have HO_13 := n3_; have HO_15 := n4_; have BK233 := n5_; have BK268 := n6_; have BK272 := n7_; have HB := n8_; clear n0_ n1_ n2_ n3_ n4_ n5_ n6_ n7_ n8_; (try clear hb); (try clear hb2); (try clear hk); (try clear hi)) | ((with_reducible refine gate_dst (N := 22) rfl ?_); (try (refine gate_guard (by rfl) ?_; dsimp only)); refine box_event ?hg (N := 22) ?hd (cs := #[.int .i64 0, .int .i64 0]) (t := 54) ?hr ?_; (case hd => rfl); (case hg => rfl); (case hr => first | (go_simp; done) | (go_simp; rfl)); intro gb277 hg w116 hbox hb; have n0_ := aM7_ (rB7_ q7x11_ hb); have n1_ := aM7_ (rB7_ q7x12_ hb); have n2_ := aM7_ (rB7_ q7x15_ hb); have n3_ := aM7_ (rB7_ q7x16_ hb); have n4_ := aM7_ (rB7_ q7x13_ hb); have n5_ := aM7_ (kB7_ (g := gb233) (o := .cells #[.int .i64 (wrap64 (t229 - 4)), .int .i64 (wrap64 (t230 - 4)), .int .i64 (wrap64 (t231 - 2)), .int .i64 (wrap64 (t232 - 4))] 27 (0, 0)) q7x2_ hb); have n6_ := aM7_ (kB7_ (g := gb268) (o := .cells #[.int .i64 t265, .int .i64 t266] 54 (0, 0)) q7x8_ hb); have n7_ := aM7_ (kB7_ (g := gb272) (o := .cells #[.int .i64 t269, .int .i64 t270] 54 (0, 0)) q7x31_ hb); have n8_ := aM7_ (bT7_ q7x25_ hb); have n9_ := aM7_ (hbox); have n10_ := aM7_ ((by rw [hg]; exact (below_size q7x25_) : w.heap.size ≤ gb277)); have n11_ := aM7_ ((by rw [hg]; exact (below_size q7x25_) : w.heap.size ≤ gb277)); have n12_ := aM7_ ((q7x6_ : gb233 ≠ gb277)); have n13_ := aM7_ ((q7x7_ : gb277 ≠ gb233)); have n14_ := aM7_ ((q7x28_ : gb268 ≠ gb277)); have n15_ := aM7_ ((q7x29_ : gb277 ≠ gb268)); have n16_ := aM7_ ((by rw [hg]; exact Nat.ne_of_lt (blk_lt (g := gb272) (o := .cells #[.int .i64 t269, .int .i64 t270] 54 (0, 0)) q7x31_) : gb272 ≠ gb277)); have n17_ := aM7_ ((by rw [hg]; exact Nat.ne_of_gt (blk_lt (g := gb272) (o := .cells #[.int .i64 t269, .int .i64 t270] 54 (0, 0)) q7x31_) : gb277 ≠ gb272)); clear HO_5; clear HO_9; clear HO_11; clear HO_13; clear HO_15; clear BK233; clear BK268; clear BK272; clear HB; have HO_5 := n0_; have HO_9 := n1_; have HO_11 := n2_; have HO_13 := n3_; have HO_15 := n4_; have BK233 := n5_; have BK268 := n6_; have BK272 := n7_; have HB := n8_; have BK277 := n9_; have GW277 := n10_; have GE277 := n11_; have NB233_277 := n12_; have NB277_233 := n13_; have NB268_277 := n14_; have NB277_268 := n15_; have NB272_277 := n16_; have NB277_272 := n17_; clear n0_ n1_ n2_ n3_ n4_ n5_ n6_ n7_ n8_ n9_ n10_ n11_ n12_ n13_ n14_ n15_ n16_ n17_; clear hb hbox hg; have hnb117 := NB277_233.out; have hnc117 := NB233_277.out; have hnb118 := NB277_268.out; have hnc118 := NB268_277.out; have hnb119 := NB277_272.out; have hnc119 := NB272_277.out; have hcz120_0 : w116.cell? ⟨gb277, 0, none⟩ = some (.int .i64 0) := (kC7_ BK277.out 0).trans rfl; have hcz120_1 : w116.cell? ⟨gb277, 1, none⟩ = some (.int .i64 0) := (kC7_ BK277.out 1).trans rfl; have hfz120_0 := blk_frozen BK277.out 0; have hfz120_1 := blk_frozen BK277.out 1) | go_quiet (first | (go_at_call 29; (with_reducible refine (spec_A2Same.calls k2 _ _ x15_2 _ _ t238 true _ ?side1 ?side2 ?side3 ?side4 A78.out).mono ?_); (case side1 => refine (Kd.R_reads' (e := 2) (base := w.heap.size) (ok := fun k_ => (some k_ ≠ (.slice Ao18 t226.length co18 : Value).ownBlock ∧ some k_ ≠ (.slice Ao114 t238.length co114 : Value).ownBlock)) (n := x15_2.length) (c := co113) ?_).2.2; exact q7x21_); (case side2 => exact (Kd.R_reads' HO_15.out).2.1); (case side3 => refine (Kd.R_reads' (e := 2) (base := w.heap.size) (ok := fun k_ => (some k_ ≠ (.slice Ao18 t226.length co18 : Value).ownBlock ∧ some k_ ≠ (.slice Ao113 x15_2.length co113 : Value).ownBlock)) (n := t238.length) (c := co114) ?_).2.2; exact q7x14_); (case side4 => exact (Kd.R_reads' HO_9.out).2.1); rintro e w' ⟨rfl, ⟨nd, rfl⟩⟩; (try first | exact ⟨rfl, _, World.drewN_drewN _ _ _⟩ | exact ⟨rfl, _, Eq.trans (World.drewN_drewN _ _ _) (congrArg (World.drewN _) (Nat.add_assoc _ _ _))⟩))))
     go_ret
     exact ⟨by first | rfl | (simp [errW_none, errW_some] <;> rfl) | (simp [*, errW_none, errW_some] <;> rfl), by repeat (first | (with_reducible first | exact HB.out | apply below_alloc | apply pw_below_drewN | apply below_drew1 | refine bS7_ ?_ GE233.out | refine bS7_ ?_ GE268.out | refine bS7_ ?_ GE272.out | refine bS7_ ?_ GE277.out) | exact HB.out)⟩
/-! ### the law's arguments -/
/-- THE ONE PURE STATEMENT of laws_FnPairs. -/
def laws_FnPairs.Pure : Prop := ∀ (x0 : List Int) (x1 : List Int), (x0.length * 1 ≤ 140737488351232 ∧ ∀ z_ ∈ x0, 0 ≤ z_ ∧ z_ ≤ 255) → (x1.length * 1 ≤ 140737488351232 ∧ ∀ z_ ∈ x1, 0 ≤ z_ ∧ z_ ≤ 255) → ∃ k, laws_FnPairs.f k x0 x1 = some true
theorem laws_FnPairs.walk (P_ : laws_FnPairs.Pure) (w : World) (A0 : Option Addr) (c0 : Nat) (x0 : List Int) (hr0 : Kd.C (Kd.int .u8) w A0 x0.length x0) (hc0 : x0.length ≤ c0) (hw0 : x0.length * 1 ≤ 140737488351232 ∧ ∀ z_ ∈ x0, 0 ≤ z_ ∧ z_ ≤ 255) (A1 : Option Addr) (c1 : Nat) (x1 : List Int) (hr1 : Kd.C (Kd.int .u8) w A1 x1.length x1) (hc1 : x1.length ≤ c1) (hw1 : x1.length * 1 ≤ 140737488351232 ∧ ∀ z_ ∈ x1, 0 ≤ z_ ∧ z_ ≤ 255) :
  Calls Try.prog 7 #[.slice A0 x0.length c0, .slice A1 x1.length c1] w fun e w' => e = .returned (.bool true) ∧ Below w.heap.size w w' := by
 obtain ⟨k, h⟩ := P_ x0 x1 hw0 hw1
 refine (laws_FnPairs.calls k _ _ x0 _ _ x1 true w hr0 hc0 hr1 hc1 h).mono ?_
 rintro e w' ⟨rfl, hd⟩
 exact ⟨rfl, hd⟩

end Go.Proofs.Ytgldplkbacfacaa.MFnPairs
