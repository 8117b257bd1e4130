/- Functions of the program as Lean functions, and the proof that the code comes to what they say. Written by a program of this session (myprint.py). -/
import Derived.Test.YtlccefmimpmgjaaMFnExactReachedTreex0
import Derived.Test.YtlccefmimpmgjaaMFnExactReachedTreex1
import Derived.Test.YtlccefmimpmgjaaMFnExactReachedTreex2
import Derived.Test.YtlccefmimpmgjaaMFnExactReachedTreex3
import Derived.Test.YtlccefmimpmgjaaMFnExactReachedTreex5
import Derived.Test.YtlccefmimpmgjaaMFnExactReachedTreex8
namespace Go.Proofs.Ytlccefmimpmgjaa.MFnExactReachedTree
open Go.RowKit Go.Proofs.Ytlccefmimpmgjaa.MOpen Go.Proofs.YtlccefmimpmgjaaW.PrintWords Go.Proofs.YtlccefmimpmgjaaW.PrintLast Go.Proofs.YtlccefmimpmgjaaW.PrintMore
attribute [local go_sem] max2_int min2_int max_two min_two max_three min_three max_four min_four   -- for this text's walks alone
set_option linter.unusedVariables false
set_option linter.unusedSimpArgs false

set_option linter.defProp false
def rA9_ := @Kd.R_alloc
def rN9_ := @Kd.R_drewN
def rD9_ := @Kd.R_drew
def kA9_ := @blk_alloc
def kN9_ := @blk_drewN
def kD9_ := @blk_drew
def bS9_ := @below_set
def aM9_ := @Aside0.mk
def rB9_ := @Kd.R_below
def kB9_ := @blk_below
def kC9_ := @blk_cell
theorem q9x1_ {P : Prop} (h : P := by repeat (first | (with_reducible first | exact HB.out | apply below_alloc | apply pw_below_drewN | apply below_drew1 | refine bS9_ ?_ GE285.out | refine bS9_ ?_ GE294.out | refine bS9_ ?_ GE298.out | refine bS9_ ?_ GE303.out) | exact HB.out)) : P := h
theorem q9x2_ {P : Prop} (h : P := by (with_reducible repeat (first | refine kN9_ ?_ _ | refine kD9_ ?_ | refine kA9_ ?_ _)); exact BK285.out) : P := h
theorem q9x3_ {P : Prop} (h : P := by (try simp only [List.map_toArray, List.map_cons, List.map_nil]); first | done | rfl | (simp only [List.length_drop, List.length_take]; rfl)) : P := h
theorem q9x4_ {P : Prop} (h : P := by (with_reducible repeat (first | refine kN9_ ?_ _ | refine kD9_ ?_ | refine kA9_ ?_ _)); exact BK294.out) : P := h
theorem q9x5_ {P : Prop} (h : P := by (with_reducible repeat (first | refine kN9_ ?_ _ | refine kD9_ ?_ | refine kA9_ ?_ _)); exact BK298.out) : P := h
theorem q9x6_ {P : Prop} (h : P := by (with_reducible repeat (first | refine kN9_ ?_ _ | refine kD9_ ?_ | refine kA9_ ?_ _)); exact BK303.out) : P := h
theorem q9x7_ {P : Prop} (h : P := by (with_reducible repeat (first | apply rA9_ | apply rN9_ | apply rD9_)); exact HO_295000.out) : P := h
theorem q9x8_ {P : Prop} (h : P := by (with_reducible repeat (first | apply rA9_ | apply rN9_ | apply rD9_)); exact HO_299000.out) : P := h
theorem q9x9_ {P : Prop} (h : P := by (with_reducible repeat (first | apply rA9_ | apply rN9_ | apply rD9_)); exact HO_304000.out) : P := h
theorem q9x10_ {P : Prop} (h : P := by repeat (first | (with_reducible first | exact HB.out | apply below_alloc | apply pw_below_drewN | apply below_drew1 | refine bS9_ ?_ GE285.out) | exact HB.out)) : P := h
theorem q9x11_ {P : Prop} (h : P := by repeat (first | (with_reducible first | exact HB.out | apply below_alloc | apply pw_below_drewN | apply below_drew1 | refine bS9_ ?_ GE285.out | refine bS9_ ?_ GE294.out | refine bS9_ ?_ GE298.out | refine bS9_ ?_ GE303.out | refine bS9_ ?_ GE322.out) | exact HB.out)) : P := h
theorem q9x12_ {P : Prop} (h : P := by repeat (first | (with_reducible first | exact HB.out | apply below_alloc | apply pw_below_drewN | apply below_drew1 | refine bS9_ ?_ GE285.out | refine bS9_ ?_ GE294.out) | exact HB.out)) : P := h
theorem q9x13_ {P : Prop} (h : P := by repeat (first | (with_reducible first | exact HB.out | apply below_alloc | apply pw_below_drewN | apply below_drew1 | refine bS9_ ?_ GE285.out | refine bS9_ ?_ GE294.out | refine bS9_ ?_ GE298.out) | exact HB.out)) : P := h
theorem q9x14_ {P : Prop} (h : P := by (with_reducible repeat (first | apply rA9_ | apply rN9_ | apply rD9_)); exact (Kd.R_mono (Kd.R_far (p := ⟨gb322, 0, none⟩) (Kd.R_types HO_295000.out BK322.out (by decide)) (fun _ hk => hk.2) (.slice Ao118 t318.length co118)) (fun _ h_ => h_.1))) : P := h
theorem q9x15_ {P : Prop} (h : P := by (with_reducible repeat (first | apply rA9_ | apply rN9_ | apply rD9_)); exact (Kd.R_mono (Kd.R_far (p := ⟨gb322, 0, none⟩) (Kd.R_types HO320.out BK322.out (by decide)) (fun _ hk => hk.2) (.slice Ao118 t318.length co118)) (fun _ h_ => h_.1))) : P := h
theorem q9x16_ {P : Prop} (h : P := by (with_reducible repeat (first | apply rA9_ | apply rN9_ | apply rD9_)); exact (Kd.R_mono (Kd.R_far (p := ⟨gb303, 0, none⟩) (Kd.R_types HO301.out BK303.out (by decide)) (fun _ hk => hk.2) (.slice Ao32 t299.length co32)) (fun _ h_ => h_.1))) : P := h
theorem q9x17_ {P : Prop} (h : P := by (with_reducible repeat (first | apply rA9_ | apply rN9_ | apply rD9_)); exact (Kd.R_mono (Kd.R_far (p := ⟨gb303, 0, none⟩) (Kd.R_types HO292.out BK303.out (by decide)) (fun _ hk => hk.2) (.slice Ao32 t299.length co32)) (fun _ h_ => h_.1))) : P := h
theorem q9x18_ {P : Prop} (h : P := by repeat (first | (with_reducible first | exact HB.out | apply below_alloc | apply pw_below_drewN | apply below_drew1) | exact HB.out)) : P := h
theorem q9x19_ {P : Prop} (h : P := by (with_reducible repeat (first | apply rA9_ | apply rN9_ | apply rD9_)); exact (Kd.R_mono (Kd.R_far (p := ⟨gb298, 0, none⟩) (Kd.R_types HO297.out BK298.out (by decide)) (fun _ hk => hk.2) (.slice Ao26 t295.length co26)) (fun _ h_ => h_.1))) : P := h
theorem q9x20_ {P : Prop} (h : P := by (try simp only [List.map_toArray, List.map_cons, List.map_nil]); first | done | (rw [show t313.length = t299.length from (Kd.R_reads' HO_304000.out).1.symm] <;> rfl) | rfl | (simp only [List.length_drop, List.length_take]; rfl)) : P := h
theorem q9x21_ {P : Prop} (h : P := by (with_reducible repeat (first | apply rA9_ | apply rN9_ | apply rD9_)); exact HO289.out) : P := h
theorem q9x22_ {P : Prop} (h : P := by rw [hg]; exact Nat.ne_of_lt (blk_lt (g := gb285) (o := .cells #[.slice A0_0 l0_0.length c0_0] 31 (0, 0)) q9x2_)) : P := h
theorem q9x23_ {P : Prop} (h : P := by rw [hg]; exact Nat.ne_of_gt (blk_lt (g := gb285) (o := .cells #[.slice A0_0 l0_0.length c0_0] 31 (0, 0)) q9x2_)) : P := h
theorem q9x24_ {P : Prop} (h : P := by (with_reducible repeat (first | apply rA9_ | apply rN9_ | apply rD9_)); exact HO307.out) : P := h
theorem q9x25_ {P : Prop} (h : P := by (with_reducible repeat (first | refine kN9_ ?_ _ | refine kD9_ ?_ | refine kA9_ ?_ _)); refine blk_put (cs := #[.slice none 0 0]) ?_ 0 _ rfl; (with_reducible repeat (first | refine kN9_ ?_ _ | refine kD9_ ?_ | refine kA9_ ?_ _)); exact BK303.out) : P := h
theorem q9x26_ {P : Prop} (h : P := by (with_reducible repeat (first | refine kN9_ ?_ _ | refine kD9_ ?_ | refine kA9_ ?_ _)); refine blk_put (cs := #[.slice none 0 0]) ?_ 0 _ rfl; (with_reducible repeat (first | refine kN9_ ?_ _ | refine kD9_ ?_ | refine kA9_ ?_ _)); exact BK322.out) : P := h
theorem q9x27_ {P : Prop} (h : P := by first | rfl | (simp; done) | (simp [*]; done)) : P := h
theorem q9x28_ {P : Prop} (h : P := by (with_reducible repeat (first | apply rA9_ | apply rN9_ | apply rD9_)); exact (Kd.R_mono (Kd.R_far (p := ⟨gb322, 0, none⟩) (Kd.R_types HO_299000.out BK322.out (by decide)) (fun _ hk => hk.2) (.slice Ao118 t318.length co118)) (fun _ h_ => h_.1))) : P := h
theorem q9x29_ {P : Prop} (h : P := by (with_reducible repeat (first | apply rA9_ | apply rN9_ | apply rD9_)); exact (Kd.R_mono (Kd.R_far (p := ⟨gb322, 0, none⟩) (Kd.R_types HO_304000.out BK322.out (by decide)) (fun _ hk => hk.2) (.slice Ao118 t318.length co118)) (fun _ h_ => h_.1))) : P := h
theorem q9x30_ {P : Prop} (h : P := by (with_reducible repeat (first | apply rA9_ | apply rN9_ | apply rD9_)); exact (Kd.R_mono (Kd.R_far (p := ⟨gb322, 0, none⟩) (Kd.R_types HO317.out BK322.out (by decide)) (fun _ hk => hk.2) (.slice Ao118 t318.length co118)) (fun _ h_ => h_.1))) : P := h
theorem q9x31_ {P : Prop} (h : P := by (with_reducible repeat (first | apply rA9_ | apply rN9_ | apply rD9_)); exact (Kd.R_mono (Kd.R_far (p := ⟨gb294, 0, none⟩) (Kd.R_types HO289.out BK294.out (by decide)) (fun _ hk => hk.2) (.slice Ao20 t290.length co20)) (fun _ h_ => h_.1))) : P := h
theorem q9x32_ {P : Prop} (h : P := by (with_reducible repeat (first | apply rA9_ | apply rN9_ | apply rD9_)); exact (Kd.R_mono (Kd.R_far (p := ⟨gb294, 0, none⟩) (Kd.R_types HO292.out BK294.out (by decide)) (fun _ hk => hk.2) (.slice Ao20 t290.length co20)) (fun _ h_ => h_.1))) : P := h
theorem q9x33_ {P : Prop} (h : P := by (with_reducible repeat (first | apply rA9_ | apply rN9_ | apply rD9_)); exact (Kd.R_mono (Kd.R_far (p := ⟨gb298, 0, none⟩) (Kd.R_types HO289.out BK298.out (by decide)) (fun _ hk => hk.2) (.slice Ao26 t295.length co26)) (fun _ h_ => h_.1))) : P := h
theorem q9x34_ {P : Prop} (h : P := by (with_reducible repeat (first | apply rA9_ | apply rN9_ | apply rD9_)); exact (Kd.R_mono (Kd.R_far (p := ⟨gb298, 0, none⟩) (Kd.R_types HO292.out BK298.out (by decide)) (fun _ hk => hk.2) (.slice Ao26 t295.length co26)) (fun _ h_ => h_.1))) : P := h
theorem q9x35_ {P : Prop} (h : P := by (with_reducible repeat (first | apply rA9_ | apply rN9_ | apply rD9_)); exact (Kd.R_mono (Kd.R_far (p := ⟨gb303, 0, none⟩) (Kd.R_types HO289.out BK303.out (by decide)) (fun _ hk => hk.2) (.slice Ao32 t299.length co32)) (fun _ h_ => h_.1))) : P := h
theorem q9x36_ {P : Prop} (h : P := by (with_reducible repeat (first | apply rA9_ | apply rN9_ | apply rD9_)); exact (Kd.R_mono (Kd.R_far (p := ⟨gb303, 0, none⟩) (Kd.R_types HO297.out BK303.out (by decide)) (fun _ hk => hk.2) (.slice Ao32 t299.length co32)) (fun _ h_ => h_.1))) : P := h
theorem q9x37_ {P : Prop} (h : P := by (with_reducible repeat (first | refine kN9_ ?_ _ | refine kD9_ ?_ | refine kA9_ ?_ _)); refine blk_far ?_ NB285_303.out _; (with_reducible repeat (first | refine kN9_ ?_ _ | refine kD9_ ?_ | refine kA9_ ?_ _)); exact BK285.out) : P := h
theorem q9x38_ {P : Prop} (h : P := by (with_reducible repeat (first | refine kN9_ ?_ _ | refine kD9_ ?_ | refine kA9_ ?_ _)); refine blk_far ?_ NB294_303.out _; (with_reducible repeat (first | refine kN9_ ?_ _ | refine kD9_ ?_ | refine kA9_ ?_ _)); exact BK294.out) : P := h
theorem q9x39_ {P : Prop} (h : P := by (with_reducible repeat (first | refine kN9_ ?_ _ | refine kD9_ ?_ | refine kA9_ ?_ _)); refine blk_far ?_ NB298_303.out _; (with_reducible repeat (first | refine kN9_ ?_ _ | refine kD9_ ?_ | refine kA9_ ?_ _)); exact BK298.out) : P := h
theorem q9x40_ {P : Prop} (h : P := by (with_reducible repeat (first | refine kN9_ ?_ _ | refine kD9_ ?_ | refine kA9_ ?_ _)); refine blk_far ?_ NB285_322.out _; (with_reducible repeat (first | refine kN9_ ?_ _ | refine kD9_ ?_ | refine kA9_ ?_ _)); exact BK285.out) : P := h
theorem q9x41_ {P : Prop} (h : P := by (with_reducible repeat (first | refine kN9_ ?_ _ | refine kD9_ ?_ | refine kA9_ ?_ _)); refine blk_far ?_ NB294_322.out _; (with_reducible repeat (first | refine kN9_ ?_ _ | refine kD9_ ?_ | refine kA9_ ?_ _)); exact BK294.out) : P := h
theorem q9x42_ {P : Prop} (h : P := by (with_reducible repeat (first | refine kN9_ ?_ _ | refine kD9_ ?_ | refine kA9_ ?_ _)); refine blk_far ?_ NB298_322.out _; (with_reducible repeat (first | refine kN9_ ?_ _ | refine kD9_ ?_ | refine kA9_ ?_ _)); exact BK298.out) : P := h
theorem q9x43_ {P : Prop} (h : P := by (with_reducible repeat (first | refine kN9_ ?_ _ | refine kD9_ ?_ | refine kA9_ ?_ _)); refine blk_far ?_ NB303_322.out _; (with_reducible repeat (first | refine kN9_ ?_ _ | refine kD9_ ?_ | refine kA9_ ?_ _)); exact BK303.out) : P := h
theorem q9x44_ {P : Prop} (h : P := by (with_reducible repeat (first | refine kN9_ ?_ _ | refine kD9_ ?_ | refine kA9_ ?_ _)); exact BK322.out) : P := h
theorem q9x45_ {P : Prop} (h : P := by rw [hg]; exact Nat.ne_of_lt (blk_lt (g := gb294) (o := .cells #[.slice Ao20 t290.length co20] 24 (0, 0)) q9x4_)) : P := h
theorem q9x46_ {P : Prop} (h : P := by rw [hg]; exact Nat.ne_of_gt (blk_lt (g := gb294) (o := .cells #[.slice Ao20 t290.length co20] 24 (0, 0)) q9x4_)) : P := h
theorem q9x47_ {P : Prop} (h : P := by (with_reducible repeat (first | apply rA9_ | apply rN9_ | apply rD9_)); exact HO_323000.out) : P := h
theorem q9x48_ {P : Prop} (h : P := by (with_reducible repeat (first | apply rA9_ | apply rN9_ | apply rD9_)); exact HO292.out) : P := h
theorem q9x49_ {P : Prop} (h : P := by (with_reducible repeat (first | apply rA9_ | apply rN9_ | apply rD9_)); exact HO317.out) : P := h
theorem q9x50_ {P : Prop} (h : P := by simp only [Act.put, List.setIfInBounds_toArray, List.set_cons_zero, List.set_cons_succ, i64_w, i32_w]; rfl) : P := h
/-! ### laws_FnExactReachedTree: function 9 -/
mutual
def laws_FnExactReachedTree.j0 : Nat → Int → Int → Bool → List (S129) → List (S77) → List (S77) → List (S77) → Option (Bool)
 | 0, _, _, _, _, _, _, _ => none
 | k + 1, x5, x8, x40, x286000, x295000, x299000, x304000 => if x40 = true then (some false) else ((laws_toTree.f k x286000).bind fun t305 => ((laws_eqTree.f k x299000 t305).bind fun t308 => (if t308 = true then ((laws_markTree.f k x299000 1).bind fun bt309 => (if bt309.1 < 0 then (laws_FnExactReachedTree.j1 k x5 true x286000 x295000 x304000) else ((laws_eqTree.f k x304000 x295000).bind fun t311 => (if t311 = true then (laws_FnExactReachedTree.j1 k x5 (x8 != x5) x286000 x295000 x304000) else (laws_FnExactReachedTree.j1 k x5 true x286000 x295000 x304000))))) else (some false))))
def laws_FnExactReachedTree.j1 : Nat → Int → Bool → List (S129) → List (S77) → List (S77) → Option (Bool)
 | 0, _, _, _, _, _ => none
 | k + 1, x5, x61, x286000, x295000, x304000 => if x61 = true then (some false) else ((laws_markTree.f k x304000 1).bind fun bt312 => ((laws_heldTree.f k bt312.2 1).bind fun t314 => (if t314 < 0 then (some false) else (if t314 = bt312.1 then ((laws_toTree.f k x286000).bind fun t315 => ((impl_ReachedTree.f k t315).bind fun bt318 => ((laws_eqTree.f k bt318.1 x295000).bind fun t323 => (if t323 = true then (laws_FnExactReachedTree.j2 k bt312.1 (bt318.2 != x5) bt312.2) else (laws_FnExactReachedTree.j2 k bt312.1 true bt312.2))))) else (some false)))))
def laws_FnExactReachedTree.j2 : Nat → Int → Bool → List (S77) → Option (Bool)
 | 0, _, _, _ => none
 | k + 1, x10, x87, x304000 => if x87 = true then (some false) else ((laws_heldTree.f k x304000 1).bind fun t324 => (if t324 < 0 then (some false) else (if t324 = x10 then (some true) else (some false))))
end
def laws_FnExactReachedTree.f (k : Nat) (l0_0 : List (S129)) : Option (Bool) := (laws_szTree.f l0_0 1048576).bind fun t286 => (if t286 < 0 then (some true) else ((laws_toTree.f k l0_0).bind fun t287 => ((spec_ReachedTree.f k t287).bind fun bt290 => ((laws_toTree.f k l0_0).bind fun t295 => ((impl_ReachedTree.f k t295).bind fun bt299 => ((laws_eqTree.f k bt299.1 bt290.1).bind fun t304 => (if t304 = true then (laws_FnExactReachedTree.j0 k bt290.2 bt299.2 (bt299.2 != bt290.2) l0_0 bt290.1 t295 bt299.1) else (laws_FnExactReachedTree.j0 k bt290.2 bt299.2 true l0_0 bt290.1 t295 bt299.1))))))))
theorem laws_FnExactReachedTree.mono_l : ∀ k, (∀ y0 y1 y2 y3 y4 y5 y6, LeO (laws_FnExactReachedTree.j0 k y0 y1 y2 y3 y4 y5 y6) (laws_FnExactReachedTree.j0 (k + 1) y0 y1 y2 y3 y4 y5 y6)) ∧ (∀ y0 y1 y2 y3 y4, LeO (laws_FnExactReachedTree.j1 k y0 y1 y2 y3 y4) (laws_FnExactReachedTree.j1 (k + 1) y0 y1 y2 y3 y4)) ∧ (∀ y0 y1 y2, LeO (laws_FnExactReachedTree.j2 k y0 y1 y2) (laws_FnExactReachedTree.j2 (k + 1) y0 y1 y2))
 | 0 => ⟨fun _ _ _ _ _ _ _ r h => by simp [laws_FnExactReachedTree.j0] at h, fun _ _ _ _ _ r h => by simp [laws_FnExactReachedTree.j1] at h, fun _ _ _ r h => by simp [laws_FnExactReachedTree.j2] at h⟩
 | k + 1 => by
  obtain ⟨ih0, ih1, ih2⟩ := laws_FnExactReachedTree.mono_l k
  refine ⟨?_, ?_, ?_⟩
  ·intro y0 y1 y2 y3 y4 y5 y6
   unfold laws_FnExactReachedTree.j0
   repeat' first
   | (with_reducible exact ih0 _ _ _ _ _ _ _)
   | (with_reducible exact ih1 _ _ _ _ _)
   | (with_reducible exact ih2 _ _ _)
   | (with_reducible exact impl_ReachedTree.mono _ _)
   | (with_reducible exact laws_eqTree.mono _ _ _)
   | (with_reducible exact laws_heldTree.mono _ _ _)
   | (with_reducible exact laws_markTree.mono _ _ _)
   | (with_reducible exact laws_toTree.mono _ _)
   | (with_reducible exact spec_ReachedTree.mono _ _)
   | (with_reducible exact LeO.refl _)
   | (with_reducible exact LeO.none _)
   | (with_reducible refine LeO.ite ?_ ?_)
   | (with_reducible refine LeO.bind ?_ (fun _ => ?_))
   | exact ih0 _ _ _ _ _ _ _
   | exact ih1 _ _ _ _ _
   | exact ih2 _ _ _
   | exact impl_ReachedTree.mono _ _
   | exact laws_eqTree.mono _ _ _
   | exact laws_heldTree.mono _ _ _
   | exact laws_markTree.mono _ _ _
   | exact laws_toTree.mono _ _
   | exact spec_ReachedTree.mono _ _
   | exact LeO.none _
   | refine LeO.ite ?_ ?_
   | refine LeO.bind ?_ (fun _ => ?_)
  ·intro y0 y1 y2 y3 y4
   unfold laws_FnExactReachedTree.j1
   repeat' first
   | (with_reducible exact ih0 _ _ _ _ _ _ _)
   | (with_reducible exact ih1 _ _ _ _ _)
   | (with_reducible exact ih2 _ _ _)
   | (with_reducible exact impl_ReachedTree.mono _ _)
   | (with_reducible exact laws_eqTree.mono _ _ _)
   | (with_reducible exact laws_heldTree.mono _ _ _)
   | (with_reducible exact laws_markTree.mono _ _ _)
   | (with_reducible exact laws_toTree.mono _ _)
   | (with_reducible exact spec_ReachedTree.mono _ _)
   | (with_reducible exact LeO.refl _)
   | (with_reducible exact LeO.none _)
   | (with_reducible refine LeO.ite ?_ ?_)
   | (with_reducible refine LeO.bind ?_ (fun _ => ?_))
   | exact ih0 _ _ _ _ _ _ _
   | exact ih1 _ _ _ _ _
   | exact ih2 _ _ _
   | exact impl_ReachedTree.mono _ _
   | exact laws_eqTree.mono _ _ _
   | exact laws_heldTree.mono _ _ _
   | exact laws_markTree.mono _ _ _
   | exact laws_toTree.mono _ _
   | exact spec_ReachedTree.mono _ _
   | exact LeO.none _
   | refine LeO.ite ?_ ?_
   | refine LeO.bind ?_ (fun _ => ?_)
  intro y0 y1 y2
  unfold laws_FnExactReachedTree.j2
  repeat' first
  | (with_reducible exact ih0 _ _ _ _ _ _ _)
  | (with_reducible exact ih1 _ _ _ _ _)
  | (with_reducible exact ih2 _ _ _)
  | (with_reducible exact impl_ReachedTree.mono _ _)
  | (with_reducible exact laws_eqTree.mono _ _ _)
  | (with_reducible exact laws_heldTree.mono _ _ _)
  | (with_reducible exact laws_markTree.mono _ _ _)
  | (with_reducible exact laws_toTree.mono _ _)
  | (with_reducible exact spec_ReachedTree.mono _ _)
  | (with_reducible exact LeO.refl _)
  | (with_reducible exact LeO.none _)
  | (with_reducible refine LeO.ite ?_ ?_)
  | (with_reducible refine LeO.bind ?_ (fun _ => ?_))
  | exact ih0 _ _ _ _ _ _ _
  | exact ih1 _ _ _ _ _
  | exact ih2 _ _ _
  | exact impl_ReachedTree.mono _ _
  | exact laws_eqTree.mono _ _ _
  | exact laws_heldTree.mono _ _ _
  | exact laws_markTree.mono _ _ _
  | exact laws_toTree.mono _ _
  | exact spec_ReachedTree.mono _ _
  | exact LeO.none _
  | refine LeO.ite ?_ ?_
  | refine LeO.bind ?_ (fun _ => ?_)
theorem laws_FnExactReachedTree.mono : ∀ a0 k, LeO (laws_FnExactReachedTree.f k a0) (laws_FnExactReachedTree.f (k + 1) a0) := by
 intro a0 k
 obtain ⟨ih0, ih1, ih2⟩ := laws_FnExactReachedTree.mono_l k
 unfold laws_FnExactReachedTree.f
 repeat' first
   | (with_reducible exact ih0 _ _ _ _ _ _ _)
   | (with_reducible exact ih1 _ _ _ _ _)
   | (with_reducible exact ih2 _ _ _)
   | (with_reducible exact impl_ReachedTree.mono _ _)
   | (with_reducible exact laws_eqTree.mono _ _ _)
   | (with_reducible exact laws_heldTree.mono _ _ _)
   | (with_reducible exact laws_markTree.mono _ _ _)
   | (with_reducible exact laws_toTree.mono _ _)
   | (with_reducible exact spec_ReachedTree.mono _ _)
   | (with_reducible exact LeO.refl _)
   | (with_reducible exact LeO.none _)
   | (with_reducible refine LeO.ite ?_ ?_)
   | (with_reducible refine LeO.bind ?_ (fun _ => ?_))
   | exact ih0 _ _ _ _ _ _ _
   | exact ih1 _ _ _ _ _
   | exact ih2 _ _ _
   | exact impl_ReachedTree.mono _ _
   | exact laws_eqTree.mono _ _ _
   | exact laws_heldTree.mono _ _ _
   | exact laws_markTree.mono _ _ _
   | exact laws_toTree.mono _ _
   | exact spec_ReachedTree.mono _ _
   | exact LeO.none _
   | refine LeO.ite ?_ ?_
   | refine LeO.bind ?_ (fun _ => ?_)
set_option maxHeartbeats 8000000 in
set_option maxRecDepth 100000 in
theorem laws_FnExactReachedTree.calls (k : Nat) (A0_0 : Option Addr) (c0_0 : Nat) (l0_0 : List (S129)) (r : Bool) (w : World) (hr0_0 : Kd.C k129 w A0_0 l0_0.length l0_0) (hc0_0 : l0_0.length ≤ c0_0) (h : laws_FnExactReachedTree.f k l0_0 = some r) :
  Calls Try.prog 9 #[.agg #[.slice A0_0 l0_0.length c0_0]] w fun e w' => e = .returned (.bool r) ∧ Below w.heap.size w w' := by
 have hu31 := Try.underlying31
 have hu24 := Try.underlying24
 have HR0_0 := aM9_ hr0_0
 have HC0_0 := aM9_ hc0_0
 clear hr0_0 hc0_0
 have HB := aM9_ (Below.refl w.heap.size w)
 have H : ((laws_szTree.f l0_0 1048576).bind fun t286 => (if t286 < 0 then (some true) else ((laws_toTree.f k l0_0).bind fun t287 => ((spec_ReachedTree.f k t287).bind fun bt290 => ((laws_toTree.f k l0_0).bind fun t295 => ((impl_ReachedTree.f k t295).bind fun bt299 => ((laws_eqTree.f k bt299.1 bt290.1).bind fun t304 => (if t304 = true then (laws_FnExactReachedTree.j0 k bt290.2 bt299.2 (bt299.2 != bt290.2) l0_0 bt290.1 t295 bt299.1) else (laws_FnExactReachedTree.j0 k bt290.2 bt299.2 true l0_0 bt290.1 t295 bt299.1))))))))) = some r := h
 clear h
 replace H := Option.bind_eq_some_iff.mp H
 obtain ⟨t286, A20, H⟩ := H
 replace H : (if t286 < 0 then (some true) else ((laws_toTree.f k l0_0).bind fun t287 => ((spec_ReachedTree.f k t287).bind fun bt290 => ((laws_toTree.f k l0_0).bind fun t295 => ((impl_ReachedTree.f k t295).bind fun bt299 => ((laws_eqTree.f k bt299.1 bt290.1).bind fun t304 => (if t304 = true then (laws_FnExactReachedTree.j0 k bt290.2 bt299.2 (bt299.2 != bt290.2) l0_0 bt290.1 t295 bt299.1) else (laws_FnExactReachedTree.j0 k bt290.2 bt299.2 true l0_0 bt290.1 t295 bt299.1)))))))) = some r := H
 have A2 := aM9_ A20
 clear A20
 by_cases c3 : t286 < 0
 ·rw [if_pos c3] at H
  have c3b0 : decide (t286 < 0) = true := decide_eq_true c3
  clear c3
  obtain rfl := Option.some.inj H
  go_enter Try.func9, Try.ntmps9
  go_wp2_with (first | ((with_reducible refine gate_dst (N := 1) rfl ?_); refine box_event ?hg (N := 1) ?hd (cs := #[.slice A0_0 l0_0.length c0_0]) (t := 31) ?hr ?_; (case hd => rfl); (case hg => rfl); (case hr => first | (go_simp; done) | (go_simp; rfl)); intro gb285 hg w4 hbox hb; have n0_ := aM9_ (below_step q9x18_ hb); have n1_ := aM9_ (hbox); have n2_ := aM9_ ((by rw [hg]; exact (below_size q9x18_) : w.heap.size ≤ gb285)); have n3_ := aM9_ ((by rw [hg]; exact (below_size q9x18_) : w.heap.size ≤ gb285)); clear HB; have HB := n0_; have BK285 := n1_; have GW285 := n2_; have GE285 := n3_; clear n0_ n1_ n2_ n3_; clear hb hbox hg; have hcz5_0 : w4.cell? ⟨gb285, 0, none⟩ = some (.slice A0_0 l0_0.length c0_0) := (kC9_ BK285.out 0).trans rfl; have hfz5_0 := blk_frozen BK285.out 0) | ((with_reducible refine gate_callee (f := 24) rfl ?_); refine goesL_ (some 16) rfl rfl Try.func24 (by kernel_rfl) rfl #[.agg #[.slice A0_0 l0_0.length c0_0], .int .i64 1048576] rfl q9x3_ ?_; (with_reducible refine (laws_szTree.calls _ _ l0_0 1048576 t286 _ ?side1 ?side2 A2.out).mono ?_); (case side1 => repeat (first | exact (Kd.C_below HR0_0.out HB.out) | (with_reducible refine Kd.C_alloc ?_ _) | (with_reducible refine Kd.C_drewN ?_ _) | (with_reducible refine Kd.C_drew ?_))); (case side2 => exact HC0_0.out); rintro e w6 ⟨rfl, hb⟩; refine ⟨_, rfl, ?_⟩; have n0_ := aM9_ (kB9_ (g := gb285) (o := .cells #[.slice A0_0 l0_0.length c0_0] 31 (0, 0)) q9x2_ hb); have n1_ := aM9_ (below_step q9x10_ hb); clear BK285; clear HB; have BK285 := n0_; have HB := n1_; clear n0_ n1_; (try clear hb); (try clear hb2); (try clear hk); (try clear hi)))
  go_ret
  exact ⟨by first | rfl | (simp [errW_none, errW_some] <;> rfl) | (simp [*, errW_none, errW_some] <;> rfl), by repeat (first | (with_reducible first | exact HB.out | apply below_alloc | apply pw_below_drewN | apply below_drew1 | refine bS9_ ?_ GE285.out) | exact HB.out)⟩
 rw [if_neg c3] at H
 have c3b0 : decide (t286 < 0) = false := decide_eq_false c3
 clear c3
 replace H := Option.bind_eq_some_iff.mp H
 obtain ⟨t287, A70, H⟩ := H
 replace H : ((spec_ReachedTree.f k t287).bind fun bt290 => ((laws_toTree.f k l0_0).bind fun t295 => ((impl_ReachedTree.f k t295).bind fun bt299 => ((laws_eqTree.f k bt299.1 bt290.1).bind fun t304 => (if t304 = true then (laws_FnExactReachedTree.j0 k bt290.2 bt299.2 (bt299.2 != bt290.2) l0_0 bt290.1 t295 bt299.1) else (laws_FnExactReachedTree.j0 k bt290.2 bt299.2 true l0_0 bt290.1 t295 bt299.1)))))) = some r := H
 have A7 := aM9_ A70
 clear A70
 replace H := Option.bind_eq_some_iff.mp H
 obtain ⟨⟨t290, t293⟩, A80, H⟩ := H
 replace H : ((laws_toTree.f k l0_0).bind fun t295 => ((impl_ReachedTree.f k t295).bind fun bt299 => ((laws_eqTree.f k bt299.1 t290).bind fun t304 => (if t304 = true then (laws_FnExactReachedTree.j0 k t293 bt299.2 (bt299.2 != t293) l0_0 t290 t295 bt299.1) else (laws_FnExactReachedTree.j0 k t293 bt299.2 true l0_0 t290 t295 bt299.1))))) = some r := H
 have A8 := aM9_ A80
 clear A80
 replace H := Option.bind_eq_some_iff.mp H
 obtain ⟨t295, A90, H⟩ := H
 replace H : ((impl_ReachedTree.f k t295).bind fun bt299 => ((laws_eqTree.f k bt299.1 t290).bind fun t304 => (if t304 = true then (laws_FnExactReachedTree.j0 k t293 bt299.2 (bt299.2 != t293) l0_0 t290 t295 bt299.1) else (laws_FnExactReachedTree.j0 k t293 bt299.2 true l0_0 t290 t295 bt299.1)))) = some r := H
 have A9 := aM9_ A90
 clear A90
 replace H := Option.bind_eq_some_iff.mp H
 obtain ⟨⟨t299, t302⟩, A100, H⟩ := H
 replace H : ((laws_eqTree.f k t299 t290).bind fun t304 => (if t304 = true then (laws_FnExactReachedTree.j0 k t293 t302 (t302 != t293) l0_0 t290 t295 t299) else (laws_FnExactReachedTree.j0 k t293 t302 true l0_0 t290 t295 t299))) = some r := H
 have A10 := aM9_ A100
 clear A100
 have HC11 := aM9_ H
 clear H
 go_enter Try.func9, Try.ntmps9
 go_upto_region 8 with (first | ((with_reducible refine gate_dst (N := 1) rfl ?_); refine box_event ?hg (N := 1) ?hd (cs := #[.slice A0_0 l0_0.length c0_0]) (t := 31) ?hr ?_; (case hd => rfl); (case hg => rfl); (case hr => first | (go_simp; done) | (go_simp; rfl)); intro gb285 hg w12 hbox hb; have n0_ := aM9_ (below_step q9x18_ hb); have n1_ := aM9_ (hbox); have n2_ := aM9_ ((by rw [hg]; exact (below_size q9x18_) : w.heap.size ≤ gb285)); have n3_ := aM9_ ((by rw [hg]; exact (below_size q9x18_) : w.heap.size ≤ gb285)); clear HB; have HB := n0_; have BK285 := n1_; have GW285 := n2_; have GE285 := n3_; clear n0_ n1_ n2_ n3_; clear hb hbox hg; have hcz13_0 : w12.cell? ⟨gb285, 0, none⟩ = some (.slice A0_0 l0_0.length c0_0) := (kC9_ BK285.out 0).trans rfl; have hfz13_0 := blk_frozen BK285.out 0) | ((with_reducible refine gate_callee (f := 24) rfl ?_); refine goesL_ (some 16) rfl rfl Try.func24 (by kernel_rfl) rfl #[.agg #[.slice A0_0 l0_0.length c0_0], .int .i64 1048576] rfl q9x3_ ?_; (with_reducible refine (laws_szTree.calls _ _ l0_0 1048576 t286 _ ?side1 ?side2 A2.out).mono ?_); (case side1 => repeat (first | exact (Kd.C_below HR0_0.out HB.out) | (with_reducible refine Kd.C_alloc ?_ _) | (with_reducible refine Kd.C_drewN ?_ _) | (with_reducible refine Kd.C_drew ?_))); (case side2 => exact HC0_0.out); rintro e w14 ⟨rfl, hb⟩; refine ⟨_, rfl, ?_⟩; have n0_ := aM9_ (kB9_ (g := gb285) (o := .cells #[.slice A0_0 l0_0.length c0_0] 31 (0, 0)) q9x2_ hb); have n1_ := aM9_ (below_step q9x10_ hb); clear BK285; clear HB; have BK285 := n0_; have HB := n1_; clear n0_ n1_; (try clear hb); (try clear hb2); (try clear hk); (try clear hi); have hcz15_0 : w14.cell? ⟨gb285, 0, none⟩ = some (.slice A0_0 l0_0.length c0_0) := (kC9_ BK285.out 0).trans rfl; have hfz15_0 := blk_frozen BK285.out 0) | ((with_reducible refine gate_callee (f := 26) rfl ?_); refine goesL_ (some 21) rfl rfl Try.func26 (by kernel_rfl) rfl #[.agg #[.slice A0_0 l0_0.length c0_0]] rfl q9x3_ ?_; (with_reducible refine (laws_toTree.calls k _ _ l0_0 t287 _ ?side1 ?side2 A7.out).mono ?_); (case side1 => repeat (first | exact (Kd.C_below HR0_0.out HB.out) | (with_reducible refine Kd.C_alloc ?_ _) | (with_reducible refine Kd.C_drewN ?_ _) | (with_reducible refine Kd.C_drew ?_))); (case side2 => exact HC0_0.out); rintro e w16 ⟨v288, rfl, ho0, hb⟩; refine ⟨_, rfl, ?_⟩; have n0_ := aM9_ (Kd.R_lower ho0 (below_size q9x10_)); have n1_ := aM9_ (kB9_ (g := gb285) (o := .cells #[.slice A0_0 l0_0.length c0_0] 31 (0, 0)) q9x2_ hb); have n2_ := aM9_ (below_step q9x10_ hb); clear BK285; clear HB; have HO289 := n0_; have BK285 := n1_; have HB := n2_; clear n0_ n1_ n2_; (try clear hb); (try clear hb2); (try clear hk); (try clear hi); (try clear ho0); obtain ⟨Ao17, co17, eo17⟩ := Kd.R_slice HO289.out; subst eo17) | ((with_reducible refine gate_callee (f := 32) rfl ?_); refine goesL_ (some 22) rfl rfl Try.func32 (by kernel_rfl) rfl #[.agg #[.slice Ao17 t287.length co17]] rfl q9x3_ ?_; (with_reducible refine (spec_ReachedTree.calls k _ _ t287 t290 t293 _ ?side1 ?side2 A8.out).mono ?_); (case side1 => repeat (first | exact (Kd.R_reads' HO289.out).2.2 | (with_reducible refine Kd.C_alloc ?_ _) | (with_reducible refine Kd.C_drewN ?_ _) | (with_reducible refine Kd.C_drew ?_))); (case side2 => exact (Kd.R_reads' HO289.out).2.1); rintro e w18 ⟨v291, rfl, ho0, hb⟩; refine ⟨_, rfl, ?_⟩; have n0_ := aM9_ (Kd.R_elder' q9x21_ (Kd.R_base ho0) hb); have n1_ := aM9_ (Kd.R_lower (Kd.R_new' ho0 (Kd.R_lt q9x21_)) (below_size q9x10_)); have n2_ := aM9_ (kB9_ (g := gb285) (o := .cells #[.slice A0_0 l0_0.length c0_0] 31 (0, 0)) q9x2_ hb); have n3_ := aM9_ (below_step q9x10_ hb); clear HO289; clear BK285; clear HB; have HO289 := n0_; have HO292 := n1_; have BK285 := n2_; have HB := n3_; clear n0_ n1_ n2_ n3_; (try clear hb); (try clear hb2); (try clear hk); (try clear hi); (try clear ho0)) | ((with_reducible refine gate_dst (N := 4) rfl ?_); refine box_event ?hg (N := 4) ?hd (cs := #[.slice none 0 0]) (t := 24) ?hr ?_; (case hd => rfl); (case hg => rfl); (case hr => first | (go_simp; done) | (go_simp; rfl)); intro gb294 hg w19 hbox hb; have n0_ := aM9_ (rB9_ q9x21_ hb); have n1_ := aM9_ (rB9_ q9x48_ hb); have n2_ := aM9_ (kB9_ (g := gb285) (o := .cells #[.slice A0_0 l0_0.length c0_0] 31 (0, 0)) q9x2_ hb); have n3_ := aM9_ (below_step q9x10_ hb); have n4_ := aM9_ (hbox); have n5_ := aM9_ ((by rw [hg]; exact (below_size q9x10_) : w.heap.size ≤ gb294)); have n6_ := aM9_ ((by rw [hg]; exact (below_size q9x10_) : w.heap.size ≤ gb294)); have n7_ := aM9_ ((q9x22_ : gb285 ≠ gb294)); have n8_ := aM9_ ((q9x23_ : gb294 ≠ gb285)); clear HO289; clear HO292; clear BK285; clear HB; have HO289 := n0_; have HO292 := n1_; have BK285 := n2_; have HB := n3_; have BK294 := n4_; have GW294 := n5_; have GE294 := n6_; have NB285_294 := n7_; have NB294_285 := n8_; clear n0_ n1_ n2_ n3_ n4_ n5_ n6_ n7_ n8_; clear hb hbox hg; obtain ⟨Ao20, co20, eo20⟩ := Kd.R_slice HO292.out; subst eo20; have hnb21 := NB294_285.out; have hnc21 := NB285_294.out; have hcz22_0 : w19.cell? ⟨gb294, 0, none⟩ = some (.slice none 0 0) := (kC9_ BK294.out 0).trans rfl; have hfz22_0 := blk_frozen BK294.out 0; have hcz23_0 : w19.cell? ⟨gb285, 0, none⟩ = some (.slice A0_0 l0_0.length c0_0) := (kC9_ BK285.out 0).trans rfl; have hfz23_0 := blk_frozen BK285.out 0) | ((with_reducible refine gate_callee (f := 26) rfl ?_); refine goesL_ (some 26) rfl rfl Try.func26 (by kernel_rfl) rfl #[.agg #[.slice A0_0 l0_0.length c0_0]] rfl q9x3_ ?_; (with_reducible refine (laws_toTree.calls k _ _ l0_0 t295 _ ?side1 ?side2 A9.out).mono ?_); (case side1 => exact Kd.C_below HR0_0.out q9x12_); (case side2 => exact HC0_0.out); rintro e w24 ⟨v296, rfl, ho0, hb⟩; refine ⟨_, rfl, ?_⟩; have n0_ := aM9_ (Kd.R_elder' q9x31_ (Kd.R_base ho0) hb); have n1_ := aM9_ (Kd.R_elder' q9x32_ (Kd.R_base ho0) hb); have n2_ := aM9_ (Kd.R_lower (Kd.R_new' (Kd.R_new' ho0 (Kd.R_lt q9x31_)) (Kd.R_lt q9x32_)) (below_size q9x12_)); have n3_ := aM9_ (kB9_ (g := gb285) (o := .cells #[.slice A0_0 l0_0.length c0_0] 31 (0, 0)) (by (with_reducible repeat (first | refine kN9_ ?_ _ | refine kD9_ ?_ | refine kA9_ ?_ _)); refine blk_far ?_ NB285_294.out _; (with_reducible repeat (first | refine kN9_ ?_ _ | refine kD9_ ?_ | refine kA9_ ?_ _)); exact BK285.out) hb); have n4_ := aM9_ (kB9_ (g := gb294) (o := .cells #[.slice Ao20 t290.length co20] 24 (0, 0)) (by (with_reducible repeat (first | refine kN9_ ?_ _ | refine kD9_ ?_ | refine kA9_ ?_ _)); refine blk_put (cs := #[.slice none 0 0]) ?_ 0 _ rfl; (with_reducible repeat (first | refine kN9_ ?_ _ | refine kD9_ ?_ | refine kA9_ ?_ _)); exact BK294.out) hb); have n5_ := aM9_ (below_step q9x12_ hb); clear HO289; clear HO292; clear BK285; clear BK294; clear HB; have HO289 := n0_; have HO292 := n1_; have HO297 := n2_; have BK285 := n3_; have BK294 := n4_; have HB := n5_; clear n0_ n1_ n2_ n3_ n4_ n5_; (try clear hb); (try clear hb2); (try clear hk); (try clear hi); (try clear ho0)) | ((with_reducible refine gate_dst (N := 6) rfl ?_); refine box_event ?hg (N := 6) ?hd (cs := #[.slice none 0 0]) (t := 24) ?hr ?_; (case hd => rfl); (case hg => rfl); (case hr => first | (go_simp; done) | (go_simp; rfl)); intro gb298 hg w25 hbox hb; have n0_ := aM9_ (rB9_ q9x21_ hb); have n1_ := aM9_ (rB9_ q9x48_ hb); have n2_ := aM9_ (rB9_ (by (with_reducible repeat (first | apply rA9_ | apply rN9_ | apply rD9_)); exact HO297.out) hb); have n3_ := aM9_ (kB9_ (g := gb285) (o := .cells #[.slice A0_0 l0_0.length c0_0] 31 (0, 0)) q9x2_ hb); have n4_ := aM9_ (kB9_ (g := gb294) (o := .cells #[.slice Ao20 t290.length co20] 24 (0, 0)) q9x4_ hb); have n5_ := aM9_ (below_step q9x12_ hb); have n6_ := aM9_ (hbox); have n7_ := aM9_ ((by rw [hg]; exact (below_size q9x12_) : w.heap.size ≤ gb298)); have n8_ := aM9_ ((by rw [hg]; exact (below_size q9x12_) : w.heap.size ≤ gb298)); have n9_ := aM9_ ((q9x22_ : gb285 ≠ gb298)); have n10_ := aM9_ ((q9x23_ : gb298 ≠ gb285)); have n11_ := aM9_ ((q9x45_ : gb294 ≠ gb298)); have n12_ := aM9_ ((q9x46_ : gb298 ≠ gb294)); clear HO289; clear HO292; clear HO297; clear BK285; clear BK294; clear HB; have HO289 := n0_; have HO292 := n1_; have HO297 := n2_; have BK285 := n3_; have BK294 := n4_; have HB := n5_; have BK298 := n6_; have GW298 := n7_; have GE298 := n8_; have NB285_298 := n9_; have NB298_285 := n10_; have NB294_298 := n11_; have NB298_294 := n12_; clear n0_ n1_ n2_ n3_ n4_ n5_ n6_ n7_ n8_ n9_ n10_ n11_ n12_; clear hb hbox hg; obtain ⟨Ao26, co26, eo26⟩ := Kd.R_slice HO297.out; subst eo26; have hnb27 := NB298_285.out; have hnc27 := NB285_298.out; have hnb28 := NB298_294.out; have hnc28 := NB294_298.out; have hcz29_0 : w25.cell? ⟨gb298, 0, none⟩ = some (.slice none 0 0) := (kC9_ BK298.out 0).trans rfl; have hfz29_0 := blk_frozen BK298.out 0) | ((with_reducible refine gate_callee (f := 33) rfl ?_); refine goesL_ (some 29) rfl rfl Try.func33 (by kernel_rfl) rfl #[.agg #[.slice Ao26 t295.length co26]] rfl q9x3_ ?_; (with_reducible refine (impl_ReachedTree.calls k _ _ t295 t299 t302 _ ?side1 ?side2 A10.out).mono ?_); (case side1 => refine (Kd.R_reads' (e := 77) (base := w.heap.size) (ok := fun k_ => ((True ∧ some k_ ≠ (.slice Ao17 t287.length co17 : Value).ownBlock) ∧ some k_ ≠ (.slice Ao20 t290.length co20 : Value).ownBlock)) (n := t295.length) (c := co26) ?_).2.2; exact q9x19_); (case side2 => exact (Kd.R_reads' HO297.out).2.1); rintro e w30 ⟨v300, rfl, ho0, hb⟩; refine ⟨_, rfl, ?_⟩; have n0_ := aM9_ (Kd.R_elder' q9x33_ (Kd.R_base ho0) hb); have n1_ := aM9_ (Kd.R_elder' q9x34_ (Kd.R_base ho0) hb); have n2_ := aM9_ (Kd.R_elder' q9x19_ (Kd.R_base ho0) hb); have n3_ := aM9_ (Kd.R_lower (Kd.R_new' (Kd.R_new' (Kd.R_new' ho0 (Kd.R_lt q9x33_)) (Kd.R_lt q9x34_)) (Kd.R_lt q9x19_)) (below_size q9x13_)); have n4_ := aM9_ (kB9_ (g := gb285) (o := .cells #[.slice A0_0 l0_0.length c0_0] 31 (0, 0)) (by (with_reducible repeat (first | refine kN9_ ?_ _ | refine kD9_ ?_ | refine kA9_ ?_ _)); refine blk_far ?_ NB285_298.out _; (with_reducible repeat (first | refine kN9_ ?_ _ | refine kD9_ ?_ | refine kA9_ ?_ _)); exact BK285.out) hb); have n5_ := aM9_ (kB9_ (g := gb294) (o := .cells #[.slice Ao20 t290.length co20] 24 (0, 0)) (by (with_reducible repeat (first | refine kN9_ ?_ _ | refine kD9_ ?_ | refine kA9_ ?_ _)); refine blk_far ?_ NB294_298.out _; (with_reducible repeat (first | refine kN9_ ?_ _ | refine kD9_ ?_ | refine kA9_ ?_ _)); exact BK294.out) hb); have n6_ := aM9_ (kB9_ (g := gb298) (o := .cells #[.slice Ao26 t295.length co26] 24 (0, 0)) (by (with_reducible repeat (first | refine kN9_ ?_ _ | refine kD9_ ?_ | refine kA9_ ?_ _)); refine blk_put (cs := #[.slice none 0 0]) ?_ 0 _ rfl; (with_reducible repeat (first | refine kN9_ ?_ _ | refine kD9_ ?_ | refine kA9_ ?_ _)); exact BK298.out) hb); have n7_ := aM9_ (below_step q9x13_ hb); clear HO289; clear HO292; clear HO297; clear BK285; clear BK294; clear BK298; clear HB; have HO289 := n0_; have HO292 := n1_; have HO297 := n2_; have HO301 := n3_; have BK285 := n4_; have BK294 := n5_; have BK298 := n6_; have HB := n7_; clear n0_ n1_ n2_ n3_ n4_ n5_ n6_ n7_; (try clear hb); (try clear hb2); (try clear hk); (try clear hi); (try clear ho0)) | ((with_reducible refine gate_dst (N := 7) rfl ?_); refine box_event ?hg (N := 7) ?hd (cs := #[.slice none 0 0]) (t := 24) ?hr ?_; (case hd => rfl); (case hg => rfl); (case hr => first | (go_simp; done) | (go_simp; rfl)); intro gb303 hg w31 hbox hb; have n0_ := aM9_ (rB9_ q9x21_ hb); have n1_ := aM9_ (rB9_ q9x48_ hb); have n2_ := aM9_ (rB9_ (by (with_reducible repeat (first | apply rA9_ | apply rN9_ | apply rD9_)); exact HO297.out) hb); have n3_ := aM9_ (rB9_ (by (with_reducible repeat (first | apply rA9_ | apply rN9_ | apply rD9_)); exact HO301.out) hb); have n4_ := aM9_ (kB9_ (g := gb285) (o := .cells #[.slice A0_0 l0_0.length c0_0] 31 (0, 0)) q9x2_ hb); have n5_ := aM9_ (kB9_ (g := gb294) (o := .cells #[.slice Ao20 t290.length co20] 24 (0, 0)) q9x4_ hb); have n6_ := aM9_ (kB9_ (g := gb298) (o := .cells #[.slice Ao26 t295.length co26] 24 (0, 0)) q9x5_ hb); have n7_ := aM9_ (below_step q9x13_ hb); have n8_ := aM9_ (hbox); have n9_ := aM9_ ((by rw [hg]; exact (below_size q9x13_) : w.heap.size ≤ gb303)); have n10_ := aM9_ ((by rw [hg]; exact (below_size q9x13_) : w.heap.size ≤ gb303)); have n11_ := aM9_ ((q9x22_ : gb285 ≠ gb303)); have n12_ := aM9_ ((q9x23_ : gb303 ≠ gb285)); have n13_ := aM9_ ((q9x45_ : gb294 ≠ gb303)); have n14_ := aM9_ ((q9x46_ : gb303 ≠ gb294)); have n15_ := aM9_ ((by rw [hg]; exact Nat.ne_of_lt (blk_lt (g := gb298) (o := .cells #[.slice Ao26 t295.length co26] 24 (0, 0)) q9x5_) : gb298 ≠ gb303)); have n16_ := aM9_ ((by rw [hg]; exact Nat.ne_of_gt (blk_lt (g := gb298) (o := .cells #[.slice Ao26 t295.length co26] 24 (0, 0)) q9x5_) : gb303 ≠ gb298)); clear HO289; clear HO292; clear HO297; clear HO301; clear BK285; clear BK294; clear BK298; clear HB; have HO289 := n0_; have HO292 := n1_; have HO297 := n2_; have HO301 := n3_; have BK285 := n4_; have BK294 := n5_; have BK298 := n6_; have HB := n7_; have BK303 := n8_; have GW303 := n9_; have GE303 := n10_; have NB285_303 := n11_; have NB303_285 := n12_; have NB294_303 := n13_; have NB303_294 := n14_; have NB298_303 := n15_; have NB303_298 := n16_; clear n0_ n1_ n2_ n3_ n4_ n5_ n6_ n7_ n8_ n9_ n10_ n11_ n12_ n13_ n14_ n15_ n16_; clear hb hbox hg; obtain ⟨Ao32, co32, eo32⟩ := Kd.R_slice HO301.out; subst eo32; have hnb33 := NB303_285.out; have hnc33 := NB285_303.out; have hnb34 := NB303_294.out; have hnc34 := NB294_303.out; have hnb35 := NB303_298.out; have hnc35 := NB298_303.out; have hcz36_0 : w31.cell? ⟨gb303, 0, none⟩ = some (.slice none 0 0) := (kC9_ BK303.out 0).trans rfl; have hfz36_0 := blk_frozen BK303.out 0))
 (try simp only [Act.put, List.setIfInBounds_toArray, List.set_cons_zero, List.set_cons_succ])
 go_cut [40] (fun v40 wc => ∃ (kq : Nat) (x40_10 : Bool), v40 = .bool x40_10 ∧ Aside0 (laws_FnExactReachedTree.j0 kq t293 t302 x40_10 l0_0 t290 t295 t299 = some r) ∧ Aside0 (kq ≤ k) ∧ Aside0 (Kd.R k77 77 wc w.heap.size (fun k_ => some k_ ≠ ((.slice Ao26 t295.length co26) : Value).ownBlock ∧ some k_ ≠ ((.slice Ao32 t299.length co32) : Value).ownBlock) (.slice Ao20 t290.length co20) t290) ∧ Aside0 (Kd.R k77 77 wc w.heap.size (fun k_ => some k_ ≠ ((.slice Ao20 t290.length co20) : Value).ownBlock ∧ some k_ ≠ ((.slice Ao32 t299.length co32) : Value).ownBlock) (.slice Ao26 t295.length co26) t295) ∧ Aside0 (Kd.R k77 77 wc w.heap.size (fun k_ => some k_ ≠ ((.slice Ao20 t290.length co20) : Value).ownBlock ∧ some k_ ≠ ((.slice Ao26 t295.length co26) : Value).ownBlock) (.slice Ao32 t299.length co32) t299) ∧ Aside0 (wc.heap[gb285]? = some (.cells #[(.slice A0_0 l0_0.length c0_0)] 31 (0, 0))) ∧ Aside0 (wc.heap[gb294]? = some (.cells #[(.slice Ao20 t290.length co20)] 24 (0, 0))) ∧ Aside0 (wc.heap[gb298]? = some (.cells #[(.slice Ao26 t295.length co26)] 24 (0, 0))) ∧ Aside0 (wc.heap[gb303]? = some (.cells #[(.slice Ao32 t299.length co32)] 24 (0, 0))) ∧ Aside0 (Below w.heap.size w wc))
 case first =>
  have H := HC11.out
  clear HC11
  replace H := Option.bind_eq_some_iff.mp H
  obtain ⟨t304, A370, H⟩ := H
  replace H : (if t304 = true then (laws_FnExactReachedTree.j0 k t293 t302 (t302 != t293) l0_0 t290 t295 t299) else (laws_FnExactReachedTree.j0 k t293 t302 true l0_0 t290 t295 t299)) = some r := H
  have A37 := aM9_ A370
  clear A370
  by_cases c38 : t304 = true
  ·subst c38
   have H1 : (laws_FnExactReachedTree.j0 k t293 t302 (t302 != t293) l0_0 t290 t295 t299) = some r := by rw [if_pos rfl] at H; exact H
   clear H
   have H := H1
   clear H1
   have H' := aM9_ H
   clear H
   have hnb39 := NB303_285.out
   have hnc39 := NB285_303.out
   have hnb40 := NB303_294.out
   have hnc40 := NB294_303.out
   have hnb41 := NB303_298.out
   have hnc41 := NB298_303.out
   have hcz42_0 : w31.cell? ⟨gb303, 0, none⟩ = some (.slice none 0 0) := (kC9_ BK303.out 0).trans rfl
   have hfz42_0 := blk_frozen BK303.out 0
   have hnb43 := NB294_285.out
   have hnc43 := NB285_294.out
   have hnb44 := NB294_298.out
   have hnc44 := NB298_294.out
   have hcz45_0 : w31.cell? ⟨gb294, 0, none⟩ = some (.slice Ao20 t290.length co20) := (kC9_ BK294.out 0).trans rfl
   have hfz45_0 := blk_frozen BK294.out 0
   go_wp2_with (first | ((with_reducible refine gate_callee (f := 17) rfl ?_); refine goesL_ (some 34) rfl rfl Try.func17 (by kernel_rfl) rfl #[.agg #[.slice Ao32 t299.length co32], .agg #[.slice Ao20 t290.length co20]] rfl q9x3_ ?_; (with_reducible refine (laws_eqTree.calls k _ _ t299 _ _ t290 true _ ?side1 ?side2 ?side3 ?side4 A37.out).mono ?_); (case side1 => refine (Kd.R_reads' (e := 77) (base := w.heap.size) (ok := fun k_ => (((True ∧ some k_ ≠ (.slice Ao17 t287.length co17 : Value).ownBlock) ∧ some k_ ≠ (.slice Ao20 t290.length co20 : Value).ownBlock) ∧ some k_ ≠ (.slice Ao26 t295.length co26 : Value).ownBlock)) (n := t299.length) (c := co32) ?_).2.2; exact q9x16_); (case side2 => exact (Kd.R_reads' HO301.out).2.1); (case side3 => refine (Kd.R_reads' (e := 77) (base := w.heap.size) (ok := fun k_ => (((True ∧ some k_ ≠ (.slice Ao17 t287.length co17 : Value).ownBlock) ∧ some k_ ≠ (.slice Ao26 t295.length co26 : Value).ownBlock) ∧ some k_ ≠ (.slice Ao32 t299.length co32 : Value).ownBlock)) (n := t290.length) (c := co20) ?_).2.2; exact q9x17_); (case side4 => exact (Kd.R_reads' HO292.out).2.1); rintro e w46 ⟨rfl, hb⟩; refine ⟨_, rfl, ?_⟩; have n0_ := aM9_ (rB9_ q9x35_ hb); have n1_ := aM9_ (rB9_ q9x17_ hb); have n2_ := aM9_ (rB9_ q9x36_ hb); have n3_ := aM9_ (rB9_ q9x16_ hb); have n4_ := aM9_ (kB9_ (g := gb285) (o := .cells #[.slice A0_0 l0_0.length c0_0] 31 (0, 0)) q9x37_ hb); have n5_ := aM9_ (kB9_ (g := gb294) (o := .cells #[.slice Ao20 t290.length co20] 24 (0, 0)) q9x38_ hb); have n6_ := aM9_ (kB9_ (g := gb298) (o := .cells #[.slice Ao26 t295.length co26] 24 (0, 0)) q9x39_ hb); have n7_ := aM9_ (kB9_ (g := gb303) (o := .cells #[.slice Ao32 t299.length co32] 24 (0, 0)) q9x25_ hb); have n8_ := aM9_ (below_step q9x1_ hb); clear HO289; clear HO292; clear HO297; clear HO301; clear BK285; clear BK294; clear BK298; clear BK303; clear HB; have HO289 := n0_; have HO292 := n1_; have HO297 := n2_; have HO301 := n3_; have BK285 := n4_; have BK294 := n5_; have BK298 := n6_; have BK303 := n7_; have HB := n8_; clear n0_ n1_ n2_ n3_ n4_ n5_ n6_ n7_ n8_; (try clear hb); (try clear hb2); (try clear hk); (try clear hi)))
   go_meet
   case rel => exact ⟨_, ((t302 != t293)), q9x27_, H', ⟨by first | omega | exact Nat.le_refl _⟩, ⟨by (with_reducible repeat (first | apply rA9_ | apply rN9_ | apply rD9_)); exact Kd.R_mono HO292.out (fun _ hk => ⟨hk.1.2, hk.2⟩)⟩, ⟨by (with_reducible repeat (first | apply rA9_ | apply rN9_ | apply rD9_)); exact Kd.R_mono HO297.out (fun _ hk => ⟨hk.1.2, hk.2⟩)⟩, ⟨by (with_reducible repeat (first | apply rA9_ | apply rN9_ | apply rD9_)); exact Kd.R_mono HO301.out (fun _ hk => ⟨hk.1.2, hk.2⟩)⟩, ⟨by (with_reducible repeat (first | refine kN9_ ?_ _ | refine kD9_ ?_ | refine kA9_ ?_ _)); exact BK285.out⟩, ⟨by (with_reducible repeat (first | refine kN9_ ?_ _ | refine kD9_ ?_ | refine kA9_ ?_ _)); exact BK294.out⟩, ⟨by (with_reducible repeat (first | refine kN9_ ?_ _ | refine kD9_ ?_ | refine kA9_ ?_ _)); exact BK298.out⟩, ⟨by (with_reducible repeat (first | refine kN9_ ?_ _ | refine kD9_ ?_ | refine kA9_ ?_ _)); exact BK303.out⟩, ⟨by repeat (first | (with_reducible first | exact HB.out | apply below_alloc | apply pw_below_drewN | apply below_drew1 | refine bS9_ ?_ GE285.out | refine bS9_ ?_ GE294.out | refine bS9_ ?_ GE298.out | refine bS9_ ?_ GE303.out) | exact HB.out)⟩⟩
  replace c38 := Bool.eq_false_iff.mpr c38
  subst c38
  have H1 : (laws_FnExactReachedTree.j0 k t293 t302 true l0_0 t290 t295 t299) = some r := by rw [if_neg (show ¬ (false = true) by decide)] at H; exact H
  clear H
  have H := H1
  clear H1
  have H' := aM9_ H
  clear H
  have hnb47 := NB303_285.out
  have hnc47 := NB285_303.out
  have hnb48 := NB303_294.out
  have hnc48 := NB294_303.out
  have hnb49 := NB303_298.out
  have hnc49 := NB298_303.out
  have hcz50_0 : w31.cell? ⟨gb303, 0, none⟩ = some (.slice none 0 0) := (kC9_ BK303.out 0).trans rfl
  have hfz50_0 := blk_frozen BK303.out 0
  have hnb51 := NB294_285.out
  have hnc51 := NB285_294.out
  have hnb52 := NB294_298.out
  have hnc52 := NB298_294.out
  have hcz53_0 : w31.cell? ⟨gb294, 0, none⟩ = some (.slice Ao20 t290.length co20) := (kC9_ BK294.out 0).trans rfl
  have hfz53_0 := blk_frozen BK294.out 0
  go_wp2_with (first | ((with_reducible refine gate_callee (f := 17) rfl ?_); refine goesL_ (some 34) rfl rfl Try.func17 (by kernel_rfl) rfl #[.agg #[.slice Ao32 t299.length co32], .agg #[.slice Ao20 t290.length co20]] rfl q9x3_ ?_; (with_reducible refine (laws_eqTree.calls k _ _ t299 _ _ t290 false _ ?side1 ?side2 ?side3 ?side4 A37.out).mono ?_); (case side1 => refine (Kd.R_reads' (e := 77) (base := w.heap.size) (ok := fun k_ => (((True ∧ some k_ ≠ (.slice Ao17 t287.length co17 : Value).ownBlock) ∧ some k_ ≠ (.slice Ao20 t290.length co20 : Value).ownBlock) ∧ some k_ ≠ (.slice Ao26 t295.length co26 : Value).ownBlock)) (n := t299.length) (c := co32) ?_).2.2; exact q9x16_); (case side2 => exact (Kd.R_reads' HO301.out).2.1); (case side3 => refine (Kd.R_reads' (e := 77) (base := w.heap.size) (ok := fun k_ => (((True ∧ some k_ ≠ (.slice Ao17 t287.length co17 : Value).ownBlock) ∧ some k_ ≠ (.slice Ao26 t295.length co26 : Value).ownBlock) ∧ some k_ ≠ (.slice Ao32 t299.length co32 : Value).ownBlock)) (n := t290.length) (c := co20) ?_).2.2; exact q9x17_); (case side4 => exact (Kd.R_reads' HO292.out).2.1); rintro e w54 ⟨rfl, hb⟩; refine ⟨_, rfl, ?_⟩; have n0_ := aM9_ (rB9_ q9x35_ hb); have n1_ := aM9_ (rB9_ q9x17_ hb); have n2_ := aM9_ (rB9_ q9x36_ hb); have n3_ := aM9_ (rB9_ q9x16_ hb); have n4_ := aM9_ (kB9_ (g := gb285) (o := .cells #[.slice A0_0 l0_0.length c0_0] 31 (0, 0)) q9x37_ hb); have n5_ := aM9_ (kB9_ (g := gb294) (o := .cells #[.slice Ao20 t290.length co20] 24 (0, 0)) q9x38_ hb); have n6_ := aM9_ (kB9_ (g := gb298) (o := .cells #[.slice Ao26 t295.length co26] 24 (0, 0)) q9x39_ hb); have n7_ := aM9_ (kB9_ (g := gb303) (o := .cells #[.slice Ao32 t299.length co32] 24 (0, 0)) q9x25_ hb); have n8_ := aM9_ (below_step q9x1_ hb); clear HO289; clear HO292; clear HO297; clear HO301; clear BK285; clear BK294; clear BK298; clear BK303; clear HB; have HO289 := n0_; have HO292 := n1_; have HO297 := n2_; have HO301 := n3_; have BK285 := n4_; have BK294 := n5_; have BK298 := n6_; have BK303 := n7_; have HB := n8_; clear n0_ n1_ n2_ n3_ n4_ n5_ n6_ n7_ n8_; (try clear hb); (try clear hb2); (try clear hk); (try clear hi)))
  go_meet
  case rel => exact ⟨_, (true), q9x27_, H', ⟨by first | omega | exact Nat.le_refl _⟩, ⟨by (with_reducible repeat (first | apply rA9_ | apply rN9_ | apply rD9_)); exact Kd.R_mono HO292.out (fun _ hk => ⟨hk.1.2, hk.2⟩)⟩, ⟨by (with_reducible repeat (first | apply rA9_ | apply rN9_ | apply rD9_)); exact Kd.R_mono HO297.out (fun _ hk => ⟨hk.1.2, hk.2⟩)⟩, ⟨by (with_reducible repeat (first | apply rA9_ | apply rN9_ | apply rD9_)); exact Kd.R_mono HO301.out (fun _ hk => ⟨hk.1.2, hk.2⟩)⟩, ⟨by (with_reducible repeat (first | refine kN9_ ?_ _ | refine kD9_ ?_ | refine kA9_ ?_ _)); exact BK285.out⟩, ⟨by (with_reducible repeat (first | refine kN9_ ?_ _ | refine kD9_ ?_ | refine kA9_ ?_ _)); exact BK294.out⟩, ⟨by (with_reducible repeat (first | refine kN9_ ?_ _ | refine kD9_ ?_ | refine kA9_ ?_ _)); exact BK298.out⟩, ⟨by (with_reducible repeat (first | refine kN9_ ?_ _ | refine kD9_ ?_ | refine kA9_ ?_ _)); exact BK303.out⟩, ⟨by repeat (first | (with_reducible first | exact HB.out | apply below_alloc | apply pw_below_drewN | apply below_drew1 | refine bS9_ ?_ GE285.out | refine bS9_ ?_ GE294.out | refine bS9_ ?_ GE298.out | refine bS9_ ?_ GE303.out) | exact HB.out)⟩⟩
 case rest =>
  clear HC11
  try clear c1
  try clear c2
  try clear p2
  try clear c3
  try clear c3b0
  try clear c4
  try clear c5
  try clear c9
  try clear c17
  try clear c21
  try clear c24
  try clear c26
  try clear c27
  try clear c28
  try clear c32
  try clear c33
  try clear c34
  try clear c35
  try clear c38
  try clear c39
  try clear c40
  try clear c41
  try clear c43
  try clear c44
  try clear c47
  try clear c48
  try clear c49
  try clear c51
  try clear c52
  try clear hcz13_0
  try clear hcz15_0
  try clear hcz22_0
  try clear hcz23_0
  try clear hcz29_0
  try clear hcz36_0
  try clear hcz42_0
  try clear hcz45_0
  try clear hcz50_0
  try clear hcz53_0
  try clear hcz5_0
  try clear hfz13_0
  try clear hfz15_0
  try clear hfz22_0
  try clear hfz23_0
  try clear hfz29_0
  try clear hfz36_0
  try clear hfz42_0
  try clear hfz45_0
  try clear hfz50_0
  try clear hfz53_0
  try clear hfz5_0
  obtain ⟨kq, x40_10, rfl, HA, HJ10, HO_295000, HO_299000, HO_304000, BK285, BK294, BK298, BK303, HB⟩ := hcut
  cases kq with
  | zero => exact absurd HA.out (by simp [laws_FnExactReachedTree.j0])
  | succ kj10 =>
   have H := HA.out
   clear HA
   simp only [laws_FnExactReachedTree.j0] at H
   by_cases c55 : x40_10 = true
   ·subst c55
    have H1 : (some false) = some r := by rw [if_pos rfl] at H; exact H
    clear H
    have H := H1
    clear H1
    obtain rfl := Option.some.inj H
    go_wp2
    go_ret
    exact ⟨by first | rfl | (simp [errW_none, errW_some] <;> rfl) | (simp [*, errW_none, errW_some] <;> rfl), by repeat (first | (with_reducible first | exact HB.out | apply below_alloc | apply pw_below_drewN | apply below_drew1 | refine bS9_ ?_ GE285.out | refine bS9_ ?_ GE294.out | refine bS9_ ?_ GE298.out | refine bS9_ ?_ GE303.out) | exact HB.out)⟩
   replace c55 := Bool.eq_false_iff.mpr c55
   subst c55
   have H1 : ((laws_toTree.f kj10 l0_0).bind fun t305 => ((laws_eqTree.f kj10 t295 t305).bind fun t308 => (if t308 = true then ((laws_markTree.f kj10 t295 1).bind fun bt309 => (if bt309.1 < 0 then (laws_FnExactReachedTree.j1 kj10 t293 true l0_0 t290 t299) else ((laws_eqTree.f kj10 t299 t290).bind fun t311 => (if t311 = true then (laws_FnExactReachedTree.j1 kj10 t293 (t302 != t293) l0_0 t290 t299) else (laws_FnExactReachedTree.j1 kj10 t293 true l0_0 t290 t299))))) else (some false)))) = some r := by rw [if_neg (show ¬ (false = true) by decide)] at H; exact H
   clear H
   have H := H1
   clear H1
   replace H := Option.bind_eq_some_iff.mp H
   obtain ⟨t305, A560, H⟩ := H
   replace H : ((laws_eqTree.f kj10 t295 t305).bind fun t308 => (if t308 = true then ((laws_markTree.f kj10 t295 1).bind fun bt309 => (if bt309.1 < 0 then (laws_FnExactReachedTree.j1 kj10 t293 true l0_0 t290 t299) else ((laws_eqTree.f kj10 t299 t290).bind fun t311 => (if t311 = true then (laws_FnExactReachedTree.j1 kj10 t293 (t302 != t293) l0_0 t290 t299) else (laws_FnExactReachedTree.j1 kj10 t293 true l0_0 t290 t299))))) else (some false))) = some r := H
   have A56 := aM9_ A560
   clear A560
   replace H := Option.bind_eq_some_iff.mp H
   obtain ⟨t308, A570, H⟩ := H
   replace H : (if t308 = true then ((laws_markTree.f kj10 t295 1).bind fun bt309 => (if bt309.1 < 0 then (laws_FnExactReachedTree.j1 kj10 t293 true l0_0 t290 t299) else ((laws_eqTree.f kj10 t299 t290).bind fun t311 => (if t311 = true then (laws_FnExactReachedTree.j1 kj10 t293 (t302 != t293) l0_0 t290 t299) else (laws_FnExactReachedTree.j1 kj10 t293 true l0_0 t290 t299))))) else (some false)) = some r := H
   have A57 := aM9_ A570
   clear A570
   by_cases c58 : t308 = true
   rotate_left
   ·replace c58 := Bool.eq_false_iff.mpr c58
    subst c58
    have H1 : (some false) = some r := by rw [if_neg (show ¬ (false = true) by decide)] at H; exact H
    clear H
    have H := H1
    clear H1
    obtain rfl := Option.some.inj H
    try go_wp2
    have n0_ := aM9_ (rD9_ HO_295000.out)
    have n1_ := aM9_ (rD9_ HO_299000.out)
    have n2_ := aM9_ (rD9_ HO_304000.out)
    have n3_ := aM9_ (kD9_ BK285.out)
    have n4_ := aM9_ (kD9_ BK294.out)
    have n5_ := aM9_ (kD9_ BK298.out)
    have n6_ := aM9_ (kD9_ BK303.out)
    have n7_ := aM9_ (below_drew1 HB.out)
    clear HO_295000 HO_299000 HO_304000 BK285 BK294 BK298 BK303 HB
    have HO_295000 := n0_
    have HO_299000 := n1_
    have HO_304000 := n2_
    have BK285 := n3_
    have BK294 := n4_
    have BK298 := n5_
    have BK303 := n6_
    have HB := n7_
    clear n0_ n1_ n2_ n3_ n4_ n5_ n6_ n7_
    refine start_ (n := 5) (S := fun w' => w'.cell? ⟨gb298, 0, none⟩ = some (.slice Ao26 t295.length co26) ∧ w'.cell? ⟨gb285, 0, none⟩ = some (.slice A0_0 l0_0.length c0_0)) (ds := []) #[false, false, false, false, false] (by kernel_rfl) rfl rfl ⟨(kC9_ BK298.out 0).trans rfl, (kC9_ BK285.out 0).trans rfl⟩ (fun hHeld => ?_)
    generalize wc.drew = w175 at HO_295000 HO_299000 HO_304000 BK285 BK294 BK298 BK303 HB hHeld ⊢
    refine take_ (i := 0) (N := some 41) (v := ?_) (a' := ?_) #[true, false, false, false, false] rfl rfl (by kernel_rfl) (fun _ _ _ h => h) (Or.inl ⟨by rfl, ?_⟩) hHeld ?_ ?_
    rotate_left
    ·rintro w' ⟨s0, s1⟩
     go_simp
     with_reducible rfl
    rotate_left
    ·exact q9x50_
    refine take_ (i := 1) (N := some 42) (v := ?_) (a' := ?_) #[true, true, false, false, false] rfl rfl (by kernel_rfl) (fun _ _ _ h => h) (Or.inl ⟨by rfl, ?_⟩) hHeld ?_ ?_
    rotate_left
    ·rintro w' ⟨s0, s1⟩
     go_simp
     with_reducible rfl
    rotate_left
    ·exact q9x50_
    refine one_ (i := 2) (N := some 43) #[true, true, true, false, false] rfl rfl (by kernel_rfl) (by decide) (fun K hK => ?_)
    refine goes_ Try.func26 (by kernel_rfl) rfl #[.agg #[.slice A0_0 l0_0.length c0_0]] (by rfl) rfl rfl q9x3_ ?_
    with_reducible refine (laws_toTree.calls kj10 _ _ l0_0 t305 _ ?side1 ?side2 A56.out).mono ?_
    (case side1 => repeat (first | exact (Kd.C_below HR0_0.out HB.out) | (with_reducible refine Kd.C_alloc ?_ _) | (with_reducible refine Kd.C_drewN ?_ _) | (with_reducible refine Kd.C_drew ?_)))
    (case side2 => exact HC0_0.out)
    rintro e w176 ⟨v306, rfl, ho0, hb⟩
    refine ⟨_, rfl, ?_⟩
    have n0_ := aM9_ (Kd.R_elder' q9x7_ (Kd.R_base ho0) hb)
    have n1_ := aM9_ (Kd.R_elder' q9x8_ (Kd.R_base ho0) hb)
    have n2_ := aM9_ (Kd.R_elder' q9x9_ (Kd.R_base ho0) hb)
    have n3_ := aM9_ (Kd.R_lower (Kd.R_new' (Kd.R_new' (Kd.R_new' ho0 (Kd.R_lt q9x7_)) (Kd.R_lt q9x8_)) (Kd.R_lt q9x9_)) (below_size q9x1_))
    have n4_ := aM9_ (kB9_ (g := gb285) (o := .cells #[.slice A0_0 l0_0.length c0_0] 31 (0, 0)) q9x2_ hb)
    have n5_ := aM9_ (kB9_ (g := gb294) (o := .cells #[.slice Ao20 t290.length co20] 24 (0, 0)) q9x4_ hb)
    have n6_ := aM9_ (kB9_ (g := gb298) (o := .cells #[.slice Ao26 t295.length co26] 24 (0, 0)) q9x5_ hb)
    have n7_ := aM9_ (kB9_ (g := gb303) (o := .cells #[.slice Ao32 t299.length co32] 24 (0, 0)) q9x6_ hb)
    have n8_ := aM9_ (below_step q9x1_ hb)
    clear HO_295000 HO_299000 HO_304000 BK285 BK294 BK298 BK303 HB
    have HO_295000 := n0_
    have HO_299000 := n1_
    have HO_304000 := n2_
    have HO307 := n3_
    have BK285 := n4_
    have BK294 := n5_
    have BK298 := n6_
    have BK303 := n7_
    have HB := n8_
    clear n0_ n1_ n2_ n3_ n4_ n5_ n6_ n7_ n8_
    (try clear hb)
    (try clear hb2)
    (try clear hk)
    (try clear hi)
    (try clear ho0)
    obtain ⟨Ao177, co177, eo177⟩ := Kd.R_slice HO307.out
    (first | subst eo177 | (injection eo177 with f1_ f2_ f3_; have f4_ := f1_.symm; have f5_ := f3_.symm; clear f1_ f2_ f3_; subst f4_; subst f5_))
    refine hK.out _ _ ⟨(kC9_ BK298.out 0).trans rfl, (kC9_ BK285.out 0).trans rfl⟩ (fun hHeld => ?_)
    clear hK K
    refine norm_ (a' := ?_) ?_ ?_
    rotate_left
    ·show Act.put _ (some 43) _ = _
     simp only [Act.put, List.setIfInBounds_toArray, List.set_cons_zero, List.set_cons_succ, i64_w, i32_w]
     rfl
    refine one_ (i := 3) (N := some 44) #[true, true, true, true, false] rfl rfl (by kernel_rfl) (by decide) (fun K hK => ?_)
    refine goes_ Try.func17 (by kernel_rfl) rfl #[.agg #[.slice Ao26 t295.length co26], .agg #[.slice Ao177 t305.length co177]] (by rfl) rfl rfl q9x3_ ?_
    with_reducible refine (laws_eqTree.calls kj10 _ _ t295 _ _ t305 false _ ?side1 ?side2 ?side3 ?side4 A57.out).mono ?_
    (case side1 => repeat (first | exact (Kd.R_reads' HO_299000.out).2.2 | (with_reducible refine Kd.C_alloc ?_ _) | (with_reducible refine Kd.C_drewN ?_ _) | (with_reducible refine Kd.C_drew ?_)))
    (case side2 => exact (Kd.R_reads' HO_299000.out).2.1)
    (case side3 => repeat (first | exact (Kd.R_reads' HO307.out).2.2 | (with_reducible refine Kd.C_alloc ?_ _) | (with_reducible refine Kd.C_drewN ?_ _) | (with_reducible refine Kd.C_drew ?_)))
    (case side4 => exact (Kd.R_reads' HO307.out).2.1)
    rintro e w178 ⟨rfl, hb⟩
    refine ⟨_, rfl, ?_⟩
    have n0_ := aM9_ (rB9_ q9x7_ hb)
    have n1_ := aM9_ (rB9_ q9x8_ hb)
    have n2_ := aM9_ (rB9_ q9x9_ hb)
    have n3_ := aM9_ (rB9_ q9x24_ hb)
    have n4_ := aM9_ (kB9_ (g := gb285) (o := .cells #[.slice A0_0 l0_0.length c0_0] 31 (0, 0)) q9x2_ hb)
    have n5_ := aM9_ (kB9_ (g := gb294) (o := .cells #[.slice Ao20 t290.length co20] 24 (0, 0)) q9x4_ hb)
    have n6_ := aM9_ (kB9_ (g := gb298) (o := .cells #[.slice Ao26 t295.length co26] 24 (0, 0)) q9x5_ hb)
    have n7_ := aM9_ (kB9_ (g := gb303) (o := .cells #[.slice Ao32 t299.length co32] 24 (0, 0)) q9x6_ hb)
    have n8_ := aM9_ (below_step q9x1_ hb)
    clear HO_295000 HO_299000 HO_304000 HO307 BK285 BK294 BK298 BK303 HB
    have HO_295000 := n0_
    have HO_299000 := n1_
    have HO_304000 := n2_
    have HO307 := n3_
    have BK285 := n4_
    have BK294 := n5_
    have BK298 := n6_
    have BK303 := n7_
    have HB := n8_
    clear n0_ n1_ n2_ n3_ n4_ n5_ n6_ n7_ n8_
    (try clear hb)
    (try clear hb2)
    (try clear hk)
    (try clear hi)
    refine hK.out _ _ ⟨(kC9_ BK298.out 0).trans rfl, (kC9_ BK285.out 0).trans rfl⟩ (fun hHeld => ?_)
    clear hK K
    refine norm_ (a' := ?_) ?_ ?_
    rotate_left
    ·show Act.put _ (some 44) _ = _
     simp only [Act.put, List.setIfInBounds_toArray, List.set_cons_zero, List.set_cons_succ, i64_w, i32_w]
     rfl
    refine pure_ (i := 4) (N := some 45) (v := ?_) (a' := ?_) #[true, true, true, true, true] rfl rfl (by kernel_rfl) (fun _ _ _ h => h) (Or.inl ⟨by rfl, ?_⟩) ?_ ?_
    rotate_left
    ·intro w'
     go_simp
     with_reducible rfl
    rotate_left
    ·exact q9x50_
    refine done_ (by kernel_rfl) ?_
    try go_wp2
    go_ret
    exact ⟨by first | rfl | (simp [errW_none, errW_some] <;> rfl) | (simp [*, errW_none, errW_some] <;> rfl), by repeat (first | (with_reducible first | exact HB.out | apply below_alloc | apply pw_below_drewN | apply below_drew1 | refine bS9_ ?_ GE285.out | refine bS9_ ?_ GE294.out | refine bS9_ ?_ GE298.out | refine bS9_ ?_ GE303.out) | exact HB.out)⟩

   subst c58
   have H1 : ((laws_markTree.f kj10 t295 1).bind fun bt309 => (if bt309.1 < 0 then (laws_FnExactReachedTree.j1 kj10 t293 true l0_0 t290 t299) else ((laws_eqTree.f kj10 t299 t290).bind fun t311 => (if t311 = true then (laws_FnExactReachedTree.j1 kj10 t293 (t302 != t293) l0_0 t290 t299) else (laws_FnExactReachedTree.j1 kj10 t293 true l0_0 t290 t299))))) = some r := by rw [if_pos rfl] at H; exact H
   clear H
   have H := H1
   clear H1
   replace H := Option.bind_eq_some_iff.mp H
   obtain ⟨⟨t309, t310⟩, A590, H⟩ := H
   replace H : (if t309 < 0 then (laws_FnExactReachedTree.j1 kj10 t293 true l0_0 t290 t299) else ((laws_eqTree.f kj10 t299 t290).bind fun t311 => (if t311 = true then (laws_FnExactReachedTree.j1 kj10 t293 (t302 != t293) l0_0 t290 t299) else (laws_FnExactReachedTree.j1 kj10 t293 true l0_0 t290 t299)))) = some r := H
   have A59 := aM9_ A590
   clear A590
   have HC60 := aM9_ H
   clear H
   try go_wp2
   have n0_ := aM9_ (rD9_ HO_295000.out)
   have n1_ := aM9_ (rD9_ HO_299000.out)
   have n2_ := aM9_ (rD9_ HO_304000.out)
   have n3_ := aM9_ (kD9_ BK285.out)
   have n4_ := aM9_ (kD9_ BK294.out)
   have n5_ := aM9_ (kD9_ BK298.out)
   have n6_ := aM9_ (kD9_ BK303.out)
   have n7_ := aM9_ (below_drew1 HB.out)
   clear HO_295000 HO_299000 HO_304000 BK285 BK294 BK298 BK303 HB
   have HO_295000 := n0_
   have HO_299000 := n1_
   have HO_304000 := n2_
   have BK285 := n3_
   have BK294 := n4_
   have BK298 := n5_
   have BK303 := n6_
   have HB := n7_
   clear n0_ n1_ n2_ n3_ n4_ n5_ n6_ n7_
   refine start_ (n := 5) (S := fun w' => w'.cell? ⟨gb298, 0, none⟩ = some (.slice Ao26 t295.length co26) ∧ w'.cell? ⟨gb285, 0, none⟩ = some (.slice A0_0 l0_0.length c0_0)) (ds := []) #[false, false, false, false, false] (by kernel_rfl) rfl rfl ⟨(kC9_ BK298.out 0).trans rfl, (kC9_ BK285.out 0).trans rfl⟩ (fun hHeld => ?_)
   generalize wc.drew = w61 at HO_295000 HO_299000 HO_304000 BK285 BK294 BK298 BK303 HB hHeld ⊢
   refine take_ (i := 0) (N := some 41) (v := ?_) (a' := ?_) #[true, false, false, false, false] rfl rfl (by kernel_rfl) (fun _ _ _ h => h) (Or.inl ⟨by rfl, ?_⟩) hHeld ?_ ?_
   rotate_left
   ·rintro w' ⟨s0, s1⟩
    go_simp
    with_reducible rfl
   rotate_left
   ·exact q9x50_
   refine take_ (i := 1) (N := some 42) (v := ?_) (a' := ?_) #[true, true, false, false, false] rfl rfl (by kernel_rfl) (fun _ _ _ h => h) (Or.inl ⟨by rfl, ?_⟩) hHeld ?_ ?_
   rotate_left
   ·rintro w' ⟨s0, s1⟩
    go_simp
    with_reducible rfl
   rotate_left
   ·exact q9x50_
   refine one_ (i := 2) (N := some 43) #[true, true, true, false, false] rfl rfl (by kernel_rfl) (by decide) (fun K hK => ?_)
   refine goes_ Try.func26 (by kernel_rfl) rfl #[.agg #[.slice A0_0 l0_0.length c0_0]] (by rfl) rfl rfl q9x3_ ?_
   with_reducible refine (laws_toTree.calls kj10 _ _ l0_0 t305 _ ?side1 ?side2 A56.out).mono ?_
   (case side1 => repeat (first | exact (Kd.C_below HR0_0.out HB.out) | (with_reducible refine Kd.C_alloc ?_ _) | (with_reducible refine Kd.C_drewN ?_ _) | (with_reducible refine Kd.C_drew ?_)))
   (case side2 => exact HC0_0.out)
   rintro e w62 ⟨v306, rfl, ho0, hb⟩
   refine ⟨_, rfl, ?_⟩
   have n0_ := aM9_ (Kd.R_elder' q9x7_ (Kd.R_base ho0) hb)
   have n1_ := aM9_ (Kd.R_elder' q9x8_ (Kd.R_base ho0) hb)
   have n2_ := aM9_ (Kd.R_elder' q9x9_ (Kd.R_base ho0) hb)
   have n3_ := aM9_ (Kd.R_lower (Kd.R_new' (Kd.R_new' (Kd.R_new' ho0 (Kd.R_lt q9x7_)) (Kd.R_lt q9x8_)) (Kd.R_lt q9x9_)) (below_size q9x1_))
   have n4_ := aM9_ (kB9_ (g := gb285) (o := .cells #[.slice A0_0 l0_0.length c0_0] 31 (0, 0)) q9x2_ hb)
   have n5_ := aM9_ (kB9_ (g := gb294) (o := .cells #[.slice Ao20 t290.length co20] 24 (0, 0)) q9x4_ hb)
   have n6_ := aM9_ (kB9_ (g := gb298) (o := .cells #[.slice Ao26 t295.length co26] 24 (0, 0)) q9x5_ hb)
   have n7_ := aM9_ (kB9_ (g := gb303) (o := .cells #[.slice Ao32 t299.length co32] 24 (0, 0)) q9x6_ hb)
   have n8_ := aM9_ (below_step q9x1_ hb)
   clear HO_295000 HO_299000 HO_304000 BK285 BK294 BK298 BK303 HB
   have HO_295000 := n0_
   have HO_299000 := n1_
   have HO_304000 := n2_
   have HO307 := n3_
   have BK285 := n4_
   have BK294 := n5_
   have BK298 := n6_
   have BK303 := n7_
   have HB := n8_
   clear n0_ n1_ n2_ n3_ n4_ n5_ n6_ n7_ n8_
   (try clear hb)
   (try clear hb2)
   (try clear hk)
   (try clear hi)
   (try clear ho0)
   obtain ⟨Ao63, co63, eo63⟩ := Kd.R_slice HO307.out
   (first | subst eo63 | (injection eo63 with f1_ f2_ f3_; have f4_ := f1_.symm; have f5_ := f3_.symm; clear f1_ f2_ f3_; subst f4_; subst f5_))
   refine hK.out _ _ ⟨(kC9_ BK298.out 0).trans rfl, (kC9_ BK285.out 0).trans rfl⟩ (fun hHeld => ?_)
   clear hK K
   refine norm_ (a' := ?_) ?_ ?_
   rotate_left
   ·show Act.put _ (some 43) _ = _
    simp only [Act.put, List.setIfInBounds_toArray, List.set_cons_zero, List.set_cons_succ, i64_w, i32_w]
    rfl
   refine one_ (i := 3) (N := some 44) #[true, true, true, true, false] rfl rfl (by kernel_rfl) (by decide) (fun K hK => ?_)
   refine goes_ Try.func17 (by kernel_rfl) rfl #[.agg #[.slice Ao26 t295.length co26], .agg #[.slice Ao63 t305.length co63]] (by rfl) rfl rfl q9x3_ ?_
   with_reducible refine (laws_eqTree.calls kj10 _ _ t295 _ _ t305 true _ ?side1 ?side2 ?side3 ?side4 A57.out).mono ?_
   (case side1 => repeat (first | exact (Kd.R_reads' HO_299000.out).2.2 | (with_reducible refine Kd.C_alloc ?_ _) | (with_reducible refine Kd.C_drewN ?_ _) | (with_reducible refine Kd.C_drew ?_)))
   (case side2 => exact (Kd.R_reads' HO_299000.out).2.1)
   (case side3 => repeat (first | exact (Kd.R_reads' HO307.out).2.2 | (with_reducible refine Kd.C_alloc ?_ _) | (with_reducible refine Kd.C_drewN ?_ _) | (with_reducible refine Kd.C_drew ?_)))
   (case side4 => exact (Kd.R_reads' HO307.out).2.1)
   rintro e w64 ⟨rfl, hb⟩
   refine ⟨_, rfl, ?_⟩
   have n0_ := aM9_ (rB9_ q9x7_ hb)
   have n1_ := aM9_ (rB9_ q9x8_ hb)
   have n2_ := aM9_ (rB9_ q9x9_ hb)
   have n3_ := aM9_ (rB9_ q9x24_ hb)
   have n4_ := aM9_ (kB9_ (g := gb285) (o := .cells #[.slice A0_0 l0_0.length c0_0] 31 (0, 0)) q9x2_ hb)
   have n5_ := aM9_ (kB9_ (g := gb294) (o := .cells #[.slice Ao20 t290.length co20] 24 (0, 0)) q9x4_ hb)
   have n6_ := aM9_ (kB9_ (g := gb298) (o := .cells #[.slice Ao26 t295.length co26] 24 (0, 0)) q9x5_ hb)
   have n7_ := aM9_ (kB9_ (g := gb303) (o := .cells #[.slice Ao32 t299.length co32] 24 (0, 0)) q9x6_ hb)
   have n8_ := aM9_ (below_step q9x1_ hb)
   clear HO_295000 HO_299000 HO_304000 HO307 BK285 BK294 BK298 BK303 HB
   have HO_295000 := n0_
   have HO_299000 := n1_
   have HO_304000 := n2_
   have HO307 := n3_
   have BK285 := n4_
   have BK294 := n5_
   have BK298 := n6_
   have BK303 := n7_
   have HB := n8_
   clear n0_ n1_ n2_ n3_ n4_ n5_ n6_ n7_ n8_
   (try clear hb)
   (try clear hb2)
   (try clear hk)
   (try clear hi)
   refine hK.out _ _ ⟨(kC9_ BK298.out 0).trans rfl, (kC9_ BK285.out 0).trans rfl⟩ (fun hHeld => ?_)
   clear hK K
   refine norm_ (a' := ?_) ?_ ?_
   rotate_left
   ·show Act.put _ (some 44) _ = _
    simp only [Act.put, List.setIfInBounds_toArray, List.set_cons_zero, List.set_cons_succ, i64_w, i32_w]
    rfl
   refine pure_ (i := 4) (N := some 45) (v := ?_) (a' := ?_) #[true, true, true, true, true] rfl rfl (by kernel_rfl) (fun _ _ _ h => h) (Or.inl ⟨by rfl, ?_⟩) ?_ ?_
   rotate_left
   ·intro w'
    go_simp
    with_reducible rfl
   rotate_left
   ·exact q9x50_
   refine done_ (by kernel_rfl) ?_
   have hnb65 := NB298_285.out
   have hnc65 := NB285_298.out
   have hnb66 := NB298_294.out
   have hnc66 := NB294_298.out
   have hnb67 := NB298_303.out
   have hnc67 := NB303_298.out
   have hcz68_0 : w64.cell? ⟨gb298, 0, none⟩ = some (.slice Ao26 t295.length co26) := (kC9_ BK298.out 0).trans rfl
   have hfz68_0 := blk_frozen BK298.out 0
   go_upto_region 14 with (first | ((with_reducible refine gate_callee (f := 18) rfl ?_); refine goesL_ (some 48) rfl rfl Try.func18 (by kernel_rfl) rfl #[.agg #[.slice Ao26 t295.length co26], .int .i64 1] rfl q9x3_ ?_; (with_reducible refine (laws_markTree.calls kj10 (fun k_ => some k_ = (.slice Ao26 t295.length co26 : Value).ownBlock) (.slice Ao26 t295.length co26) t295 1 t309 t310 w _ ?side1 ?side2 A59.out).mono ?_); (case side1 => repeat (first | (with_reducible first | exact HB.out | apply below_alloc | apply pw_below_drewN | apply below_drew1 | refine bS9_ ?_ GE285.out | refine bS9_ ?_ GE294.out | refine bS9_ ?_ GE298.out | refine bS9_ ?_ GE303.out) | exact HB.out)); (case side2 => exact Kd.R_tight rfl HO_299000.out); rintro e w69 ⟨rfl, hy0, hb, hkp⟩; refine ⟨_, rfl, ?_⟩; have n0_ := aM9_ (Kd.R_mono (ok' := fun k_ => some k_ ≠ (.slice Ao26 t295.length co26 : Value).ownBlock ∧ some k_ ≠ (.slice Ao32 t299.length co32 : Value).ownBlock ∧ some k_ ≠ (.slice Ao63 t305.length co63 : Value).ownBlock) (Kd.R_keptB (HO_295000.out) hkp (fun k_ hk_ hs_ => (hk_.1.1) hs_)) (fun k_ hk_ => ⟨hk_.1.1.1, hk_.1.1.2, hk_.1.2⟩)); have n1_ := aM9_ (Kd.R_reok rfl hy0 (fun k_ e_ => HO_299000.out.1 k_ e_)); have n2_ := aM9_ (Kd.R_mono (ok' := fun k_ => some k_ ≠ (.slice Ao20 t290.length co20 : Value).ownBlock ∧ some k_ ≠ (.slice Ao26 t295.length co26 : Value).ownBlock ∧ some k_ ≠ (.slice Ao63 t305.length co63 : Value).ownBlock) (Kd.R_keptB (HO_304000.out) hkp (fun k_ hk_ hs_ => (hk_.1.2) hs_)) (fun k_ hk_ => ⟨hk_.1.1.1, hk_.1.1.2, hk_.1.2⟩)); have n3_ := aM9_ (blk_kept q9x2_ hkp (fun hs_ => (fun e_ => (Kd.R_ne HO_299000.out BK285.out (by decide)) e_) hs_)); have n4_ := aM9_ (blk_kept q9x4_ hkp (fun hs_ => (fun e_ => (Kd.R_ne HO_299000.out BK294.out (by decide)) e_) hs_)); have n5_ := aM9_ (blk_kept q9x5_ hkp (fun hs_ => (fun e_ => (Kd.R_ne HO_299000.out BK298.out (by decide)) e_) hs_)); have n6_ := aM9_ (blk_kept q9x6_ hkp (fun hs_ => (fun e_ => (Kd.R_ne HO_299000.out BK303.out (by decide)) e_) hs_)); have n7_ := aM9_ (Kd.R_mono (ok' := fun k_ => some k_ ≠ (.slice Ao20 t290.length co20 : Value).ownBlock ∧ some k_ ≠ (.slice Ao26 t295.length co26 : Value).ownBlock ∧ some k_ ≠ (.slice Ao32 t299.length co32 : Value).ownBlock) (Kd.R_keptB (HO307.out) hkp (fun k_ hk_ hs_ => (hk_.1.2) hs_)) (fun k_ hk_ => ⟨hk_.1.1.1.2, hk_.1.1.2, hk_.1.2⟩)); have n8_ := aM9_ (hb); clear HO_295000; clear HO_299000; clear HO_304000; clear BK285; clear BK294; clear BK298; clear BK303; clear HO307; clear HB; have HO_295000 := n0_; have HO_299000 := n1_; have HO_304000 := n2_; have BK285 := n3_; have BK294 := n4_; have BK298 := n5_; have BK303 := n6_; have HO307 := n7_; have HB := n8_; clear n0_ n1_ n2_ n3_ n4_ n5_ n6_ n7_ n8_; (try clear hb); (try clear hkp); (try clear hy0)))
   (try simp only [Act.put, List.setIfInBounds_toArray, List.set_cons_zero, List.set_cons_succ])
   go_cut [61] (fun v61 wc => ∃ (kq : Nat) (x61_59 : Bool), v61 = .bool x61_59 ∧ Aside0 (laws_FnExactReachedTree.j1 kq t293 x61_59 l0_0 t290 t299 = some r) ∧ Aside0 (kq ≤ kj10) ∧ Aside0 (Kd.R k77 77 wc w.heap.size (fun k_ => some k_ ≠ ((.slice Ao26 t295.length co26) : Value).ownBlock ∧ some k_ ≠ ((.slice Ao32 t299.length co32) : Value).ownBlock) (.slice Ao20 t290.length co20) t290) ∧ Aside0 (Kd.R k77 77 wc w.heap.size (fun k_ => some k_ ≠ ((.slice Ao20 t290.length co20) : Value).ownBlock ∧ some k_ ≠ ((.slice Ao32 t299.length co32) : Value).ownBlock) (.slice Ao26 t295.length co26) t310) ∧ Aside0 (Kd.R k77 77 wc w.heap.size (fun k_ => some k_ ≠ ((.slice Ao20 t290.length co20) : Value).ownBlock ∧ some k_ ≠ ((.slice Ao26 t295.length co26) : Value).ownBlock) (.slice Ao32 t299.length co32) t299) ∧ Aside0 (wc.heap[gb285]? = some (.cells #[(.slice A0_0 l0_0.length c0_0)] 31 (0, 0))) ∧ Aside0 (wc.heap[gb294]? = some (.cells #[(.slice Ao20 t290.length co20)] 24 (0, 0))) ∧ Aside0 (wc.heap[gb298]? = some (.cells #[(.slice Ao26 t295.length co26)] 24 (0, 0))) ∧ Aside0 (wc.heap[gb303]? = some (.cells #[(.slice Ao32 t299.length co32)] 24 (0, 0))) ∧ Aside0 (Below w.heap.size w wc))
   case first =>
    have H := HC60.out
    clear HC60
    by_cases c70 : t309 < 0
    ·rw [if_pos c70] at H
     have c70b0 : decide (t309 < 0) = true := decide_eq_true c70
     clear c70
     (first | rw [c70b0] | (simp only [i64_w, i32_w]; rw [c70b0]) | skip)
     have H' := aM9_ H
     clear H
     go_wp2
     go_meet
     case rel => exact ⟨_, (true), q9x27_, H', ⟨by have := HJ10.out; first | omega | exact Nat.le_refl _⟩, ⟨by (with_reducible repeat (first | apply rA9_ | apply rN9_ | apply rD9_)); exact Kd.R_mono HO_295000.out (fun _ hk => ⟨hk.1, hk.2.1⟩)⟩, ⟨by (with_reducible repeat (first | apply rA9_ | apply rN9_ | apply rD9_)); exact Kd.R_mono HO_299000.out (fun _ hk => ⟨hk.1.1, hk.1.2⟩)⟩, ⟨by (with_reducible repeat (first | apply rA9_ | apply rN9_ | apply rD9_)); exact Kd.R_mono HO_304000.out (fun _ hk => ⟨hk.1, hk.2.1⟩)⟩, ⟨by (with_reducible repeat (first | refine kN9_ ?_ _ | refine kD9_ ?_ | refine kA9_ ?_ _)); exact BK285.out⟩, ⟨by (with_reducible repeat (first | refine kN9_ ?_ _ | refine kD9_ ?_ | refine kA9_ ?_ _)); exact BK294.out⟩, ⟨by (with_reducible repeat (first | refine kN9_ ?_ _ | refine kD9_ ?_ | refine kA9_ ?_ _)); exact BK298.out⟩, ⟨by (with_reducible repeat (first | refine kN9_ ?_ _ | refine kD9_ ?_ | refine kA9_ ?_ _)); exact BK303.out⟩, ⟨by repeat (first | (with_reducible first | exact HB.out | apply below_alloc | apply pw_below_drewN | apply below_drew1 | refine bS9_ ?_ GE285.out | refine bS9_ ?_ GE294.out | refine bS9_ ?_ GE298.out | refine bS9_ ?_ GE303.out) | exact HB.out)⟩⟩
    rw [if_neg c70] at H
    have c70b0 : decide (t309 < 0) = false := decide_eq_false c70
    clear c70
    (first | rw [c70b0] | (simp only [i64_w, i32_w]; rw [c70b0]) | skip)
    replace H := Option.bind_eq_some_iff.mp H
    obtain ⟨t311, A710, H⟩ := H
    replace H : (if t311 = true then (laws_FnExactReachedTree.j1 kj10 t293 (t302 != t293) l0_0 t290 t299) else (laws_FnExactReachedTree.j1 kj10 t293 true l0_0 t290 t299)) = some r := H
    have A71 := aM9_ A710
    clear A710
    by_cases c72 : t311 = true
    ·subst c72
     have H1 : (laws_FnExactReachedTree.j1 kj10 t293 (t302 != t293) l0_0 t290 t299) = some r := by rw [if_pos rfl] at H; exact H
     clear H
     have H := H1
     clear H1
     have H' := aM9_ H
     clear H
     have hnb73 := NB303_285.out
     have hnc73 := NB285_303.out
     have hnb74 := NB303_294.out
     have hnc74 := NB294_303.out
     have hnb75 := NB303_298.out
     have hnc75 := NB298_303.out
     have hcz76_0 : w69.cell? ⟨gb303, 0, none⟩ = some (.slice Ao32 t299.length co32) := (kC9_ BK303.out 0).trans rfl
     have hfz76_0 := blk_frozen BK303.out 0
     have hnb77 := NB294_285.out
     have hnc77 := NB285_294.out
     have hnb78 := NB294_298.out
     have hnc78 := NB298_294.out
     have hcz79_0 : w69.cell? ⟨gb294, 0, none⟩ = some (.slice Ao20 t290.length co20) := (kC9_ BK294.out 0).trans rfl
     have hfz79_0 := blk_frozen BK294.out 0
     go_wp2_with (first | (go_at_call 17; (with_reducible refine (laws_eqTree.calls kj10 _ _ t299 _ _ t290 true _ ?side1 ?side2 ?side3 ?side4 A71.out).mono ?_); (case side1 => repeat (first | exact (Kd.R_reads' HO_304000.out).2.2 | (with_reducible refine Kd.C_alloc ?_ _) | (with_reducible refine Kd.C_drewN ?_ _) | (with_reducible refine Kd.C_drew ?_))); (case side2 => exact (Kd.R_reads' HO_304000.out).2.1); (case side3 => repeat (first | exact (Kd.R_reads' HO_295000.out).2.2 | (with_reducible refine Kd.C_alloc ?_ _) | (with_reducible refine Kd.C_drewN ?_ _) | (with_reducible refine Kd.C_drew ?_))); (case side4 => exact (Kd.R_reads' HO_295000.out).2.1); rintro e w80 ⟨rfl, hb⟩; have n0_ := aM9_ (rB9_ q9x7_ hb); have n1_ := aM9_ (rB9_ q9x8_ hb); have n2_ := aM9_ (rB9_ q9x9_ hb); have n3_ := aM9_ (rB9_ q9x24_ hb); have n4_ := aM9_ (kB9_ (g := gb285) (o := .cells #[.slice A0_0 l0_0.length c0_0] 31 (0, 0)) q9x2_ hb); have n5_ := aM9_ (kB9_ (g := gb294) (o := .cells #[.slice Ao20 t290.length co20] 24 (0, 0)) q9x4_ hb); have n6_ := aM9_ (kB9_ (g := gb298) (o := .cells #[.slice Ao26 t295.length co26] 24 (0, 0)) q9x5_ hb); have n7_ := aM9_ (kB9_ (g := gb303) (o := .cells #[.slice Ao32 t299.length co32] 24 (0, 0)) q9x6_ hb); have n8_ := aM9_ (below_step q9x1_ hb); clear HO_295000; clear HO_299000; clear HO_304000; clear HO307; clear BK285; clear BK294; clear BK298; clear BK303; clear HB; have HO_295000 := n0_; have HO_299000 := n1_; have HO_304000 := n2_; have HO307 := n3_; have BK285 := n4_; have BK294 := n5_; have BK298 := n6_; have BK303 := n7_; have HB := n8_; clear n0_ n1_ n2_ n3_ n4_ n5_ n6_ n7_ n8_; (try clear hb); (try clear hb2); (try clear hk); (try clear hi)))
     go_meet
     case rel => exact ⟨_, ((t302 != t293)), q9x27_, H', ⟨by have := HJ10.out; first | omega | exact Nat.le_refl _⟩, ⟨by (with_reducible repeat (first | apply rA9_ | apply rN9_ | apply rD9_)); exact Kd.R_mono HO_295000.out (fun _ hk => ⟨hk.1, hk.2.1⟩)⟩, ⟨by (with_reducible repeat (first | apply rA9_ | apply rN9_ | apply rD9_)); exact Kd.R_mono HO_299000.out (fun _ hk => ⟨hk.1.1, hk.1.2⟩)⟩, ⟨by (with_reducible repeat (first | apply rA9_ | apply rN9_ | apply rD9_)); exact Kd.R_mono HO_304000.out (fun _ hk => ⟨hk.1, hk.2.1⟩)⟩, ⟨by (with_reducible repeat (first | refine kN9_ ?_ _ | refine kD9_ ?_ | refine kA9_ ?_ _)); exact BK285.out⟩, ⟨by (with_reducible repeat (first | refine kN9_ ?_ _ | refine kD9_ ?_ | refine kA9_ ?_ _)); exact BK294.out⟩, ⟨by (with_reducible repeat (first | refine kN9_ ?_ _ | refine kD9_ ?_ | refine kA9_ ?_ _)); exact BK298.out⟩, ⟨by (with_reducible repeat (first | refine kN9_ ?_ _ | refine kD9_ ?_ | refine kA9_ ?_ _)); exact BK303.out⟩, ⟨by repeat (first | (with_reducible first | exact HB.out | apply below_alloc | apply pw_below_drewN | apply below_drew1 | refine bS9_ ?_ GE285.out | refine bS9_ ?_ GE294.out | refine bS9_ ?_ GE298.out | refine bS9_ ?_ GE303.out) | exact HB.out)⟩⟩
    replace c72 := Bool.eq_false_iff.mpr c72
    subst c72
    have H1 : (laws_FnExactReachedTree.j1 kj10 t293 true l0_0 t290 t299) = some r := by rw [if_neg (show ¬ (false = true) by decide)] at H; exact H
    clear H
    have H := H1
    clear H1
    have H' := aM9_ H
    clear H
    have hnb81 := NB303_285.out
    have hnc81 := NB285_303.out
    have hnb82 := NB303_294.out
    have hnc82 := NB294_303.out
    have hnb83 := NB303_298.out
    have hnc83 := NB298_303.out
    have hcz84_0 : w69.cell? ⟨gb303, 0, none⟩ = some (.slice Ao32 t299.length co32) := (kC9_ BK303.out 0).trans rfl
    have hfz84_0 := blk_frozen BK303.out 0
    have hnb85 := NB294_285.out
    have hnc85 := NB285_294.out
    have hnb86 := NB294_298.out
    have hnc86 := NB298_294.out
    have hcz87_0 : w69.cell? ⟨gb294, 0, none⟩ = some (.slice Ao20 t290.length co20) := (kC9_ BK294.out 0).trans rfl
    have hfz87_0 := blk_frozen BK294.out 0
    go_wp2_with (first | (go_at_call 17; (with_reducible refine (laws_eqTree.calls kj10 _ _ t299 _ _ t290 false _ ?side1 ?side2 ?side3 ?side4 A71.out).mono ?_); (case side1 => repeat (first | exact (Kd.R_reads' HO_304000.out).2.2 | (with_reducible refine Kd.C_alloc ?_ _) | (with_reducible refine Kd.C_drewN ?_ _) | (with_reducible refine Kd.C_drew ?_))); (case side2 => exact (Kd.R_reads' HO_304000.out).2.1); (case side3 => repeat (first | exact (Kd.R_reads' HO_295000.out).2.2 | (with_reducible refine Kd.C_alloc ?_ _) | (with_reducible refine Kd.C_drewN ?_ _) | (with_reducible refine Kd.C_drew ?_))); (case side4 => exact (Kd.R_reads' HO_295000.out).2.1); rintro e w88 ⟨rfl, hb⟩; have n0_ := aM9_ (rB9_ q9x7_ hb); have n1_ := aM9_ (rB9_ q9x8_ hb); have n2_ := aM9_ (rB9_ q9x9_ hb); have n3_ := aM9_ (rB9_ q9x24_ hb); have n4_ := aM9_ (kB9_ (g := gb285) (o := .cells #[.slice A0_0 l0_0.length c0_0] 31 (0, 0)) q9x2_ hb); have n5_ := aM9_ (kB9_ (g := gb294) (o := .cells #[.slice Ao20 t290.length co20] 24 (0, 0)) q9x4_ hb); have n6_ := aM9_ (kB9_ (g := gb298) (o := .cells #[.slice Ao26 t295.length co26] 24 (0, 0)) q9x5_ hb); have n7_ := aM9_ (kB9_ (g := gb303) (o := .cells #[.slice Ao32 t299.length co32] 24 (0, 0)) q9x6_ hb); have n8_ := aM9_ (below_step q9x1_ hb); clear HO_295000; clear HO_299000; clear HO_304000; clear HO307; clear BK285; clear BK294; clear BK298; clear BK303; clear HB; have HO_295000 := n0_; have HO_299000 := n1_; have HO_304000 := n2_; have HO307 := n3_; have BK285 := n4_; have BK294 := n5_; have BK298 := n6_; have BK303 := n7_; have HB := n8_; clear n0_ n1_ n2_ n3_ n4_ n5_ n6_ n7_ n8_; (try clear hb); (try clear hb2); (try clear hk); (try clear hi)))
    go_meet
    case rel => exact ⟨_, (true), q9x27_, H', ⟨by have := HJ10.out; first | omega | exact Nat.le_refl _⟩, ⟨by (with_reducible repeat (first | apply rA9_ | apply rN9_ | apply rD9_)); exact Kd.R_mono HO_295000.out (fun _ hk => ⟨hk.1, hk.2.1⟩)⟩, ⟨by (with_reducible repeat (first | apply rA9_ | apply rN9_ | apply rD9_)); exact Kd.R_mono HO_299000.out (fun _ hk => ⟨hk.1.1, hk.1.2⟩)⟩, ⟨by (with_reducible repeat (first | apply rA9_ | apply rN9_ | apply rD9_)); exact Kd.R_mono HO_304000.out (fun _ hk => ⟨hk.1, hk.2.1⟩)⟩, ⟨by (with_reducible repeat (first | refine kN9_ ?_ _ | refine kD9_ ?_ | refine kA9_ ?_ _)); exact BK285.out⟩, ⟨by (with_reducible repeat (first | refine kN9_ ?_ _ | refine kD9_ ?_ | refine kA9_ ?_ _)); exact BK294.out⟩, ⟨by (with_reducible repeat (first | refine kN9_ ?_ _ | refine kD9_ ?_ | refine kA9_ ?_ _)); exact BK298.out⟩, ⟨by (with_reducible repeat (first | refine kN9_ ?_ _ | refine kD9_ ?_ | refine kA9_ ?_ _)); exact BK303.out⟩, ⟨by repeat (first | (with_reducible first | exact HB.out | apply below_alloc | apply pw_below_drewN | apply below_drew1 | refine bS9_ ?_ GE285.out | refine bS9_ ?_ GE294.out | refine bS9_ ?_ GE298.out | refine bS9_ ?_ GE303.out) | exact HB.out)⟩⟩
   case rest =>
    clear HC60
    try clear c1
    try clear c2
    try clear p2
    try clear c3
    try clear c3b0
    try clear c4
    try clear c5
    try clear c6
    try clear c7
    try clear c8
    try clear c9
    try clear c17
    try clear c18
    try clear c21
    try clear c24
    try clear c26
    try clear c27
    try clear c28
    try clear c32
    try clear c33
    try clear c34
    try clear c35
    try clear c38
    try clear c39
    try clear c40
    try clear c41
    try clear c43
    try clear c44
    try clear c47
    try clear c48
    try clear c49
    try clear c51
    try clear c52
    try clear c55
    try clear c58
    try clear c65
    try clear c66
    try clear c67
    try clear c70
    try clear c70b0
    try clear c72
    try clear c73
    try clear c74
    try clear c75
    try clear c77
    try clear c78
    try clear c81
    try clear c82
    try clear c83
    try clear c85
    try clear c86
    try clear hcz13_0
    try clear hcz15_0
    try clear hcz22_0
    try clear hcz23_0
    try clear hcz29_0
    try clear hcz36_0
    try clear hcz42_0
    try clear hcz45_0
    try clear hcz50_0
    try clear hcz53_0
    try clear hcz5_0
    try clear hcz68_0
    try clear hcz76_0
    try clear hcz79_0
    try clear hcz84_0
    try clear hcz87_0
    try clear hfz13_0
    try clear hfz15_0
    try clear hfz22_0
    try clear hfz23_0
    try clear hfz29_0
    try clear hfz36_0
    try clear hfz42_0
    try clear hfz45_0
    try clear hfz50_0
    try clear hfz53_0
    try clear hfz5_0
    try clear hfz68_0
    try clear hfz76_0
    try clear hfz79_0
    try clear hfz84_0
    try clear hfz87_0
    try clear p2
    obtain ⟨kq, x61_59, rfl, HA, HJ59, HO_295000, HO_299000, HO_304000, BK285, BK294, BK298, BK303, HB⟩ := hcut
    have hl299000_59 := (Kd.R_reads' HO_299000.out).1
    rw [hl299000_59] at HO_299000
    (try simp only [hl299000_59])
    (try simp only [hl299000_59] at BK285)
    (try simp only [hl299000_59] at BK294)
    (try simp only [hl299000_59] at BK298)
    (try simp only [hl299000_59] at BK303)
    (try simp only [hl299000_59] at HO_295000)
    (try simp only [hl299000_59] at HO_304000)
    cases kq with
    | zero => exact absurd HA.out (by simp [laws_FnExactReachedTree.j1])
    | succ kj59 =>
     have H := HA.out
     clear HA
     simp only [laws_FnExactReachedTree.j1] at H
     by_cases c89 : x61_59 = true
     ·subst c89
      have H1 : (some false) = some r := by rw [if_pos rfl] at H; exact H
      clear H
      have H := H1
      clear H1
      obtain rfl := Option.some.inj H
      go_wp2
      go_ret
      exact ⟨by first | rfl | (simp [errW_none, errW_some] <;> rfl) | (simp [*, errW_none, errW_some] <;> rfl), by repeat (first | (with_reducible first | exact HB.out | apply below_alloc | apply pw_below_drewN | apply below_drew1 | refine bS9_ ?_ GE285.out | refine bS9_ ?_ GE294.out | refine bS9_ ?_ GE298.out | refine bS9_ ?_ GE303.out) | exact HB.out)⟩
     replace c89 := Bool.eq_false_iff.mpr c89
     subst c89
     have H1 : ((laws_markTree.f kj59 t299 1).bind fun bt312 => ((laws_heldTree.f kj59 bt312.2 1).bind fun t314 => (if t314 < 0 then (some false) else (if t314 = bt312.1 then ((laws_toTree.f kj59 l0_0).bind fun t315 => ((impl_ReachedTree.f kj59 t315).bind fun bt318 => ((laws_eqTree.f kj59 bt318.1 t290).bind fun t323 => (if t323 = true then (laws_FnExactReachedTree.j2 kj59 bt312.1 (bt318.2 != t293) bt312.2) else (laws_FnExactReachedTree.j2 kj59 bt312.1 true bt312.2))))) else (some false))))) = some r := by rw [if_neg (show ¬ (false = true) by decide)] at H; exact H
     clear H
     have H := H1
     clear H1
     replace H := Option.bind_eq_some_iff.mp H
     obtain ⟨⟨t312, t313⟩, A900, H⟩ := H
     replace H : ((laws_heldTree.f kj59 t313 1).bind fun t314 => (if t314 < 0 then (some false) else (if t314 = t312 then ((laws_toTree.f kj59 l0_0).bind fun t315 => ((impl_ReachedTree.f kj59 t315).bind fun bt318 => ((laws_eqTree.f kj59 bt318.1 t290).bind fun t323 => (if t323 = true then (laws_FnExactReachedTree.j2 kj59 t312 (bt318.2 != t293) t313) else (laws_FnExactReachedTree.j2 kj59 t312 true t313))))) else (some false)))) = some r := H
     have A90 := aM9_ A900
     clear A900
     replace H := Option.bind_eq_some_iff.mp H
     obtain ⟨t314, A910, H⟩ := H
     replace H : (if t314 < 0 then (some false) else (if t314 = t312 then ((laws_toTree.f kj59 l0_0).bind fun t315 => ((impl_ReachedTree.f kj59 t315).bind fun bt318 => ((laws_eqTree.f kj59 bt318.1 t290).bind fun t323 => (if t323 = true then (laws_FnExactReachedTree.j2 kj59 t312 (bt318.2 != t293) t313) else (laws_FnExactReachedTree.j2 kj59 t312 true t313))))) else (some false))) = some r := H
     have A91 := aM9_ A910
     clear A910
     by_cases c92 : t314 < 0
     ·rw [if_pos c92] at H
      have c92b0 : decide (t314 < 0) = true := decide_eq_true c92
      clear c92
      obtain rfl := Option.some.inj H
      have hnb93 := NB303_285.out
      have hnc93 := NB285_303.out
      have hnb94 := NB303_294.out
      have hnc94 := NB294_303.out
      have hnb95 := NB303_298.out
      have hnc95 := NB298_303.out
      have hcz96_0 : wc.cell? ⟨gb303, 0, none⟩ = some (.slice Ao32 t299.length co32) := (kC9_ BK303.out 0).trans rfl
      have hfz96_0 := blk_frozen BK303.out 0
      go_wp2_with (first | ((with_reducible refine gate_callee (f := 18) rfl ?_); refine goesL_ (some 64) rfl rfl Try.func18 (by kernel_rfl) rfl #[.agg #[.slice Ao32 t299.length co32], .int .i64 1] rfl q9x3_ ?_; (with_reducible refine (laws_markTree.calls kj59 (fun k_ => some k_ = (.slice Ao32 t299.length co32 : Value).ownBlock) (.slice Ao32 t299.length co32) t299 1 t312 t313 w _ ?side1 ?side2 A90.out).mono ?_); (case side1 => repeat (first | (with_reducible first | exact HB.out | apply below_alloc | apply pw_below_drewN | apply below_drew1 | refine bS9_ ?_ GE285.out | refine bS9_ ?_ GE294.out | refine bS9_ ?_ GE298.out | refine bS9_ ?_ GE303.out) | exact HB.out)); (case side2 => exact Kd.R_tight rfl HO_304000.out); rintro e w97 ⟨rfl, hy0, hb, hkp⟩; refine ⟨_, rfl, ?_⟩; have n0_ := aM9_ (Kd.R_mono (ok' := fun k_ => some k_ ≠ (.slice Ao26 t310.length co26 : Value).ownBlock ∧ some k_ ≠ (.slice Ao32 t299.length co32 : Value).ownBlock) (Kd.R_keptB (HO_295000.out) hkp (fun k_ hk_ hs_ => (hk_.2) hs_)) (fun k_ hk_ => ⟨hk_.1.1, hk_.1.2⟩)); have n1_ := aM9_ (Kd.R_mono (ok' := fun k_ => some k_ ≠ (.slice Ao20 t290.length co20 : Value).ownBlock ∧ some k_ ≠ (.slice Ao32 t299.length co32 : Value).ownBlock) (Kd.R_keptB (HO_299000.out) hkp (fun k_ hk_ hs_ => (hk_.2) hs_)) (fun k_ hk_ => ⟨hk_.1.1, hk_.1.2⟩)); have n2_ := aM9_ (Kd.R_reok rfl hy0 (fun k_ e_ => HO_304000.out.1 k_ e_)); have n3_ := aM9_ (blk_kept q9x2_ hkp (fun hs_ => (fun e_ => (Kd.R_ne HO_304000.out BK285.out (by decide)) e_) hs_)); have n4_ := aM9_ (blk_kept q9x4_ hkp (fun hs_ => (fun e_ => (Kd.R_ne HO_304000.out BK294.out (by decide)) e_) hs_)); have n5_ := aM9_ (blk_kept q9x5_ hkp (fun hs_ => (fun e_ => (Kd.R_ne HO_304000.out BK298.out (by decide)) e_) hs_)); have n6_ := aM9_ (blk_kept q9x6_ hkp (fun hs_ => (fun e_ => (Kd.R_ne HO_304000.out BK303.out (by decide)) e_) hs_)); have n7_ := aM9_ (hb); clear HO_295000; clear HO_299000; clear HO_304000; clear BK285; clear BK294; clear BK298; clear BK303; clear HB; have HO_295000 := n0_; have HO_299000 := n1_; have HO_304000 := n2_; have BK285 := n3_; have BK294 := n4_; have BK298 := n5_; have BK303 := n6_; have HB := n7_; clear n0_ n1_ n2_ n3_ n4_ n5_ n6_ n7_; (try clear hb); (try clear hkp); (try clear hy0); have hcz98_0 : w97.cell? ⟨gb303, 0, none⟩ = some (.slice Ao32 t299.length co32) := (kC9_ BK303.out 0).trans rfl; have hfz98_0 := blk_frozen BK303.out 0) | ((with_reducible refine gate_callee (f := 19) rfl ?_); refine goesL_ (some 67) rfl rfl Try.func19 (by kernel_rfl) rfl #[.agg #[.slice Ao32 t313.length co32], .int .i64 1] rfl q9x20_ ?_; (with_reducible refine (laws_heldTree.calls kj59 _ _ t313 1 t314 _ ?side1 ?side2 A91.out).mono ?_); (case side1 => repeat (first | exact (Kd.R_reads' HO_304000.out).2.2 | (with_reducible refine Kd.C_alloc ?_ _) | (with_reducible refine Kd.C_drewN ?_ _) | (with_reducible refine Kd.C_drew ?_))); (case side2 => rw [show t313.length = t299.length from (Kd.R_reads' HO_304000.out).1.symm]; exact (Kd.R_reads' HO_304000.out).2.1); rintro e w99 ⟨rfl, hb⟩; refine ⟨_, rfl, ?_⟩; have n0_ := aM9_ (rB9_ q9x7_ hb); have n1_ := aM9_ (rB9_ q9x8_ hb); have n2_ := aM9_ (rB9_ q9x9_ hb); have n3_ := aM9_ (kB9_ (g := gb285) (o := .cells #[.slice A0_0 l0_0.length c0_0] 31 (0, 0)) q9x2_ hb); have n4_ := aM9_ (kB9_ (g := gb294) (o := .cells #[.slice Ao20 t290.length co20] 24 (0, 0)) q9x4_ hb); have n5_ := aM9_ (kB9_ (g := gb298) (o := .cells #[.slice Ao26 t310.length co26] 24 (0, 0)) q9x5_ hb); have n6_ := aM9_ (kB9_ (g := gb303) (o := .cells #[.slice Ao32 t299.length co32] 24 (0, 0)) q9x6_ hb); have n7_ := aM9_ (below_step q9x1_ hb); clear HO_295000; clear HO_299000; clear HO_304000; clear BK285; clear BK294; clear BK298; clear BK303; clear HB; have HO_295000 := n0_; have HO_299000 := n1_; have HO_304000 := n2_; have BK285 := n3_; have BK294 := n4_; have BK298 := n5_; have BK303 := n6_; have HB := n7_; clear n0_ n1_ n2_ n3_ n4_ n5_ n6_ n7_; (try clear hb); (try clear hb2); (try clear hk); (try clear hi)))
      go_ret
      exact ⟨by first | rfl | (simp [errW_none, errW_some] <;> rfl) | (simp [*, errW_none, errW_some] <;> rfl), by repeat (first | (with_reducible first | exact HB.out | apply below_alloc | apply pw_below_drewN | apply below_drew1 | refine bS9_ ?_ GE285.out | refine bS9_ ?_ GE294.out | refine bS9_ ?_ GE298.out | refine bS9_ ?_ GE303.out) | exact HB.out)⟩
     rw [if_neg c92] at H
     have c92b0 : decide (t314 < 0) = false := decide_eq_false c92
     clear c92
     by_cases c100 : t314 = t312
     rotate_left
     ·rw [if_neg c100] at H
      have c100b0 : (t314 == t312) = false := beq_eq_false_iff_ne.mpr c100
      have c100b1 : (t314 != t312) = true := bne_iff_ne.mpr c100
      obtain rfl := Option.some.inj H
      have hnb168 := NB303_285.out
      have hnc168 := NB285_303.out
      have hnb169 := NB303_294.out
      have hnc169 := NB294_303.out
      have hnb170 := NB303_298.out
      have hnc170 := NB298_303.out
      have hcz171_0 : wc.cell? ⟨gb303, 0, none⟩ = some (.slice Ao32 t299.length co32) := (kC9_ BK303.out 0).trans rfl
      have hfz171_0 := blk_frozen BK303.out 0
      go_wp2_with (first | ((with_reducible refine gate_callee (f := 18) rfl ?_); refine goesL_ (some 64) rfl rfl Try.func18 (by kernel_rfl) rfl #[.agg #[.slice Ao32 t299.length co32], .int .i64 1] rfl q9x3_ ?_; (with_reducible refine (laws_markTree.calls kj59 (fun k_ => some k_ = (.slice Ao32 t299.length co32 : Value).ownBlock) (.slice Ao32 t299.length co32) t299 1 t312 t313 w _ ?side1 ?side2 A90.out).mono ?_); (case side1 => repeat (first | (with_reducible first | exact HB.out | apply below_alloc | apply pw_below_drewN | apply below_drew1 | refine bS9_ ?_ GE285.out | refine bS9_ ?_ GE294.out | refine bS9_ ?_ GE298.out | refine bS9_ ?_ GE303.out) | exact HB.out)); (case side2 => exact Kd.R_tight rfl HO_304000.out); rintro e w172 ⟨rfl, hy0, hb, hkp⟩; refine ⟨_, rfl, ?_⟩; have n0_ := aM9_ (Kd.R_mono (ok' := fun k_ => some k_ ≠ (.slice Ao26 t310.length co26 : Value).ownBlock ∧ some k_ ≠ (.slice Ao32 t299.length co32 : Value).ownBlock) (Kd.R_keptB (HO_295000.out) hkp (fun k_ hk_ hs_ => (hk_.2) hs_)) (fun k_ hk_ => ⟨hk_.1.1, hk_.1.2⟩)); have n1_ := aM9_ (Kd.R_mono (ok' := fun k_ => some k_ ≠ (.slice Ao20 t290.length co20 : Value).ownBlock ∧ some k_ ≠ (.slice Ao32 t299.length co32 : Value).ownBlock) (Kd.R_keptB (HO_299000.out) hkp (fun k_ hk_ hs_ => (hk_.2) hs_)) (fun k_ hk_ => ⟨hk_.1.1, hk_.1.2⟩)); have n2_ := aM9_ (Kd.R_reok rfl hy0 (fun k_ e_ => HO_304000.out.1 k_ e_)); have n3_ := aM9_ (blk_kept q9x2_ hkp (fun hs_ => (fun e_ => (Kd.R_ne HO_304000.out BK285.out (by decide)) e_) hs_)); have n4_ := aM9_ (blk_kept q9x4_ hkp (fun hs_ => (fun e_ => (Kd.R_ne HO_304000.out BK294.out (by decide)) e_) hs_)); have n5_ := aM9_ (blk_kept q9x5_ hkp (fun hs_ => (fun e_ => (Kd.R_ne HO_304000.out BK298.out (by decide)) e_) hs_)); have n6_ := aM9_ (blk_kept q9x6_ hkp (fun hs_ => (fun e_ => (Kd.R_ne HO_304000.out BK303.out (by decide)) e_) hs_)); have n7_ := aM9_ (hb); clear HO_295000; clear HO_299000; clear HO_304000; clear BK285; clear BK294; clear BK298; clear BK303; clear HB; have HO_295000 := n0_; have HO_299000 := n1_; have HO_304000 := n2_; have BK285 := n3_; have BK294 := n4_; have BK298 := n5_; have BK303 := n6_; have HB := n7_; clear n0_ n1_ n2_ n3_ n4_ n5_ n6_ n7_; (try clear hb); (try clear hkp); (try clear hy0); have hcz173_0 : w172.cell? ⟨gb303, 0, none⟩ = some (.slice Ao32 t299.length co32) := (kC9_ BK303.out 0).trans rfl; have hfz173_0 := blk_frozen BK303.out 0) | ((with_reducible refine gate_callee (f := 19) rfl ?_); refine goesL_ (some 67) rfl rfl Try.func19 (by kernel_rfl) rfl #[.agg #[.slice Ao32 t313.length co32], .int .i64 1] rfl q9x20_ ?_; (with_reducible refine (laws_heldTree.calls kj59 _ _ t313 1 t314 _ ?side1 ?side2 A91.out).mono ?_); (case side1 => repeat (first | exact (Kd.R_reads' HO_304000.out).2.2 | (with_reducible refine Kd.C_alloc ?_ _) | (with_reducible refine Kd.C_drewN ?_ _) | (with_reducible refine Kd.C_drew ?_))); (case side2 => rw [show t313.length = t299.length from (Kd.R_reads' HO_304000.out).1.symm]; exact (Kd.R_reads' HO_304000.out).2.1); rintro e w174 ⟨rfl, hb⟩; refine ⟨_, rfl, ?_⟩; have n0_ := aM9_ (rB9_ q9x7_ hb); have n1_ := aM9_ (rB9_ q9x8_ hb); have n2_ := aM9_ (rB9_ q9x9_ hb); have n3_ := aM9_ (kB9_ (g := gb285) (o := .cells #[.slice A0_0 l0_0.length c0_0] 31 (0, 0)) q9x2_ hb); have n4_ := aM9_ (kB9_ (g := gb294) (o := .cells #[.slice Ao20 t290.length co20] 24 (0, 0)) q9x4_ hb); have n5_ := aM9_ (kB9_ (g := gb298) (o := .cells #[.slice Ao26 t310.length co26] 24 (0, 0)) q9x5_ hb); have n6_ := aM9_ (kB9_ (g := gb303) (o := .cells #[.slice Ao32 t299.length co32] 24 (0, 0)) q9x6_ hb); have n7_ := aM9_ (below_step q9x1_ hb); clear HO_295000; clear HO_299000; clear HO_304000; clear BK285; clear BK294; clear BK298; clear BK303; clear HB; have HO_295000 := n0_; have HO_299000 := n1_; have HO_304000 := n2_; have BK285 := n3_; have BK294 := n4_; have BK298 := n5_; have BK303 := n6_; have HB := n7_; clear n0_ n1_ n2_ n3_ n4_ n5_ n6_ n7_; (try clear hb); (try clear hb2); (try clear hk); (try clear hi)))
      go_ret
      exact ⟨by first | rfl | (simp [errW_none, errW_some] <;> rfl) | (simp [*, errW_none, errW_some] <;> rfl), by repeat (first | (with_reducible first | exact HB.out | apply below_alloc | apply pw_below_drewN | apply below_drew1 | refine bS9_ ?_ GE285.out | refine bS9_ ?_ GE294.out | refine bS9_ ?_ GE298.out | refine bS9_ ?_ GE303.out) | exact HB.out)⟩
     rw [if_pos c100] at H
     have c100b0 : (t314 == t312) = true := beq_iff_eq.mpr c100
     have c100b1 : (t314 != t312) = false := bne_eq_false_iff_eq.mpr c100
     clear c100
     replace H := Option.bind_eq_some_iff.mp H
     obtain ⟨t315, A1010, H⟩ := H
     replace H : ((impl_ReachedTree.f kj59 t315).bind fun bt318 => ((laws_eqTree.f kj59 bt318.1 t290).bind fun t323 => (if t323 = true then (laws_FnExactReachedTree.j2 kj59 t312 (bt318.2 != t293) t313) else (laws_FnExactReachedTree.j2 kj59 t312 true t313)))) = some r := H
     have A101 := aM9_ A1010
     clear A1010
     replace H := Option.bind_eq_some_iff.mp H
     obtain ⟨⟨t318, t321⟩, A1020, H⟩ := H
     replace H : ((laws_eqTree.f kj59 t318 t290).bind fun t323 => (if t323 = true then (laws_FnExactReachedTree.j2 kj59 t312 (t321 != t293) t313) else (laws_FnExactReachedTree.j2 kj59 t312 true t313))) = some r := H
     have A102 := aM9_ A1020
     clear A1020
     have HC103 := aM9_ H
     clear H
     have hnb104 := NB303_285.out
     have hnc104 := NB285_303.out
     have hnb105 := NB303_294.out
     have hnc105 := NB294_303.out
     have hnb106 := NB303_298.out
     have hnc106 := NB298_303.out
     have hcz107_0 : wc.cell? ⟨gb303, 0, none⟩ = some (.slice Ao32 t299.length co32) := (kC9_ BK303.out 0).trans rfl
     have hfz107_0 := blk_frozen BK303.out 0
     go_upto_region 25 with (first | ((with_reducible refine gate_callee (f := 18) rfl ?_); refine goesL_ (some 64) rfl rfl Try.func18 (by kernel_rfl) rfl #[.agg #[.slice Ao32 t299.length co32], .int .i64 1] rfl q9x3_ ?_; (with_reducible refine (laws_markTree.calls kj59 (fun k_ => some k_ = (.slice Ao32 t299.length co32 : Value).ownBlock) (.slice Ao32 t299.length co32) t299 1 t312 t313 w _ ?side1 ?side2 A90.out).mono ?_); (case side1 => repeat (first | (with_reducible first | exact HB.out | apply below_alloc | apply pw_below_drewN | apply below_drew1 | refine bS9_ ?_ GE285.out | refine bS9_ ?_ GE294.out | refine bS9_ ?_ GE298.out | refine bS9_ ?_ GE303.out) | exact HB.out)); (case side2 => exact Kd.R_tight rfl HO_304000.out); rintro e w108 ⟨rfl, hy0, hb, hkp⟩; refine ⟨_, rfl, ?_⟩; have n0_ := aM9_ (Kd.R_mono (ok' := fun k_ => some k_ ≠ (.slice Ao26 t310.length co26 : Value).ownBlock ∧ some k_ ≠ (.slice Ao32 t299.length co32 : Value).ownBlock) (Kd.R_keptB (HO_295000.out) hkp (fun k_ hk_ hs_ => (hk_.2) hs_)) (fun k_ hk_ => ⟨hk_.1.1, hk_.1.2⟩)); have n1_ := aM9_ (Kd.R_mono (ok' := fun k_ => some k_ ≠ (.slice Ao20 t290.length co20 : Value).ownBlock ∧ some k_ ≠ (.slice Ao32 t299.length co32 : Value).ownBlock) (Kd.R_keptB (HO_299000.out) hkp (fun k_ hk_ hs_ => (hk_.2) hs_)) (fun k_ hk_ => ⟨hk_.1.1, hk_.1.2⟩)); have n2_ := aM9_ (Kd.R_reok rfl hy0 (fun k_ e_ => HO_304000.out.1 k_ e_)); have n3_ := aM9_ (blk_kept q9x2_ hkp (fun hs_ => (fun e_ => (Kd.R_ne HO_304000.out BK285.out (by decide)) e_) hs_)); have n4_ := aM9_ (blk_kept q9x4_ hkp (fun hs_ => (fun e_ => (Kd.R_ne HO_304000.out BK294.out (by decide)) e_) hs_)); have n5_ := aM9_ (blk_kept q9x5_ hkp (fun hs_ => (fun e_ => (Kd.R_ne HO_304000.out BK298.out (by decide)) e_) hs_)); have n6_ := aM9_ (blk_kept q9x6_ hkp (fun hs_ => (fun e_ => (Kd.R_ne HO_304000.out BK303.out (by decide)) e_) hs_)); have n7_ := aM9_ (hb); clear HO_295000; clear HO_299000; clear HO_304000; clear BK285; clear BK294; clear BK298; clear BK303; clear HB; have HO_295000 := n0_; have HO_299000 := n1_; have HO_304000 := n2_; have BK285 := n3_; have BK294 := n4_; have BK298 := n5_; have BK303 := n6_; have HB := n7_; clear n0_ n1_ n2_ n3_ n4_ n5_ n6_ n7_; (try clear hb); (try clear hkp); (try clear hy0); have hcz109_0 : w108.cell? ⟨gb303, 0, none⟩ = some (.slice Ao32 t299.length co32) := (kC9_ BK303.out 0).trans rfl; have hfz109_0 := blk_frozen BK303.out 0) | ((with_reducible refine gate_callee (f := 19) rfl ?_); refine goesL_ (some 67) rfl rfl Try.func19 (by kernel_rfl) rfl #[.agg #[.slice Ao32 t313.length co32], .int .i64 1] rfl q9x20_ ?_; (with_reducible refine (laws_heldTree.calls kj59 _ _ t313 1 t314 _ ?side1 ?side2 A91.out).mono ?_); (case side1 => repeat (first | exact (Kd.R_reads' HO_304000.out).2.2 | (with_reducible refine Kd.C_alloc ?_ _) | (with_reducible refine Kd.C_drewN ?_ _) | (with_reducible refine Kd.C_drew ?_))); (case side2 => rw [show t313.length = t299.length from (Kd.R_reads' HO_304000.out).1.symm]; exact (Kd.R_reads' HO_304000.out).2.1); rintro e w110 ⟨rfl, hb⟩; refine ⟨_, rfl, ?_⟩; have n0_ := aM9_ (rB9_ q9x7_ hb); have n1_ := aM9_ (rB9_ q9x8_ hb); have n2_ := aM9_ (rB9_ q9x9_ hb); have n3_ := aM9_ (kB9_ (g := gb285) (o := .cells #[.slice A0_0 l0_0.length c0_0] 31 (0, 0)) q9x2_ hb); have n4_ := aM9_ (kB9_ (g := gb294) (o := .cells #[.slice Ao20 t290.length co20] 24 (0, 0)) q9x4_ hb); have n5_ := aM9_ (kB9_ (g := gb298) (o := .cells #[.slice Ao26 t310.length co26] 24 (0, 0)) q9x5_ hb); have n6_ := aM9_ (kB9_ (g := gb303) (o := .cells #[.slice Ao32 t299.length co32] 24 (0, 0)) q9x6_ hb); have n7_ := aM9_ (below_step q9x1_ hb); clear HO_295000; clear HO_299000; clear HO_304000; clear BK285; clear BK294; clear BK298; clear BK303; clear HB; have HO_295000 := n0_; have HO_299000 := n1_; have HO_304000 := n2_; have BK285 := n3_; have BK294 := n4_; have BK298 := n5_; have BK303 := n6_; have HB := n7_; clear n0_ n1_ n2_ n3_ n4_ n5_ n6_ n7_; (try clear hb); (try clear hb2); (try clear hk); (try clear hi); have hnb111 := NB285_294.out; have hnc111 := NB294_285.out; have hnb112 := NB285_298.out; have hnc112 := NB298_285.out; have hcz113_0 : w110.cell? ⟨gb285, 0, none⟩ = some (.slice A0_0 l0_0.length c0_0) := (kC9_ BK285.out 0).trans rfl; have hfz113_0 := blk_frozen BK285.out 0) | ((with_reducible refine gate_callee (f := 26) rfl ?_); refine goesL_ (some 75) rfl rfl Try.func26 (by kernel_rfl) rfl #[.agg #[.slice A0_0 l0_0.length c0_0]] rfl q9x3_ ?_; (with_reducible refine (laws_toTree.calls kj59 _ _ l0_0 t315 _ ?side1 ?side2 A101.out).mono ?_); (case side1 => repeat (first | exact (Kd.C_below HR0_0.out HB.out) | (with_reducible refine Kd.C_alloc ?_ _) | (with_reducible refine Kd.C_drewN ?_ _) | (with_reducible refine Kd.C_drew ?_))); (case side2 => exact HC0_0.out); rintro e w114 ⟨v316, rfl, ho0, hb⟩; refine ⟨_, rfl, ?_⟩; have n0_ := aM9_ (Kd.R_elder' q9x7_ (Kd.R_base ho0) hb); have n1_ := aM9_ (Kd.R_elder' q9x8_ (Kd.R_base ho0) hb); have n2_ := aM9_ (Kd.R_elder' q9x9_ (Kd.R_base ho0) hb); have n3_ := aM9_ (Kd.R_lower (Kd.R_new' (Kd.R_new' (Kd.R_new' ho0 (Kd.R_lt q9x7_)) (Kd.R_lt q9x8_)) (Kd.R_lt q9x9_)) (below_size q9x1_)); have n4_ := aM9_ (kB9_ (g := gb285) (o := .cells #[.slice A0_0 l0_0.length c0_0] 31 (0, 0)) q9x2_ hb); have n5_ := aM9_ (kB9_ (g := gb294) (o := .cells #[.slice Ao20 t290.length co20] 24 (0, 0)) q9x4_ hb); have n6_ := aM9_ (kB9_ (g := gb298) (o := .cells #[.slice Ao26 t310.length co26] 24 (0, 0)) q9x5_ hb); have n7_ := aM9_ (kB9_ (g := gb303) (o := .cells #[.slice Ao32 t299.length co32] 24 (0, 0)) q9x6_ hb); have n8_ := aM9_ (below_step q9x1_ hb); clear HO_295000; clear HO_299000; clear HO_304000; clear BK285; clear BK294; clear BK298; clear BK303; clear HB; have HO_295000 := n0_; have HO_299000 := n1_; have HO_304000 := n2_; have HO317 := n3_; have BK285 := n4_; have BK294 := n5_; have BK298 := n6_; have BK303 := n7_; have HB := n8_; clear n0_ n1_ n2_ n3_ n4_ n5_ n6_ n7_ n8_; (try clear hb); (try clear hb2); (try clear hk); (try clear hi); (try clear ho0); obtain ⟨Ao115, co115, eo115⟩ := Kd.R_slice HO317.out; subst eo115) | ((with_reducible refine gate_callee (f := 33) rfl ?_); refine goesL_ (some 76) rfl rfl Try.func33 (by kernel_rfl) rfl #[.agg #[.slice Ao115 t315.length co115]] rfl q9x3_ ?_; (with_reducible refine (impl_ReachedTree.calls kj59 _ _ t315 t318 t321 _ ?side1 ?side2 A102.out).mono ?_); (case side1 => repeat (first | exact (Kd.R_reads' HO317.out).2.2 | (with_reducible refine Kd.C_alloc ?_ _) | (with_reducible refine Kd.C_drewN ?_ _) | (with_reducible refine Kd.C_drew ?_))); (case side2 => exact (Kd.R_reads' HO317.out).2.1); rintro e w116 ⟨v319, rfl, ho0, hb⟩; refine ⟨_, rfl, ?_⟩; have n0_ := aM9_ (Kd.R_elder' q9x7_ (Kd.R_base ho0) hb); have n1_ := aM9_ (Kd.R_elder' q9x8_ (Kd.R_base ho0) hb); have n2_ := aM9_ (Kd.R_elder' q9x9_ (Kd.R_base ho0) hb); have n3_ := aM9_ (Kd.R_elder' q9x49_ (Kd.R_base ho0) hb); have n4_ := aM9_ (Kd.R_lower (Kd.R_new' (Kd.R_new' (Kd.R_new' (Kd.R_new' ho0 (Kd.R_lt q9x7_)) (Kd.R_lt q9x8_)) (Kd.R_lt q9x9_)) (Kd.R_lt q9x49_)) (below_size q9x1_)); have n5_ := aM9_ (kB9_ (g := gb285) (o := .cells #[.slice A0_0 l0_0.length c0_0] 31 (0, 0)) q9x2_ hb); have n6_ := aM9_ (kB9_ (g := gb294) (o := .cells #[.slice Ao20 t290.length co20] 24 (0, 0)) q9x4_ hb); have n7_ := aM9_ (kB9_ (g := gb298) (o := .cells #[.slice Ao26 t310.length co26] 24 (0, 0)) q9x5_ hb); have n8_ := aM9_ (kB9_ (g := gb303) (o := .cells #[.slice Ao32 t299.length co32] 24 (0, 0)) q9x6_ hb); have n9_ := aM9_ (below_step q9x1_ hb); clear HO_295000; clear HO_299000; clear HO_304000; clear HO317; clear BK285; clear BK294; clear BK298; clear BK303; clear HB; have HO_295000 := n0_; have HO_299000 := n1_; have HO_304000 := n2_; have HO317 := n3_; have HO320 := n4_; have BK285 := n5_; have BK294 := n6_; have BK298 := n7_; have BK303 := n8_; have HB := n9_; clear n0_ n1_ n2_ n3_ n4_ n5_ n6_ n7_ n8_ n9_; (try clear hb); (try clear hb2); (try clear hk); (try clear hi); (try clear ho0)) | ((with_reducible refine gate_dst (N := 12) rfl ?_); refine box_event ?hg (N := 12) ?hd (cs := #[.slice none 0 0]) (t := 24) ?hr ?_; (case hd => rfl); (case hg => rfl); (case hr => first | (go_simp; done) | (go_simp; rfl)); intro gb322 hg w117 hbox hb; have n0_ := aM9_ (rB9_ q9x7_ hb); have n1_ := aM9_ (rB9_ q9x8_ hb); have n2_ := aM9_ (rB9_ q9x9_ hb); have n3_ := aM9_ (rB9_ q9x49_ hb); have n4_ := aM9_ (rB9_ (by (with_reducible repeat (first | apply rA9_ | apply rN9_ | apply rD9_)); exact HO320.out) hb); have n5_ := aM9_ (kB9_ (g := gb285) (o := .cells #[.slice A0_0 l0_0.length c0_0] 31 (0, 0)) q9x2_ hb); have n6_ := aM9_ (kB9_ (g := gb294) (o := .cells #[.slice Ao20 t290.length co20] 24 (0, 0)) q9x4_ hb); have n7_ := aM9_ (kB9_ (g := gb298) (o := .cells #[.slice Ao26 t310.length co26] 24 (0, 0)) q9x5_ hb); have n8_ := aM9_ (kB9_ (g := gb303) (o := .cells #[.slice Ao32 t299.length co32] 24 (0, 0)) q9x6_ hb); have n9_ := aM9_ (below_step q9x1_ hb); have n10_ := aM9_ (hbox); have n11_ := aM9_ ((by rw [hg]; exact (below_size q9x1_) : w.heap.size ≤ gb322)); have n12_ := aM9_ ((by rw [hg]; exact (below_size q9x1_) : w.heap.size ≤ gb322)); have n13_ := aM9_ ((q9x22_ : gb285 ≠ gb322)); have n14_ := aM9_ ((q9x23_ : gb322 ≠ gb285)); have n15_ := aM9_ ((q9x45_ : gb294 ≠ gb322)); have n16_ := aM9_ ((q9x46_ : gb322 ≠ gb294)); have n17_ := aM9_ ((by rw [hg]; exact Nat.ne_of_lt (blk_lt (g := gb298) (o := .cells #[.slice Ao26 t310.length co26] 24 (0, 0)) q9x5_) : gb298 ≠ gb322)); have n18_ := aM9_ ((by rw [hg]; exact Nat.ne_of_gt (blk_lt (g := gb298) (o := .cells #[.slice Ao26 t310.length co26] 24 (0, 0)) q9x5_) : gb322 ≠ gb298)); have n19_ := aM9_ ((by rw [hg]; exact Nat.ne_of_lt (blk_lt (g := gb303) (o := .cells #[.slice Ao32 t299.length co32] 24 (0, 0)) q9x6_) : gb303 ≠ gb322)); have n20_ := aM9_ ((by rw [hg]; exact Nat.ne_of_gt (blk_lt (g := gb303) (o := .cells #[.slice Ao32 t299.length co32] 24 (0, 0)) q9x6_) : gb322 ≠ gb303)); clear HO_295000; clear HO_299000; clear HO_304000; clear HO317; clear HO320; clear BK285; clear BK294; clear BK298; clear BK303; clear HB; have HO_295000 := n0_; have HO_299000 := n1_; have HO_304000 := n2_; have HO317 := n3_; have HO320 := n4_; have BK285 := n5_; have BK294 := n6_; have BK298 := n7_; have BK303 := n8_; have HB := n9_; have BK322 := n10_; have GW322 := n11_; have GE322 := n12_; have NB285_322 := n13_; have NB322_285 := n14_; have NB294_322 := n15_; have NB322_294 := n16_; have NB298_322 := n17_; have NB322_298 := n18_; have NB303_322 := n19_; have NB322_303 := n20_; clear n0_ n1_ n2_ n3_ n4_ n5_ n6_ n7_ n8_ n9_ n10_ n11_ n12_ n13_ n14_ n15_ n16_ n17_ n18_ n19_ n20_; clear hb hbox hg; obtain ⟨Ao118, co118, eo118⟩ := Kd.R_slice HO320.out; subst eo118; have hnb119 := NB322_285.out; have hnc119 := NB285_322.out; have hnb120 := NB322_294.out; have hnc120 := NB294_322.out; have hnb121 := NB322_298.out; have hnc121 := NB298_322.out; have hnb122 := NB322_303.out; have hnc122 := NB303_322.out; have hcz123_0 : w117.cell? ⟨gb322, 0, none⟩ = some (.slice none 0 0) := (kC9_ BK322.out 0).trans rfl; have hfz123_0 := blk_frozen BK322.out 0))
     (try simp only [Act.put, List.setIfInBounds_toArray, List.set_cons_zero, List.set_cons_succ])
     go_cut [87] (fun v87 wc => ∃ (kq : Nat) (x87_102 : Bool), v87 = .bool x87_102 ∧ Aside0 (laws_FnExactReachedTree.j2 kq t312 x87_102 t313 = some r) ∧ Aside0 (kq ≤ kj59) ∧ Aside0 (Kd.R k77 77 wc w.heap.size (fun k_ => some k_ ≠ ((.slice Ao26 t310.length co26) : Value).ownBlock ∧ some k_ ≠ ((.slice Ao32 t299.length co32) : Value).ownBlock ∧ some k_ ≠ ((.slice Ao118 t318.length co118) : Value).ownBlock) (.slice Ao20 t290.length co20) t290) ∧ Aside0 (Kd.R k77 77 wc w.heap.size (fun k_ => some k_ ≠ ((.slice Ao20 t290.length co20) : Value).ownBlock ∧ some k_ ≠ ((.slice Ao32 t299.length co32) : Value).ownBlock ∧ some k_ ≠ ((.slice Ao118 t318.length co118) : Value).ownBlock) (.slice Ao26 t310.length co26) t310) ∧ Aside0 (Kd.R k77 77 wc w.heap.size (fun k_ => some k_ ≠ ((.slice Ao20 t290.length co20) : Value).ownBlock ∧ some k_ ≠ ((.slice Ao26 t310.length co26) : Value).ownBlock ∧ some k_ ≠ ((.slice Ao118 t318.length co118) : Value).ownBlock) (.slice Ao32 t299.length co32) t313) ∧ Aside0 (Kd.R k77 77 wc w.heap.size (fun k_ => some k_ ≠ ((.slice Ao20 t290.length co20) : Value).ownBlock ∧ some k_ ≠ ((.slice Ao26 t310.length co26) : Value).ownBlock ∧ some k_ ≠ ((.slice Ao32 t299.length co32) : Value).ownBlock) (.slice Ao118 t318.length co118) t318) ∧ Aside0 (wc.heap[gb285]? = some (.cells #[(.slice A0_0 l0_0.length c0_0)] 31 (0, 0))) ∧ Aside0 (wc.heap[gb294]? = some (.cells #[(.slice Ao20 t290.length co20)] 24 (0, 0))) ∧ Aside0 (wc.heap[gb298]? = some (.cells #[(.slice Ao26 t310.length co26)] 24 (0, 0))) ∧ Aside0 (wc.heap[gb303]? = some (.cells #[(.slice Ao32 t299.length co32)] 24 (0, 0))) ∧ Aside0 (wc.heap[gb322]? = some (.cells #[(.slice Ao118 t318.length co118)] 24 (0, 0))) ∧ Aside0 (Below w.heap.size w wc))
     case first =>
      have H := HC103.out
      clear HC103
      replace H := Option.bind_eq_some_iff.mp H
      obtain ⟨t323, A1240, H⟩ := H
      replace H : (if t323 = true then (laws_FnExactReachedTree.j2 kj59 t312 (t321 != t293) t313) else (laws_FnExactReachedTree.j2 kj59 t312 true t313)) = some r := H
      have A124 := aM9_ A1240
      clear A1240
      by_cases c125 : t323 = true
      ·subst c125
       have H1 : (laws_FnExactReachedTree.j2 kj59 t312 (t321 != t293) t313) = some r := by rw [if_pos rfl] at H; exact H
       clear H
       have H := H1
       clear H1
       have H' := aM9_ H
       clear H
       have hnb126 := NB322_285.out
       have hnc126 := NB285_322.out
       have hnb127 := NB322_294.out
       have hnc127 := NB294_322.out
       have hnb128 := NB322_298.out
       have hnc128 := NB298_322.out
       have hnb129 := NB322_303.out
       have hnc129 := NB303_322.out
       have hcz130_0 : w117.cell? ⟨gb322, 0, none⟩ = some (.slice none 0 0) := (kC9_ BK322.out 0).trans rfl
       have hfz130_0 := blk_frozen BK322.out 0
       have hnb131 := NB294_285.out
       have hnc131 := NB285_294.out
       have hnb132 := NB294_298.out
       have hnc132 := NB298_294.out
       have hnb133 := NB294_303.out
       have hnc133 := NB303_294.out
       have hcz134_0 : w117.cell? ⟨gb294, 0, none⟩ = some (.slice Ao20 t290.length co20) := (kC9_ BK294.out 0).trans rfl
       have hfz134_0 := blk_frozen BK294.out 0
       go_wp2_with (first | ((with_reducible refine gate_callee (f := 17) rfl ?_); refine goesL_ (some 81) rfl rfl Try.func17 (by kernel_rfl) rfl #[.agg #[.slice Ao118 t318.length co118], .agg #[.slice Ao20 t290.length co20]] rfl q9x3_ ?_; (with_reducible refine (laws_eqTree.calls kj59 _ _ t318 _ _ t290 true _ ?side1 ?side2 ?side3 ?side4 A124.out).mono ?_); (case side1 => refine (Kd.R_reads' (e := 77) (base := w.heap.size) (ok := fun k_ => ((((True ∧ some k_ ≠ (.slice Ao20 t290.length co20 : Value).ownBlock) ∧ some k_ ≠ (.slice Ao26 t310.length co26 : Value).ownBlock) ∧ some k_ ≠ (.slice Ao32 t299.length co32 : Value).ownBlock) ∧ some k_ ≠ (.slice Ao115 t315.length co115 : Value).ownBlock)) (n := t318.length) (c := co118) ?_).2.2; exact q9x15_); (case side2 => exact (Kd.R_reads' HO320.out).2.1); (case side3 => refine (Kd.R_reads' (e := 77) (base := w.heap.size) (ok := fun k_ => (((some k_ ≠ (.slice Ao26 t310.length co26 : Value).ownBlock ∧ some k_ ≠ (.slice Ao32 t299.length co32 : Value).ownBlock) ∧ some k_ ≠ (.slice Ao115 t315.length co115 : Value).ownBlock) ∧ some k_ ≠ (.slice Ao118 t318.length co118 : Value).ownBlock)) (n := t290.length) (c := co20) ?_).2.2; exact q9x14_); (case side4 => exact (Kd.R_reads' HO_295000.out).2.1); rintro e w135 ⟨rfl, hb⟩; refine ⟨_, rfl, ?_⟩; have n0_ := aM9_ (rB9_ q9x14_ hb); have n1_ := aM9_ (rB9_ q9x28_ hb); have n2_ := aM9_ (rB9_ q9x29_ hb); have n3_ := aM9_ (rB9_ q9x30_ hb); have n4_ := aM9_ (rB9_ q9x15_ hb); have n5_ := aM9_ (kB9_ (g := gb285) (o := .cells #[.slice A0_0 l0_0.length c0_0] 31 (0, 0)) q9x40_ hb); have n6_ := aM9_ (kB9_ (g := gb294) (o := .cells #[.slice Ao20 t290.length co20] 24 (0, 0)) q9x41_ hb); have n7_ := aM9_ (kB9_ (g := gb298) (o := .cells #[.slice Ao26 t310.length co26] 24 (0, 0)) q9x42_ hb); have n8_ := aM9_ (kB9_ (g := gb303) (o := .cells #[.slice Ao32 t299.length co32] 24 (0, 0)) q9x43_ hb); have n9_ := aM9_ (kB9_ (g := gb322) (o := .cells #[.slice Ao118 t318.length co118] 24 (0, 0)) q9x26_ hb); have n10_ := aM9_ (below_step q9x11_ hb); clear HO_295000; clear HO_299000; clear HO_304000; clear HO317; clear HO320; clear BK285; clear BK294; clear BK298; clear BK303; clear BK322; clear HB; have HO_295000 := n0_; have HO_299000 := n1_; have HO_304000 := n2_; have HO317 := n3_; have HO320 := n4_; have BK285 := n5_; have BK294 := n6_; have BK298 := n7_; have BK303 := n8_; have BK322 := n9_; have HB := n10_; clear n0_ n1_ n2_ n3_ n4_ n5_ n6_ n7_ n8_ n9_ n10_; (try clear hb); (try clear hb2); (try clear hk); (try clear hi)))
       go_meet
       case rel => exact ⟨_, ((t321 != t293)), q9x27_, H', ⟨by have := HJ10.out; have := HJ59.out; first | omega | exact Nat.le_refl _⟩, ⟨by (try simp only [hl299000_59]); (with_reducible repeat (first | apply rA9_ | apply rN9_ | apply rD9_)); exact Kd.R_mono HO_295000.out (fun _ hk => ⟨hk.1.1.1, ⟨hk.1.1.2, hk.2⟩⟩)⟩, ⟨by (try simp only [hl299000_59]); (with_reducible repeat (first | apply rA9_ | apply rN9_ | apply rD9_)); exact Kd.R_mono HO_299000.out (fun _ hk => ⟨hk.1.1.1, ⟨hk.1.1.2, hk.2⟩⟩)⟩, ⟨by (try simp only [hl299000_59]); (with_reducible repeat (first | apply rA9_ | apply rN9_ | apply rD9_)); exact Kd.R_mono HO_304000.out (fun _ hk => ⟨hk.1.1.1, ⟨hk.1.1.2, hk.2⟩⟩)⟩, ⟨by (try simp only [hl299000_59]); (with_reducible repeat (first | apply rA9_ | apply rN9_ | apply rD9_)); exact Kd.R_mono HO320.out (fun _ hk => ⟨hk.1.1.1.2, ⟨hk.1.1.2, hk.1.2⟩⟩)⟩, ⟨by (try simp only [hl299000_59]); (with_reducible repeat (first | refine kN9_ ?_ _ | refine kD9_ ?_ | refine kA9_ ?_ _)); exact BK285.out⟩, ⟨by (try simp only [hl299000_59]); (with_reducible repeat (first | refine kN9_ ?_ _ | refine kD9_ ?_ | refine kA9_ ?_ _)); exact BK294.out⟩, ⟨by (try simp only [hl299000_59]); (with_reducible repeat (first | refine kN9_ ?_ _ | refine kD9_ ?_ | refine kA9_ ?_ _)); exact BK298.out⟩, ⟨by (try simp only [hl299000_59]); (with_reducible repeat (first | refine kN9_ ?_ _ | refine kD9_ ?_ | refine kA9_ ?_ _)); exact BK303.out⟩, ⟨by (try simp only [hl299000_59]); (with_reducible repeat (first | refine kN9_ ?_ _ | refine kD9_ ?_ | refine kA9_ ?_ _)); exact BK322.out⟩, ⟨by repeat (first | (with_reducible first | exact HB.out | apply below_alloc | apply pw_below_drewN | apply below_drew1 | refine bS9_ ?_ GE285.out | refine bS9_ ?_ GE294.out | refine bS9_ ?_ GE298.out | refine bS9_ ?_ GE303.out | refine bS9_ ?_ GE322.out) | exact HB.out)⟩⟩
      replace c125 := Bool.eq_false_iff.mpr c125
      subst c125
      have H1 : (laws_FnExactReachedTree.j2 kj59 t312 true t313) = some r := by rw [if_neg (show ¬ (false = true) by decide)] at H; exact H
      clear H
      have H := H1
      clear H1
      have H' := aM9_ H
      clear H
      have hnb136 := NB322_285.out
      have hnc136 := NB285_322.out
      have hnb137 := NB322_294.out
      have hnc137 := NB294_322.out
      have hnb138 := NB322_298.out
      have hnc138 := NB298_322.out
      have hnb139 := NB322_303.out
      have hnc139 := NB303_322.out
      have hcz140_0 : w117.cell? ⟨gb322, 0, none⟩ = some (.slice none 0 0) := (kC9_ BK322.out 0).trans rfl
      have hfz140_0 := blk_frozen BK322.out 0
      have hnb141 := NB294_285.out
      have hnc141 := NB285_294.out
      have hnb142 := NB294_298.out
      have hnc142 := NB298_294.out
      have hnb143 := NB294_303.out
      have hnc143 := NB303_294.out
      have hcz144_0 : w117.cell? ⟨gb294, 0, none⟩ = some (.slice Ao20 t290.length co20) := (kC9_ BK294.out 0).trans rfl
      have hfz144_0 := blk_frozen BK294.out 0
      go_wp2_with (first | ((with_reducible refine gate_callee (f := 17) rfl ?_); refine goesL_ (some 81) rfl rfl Try.func17 (by kernel_rfl) rfl #[.agg #[.slice Ao118 t318.length co118], .agg #[.slice Ao20 t290.length co20]] rfl q9x3_ ?_; (with_reducible refine (laws_eqTree.calls kj59 _ _ t318 _ _ t290 false _ ?side1 ?side2 ?side3 ?side4 A124.out).mono ?_); (case side1 => refine (Kd.R_reads' (e := 77) (base := w.heap.size) (ok := fun k_ => ((((True ∧ some k_ ≠ (.slice Ao20 t290.length co20 : Value).ownBlock) ∧ some k_ ≠ (.slice Ao26 t310.length co26 : Value).ownBlock) ∧ some k_ ≠ (.slice Ao32 t299.length co32 : Value).ownBlock) ∧ some k_ ≠ (.slice Ao115 t315.length co115 : Value).ownBlock)) (n := t318.length) (c := co118) ?_).2.2; exact q9x15_); (case side2 => exact (Kd.R_reads' HO320.out).2.1); (case side3 => refine (Kd.R_reads' (e := 77) (base := w.heap.size) (ok := fun k_ => (((some k_ ≠ (.slice Ao26 t310.length co26 : Value).ownBlock ∧ some k_ ≠ (.slice Ao32 t299.length co32 : Value).ownBlock) ∧ some k_ ≠ (.slice Ao115 t315.length co115 : Value).ownBlock) ∧ some k_ ≠ (.slice Ao118 t318.length co118 : Value).ownBlock)) (n := t290.length) (c := co20) ?_).2.2; exact q9x14_); (case side4 => exact (Kd.R_reads' HO_295000.out).2.1); rintro e w145 ⟨rfl, hb⟩; refine ⟨_, rfl, ?_⟩; have n0_ := aM9_ (rB9_ q9x14_ hb); have n1_ := aM9_ (rB9_ q9x28_ hb); have n2_ := aM9_ (rB9_ q9x29_ hb); have n3_ := aM9_ (rB9_ q9x30_ hb); have n4_ := aM9_ (rB9_ q9x15_ hb); have n5_ := aM9_ (kB9_ (g := gb285) (o := .cells #[.slice A0_0 l0_0.length c0_0] 31 (0, 0)) q9x40_ hb); have n6_ := aM9_ (kB9_ (g := gb294) (o := .cells #[.slice Ao20 t290.length co20] 24 (0, 0)) q9x41_ hb); have n7_ := aM9_ (kB9_ (g := gb298) (o := .cells #[.slice Ao26 t310.length co26] 24 (0, 0)) q9x42_ hb); have n8_ := aM9_ (kB9_ (g := gb303) (o := .cells #[.slice Ao32 t299.length co32] 24 (0, 0)) q9x43_ hb); have n9_ := aM9_ (kB9_ (g := gb322) (o := .cells #[.slice Ao118 t318.length co118] 24 (0, 0)) q9x26_ hb); have n10_ := aM9_ (below_step q9x11_ hb); clear HO_295000; clear HO_299000; clear HO_304000; clear HO317; clear HO320; clear BK285; clear BK294; clear BK298; clear BK303; clear BK322; clear HB; have HO_295000 := n0_; have HO_299000 := n1_; have HO_304000 := n2_; have HO317 := n3_; have HO320 := n4_; have BK285 := n5_; have BK294 := n6_; have BK298 := n7_; have BK303 := n8_; have BK322 := n9_; have HB := n10_; clear n0_ n1_ n2_ n3_ n4_ n5_ n6_ n7_ n8_ n9_ n10_; (try clear hb); (try clear hb2); (try clear hk); (try clear hi)))
      go_meet
      case rel => exact ⟨_, (true), q9x27_, H', ⟨by have := HJ10.out; have := HJ59.out; first | omega | exact Nat.le_refl _⟩, ⟨by (try simp only [hl299000_59]); (with_reducible repeat (first | apply rA9_ | apply rN9_ | apply rD9_)); exact Kd.R_mono HO_295000.out (fun _ hk => ⟨hk.1.1.1, ⟨hk.1.1.2, hk.2⟩⟩)⟩, ⟨by (try simp only [hl299000_59]); (with_reducible repeat (first | apply rA9_ | apply rN9_ | apply rD9_)); exact Kd.R_mono HO_299000.out (fun _ hk => ⟨hk.1.1.1, ⟨hk.1.1.2, hk.2⟩⟩)⟩, ⟨by (try simp only [hl299000_59]); (with_reducible repeat (first | apply rA9_ | apply rN9_ | apply rD9_)); exact Kd.R_mono HO_304000.out (fun _ hk => ⟨hk.1.1.1, ⟨hk.1.1.2, hk.2⟩⟩)⟩, ⟨by (try simp only [hl299000_59]); (with_reducible repeat (first | apply rA9_ | apply rN9_ | apply rD9_)); exact Kd.R_mono HO320.out (fun _ hk => ⟨hk.1.1.1.2, ⟨hk.1.1.2, hk.1.2⟩⟩)⟩, ⟨by (try simp only [hl299000_59]); (with_reducible repeat (first | refine kN9_ ?_ _ | refine kD9_ ?_ | refine kA9_ ?_ _)); exact BK285.out⟩, ⟨by (try simp only [hl299000_59]); (with_reducible repeat (first | refine kN9_ ?_ _ | refine kD9_ ?_ | refine kA9_ ?_ _)); exact BK294.out⟩, ⟨by (try simp only [hl299000_59]); (with_reducible repeat (first | refine kN9_ ?_ _ | refine kD9_ ?_ | refine kA9_ ?_ _)); exact BK298.out⟩, ⟨by (try simp only [hl299000_59]); (with_reducible repeat (first | refine kN9_ ?_ _ | refine kD9_ ?_ | refine kA9_ ?_ _)); exact BK303.out⟩, ⟨by (try simp only [hl299000_59]); (with_reducible repeat (first | refine kN9_ ?_ _ | refine kD9_ ?_ | refine kA9_ ?_ _)); exact BK322.out⟩, ⟨by repeat (first | (with_reducible first | exact HB.out | apply below_alloc | apply pw_below_drewN | apply below_drew1 | refine bS9_ ?_ GE285.out | refine bS9_ ?_ GE294.out | refine bS9_ ?_ GE298.out | refine bS9_ ?_ GE303.out | refine bS9_ ?_ GE322.out) | exact HB.out)⟩⟩
     case rest =>
      clear HC103
      try clear c1
      try clear c2
      try clear p2
      try clear c3
      try clear c3b0
      try clear c4
      try clear c5
      try clear c6
      try clear c7
      try clear c8
      try clear c9
      try clear c10
      try clear c11
      try clear c12
      try clear c13
      try clear c14
      try clear c17
      try clear c18
      try clear c19
      try clear c21
      try clear c24
      try clear c26
      try clear c27
      try clear c28
      try clear c32
      try clear c33
      try clear c34
      try clear c35
      try clear c38
      try clear c39
      try clear c40
      try clear c41
      try clear c43
      try clear c44
      try clear c47
      try clear c48
      try clear c49
      try clear c51
      try clear c52
      try clear c55
      try clear c58
      try clear c65
      try clear c66
      try clear c67
      try clear c70
      try clear c70b0
      try clear c72
      try clear c73
      try clear c74
      try clear c75
      try clear c77
      try clear c78
      try clear c81
      try clear c82
      try clear c83
      try clear c85
      try clear c86
      try clear c89
      try clear c92
      try clear c92b0
      try clear c93
      try clear c94
      try clear c95
      try clear c100
      try clear c100b0
      try clear c100b1
      try clear c104
      try clear c105
      try clear c106
      try clear c111
      try clear c112
      try clear c119
      try clear c120
      try clear c121
      try clear c122
      try clear c125
      try clear c126
      try clear c127
      try clear c128
      try clear c129
      try clear c131
      try clear c132
      try clear c133
      try clear c136
      try clear c137
      try clear c138
      try clear c139
      try clear c141
      try clear c142
      try clear c143
      try clear hcz107_0
      try clear hcz109_0
      try clear hcz113_0
      try clear hcz123_0
      try clear hcz130_0
      try clear hcz134_0
      try clear hcz13_0
      try clear hcz140_0
      try clear hcz144_0
      try clear hcz15_0
      try clear hcz22_0
      try clear hcz23_0
      try clear hcz29_0
      try clear hcz36_0
      try clear hcz42_0
      try clear hcz45_0
      try clear hcz50_0
      try clear hcz53_0
      try clear hcz5_0
      try clear hcz68_0
      try clear hcz76_0
      try clear hcz79_0
      try clear hcz84_0
      try clear hcz87_0
      try clear hcz96_0
      try clear hcz98_0
      try clear hfz107_0
      try clear hfz109_0
      try clear hfz113_0
      try clear hfz123_0
      try clear hfz130_0
      try clear hfz134_0
      try clear hfz13_0
      try clear hfz140_0
      try clear hfz144_0
      try clear hfz15_0
      try clear hfz22_0
      try clear hfz23_0
      try clear hfz29_0
      try clear hfz36_0
      try clear hfz42_0
      try clear hfz45_0
      try clear hfz50_0
      try clear hfz53_0
      try clear hfz5_0
      try clear hfz68_0
      try clear hfz76_0
      try clear hfz79_0
      try clear hfz84_0
      try clear hfz87_0
      try clear hfz96_0
      try clear hfz98_0
      try clear p2
      obtain ⟨kq, x87_102, rfl, HA, HJ102, HO_295000, HO_299000, HO_304000, HO_323000, BK285, BK294, BK298, BK303, BK322, HB⟩ := hcut
      have hl304000_102 := (Kd.R_reads' HO_304000.out).1
      rw [hl304000_102] at HO_304000
      (try simp only [hl304000_102])
      (try simp only [hl304000_102] at BK285)
      (try simp only [hl304000_102] at BK294)
      (try simp only [hl304000_102] at BK298)
      (try simp only [hl304000_102] at BK303)
      (try simp only [hl304000_102] at BK322)
      (try simp only [hl304000_102] at HO_295000)
      (try simp only [hl304000_102] at HO_299000)
      (try simp only [hl304000_102] at HO_323000)
      cases kq with
      | zero => exact absurd HA.out (by simp [laws_FnExactReachedTree.j2])
      | succ kj102 =>
       have H := HA.out
       clear HA
       simp only [laws_FnExactReachedTree.j2] at H
       by_cases c146 : x87_102 = true
       ·subst c146
        have H1 : (some false) = some r := by rw [if_pos rfl] at H; exact H
        clear H
        have H := H1
        clear H1
        obtain rfl := Option.some.inj H
        go_wp2
        go_ret
        exact ⟨by first | rfl | (simp [errW_none, errW_some] <;> rfl) | (simp [*, errW_none, errW_some] <;> rfl), by repeat (first | (with_reducible first | exact HB.out | apply below_alloc | apply pw_below_drewN | apply below_drew1 | refine bS9_ ?_ GE285.out | refine bS9_ ?_ GE294.out | refine bS9_ ?_ GE298.out | refine bS9_ ?_ GE303.out | refine bS9_ ?_ GE322.out) | exact HB.out)⟩
       replace c146 := Bool.eq_false_iff.mpr c146
       subst c146
       have H1 : ((laws_heldTree.f kj102 t313 1).bind fun t324 => (if t324 < 0 then (some false) else (if t324 = t312 then (some true) else (some false)))) = some r := by rw [if_neg (show ¬ (false = true) by decide)] at H; exact H
       clear H
       have H := H1
       clear H1
       replace H := Option.bind_eq_some_iff.mp H
       obtain ⟨t324, A1470, H⟩ := H
       replace H : (if t324 < 0 then (some false) else (if t324 = t312 then (some true) else (some false))) = some r := H
       have A147 := aM9_ A1470
       clear A1470
       by_cases c148 : t324 < 0
       ·rw [if_pos c148] at H
        have c148b0 : decide (t324 < 0) = true := decide_eq_true c148
        clear c148
        obtain rfl := Option.some.inj H
        have hnb149 := NB303_285.out
        have hnc149 := NB285_303.out
        have hnb150 := NB303_294.out
        have hnc150 := NB294_303.out
        have hnb151 := NB303_298.out
        have hnc151 := NB298_303.out
        have hnb152 := NB303_322.out
        have hnc152 := NB322_303.out
        have hcz153_0 : wc.cell? ⟨gb303, 0, none⟩ = some (.slice Ao32 t313.length co32) := (kC9_ BK303.out 0).trans rfl
        have hfz153_0 := blk_frozen BK303.out 0
        go_wp2_with (first | ((with_reducible refine gate_callee (f := 19) rfl ?_); refine goesL_ (some 90) rfl rfl Try.func19 (by kernel_rfl) rfl #[.agg #[.slice Ao32 t313.length co32], .int .i64 1] rfl q9x3_ ?_; (with_reducible refine (laws_heldTree.calls kj102 _ _ t313 1 t324 _ ?side1 ?side2 A147.out).mono ?_); (case side1 => repeat (first | exact (Kd.R_reads' HO_304000.out).2.2 | (with_reducible refine Kd.C_alloc ?_ _) | (with_reducible refine Kd.C_drewN ?_ _) | (with_reducible refine Kd.C_drew ?_))); (case side2 => exact (Kd.R_reads' HO_304000.out).2.1); rintro e w154 ⟨rfl, hb⟩; refine ⟨_, rfl, ?_⟩; have n0_ := aM9_ (rB9_ q9x7_ hb); have n1_ := aM9_ (rB9_ q9x8_ hb); have n2_ := aM9_ (rB9_ q9x9_ hb); have n3_ := aM9_ (rB9_ q9x47_ hb); have n4_ := aM9_ (kB9_ (g := gb285) (o := .cells #[.slice A0_0 l0_0.length c0_0] 31 (0, 0)) q9x2_ hb); have n5_ := aM9_ (kB9_ (g := gb294) (o := .cells #[.slice Ao20 t290.length co20] 24 (0, 0)) q9x4_ hb); have n6_ := aM9_ (kB9_ (g := gb298) (o := .cells #[.slice Ao26 t310.length co26] 24 (0, 0)) q9x5_ hb); have n7_ := aM9_ (kB9_ (g := gb303) (o := .cells #[.slice Ao32 t313.length co32] 24 (0, 0)) q9x6_ hb); have n8_ := aM9_ (kB9_ (g := gb322) (o := .cells #[.slice Ao118 t318.length co118] 24 (0, 0)) q9x44_ hb); have n9_ := aM9_ (below_step q9x11_ hb); clear HO_295000; clear HO_299000; clear HO_304000; clear HO_323000; clear BK285; clear BK294; clear BK298; clear BK303; clear BK322; clear HB; have HO_295000 := n0_; have HO_299000 := n1_; have HO_304000 := n2_; have HO_323000 := n3_; have BK285 := n4_; have BK294 := n5_; have BK298 := n6_; have BK303 := n7_; have BK322 := n8_; have HB := n9_; clear n0_ n1_ n2_ n3_ n4_ n5_ n6_ n7_ n8_ n9_; (try clear hb); (try clear hb2); (try clear hk); (try clear hi)))
        go_ret
        exact ⟨by first | rfl | (simp [errW_none, errW_some] <;> rfl) | (simp [*, errW_none, errW_some] <;> rfl), by repeat (first | (with_reducible first | exact HB.out | apply below_alloc | apply pw_below_drewN | apply below_drew1 | refine bS9_ ?_ GE285.out | refine bS9_ ?_ GE294.out | refine bS9_ ?_ GE298.out | refine bS9_ ?_ GE303.out | refine bS9_ ?_ GE322.out) | exact HB.out)⟩
       rw [if_neg c148] at H
       have c148b0 : decide (t324 < 0) = false := decide_eq_false c148
       clear c148
       by_cases c155 : t324 = t312
       ·rw [if_pos c155] at H
        have c155b0 : (t324 == t312) = true := beq_iff_eq.mpr c155
        have c155b1 : (t324 != t312) = false := bne_eq_false_iff_eq.mpr c155
        clear c155
        obtain rfl := Option.some.inj H
        have hnb156 := NB303_285.out
        have hnc156 := NB285_303.out
        have hnb157 := NB303_294.out
        have hnc157 := NB294_303.out
        have hnb158 := NB303_298.out
        have hnc158 := NB298_303.out
        have hnb159 := NB303_322.out
        have hnc159 := NB322_303.out
        have hcz160_0 : wc.cell? ⟨gb303, 0, none⟩ = some (.slice Ao32 t313.length co32) := (kC9_ BK303.out 0).trans rfl
        have hfz160_0 := blk_frozen BK303.out 0
        go_wp2_with (first | ((with_reducible refine gate_callee (f := 19) rfl ?_); refine goesL_ (some 90) rfl rfl Try.func19 (by kernel_rfl) rfl #[.agg #[.slice Ao32 t313.length co32], .int .i64 1] rfl q9x3_ ?_; (with_reducible refine (laws_heldTree.calls kj102 _ _ t313 1 t324 _ ?side1 ?side2 A147.out).mono ?_); (case side1 => repeat (first | exact (Kd.R_reads' HO_304000.out).2.2 | (with_reducible refine Kd.C_alloc ?_ _) | (with_reducible refine Kd.C_drewN ?_ _) | (with_reducible refine Kd.C_drew ?_))); (case side2 => exact (Kd.R_reads' HO_304000.out).2.1); rintro e w161 ⟨rfl, hb⟩; refine ⟨_, rfl, ?_⟩; have n0_ := aM9_ (rB9_ q9x7_ hb); have n1_ := aM9_ (rB9_ q9x8_ hb); have n2_ := aM9_ (rB9_ q9x9_ hb); have n3_ := aM9_ (rB9_ q9x47_ hb); have n4_ := aM9_ (kB9_ (g := gb285) (o := .cells #[.slice A0_0 l0_0.length c0_0] 31 (0, 0)) q9x2_ hb); have n5_ := aM9_ (kB9_ (g := gb294) (o := .cells #[.slice Ao20 t290.length co20] 24 (0, 0)) q9x4_ hb); have n6_ := aM9_ (kB9_ (g := gb298) (o := .cells #[.slice Ao26 t310.length co26] 24 (0, 0)) q9x5_ hb); have n7_ := aM9_ (kB9_ (g := gb303) (o := .cells #[.slice Ao32 t313.length co32] 24 (0, 0)) q9x6_ hb); have n8_ := aM9_ (kB9_ (g := gb322) (o := .cells #[.slice Ao118 t318.length co118] 24 (0, 0)) q9x44_ hb); have n9_ := aM9_ (below_step q9x11_ hb); clear HO_295000; clear HO_299000; clear HO_304000; clear HO_323000; clear BK285; clear BK294; clear BK298; clear BK303; clear BK322; clear HB; have HO_295000 := n0_; have HO_299000 := n1_; have HO_304000 := n2_; have HO_323000 := n3_; have BK285 := n4_; have BK294 := n5_; have BK298 := n6_; have BK303 := n7_; have BK322 := n8_; have HB := n9_; clear n0_ n1_ n2_ n3_ n4_ n5_ n6_ n7_ n8_ n9_; (try clear hb); (try clear hb2); (try clear hk); (try clear hi)))
        go_ret
        exact ⟨by first | rfl | (simp [errW_none, errW_some] <;> rfl) | (simp [*, errW_none, errW_some] <;> rfl), by repeat (first | (with_reducible first | exact HB.out | apply below_alloc | apply pw_below_drewN | apply below_drew1 | refine bS9_ ?_ GE285.out | refine bS9_ ?_ GE294.out | refine bS9_ ?_ GE298.out | refine bS9_ ?_ GE303.out | refine bS9_ ?_ GE322.out) | exact HB.out)⟩
       rw [if_neg c155] at H
       have c155b0 : (t324 == t312) = false := beq_eq_false_iff_ne.mpr c155
       have c155b1 : (t324 != t312) = true := bne_iff_ne.mpr c155
       obtain rfl := Option.some.inj H
       have hnb162 := NB303_285.out
       have hnc162 := NB285_303.out
       have hnb163 := NB303_294.out
       have hnc163 := NB294_303.out
       have hnb164 := NB303_298.out
       have hnc164 := NB298_303.out
       have hnb165 := NB303_322.out
       have hnc165 := NB322_303.out
       have hcz166_0 : wc.cell? ⟨gb303, 0, none⟩ = some (.slice Ao32 t313.length co32) := (kC9_ BK303.out 0).trans rfl
       have hfz166_0 := blk_frozen BK303.out 0
       go_wp2_with (first | ((with_reducible refine gate_callee (f := 19) rfl ?_); refine goesL_ (some 90) rfl rfl Try.func19 (by kernel_rfl) rfl #[.agg #[.slice Ao32 t313.length co32], .int .i64 1] rfl q9x3_ ?_; (with_reducible refine (laws_heldTree.calls kj102 _ _ t313 1 t324 _ ?side1 ?side2 A147.out).mono ?_); (case side1 => repeat (first | exact (Kd.R_reads' HO_304000.out).2.2 | (with_reducible refine Kd.C_alloc ?_ _) | (with_reducible refine Kd.C_drewN ?_ _) | (with_reducible refine Kd.C_drew ?_))); (case side2 => exact (Kd.R_reads' HO_304000.out).2.1); rintro e w167 ⟨rfl, hb⟩; refine ⟨_, rfl, ?_⟩; have n0_ := aM9_ (rB9_ q9x7_ hb); have n1_ := aM9_ (rB9_ q9x8_ hb); have n2_ := aM9_ (rB9_ q9x9_ hb); have n3_ := aM9_ (rB9_ q9x47_ hb); have n4_ := aM9_ (kB9_ (g := gb285) (o := .cells #[.slice A0_0 l0_0.length c0_0] 31 (0, 0)) q9x2_ hb); have n5_ := aM9_ (kB9_ (g := gb294) (o := .cells #[.slice Ao20 t290.length co20] 24 (0, 0)) q9x4_ hb); have n6_ := aM9_ (kB9_ (g := gb298) (o := .cells #[.slice Ao26 t310.length co26] 24 (0, 0)) q9x5_ hb); have n7_ := aM9_ (kB9_ (g := gb303) (o := .cells #[.slice Ao32 t313.length co32] 24 (0, 0)) q9x6_ hb); have n8_ := aM9_ (kB9_ (g := gb322) (o := .cells #[.slice Ao118 t318.length co118] 24 (0, 0)) q9x44_ hb); have n9_ := aM9_ (below_step q9x11_ hb); clear HO_295000; clear HO_299000; clear HO_304000; clear HO_323000; clear BK285; clear BK294; clear BK298; clear BK303; clear BK322; clear HB; have HO_295000 := n0_; have HO_299000 := n1_; have HO_304000 := n2_; have HO_323000 := n3_; have BK285 := n4_; have BK294 := n5_; have BK298 := n6_; have BK303 := n7_; have BK322 := n8_; have HB := n9_; clear n0_ n1_ n2_ n3_ n4_ n5_ n6_ n7_ n8_ n9_; (try clear hb); (try clear hb2); (try clear hk); (try clear hi)))
       go_ret
       exact ⟨by first | rfl | (simp [errW_none, errW_some] <;> rfl) | (simp [*, errW_none, errW_some] <;> rfl), by repeat (first | (with_reducible first | exact HB.out | apply below_alloc | apply pw_below_drewN | apply below_drew1 | refine bS9_ ?_ GE285.out | refine bS9_ ?_ GE294.out | refine bS9_ ?_ GE298.out | refine bS9_ ?_ GE303.out | refine bS9_ ?_ GE322.out) | exact HB.out)⟩
/-! ### the law's arguments -/
def WF75 (x : S75) : Prop := ((-32768) ≤ x.f0 ∧ x.f0 ≤ 32767) ∧ ((-32768) ≤ x.f1 ∧ x.f1 ≤ 32767) ∧ ((-32768) ≤ x.f2 ∧ x.f2 ≤ 32767)
set_option maxRecDepth 100000 in
theorem op75 {H : Type} {enc : TypeId × Value → H} {w : World} : Opens enc Try.prog w 75 k75 WF75 := by
 intro fuel cs x h hz
 obtain ⟨xs, m, rfl, rfl, hl, hn, hf⟩ := DataW.trod_array Try.underlying75 h
 have hl0 : cs.length = 3 := hl.trans (by kernel_rfl)
 have hn0 : xs.length = 3 := hn
 obtain ⟨x0, xs0, rfl, hn1⟩ := consX_of hn0
 obtain ⟨x1, xs1, rfl, hn2⟩ := consX_of hn1
 obtain ⟨x2, xs2, rfl, hn3⟩ := consX_of hn2
 obtain rfl := List.eq_nil_of_length_eq_zero hn3
 obtain ⟨c0, cs0, rfl, hl1⟩ := cons_of hl0
 obtain ⟨c1, cs1, rfl, hl2⟩ := cons_of hl1
 obtain ⟨c2, cs2, rfl, hl3⟩ := cons_of hl2
 obtain rfl := List.eq_nil_of_length_eq_zero hl3
 have h0 : DataW.trod enc Try.prog w 0 (fun _ => true) true m 74 [c0] = some x0 := by
  have h_ := hf 0 (by omega)
  rw [show Try.prog.cellsOf 74 = 1 from by kernel_rfl] at h_
  exact h_
 obtain ⟨a0, hk0, hw0⟩ := (opens_int Try.underlying74 wfB_i16) _ _ _ h0 (weight_array Try.underlying75 hz (j := 0) rfl)
 have h1 : DataW.trod enc Try.prog w 0 (fun _ => true) true m 74 [c1] = some x1 := by
  have h_ := hf 1 (by omega)
  rw [show Try.prog.cellsOf 74 = 1 from by kernel_rfl] at h_
  exact h_
 obtain ⟨a1, hk1, hw1⟩ := (opens_int Try.underlying74 wfB_i16) _ _ _ h1 (weight_array Try.underlying75 hz (j := 1) rfl)
 have h2 : DataW.trod enc Try.prog w 0 (fun _ => true) true m 74 [c2] = some x2 := by
  have h_ := hf 2 (by omega)
  rw [show Try.prog.cellsOf 74 = 1 from by kernel_rfl] at h_
  exact h_
 obtain ⟨a2, hk2, hw2⟩ := (opens_int Try.underlying74 wfB_i16) _ _ _ h2 (weight_array Try.underlying75 hz (j := 2) rfl)
 exact ⟨⟨a0, a1, a2⟩, ⟨[c0], [c1, c2], rfl, hk0, ⟨[c1], [c2], rfl, hk1, hk2⟩⟩, ⟨hw0, hw1, hw2⟩⟩
def WF129 (x : S129) : Prop := ((-128) ≤ x.f0 ∧ x.f0 ≤ 127) ∧ ((-128) ≤ x.f1 ∧ x.f1 ≤ 127) ∧ (WF75 x.f2)
set_option maxRecDepth 100000 in
theorem op129 {H : Type} {enc : TypeId × Value → H} {w : World} : Opens enc Try.prog w 129 k129 WF129 := by
 intro fuel cs x h hz
 obtain ⟨xs, m, rfl, rfl, hl, hn, hf⟩ := DataW.trod_struct Try.underlying129 h
 have hl0 : cs.length = 5 := hl.trans (by kernel_rfl)
 have hn0 : xs.length = 3 := hn
 obtain ⟨x0, xs0, rfl, hn1⟩ := consX_of hn0
 obtain ⟨x1, xs1, rfl, hn2⟩ := consX_of hn1
 obtain ⟨x2, xs2, rfl, hn3⟩ := consX_of hn2
 obtain rfl := List.eq_nil_of_length_eq_zero hn3
 obtain ⟨c0, cs0, rfl, hl1⟩ := cons_of hl0
 obtain ⟨c1, cs1, rfl, hl2⟩ := cons_of hl1
 obtain ⟨c2, cs2, rfl, hl3⟩ := cons_of hl2
 obtain ⟨c3, cs3, rfl, hl4⟩ := cons_of hl3
 obtain ⟨c4, cs4, rfl, hl5⟩ := cons_of hl4
 obtain rfl := List.eq_nil_of_length_eq_zero hl5
 have h0 : DataW.trod enc Try.prog w 0 (fun _ => true) true m 73 [c0] = some x0 := by
  have h_ : DataW.trod enc Try.prog w 0 (fun _ => true) true m 73 (([c0, c1, c2, c3, c4].drop 0).take (Try.prog.cellsOf 73)) = [x0, x1, x2][0]? := by
   have h2_ := hf 0 _ rfl
   exact h2_
  rw [show Try.prog.cellsOf 73 = 1 from by kernel_rfl] at h_
  exact h_
 obtain ⟨a0, hk0, hw0⟩ := (opens_int Try.underlying73 wfB_i8) _ _ _ h0 (weight_struct Try.underlying129 hz (j := 0) rfl rfl)
 have h1 : DataW.trod enc Try.prog w 0 (fun _ => true) true m 73 [c1] = some x1 := by
  have h_ : DataW.trod enc Try.prog w 0 (fun _ => true) true m 73 (([c0, c1, c2, c3, c4].drop 1).take (Try.prog.cellsOf 73)) = [x0, x1, x2][1]? := by
   have h2_ := hf 1 _ rfl
   exact h2_
  rw [show Try.prog.cellsOf 73 = 1 from by kernel_rfl] at h_
  exact h_
 obtain ⟨a1, hk1, hw1⟩ := (opens_int Try.underlying73 wfB_i8) _ _ _ h1 (weight_struct Try.underlying129 hz (j := 1) rfl rfl)
 have h2 : DataW.trod enc Try.prog w 0 (fun _ => true) true m 75 [c2, c3, c4] = some x2 := by
  have h_ : DataW.trod enc Try.prog w 0 (fun _ => true) true m 75 (([c0, c1, c2, c3, c4].drop 2).take (Try.prog.cellsOf 75)) = [x0, x1, x2][2]? := by
   have h2_ := hf 2 _ rfl
   exact h2_
  rw [show Try.prog.cellsOf 75 = 3 from by kernel_rfl] at h_
  exact h_
 obtain ⟨a2, hk2, hw2⟩ := op75 _ _ _ h2 (weight_struct Try.underlying129 hz (j := 2) rfl rfl)
 exact ⟨⟨a0, a1, a2⟩, ⟨[c0], [c1, c2, c3, c4], rfl, hk0, ⟨[c1], [c2, c3, c4], rfl, hk1, hk2⟩⟩, ⟨hw0, hw1, hw2⟩⟩
def WF31 (x : S31) : Prop := (x.f0.length * 8 ≤ 140737488351232 ∧ ∀ z_ ∈ x.f0, WF129 z_)
set_option maxRecDepth 100000 in
theorem op31 {H : Type} {enc : TypeId × Value → H} {w : World} : Opens enc Try.prog w 31 k31 WF31 := by
 intro fuel cs x h hz
 obtain ⟨xs, m, rfl, rfl, hl, hn, hf⟩ := DataW.trod_struct Try.underlying31 h
 have hl0 : cs.length = 1 := hl.trans (by kernel_rfl)
 have hn0 : xs.length = 1 := hn
 obtain ⟨x0, xs0, rfl, hn1⟩ := consX_of hn0
 obtain rfl := List.eq_nil_of_length_eq_zero hn1
 obtain ⟨c0, cs0, rfl, hl1⟩ := cons_of hl0
 obtain rfl := List.eq_nil_of_length_eq_zero hl1
 have h0 : DataW.trod enc Try.prog w 0 (fun _ => true) true m 29 [c0] = some x0 := by
  have h_ : DataW.trod enc Try.prog w 0 (fun _ => true) true m 29 (([c0].drop 0).take (Try.prog.cellsOf 29)) = [x0][0]? := by
   have h2_ := hf 0 _ rfl
   exact h2_
  rw [show Try.prog.cellsOf 29 = 1 from by kernel_rfl] at h_
  exact h_
 obtain ⟨a0, hk0, hw0⟩ := (opens_slice Try.underlying29 (by kernel_rfl) (by kernel_rfl) op129) _ _ _ h0 (weight_struct Try.underlying31 hz (j := 0) rfl rfl)
 exact ⟨⟨a0⟩, hk0, hw0⟩
/-- THE ONE PURE STATEMENT of laws_FnExactReachedTree. -/
def laws_FnExactReachedTree.Pure : Prop := ∀ (x0 : S31), (WF31 x0) → ∃ k, laws_FnExactReachedTree.f k x0.f0 = some true
theorem laws_FnExactReachedTree.walk (P_ : laws_FnExactReachedTree.Pure) (w : World) (x0 : S31) (A0_0 : Option Addr) (c0_0 : Nat) (hr0_0 : Kd.C k129 w A0_0 x0.f0.length x0.f0) (hc0_0 : x0.f0.length ≤ c0_0) (hw0 : WF31 x0) :
  Calls Try.prog 9 #[.agg #[.slice A0_0 x0.f0.length c0_0]] w fun e w' => e = .returned (.bool true) ∧ Below w.heap.size w w' := by
 obtain ⟨k, h⟩ := P_ x0 hw0
 refine (laws_FnExactReachedTree.calls k _ _ x0.f0 true w hr0_0 hc0_0 h).mono ?_
 rintro e w' ⟨rfl, hd⟩
 exact ⟨rfl, hd⟩

end Go.Proofs.Ytlccefmimpmgjaa.MFnExactReachedTree
