/- Functions of the program as Lean functions, and the proof that the code comes to what they say. Written by a program of this session (myprint.py). -/
import Derived.Test.YtfenifdigjcmiaaMFnExactStreamTreex0
import Derived.Test.YtfenifdigjcmiaaMFnExactStreamTreex1
import Derived.Test.YtfenifdigjcmiaaMFnExactStreamTreex2
import Derived.Test.YtfenifdigjcmiaaMFnExactStreamTreex3
import Derived.Test.YtfenifdigjcmiaaMFnExactStreamTreex4
import Derived.Test.YtfenifdigjcmiaaMFnExactStreamTreex5
namespace Go.Proofs.Ytfenifdigjcmiaa.MFnExactStreamTree
open Go.RowKit Go.Proofs.Ytfenifdigjcmiaa.MOpen Go.Proofs.YtfenifdigjcmiaaW.PrintWords Go.Proofs.YtfenifdigjcmiaaW.PrintLast Go.Proofs.YtfenifdigjcmiaaW.PrintMore
attribute [local go_sem] max2_int min2_int max_two min_two max_three min_three max_four min_four   -- for this text's walks alone
set_option linter.unusedVariables false
set_option linter.unusedSimpArgs false

set_option linter.defProp false
def rA10_ := @Kd.R_alloc
def rN10_ := @Kd.R_drewN
def rD10_ := @Kd.R_drew
def kA10_ := @blk_alloc
def kN10_ := @blk_drewN
def kD10_ := @blk_drew
def bS10_ := @below_set
def aM10_ := @Aside0.mk
def rB10_ := @Kd.R_below
def kB10_ := @blk_below
def kC10_ := @blk_cell
theorem q10x1_ {P : Prop} (h : P := by repeat (first | (with_reducible first | exact HB.out | apply below_alloc | apply pw_below_drewN | apply below_drew1 | refine bS10_ ?_ GE218.out | refine bS10_ ?_ GE230.out | refine bS10_ ?_ GE237.out | refine bS10_ ?_ GE242.out) | exact HB.out)) : P := h
theorem q10x2_ {P : Prop} (h : P := by (with_reducible repeat (first | refine kN10_ ?_ _ | refine kD10_ ?_ | refine kA10_ ?_ _)); exact BK218.out) : P := h
theorem q10x3_ {P : Prop} (h : P := by (with_reducible repeat (first | refine kN10_ ?_ _ | refine kD10_ ?_ | refine kA10_ ?_ _)); exact BK230.out) : P := h
theorem q10x4_ {P : Prop} (h : P := by (try simp only [List.map_toArray, List.map_cons, List.map_nil]); first | done | rfl | (simp only [List.length_drop, List.length_take]; rfl)) : P := h
theorem q10x5_ {P : Prop} (h : P := by (with_reducible repeat (first | refine kN10_ ?_ _ | refine kD10_ ?_ | refine kA10_ ?_ _)); exact BK237.out) : P := h
theorem q10x6_ {P : Prop} (h : P := by (with_reducible repeat (first | refine kN10_ ?_ _ | refine kD10_ ?_ | refine kA10_ ?_ _)); exact BK242.out) : P := h
theorem q10x7_ {P : Prop} (h : P := by (with_reducible repeat (first | apply rA10_ | apply rN10_ | apply rD10_)); exact HO_238000.out) : P := h
theorem q10x8_ {P : Prop} (h : P := by (with_reducible repeat (first | apply rA10_ | apply rN10_ | apply rD10_)); exact HO_238001.out) : P := h
theorem q10x9_ {P : Prop} (h : P := by (with_reducible repeat (first | apply rA10_ | apply rN10_ | apply rD10_)); exact HO_231000.out) : P := h
theorem q10x10_ {P : Prop} (h : P := by (with_reducible repeat (first | apply rA10_ | apply rN10_ | apply rD10_)); exact HO_243000.out) : P := h
theorem q10x11_ {P : Prop} (h : P := by repeat (first | (with_reducible first | exact HB.out | apply below_alloc | apply pw_below_drewN | apply below_drew1 | refine bS10_ ?_ GE218.out) | exact HB.out)) : P := h
theorem q10x12_ {P : Prop} (h : P := by repeat (first | (with_reducible first | exact HB.out | apply below_alloc | apply pw_below_drewN | apply below_drew1 | refine bS10_ ?_ GE218.out | refine bS10_ ?_ GE230.out) | exact HB.out)) : P := h
theorem q10x13_ {P : Prop} (h : P := by repeat (first | (with_reducible first | exact HB.out | apply below_alloc | apply pw_below_drewN | apply below_drew1 | refine bS10_ ?_ GE218.out | refine bS10_ ?_ GE230.out | refine bS10_ ?_ GE237.out | refine bS10_ ?_ GE242.out | refine bS10_ ?_ GE268.out) | exact HB.out)) : P := h
theorem q10x14_ {P : Prop} (h : P := by repeat (first | (with_reducible first | exact HB.out | apply below_alloc | apply pw_below_drewN | apply below_drew1 | refine bS10_ ?_ GE218.out | refine bS10_ ?_ GE230.out | refine bS10_ ?_ GE237.out) | exact HB.out)) : P := h
theorem q10x15_ {P : Prop} (h : P := by (with_reducible repeat (first | apply rA10_ | apply rN10_ | apply rD10_)); exact (Kd.R_mono (Kd.R_far (p := ⟨gb268, 0, none⟩) (Kd.R_types HO_231000.out BK268.out (by decide)) (fun _ hk => hk.2) (.slice Ao124 t264.length co124)) (fun _ h_ => h_.1))) : P := h
theorem q10x16_ {P : Prop} (h : P := by (with_reducible repeat (first | apply rA10_ | apply rN10_ | apply rD10_)); exact (Kd.R_mono (Kd.R_far (p := ⟨gb268, 0, none⟩) (Kd.R_types HO266.out BK268.out (by decide)) (fun _ hk => hk.2) (.slice Ao124 t264.length co124)) (fun _ h_ => h_.1))) : P := h
theorem q10x17_ {P : Prop} (h : P := by (with_reducible repeat (first | apply rA10_ | apply rN10_ | apply rD10_)); exact (Kd.R_mono (Kd.R_far (p := ⟨gb242, 0, none⟩) (Kd.R_types HO240.out BK242.out (by decide)) (fun _ hk => hk.2) (.slice Ao36 t238.length co36)) (fun _ h_ => h_.1))) : P := h
theorem q10x18_ {P : Prop} (h : P := by (with_reducible repeat (first | apply rA10_ | apply rN10_ | apply rD10_)); exact (Kd.R_mono (Kd.R_far (p := ⟨gb242, 0, none⟩) (Kd.R_types HO228.out BK242.out (by decide)) (fun _ hk => hk.2) (.slice Ao36 t238.length co36)) (fun _ h_ => h_.1))) : P := h
theorem q10x19_ {P : Prop} (h : P := by repeat (first | (with_reducible first | exact HB.out | apply below_alloc | apply pw_below_drewN | apply below_drew1) | exact HB.out)) : P := h
theorem q10x20_ {P : Prop} (h : P := by (with_reducible repeat (first | apply rA10_ | apply rN10_ | apply rD10_)); exact (Kd.R_mono (Kd.R_far (p := ⟨gb230, 0, none⟩) (Kd.R_types HO222.out BK230.out (by decide)) (fun _ hk => hk.2) (.slice Ao21 t226.length co21)) (fun _ h_ => h_.1))) : P := h
theorem q10x21_ {P : Prop} (h : P := by (with_reducible repeat (first | apply rA10_ | apply rN10_ | apply rD10_)); exact (Kd.R_mono (Kd.R_far (p := ⟨gb230, 0, none⟩) (Kd.R_types HO225.out BK230.out (by decide)) (fun _ hk => hk.2) (.slice Ao21 t226.length co21)) (fun _ h_ => h_.1))) : P := h
theorem q10x22_ {P : Prop} (h : P := by (try simp only [List.map_toArray, List.map_cons, List.map_nil]); first | done | (rw [show t256.length = t238.length from (Kd.R_reads' HO_243000.out).1.symm] <;> rfl) | rfl | (simp only [List.length_drop, List.length_take]; rfl)) : P := h
theorem q10x23_ {P : Prop} (h : P := by rw [hg]; exact Nat.ne_of_lt (blk_lt (g := gb218) (o := .cells #[.slice A0_0 l0_0.length c0_0, .slice A0_1 l0_1.length c0_1] 32 (0, 0)) q10x2_)) : P := h
theorem q10x24_ {P : Prop} (h : P := by rw [hg]; exact Nat.ne_of_gt (blk_lt (g := gb218) (o := .cells #[.slice A0_0 l0_0.length c0_0, .slice A0_1 l0_1.length c0_1] 32 (0, 0)) q10x2_)) : P := h
theorem q10x25_ {P : Prop} (h : P := by (with_reducible repeat (first | apply rA10_ | apply rN10_ | apply rD10_)); exact HO222.out) : P := h
theorem q10x26_ {P : Prop} (h : P := by (with_reducible repeat (first | apply rA10_ | apply rN10_ | apply rD10_)); exact HO225.out) : P := h
theorem q10x27_ {P : Prop} (h : P := by (with_reducible repeat (first | apply rA10_ | apply rN10_ | apply rD10_)); exact HO228.out) : P := h
theorem q10x28_ {P : Prop} (h : P := by (with_reducible repeat (first | apply rA10_ | apply rN10_ | apply rD10_)); exact HO246.out) : P := h
theorem q10x29_ {P : Prop} (h : P := by (with_reducible repeat (first | apply rA10_ | apply rN10_ | apply rD10_)); exact HO249.out) : P := h
theorem q10x30_ {P : Prop} (h : P := by (with_reducible repeat (first | refine kN10_ ?_ _ | refine kD10_ ?_ | refine kA10_ ?_ _)); refine blk_put (cs := #[.slice none 0 0]) ?_ 0 _ rfl; (with_reducible repeat (first | refine kN10_ ?_ _ | refine kD10_ ?_ | refine kA10_ ?_ _)); exact BK242.out) : P := h
theorem q10x31_ {P : Prop} (h : P := by (with_reducible repeat (first | refine kN10_ ?_ _ | refine kD10_ ?_ | refine kA10_ ?_ _)); refine blk_put (cs := #[.slice none 0 0]) ?_ 0 _ rfl; (with_reducible repeat (first | refine kN10_ ?_ _ | refine kD10_ ?_ | refine kA10_ ?_ _)); exact BK268.out) : P := h
theorem q10x32_ {P : Prop} (h : P := by first | rfl | (simp; done) | (simp [*]; done)) : P := h
theorem q10x33_ {P : Prop} (h : P := by (with_reducible repeat (first | apply rA10_ | apply rN10_ | apply rD10_)); exact (Kd.R_mono (Kd.R_far (p := ⟨gb268, 0, none⟩) (Kd.R_types HO_238000.out BK268.out (by decide)) (fun _ hk => hk.2) (.slice Ao124 t264.length co124)) (fun _ h_ => h_.1))) : P := h
theorem q10x34_ {P : Prop} (h : P := by (with_reducible repeat (first | apply rA10_ | apply rN10_ | apply rD10_)); exact (Kd.R_mono (Kd.R_far (p := ⟨gb268, 0, none⟩) (Kd.R_types HO_238001.out BK268.out (by decide)) (fun _ hk => hk.2) (.slice Ao124 t264.length co124)) (fun _ h_ => h_.1))) : P := h
theorem q10x35_ {P : Prop} (h : P := by (with_reducible repeat (first | apply rA10_ | apply rN10_ | apply rD10_)); exact (Kd.R_mono (Kd.R_far (p := ⟨gb268, 0, none⟩) (Kd.R_types HO_243000.out BK268.out (by decide)) (fun _ hk => hk.2) (.slice Ao124 t264.length co124)) (fun _ h_ => h_.1))) : P := h
theorem q10x36_ {P : Prop} (h : P := by (with_reducible repeat (first | apply rA10_ | apply rN10_ | apply rD10_)); exact (Kd.R_mono (Kd.R_far (p := ⟨gb268, 0, none⟩) (Kd.R_types HO260.out BK268.out (by decide)) (fun _ hk => hk.2) (.slice Ao124 t264.length co124)) (fun _ h_ => h_.1))) : P := h
theorem q10x37_ {P : Prop} (h : P := by (with_reducible repeat (first | apply rA10_ | apply rN10_ | apply rD10_)); exact (Kd.R_mono (Kd.R_far (p := ⟨gb268, 0, none⟩) (Kd.R_types HO263.out BK268.out (by decide)) (fun _ hk => hk.2) (.slice Ao124 t264.length co124)) (fun _ h_ => h_.1))) : P := h
theorem q10x38_ {P : Prop} (h : P := by (with_reducible repeat (first | apply rA10_ | apply rN10_ | apply rD10_)); exact (Kd.R_mono (Kd.R_far (p := ⟨gb242, 0, none⟩) (Kd.R_types HO222.out BK242.out (by decide)) (fun _ hk => hk.2) (.slice Ao36 t238.length co36)) (fun _ h_ => h_.1))) : P := h
theorem q10x39_ {P : Prop} (h : P := by (with_reducible repeat (first | apply rA10_ | apply rN10_ | apply rD10_)); exact (Kd.R_mono (Kd.R_far (p := ⟨gb242, 0, none⟩) (Kd.R_types HO225.out BK242.out (by decide)) (fun _ hk => hk.2) (.slice Ao36 t238.length co36)) (fun _ h_ => h_.1))) : P := h
theorem q10x40_ {P : Prop} (h : P := by (with_reducible repeat (first | apply rA10_ | apply rN10_ | apply rD10_)); exact (Kd.R_mono (Kd.R_far (p := ⟨gb242, 0, none⟩) (Kd.R_types HO233.out BK242.out (by decide)) (fun _ hk => hk.2) (.slice Ao36 t238.length co36)) (fun _ h_ => h_.1))) : P := h
theorem q10x41_ {P : Prop} (h : P := by (with_reducible repeat (first | apply rA10_ | apply rN10_ | apply rD10_)); exact (Kd.R_mono (Kd.R_far (p := ⟨gb242, 0, none⟩) (Kd.R_types HO236.out BK242.out (by decide)) (fun _ hk => hk.2) (.slice Ao36 t238.length co36)) (fun _ h_ => h_.1))) : P := h
theorem q10x42_ {P : Prop} (h : P := by (with_reducible repeat (first | refine kN10_ ?_ _ | refine kD10_ ?_ | refine kA10_ ?_ _)); refine blk_far ?_ NB218_242.out _; (with_reducible repeat (first | refine kN10_ ?_ _ | refine kD10_ ?_ | refine kA10_ ?_ _)); exact BK218.out) : P := h
theorem q10x43_ {P : Prop} (h : P := by (with_reducible repeat (first | refine kN10_ ?_ _ | refine kD10_ ?_ | refine kA10_ ?_ _)); refine blk_far ?_ NB230_242.out _; (with_reducible repeat (first | refine kN10_ ?_ _ | refine kD10_ ?_ | refine kA10_ ?_ _)); exact BK230.out) : P := h
theorem q10x44_ {P : Prop} (h : P := by (with_reducible repeat (first | refine kN10_ ?_ _ | refine kD10_ ?_ | refine kA10_ ?_ _)); refine blk_far ?_ NB237_242.out _; (with_reducible repeat (first | refine kN10_ ?_ _ | refine kD10_ ?_ | refine kA10_ ?_ _)); exact BK237.out) : P := h
theorem q10x45_ {P : Prop} (h : P := by (with_reducible repeat (first | refine kN10_ ?_ _ | refine kD10_ ?_ | refine kA10_ ?_ _)); refine blk_far ?_ NB218_268.out _; (with_reducible repeat (first | refine kN10_ ?_ _ | refine kD10_ ?_ | refine kA10_ ?_ _)); exact BK218.out) : P := h
theorem q10x46_ {P : Prop} (h : P := by (with_reducible repeat (first | refine kN10_ ?_ _ | refine kD10_ ?_ | refine kA10_ ?_ _)); refine blk_far ?_ NB230_268.out _; (with_reducible repeat (first | refine kN10_ ?_ _ | refine kD10_ ?_ | refine kA10_ ?_ _)); exact BK230.out) : P := h
theorem q10x47_ {P : Prop} (h : P := by (with_reducible repeat (first | refine kN10_ ?_ _ | refine kD10_ ?_ | refine kA10_ ?_ _)); refine blk_far ?_ NB237_268.out _; (with_reducible repeat (first | refine kN10_ ?_ _ | refine kD10_ ?_ | refine kA10_ ?_ _)); exact BK237.out) : P := h
theorem q10x48_ {P : Prop} (h : P := by (with_reducible repeat (first | refine kN10_ ?_ _ | refine kD10_ ?_ | refine kA10_ ?_ _)); refine blk_far ?_ NB242_268.out _; (with_reducible repeat (first | refine kN10_ ?_ _ | refine kD10_ ?_ | refine kA10_ ?_ _)); exact BK242.out) : P := h
theorem q10x49_ {P : Prop} (h : P := by (with_reducible repeat (first | refine kN10_ ?_ _ | refine kD10_ ?_ | refine kA10_ ?_ _)); exact BK268.out) : P := h
theorem q10x50_ {P : Prop} (h : P := by rw [hg]; exact Nat.ne_of_lt (blk_lt (g := gb230) (o := .cells #[.slice Ao21 t226.length co21] 55 (0, 0)) q10x3_)) : P := h
theorem q10x51_ {P : Prop} (h : P := by rw [hg]; exact Nat.ne_of_gt (blk_lt (g := gb230) (o := .cells #[.slice Ao21 t226.length co21] 55 (0, 0)) q10x3_)) : P := h
theorem q10x52_ {P : Prop} (h : P := by (with_reducible repeat (first | apply rA10_ | apply rN10_ | apply rD10_)); exact HO_269000.out) : P := h
theorem q10x53_ {P : Prop} (h : P := by (with_reducible repeat (first | apply rA10_ | apply rN10_ | apply rD10_)); exact HO233.out) : P := h
theorem q10x54_ {P : Prop} (h : P := by (with_reducible repeat (first | apply rA10_ | apply rN10_ | apply rD10_)); exact HO236.out) : P := h
theorem q10x55_ {P : Prop} (h : P := by simp only [Act.put, List.setIfInBounds_toArray, List.set_cons_zero, List.set_cons_succ, i64_w, i32_w]; rfl) : P := h
/-! ### laws_FnExactStreamTree: function 10 -/
mutual
def laws_FnExactStreamTree.j0 : Nat → Int → Int → Bool → List Int → List Int → List (S104) → List Int → List Int → List (S104) → Option (Bool)
 | 0, _, _, _, _, _, _, _, _, _ => none
 | k + 1, x5, x8, x40, x219000, x219001, x231000, x238000, x238001, x243000 => if x40 = true then (some false) else ((laws_toStream.f k x219000 x219001).bind fun bt244 => ((laws_eqStream.f k x238000 x238001 bt244.1 bt244.2).bind fun t250 => (if t250 = true then ((laws_markStream.f k x238000 x238001 1).bind fun bt251 => (if bt251.1 < 0 then (laws_FnExactStreamTree.j1 k x5 true x219000 x219001 x231000 x243000) else ((laws_eqTree.f k x243000 x231000).bind fun t254 => (if t254 = true then (laws_FnExactStreamTree.j1 k x5 (x8 != x5) x219000 x219001 x231000 x243000) else (laws_FnExactStreamTree.j1 k x5 true x219000 x219001 x231000 x243000))))) else (some false))))
def laws_FnExactStreamTree.j1 : Nat → Int → Bool → List Int → List Int → List (S104) → List (S104) → Option (Bool)
 | 0, _, _, _, _, _, _ => none
 | k + 1, x5, x61, x219000, x219001, x231000, x243000 => if x61 = true then (some false) else ((laws_markTree.f k x243000 1).bind fun bt255 => ((laws_heldTree.f k bt255.2 1).bind fun t257 => (if t257 < 0 then (some false) else (if t257 = bt255.1 then ((laws_toStream.f k x219000 x219001).bind fun bt258 => ((impl_StreamTree.f k bt258.1 bt258.2).bind fun bt264 => ((laws_eqTree.f k bt264.1 x231000).bind fun t269 => (if t269 = true then (laws_FnExactStreamTree.j2 k bt255.1 (bt264.2 != x5) bt255.2) else (laws_FnExactStreamTree.j2 k bt255.1 true bt255.2))))) else (some false)))))
def laws_FnExactStreamTree.j2 : Nat → Int → Bool → List (S104) → Option (Bool)
 | 0, _, _, _ => none
 | k + 1, x10, x87, x243000 => if x87 = true then (some false) else ((laws_heldTree.f k x243000 1).bind fun t270 => (if t270 < 0 then (some false) else (if t270 = x10 then (some true) else (some false))))
end
def laws_FnExactStreamTree.f (k : Nat) (l0_0 : List Int) (l0_1 : List Int) : Option (Bool) := (laws_szStream.f l0_0 l0_1 1048576).bind fun t219 => (if t219 < 0 then (some true) else ((laws_toStream.f k l0_0 l0_1).bind fun bt220 => ((spec_StreamTree.f k bt220.1 bt220.2).bind fun bt226 => ((laws_toStream.f k l0_0 l0_1).bind fun bt231 => ((impl_StreamTree.f k bt231.1 bt231.2).bind fun bt238 => ((laws_eqTree.f k bt238.1 bt226.1).bind fun t243 => (if t243 = true then (laws_FnExactStreamTree.j0 k bt226.2 bt238.2 (bt238.2 != bt226.2) l0_0 l0_1 bt226.1 bt231.1 bt231.2 bt238.1) else (laws_FnExactStreamTree.j0 k bt226.2 bt238.2 true l0_0 l0_1 bt226.1 bt231.1 bt231.2 bt238.1))))))))
theorem laws_FnExactStreamTree.mono_l : ∀ k, (∀ y0 y1 y2 y3 y4 y5 y6 y7 y8, LeO (laws_FnExactStreamTree.j0 k y0 y1 y2 y3 y4 y5 y6 y7 y8) (laws_FnExactStreamTree.j0 (k + 1) y0 y1 y2 y3 y4 y5 y6 y7 y8)) ∧ (∀ y0 y1 y2 y3 y4 y5, LeO (laws_FnExactStreamTree.j1 k y0 y1 y2 y3 y4 y5) (laws_FnExactStreamTree.j1 (k + 1) y0 y1 y2 y3 y4 y5)) ∧ (∀ y0 y1 y2, LeO (laws_FnExactStreamTree.j2 k y0 y1 y2) (laws_FnExactStreamTree.j2 (k + 1) y0 y1 y2))
 | 0 => ⟨fun _ _ _ _ _ _ _ _ _ r h => by simp [laws_FnExactStreamTree.j0] at h, fun _ _ _ _ _ _ r h => by simp [laws_FnExactStreamTree.j1] at h, fun _ _ _ r h => by simp [laws_FnExactStreamTree.j2] at h⟩
 | k + 1 => by
  obtain ⟨ih0, ih1, ih2⟩ := laws_FnExactStreamTree.mono_l k
  refine ⟨?_, ?_, ?_⟩
  ·intro y0 y1 y2 y3 y4 y5 y6 y7 y8
   unfold laws_FnExactStreamTree.j0
   repeat' first
   | (with_reducible exact ih0 _ _ _ _ _ _ _ _ _)
   | (with_reducible exact ih1 _ _ _ _ _ _)
   | (with_reducible exact ih2 _ _ _)
   | (with_reducible exact impl_StreamTree.mono _ _ _)
   | (with_reducible exact laws_eqStream.mono _ _ _ _ _)
   | (with_reducible exact laws_eqTree.mono _ _ _)
   | (with_reducible exact laws_heldTree.mono _ _ _)
   | (with_reducible exact laws_markStream.mono _ _ _ _)
   | (with_reducible exact laws_markTree.mono _ _ _)
   | (with_reducible exact laws_toStream.mono _ _ _)
   | (with_reducible exact spec_StreamTree.mono _ _ _)
   | (with_reducible exact LeO.refl _)
   | (with_reducible exact LeO.none _)
   | (with_reducible refine LeO.ite ?_ ?_)
   | (with_reducible refine LeO.bind ?_ (fun _ => ?_))
   | exact ih0 _ _ _ _ _ _ _ _ _
   | exact ih1 _ _ _ _ _ _
   | exact ih2 _ _ _
   | exact impl_StreamTree.mono _ _ _
   | exact laws_eqStream.mono _ _ _ _ _
   | exact laws_eqTree.mono _ _ _
   | exact laws_heldTree.mono _ _ _
   | exact laws_markStream.mono _ _ _ _
   | exact laws_markTree.mono _ _ _
   | exact laws_toStream.mono _ _ _
   | exact spec_StreamTree.mono _ _ _
   | exact LeO.none _
   | refine LeO.ite ?_ ?_
   | refine LeO.bind ?_ (fun _ => ?_)
  ·intro y0 y1 y2 y3 y4 y5
   unfold laws_FnExactStreamTree.j1
   repeat' first
   | (with_reducible exact ih0 _ _ _ _ _ _ _ _ _)
   | (with_reducible exact ih1 _ _ _ _ _ _)
   | (with_reducible exact ih2 _ _ _)
   | (with_reducible exact impl_StreamTree.mono _ _ _)
   | (with_reducible exact laws_eqStream.mono _ _ _ _ _)
   | (with_reducible exact laws_eqTree.mono _ _ _)
   | (with_reducible exact laws_heldTree.mono _ _ _)
   | (with_reducible exact laws_markStream.mono _ _ _ _)
   | (with_reducible exact laws_markTree.mono _ _ _)
   | (with_reducible exact laws_toStream.mono _ _ _)
   | (with_reducible exact spec_StreamTree.mono _ _ _)
   | (with_reducible exact LeO.refl _)
   | (with_reducible exact LeO.none _)
   | (with_reducible refine LeO.ite ?_ ?_)
   | (with_reducible refine LeO.bind ?_ (fun _ => ?_))
   | exact ih0 _ _ _ _ _ _ _ _ _
   | exact ih1 _ _ _ _ _ _
   | exact ih2 _ _ _
   | exact impl_StreamTree.mono _ _ _
   | exact laws_eqStream.mono _ _ _ _ _
   | exact laws_eqTree.mono _ _ _
   | exact laws_heldTree.mono _ _ _
   | exact laws_markStream.mono _ _ _ _
   | exact laws_markTree.mono _ _ _
   | exact laws_toStream.mono _ _ _
   | exact spec_StreamTree.mono _ _ _
   | exact LeO.none _
   | refine LeO.ite ?_ ?_
   | refine LeO.bind ?_ (fun _ => ?_)
  intro y0 y1 y2
  unfold laws_FnExactStreamTree.j2
  repeat' first
  | (with_reducible exact ih0 _ _ _ _ _ _ _ _ _)
  | (with_reducible exact ih1 _ _ _ _ _ _)
  | (with_reducible exact ih2 _ _ _)
  | (with_reducible exact impl_StreamTree.mono _ _ _)
  | (with_reducible exact laws_eqStream.mono _ _ _ _ _)
  | (with_reducible exact laws_eqTree.mono _ _ _)
  | (with_reducible exact laws_heldTree.mono _ _ _)
  | (with_reducible exact laws_markStream.mono _ _ _ _)
  | (with_reducible exact laws_markTree.mono _ _ _)
  | (with_reducible exact laws_toStream.mono _ _ _)
  | (with_reducible exact spec_StreamTree.mono _ _ _)
  | (with_reducible exact LeO.refl _)
  | (with_reducible exact LeO.none _)
  | (with_reducible refine LeO.ite ?_ ?_)
  | (with_reducible refine LeO.bind ?_ (fun _ => ?_))
  | exact ih0 _ _ _ _ _ _ _ _ _
  | exact ih1 _ _ _ _ _ _
  | exact ih2 _ _ _
  | exact impl_StreamTree.mono _ _ _
  | exact laws_eqStream.mono _ _ _ _ _
  | exact laws_eqTree.mono _ _ _
  | exact laws_heldTree.mono _ _ _
  | exact laws_markStream.mono _ _ _ _
  | exact laws_markTree.mono _ _ _
  | exact laws_toStream.mono _ _ _
  | exact spec_StreamTree.mono _ _ _
  | exact LeO.none _
  | refine LeO.ite ?_ ?_
  | refine LeO.bind ?_ (fun _ => ?_)
theorem laws_FnExactStreamTree.mono : ∀ a0 a1 k, LeO (laws_FnExactStreamTree.f k a0 a1) (laws_FnExactStreamTree.f (k + 1) a0 a1) := by
 intro a0 a1 k
 obtain ⟨ih0, ih1, ih2⟩ := laws_FnExactStreamTree.mono_l k
 unfold laws_FnExactStreamTree.f
 repeat' first
   | (with_reducible exact ih0 _ _ _ _ _ _ _ _ _)
   | (with_reducible exact ih1 _ _ _ _ _ _)
   | (with_reducible exact ih2 _ _ _)
   | (with_reducible exact impl_StreamTree.mono _ _ _)
   | (with_reducible exact laws_eqStream.mono _ _ _ _ _)
   | (with_reducible exact laws_eqTree.mono _ _ _)
   | (with_reducible exact laws_heldTree.mono _ _ _)
   | (with_reducible exact laws_markStream.mono _ _ _ _)
   | (with_reducible exact laws_markTree.mono _ _ _)
   | (with_reducible exact laws_toStream.mono _ _ _)
   | (with_reducible exact spec_StreamTree.mono _ _ _)
   | (with_reducible exact LeO.refl _)
   | (with_reducible exact LeO.none _)
   | (with_reducible refine LeO.ite ?_ ?_)
   | (with_reducible refine LeO.bind ?_ (fun _ => ?_))
   | exact ih0 _ _ _ _ _ _ _ _ _
   | exact ih1 _ _ _ _ _ _
   | exact ih2 _ _ _
   | exact impl_StreamTree.mono _ _ _
   | exact laws_eqStream.mono _ _ _ _ _
   | exact laws_eqTree.mono _ _ _
   | exact laws_heldTree.mono _ _ _
   | exact laws_markStream.mono _ _ _ _
   | exact laws_markTree.mono _ _ _
   | exact laws_toStream.mono _ _ _
   | exact spec_StreamTree.mono _ _ _
   | exact LeO.none _
   | refine LeO.ite ?_ ?_
   | refine LeO.bind ?_ (fun _ => ?_)
set_option maxHeartbeats 8000000 in
set_option maxRecDepth 100000 in
theorem laws_FnExactStreamTree.calls (k : Nat) (A0_0 : Option Addr) (c0_0 : Nat) (l0_0 : List Int) (A0_1 : Option Addr) (c0_1 : Nat) (l0_1 : List Int) (r : Bool) (w : World) (hr0_0 : Kd.C (Kd.int .i8) w A0_0 l0_0.length l0_0) (hc0_0 : l0_0.length ≤ c0_0) (hr0_1 : Kd.C (Kd.int .i8) w A0_1 l0_1.length l0_1) (hc0_1 : l0_1.length ≤ c0_1) (h : laws_FnExactStreamTree.f k l0_0 l0_1 = some r) :
  Calls Try.prog 10 #[.agg #[.slice A0_0 l0_0.length c0_0, .slice A0_1 l0_1.length c0_1]] w fun e w' => e = .returned (.bool r) ∧ Below w.heap.size w w' := by
 have hu32 := Try.underlying32
 have hu55 := Try.underlying55
 have hu34 := Try.underlying34
 have HR0_0 := aM10_ hr0_0
 have HC0_0 := aM10_ hc0_0
 clear hr0_0 hc0_0
 have HR0_1 := aM10_ hr0_1
 have HC0_1 := aM10_ hc0_1
 clear hr0_1 hc0_1
 have HB := aM10_ (Below.refl w.heap.size w)
 have H : ((laws_szStream.f l0_0 l0_1 1048576).bind fun t219 => (if t219 < 0 then (some true) else ((laws_toStream.f k l0_0 l0_1).bind fun bt220 => ((spec_StreamTree.f k bt220.1 bt220.2).bind fun bt226 => ((laws_toStream.f k l0_0 l0_1).bind fun bt231 => ((impl_StreamTree.f k bt231.1 bt231.2).bind fun bt238 => ((laws_eqTree.f k bt238.1 bt226.1).bind fun t243 => (if t243 = true then (laws_FnExactStreamTree.j0 k bt226.2 bt238.2 (bt238.2 != bt226.2) l0_0 l0_1 bt226.1 bt231.1 bt231.2 bt238.1) else (laws_FnExactStreamTree.j0 k bt226.2 bt238.2 true l0_0 l0_1 bt226.1 bt231.1 bt231.2 bt238.1))))))))) = some r := h
 clear h
 replace H := Option.bind_eq_some_iff.mp H
 obtain ⟨t219, A20, H⟩ := H
 replace H : (if t219 < 0 then (some true) else ((laws_toStream.f k l0_0 l0_1).bind fun bt220 => ((spec_StreamTree.f k bt220.1 bt220.2).bind fun bt226 => ((laws_toStream.f k l0_0 l0_1).bind fun bt231 => ((impl_StreamTree.f k bt231.1 bt231.2).bind fun bt238 => ((laws_eqTree.f k bt238.1 bt226.1).bind fun t243 => (if t243 = true then (laws_FnExactStreamTree.j0 k bt226.2 bt238.2 (bt238.2 != bt226.2) l0_0 l0_1 bt226.1 bt231.1 bt231.2 bt238.1) else (laws_FnExactStreamTree.j0 k bt226.2 bt238.2 true l0_0 l0_1 bt226.1 bt231.1 bt231.2 bt238.1)))))))) = some r := H
 have A2 := aM10_ A20
 clear A20
 by_cases c3 : t219 < 0
 ·rw [if_pos c3] at H
  have c3b0 : decide (t219 < 0) = true := decide_eq_true c3
  clear c3
  obtain rfl := Option.some.inj H
  go_enter Try.func10, Try.ntmps10
  go_wp2_with (first | ((with_reducible refine gate_dst (N := 1) rfl ?_); refine box_event ?hg (N := 1) ?hd (cs := #[.slice A0_0 l0_0.length c0_0, .slice A0_1 l0_1.length c0_1]) (t := 32) ?hr ?_; (case hd => rfl); (case hg => rfl); (case hr => first | (go_simp; done) | (go_simp; rfl)); intro gb218 hg w4 hbox hb; have n0_ := aM10_ (below_step q10x19_ hb); have n1_ := aM10_ (hbox); have n2_ := aM10_ ((by rw [hg]; exact (below_size q10x19_) : w.heap.size ≤ gb218)); have n3_ := aM10_ ((by rw [hg]; exact (below_size q10x19_) : w.heap.size ≤ gb218)); clear HB; have HB := n0_; have BK218 := n1_; have GW218 := n2_; have GE218 := n3_; clear n0_ n1_ n2_ n3_; clear hb hbox hg; have hcz5_0 : w4.cell? ⟨gb218, 0, none⟩ = some (.slice A0_0 l0_0.length c0_0) := (kC10_ BK218.out 0).trans rfl; have hcz5_1 : w4.cell? ⟨gb218, 1, none⟩ = some (.slice A0_1 l0_1.length c0_1) := (kC10_ BK218.out 1).trans rfl; have hfz5_0 := blk_frozen BK218.out 0; have hfz5_1 := blk_frozen BK218.out 1) | ((with_reducible refine gate_callee (f := 17) rfl ?_); refine goesL_ (some 16) rfl rfl Try.func17 (by kernel_rfl) rfl #[.agg #[.slice A0_0 l0_0.length c0_0, .slice A0_1 l0_1.length c0_1], .int .i64 1048576] rfl q10x4_ ?_; (with_reducible refine (laws_szStream.calls _ _ l0_0 _ _ l0_1 1048576 t219 _ ?side1 ?side2 ?side3 ?side4 A2.out).mono ?_); (case side1 => repeat (first | exact (Kd.C_below HR0_0.out HB.out) | (with_reducible refine Kd.C_alloc ?_ _) | (with_reducible refine Kd.C_drewN ?_ _) | (with_reducible refine Kd.C_drew ?_))); (case side2 => exact HC0_0.out); (case side3 => repeat (first | exact (Kd.C_below HR0_1.out HB.out) | (with_reducible refine Kd.C_alloc ?_ _) | (with_reducible refine Kd.C_drewN ?_ _) | (with_reducible refine Kd.C_drew ?_))); (case side4 => exact HC0_1.out); rintro e w6 ⟨rfl, hb⟩; refine ⟨_, rfl, ?_⟩; have n0_ := aM10_ (kB10_ (g := gb218) (o := .cells #[.slice A0_0 l0_0.length c0_0, .slice A0_1 l0_1.length c0_1] 32 (0, 0)) q10x2_ hb); have n1_ := aM10_ (below_step q10x11_ hb); clear BK218; clear HB; have BK218 := n0_; have HB := n1_; clear n0_ n1_; (try clear hb); (try clear hb2); (try clear hk); (try clear hi)))
  go_ret
  exact ⟨by first | rfl | (simp [errW_none, errW_some] <;> rfl) | (simp [*, errW_none, errW_some] <;> rfl), by repeat (first | (with_reducible first | exact HB.out | apply below_alloc | apply pw_below_drewN | apply below_drew1 | refine bS10_ ?_ GE218.out) | exact HB.out)⟩
 rw [if_neg c3] at H
 have c3b0 : decide (t219 < 0) = false := decide_eq_false c3
 clear c3
 replace H := Option.bind_eq_some_iff.mp H
 obtain ⟨⟨t220, t223⟩, A70, H⟩ := H
 replace H : ((spec_StreamTree.f k t220 t223).bind fun bt226 => ((laws_toStream.f k l0_0 l0_1).bind fun bt231 => ((impl_StreamTree.f k bt231.1 bt231.2).bind fun bt238 => ((laws_eqTree.f k bt238.1 bt226.1).bind fun t243 => (if t243 = true then (laws_FnExactStreamTree.j0 k bt226.2 bt238.2 (bt238.2 != bt226.2) l0_0 l0_1 bt226.1 bt231.1 bt231.2 bt238.1) else (laws_FnExactStreamTree.j0 k bt226.2 bt238.2 true l0_0 l0_1 bt226.1 bt231.1 bt231.2 bt238.1)))))) = some r := H
 have A7 := aM10_ A70
 clear A70
 replace H := Option.bind_eq_some_iff.mp H
 obtain ⟨⟨t226, t229⟩, A80, H⟩ := H
 replace H : ((laws_toStream.f k l0_0 l0_1).bind fun bt231 => ((impl_StreamTree.f k bt231.1 bt231.2).bind fun bt238 => ((laws_eqTree.f k bt238.1 t226).bind fun t243 => (if t243 = true then (laws_FnExactStreamTree.j0 k t229 bt238.2 (bt238.2 != t229) l0_0 l0_1 t226 bt231.1 bt231.2 bt238.1) else (laws_FnExactStreamTree.j0 k t229 bt238.2 true l0_0 l0_1 t226 bt231.1 bt231.2 bt238.1))))) = some r := H
 have A8 := aM10_ A80
 clear A80
 replace H := Option.bind_eq_some_iff.mp H
 obtain ⟨⟨t231, t234⟩, A90, H⟩ := H
 replace H : ((impl_StreamTree.f k t231 t234).bind fun bt238 => ((laws_eqTree.f k bt238.1 t226).bind fun t243 => (if t243 = true then (laws_FnExactStreamTree.j0 k t229 bt238.2 (bt238.2 != t229) l0_0 l0_1 t226 t231 t234 bt238.1) else (laws_FnExactStreamTree.j0 k t229 bt238.2 true l0_0 l0_1 t226 t231 t234 bt238.1)))) = some r := H
 have A9 := aM10_ A90
 clear A90
 replace H := Option.bind_eq_some_iff.mp H
 obtain ⟨⟨t238, t241⟩, A100, H⟩ := H
 replace H : ((laws_eqTree.f k t238 t226).bind fun t243 => (if t243 = true then (laws_FnExactStreamTree.j0 k t229 t241 (t241 != t229) l0_0 l0_1 t226 t231 t234 t238) else (laws_FnExactStreamTree.j0 k t229 t241 true l0_0 l0_1 t226 t231 t234 t238))) = some r := H
 have A10 := aM10_ A100
 clear A100
 have HC11 := aM10_ H
 clear H
 go_enter Try.func10, Try.ntmps10
 go_upto_region 8 with (first | ((with_reducible refine gate_dst (N := 1) rfl ?_); refine box_event ?hg (N := 1) ?hd (cs := #[.slice A0_0 l0_0.length c0_0, .slice A0_1 l0_1.length c0_1]) (t := 32) ?hr ?_; (case hd => rfl); (case hg => rfl); (case hr => first | (go_simp; done) | (go_simp; rfl)); intro gb218 hg w12 hbox hb; have n0_ := aM10_ (below_step q10x19_ hb); have n1_ := aM10_ (hbox); have n2_ := aM10_ ((by rw [hg]; exact (below_size q10x19_) : w.heap.size ≤ gb218)); have n3_ := aM10_ ((by rw [hg]; exact (below_size q10x19_) : w.heap.size ≤ gb218)); clear HB; have HB := n0_; have BK218 := n1_; have GW218 := n2_; have GE218 := n3_; clear n0_ n1_ n2_ n3_; clear hb hbox hg; have hcz13_0 : w12.cell? ⟨gb218, 0, none⟩ = some (.slice A0_0 l0_0.length c0_0) := (kC10_ BK218.out 0).trans rfl; have hcz13_1 : w12.cell? ⟨gb218, 1, none⟩ = some (.slice A0_1 l0_1.length c0_1) := (kC10_ BK218.out 1).trans rfl; have hfz13_0 := blk_frozen BK218.out 0; have hfz13_1 := blk_frozen BK218.out 1) | ((with_reducible refine gate_callee (f := 17) rfl ?_); refine goesL_ (some 16) rfl rfl Try.func17 (by kernel_rfl) rfl #[.agg #[.slice A0_0 l0_0.length c0_0, .slice A0_1 l0_1.length c0_1], .int .i64 1048576] rfl q10x4_ ?_; (with_reducible refine (laws_szStream.calls _ _ l0_0 _ _ l0_1 1048576 t219 _ ?side1 ?side2 ?side3 ?side4 A2.out).mono ?_); (case side1 => repeat (first | exact (Kd.C_below HR0_0.out HB.out) | (with_reducible refine Kd.C_alloc ?_ _) | (with_reducible refine Kd.C_drewN ?_ _) | (with_reducible refine Kd.C_drew ?_))); (case side2 => exact HC0_0.out); (case side3 => repeat (first | exact (Kd.C_below HR0_1.out HB.out) | (with_reducible refine Kd.C_alloc ?_ _) | (with_reducible refine Kd.C_drewN ?_ _) | (with_reducible refine Kd.C_drew ?_))); (case side4 => exact HC0_1.out); rintro e w14 ⟨rfl, hb⟩; refine ⟨_, rfl, ?_⟩; have n0_ := aM10_ (kB10_ (g := gb218) (o := .cells #[.slice A0_0 l0_0.length c0_0, .slice A0_1 l0_1.length c0_1] 32 (0, 0)) q10x2_ hb); have n1_ := aM10_ (below_step q10x11_ hb); clear BK218; clear HB; have BK218 := n0_; have HB := n1_; clear n0_ n1_; (try clear hb); (try clear hb2); (try clear hk); (try clear hi); have hcz15_0 : w14.cell? ⟨gb218, 0, none⟩ = some (.slice A0_0 l0_0.length c0_0) := (kC10_ BK218.out 0).trans rfl; have hcz15_1 : w14.cell? ⟨gb218, 1, none⟩ = some (.slice A0_1 l0_1.length c0_1) := (kC10_ BK218.out 1).trans rfl; have hfz15_0 := blk_frozen BK218.out 0; have hfz15_1 := blk_frozen BK218.out 1) | ((with_reducible refine gate_callee (f := 19) rfl ?_); refine goesL_ (some 21) rfl rfl Try.func19 (by kernel_rfl) rfl #[.agg #[.slice A0_0 l0_0.length c0_0, .slice A0_1 l0_1.length c0_1]] rfl q10x4_ ?_; (with_reducible refine (laws_toStream.calls k _ _ l0_0 _ _ l0_1 t220 t223 _ ?side1 ?side2 ?side3 ?side4 A7.out).mono ?_); (case side1 => repeat (first | exact (Kd.C_below HR0_0.out HB.out) | (with_reducible refine Kd.C_alloc ?_ _) | (with_reducible refine Kd.C_drewN ?_ _) | (with_reducible refine Kd.C_drew ?_))); (case side2 => exact HC0_0.out); (case side3 => repeat (first | exact (Kd.C_below HR0_1.out HB.out) | (with_reducible refine Kd.C_alloc ?_ _) | (with_reducible refine Kd.C_drewN ?_ _) | (with_reducible refine Kd.C_drew ?_))); (case side4 => exact HC0_1.out); rintro e w16 ⟨v221, v224, rfl, ho0, ho1, hb⟩; refine ⟨_, rfl, ?_⟩; have n0_ := aM10_ (Kd.R_lower ho0 (below_size q10x11_)); have n1_ := aM10_ (Kd.R_lower ho1 (below_size q10x11_)); have n2_ := aM10_ (kB10_ (g := gb218) (o := .cells #[.slice A0_0 l0_0.length c0_0, .slice A0_1 l0_1.length c0_1] 32 (0, 0)) q10x2_ hb); have n3_ := aM10_ (below_step q10x11_ hb); clear BK218; clear HB; have HO222 := n0_; have HO225 := n1_; have BK218 := n2_; have HB := n3_; clear n0_ n1_ n2_ n3_; (try clear hb); (try clear hb2); (try clear hk); (try clear hi); (try clear ho0); (try clear ho1); obtain ⟨Ao17, co17, eo17⟩ := Kd.R_slice HO222.out; subst eo17; obtain ⟨Ao18, co18, eo18⟩ := Kd.R_slice HO225.out; subst eo18) | ((with_reducible refine gate_callee (f := 35) rfl ?_); refine goesL_ (some 22) rfl rfl Try.func35 (by kernel_rfl) rfl #[.agg #[.slice Ao17 t220.length co17, .slice Ao18 t223.length co18]] rfl q10x4_ ?_; (with_reducible refine (spec_StreamTree.calls k _ _ t220 _ _ t223 t226 t229 _ ?side1 ?side2 ?side3 ?side4 A8.out).mono ?_); (case side1 => repeat (first | exact (Kd.R_reads' HO222.out).2.2 | (with_reducible refine Kd.C_alloc ?_ _) | (with_reducible refine Kd.C_drewN ?_ _) | (with_reducible refine Kd.C_drew ?_))); (case side2 => exact (Kd.R_reads' HO222.out).2.1); (case side3 => repeat (first | exact (Kd.R_reads' HO225.out).2.2 | (with_reducible refine Kd.C_alloc ?_ _) | (with_reducible refine Kd.C_drewN ?_ _) | (with_reducible refine Kd.C_drew ?_))); (case side4 => exact (Kd.R_reads' HO225.out).2.1); rintro e w19 ⟨v227, rfl, ho0, hb⟩; refine ⟨_, rfl, ?_⟩; have n0_ := aM10_ (rB10_ q10x25_ hb); have n1_ := aM10_ (rB10_ q10x26_ hb); have n2_ := aM10_ (Kd.R_lower ho0 (below_size q10x11_)); have n3_ := aM10_ (kB10_ (g := gb218) (o := .cells #[.slice A0_0 l0_0.length c0_0, .slice A0_1 l0_1.length c0_1] 32 (0, 0)) q10x2_ hb); have n4_ := aM10_ (below_step q10x11_ hb); clear HO222; clear HO225; clear BK218; clear HB; have HO222 := n0_; have HO225 := n1_; have HO228 := n2_; have BK218 := n3_; have HB := n4_; clear n0_ n1_ n2_ n3_ n4_; (try clear hb); (try clear hb2); (try clear hk); (try clear hi); (try clear ho0)) | ((with_reducible refine gate_dst (N := 4) rfl ?_); refine box_event ?hg (N := 4) ?hd (cs := #[.slice none 0 0]) (t := 55) ?hr ?_; (case hd => rfl); (case hg => rfl); (case hr => first | (go_simp; done) | (go_simp; rfl)); intro gb230 hg w20 hbox hb; have n0_ := aM10_ (rB10_ q10x25_ hb); have n1_ := aM10_ (rB10_ q10x26_ hb); have n2_ := aM10_ (rB10_ q10x27_ hb); have n3_ := aM10_ (kB10_ (g := gb218) (o := .cells #[.slice A0_0 l0_0.length c0_0, .slice A0_1 l0_1.length c0_1] 32 (0, 0)) q10x2_ hb); have n4_ := aM10_ (below_step q10x11_ hb); have n5_ := aM10_ (hbox); have n6_ := aM10_ ((by rw [hg]; exact (below_size q10x11_) : w.heap.size ≤ gb230)); have n7_ := aM10_ ((by rw [hg]; exact (below_size q10x11_) : w.heap.size ≤ gb230)); have n8_ := aM10_ ((q10x23_ : gb218 ≠ gb230)); have n9_ := aM10_ ((q10x24_ : gb230 ≠ gb218)); clear HO222; clear HO225; clear HO228; clear BK218; clear HB; have HO222 := n0_; have HO225 := n1_; have HO228 := n2_; have BK218 := n3_; have HB := n4_; have BK230 := n5_; have GW230 := n6_; have GE230 := n7_; have NB218_230 := n8_; have NB230_218 := n9_; clear n0_ n1_ n2_ n3_ n4_ n5_ n6_ n7_ n8_ n9_; clear hb hbox hg; obtain ⟨Ao21, co21, eo21⟩ := Kd.R_slice HO228.out; subst eo21; have hnb22 := NB230_218.out; have hnc22 := NB218_230.out; have hcz23_0 : w20.cell? ⟨gb230, 0, none⟩ = some (.slice none 0 0) := (kC10_ BK230.out 0).trans rfl; have hfz23_0 := blk_frozen BK230.out 0; have hcz24_0 : w20.cell? ⟨gb218, 0, none⟩ = some (.slice A0_0 l0_0.length c0_0) := (kC10_ BK218.out 0).trans rfl; have hcz24_1 : w20.cell? ⟨gb218, 1, none⟩ = some (.slice A0_1 l0_1.length c0_1) := (kC10_ BK218.out 1).trans rfl; have hfz24_0 := blk_frozen BK218.out 0; have hfz24_1 := blk_frozen BK218.out 1) | ((with_reducible refine gate_callee (f := 19) rfl ?_); refine goesL_ (some 26) rfl rfl Try.func19 (by kernel_rfl) rfl #[.agg #[.slice A0_0 l0_0.length c0_0, .slice A0_1 l0_1.length c0_1]] rfl q10x4_ ?_; (with_reducible refine (laws_toStream.calls k _ _ l0_0 _ _ l0_1 t231 t234 _ ?side1 ?side2 ?side3 ?side4 A9.out).mono ?_); (case side1 => exact Kd.C_below HR0_0.out q10x12_); (case side2 => exact HC0_0.out); (case side3 => exact Kd.C_below HR0_1.out q10x12_); (case side4 => exact HC0_1.out); rintro e w25 ⟨v232, v235, rfl, ho0, ho1, hb⟩; refine ⟨_, rfl, ?_⟩; have n0_ := aM10_ (Kd.R_mono (Kd.R_told (Kd.R_told (Kd.R_old q10x20_ hb) (Kd.R_base ho0)) (Kd.R_base ho1)) (fun _ h_ => h_.1)); have n1_ := aM10_ (Kd.R_mono (Kd.R_told (Kd.R_told (Kd.R_old q10x21_ hb) (Kd.R_base ho0)) (Kd.R_base ho1)) (fun _ h_ => h_.1)); have n2_ := aM10_ (rB10_ (by (with_reducible repeat (first | apply rA10_ | apply rN10_ | apply rD10_)); exact (Kd.R_mono (Kd.R_far (p := ⟨gb230, 0, none⟩) (Kd.R_types HO228.out BK230.out (by decide)) (fun _ hk => hk.2) (.slice Ao21 t226.length co21)) (fun _ h_ => h_.1))) hb); have n3_ := aM10_ (Kd.R_lower (Kd.R_new' (Kd.R_new' ho0 (Kd.R_lt q10x20_)) (Kd.R_lt q10x21_)) (below_size q10x12_)); have n4_ := aM10_ (Kd.R_lower (Kd.R_new' (Kd.R_new' ho1 (Kd.R_lt q10x20_)) (Kd.R_lt q10x21_)) (below_size q10x12_)); have n5_ := aM10_ (kB10_ (g := gb218) (o := .cells #[.slice A0_0 l0_0.length c0_0, .slice A0_1 l0_1.length c0_1] 32 (0, 0)) (by (with_reducible repeat (first | refine kN10_ ?_ _ | refine kD10_ ?_ | refine kA10_ ?_ _)); refine blk_far ?_ NB218_230.out _; (with_reducible repeat (first | refine kN10_ ?_ _ | refine kD10_ ?_ | refine kA10_ ?_ _)); exact BK218.out) hb); have n6_ := aM10_ (kB10_ (g := gb230) (o := .cells #[.slice Ao21 t226.length co21] 55 (0, 0)) (by (with_reducible repeat (first | refine kN10_ ?_ _ | refine kD10_ ?_ | refine kA10_ ?_ _)); refine blk_put (cs := #[.slice none 0 0]) ?_ 0 _ rfl; (with_reducible repeat (first | refine kN10_ ?_ _ | refine kD10_ ?_ | refine kA10_ ?_ _)); exact BK230.out) hb); have n7_ := aM10_ (below_step q10x12_ hb); clear HO222; clear HO225; clear HO228; clear BK218; clear BK230; clear HB; have HO222 := n0_; have HO225 := n1_; have HO228 := n2_; have HO233 := n3_; have HO236 := n4_; have BK218 := n5_; have BK230 := n6_; have HB := n7_; clear n0_ n1_ n2_ n3_ n4_ n5_ n6_ n7_; (try clear hb); (try clear hb2); (try clear hk); (try clear hi); (try clear ho0); (try clear ho1)) | ((with_reducible refine gate_dst (N := 6) rfl ?_); refine box_event ?hg (N := 6) ?hd (cs := #[.slice none 0 0, .slice none 0 0]) (t := 34) ?hr ?_; (case hd => rfl); (case hg => rfl); (case hr => first | (go_simp; done) | (go_simp; rfl)); intro gb237 hg w26 hbox hb; have n0_ := aM10_ (rB10_ q10x25_ hb); have n1_ := aM10_ (rB10_ q10x26_ hb); have n2_ := aM10_ (rB10_ q10x27_ hb); have n3_ := aM10_ (rB10_ q10x53_ hb); have n4_ := aM10_ (rB10_ q10x54_ hb); have n5_ := aM10_ (kB10_ (g := gb218) (o := .cells #[.slice A0_0 l0_0.length c0_0, .slice A0_1 l0_1.length c0_1] 32 (0, 0)) q10x2_ hb); have n6_ := aM10_ (kB10_ (g := gb230) (o := .cells #[.slice Ao21 t226.length co21] 55 (0, 0)) q10x3_ hb); have n7_ := aM10_ (below_step q10x12_ hb); have n8_ := aM10_ (hbox); have n9_ := aM10_ ((by rw [hg]; exact (below_size q10x12_) : w.heap.size ≤ gb237)); have n10_ := aM10_ ((by rw [hg]; exact (below_size q10x12_) : w.heap.size ≤ gb237)); have n11_ := aM10_ ((q10x23_ : gb218 ≠ gb237)); have n12_ := aM10_ ((q10x24_ : gb237 ≠ gb218)); have n13_ := aM10_ ((q10x50_ : gb230 ≠ gb237)); have n14_ := aM10_ ((q10x51_ : gb237 ≠ gb230)); clear HO222; clear HO225; clear HO228; clear HO233; clear HO236; clear BK218; clear BK230; clear HB; have HO222 := n0_; have HO225 := n1_; have HO228 := n2_; have HO233 := n3_; have HO236 := n4_; have BK218 := n5_; have BK230 := n6_; have HB := n7_; have BK237 := n8_; have GW237 := n9_; have GE237 := n10_; have NB218_237 := n11_; have NB237_218 := n12_; have NB230_237 := n13_; have NB237_230 := n14_; clear n0_ n1_ n2_ n3_ n4_ n5_ n6_ n7_ n8_ n9_ n10_ n11_ n12_ n13_ n14_; clear hb hbox hg; obtain ⟨Ao27, co27, eo27⟩ := Kd.R_slice HO233.out; subst eo27; have hnb28 := NB237_218.out; have hnc28 := NB218_237.out; have hnb29 := NB237_230.out; have hnc29 := NB230_237.out; have hcz30_0 : w26.cell? ⟨gb237, 0, none⟩ = some (.slice none 0 0) := (kC10_ BK237.out 0).trans rfl; have hcz30_1 : w26.cell? ⟨gb237, 1, none⟩ = some (.slice none 0 0) := (kC10_ BK237.out 1).trans rfl; have hfz30_0 := blk_frozen BK237.out 0; have hfz30_1 := blk_frozen BK237.out 1; obtain ⟨Ao31, co31, eo31⟩ := Kd.R_slice HO236.out; subst eo31) | ((with_reducible refine gate_store (t := 34) (p := 6) rfl ?_); refine store_event (t := 34) (p := 6) (v := ?vo_w32) (w1 := ((w26.setCell ⟨gb237, 0, none⟩ (.slice Ao27 t231.length co27)).setCell ⟨gb237, 1, none⟩ (.slice Ao31 t234.length co31))) ?hg ?ho ?hn ?hr ?_; (case ho => rfl); (case hg => rfl); (case hn => rfl); (case hr => first | (go_simp; done) | (go_simp; rfl)); intro w32 hw; have n0_ : Aside0 (Kd.R (Kd.int .i8) 69 w32 w.heap.size (fun k_ => some k_ ≠ (.slice Ao18 t223.length co18 : Value).ownBlock ∧ some k_ ≠ (.slice Ao27 t231.length co27 : Value).ownBlock ∧ some k_ ≠ (.slice Ao31 t234.length co31 : Value).ownBlock) (.slice Ao17 t220.length co17) t220) := ⟨(by rw [hw]; exact (by (with_reducible repeat (first | apply rA10_ | apply rN10_ | apply rD10_)); exact Kd.R_mono (Kd.R_far (p := ⟨gb237, 1, none⟩) (Kd.R_far (p := ⟨gb237, 0, none⟩) (Kd.R_types HO222.out BK237.out (by decide)) (fun _ hk => hk.2) (.slice Ao27 t231.length co27)) (fun _ hk => hk.2) (.slice Ao31 t234.length co31)) (fun _ hk => ⟨hk.1.1.1, ⟨hk.1.1.2, hk.1.2⟩⟩)))⟩; have n1_ : Aside0 (Kd.R (Kd.int .i8) 69 w32 w.heap.size (fun k_ => some k_ ≠ (.slice Ao17 t220.length co17 : Value).ownBlock ∧ some k_ ≠ (.slice Ao27 t231.length co27 : Value).ownBlock ∧ some k_ ≠ (.slice Ao31 t234.length co31 : Value).ownBlock) (.slice Ao18 t223.length co18) t223) := ⟨(by rw [hw]; exact (by (with_reducible repeat (first | apply rA10_ | apply rN10_ | apply rD10_)); exact Kd.R_mono (Kd.R_far (p := ⟨gb237, 1, none⟩) (Kd.R_far (p := ⟨gb237, 0, none⟩) (Kd.R_types HO225.out BK237.out (by decide)) (fun _ hk => hk.2) (.slice Ao27 t231.length co27)) (fun _ hk => hk.2) (.slice Ao31 t234.length co31)) (fun _ hk => ⟨hk.1.1.1, ⟨hk.1.1.2, hk.1.2⟩⟩)))⟩; have n2_ : Aside0 (Kd.R k104 104 w32 w.heap.size (fun _ => True) (.slice Ao21 t226.length co21) t226) := ⟨(by rw [hw]; exact (by (with_reducible repeat (first | apply rA10_ | apply rN10_ | apply rD10_)); exact Kd.R_mono (Kd.R_far (p := ⟨gb237, 1, none⟩) (Kd.R_far (p := ⟨gb237, 0, none⟩) (Kd.R_types HO228.out BK237.out (by decide)) (fun _ hk => hk.2) (.slice Ao27 t231.length co27)) (fun _ hk => hk.2) (.slice Ao31 t234.length co31)) (fun _ hk => trivial)))⟩; have n3_ : Aside0 (Kd.R (Kd.int .i8) 69 w32 w.heap.size (fun k_ => some k_ ≠ (.slice Ao17 t220.length co17 : Value).ownBlock ∧ some k_ ≠ (.slice Ao18 t223.length co18 : Value).ownBlock ∧ some k_ ≠ (.slice Ao31 t234.length co31 : Value).ownBlock) (.slice Ao27 t231.length co27) t231) := ⟨(by rw [hw]; exact (by (with_reducible repeat (first | apply rA10_ | apply rN10_ | apply rD10_)); exact Kd.R_mono (Kd.R_far (p := ⟨gb237, 1, none⟩) (Kd.R_far (p := ⟨gb237, 0, none⟩) (Kd.R_types HO233.out BK237.out (by decide)) (fun _ hk => hk.2) (.slice Ao27 t231.length co27)) (fun _ hk => hk.2) (.slice Ao31 t234.length co31)) (fun _ hk => ⟨hk.1.1.2, ⟨hk.1.2, hk.1.1.1⟩⟩)))⟩; have n4_ : Aside0 (Kd.R (Kd.int .i8) 69 w32 w.heap.size (fun k_ => some k_ ≠ (.slice Ao17 t220.length co17 : Value).ownBlock ∧ some k_ ≠ (.slice Ao18 t223.length co18 : Value).ownBlock ∧ some k_ ≠ (.slice Ao27 t231.length co27 : Value).ownBlock) (.slice Ao31 t234.length co31) t234) := ⟨(by rw [hw]; exact (by (with_reducible repeat (first | apply rA10_ | apply rN10_ | apply rD10_)); exact Kd.R_mono (Kd.R_far (p := ⟨gb237, 1, none⟩) (Kd.R_far (p := ⟨gb237, 0, none⟩) (Kd.R_types HO236.out BK237.out (by decide)) (fun _ hk => hk.2) (.slice Ao27 t231.length co27)) (fun _ hk => hk.2) (.slice Ao31 t234.length co31)) (fun _ hk => ⟨hk.1.1.2, ⟨hk.1.2, hk.1.1.1⟩⟩)))⟩; have n5_ : Aside0 (w32.heap[gb218]? = some (.cells #[.slice A0_0 l0_0.length c0_0, .slice A0_1 l0_1.length c0_1] 32 (0, 0))) := ⟨(by rw [hw]; exact (by (with_reducible repeat (first | refine kN10_ ?_ _ | refine kD10_ ?_ | refine kA10_ ?_ _)); refine blk_far ?_ NB218_237.out _; (with_reducible repeat (first | refine kN10_ ?_ _ | refine kD10_ ?_ | refine kA10_ ?_ _)); refine blk_far ?_ NB218_237.out _; (with_reducible repeat (first | refine kN10_ ?_ _ | refine kD10_ ?_ | refine kA10_ ?_ _)); exact BK218.out))⟩; have n6_ : Aside0 (w32.heap[gb230]? = some (.cells #[.slice Ao21 t226.length co21] 55 (0, 0))) := ⟨(by rw [hw]; exact (by (with_reducible repeat (first | refine kN10_ ?_ _ | refine kD10_ ?_ | refine kA10_ ?_ _)); refine blk_far ?_ NB230_237.out _; (with_reducible repeat (first | refine kN10_ ?_ _ | refine kD10_ ?_ | refine kA10_ ?_ _)); refine blk_far ?_ NB230_237.out _; (with_reducible repeat (first | refine kN10_ ?_ _ | refine kD10_ ?_ | refine kA10_ ?_ _)); exact BK230.out))⟩; have n7_ : Aside0 (w32.heap[gb237]? = some (.cells #[.slice Ao27 t231.length co27, .slice Ao31 t234.length co31] 34 (0, 0))) := ⟨(by rw [hw]; exact (by (with_reducible repeat (first | refine kN10_ ?_ _ | refine kD10_ ?_ | refine kA10_ ?_ _)); refine blk_put (cs := #[.slice Ao27 t231.length co27, .slice none 0 0]) ?_ 1 _ rfl; (with_reducible repeat (first | refine kN10_ ?_ _ | refine kD10_ ?_ | refine kA10_ ?_ _)); refine blk_put (cs := #[.slice none 0 0, .slice none 0 0]) ?_ 0 _ rfl; (with_reducible repeat (first | refine kN10_ ?_ _ | refine kD10_ ?_ | refine kA10_ ?_ _)); exact BK237.out))⟩; have n8_ : Aside0 (Below w.heap.size w w32) := ⟨(by rw [hw]; exact q10x14_)⟩; clear hw; clear HO222; clear HO225; clear HO228; clear HO233; clear HO236; clear BK218; clear BK230; clear BK237; clear HB; have HO222 := n0_; have HO225 := n1_; have HO228 := n2_; have HO233 := n3_; have HO236 := n4_; have BK218 := n5_; have BK230 := n6_; have BK237 := n7_; have HB := n8_; clear n0_ n1_ n2_ n3_ n4_ n5_ n6_ n7_ n8_; have hcz33_0 : w32.cell? ⟨gb237, 0, none⟩ = some (.slice Ao27 t231.length co27) := (kC10_ BK237.out 0).trans rfl; have hcz33_1 : w32.cell? ⟨gb237, 1, none⟩ = some (.slice Ao31 t234.length co31) := (kC10_ BK237.out 1).trans rfl; have hfz33_0 := blk_frozen BK237.out 0; have hfz33_1 := blk_frozen BK237.out 1) | ((with_reducible refine gate_callee (f := 36) rfl ?_); refine goesL_ (some 29) rfl rfl Try.func36 (by kernel_rfl) rfl #[.agg #[.slice Ao27 t231.length co27, .slice Ao31 t234.length co31]] rfl q10x4_ ?_; (with_reducible refine (impl_StreamTree.calls k (fun k_ => some k_ = (.slice Ao27 t231.length co27 : Value).ownBlock) _ _ t231 (fun k_ => some k_ = (.slice Ao31 t234.length co31 : Value).ownBlock) _ _ t234 t238 t241 _ ?side1 ?side2 A10.out).mono ?_); (case side1 => exact Kd.R_V (Kd.R_tight rfl (Kd.R_types (Kd.R_types (Kd.R_types (Kd.R_apart' (HO233.out) (Kd.R_typed HO228.out) (by decide)) BK218.out (by decide)) BK230.out (by decide)) BK237.out (by decide)))); (case side2 => exact Kd.R_V (Kd.R_tight rfl (Kd.R_types (Kd.R_types (Kd.R_types (Kd.R_apart' (HO236.out) (Kd.R_typed HO228.out) (by decide)) BK218.out (by decide)) BK230.out (by decide)) BK237.out (by decide)))); rintro e w34 ⟨v239, rfl, ho0, hb⟩; refine ⟨_, rfl, ?_⟩; have n0_ := aM10_ (rB10_ q10x25_ hb); have n1_ := aM10_ (rB10_ q10x26_ hb); have n2_ := aM10_ (Kd.R_elder' q10x27_ (Kd.R_base ho0) hb); have n3_ := aM10_ (rB10_ q10x53_ hb); have n4_ := aM10_ (rB10_ q10x54_ hb); have n5_ := aM10_ (Kd.R_lower (Kd.R_new' (Kd.R_mono (ok' := fun k_ => True) ho0 (fun _ hk_ => trivial)) (Kd.R_lt q10x27_)) (below_size q10x14_)); have n6_ := aM10_ (kB10_ (g := gb218) (o := .cells #[.slice A0_0 l0_0.length c0_0, .slice A0_1 l0_1.length c0_1] 32 (0, 0)) q10x2_ hb); have n7_ := aM10_ (kB10_ (g := gb230) (o := .cells #[.slice Ao21 t226.length co21] 55 (0, 0)) q10x3_ hb); have n8_ := aM10_ (kB10_ (g := gb237) (o := .cells #[.slice Ao27 t231.length co27, .slice Ao31 t234.length co31] 34 (0, 0)) q10x5_ hb); have n9_ := aM10_ (below_step q10x14_ hb); clear HO222; clear HO225; clear HO228; clear HO233; clear HO236; clear BK218; clear BK230; clear BK237; clear HB; have HO222 := n0_; have HO225 := n1_; have HO228 := n2_; have HO233 := n3_; have HO236 := n4_; have HO240 := n5_; have BK218 := n6_; have BK230 := n7_; have BK237 := n8_; have HB := n9_; clear n0_ n1_ n2_ n3_ n4_ n5_ n6_ n7_ n8_ n9_; (try clear hb); (try clear hb2); (try clear hk); (try clear hi); (try clear ho0)) | ((with_reducible refine gate_dst (N := 7) rfl ?_); refine box_event ?hg (N := 7) ?hd (cs := #[.slice none 0 0]) (t := 55) ?hr ?_; (case hd => rfl); (case hg => rfl); (case hr => first | (go_simp; done) | (go_simp; rfl)); intro gb242 hg w35 hbox hb; have n0_ := aM10_ (rB10_ q10x25_ hb); have n1_ := aM10_ (rB10_ q10x26_ hb); have n2_ := aM10_ (rB10_ q10x27_ hb); have n3_ := aM10_ (rB10_ q10x53_ hb); have n4_ := aM10_ (rB10_ q10x54_ hb); have n5_ := aM10_ (rB10_ (by (with_reducible repeat (first | apply rA10_ | apply rN10_ | apply rD10_)); exact HO240.out) hb); have n6_ := aM10_ (kB10_ (g := gb218) (o := .cells #[.slice A0_0 l0_0.length c0_0, .slice A0_1 l0_1.length c0_1] 32 (0, 0)) q10x2_ hb); have n7_ := aM10_ (kB10_ (g := gb230) (o := .cells #[.slice Ao21 t226.length co21] 55 (0, 0)) q10x3_ hb); have n8_ := aM10_ (kB10_ (g := gb237) (o := .cells #[.slice Ao27 t231.length co27, .slice Ao31 t234.length co31] 34 (0, 0)) q10x5_ hb); have n9_ := aM10_ (below_step q10x14_ hb); have n10_ := aM10_ (hbox); have n11_ := aM10_ ((by rw [hg]; exact (below_size q10x14_) : w.heap.size ≤ gb242)); have n12_ := aM10_ ((by rw [hg]; exact (below_size q10x14_) : w.heap.size ≤ gb242)); have n13_ := aM10_ ((q10x23_ : gb218 ≠ gb242)); have n14_ := aM10_ ((q10x24_ : gb242 ≠ gb218)); have n15_ := aM10_ ((q10x50_ : gb230 ≠ gb242)); have n16_ := aM10_ ((q10x51_ : gb242 ≠ gb230)); have n17_ := aM10_ ((by rw [hg]; exact Nat.ne_of_lt (blk_lt (g := gb237) (o := .cells #[.slice Ao27 t231.length co27, .slice Ao31 t234.length co31] 34 (0, 0)) q10x5_) : gb237 ≠ gb242)); have n18_ := aM10_ ((by rw [hg]; exact Nat.ne_of_gt (blk_lt (g := gb237) (o := .cells #[.slice Ao27 t231.length co27, .slice Ao31 t234.length co31] 34 (0, 0)) q10x5_) : gb242 ≠ gb237)); clear HO222; clear HO225; clear HO228; clear HO233; clear HO236; clear HO240; clear BK218; clear BK230; clear BK237; clear HB; have HO222 := n0_; have HO225 := n1_; have HO228 := n2_; have HO233 := n3_; have HO236 := n4_; have HO240 := n5_; have BK218 := n6_; have BK230 := n7_; have BK237 := n8_; have HB := n9_; have BK242 := n10_; have GW242 := n11_; have GE242 := n12_; have NB218_242 := n13_; have NB242_218 := n14_; have NB230_242 := n15_; have NB242_230 := n16_; have NB237_242 := n17_; have NB242_237 := n18_; clear n0_ n1_ n2_ n3_ n4_ n5_ n6_ n7_ n8_ n9_ n10_ n11_ n12_ n13_ n14_ n15_ n16_ n17_ n18_; clear hb hbox hg; obtain ⟨Ao36, co36, eo36⟩ := Kd.R_slice HO240.out; subst eo36; have hnb37 := NB242_218.out; have hnc37 := NB218_242.out; have hnb38 := NB242_230.out; have hnc38 := NB230_242.out; have hnb39 := NB242_237.out; have hnc39 := NB237_242.out; have hcz40_0 : w35.cell? ⟨gb242, 0, none⟩ = some (.slice none 0 0) := (kC10_ BK242.out 0).trans rfl; have hfz40_0 := blk_frozen BK242.out 0))
 (try simp only [Act.put, List.setIfInBounds_toArray, List.set_cons_zero, List.set_cons_succ])
 go_cut [40] (fun v40 wc => ∃ (kq : Nat) (x40_10 : Bool), v40 = .bool x40_10 ∧ Aside0 (laws_FnExactStreamTree.j0 kq t229 t241 x40_10 l0_0 l0_1 t226 t231 t234 t238 = some r) ∧ Aside0 (kq ≤ k) ∧ Aside0 (Kd.R k104 104 wc w.heap.size (fun k_ => some k_ ≠ ((.slice Ao36 t238.length co36) : Value).ownBlock) (.slice Ao21 t226.length co21) t226) ∧ Aside0 (Kd.R (Kd.int .i8) 69 wc w.heap.size (fun k_ => some k_ ≠ ((.slice Ao31 t234.length co31) : Value).ownBlock) (.slice Ao27 t231.length co27) t231) ∧ Aside0 (Kd.R (Kd.int .i8) 69 wc w.heap.size (fun k_ => some k_ ≠ ((.slice Ao27 t231.length co27) : Value).ownBlock) (.slice Ao31 t234.length co31) t234) ∧ Aside0 (Kd.R k104 104 wc w.heap.size (fun k_ => some k_ ≠ ((.slice Ao21 t226.length co21) : Value).ownBlock) (.slice Ao36 t238.length co36) t238) ∧ Aside0 (wc.heap[gb218]? = some (.cells #[(.slice A0_0 l0_0.length c0_0), (.slice A0_1 l0_1.length c0_1)] 32 (0, 0))) ∧ Aside0 (wc.heap[gb230]? = some (.cells #[(.slice Ao21 t226.length co21)] 55 (0, 0))) ∧ Aside0 (wc.heap[gb237]? = some (.cells #[(.slice Ao27 t231.length co27), (.slice Ao31 t234.length co31)] 34 (0, 0))) ∧ Aside0 (wc.heap[gb242]? = some (.cells #[(.slice Ao36 t238.length co36)] 55 (0, 0))) ∧ Aside0 (Below w.heap.size w wc))
 case first =>
  have H := HC11.out
  clear HC11
  replace H := Option.bind_eq_some_iff.mp H
  obtain ⟨t243, A410, H⟩ := H
  replace H : (if t243 = true then (laws_FnExactStreamTree.j0 k t229 t241 (t241 != t229) l0_0 l0_1 t226 t231 t234 t238) else (laws_FnExactStreamTree.j0 k t229 t241 true l0_0 l0_1 t226 t231 t234 t238)) = some r := H
  have A41 := aM10_ A410
  clear A410
  by_cases c42 : t243 = true
  ·subst c42
   have H1 : (laws_FnExactStreamTree.j0 k t229 t241 (t241 != t229) l0_0 l0_1 t226 t231 t234 t238) = some r := by rw [if_pos rfl] at H; exact H
   clear H
   have H := H1
   clear H1
   have H' := aM10_ H
   clear H
   have hnb43 := NB242_218.out
   have hnc43 := NB218_242.out
   have hnb44 := NB242_230.out
   have hnc44 := NB230_242.out
   have hnb45 := NB242_237.out
   have hnc45 := NB237_242.out
   have hcz46_0 : w35.cell? ⟨gb242, 0, none⟩ = some (.slice none 0 0) := (kC10_ BK242.out 0).trans rfl
   have hfz46_0 := blk_frozen BK242.out 0
   have hnb47 := NB230_218.out
   have hnc47 := NB218_230.out
   have hnb48 := NB230_237.out
   have hnc48 := NB237_230.out
   have hcz49_0 : w35.cell? ⟨gb230, 0, none⟩ = some (.slice Ao21 t226.length co21) := (kC10_ BK230.out 0).trans rfl
   have hfz49_0 := blk_frozen BK230.out 0
   go_wp2_with (first | ((with_reducible refine gate_callee (f := 37) rfl ?_); refine goesL_ (some 34) rfl rfl Try.func37 (by kernel_rfl) rfl #[.agg #[.slice Ao36 t238.length co36], .agg #[.slice Ao21 t226.length co21]] rfl q10x4_ ?_; (with_reducible refine (laws_eqTree.calls k _ _ t238 _ _ t226 true _ ?side1 ?side2 ?side3 ?side4 A41.out).mono ?_); (case side1 => refine (Kd.R_reads' (e := 104) (base := w.heap.size) (ok := fun k_ => (True ∧ some k_ ≠ (.slice Ao21 t226.length co21 : Value).ownBlock)) (n := t238.length) (c := co36) ?_).2.2; exact q10x17_); (case side2 => exact (Kd.R_reads' HO240.out).2.1); (case side3 => refine (Kd.R_reads' (e := 104) (base := w.heap.size) (ok := fun k_ => (True ∧ some k_ ≠ (.slice Ao36 t238.length co36 : Value).ownBlock)) (n := t226.length) (c := co21) ?_).2.2; exact q10x18_); (case side4 => exact (Kd.R_reads' HO228.out).2.1); rintro e w50 ⟨rfl, hb⟩; refine ⟨_, rfl, ?_⟩; have n0_ := aM10_ (rB10_ q10x38_ hb); have n1_ := aM10_ (rB10_ q10x39_ hb); have n2_ := aM10_ (rB10_ q10x18_ hb); have n3_ := aM10_ (rB10_ q10x40_ hb); have n4_ := aM10_ (rB10_ q10x41_ hb); have n5_ := aM10_ (rB10_ q10x17_ hb); have n6_ := aM10_ (kB10_ (g := gb218) (o := .cells #[.slice A0_0 l0_0.length c0_0, .slice A0_1 l0_1.length c0_1] 32 (0, 0)) q10x42_ hb); have n7_ := aM10_ (kB10_ (g := gb230) (o := .cells #[.slice Ao21 t226.length co21] 55 (0, 0)) q10x43_ hb); have n8_ := aM10_ (kB10_ (g := gb237) (o := .cells #[.slice Ao27 t231.length co27, .slice Ao31 t234.length co31] 34 (0, 0)) q10x44_ hb); have n9_ := aM10_ (kB10_ (g := gb242) (o := .cells #[.slice Ao36 t238.length co36] 55 (0, 0)) q10x30_ hb); have n10_ := aM10_ (below_step q10x1_ hb); clear HO222; clear HO225; clear HO228; clear HO233; clear HO236; clear HO240; clear BK218; clear BK230; clear BK237; clear BK242; clear HB; have HO222 := n0_; have HO225 := n1_; have HO228 := n2_; have HO233 := n3_; have HO236 := n4_; have HO240 := n5_; have BK218 := n6_; have BK230 := n7_; have BK237 := n8_; have BK242 := n9_; have HB := n10_; clear n0_ n1_ n2_ n3_ n4_ n5_ n6_ n7_ n8_ n9_ n10_; (try clear hb); (try clear hb2); (try clear hk); (try clear hi)))
   go_meet
   case rel => exact ⟨_, ((t241 != t229)), q10x32_, H', ⟨by first | omega | exact Nat.le_refl _⟩, ⟨by (with_reducible repeat (first | apply rA10_ | apply rN10_ | apply rD10_)); exact Kd.R_mono HO228.out (fun _ hk => hk.2)⟩, ⟨by (with_reducible repeat (first | apply rA10_ | apply rN10_ | apply rD10_)); exact Kd.R_mono HO233.out (fun _ hk => hk.2.2)⟩, ⟨by (with_reducible repeat (first | apply rA10_ | apply rN10_ | apply rD10_)); exact Kd.R_mono HO236.out (fun _ hk => hk.2.2)⟩, ⟨by (with_reducible repeat (first | apply rA10_ | apply rN10_ | apply rD10_)); exact Kd.R_mono HO240.out (fun _ hk => hk.2)⟩, ⟨by (with_reducible repeat (first | refine kN10_ ?_ _ | refine kD10_ ?_ | refine kA10_ ?_ _)); exact BK218.out⟩, ⟨by (with_reducible repeat (first | refine kN10_ ?_ _ | refine kD10_ ?_ | refine kA10_ ?_ _)); exact BK230.out⟩, ⟨by (with_reducible repeat (first | refine kN10_ ?_ _ | refine kD10_ ?_ | refine kA10_ ?_ _)); exact BK237.out⟩, ⟨by (with_reducible repeat (first | refine kN10_ ?_ _ | refine kD10_ ?_ | refine kA10_ ?_ _)); exact BK242.out⟩, ⟨by repeat (first | (with_reducible first | exact HB.out | apply below_alloc | apply pw_below_drewN | apply below_drew1 | refine bS10_ ?_ GE218.out | refine bS10_ ?_ GE230.out | refine bS10_ ?_ GE237.out | refine bS10_ ?_ GE242.out) | exact HB.out)⟩⟩
  replace c42 := Bool.eq_false_iff.mpr c42
  subst c42
  have H1 : (laws_FnExactStreamTree.j0 k t229 t241 true l0_0 l0_1 t226 t231 t234 t238) = some r := by rw [if_neg (show ¬ (false = true) by decide)] at H; exact H
  clear H
  have H := H1
  clear H1
  have H' := aM10_ H
  clear H
  have hnb51 := NB242_218.out
  have hnc51 := NB218_242.out
  have hnb52 := NB242_230.out
  have hnc52 := NB230_242.out
  have hnb53 := NB242_237.out
  have hnc53 := NB237_242.out
  have hcz54_0 : w35.cell? ⟨gb242, 0, none⟩ = some (.slice none 0 0) := (kC10_ BK242.out 0).trans rfl
  have hfz54_0 := blk_frozen BK242.out 0
  have hnb55 := NB230_218.out
  have hnc55 := NB218_230.out
  have hnb56 := NB230_237.out
  have hnc56 := NB237_230.out
  have hcz57_0 : w35.cell? ⟨gb230, 0, none⟩ = some (.slice Ao21 t226.length co21) := (kC10_ BK230.out 0).trans rfl
  have hfz57_0 := blk_frozen BK230.out 0
  go_wp2_with (first | ((with_reducible refine gate_callee (f := 37) rfl ?_); refine goesL_ (some 34) rfl rfl Try.func37 (by kernel_rfl) rfl #[.agg #[.slice Ao36 t238.length co36], .agg #[.slice Ao21 t226.length co21]] rfl q10x4_ ?_; (with_reducible refine (laws_eqTree.calls k _ _ t238 _ _ t226 false _ ?side1 ?side2 ?side3 ?side4 A41.out).mono ?_); (case side1 => refine (Kd.R_reads' (e := 104) (base := w.heap.size) (ok := fun k_ => (True ∧ some k_ ≠ (.slice Ao21 t226.length co21 : Value).ownBlock)) (n := t238.length) (c := co36) ?_).2.2; exact q10x17_); (case side2 => exact (Kd.R_reads' HO240.out).2.1); (case side3 => refine (Kd.R_reads' (e := 104) (base := w.heap.size) (ok := fun k_ => (True ∧ some k_ ≠ (.slice Ao36 t238.length co36 : Value).ownBlock)) (n := t226.length) (c := co21) ?_).2.2; exact q10x18_); (case side4 => exact (Kd.R_reads' HO228.out).2.1); rintro e w58 ⟨rfl, hb⟩; refine ⟨_, rfl, ?_⟩; have n0_ := aM10_ (rB10_ q10x38_ hb); have n1_ := aM10_ (rB10_ q10x39_ hb); have n2_ := aM10_ (rB10_ q10x18_ hb); have n3_ := aM10_ (rB10_ q10x40_ hb); have n4_ := aM10_ (rB10_ q10x41_ hb); have n5_ := aM10_ (rB10_ q10x17_ hb); have n6_ := aM10_ (kB10_ (g := gb218) (o := .cells #[.slice A0_0 l0_0.length c0_0, .slice A0_1 l0_1.length c0_1] 32 (0, 0)) q10x42_ hb); have n7_ := aM10_ (kB10_ (g := gb230) (o := .cells #[.slice Ao21 t226.length co21] 55 (0, 0)) q10x43_ hb); have n8_ := aM10_ (kB10_ (g := gb237) (o := .cells #[.slice Ao27 t231.length co27, .slice Ao31 t234.length co31] 34 (0, 0)) q10x44_ hb); have n9_ := aM10_ (kB10_ (g := gb242) (o := .cells #[.slice Ao36 t238.length co36] 55 (0, 0)) q10x30_ hb); have n10_ := aM10_ (below_step q10x1_ hb); clear HO222; clear HO225; clear HO228; clear HO233; clear HO236; clear HO240; clear BK218; clear BK230; clear BK237; clear BK242; clear HB; have HO222 := n0_; have HO225 := n1_; have HO228 := n2_; have HO233 := n3_; have HO236 := n4_; have HO240 := n5_; have BK218 := n6_; have BK230 := n7_; have BK237 := n8_; have BK242 := n9_; have HB := n10_; clear n0_ n1_ n2_ n3_ n4_ n5_ n6_ n7_ n8_ n9_ n10_; (try clear hb); (try clear hb2); (try clear hk); (try clear hi)))
  go_meet
  case rel => exact ⟨_, (true), q10x32_, H', ⟨by first | omega | exact Nat.le_refl _⟩, ⟨by (with_reducible repeat (first | apply rA10_ | apply rN10_ | apply rD10_)); exact Kd.R_mono HO228.out (fun _ hk => hk.2)⟩, ⟨by (with_reducible repeat (first | apply rA10_ | apply rN10_ | apply rD10_)); exact Kd.R_mono HO233.out (fun _ hk => hk.2.2)⟩, ⟨by (with_reducible repeat (first | apply rA10_ | apply rN10_ | apply rD10_)); exact Kd.R_mono HO236.out (fun _ hk => hk.2.2)⟩, ⟨by (with_reducible repeat (first | apply rA10_ | apply rN10_ | apply rD10_)); exact Kd.R_mono HO240.out (fun _ hk => hk.2)⟩, ⟨by (with_reducible repeat (first | refine kN10_ ?_ _ | refine kD10_ ?_ | refine kA10_ ?_ _)); exact BK218.out⟩, ⟨by (with_reducible repeat (first | refine kN10_ ?_ _ | refine kD10_ ?_ | refine kA10_ ?_ _)); exact BK230.out⟩, ⟨by (with_reducible repeat (first | refine kN10_ ?_ _ | refine kD10_ ?_ | refine kA10_ ?_ _)); exact BK237.out⟩, ⟨by (with_reducible repeat (first | refine kN10_ ?_ _ | refine kD10_ ?_ | refine kA10_ ?_ _)); exact BK242.out⟩, ⟨by repeat (first | (with_reducible first | exact HB.out | apply below_alloc | apply pw_below_drewN | apply below_drew1 | refine bS10_ ?_ GE218.out | refine bS10_ ?_ GE230.out | refine bS10_ ?_ GE237.out | refine bS10_ ?_ GE242.out) | exact HB.out)⟩⟩
 case rest =>
  clear HC11
  try clear c1
  try clear c2
  try clear p2
  try clear c3
  try clear c3b0
  try clear c4
  try clear c5
  try clear c10
  try clear c17
  try clear c19
  try clear c22
  try clear c28
  try clear c29
  try clear c35
  try clear c36
  try clear c37
  try clear c38
  try clear c39
  try clear c42
  try clear c43
  try clear c44
  try clear c45
  try clear c47
  try clear c48
  try clear c51
  try clear c52
  try clear c53
  try clear c55
  try clear c56
  try clear hcz13_0
  try clear hcz13_1
  try clear hcz15_0
  try clear hcz15_1
  try clear hcz23_0
  try clear hcz24_0
  try clear hcz24_1
  try clear hcz30_0
  try clear hcz30_1
  try clear hcz33_0
  try clear hcz33_1
  try clear hcz40_0
  try clear hcz46_0
  try clear hcz49_0
  try clear hcz54_0
  try clear hcz57_0
  try clear hcz5_0
  try clear hcz5_1
  try clear hfz13_0
  try clear hfz13_1
  try clear hfz15_0
  try clear hfz15_1
  try clear hfz23_0
  try clear hfz24_0
  try clear hfz24_1
  try clear hfz30_0
  try clear hfz30_1
  try clear hfz33_0
  try clear hfz33_1
  try clear hfz40_0
  try clear hfz46_0
  try clear hfz49_0
  try clear hfz54_0
  try clear hfz57_0
  try clear hfz5_0
  try clear hfz5_1
  obtain ⟨kq, x40_10, rfl, HA, HJ10, HO_231000, HO_238000, HO_238001, HO_243000, BK218, BK230, BK237, BK242, HB⟩ := hcut
  cases kq with
  | zero => exact absurd HA.out (by simp [laws_FnExactStreamTree.j0])
  | succ kj10 =>
   have H := HA.out
   clear HA
   simp only [laws_FnExactStreamTree.j0] at H
   by_cases c59 : x40_10 = true
   ·subst c59
    have H1 : (some false) = some r := by rw [if_pos rfl] at H; exact H
    clear H
    have H := H1
    clear H1
    obtain rfl := Option.some.inj H
    go_wp2
    go_ret
    exact ⟨by first | rfl | (simp [errW_none, errW_some] <;> rfl) | (simp [*, errW_none, errW_some] <;> rfl), by repeat (first | (with_reducible first | exact HB.out | apply below_alloc | apply pw_below_drewN | apply below_drew1 | refine bS10_ ?_ GE218.out | refine bS10_ ?_ GE230.out | refine bS10_ ?_ GE237.out | refine bS10_ ?_ GE242.out) | exact HB.out)⟩
   replace c59 := Bool.eq_false_iff.mpr c59
   subst c59
   have H1 : ((laws_toStream.f kj10 l0_0 l0_1).bind fun bt244 => ((laws_eqStream.f kj10 t231 t234 bt244.1 bt244.2).bind fun t250 => (if t250 = true then ((laws_markStream.f kj10 t231 t234 1).bind fun bt251 => (if bt251.1 < 0 then (laws_FnExactStreamTree.j1 kj10 t229 true l0_0 l0_1 t226 t238) else ((laws_eqTree.f kj10 t238 t226).bind fun t254 => (if t254 = true then (laws_FnExactStreamTree.j1 kj10 t229 (t241 != t229) l0_0 l0_1 t226 t238) else (laws_FnExactStreamTree.j1 kj10 t229 true l0_0 l0_1 t226 t238))))) else (some false)))) = some r := by rw [if_neg (show ¬ (false = true) by decide)] at H; exact H
   clear H
   have H := H1
   clear H1
   replace H := Option.bind_eq_some_iff.mp H
   obtain ⟨⟨t244, t247⟩, A600, H⟩ := H
   replace H : ((laws_eqStream.f kj10 t231 t234 t244 t247).bind fun t250 => (if t250 = true then ((laws_markStream.f kj10 t231 t234 1).bind fun bt251 => (if bt251.1 < 0 then (laws_FnExactStreamTree.j1 kj10 t229 true l0_0 l0_1 t226 t238) else ((laws_eqTree.f kj10 t238 t226).bind fun t254 => (if t254 = true then (laws_FnExactStreamTree.j1 kj10 t229 (t241 != t229) l0_0 l0_1 t226 t238) else (laws_FnExactStreamTree.j1 kj10 t229 true l0_0 l0_1 t226 t238))))) else (some false))) = some r := H
   have A60 := aM10_ A600
   clear A600
   replace H := Option.bind_eq_some_iff.mp H
   obtain ⟨t250, A610, H⟩ := H
   replace H : (if t250 = true then ((laws_markStream.f kj10 t231 t234 1).bind fun bt251 => (if bt251.1 < 0 then (laws_FnExactStreamTree.j1 kj10 t229 true l0_0 l0_1 t226 t238) else ((laws_eqTree.f kj10 t238 t226).bind fun t254 => (if t254 = true then (laws_FnExactStreamTree.j1 kj10 t229 (t241 != t229) l0_0 l0_1 t226 t238) else (laws_FnExactStreamTree.j1 kj10 t229 true l0_0 l0_1 t226 t238))))) else (some false)) = some r := H
   have A61 := aM10_ A610
   clear A610
   by_cases c62 : t250 = true
   rotate_left
   ·replace c62 := Bool.eq_false_iff.mpr c62
    subst c62
    have H1 : (some false) = some r := by rw [if_neg (show ¬ (false = true) by decide)] at H; exact H
    clear H
    have H := H1
    clear H1
    obtain rfl := Option.some.inj H
    try go_wp2
    have n0_ := aM10_ (rD10_ HO_231000.out)
    have n1_ := aM10_ (rD10_ HO_238000.out)
    have n2_ := aM10_ (rD10_ HO_238001.out)
    have n3_ := aM10_ (rD10_ HO_243000.out)
    have n4_ := aM10_ (kD10_ BK218.out)
    have n5_ := aM10_ (kD10_ BK230.out)
    have n6_ := aM10_ (kD10_ BK237.out)
    have n7_ := aM10_ (kD10_ BK242.out)
    have n8_ := aM10_ (below_drew1 HB.out)
    clear HO_231000 HO_238000 HO_238001 HO_243000 BK218 BK230 BK237 BK242 HB
    have HO_231000 := n0_
    have HO_238000 := n1_
    have HO_238001 := n2_
    have HO_243000 := n3_
    have BK218 := n4_
    have BK230 := n5_
    have BK237 := n6_
    have BK242 := n7_
    have HB := n8_
    clear n0_ n1_ n2_ n3_ n4_ n5_ n6_ n7_ n8_
    refine start_ (n := 5) (S := fun w' => w'.cell? ⟨gb237, 0, none⟩ = some (.slice Ao27 t231.length co27) ∧ w'.cell? ⟨gb237, 1, none⟩ = some (.slice Ao31 t234.length co31) ∧ w'.cell? ⟨gb218, 0, none⟩ = some (.slice A0_0 l0_0.length c0_0) ∧ w'.cell? ⟨gb218, 1, none⟩ = some (.slice A0_1 l0_1.length c0_1)) (ds := []) #[false, false, false, false, false] (by kernel_rfl) rfl rfl ⟨(kC10_ BK237.out 0).trans rfl, (kC10_ BK237.out 1).trans rfl, (kC10_ BK218.out 0).trans rfl, (kC10_ BK218.out 1).trans rfl⟩ (fun hHeld => ?_)
    generalize wc.drew = w181 at HO_231000 HO_238000 HO_238001 HO_243000 BK218 BK230 BK237 BK242 HB hHeld ⊢
    refine take_ (i := 0) (N := some 41) (v := ?_) (a' := ?_) #[true, false, false, false, false] rfl rfl (by kernel_rfl) (fun _ _ _ h => h) (Or.inl ⟨by rfl, ?_⟩) hHeld ?_ ?_
    rotate_left
    ·rintro w' ⟨s0, s1, s2, s3⟩
     go_simp
     with_reducible rfl
    rotate_left
    ·exact q10x55_
    refine take_ (i := 1) (N := some 42) (v := ?_) (a' := ?_) #[true, true, false, false, false] rfl rfl (by kernel_rfl) (fun _ _ _ h => h) (Or.inl ⟨by rfl, ?_⟩) hHeld ?_ ?_
    rotate_left
    ·rintro w' ⟨s0, s1, s2, s3⟩
     go_simp
     with_reducible rfl
    rotate_left
    ·exact q10x55_
    refine one_ (i := 2) (N := some 43) #[true, true, true, false, false] rfl rfl (by kernel_rfl) (by decide) (fun K hK => ?_)
    refine goes_ Try.func19 (by kernel_rfl) rfl #[.agg #[.slice A0_0 l0_0.length c0_0, .slice A0_1 l0_1.length c0_1]] (by rfl) rfl rfl q10x4_ ?_
    with_reducible refine (laws_toStream.calls kj10 _ _ l0_0 _ _ l0_1 t244 t247 _ ?side1 ?side2 ?side3 ?side4 A60.out).mono ?_
    (case side1 => repeat (first | exact (Kd.C_below HR0_0.out HB.out) | (with_reducible refine Kd.C_alloc ?_ _) | (with_reducible refine Kd.C_drewN ?_ _) | (with_reducible refine Kd.C_drew ?_)))
    (case side2 => exact HC0_0.out)
    (case side3 => repeat (first | exact (Kd.C_below HR0_1.out HB.out) | (with_reducible refine Kd.C_alloc ?_ _) | (with_reducible refine Kd.C_drewN ?_ _) | (with_reducible refine Kd.C_drew ?_)))
    (case side4 => exact HC0_1.out)
    rintro e w182 ⟨v245, v248, rfl, ho0, ho1, hb⟩
    refine ⟨_, rfl, ?_⟩
    have n0_ := aM10_ (rB10_ q10x9_ hb)
    have n1_ := aM10_ (Kd.R_mono (Kd.R_told (Kd.R_told (Kd.R_old q10x7_ hb) (Kd.R_base ho0)) (Kd.R_base ho1)) (fun _ h_ => h_.1))
    have n2_ := aM10_ (Kd.R_mono (Kd.R_told (Kd.R_told (Kd.R_old q10x8_ hb) (Kd.R_base ho0)) (Kd.R_base ho1)) (fun _ h_ => h_.1))
    have n3_ := aM10_ (rB10_ q10x10_ hb)
    have n4_ := aM10_ (Kd.R_lower (Kd.R_new' (Kd.R_new' ho0 (Kd.R_lt q10x7_)) (Kd.R_lt q10x8_)) (below_size q10x1_))
    have n5_ := aM10_ (Kd.R_lower (Kd.R_new' (Kd.R_new' ho1 (Kd.R_lt q10x7_)) (Kd.R_lt q10x8_)) (below_size q10x1_))
    have n6_ := aM10_ (kB10_ (g := gb218) (o := .cells #[.slice A0_0 l0_0.length c0_0, .slice A0_1 l0_1.length c0_1] 32 (0, 0)) q10x2_ hb)
    have n7_ := aM10_ (kB10_ (g := gb230) (o := .cells #[.slice Ao21 t226.length co21] 55 (0, 0)) q10x3_ hb)
    have n8_ := aM10_ (kB10_ (g := gb237) (o := .cells #[.slice Ao27 t231.length co27, .slice Ao31 t234.length co31] 34 (0, 0)) q10x5_ hb)
    have n9_ := aM10_ (kB10_ (g := gb242) (o := .cells #[.slice Ao36 t238.length co36] 55 (0, 0)) q10x6_ hb)
    have n10_ := aM10_ (below_step q10x1_ hb)
    clear HO_231000 HO_238000 HO_238001 HO_243000 BK218 BK230 BK237 BK242 HB
    have HO_231000 := n0_
    have HO_238000 := n1_
    have HO_238001 := n2_
    have HO_243000 := n3_
    have HO246 := n4_
    have HO249 := n5_
    have BK218 := n6_
    have BK230 := n7_
    have BK237 := n8_
    have BK242 := n9_
    have HB := n10_
    clear n0_ n1_ n2_ n3_ n4_ n5_ n6_ n7_ n8_ n9_ n10_
    (try clear hb)
    (try clear hb2)
    (try clear hk)
    (try clear hi)
    (try clear ho0)
    (try clear ho1)
    obtain ⟨Ao183, co183, eo183⟩ := Kd.R_slice HO246.out
    (first | subst eo183 | (injection eo183 with f1_ f2_ f3_; have f4_ := f1_.symm; have f5_ := f3_.symm; clear f1_ f2_ f3_; subst f4_; subst f5_))
    obtain ⟨Ao184, co184, eo184⟩ := Kd.R_slice HO249.out
    (first | subst eo184 | (injection eo184 with f1_ f2_ f3_; have f4_ := f1_.symm; have f5_ := f3_.symm; clear f1_ f2_ f3_; subst f4_; subst f5_))
    refine hK.out _ _ ⟨(kC10_ BK237.out 0).trans rfl, (kC10_ BK237.out 1).trans rfl, (kC10_ BK218.out 0).trans rfl, (kC10_ BK218.out 1).trans rfl⟩ (fun hHeld => ?_)
    clear hK K
    refine norm_ (a' := ?_) ?_ ?_
    rotate_left
    ·show Act.put _ (some 43) _ = _
     simp only [Act.put, List.setIfInBounds_toArray, List.set_cons_zero, List.set_cons_succ, i64_w, i32_w]
     rfl
    refine one_ (i := 3) (N := some 44) #[true, true, true, true, false] rfl rfl (by kernel_rfl) (by decide) (fun K hK => ?_)
    refine goes_ Try.func21 (by kernel_rfl) rfl #[.agg #[.slice Ao27 t231.length co27, .slice Ao31 t234.length co31], .agg #[.slice Ao183 t244.length co183, .slice Ao184 t247.length co184]] (by rfl) rfl rfl q10x4_ ?_
    with_reducible refine (laws_eqStream.calls kj10 _ _ t231 _ _ t234 _ _ t244 _ _ t247 false _ ?side1 ?side2 ?side3 ?side4 ?side5 ?side6 ?side7 ?side8 A61.out).mono ?_
    (case side1 => repeat (first | exact (Kd.R_reads' HO_238000.out).2.2 | (with_reducible refine Kd.C_alloc ?_ _) | (with_reducible refine Kd.C_drewN ?_ _) | (with_reducible refine Kd.C_drew ?_)))
    (case side2 => exact (Kd.R_reads' HO_238000.out).2.1)
    (case side3 => repeat (first | exact (Kd.R_reads' HO_238001.out).2.2 | (with_reducible refine Kd.C_alloc ?_ _) | (with_reducible refine Kd.C_drewN ?_ _) | (with_reducible refine Kd.C_drew ?_)))
    (case side4 => exact (Kd.R_reads' HO_238001.out).2.1)
    (case side5 => repeat (first | exact (Kd.R_reads' HO246.out).2.2 | (with_reducible refine Kd.C_alloc ?_ _) | (with_reducible refine Kd.C_drewN ?_ _) | (with_reducible refine Kd.C_drew ?_)))
    (case side6 => exact (Kd.R_reads' HO246.out).2.1)
    (case side7 => repeat (first | exact (Kd.R_reads' HO249.out).2.2 | (with_reducible refine Kd.C_alloc ?_ _) | (with_reducible refine Kd.C_drewN ?_ _) | (with_reducible refine Kd.C_drew ?_)))
    (case side8 => exact (Kd.R_reads' HO249.out).2.1)
    rintro e w185 ⟨rfl, hb⟩
    refine ⟨_, rfl, ?_⟩
    have n0_ := aM10_ (rB10_ q10x9_ hb)
    have n1_ := aM10_ (rB10_ q10x7_ hb)
    have n2_ := aM10_ (rB10_ q10x8_ hb)
    have n3_ := aM10_ (rB10_ q10x10_ hb)
    have n4_ := aM10_ (rB10_ q10x28_ hb)
    have n5_ := aM10_ (rB10_ q10x29_ hb)
    have n6_ := aM10_ (kB10_ (g := gb218) (o := .cells #[.slice A0_0 l0_0.length c0_0, .slice A0_1 l0_1.length c0_1] 32 (0, 0)) q10x2_ hb)
    have n7_ := aM10_ (kB10_ (g := gb230) (o := .cells #[.slice Ao21 t226.length co21] 55 (0, 0)) q10x3_ hb)
    have n8_ := aM10_ (kB10_ (g := gb237) (o := .cells #[.slice Ao27 t231.length co27, .slice Ao31 t234.length co31] 34 (0, 0)) q10x5_ hb)
    have n9_ := aM10_ (kB10_ (g := gb242) (o := .cells #[.slice Ao36 t238.length co36] 55 (0, 0)) q10x6_ hb)
    have n10_ := aM10_ (below_step q10x1_ hb)
    clear HO_231000 HO_238000 HO_238001 HO_243000 HO246 HO249 BK218 BK230 BK237 BK242 HB
    have HO_231000 := n0_
    have HO_238000 := n1_
    have HO_238001 := n2_
    have HO_243000 := n3_
    have HO246 := n4_
    have HO249 := n5_
    have BK218 := n6_
    have BK230 := n7_
    have BK237 := n8_
    have BK242 := n9_
    have HB := n10_
    clear n0_ n1_ n2_ n3_ n4_ n5_ n6_ n7_ n8_ n9_ n10_
    (try clear hb)
    (try clear hb2)
    (try clear hk)
    (try clear hi)
    refine hK.out _ _ ⟨(kC10_ BK237.out 0).trans rfl, (kC10_ BK237.out 1).trans rfl, (kC10_ BK218.out 0).trans rfl, (kC10_ BK218.out 1).trans rfl⟩ (fun hHeld => ?_)
    clear hK K
    refine norm_ (a' := ?_) ?_ ?_
    rotate_left
    ·show Act.put _ (some 44) _ = _
     simp only [Act.put, List.setIfInBounds_toArray, List.set_cons_zero, List.set_cons_succ, i64_w, i32_w]
     rfl
    refine pure_ (i := 4) (N := some 45) (v := ?_) (a' := ?_) #[true, true, true, true, true] rfl rfl (by kernel_rfl) (fun _ _ _ h => h) (Or.inl ⟨by rfl, ?_⟩) ?_ ?_
    rotate_left
    ·intro w'
     go_simp
     with_reducible rfl
    rotate_left
    ·exact q10x55_
    refine done_ (by kernel_rfl) ?_
    try go_wp2
    go_ret
    exact ⟨by first | rfl | (simp [errW_none, errW_some] <;> rfl) | (simp [*, errW_none, errW_some] <;> rfl), by repeat (first | (with_reducible first | exact HB.out | apply below_alloc | apply pw_below_drewN | apply below_drew1 | refine bS10_ ?_ GE218.out | refine bS10_ ?_ GE230.out | refine bS10_ ?_ GE237.out | refine bS10_ ?_ GE242.out) | exact HB.out)⟩

   subst c62
   have H1 : ((laws_markStream.f kj10 t231 t234 1).bind fun bt251 => (if bt251.1 < 0 then (laws_FnExactStreamTree.j1 kj10 t229 true l0_0 l0_1 t226 t238) else ((laws_eqTree.f kj10 t238 t226).bind fun t254 => (if t254 = true then (laws_FnExactStreamTree.j1 kj10 t229 (t241 != t229) l0_0 l0_1 t226 t238) else (laws_FnExactStreamTree.j1 kj10 t229 true l0_0 l0_1 t226 t238))))) = some r := by rw [if_pos rfl] at H; exact H
   clear H
   have H := H1
   clear H1
   replace H := Option.bind_eq_some_iff.mp H
   obtain ⟨⟨t251, t252, t253⟩, A630, H⟩ := H
   replace H : (if t251 < 0 then (laws_FnExactStreamTree.j1 kj10 t229 true l0_0 l0_1 t226 t238) else ((laws_eqTree.f kj10 t238 t226).bind fun t254 => (if t254 = true then (laws_FnExactStreamTree.j1 kj10 t229 (t241 != t229) l0_0 l0_1 t226 t238) else (laws_FnExactStreamTree.j1 kj10 t229 true l0_0 l0_1 t226 t238)))) = some r := H
   have A63 := aM10_ A630
   clear A630
   have HC64 := aM10_ H
   clear H
   try go_wp2
   have n0_ := aM10_ (rD10_ HO_231000.out)
   have n1_ := aM10_ (rD10_ HO_238000.out)
   have n2_ := aM10_ (rD10_ HO_238001.out)
   have n3_ := aM10_ (rD10_ HO_243000.out)
   have n4_ := aM10_ (kD10_ BK218.out)
   have n5_ := aM10_ (kD10_ BK230.out)
   have n6_ := aM10_ (kD10_ BK237.out)
   have n7_ := aM10_ (kD10_ BK242.out)
   have n8_ := aM10_ (below_drew1 HB.out)
   clear HO_231000 HO_238000 HO_238001 HO_243000 BK218 BK230 BK237 BK242 HB
   have HO_231000 := n0_
   have HO_238000 := n1_
   have HO_238001 := n2_
   have HO_243000 := n3_
   have BK218 := n4_
   have BK230 := n5_
   have BK237 := n6_
   have BK242 := n7_
   have HB := n8_
   clear n0_ n1_ n2_ n3_ n4_ n5_ n6_ n7_ n8_
   refine start_ (n := 5) (S := fun w' => w'.cell? ⟨gb237, 0, none⟩ = some (.slice Ao27 t231.length co27) ∧ w'.cell? ⟨gb237, 1, none⟩ = some (.slice Ao31 t234.length co31) ∧ w'.cell? ⟨gb218, 0, none⟩ = some (.slice A0_0 l0_0.length c0_0) ∧ w'.cell? ⟨gb218, 1, none⟩ = some (.slice A0_1 l0_1.length c0_1)) (ds := []) #[false, false, false, false, false] (by kernel_rfl) rfl rfl ⟨(kC10_ BK237.out 0).trans rfl, (kC10_ BK237.out 1).trans rfl, (kC10_ BK218.out 0).trans rfl, (kC10_ BK218.out 1).trans rfl⟩ (fun hHeld => ?_)
   generalize wc.drew = w65 at HO_231000 HO_238000 HO_238001 HO_243000 BK218 BK230 BK237 BK242 HB hHeld ⊢
   refine take_ (i := 0) (N := some 41) (v := ?_) (a' := ?_) #[true, false, false, false, false] rfl rfl (by kernel_rfl) (fun _ _ _ h => h) (Or.inl ⟨by rfl, ?_⟩) hHeld ?_ ?_
   rotate_left
   ·rintro w' ⟨s0, s1, s2, s3⟩
    go_simp
    with_reducible rfl
   rotate_left
   ·exact q10x55_
   refine take_ (i := 1) (N := some 42) (v := ?_) (a' := ?_) #[true, true, false, false, false] rfl rfl (by kernel_rfl) (fun _ _ _ h => h) (Or.inl ⟨by rfl, ?_⟩) hHeld ?_ ?_
   rotate_left
   ·rintro w' ⟨s0, s1, s2, s3⟩
    go_simp
    with_reducible rfl
   rotate_left
   ·exact q10x55_
   refine one_ (i := 2) (N := some 43) #[true, true, true, false, false] rfl rfl (by kernel_rfl) (by decide) (fun K hK => ?_)
   refine goes_ Try.func19 (by kernel_rfl) rfl #[.agg #[.slice A0_0 l0_0.length c0_0, .slice A0_1 l0_1.length c0_1]] (by rfl) rfl rfl q10x4_ ?_
   with_reducible refine (laws_toStream.calls kj10 _ _ l0_0 _ _ l0_1 t244 t247 _ ?side1 ?side2 ?side3 ?side4 A60.out).mono ?_
   (case side1 => repeat (first | exact (Kd.C_below HR0_0.out HB.out) | (with_reducible refine Kd.C_alloc ?_ _) | (with_reducible refine Kd.C_drewN ?_ _) | (with_reducible refine Kd.C_drew ?_)))
   (case side2 => exact HC0_0.out)
   (case side3 => repeat (first | exact (Kd.C_below HR0_1.out HB.out) | (with_reducible refine Kd.C_alloc ?_ _) | (with_reducible refine Kd.C_drewN ?_ _) | (with_reducible refine Kd.C_drew ?_)))
   (case side4 => exact HC0_1.out)
   rintro e w66 ⟨v245, v248, rfl, ho0, ho1, hb⟩
   refine ⟨_, rfl, ?_⟩
   have n0_ := aM10_ (rB10_ q10x9_ hb)
   have n1_ := aM10_ (Kd.R_mono (Kd.R_told (Kd.R_told (Kd.R_old q10x7_ hb) (Kd.R_base ho0)) (Kd.R_base ho1)) (fun _ h_ => h_.1))
   have n2_ := aM10_ (Kd.R_mono (Kd.R_told (Kd.R_told (Kd.R_old q10x8_ hb) (Kd.R_base ho0)) (Kd.R_base ho1)) (fun _ h_ => h_.1))
   have n3_ := aM10_ (rB10_ q10x10_ hb)
   have n4_ := aM10_ (Kd.R_lower (Kd.R_new' (Kd.R_new' ho0 (Kd.R_lt q10x7_)) (Kd.R_lt q10x8_)) (below_size q10x1_))
   have n5_ := aM10_ (Kd.R_lower (Kd.R_new' (Kd.R_new' ho1 (Kd.R_lt q10x7_)) (Kd.R_lt q10x8_)) (below_size q10x1_))
   have n6_ := aM10_ (kB10_ (g := gb218) (o := .cells #[.slice A0_0 l0_0.length c0_0, .slice A0_1 l0_1.length c0_1] 32 (0, 0)) q10x2_ hb)
   have n7_ := aM10_ (kB10_ (g := gb230) (o := .cells #[.slice Ao21 t226.length co21] 55 (0, 0)) q10x3_ hb)
   have n8_ := aM10_ (kB10_ (g := gb237) (o := .cells #[.slice Ao27 t231.length co27, .slice Ao31 t234.length co31] 34 (0, 0)) q10x5_ hb)
   have n9_ := aM10_ (kB10_ (g := gb242) (o := .cells #[.slice Ao36 t238.length co36] 55 (0, 0)) q10x6_ hb)
   have n10_ := aM10_ (below_step q10x1_ hb)
   clear HO_231000 HO_238000 HO_238001 HO_243000 BK218 BK230 BK237 BK242 HB
   have HO_231000 := n0_
   have HO_238000 := n1_
   have HO_238001 := n2_
   have HO_243000 := n3_
   have HO246 := n4_
   have HO249 := n5_
   have BK218 := n6_
   have BK230 := n7_
   have BK237 := n8_
   have BK242 := n9_
   have HB := n10_
   clear n0_ n1_ n2_ n3_ n4_ n5_ n6_ n7_ n8_ n9_ n10_
   (try clear hb)
   (try clear hb2)
   (try clear hk)
   (try clear hi)
   (try clear ho0)
   (try clear ho1)
   obtain ⟨Ao67, co67, eo67⟩ := Kd.R_slice HO246.out
   (first | subst eo67 | (injection eo67 with f1_ f2_ f3_; have f4_ := f1_.symm; have f5_ := f3_.symm; clear f1_ f2_ f3_; subst f4_; subst f5_))
   obtain ⟨Ao68, co68, eo68⟩ := Kd.R_slice HO249.out
   (first | subst eo68 | (injection eo68 with f1_ f2_ f3_; have f4_ := f1_.symm; have f5_ := f3_.symm; clear f1_ f2_ f3_; subst f4_; subst f5_))
   refine hK.out _ _ ⟨(kC10_ BK237.out 0).trans rfl, (kC10_ BK237.out 1).trans rfl, (kC10_ BK218.out 0).trans rfl, (kC10_ BK218.out 1).trans rfl⟩ (fun hHeld => ?_)
   clear hK K
   refine norm_ (a' := ?_) ?_ ?_
   rotate_left
   ·show Act.put _ (some 43) _ = _
    simp only [Act.put, List.setIfInBounds_toArray, List.set_cons_zero, List.set_cons_succ, i64_w, i32_w]
    rfl
   refine one_ (i := 3) (N := some 44) #[true, true, true, true, false] rfl rfl (by kernel_rfl) (by decide) (fun K hK => ?_)
   refine goes_ Try.func21 (by kernel_rfl) rfl #[.agg #[.slice Ao27 t231.length co27, .slice Ao31 t234.length co31], .agg #[.slice Ao67 t244.length co67, .slice Ao68 t247.length co68]] (by rfl) rfl rfl q10x4_ ?_
   with_reducible refine (laws_eqStream.calls kj10 _ _ t231 _ _ t234 _ _ t244 _ _ t247 true _ ?side1 ?side2 ?side3 ?side4 ?side5 ?side6 ?side7 ?side8 A61.out).mono ?_
   (case side1 => repeat (first | exact (Kd.R_reads' HO_238000.out).2.2 | (with_reducible refine Kd.C_alloc ?_ _) | (with_reducible refine Kd.C_drewN ?_ _) | (with_reducible refine Kd.C_drew ?_)))
   (case side2 => exact (Kd.R_reads' HO_238000.out).2.1)
   (case side3 => repeat (first | exact (Kd.R_reads' HO_238001.out).2.2 | (with_reducible refine Kd.C_alloc ?_ _) | (with_reducible refine Kd.C_drewN ?_ _) | (with_reducible refine Kd.C_drew ?_)))
   (case side4 => exact (Kd.R_reads' HO_238001.out).2.1)
   (case side5 => repeat (first | exact (Kd.R_reads' HO246.out).2.2 | (with_reducible refine Kd.C_alloc ?_ _) | (with_reducible refine Kd.C_drewN ?_ _) | (with_reducible refine Kd.C_drew ?_)))
   (case side6 => exact (Kd.R_reads' HO246.out).2.1)
   (case side7 => repeat (first | exact (Kd.R_reads' HO249.out).2.2 | (with_reducible refine Kd.C_alloc ?_ _) | (with_reducible refine Kd.C_drewN ?_ _) | (with_reducible refine Kd.C_drew ?_)))
   (case side8 => exact (Kd.R_reads' HO249.out).2.1)
   rintro e w69 ⟨rfl, hb⟩
   refine ⟨_, rfl, ?_⟩
   have n0_ := aM10_ (rB10_ q10x9_ hb)
   have n1_ := aM10_ (rB10_ q10x7_ hb)
   have n2_ := aM10_ (rB10_ q10x8_ hb)
   have n3_ := aM10_ (rB10_ q10x10_ hb)
   have n4_ := aM10_ (rB10_ q10x28_ hb)
   have n5_ := aM10_ (rB10_ q10x29_ hb)
   have n6_ := aM10_ (kB10_ (g := gb218) (o := .cells #[.slice A0_0 l0_0.length c0_0, .slice A0_1 l0_1.length c0_1] 32 (0, 0)) q10x2_ hb)
   have n7_ := aM10_ (kB10_ (g := gb230) (o := .cells #[.slice Ao21 t226.length co21] 55 (0, 0)) q10x3_ hb)
   have n8_ := aM10_ (kB10_ (g := gb237) (o := .cells #[.slice Ao27 t231.length co27, .slice Ao31 t234.length co31] 34 (0, 0)) q10x5_ hb)
   have n9_ := aM10_ (kB10_ (g := gb242) (o := .cells #[.slice Ao36 t238.length co36] 55 (0, 0)) q10x6_ hb)
   have n10_ := aM10_ (below_step q10x1_ hb)
   clear HO_231000 HO_238000 HO_238001 HO_243000 HO246 HO249 BK218 BK230 BK237 BK242 HB
   have HO_231000 := n0_
   have HO_238000 := n1_
   have HO_238001 := n2_
   have HO_243000 := n3_
   have HO246 := n4_
   have HO249 := n5_
   have BK218 := n6_
   have BK230 := n7_
   have BK237 := n8_
   have BK242 := n9_
   have HB := n10_
   clear n0_ n1_ n2_ n3_ n4_ n5_ n6_ n7_ n8_ n9_ n10_
   (try clear hb)
   (try clear hb2)
   (try clear hk)
   (try clear hi)
   refine hK.out _ _ ⟨(kC10_ BK237.out 0).trans rfl, (kC10_ BK237.out 1).trans rfl, (kC10_ BK218.out 0).trans rfl, (kC10_ BK218.out 1).trans rfl⟩ (fun hHeld => ?_)
   clear hK K
   refine norm_ (a' := ?_) ?_ ?_
   rotate_left
   ·show Act.put _ (some 44) _ = _
    simp only [Act.put, List.setIfInBounds_toArray, List.set_cons_zero, List.set_cons_succ, i64_w, i32_w]
    rfl
   refine pure_ (i := 4) (N := some 45) (v := ?_) (a' := ?_) #[true, true, true, true, true] rfl rfl (by kernel_rfl) (fun _ _ _ h => h) (Or.inl ⟨by rfl, ?_⟩) ?_ ?_
   rotate_left
   ·intro w'
    go_simp
    with_reducible rfl
   rotate_left
   ·exact q10x55_
   refine done_ (by kernel_rfl) ?_
   have hnb70 := NB237_218.out
   have hnc70 := NB218_237.out
   have hnb71 := NB237_230.out
   have hnc71 := NB230_237.out
   have hnb72 := NB237_242.out
   have hnc72 := NB242_237.out
   have hcz73_0 : w69.cell? ⟨gb237, 0, none⟩ = some (.slice Ao27 t231.length co27) := (kC10_ BK237.out 0).trans rfl
   have hcz73_1 : w69.cell? ⟨gb237, 1, none⟩ = some (.slice Ao31 t234.length co31) := (kC10_ BK237.out 1).trans rfl
   have hfz73_0 := blk_frozen BK237.out 0
   have hfz73_1 := blk_frozen BK237.out 1
   go_upto_region 14 with (first | ((with_reducible refine gate_callee (f := 22) rfl ?_); refine goesL_ (some 48) rfl rfl Try.func22 (by kernel_rfl) rfl #[.agg #[.slice Ao27 t231.length co27, .slice Ao31 t234.length co31], .int .i64 1] rfl q10x4_ ?_; (with_reducible refine (laws_markStream.calls kj10 (fun k_ => some k_ = (.slice Ao27 t231.length co27 : Value).ownBlock) (.slice Ao27 t231.length co27) t231 (fun k_ => some k_ = (.slice Ao31 t234.length co31 : Value).ownBlock) (.slice Ao31 t234.length co31) t234 1 t251 t252 t253 w _ ?side1 ?side2 ?side3 ?side4 ?side5 A63.out).mono ?_); (case side1 => repeat (first | (with_reducible first | exact HB.out | apply below_alloc | apply pw_below_drewN | apply below_drew1 | refine bS10_ ?_ GE218.out | refine bS10_ ?_ GE230.out | refine bS10_ ?_ GE237.out | refine bS10_ ?_ GE242.out) | exact HB.out)); (case side2 => exact Kd.R_tight rfl HO_238000.out); (case side3 => exact fun k_ e_ => (HO_238000.out.1 k_ e_.symm).1.1); (case side4 => exact Kd.R_tight rfl HO_238001.out); (case side5 => exact fun k_ e_ => (HO_238001.out.1 k_ e_.symm).1.1); rintro e w74 ⟨rfl, hy0, hy1, hb, hkp⟩; refine ⟨_, rfl, ?_⟩; have n0_ := aM10_ (Kd.R_mono (ok' := fun k_ => some k_ ≠ (.slice Ao36 t238.length co36 : Value).ownBlock) (Kd.R_keptB ((Kd.R_apart' (Kd.R_apart' HO_231000.out (Kd.R_typed HO_238000.out) (by decide)) (Kd.R_typed HO_238001.out) (by decide))) hkp (fun k_ hk_ hs_ => Or.elim hs_ (fun e_ => (hk_.1.2) e_) (fun e_ => (hk_.2) e_))) (fun k_ hk_ => hk_.1.1.1)); have n1_ := aM10_ (Kd.R_reok rfl hy0 (fun k_ e_ => HO_238000.out.1 k_ e_)); have n2_ := aM10_ (Kd.R_reok rfl hy1 (fun k_ e_ => HO_238001.out.1 k_ e_)); have n3_ := aM10_ (Kd.R_mono (ok' := fun k_ => some k_ ≠ (.slice Ao21 t226.length co21 : Value).ownBlock) (Kd.R_keptB ((Kd.R_apart' (Kd.R_apart' HO_243000.out (Kd.R_typed HO_238000.out) (by decide)) (Kd.R_typed HO_238001.out) (by decide))) hkp (fun k_ hk_ hs_ => Or.elim hs_ (fun e_ => (hk_.1.2) e_) (fun e_ => (hk_.2) e_))) (fun k_ hk_ => hk_.1.1.1)); have n4_ := aM10_ (blk_kept q10x2_ hkp (fun hs_ => Or.elim hs_ (fun e_ => (fun e_ => (Kd.R_ne HO_238000.out BK218.out (by decide)) e_) e_) (fun e_ => (fun e_ => (Kd.R_ne HO_238001.out BK218.out (by decide)) e_) e_))); have n5_ := aM10_ (blk_kept q10x3_ hkp (fun hs_ => Or.elim hs_ (fun e_ => (fun e_ => (Kd.R_ne HO_238000.out BK230.out (by decide)) e_) e_) (fun e_ => (fun e_ => (Kd.R_ne HO_238001.out BK230.out (by decide)) e_) e_))); have n6_ := aM10_ (blk_kept q10x5_ hkp (fun hs_ => Or.elim hs_ (fun e_ => (fun e_ => (Kd.R_ne HO_238000.out BK237.out (by decide)) e_) e_) (fun e_ => (fun e_ => (Kd.R_ne HO_238001.out BK237.out (by decide)) e_) e_))); have n7_ := aM10_ (blk_kept q10x6_ hkp (fun hs_ => Or.elim hs_ (fun e_ => (fun e_ => (Kd.R_ne HO_238000.out BK242.out (by decide)) e_) e_) (fun e_ => (fun e_ => (Kd.R_ne HO_238001.out BK242.out (by decide)) e_) e_))); have n8_ := aM10_ (Kd.R_mono (ok' := fun k_ => some k_ ≠ (.slice Ao27 t231.length co27 : Value).ownBlock ∧ some k_ ≠ (.slice Ao31 t234.length co31 : Value).ownBlock ∧ some k_ ≠ (.slice Ao68 t247.length co68 : Value).ownBlock) (Kd.R_keptB (HO246.out) hkp (fun k_ hk_ hs_ => Or.elim hs_ (fun e_ => (hk_.1.2) e_) (fun e_ => (hk_.2) e_))) (fun k_ hk_ => ⟨hk_.1.1.2, hk_.1.2, hk_.1.1.1⟩)); have n9_ := aM10_ (Kd.R_mono (ok' := fun k_ => some k_ ≠ (.slice Ao27 t231.length co27 : Value).ownBlock ∧ some k_ ≠ (.slice Ao31 t234.length co31 : Value).ownBlock ∧ some k_ ≠ (.slice Ao67 t244.length co67 : Value).ownBlock) (Kd.R_keptB (HO249.out) hkp (fun k_ hk_ hs_ => Or.elim hs_ (fun e_ => (hk_.1.2) e_) (fun e_ => (hk_.2) e_))) (fun k_ hk_ => ⟨hk_.1.1.2, hk_.1.2, hk_.1.1.1⟩)); have n10_ := aM10_ (hb); clear HO_231000; clear HO_238000; clear HO_238001; clear HO_243000; clear BK218; clear BK230; clear BK237; clear BK242; clear HO246; clear HO249; clear HB; have HO_231000 := n0_; have HO_238000 := n1_; have HO_238001 := n2_; have HO_243000 := n3_; have BK218 := n4_; have BK230 := n5_; have BK237 := n6_; have BK242 := n7_; have HO246 := n8_; have HO249 := n9_; have HB := n10_; clear n0_ n1_ n2_ n3_ n4_ n5_ n6_ n7_ n8_ n9_ n10_; (try clear hb); (try clear hkp); (try clear hy0); (try clear hy1)))
   (try simp only [Act.put, List.setIfInBounds_toArray, List.set_cons_zero, List.set_cons_succ])
   go_cut [61] (fun v61 wc => ∃ (kq : Nat) (x61_63 : Bool), v61 = .bool x61_63 ∧ Aside0 (laws_FnExactStreamTree.j1 kq t229 x61_63 l0_0 l0_1 t226 t238 = some r) ∧ Aside0 (kq ≤ kj10) ∧ Aside0 (Kd.R k104 104 wc w.heap.size (fun k_ => some k_ ≠ ((.slice Ao36 t238.length co36) : Value).ownBlock) (.slice Ao21 t226.length co21) t226) ∧ Aside0 (Kd.R (Kd.int .i8) 69 wc w.heap.size (fun k_ => some k_ ≠ ((.slice Ao31 t234.length co31) : Value).ownBlock) (.slice Ao27 t231.length co27) t252) ∧ Aside0 (Kd.R (Kd.int .i8) 69 wc w.heap.size (fun k_ => some k_ ≠ ((.slice Ao27 t231.length co27) : Value).ownBlock) (.slice Ao31 t234.length co31) t253) ∧ Aside0 (Kd.R k104 104 wc w.heap.size (fun k_ => some k_ ≠ ((.slice Ao21 t226.length co21) : Value).ownBlock) (.slice Ao36 t238.length co36) t238) ∧ Aside0 (wc.heap[gb218]? = some (.cells #[(.slice A0_0 l0_0.length c0_0), (.slice A0_1 l0_1.length c0_1)] 32 (0, 0))) ∧ Aside0 (wc.heap[gb230]? = some (.cells #[(.slice Ao21 t226.length co21)] 55 (0, 0))) ∧ Aside0 (wc.heap[gb237]? = some (.cells #[(.slice Ao27 t231.length co27), (.slice Ao31 t234.length co31)] 34 (0, 0))) ∧ Aside0 (wc.heap[gb242]? = some (.cells #[(.slice Ao36 t238.length co36)] 55 (0, 0))) ∧ Aside0 (Below w.heap.size w wc))
   case first =>
    have H := HC64.out
    clear HC64
    by_cases c75 : t251 < 0
    ·rw [if_pos c75] at H
     have c75b0 : decide (t251 < 0) = true := decide_eq_true c75
     clear c75
     (first | rw [c75b0] | (simp only [i64_w, i32_w]; rw [c75b0]) | skip)
     have H' := aM10_ H
     clear H
     go_wp2
     go_meet
     case rel => exact ⟨_, (true), q10x32_, H', ⟨by have := HJ10.out; first | omega | exact Nat.le_refl _⟩, ⟨by (with_reducible repeat (first | apply rA10_ | apply rN10_ | apply rD10_)); exact HO_231000.out⟩, ⟨by (with_reducible repeat (first | apply rA10_ | apply rN10_ | apply rD10_)); exact Kd.R_mono HO_238000.out (fun _ hk => hk.1.1)⟩, ⟨by (with_reducible repeat (first | apply rA10_ | apply rN10_ | apply rD10_)); exact Kd.R_mono HO_238001.out (fun _ hk => hk.1.1)⟩, ⟨by (with_reducible repeat (first | apply rA10_ | apply rN10_ | apply rD10_)); exact HO_243000.out⟩, ⟨by (with_reducible repeat (first | refine kN10_ ?_ _ | refine kD10_ ?_ | refine kA10_ ?_ _)); exact BK218.out⟩, ⟨by (with_reducible repeat (first | refine kN10_ ?_ _ | refine kD10_ ?_ | refine kA10_ ?_ _)); exact BK230.out⟩, ⟨by (with_reducible repeat (first | refine kN10_ ?_ _ | refine kD10_ ?_ | refine kA10_ ?_ _)); exact BK237.out⟩, ⟨by (with_reducible repeat (first | refine kN10_ ?_ _ | refine kD10_ ?_ | refine kA10_ ?_ _)); exact BK242.out⟩, ⟨by repeat (first | (with_reducible first | exact HB.out | apply below_alloc | apply pw_below_drewN | apply below_drew1 | refine bS10_ ?_ GE218.out | refine bS10_ ?_ GE230.out | refine bS10_ ?_ GE237.out | refine bS10_ ?_ GE242.out) | exact HB.out)⟩⟩
    rw [if_neg c75] at H
    have c75b0 : decide (t251 < 0) = false := decide_eq_false c75
    clear c75
    (first | rw [c75b0] | (simp only [i64_w, i32_w]; rw [c75b0]) | skip)
    replace H := Option.bind_eq_some_iff.mp H
    obtain ⟨t254, A760, H⟩ := H
    replace H : (if t254 = true then (laws_FnExactStreamTree.j1 kj10 t229 (t241 != t229) l0_0 l0_1 t226 t238) else (laws_FnExactStreamTree.j1 kj10 t229 true l0_0 l0_1 t226 t238)) = some r := H
    have A76 := aM10_ A760
    clear A760
    by_cases c77 : t254 = true
    ·subst c77
     have H1 : (laws_FnExactStreamTree.j1 kj10 t229 (t241 != t229) l0_0 l0_1 t226 t238) = some r := by rw [if_pos rfl] at H; exact H
     clear H
     have H := H1
     clear H1
     have H' := aM10_ H
     clear H
     have hnb78 := NB242_218.out
     have hnc78 := NB218_242.out
     have hnb79 := NB242_230.out
     have hnc79 := NB230_242.out
     have hnb80 := NB242_237.out
     have hnc80 := NB237_242.out
     have hcz81_0 : w74.cell? ⟨gb242, 0, none⟩ = some (.slice Ao36 t238.length co36) := (kC10_ BK242.out 0).trans rfl
     have hfz81_0 := blk_frozen BK242.out 0
     have hnb82 := NB230_218.out
     have hnc82 := NB218_230.out
     have hnb83 := NB230_237.out
     have hnc83 := NB237_230.out
     have hcz84_0 : w74.cell? ⟨gb230, 0, none⟩ = some (.slice Ao21 t226.length co21) := (kC10_ BK230.out 0).trans rfl
     have hfz84_0 := blk_frozen BK230.out 0
     go_wp2_with (first | (go_at_call 37; (with_reducible refine (laws_eqTree.calls kj10 _ _ t238 _ _ t226 true _ ?side1 ?side2 ?side3 ?side4 A76.out).mono ?_); (case side1 => repeat (first | exact (Kd.R_reads' HO_243000.out).2.2 | (with_reducible refine Kd.C_alloc ?_ _) | (with_reducible refine Kd.C_drewN ?_ _) | (with_reducible refine Kd.C_drew ?_))); (case side2 => exact (Kd.R_reads' HO_243000.out).2.1); (case side3 => repeat (first | exact (Kd.R_reads' HO_231000.out).2.2 | (with_reducible refine Kd.C_alloc ?_ _) | (with_reducible refine Kd.C_drewN ?_ _) | (with_reducible refine Kd.C_drew ?_))); (case side4 => exact (Kd.R_reads' HO_231000.out).2.1); rintro e w85 ⟨rfl, hb⟩; have n0_ := aM10_ (rB10_ q10x9_ hb); have n1_ := aM10_ (rB10_ q10x7_ hb); have n2_ := aM10_ (rB10_ q10x8_ hb); have n3_ := aM10_ (rB10_ q10x10_ hb); have n4_ := aM10_ (rB10_ q10x28_ hb); have n5_ := aM10_ (rB10_ q10x29_ hb); have n6_ := aM10_ (kB10_ (g := gb218) (o := .cells #[.slice A0_0 l0_0.length c0_0, .slice A0_1 l0_1.length c0_1] 32 (0, 0)) q10x2_ hb); have n7_ := aM10_ (kB10_ (g := gb230) (o := .cells #[.slice Ao21 t226.length co21] 55 (0, 0)) q10x3_ hb); have n8_ := aM10_ (kB10_ (g := gb237) (o := .cells #[.slice Ao27 t231.length co27, .slice Ao31 t234.length co31] 34 (0, 0)) q10x5_ hb); have n9_ := aM10_ (kB10_ (g := gb242) (o := .cells #[.slice Ao36 t238.length co36] 55 (0, 0)) q10x6_ hb); have n10_ := aM10_ (below_step q10x1_ hb); clear HO_231000; clear HO_238000; clear HO_238001; clear HO_243000; clear HO246; clear HO249; clear BK218; clear BK230; clear BK237; clear BK242; clear HB; have HO_231000 := n0_; have HO_238000 := n1_; have HO_238001 := n2_; have HO_243000 := n3_; have HO246 := n4_; have HO249 := n5_; have BK218 := n6_; have BK230 := n7_; have BK237 := n8_; have BK242 := n9_; have HB := n10_; clear n0_ n1_ n2_ n3_ n4_ n5_ n6_ n7_ n8_ n9_ n10_; (try clear hb); (try clear hb2); (try clear hk); (try clear hi)))
     go_meet
     case rel => exact ⟨_, ((t241 != t229)), q10x32_, H', ⟨by have := HJ10.out; first | omega | exact Nat.le_refl _⟩, ⟨by (with_reducible repeat (first | apply rA10_ | apply rN10_ | apply rD10_)); exact HO_231000.out⟩, ⟨by (with_reducible repeat (first | apply rA10_ | apply rN10_ | apply rD10_)); exact Kd.R_mono HO_238000.out (fun _ hk => hk.1.1)⟩, ⟨by (with_reducible repeat (first | apply rA10_ | apply rN10_ | apply rD10_)); exact Kd.R_mono HO_238001.out (fun _ hk => hk.1.1)⟩, ⟨by (with_reducible repeat (first | apply rA10_ | apply rN10_ | apply rD10_)); exact HO_243000.out⟩, ⟨by (with_reducible repeat (first | refine kN10_ ?_ _ | refine kD10_ ?_ | refine kA10_ ?_ _)); exact BK218.out⟩, ⟨by (with_reducible repeat (first | refine kN10_ ?_ _ | refine kD10_ ?_ | refine kA10_ ?_ _)); exact BK230.out⟩, ⟨by (with_reducible repeat (first | refine kN10_ ?_ _ | refine kD10_ ?_ | refine kA10_ ?_ _)); exact BK237.out⟩, ⟨by (with_reducible repeat (first | refine kN10_ ?_ _ | refine kD10_ ?_ | refine kA10_ ?_ _)); exact BK242.out⟩, ⟨by repeat (first | (with_reducible first | exact HB.out | apply below_alloc | apply pw_below_drewN | apply below_drew1 | refine bS10_ ?_ GE218.out | refine bS10_ ?_ GE230.out | refine bS10_ ?_ GE237.out | refine bS10_ ?_ GE242.out) | exact HB.out)⟩⟩
    replace c77 := Bool.eq_false_iff.mpr c77
    subst c77
    have H1 : (laws_FnExactStreamTree.j1 kj10 t229 true l0_0 l0_1 t226 t238) = some r := by rw [if_neg (show ¬ (false = true) by decide)] at H; exact H
    clear H
    have H := H1
    clear H1
    have H' := aM10_ H
    clear H
    have hnb86 := NB242_218.out
    have hnc86 := NB218_242.out
    have hnb87 := NB242_230.out
    have hnc87 := NB230_242.out
    have hnb88 := NB242_237.out
    have hnc88 := NB237_242.out
    have hcz89_0 : w74.cell? ⟨gb242, 0, none⟩ = some (.slice Ao36 t238.length co36) := (kC10_ BK242.out 0).trans rfl
    have hfz89_0 := blk_frozen BK242.out 0
    have hnb90 := NB230_218.out
    have hnc90 := NB218_230.out
    have hnb91 := NB230_237.out
    have hnc91 := NB237_230.out
    have hcz92_0 : w74.cell? ⟨gb230, 0, none⟩ = some (.slice Ao21 t226.length co21) := (kC10_ BK230.out 0).trans rfl
    have hfz92_0 := blk_frozen BK230.out 0
    go_wp2_with (first | (go_at_call 37; (with_reducible refine (laws_eqTree.calls kj10 _ _ t238 _ _ t226 false _ ?side1 ?side2 ?side3 ?side4 A76.out).mono ?_); (case side1 => repeat (first | exact (Kd.R_reads' HO_243000.out).2.2 | (with_reducible refine Kd.C_alloc ?_ _) | (with_reducible refine Kd.C_drewN ?_ _) | (with_reducible refine Kd.C_drew ?_))); (case side2 => exact (Kd.R_reads' HO_243000.out).2.1); (case side3 => repeat (first | exact (Kd.R_reads' HO_231000.out).2.2 | (with_reducible refine Kd.C_alloc ?_ _) | (with_reducible refine Kd.C_drewN ?_ _) | (with_reducible refine Kd.C_drew ?_))); (case side4 => exact (Kd.R_reads' HO_231000.out).2.1); rintro e w93 ⟨rfl, hb⟩; have n0_ := aM10_ (rB10_ q10x9_ hb); have n1_ := aM10_ (rB10_ q10x7_ hb); have n2_ := aM10_ (rB10_ q10x8_ hb); have n3_ := aM10_ (rB10_ q10x10_ hb); have n4_ := aM10_ (rB10_ q10x28_ hb); have n5_ := aM10_ (rB10_ q10x29_ hb); have n6_ := aM10_ (kB10_ (g := gb218) (o := .cells #[.slice A0_0 l0_0.length c0_0, .slice A0_1 l0_1.length c0_1] 32 (0, 0)) q10x2_ hb); have n7_ := aM10_ (kB10_ (g := gb230) (o := .cells #[.slice Ao21 t226.length co21] 55 (0, 0)) q10x3_ hb); have n8_ := aM10_ (kB10_ (g := gb237) (o := .cells #[.slice Ao27 t231.length co27, .slice Ao31 t234.length co31] 34 (0, 0)) q10x5_ hb); have n9_ := aM10_ (kB10_ (g := gb242) (o := .cells #[.slice Ao36 t238.length co36] 55 (0, 0)) q10x6_ hb); have n10_ := aM10_ (below_step q10x1_ hb); clear HO_231000; clear HO_238000; clear HO_238001; clear HO_243000; clear HO246; clear HO249; clear BK218; clear BK230; clear BK237; clear BK242; clear HB; have HO_231000 := n0_; have HO_238000 := n1_; have HO_238001 := n2_; have HO_243000 := n3_; have HO246 := n4_; have HO249 := n5_; have BK218 := n6_; have BK230 := n7_; have BK237 := n8_; have BK242 := n9_; have HB := n10_; clear n0_ n1_ n2_ n3_ n4_ n5_ n6_ n7_ n8_ n9_ n10_; (try clear hb); (try clear hb2); (try clear hk); (try clear hi)))
    go_meet
    case rel => exact ⟨_, (true), q10x32_, H', ⟨by have := HJ10.out; first | omega | exact Nat.le_refl _⟩, ⟨by (with_reducible repeat (first | apply rA10_ | apply rN10_ | apply rD10_)); exact HO_231000.out⟩, ⟨by (with_reducible repeat (first | apply rA10_ | apply rN10_ | apply rD10_)); exact Kd.R_mono HO_238000.out (fun _ hk => hk.1.1)⟩, ⟨by (with_reducible repeat (first | apply rA10_ | apply rN10_ | apply rD10_)); exact Kd.R_mono HO_238001.out (fun _ hk => hk.1.1)⟩, ⟨by (with_reducible repeat (first | apply rA10_ | apply rN10_ | apply rD10_)); exact HO_243000.out⟩, ⟨by (with_reducible repeat (first | refine kN10_ ?_ _ | refine kD10_ ?_ | refine kA10_ ?_ _)); exact BK218.out⟩, ⟨by (with_reducible repeat (first | refine kN10_ ?_ _ | refine kD10_ ?_ | refine kA10_ ?_ _)); exact BK230.out⟩, ⟨by (with_reducible repeat (first | refine kN10_ ?_ _ | refine kD10_ ?_ | refine kA10_ ?_ _)); exact BK237.out⟩, ⟨by (with_reducible repeat (first | refine kN10_ ?_ _ | refine kD10_ ?_ | refine kA10_ ?_ _)); exact BK242.out⟩, ⟨by repeat (first | (with_reducible first | exact HB.out | apply below_alloc | apply pw_below_drewN | apply below_drew1 | refine bS10_ ?_ GE218.out | refine bS10_ ?_ GE230.out | refine bS10_ ?_ GE237.out | refine bS10_ ?_ GE242.out) | exact HB.out)⟩⟩
   case rest =>
    clear HC64
    try clear c1
    try clear c2
    try clear p2
    try clear c3
    try clear c3b0
    try clear c4
    try clear c5
    try clear c6
    try clear c7
    try clear c8
    try clear c9
    try clear c10
    try clear c17
    try clear c19
    try clear c21
    try clear c22
    try clear c28
    try clear c29
    try clear c35
    try clear c36
    try clear c37
    try clear c38
    try clear c39
    try clear c42
    try clear c43
    try clear c44
    try clear c45
    try clear c47
    try clear c48
    try clear c51
    try clear c52
    try clear c53
    try clear c55
    try clear c56
    try clear c59
    try clear c62
    try clear c70
    try clear c71
    try clear c72
    try clear c75
    try clear c75b0
    try clear c77
    try clear c78
    try clear c79
    try clear c80
    try clear c82
    try clear c83
    try clear c86
    try clear c87
    try clear c88
    try clear c90
    try clear c91
    try clear hcz13_0
    try clear hcz13_1
    try clear hcz15_0
    try clear hcz15_1
    try clear hcz23_0
    try clear hcz24_0
    try clear hcz24_1
    try clear hcz30_0
    try clear hcz30_1
    try clear hcz33_0
    try clear hcz33_1
    try clear hcz40_0
    try clear hcz46_0
    try clear hcz49_0
    try clear hcz54_0
    try clear hcz57_0
    try clear hcz5_0
    try clear hcz5_1
    try clear hcz73_0
    try clear hcz73_1
    try clear hcz81_0
    try clear hcz84_0
    try clear hcz89_0
    try clear hcz92_0
    try clear hfz13_0
    try clear hfz13_1
    try clear hfz15_0
    try clear hfz15_1
    try clear hfz23_0
    try clear hfz24_0
    try clear hfz24_1
    try clear hfz30_0
    try clear hfz30_1
    try clear hfz33_0
    try clear hfz33_1
    try clear hfz40_0
    try clear hfz46_0
    try clear hfz49_0
    try clear hfz54_0
    try clear hfz57_0
    try clear hfz5_0
    try clear hfz5_1
    try clear hfz73_0
    try clear hfz73_1
    try clear hfz81_0
    try clear hfz84_0
    try clear hfz89_0
    try clear hfz92_0
    try clear p2
    obtain ⟨kq, x61_63, rfl, HA, HJ63, HO_231000, HO_238000, HO_238001, HO_243000, BK218, BK230, BK237, BK242, HB⟩ := hcut
    have hl238000_63 := (Kd.R_reads' HO_238000.out).1
    rw [hl238000_63] at HO_238000
    (try simp only [hl238000_63])
    (try simp only [hl238000_63] at BK218)
    (try simp only [hl238000_63] at BK230)
    (try simp only [hl238000_63] at BK237)
    (try simp only [hl238000_63] at BK242)
    (try simp only [hl238000_63] at HO_231000)
    (try simp only [hl238000_63] at HO_238001)
    (try simp only [hl238000_63] at HO_243000)
    have hl238001_63 := (Kd.R_reads' HO_238001.out).1
    rw [hl238001_63] at HO_238001
    (try simp only [hl238001_63])
    (try simp only [hl238001_63] at BK218)
    (try simp only [hl238001_63] at BK230)
    (try simp only [hl238001_63] at BK237)
    (try simp only [hl238001_63] at BK242)
    (try simp only [hl238001_63] at HO_231000)
    (try simp only [hl238001_63] at HO_238000)
    (try simp only [hl238001_63] at HO_243000)
    cases kq with
    | zero => exact absurd HA.out (by simp [laws_FnExactStreamTree.j1])
    | succ kj63 =>
     have H := HA.out
     clear HA
     simp only [laws_FnExactStreamTree.j1] at H
     by_cases c94 : x61_63 = true
     ·subst c94
      have H1 : (some false) = some r := by rw [if_pos rfl] at H; exact H
      clear H
      have H := H1
      clear H1
      obtain rfl := Option.some.inj H
      go_wp2
      go_ret
      exact ⟨by first | rfl | (simp [errW_none, errW_some] <;> rfl) | (simp [*, errW_none, errW_some] <;> rfl), by repeat (first | (with_reducible first | exact HB.out | apply below_alloc | apply pw_below_drewN | apply below_drew1 | refine bS10_ ?_ GE218.out | refine bS10_ ?_ GE230.out | refine bS10_ ?_ GE237.out | refine bS10_ ?_ GE242.out) | exact HB.out)⟩
     replace c94 := Bool.eq_false_iff.mpr c94
     subst c94
     have H1 : ((laws_markTree.f kj63 t238 1).bind fun bt255 => ((laws_heldTree.f kj63 bt255.2 1).bind fun t257 => (if t257 < 0 then (some false) else (if t257 = bt255.1 then ((laws_toStream.f kj63 l0_0 l0_1).bind fun bt258 => ((impl_StreamTree.f kj63 bt258.1 bt258.2).bind fun bt264 => ((laws_eqTree.f kj63 bt264.1 t226).bind fun t269 => (if t269 = true then (laws_FnExactStreamTree.j2 kj63 bt255.1 (bt264.2 != t229) bt255.2) else (laws_FnExactStreamTree.j2 kj63 bt255.1 true bt255.2))))) else (some false))))) = some r := by rw [if_neg (show ¬ (false = true) by decide)] at H; exact H
     clear H
     have H := H1
     clear H1
     replace H := Option.bind_eq_some_iff.mp H
     obtain ⟨⟨t255, t256⟩, A950, H⟩ := H
     replace H : ((laws_heldTree.f kj63 t256 1).bind fun t257 => (if t257 < 0 then (some false) else (if t257 = t255 then ((laws_toStream.f kj63 l0_0 l0_1).bind fun bt258 => ((impl_StreamTree.f kj63 bt258.1 bt258.2).bind fun bt264 => ((laws_eqTree.f kj63 bt264.1 t226).bind fun t269 => (if t269 = true then (laws_FnExactStreamTree.j2 kj63 t255 (bt264.2 != t229) t256) else (laws_FnExactStreamTree.j2 kj63 t255 true t256))))) else (some false)))) = some r := H
     have A95 := aM10_ A950
     clear A950
     replace H := Option.bind_eq_some_iff.mp H
     obtain ⟨t257, A960, H⟩ := H
     replace H : (if t257 < 0 then (some false) else (if t257 = t255 then ((laws_toStream.f kj63 l0_0 l0_1).bind fun bt258 => ((impl_StreamTree.f kj63 bt258.1 bt258.2).bind fun bt264 => ((laws_eqTree.f kj63 bt264.1 t226).bind fun t269 => (if t269 = true then (laws_FnExactStreamTree.j2 kj63 t255 (bt264.2 != t229) t256) else (laws_FnExactStreamTree.j2 kj63 t255 true t256))))) else (some false))) = some r := H
     have A96 := aM10_ A960
     clear A960
     by_cases c97 : t257 < 0
     ·rw [if_pos c97] at H
      have c97b0 : decide (t257 < 0) = true := decide_eq_true c97
      clear c97
      obtain rfl := Option.some.inj H
      have hnb98 := NB242_218.out
      have hnc98 := NB218_242.out
      have hnb99 := NB242_230.out
      have hnc99 := NB230_242.out
      have hnb100 := NB242_237.out
      have hnc100 := NB237_242.out
      have hcz101_0 : wc.cell? ⟨gb242, 0, none⟩ = some (.slice Ao36 t238.length co36) := (kC10_ BK242.out 0).trans rfl
      have hfz101_0 := blk_frozen BK242.out 0
      go_wp2_with (first | ((with_reducible refine gate_callee (f := 38) rfl ?_); refine goesL_ (some 64) rfl rfl Try.func38 (by kernel_rfl) rfl #[.agg #[.slice Ao36 t238.length co36], .int .i64 1] rfl q10x4_ ?_; (with_reducible refine (laws_markTree.calls kj63 (fun k_ => some k_ = (.slice Ao36 t238.length co36 : Value).ownBlock) (.slice Ao36 t238.length co36) t238 1 t255 t256 w _ ?side1 ?side2 A95.out).mono ?_); (case side1 => repeat (first | (with_reducible first | exact HB.out | apply below_alloc | apply pw_below_drewN | apply below_drew1 | refine bS10_ ?_ GE218.out | refine bS10_ ?_ GE230.out | refine bS10_ ?_ GE237.out | refine bS10_ ?_ GE242.out) | exact HB.out)); (case side2 => exact Kd.R_tight rfl HO_243000.out); rintro e w102 ⟨rfl, hy0, hb, hkp⟩; refine ⟨_, rfl, ?_⟩; have n0_ := aM10_ (Kd.R_mono (ok' := fun k_ => some k_ ≠ (.slice Ao36 t238.length co36 : Value).ownBlock) (Kd.R_keptB (HO_231000.out) hkp (fun k_ hk_ hs_ => (hk_) hs_)) (fun k_ hk_ => hk_.1)); have n1_ := aM10_ (Kd.R_mono (ok' := fun k_ => some k_ ≠ (.slice Ao31 t253.length co31 : Value).ownBlock) (Kd.R_keptB ((Kd.R_apart' HO_238000.out (Kd.R_typed HO_243000.out) (by decide))) hkp (fun k_ hk_ hs_ => (hk_.2) hs_)) (fun k_ hk_ => hk_.1.1)); have n2_ := aM10_ (Kd.R_mono (ok' := fun k_ => some k_ ≠ (.slice Ao27 t252.length co27 : Value).ownBlock) (Kd.R_keptB ((Kd.R_apart' HO_238001.out (Kd.R_typed HO_243000.out) (by decide))) hkp (fun k_ hk_ hs_ => (hk_.2) hs_)) (fun k_ hk_ => hk_.1.1)); have n3_ := aM10_ (Kd.R_reok rfl hy0 (fun k_ e_ => HO_243000.out.1 k_ e_)); have n4_ := aM10_ (blk_kept q10x2_ hkp (fun hs_ => (fun e_ => (Kd.R_ne HO_243000.out BK218.out (by decide)) e_) hs_)); have n5_ := aM10_ (blk_kept q10x3_ hkp (fun hs_ => (fun e_ => (Kd.R_ne HO_243000.out BK230.out (by decide)) e_) hs_)); have n6_ := aM10_ (blk_kept q10x5_ hkp (fun hs_ => (fun e_ => (Kd.R_ne HO_243000.out BK237.out (by decide)) e_) hs_)); have n7_ := aM10_ (blk_kept q10x6_ hkp (fun hs_ => (fun e_ => (Kd.R_ne HO_243000.out BK242.out (by decide)) e_) hs_)); have n8_ := aM10_ (hb); clear HO_231000; clear HO_238000; clear HO_238001; clear HO_243000; clear BK218; clear BK230; clear BK237; clear BK242; clear HB; have HO_231000 := n0_; have HO_238000 := n1_; have HO_238001 := n2_; have HO_243000 := n3_; have BK218 := n4_; have BK230 := n5_; have BK237 := n6_; have BK242 := n7_; have HB := n8_; clear n0_ n1_ n2_ n3_ n4_ n5_ n6_ n7_ n8_; (try clear hb); (try clear hkp); (try clear hy0); have hcz103_0 : w102.cell? ⟨gb242, 0, none⟩ = some (.slice Ao36 t238.length co36) := (kC10_ BK242.out 0).trans rfl; have hfz103_0 := blk_frozen BK242.out 0) | ((with_reducible refine gate_callee (f := 39) rfl ?_); refine goesL_ (some 67) rfl rfl Try.func39 (by kernel_rfl) rfl #[.agg #[.slice Ao36 t256.length co36], .int .i64 1] rfl q10x22_ ?_; (with_reducible refine (laws_heldTree.calls kj63 _ _ t256 1 t257 _ ?side1 ?side2 A96.out).mono ?_); (case side1 => repeat (first | exact (Kd.R_reads' HO_243000.out).2.2 | (with_reducible refine Kd.C_alloc ?_ _) | (with_reducible refine Kd.C_drewN ?_ _) | (with_reducible refine Kd.C_drew ?_))); (case side2 => rw [show t256.length = t238.length from (Kd.R_reads' HO_243000.out).1.symm]; exact (Kd.R_reads' HO_243000.out).2.1); rintro e w104 ⟨rfl, hb⟩; refine ⟨_, rfl, ?_⟩; have n0_ := aM10_ (rB10_ q10x9_ hb); have n1_ := aM10_ (rB10_ q10x7_ hb); have n2_ := aM10_ (rB10_ q10x8_ hb); have n3_ := aM10_ (rB10_ q10x10_ hb); have n4_ := aM10_ (kB10_ (g := gb218) (o := .cells #[.slice A0_0 l0_0.length c0_0, .slice A0_1 l0_1.length c0_1] 32 (0, 0)) q10x2_ hb); have n5_ := aM10_ (kB10_ (g := gb230) (o := .cells #[.slice Ao21 t226.length co21] 55 (0, 0)) q10x3_ hb); have n6_ := aM10_ (kB10_ (g := gb237) (o := .cells #[.slice Ao27 t252.length co27, .slice Ao31 t253.length co31] 34 (0, 0)) q10x5_ hb); have n7_ := aM10_ (kB10_ (g := gb242) (o := .cells #[.slice Ao36 t238.length co36] 55 (0, 0)) q10x6_ hb); have n8_ := aM10_ (below_step q10x1_ hb); clear HO_231000; clear HO_238000; clear HO_238001; clear HO_243000; clear BK218; clear BK230; clear BK237; clear BK242; clear HB; have HO_231000 := n0_; have HO_238000 := n1_; have HO_238001 := n2_; have HO_243000 := n3_; have BK218 := n4_; have BK230 := n5_; have BK237 := n6_; have BK242 := n7_; have HB := n8_; clear n0_ n1_ n2_ n3_ n4_ n5_ n6_ n7_ n8_; (try clear hb); (try clear hb2); (try clear hk); (try clear hi)))
      go_ret
      exact ⟨by first | rfl | (simp [errW_none, errW_some] <;> rfl) | (simp [*, errW_none, errW_some] <;> rfl), by repeat (first | (with_reducible first | exact HB.out | apply below_alloc | apply pw_below_drewN | apply below_drew1 | refine bS10_ ?_ GE218.out | refine bS10_ ?_ GE230.out | refine bS10_ ?_ GE237.out | refine bS10_ ?_ GE242.out) | exact HB.out)⟩
     rw [if_neg c97] at H
     have c97b0 : decide (t257 < 0) = false := decide_eq_false c97
     clear c97
     by_cases c105 : t257 = t255
     rotate_left
     ·rw [if_neg c105] at H
      have c105b0 : (t257 == t255) = false := beq_eq_false_iff_ne.mpr c105
      have c105b1 : (t257 != t255) = true := bne_iff_ne.mpr c105
      obtain rfl := Option.some.inj H
      have hnb174 := NB242_218.out
      have hnc174 := NB218_242.out
      have hnb175 := NB242_230.out
      have hnc175 := NB230_242.out
      have hnb176 := NB242_237.out
      have hnc176 := NB237_242.out
      have hcz177_0 : wc.cell? ⟨gb242, 0, none⟩ = some (.slice Ao36 t238.length co36) := (kC10_ BK242.out 0).trans rfl
      have hfz177_0 := blk_frozen BK242.out 0
      go_wp2_with (first | ((with_reducible refine gate_callee (f := 38) rfl ?_); refine goesL_ (some 64) rfl rfl Try.func38 (by kernel_rfl) rfl #[.agg #[.slice Ao36 t238.length co36], .int .i64 1] rfl q10x4_ ?_; (with_reducible refine (laws_markTree.calls kj63 (fun k_ => some k_ = (.slice Ao36 t238.length co36 : Value).ownBlock) (.slice Ao36 t238.length co36) t238 1 t255 t256 w _ ?side1 ?side2 A95.out).mono ?_); (case side1 => repeat (first | (with_reducible first | exact HB.out | apply below_alloc | apply pw_below_drewN | apply below_drew1 | refine bS10_ ?_ GE218.out | refine bS10_ ?_ GE230.out | refine bS10_ ?_ GE237.out | refine bS10_ ?_ GE242.out) | exact HB.out)); (case side2 => exact Kd.R_tight rfl HO_243000.out); rintro e w178 ⟨rfl, hy0, hb, hkp⟩; refine ⟨_, rfl, ?_⟩; have n0_ := aM10_ (Kd.R_mono (ok' := fun k_ => some k_ ≠ (.slice Ao36 t238.length co36 : Value).ownBlock) (Kd.R_keptB (HO_231000.out) hkp (fun k_ hk_ hs_ => (hk_) hs_)) (fun k_ hk_ => hk_.1)); have n1_ := aM10_ (Kd.R_mono (ok' := fun k_ => some k_ ≠ (.slice Ao31 t253.length co31 : Value).ownBlock) (Kd.R_keptB ((Kd.R_apart' HO_238000.out (Kd.R_typed HO_243000.out) (by decide))) hkp (fun k_ hk_ hs_ => (hk_.2) hs_)) (fun k_ hk_ => hk_.1.1)); have n2_ := aM10_ (Kd.R_mono (ok' := fun k_ => some k_ ≠ (.slice Ao27 t252.length co27 : Value).ownBlock) (Kd.R_keptB ((Kd.R_apart' HO_238001.out (Kd.R_typed HO_243000.out) (by decide))) hkp (fun k_ hk_ hs_ => (hk_.2) hs_)) (fun k_ hk_ => hk_.1.1)); have n3_ := aM10_ (Kd.R_reok rfl hy0 (fun k_ e_ => HO_243000.out.1 k_ e_)); have n4_ := aM10_ (blk_kept q10x2_ hkp (fun hs_ => (fun e_ => (Kd.R_ne HO_243000.out BK218.out (by decide)) e_) hs_)); have n5_ := aM10_ (blk_kept q10x3_ hkp (fun hs_ => (fun e_ => (Kd.R_ne HO_243000.out BK230.out (by decide)) e_) hs_)); have n6_ := aM10_ (blk_kept q10x5_ hkp (fun hs_ => (fun e_ => (Kd.R_ne HO_243000.out BK237.out (by decide)) e_) hs_)); have n7_ := aM10_ (blk_kept q10x6_ hkp (fun hs_ => (fun e_ => (Kd.R_ne HO_243000.out BK242.out (by decide)) e_) hs_)); have n8_ := aM10_ (hb); clear HO_231000; clear HO_238000; clear HO_238001; clear HO_243000; clear BK218; clear BK230; clear BK237; clear BK242; clear HB; have HO_231000 := n0_; have HO_238000 := n1_; have HO_238001 := n2_; have HO_243000 := n3_; have BK218 := n4_; have BK230 := n5_; have BK237 := n6_; have BK242 := n7_; have HB := n8_; clear n0_ n1_ n2_ n3_ n4_ n5_ n6_ n7_ n8_; (try clear hb); (try clear hkp); (try clear hy0); have hcz179_0 : w178.cell? ⟨gb242, 0, none⟩ = some (.slice Ao36 t238.length co36) := (kC10_ BK242.out 0).trans rfl; have hfz179_0 := blk_frozen BK242.out 0) | ((with_reducible refine gate_callee (f := 39) rfl ?_); refine goesL_ (some 67) rfl rfl Try.func39 (by kernel_rfl) rfl #[.agg #[.slice Ao36 t256.length co36], .int .i64 1] rfl q10x22_ ?_; (with_reducible refine (laws_heldTree.calls kj63 _ _ t256 1 t257 _ ?side1 ?side2 A96.out).mono ?_); (case side1 => repeat (first | exact (Kd.R_reads' HO_243000.out).2.2 | (with_reducible refine Kd.C_alloc ?_ _) | (with_reducible refine Kd.C_drewN ?_ _) | (with_reducible refine Kd.C_drew ?_))); (case side2 => rw [show t256.length = t238.length from (Kd.R_reads' HO_243000.out).1.symm]; exact (Kd.R_reads' HO_243000.out).2.1); rintro e w180 ⟨rfl, hb⟩; refine ⟨_, rfl, ?_⟩; have n0_ := aM10_ (rB10_ q10x9_ hb); have n1_ := aM10_ (rB10_ q10x7_ hb); have n2_ := aM10_ (rB10_ q10x8_ hb); have n3_ := aM10_ (rB10_ q10x10_ hb); have n4_ := aM10_ (kB10_ (g := gb218) (o := .cells #[.slice A0_0 l0_0.length c0_0, .slice A0_1 l0_1.length c0_1] 32 (0, 0)) q10x2_ hb); have n5_ := aM10_ (kB10_ (g := gb230) (o := .cells #[.slice Ao21 t226.length co21] 55 (0, 0)) q10x3_ hb); have n6_ := aM10_ (kB10_ (g := gb237) (o := .cells #[.slice Ao27 t252.length co27, .slice Ao31 t253.length co31] 34 (0, 0)) q10x5_ hb); have n7_ := aM10_ (kB10_ (g := gb242) (o := .cells #[.slice Ao36 t238.length co36] 55 (0, 0)) q10x6_ hb); have n8_ := aM10_ (below_step q10x1_ hb); clear HO_231000; clear HO_238000; clear HO_238001; clear HO_243000; clear BK218; clear BK230; clear BK237; clear BK242; clear HB; have HO_231000 := n0_; have HO_238000 := n1_; have HO_238001 := n2_; have HO_243000 := n3_; have BK218 := n4_; have BK230 := n5_; have BK237 := n6_; have BK242 := n7_; have HB := n8_; clear n0_ n1_ n2_ n3_ n4_ n5_ n6_ n7_ n8_; (try clear hb); (try clear hb2); (try clear hk); (try clear hi)))
      go_ret
      exact ⟨by first | rfl | (simp [errW_none, errW_some] <;> rfl) | (simp [*, errW_none, errW_some] <;> rfl), by repeat (first | (with_reducible first | exact HB.out | apply below_alloc | apply pw_below_drewN | apply below_drew1 | refine bS10_ ?_ GE218.out | refine bS10_ ?_ GE230.out | refine bS10_ ?_ GE237.out | refine bS10_ ?_ GE242.out) | exact HB.out)⟩
     rw [if_pos c105] at H
     have c105b0 : (t257 == t255) = true := beq_iff_eq.mpr c105
     have c105b1 : (t257 != t255) = false := bne_eq_false_iff_eq.mpr c105
     clear c105
     replace H := Option.bind_eq_some_iff.mp H
     obtain ⟨⟨t258, t261⟩, A1060, H⟩ := H
     replace H : ((impl_StreamTree.f kj63 t258 t261).bind fun bt264 => ((laws_eqTree.f kj63 bt264.1 t226).bind fun t269 => (if t269 = true then (laws_FnExactStreamTree.j2 kj63 t255 (bt264.2 != t229) t256) else (laws_FnExactStreamTree.j2 kj63 t255 true t256)))) = some r := H
     have A106 := aM10_ A1060
     clear A1060
     replace H := Option.bind_eq_some_iff.mp H
     obtain ⟨⟨t264, t267⟩, A1070, H⟩ := H
     replace H : ((laws_eqTree.f kj63 t264 t226).bind fun t269 => (if t269 = true then (laws_FnExactStreamTree.j2 kj63 t255 (t267 != t229) t256) else (laws_FnExactStreamTree.j2 kj63 t255 true t256))) = some r := H
     have A107 := aM10_ A1070
     clear A1070
     have HC108 := aM10_ H
     clear H
     have hnb109 := NB242_218.out
     have hnc109 := NB218_242.out
     have hnb110 := NB242_230.out
     have hnc110 := NB230_242.out
     have hnb111 := NB242_237.out
     have hnc111 := NB237_242.out
     have hcz112_0 : wc.cell? ⟨gb242, 0, none⟩ = some (.slice Ao36 t238.length co36) := (kC10_ BK242.out 0).trans rfl
     have hfz112_0 := blk_frozen BK242.out 0
     go_upto_region 25 with (first | ((with_reducible refine gate_callee (f := 38) rfl ?_); refine goesL_ (some 64) rfl rfl Try.func38 (by kernel_rfl) rfl #[.agg #[.slice Ao36 t238.length co36], .int .i64 1] rfl q10x4_ ?_; (with_reducible refine (laws_markTree.calls kj63 (fun k_ => some k_ = (.slice Ao36 t238.length co36 : Value).ownBlock) (.slice Ao36 t238.length co36) t238 1 t255 t256 w _ ?side1 ?side2 A95.out).mono ?_); (case side1 => repeat (first | (with_reducible first | exact HB.out | apply below_alloc | apply pw_below_drewN | apply below_drew1 | refine bS10_ ?_ GE218.out | refine bS10_ ?_ GE230.out | refine bS10_ ?_ GE237.out | refine bS10_ ?_ GE242.out) | exact HB.out)); (case side2 => exact Kd.R_tight rfl HO_243000.out); rintro e w113 ⟨rfl, hy0, hb, hkp⟩; refine ⟨_, rfl, ?_⟩; have n0_ := aM10_ (Kd.R_mono (ok' := fun k_ => some k_ ≠ (.slice Ao36 t238.length co36 : Value).ownBlock) (Kd.R_keptB (HO_231000.out) hkp (fun k_ hk_ hs_ => (hk_) hs_)) (fun k_ hk_ => hk_.1)); have n1_ := aM10_ (Kd.R_mono (ok' := fun k_ => some k_ ≠ (.slice Ao31 t253.length co31 : Value).ownBlock) (Kd.R_keptB ((Kd.R_apart' HO_238000.out (Kd.R_typed HO_243000.out) (by decide))) hkp (fun k_ hk_ hs_ => (hk_.2) hs_)) (fun k_ hk_ => hk_.1.1)); have n2_ := aM10_ (Kd.R_mono (ok' := fun k_ => some k_ ≠ (.slice Ao27 t252.length co27 : Value).ownBlock) (Kd.R_keptB ((Kd.R_apart' HO_238001.out (Kd.R_typed HO_243000.out) (by decide))) hkp (fun k_ hk_ hs_ => (hk_.2) hs_)) (fun k_ hk_ => hk_.1.1)); have n3_ := aM10_ (Kd.R_reok rfl hy0 (fun k_ e_ => HO_243000.out.1 k_ e_)); have n4_ := aM10_ (blk_kept q10x2_ hkp (fun hs_ => (fun e_ => (Kd.R_ne HO_243000.out BK218.out (by decide)) e_) hs_)); have n5_ := aM10_ (blk_kept q10x3_ hkp (fun hs_ => (fun e_ => (Kd.R_ne HO_243000.out BK230.out (by decide)) e_) hs_)); have n6_ := aM10_ (blk_kept q10x5_ hkp (fun hs_ => (fun e_ => (Kd.R_ne HO_243000.out BK237.out (by decide)) e_) hs_)); have n7_ := aM10_ (blk_kept q10x6_ hkp (fun hs_ => (fun e_ => (Kd.R_ne HO_243000.out BK242.out (by decide)) e_) hs_)); have n8_ := aM10_ (hb); clear HO_231000; clear HO_238000; clear HO_238001; clear HO_243000; clear BK218; clear BK230; clear BK237; clear BK242; clear HB; have HO_231000 := n0_; have HO_238000 := n1_; have HO_238001 := n2_; have HO_243000 := n3_; have BK218 := n4_; have BK230 := n5_; have BK237 := n6_; have BK242 := n7_; have HB := n8_; clear n0_ n1_ n2_ n3_ n4_ n5_ n6_ n7_ n8_; (try clear hb); (try clear hkp); (try clear hy0); have hcz114_0 : w113.cell? ⟨gb242, 0, none⟩ = some (.slice Ao36 t238.length co36) := (kC10_ BK242.out 0).trans rfl; have hfz114_0 := blk_frozen BK242.out 0) | ((with_reducible refine gate_callee (f := 39) rfl ?_); refine goesL_ (some 67) rfl rfl Try.func39 (by kernel_rfl) rfl #[.agg #[.slice Ao36 t256.length co36], .int .i64 1] rfl q10x22_ ?_; (with_reducible refine (laws_heldTree.calls kj63 _ _ t256 1 t257 _ ?side1 ?side2 A96.out).mono ?_); (case side1 => repeat (first | exact (Kd.R_reads' HO_243000.out).2.2 | (with_reducible refine Kd.C_alloc ?_ _) | (with_reducible refine Kd.C_drewN ?_ _) | (with_reducible refine Kd.C_drew ?_))); (case side2 => rw [show t256.length = t238.length from (Kd.R_reads' HO_243000.out).1.symm]; exact (Kd.R_reads' HO_243000.out).2.1); rintro e w115 ⟨rfl, hb⟩; refine ⟨_, rfl, ?_⟩; have n0_ := aM10_ (rB10_ q10x9_ hb); have n1_ := aM10_ (rB10_ q10x7_ hb); have n2_ := aM10_ (rB10_ q10x8_ hb); have n3_ := aM10_ (rB10_ q10x10_ hb); have n4_ := aM10_ (kB10_ (g := gb218) (o := .cells #[.slice A0_0 l0_0.length c0_0, .slice A0_1 l0_1.length c0_1] 32 (0, 0)) q10x2_ hb); have n5_ := aM10_ (kB10_ (g := gb230) (o := .cells #[.slice Ao21 t226.length co21] 55 (0, 0)) q10x3_ hb); have n6_ := aM10_ (kB10_ (g := gb237) (o := .cells #[.slice Ao27 t252.length co27, .slice Ao31 t253.length co31] 34 (0, 0)) q10x5_ hb); have n7_ := aM10_ (kB10_ (g := gb242) (o := .cells #[.slice Ao36 t238.length co36] 55 (0, 0)) q10x6_ hb); have n8_ := aM10_ (below_step q10x1_ hb); clear HO_231000; clear HO_238000; clear HO_238001; clear HO_243000; clear BK218; clear BK230; clear BK237; clear BK242; clear HB; have HO_231000 := n0_; have HO_238000 := n1_; have HO_238001 := n2_; have HO_243000 := n3_; have BK218 := n4_; have BK230 := n5_; have BK237 := n6_; have BK242 := n7_; have HB := n8_; clear n0_ n1_ n2_ n3_ n4_ n5_ n6_ n7_ n8_; (try clear hb); (try clear hb2); (try clear hk); (try clear hi); have hnb116 := NB218_230.out; have hnc116 := NB230_218.out; have hnb117 := NB218_237.out; have hnc117 := NB237_218.out; have hcz118_0 : w115.cell? ⟨gb218, 0, none⟩ = some (.slice A0_0 l0_0.length c0_0) := (kC10_ BK218.out 0).trans rfl; have hcz118_1 : w115.cell? ⟨gb218, 1, none⟩ = some (.slice A0_1 l0_1.length c0_1) := (kC10_ BK218.out 1).trans rfl; have hfz118_0 := blk_frozen BK218.out 0; have hfz118_1 := blk_frozen BK218.out 1) | ((with_reducible refine gate_callee (f := 19) rfl ?_); refine goesL_ (some 75) rfl rfl Try.func19 (by kernel_rfl) rfl #[.agg #[.slice A0_0 l0_0.length c0_0, .slice A0_1 l0_1.length c0_1]] rfl q10x4_ ?_; (with_reducible refine (laws_toStream.calls kj63 _ _ l0_0 _ _ l0_1 t258 t261 _ ?side1 ?side2 ?side3 ?side4 A106.out).mono ?_); (case side1 => repeat (first | exact (Kd.C_below HR0_0.out HB.out) | (with_reducible refine Kd.C_alloc ?_ _) | (with_reducible refine Kd.C_drewN ?_ _) | (with_reducible refine Kd.C_drew ?_))); (case side2 => exact HC0_0.out); (case side3 => repeat (first | exact (Kd.C_below HR0_1.out HB.out) | (with_reducible refine Kd.C_alloc ?_ _) | (with_reducible refine Kd.C_drewN ?_ _) | (with_reducible refine Kd.C_drew ?_))); (case side4 => exact HC0_1.out); rintro e w119 ⟨v259, v262, rfl, ho0, ho1, hb⟩; refine ⟨_, rfl, ?_⟩; have n0_ := aM10_ (rB10_ q10x9_ hb); have n1_ := aM10_ (Kd.R_mono (Kd.R_told (Kd.R_told (Kd.R_old q10x7_ hb) (Kd.R_base ho0)) (Kd.R_base ho1)) (fun _ h_ => h_.1)); have n2_ := aM10_ (Kd.R_mono (Kd.R_told (Kd.R_told (Kd.R_old q10x8_ hb) (Kd.R_base ho0)) (Kd.R_base ho1)) (fun _ h_ => h_.1)); have n3_ := aM10_ (rB10_ q10x10_ hb); have n4_ := aM10_ (Kd.R_lower (Kd.R_new' (Kd.R_new' ho0 (Kd.R_lt q10x7_)) (Kd.R_lt q10x8_)) (below_size q10x1_)); have n5_ := aM10_ (Kd.R_lower (Kd.R_new' (Kd.R_new' ho1 (Kd.R_lt q10x7_)) (Kd.R_lt q10x8_)) (below_size q10x1_)); have n6_ := aM10_ (kB10_ (g := gb218) (o := .cells #[.slice A0_0 l0_0.length c0_0, .slice A0_1 l0_1.length c0_1] 32 (0, 0)) q10x2_ hb); have n7_ := aM10_ (kB10_ (g := gb230) (o := .cells #[.slice Ao21 t226.length co21] 55 (0, 0)) q10x3_ hb); have n8_ := aM10_ (kB10_ (g := gb237) (o := .cells #[.slice Ao27 t252.length co27, .slice Ao31 t253.length co31] 34 (0, 0)) q10x5_ hb); have n9_ := aM10_ (kB10_ (g := gb242) (o := .cells #[.slice Ao36 t238.length co36] 55 (0, 0)) q10x6_ hb); have n10_ := aM10_ (below_step q10x1_ hb); clear HO_231000; clear HO_238000; clear HO_238001; clear HO_243000; clear BK218; clear BK230; clear BK237; clear BK242; clear HB; have HO_231000 := n0_; have HO_238000 := n1_; have HO_238001 := n2_; have HO_243000 := n3_; have HO260 := n4_; have HO263 := n5_; have BK218 := n6_; have BK230 := n7_; have BK237 := n8_; have BK242 := n9_; have HB := n10_; clear n0_ n1_ n2_ n3_ n4_ n5_ n6_ n7_ n8_ n9_ n10_; (try clear hb); (try clear hb2); (try clear hk); (try clear hi); (try clear ho0); (try clear ho1); obtain ⟨Ao120, co120, eo120⟩ := Kd.R_slice HO260.out; subst eo120; obtain ⟨Ao121, co121, eo121⟩ := Kd.R_slice HO263.out; subst eo121) | ((with_reducible refine gate_callee (f := 36) rfl ?_); refine goesL_ (some 76) rfl rfl Try.func36 (by kernel_rfl) rfl #[.agg #[.slice Ao120 t258.length co120, .slice Ao121 t261.length co121]] rfl q10x4_ ?_; (with_reducible refine (impl_StreamTree.calls kj63 (fun k_ => some k_ = (.slice Ao120 t258.length co120 : Value).ownBlock) _ _ t258 (fun k_ => some k_ = (.slice Ao121 t261.length co121 : Value).ownBlock) _ _ t261 t264 t267 _ ?side1 ?side2 A107.out).mono ?_); (case side1 => exact Kd.R_V (Kd.R_tight rfl (Kd.R_types (Kd.R_types (Kd.R_types (Kd.R_types (Kd.R_apart' (Kd.R_apart' (HO260.out) (Kd.R_typed HO_231000.out) (by decide)) (Kd.R_typed HO_243000.out) (by decide)) BK218.out (by decide)) BK230.out (by decide)) BK237.out (by decide)) BK242.out (by decide)))); (case side2 => exact Kd.R_V (Kd.R_tight rfl (Kd.R_types (Kd.R_types (Kd.R_types (Kd.R_types (Kd.R_apart' (Kd.R_apart' (HO263.out) (Kd.R_typed HO_231000.out) (by decide)) (Kd.R_typed HO_243000.out) (by decide)) BK218.out (by decide)) BK230.out (by decide)) BK237.out (by decide)) BK242.out (by decide)))); rintro e w122 ⟨v265, rfl, ho0, hb⟩; refine ⟨_, rfl, ?_⟩; have n0_ := aM10_ (Kd.R_elder' q10x9_ (Kd.R_base ho0) hb); have n1_ := aM10_ (rB10_ q10x7_ hb); have n2_ := aM10_ (rB10_ q10x8_ hb); have n3_ := aM10_ (Kd.R_elder' q10x10_ (Kd.R_base ho0) hb); have n4_ := aM10_ (rB10_ (by (with_reducible repeat (first | apply rA10_ | apply rN10_ | apply rD10_)); exact HO260.out) hb); have n5_ := aM10_ (rB10_ (by (with_reducible repeat (first | apply rA10_ | apply rN10_ | apply rD10_)); exact HO263.out) hb); have n6_ := aM10_ (Kd.R_lower (Kd.R_new' (Kd.R_new' (Kd.R_mono (ok' := fun k_ => True) ho0 (fun _ hk_ => trivial)) (Kd.R_lt q10x9_)) (Kd.R_lt q10x10_)) (below_size q10x1_)); have n7_ := aM10_ (kB10_ (g := gb218) (o := .cells #[.slice A0_0 l0_0.length c0_0, .slice A0_1 l0_1.length c0_1] 32 (0, 0)) q10x2_ hb); have n8_ := aM10_ (kB10_ (g := gb230) (o := .cells #[.slice Ao21 t226.length co21] 55 (0, 0)) q10x3_ hb); have n9_ := aM10_ (kB10_ (g := gb237) (o := .cells #[.slice Ao27 t252.length co27, .slice Ao31 t253.length co31] 34 (0, 0)) q10x5_ hb); have n10_ := aM10_ (kB10_ (g := gb242) (o := .cells #[.slice Ao36 t238.length co36] 55 (0, 0)) q10x6_ hb); have n11_ := aM10_ (below_step q10x1_ hb); clear HO_231000; clear HO_238000; clear HO_238001; clear HO_243000; clear HO260; clear HO263; clear BK218; clear BK230; clear BK237; clear BK242; clear HB; have HO_231000 := n0_; have HO_238000 := n1_; have HO_238001 := n2_; have HO_243000 := n3_; have HO260 := n4_; have HO263 := n5_; have HO266 := n6_; have BK218 := n7_; have BK230 := n8_; have BK237 := n9_; have BK242 := n10_; have HB := n11_; clear n0_ n1_ n2_ n3_ n4_ n5_ n6_ n7_ n8_ n9_ n10_ n11_; (try clear hb); (try clear hb2); (try clear hk); (try clear hi); (try clear ho0)) | ((with_reducible refine gate_dst (N := 12) rfl ?_); refine box_event ?hg (N := 12) ?hd (cs := #[.slice none 0 0]) (t := 55) ?hr ?_; (case hd => rfl); (case hg => rfl); (case hr => first | (go_simp; done) | (go_simp; rfl)); intro gb268 hg w123 hbox hb; have n0_ := aM10_ (rB10_ q10x9_ hb); have n1_ := aM10_ (rB10_ q10x7_ hb); have n2_ := aM10_ (rB10_ q10x8_ hb); have n3_ := aM10_ (rB10_ q10x10_ hb); have n4_ := aM10_ (rB10_ (by (with_reducible repeat (first | apply rA10_ | apply rN10_ | apply rD10_)); exact HO260.out) hb); have n5_ := aM10_ (rB10_ (by (with_reducible repeat (first | apply rA10_ | apply rN10_ | apply rD10_)); exact HO263.out) hb); have n6_ := aM10_ (rB10_ (by (with_reducible repeat (first | apply rA10_ | apply rN10_ | apply rD10_)); exact HO266.out) hb); have n7_ := aM10_ (kB10_ (g := gb218) (o := .cells #[.slice A0_0 l0_0.length c0_0, .slice A0_1 l0_1.length c0_1] 32 (0, 0)) q10x2_ hb); have n8_ := aM10_ (kB10_ (g := gb230) (o := .cells #[.slice Ao21 t226.length co21] 55 (0, 0)) q10x3_ hb); have n9_ := aM10_ (kB10_ (g := gb237) (o := .cells #[.slice Ao27 t252.length co27, .slice Ao31 t253.length co31] 34 (0, 0)) q10x5_ hb); have n10_ := aM10_ (kB10_ (g := gb242) (o := .cells #[.slice Ao36 t238.length co36] 55 (0, 0)) q10x6_ hb); have n11_ := aM10_ (below_step q10x1_ hb); have n12_ := aM10_ (hbox); have n13_ := aM10_ ((by rw [hg]; exact (below_size q10x1_) : w.heap.size ≤ gb268)); have n14_ := aM10_ ((by rw [hg]; exact (below_size q10x1_) : w.heap.size ≤ gb268)); have n15_ := aM10_ ((q10x23_ : gb218 ≠ gb268)); have n16_ := aM10_ ((q10x24_ : gb268 ≠ gb218)); have n17_ := aM10_ ((q10x50_ : gb230 ≠ gb268)); have n18_ := aM10_ ((q10x51_ : gb268 ≠ gb230)); have n19_ := aM10_ ((by rw [hg]; exact Nat.ne_of_lt (blk_lt (g := gb237) (o := .cells #[.slice Ao27 t252.length co27, .slice Ao31 t253.length co31] 34 (0, 0)) q10x5_) : gb237 ≠ gb268)); have n20_ := aM10_ ((by rw [hg]; exact Nat.ne_of_gt (blk_lt (g := gb237) (o := .cells #[.slice Ao27 t252.length co27, .slice Ao31 t253.length co31] 34 (0, 0)) q10x5_) : gb268 ≠ gb237)); have n21_ := aM10_ ((by rw [hg]; exact Nat.ne_of_lt (blk_lt (g := gb242) (o := .cells #[.slice Ao36 t238.length co36] 55 (0, 0)) q10x6_) : gb242 ≠ gb268)); have n22_ := aM10_ ((by rw [hg]; exact Nat.ne_of_gt (blk_lt (g := gb242) (o := .cells #[.slice Ao36 t238.length co36] 55 (0, 0)) q10x6_) : gb268 ≠ gb242)); clear HO_231000; clear HO_238000; clear HO_238001; clear HO_243000; clear HO260; clear HO263; clear HO266; clear BK218; clear BK230; clear BK237; clear BK242; clear HB; have HO_231000 := n0_; have HO_238000 := n1_; have HO_238001 := n2_; have HO_243000 := n3_; have HO260 := n4_; have HO263 := n5_; have HO266 := n6_; have BK218 := n7_; have BK230 := n8_; have BK237 := n9_; have BK242 := n10_; have HB := n11_; have BK268 := n12_; have GW268 := n13_; have GE268 := n14_; have NB218_268 := n15_; have NB268_218 := n16_; have NB230_268 := n17_; have NB268_230 := n18_; have NB237_268 := n19_; have NB268_237 := n20_; have NB242_268 := n21_; have NB268_242 := n22_; clear n0_ n1_ n2_ n3_ n4_ n5_ n6_ n7_ n8_ n9_ n10_ n11_ n12_ n13_ n14_ n15_ n16_ n17_ n18_ n19_ n20_ n21_ n22_; clear hb hbox hg; obtain ⟨Ao124, co124, eo124⟩ := Kd.R_slice HO266.out; subst eo124; have hnb125 := NB268_218.out; have hnc125 := NB218_268.out; have hnb126 := NB268_230.out; have hnc126 := NB230_268.out; have hnb127 := NB268_237.out; have hnc127 := NB237_268.out; have hnb128 := NB268_242.out; have hnc128 := NB242_268.out; have hcz129_0 : w123.cell? ⟨gb268, 0, none⟩ = some (.slice none 0 0) := (kC10_ BK268.out 0).trans rfl; have hfz129_0 := blk_frozen BK268.out 0))
     (try simp only [Act.put, List.setIfInBounds_toArray, List.set_cons_zero, List.set_cons_succ])
     go_cut [87] (fun v87 wc => ∃ (kq : Nat) (x87_107 : Bool), v87 = .bool x87_107 ∧ Aside0 (laws_FnExactStreamTree.j2 kq t255 x87_107 t256 = some r) ∧ Aside0 (kq ≤ kj63) ∧ Aside0 (Kd.R k104 104 wc w.heap.size (fun k_ => some k_ ≠ ((.slice Ao36 t238.length co36) : Value).ownBlock ∧ some k_ ≠ ((.slice Ao124 t264.length co124) : Value).ownBlock) (.slice Ao21 t226.length co21) t226) ∧ Aside0 (Kd.R (Kd.int .i8) 69 wc w.heap.size (fun k_ => some k_ ≠ ((.slice Ao31 t253.length co31) : Value).ownBlock) (.slice Ao27 t252.length co27) t252) ∧ Aside0 (Kd.R (Kd.int .i8) 69 wc w.heap.size (fun k_ => some k_ ≠ ((.slice Ao27 t252.length co27) : Value).ownBlock) (.slice Ao31 t253.length co31) t253) ∧ Aside0 (Kd.R k104 104 wc w.heap.size (fun k_ => some k_ ≠ ((.slice Ao21 t226.length co21) : Value).ownBlock ∧ some k_ ≠ ((.slice Ao124 t264.length co124) : Value).ownBlock) (.slice Ao36 t238.length co36) t256) ∧ Aside0 (Kd.R k104 104 wc w.heap.size (fun k_ => some k_ ≠ ((.slice Ao21 t226.length co21) : Value).ownBlock ∧ some k_ ≠ ((.slice Ao36 t238.length co36) : Value).ownBlock) (.slice Ao124 t264.length co124) t264) ∧ Aside0 (wc.heap[gb218]? = some (.cells #[(.slice A0_0 l0_0.length c0_0), (.slice A0_1 l0_1.length c0_1)] 32 (0, 0))) ∧ Aside0 (wc.heap[gb230]? = some (.cells #[(.slice Ao21 t226.length co21)] 55 (0, 0))) ∧ Aside0 (wc.heap[gb237]? = some (.cells #[(.slice Ao27 t252.length co27), (.slice Ao31 t253.length co31)] 34 (0, 0))) ∧ Aside0 (wc.heap[gb242]? = some (.cells #[(.slice Ao36 t238.length co36)] 55 (0, 0))) ∧ Aside0 (wc.heap[gb268]? = some (.cells #[(.slice Ao124 t264.length co124)] 55 (0, 0))) ∧ Aside0 (Below w.heap.size w wc))
     case first =>
      have H := HC108.out
      clear HC108
      replace H := Option.bind_eq_some_iff.mp H
      obtain ⟨t269, A1300, H⟩ := H
      replace H : (if t269 = true then (laws_FnExactStreamTree.j2 kj63 t255 (t267 != t229) t256) else (laws_FnExactStreamTree.j2 kj63 t255 true t256)) = some r := H
      have A130 := aM10_ A1300
      clear A1300
      by_cases c131 : t269 = true
      ·subst c131
       have H1 : (laws_FnExactStreamTree.j2 kj63 t255 (t267 != t229) t256) = some r := by rw [if_pos rfl] at H; exact H
       clear H
       have H := H1
       clear H1
       have H' := aM10_ H
       clear H
       have hnb132 := NB268_218.out
       have hnc132 := NB218_268.out
       have hnb133 := NB268_230.out
       have hnc133 := NB230_268.out
       have hnb134 := NB268_237.out
       have hnc134 := NB237_268.out
       have hnb135 := NB268_242.out
       have hnc135 := NB242_268.out
       have hcz136_0 : w123.cell? ⟨gb268, 0, none⟩ = some (.slice none 0 0) := (kC10_ BK268.out 0).trans rfl
       have hfz136_0 := blk_frozen BK268.out 0
       have hnb137 := NB230_218.out
       have hnc137 := NB218_230.out
       have hnb138 := NB230_237.out
       have hnc138 := NB237_230.out
       have hnb139 := NB230_242.out
       have hnc139 := NB242_230.out
       have hcz140_0 : w123.cell? ⟨gb230, 0, none⟩ = some (.slice Ao21 t226.length co21) := (kC10_ BK230.out 0).trans rfl
       have hfz140_0 := blk_frozen BK230.out 0
       go_wp2_with (first | ((with_reducible refine gate_callee (f := 37) rfl ?_); refine goesL_ (some 81) rfl rfl Try.func37 (by kernel_rfl) rfl #[.agg #[.slice Ao124 t264.length co124], .agg #[.slice Ao21 t226.length co21]] rfl q10x4_ ?_; (with_reducible refine (laws_eqTree.calls kj63 _ _ t264 _ _ t226 true _ ?side1 ?side2 ?side3 ?side4 A130.out).mono ?_); (case side1 => refine (Kd.R_reads' (e := 104) (base := w.heap.size) (ok := fun k_ => ((True ∧ some k_ ≠ (.slice Ao21 t226.length co21 : Value).ownBlock) ∧ some k_ ≠ (.slice Ao36 t238.length co36 : Value).ownBlock)) (n := t264.length) (c := co124) ?_).2.2; exact q10x16_); (case side2 => exact (Kd.R_reads' HO266.out).2.1); (case side3 => refine (Kd.R_reads' (e := 104) (base := w.heap.size) (ok := fun k_ => (some k_ ≠ (.slice Ao36 t238.length co36 : Value).ownBlock ∧ some k_ ≠ (.slice Ao124 t264.length co124 : Value).ownBlock)) (n := t226.length) (c := co21) ?_).2.2; exact q10x15_); (case side4 => exact (Kd.R_reads' HO_231000.out).2.1); rintro e w141 ⟨rfl, hb⟩; refine ⟨_, rfl, ?_⟩; have n0_ := aM10_ (rB10_ q10x15_ hb); have n1_ := aM10_ (rB10_ q10x33_ hb); have n2_ := aM10_ (rB10_ q10x34_ hb); have n3_ := aM10_ (rB10_ q10x35_ hb); have n4_ := aM10_ (rB10_ q10x36_ hb); have n5_ := aM10_ (rB10_ q10x37_ hb); have n6_ := aM10_ (rB10_ q10x16_ hb); have n7_ := aM10_ (kB10_ (g := gb218) (o := .cells #[.slice A0_0 l0_0.length c0_0, .slice A0_1 l0_1.length c0_1] 32 (0, 0)) q10x45_ hb); have n8_ := aM10_ (kB10_ (g := gb230) (o := .cells #[.slice Ao21 t226.length co21] 55 (0, 0)) q10x46_ hb); have n9_ := aM10_ (kB10_ (g := gb237) (o := .cells #[.slice Ao27 t252.length co27, .slice Ao31 t253.length co31] 34 (0, 0)) q10x47_ hb); have n10_ := aM10_ (kB10_ (g := gb242) (o := .cells #[.slice Ao36 t238.length co36] 55 (0, 0)) q10x48_ hb); have n11_ := aM10_ (kB10_ (g := gb268) (o := .cells #[.slice Ao124 t264.length co124] 55 (0, 0)) q10x31_ hb); have n12_ := aM10_ (below_step q10x13_ hb); clear HO_231000; clear HO_238000; clear HO_238001; clear HO_243000; clear HO260; clear HO263; clear HO266; clear BK218; clear BK230; clear BK237; clear BK242; clear BK268; clear HB; have HO_231000 := n0_; have HO_238000 := n1_; have HO_238001 := n2_; have HO_243000 := n3_; have HO260 := n4_; have HO263 := n5_; have HO266 := n6_; have BK218 := n7_; have BK230 := n8_; have BK237 := n9_; have BK242 := n10_; have BK268 := n11_; have HB := n12_; clear n0_ n1_ n2_ n3_ n4_ n5_ n6_ n7_ n8_ n9_ n10_ n11_ n12_; (try clear hb); (try clear hb2); (try clear hk); (try clear hi)))
       go_meet
       case rel => exact ⟨_, ((t267 != t229)), q10x32_, H', ⟨by have := HJ10.out; have := HJ63.out; first | omega | exact Nat.le_refl _⟩, ⟨by (try simp only [hl238000_63]); (try simp only [hl238001_63]); (with_reducible repeat (first | apply rA10_ | apply rN10_ | apply rD10_)); exact HO_231000.out⟩, ⟨by (try simp only [hl238000_63]); (try simp only [hl238001_63]); (with_reducible repeat (first | apply rA10_ | apply rN10_ | apply rD10_)); exact Kd.R_mono HO_238000.out (fun _ hk => hk.1.1)⟩, ⟨by (try simp only [hl238000_63]); (try simp only [hl238001_63]); (with_reducible repeat (first | apply rA10_ | apply rN10_ | apply rD10_)); exact Kd.R_mono HO_238001.out (fun _ hk => hk.1.1)⟩, ⟨by (try simp only [hl238000_63]); (try simp only [hl238001_63]); (with_reducible repeat (first | apply rA10_ | apply rN10_ | apply rD10_)); exact HO_243000.out⟩, ⟨by (try simp only [hl238000_63]); (try simp only [hl238001_63]); (with_reducible repeat (first | apply rA10_ | apply rN10_ | apply rD10_)); exact Kd.R_mono HO266.out (fun _ hk => ⟨hk.1.2, hk.2⟩)⟩, ⟨by (try simp only [hl238000_63]); (try simp only [hl238001_63]); (with_reducible repeat (first | refine kN10_ ?_ _ | refine kD10_ ?_ | refine kA10_ ?_ _)); exact BK218.out⟩, ⟨by (try simp only [hl238000_63]); (try simp only [hl238001_63]); (with_reducible repeat (first | refine kN10_ ?_ _ | refine kD10_ ?_ | refine kA10_ ?_ _)); exact BK230.out⟩, ⟨by (try simp only [hl238000_63]); (try simp only [hl238001_63]); (with_reducible repeat (first | refine kN10_ ?_ _ | refine kD10_ ?_ | refine kA10_ ?_ _)); exact BK237.out⟩, ⟨by (try simp only [hl238000_63]); (try simp only [hl238001_63]); (with_reducible repeat (first | refine kN10_ ?_ _ | refine kD10_ ?_ | refine kA10_ ?_ _)); exact BK242.out⟩, ⟨by (try simp only [hl238000_63]); (try simp only [hl238001_63]); (with_reducible repeat (first | refine kN10_ ?_ _ | refine kD10_ ?_ | refine kA10_ ?_ _)); exact BK268.out⟩, ⟨by repeat (first | (with_reducible first | exact HB.out | apply below_alloc | apply pw_below_drewN | apply below_drew1 | refine bS10_ ?_ GE218.out | refine bS10_ ?_ GE230.out | refine bS10_ ?_ GE237.out | refine bS10_ ?_ GE242.out | refine bS10_ ?_ GE268.out) | exact HB.out)⟩⟩
      replace c131 := Bool.eq_false_iff.mpr c131
      subst c131
      have H1 : (laws_FnExactStreamTree.j2 kj63 t255 true t256) = some r := by rw [if_neg (show ¬ (false = true) by decide)] at H; exact H
      clear H
      have H := H1
      clear H1
      have H' := aM10_ H
      clear H
      have hnb142 := NB268_218.out
      have hnc142 := NB218_268.out
      have hnb143 := NB268_230.out
      have hnc143 := NB230_268.out
      have hnb144 := NB268_237.out
      have hnc144 := NB237_268.out
      have hnb145 := NB268_242.out
      have hnc145 := NB242_268.out
      have hcz146_0 : w123.cell? ⟨gb268, 0, none⟩ = some (.slice none 0 0) := (kC10_ BK268.out 0).trans rfl
      have hfz146_0 := blk_frozen BK268.out 0
      have hnb147 := NB230_218.out
      have hnc147 := NB218_230.out
      have hnb148 := NB230_237.out
      have hnc148 := NB237_230.out
      have hnb149 := NB230_242.out
      have hnc149 := NB242_230.out
      have hcz150_0 : w123.cell? ⟨gb230, 0, none⟩ = some (.slice Ao21 t226.length co21) := (kC10_ BK230.out 0).trans rfl
      have hfz150_0 := blk_frozen BK230.out 0
      go_wp2_with (first | ((with_reducible refine gate_callee (f := 37) rfl ?_); refine goesL_ (some 81) rfl rfl Try.func37 (by kernel_rfl) rfl #[.agg #[.slice Ao124 t264.length co124], .agg #[.slice Ao21 t226.length co21]] rfl q10x4_ ?_; (with_reducible refine (laws_eqTree.calls kj63 _ _ t264 _ _ t226 false _ ?side1 ?side2 ?side3 ?side4 A130.out).mono ?_); (case side1 => refine (Kd.R_reads' (e := 104) (base := w.heap.size) (ok := fun k_ => ((True ∧ some k_ ≠ (.slice Ao21 t226.length co21 : Value).ownBlock) ∧ some k_ ≠ (.slice Ao36 t238.length co36 : Value).ownBlock)) (n := t264.length) (c := co124) ?_).2.2; exact q10x16_); (case side2 => exact (Kd.R_reads' HO266.out).2.1); (case side3 => refine (Kd.R_reads' (e := 104) (base := w.heap.size) (ok := fun k_ => (some k_ ≠ (.slice Ao36 t238.length co36 : Value).ownBlock ∧ some k_ ≠ (.slice Ao124 t264.length co124 : Value).ownBlock)) (n := t226.length) (c := co21) ?_).2.2; exact q10x15_); (case side4 => exact (Kd.R_reads' HO_231000.out).2.1); rintro e w151 ⟨rfl, hb⟩; refine ⟨_, rfl, ?_⟩; have n0_ := aM10_ (rB10_ q10x15_ hb); have n1_ := aM10_ (rB10_ q10x33_ hb); have n2_ := aM10_ (rB10_ q10x34_ hb); have n3_ := aM10_ (rB10_ q10x35_ hb); have n4_ := aM10_ (rB10_ q10x36_ hb); have n5_ := aM10_ (rB10_ q10x37_ hb); have n6_ := aM10_ (rB10_ q10x16_ hb); have n7_ := aM10_ (kB10_ (g := gb218) (o := .cells #[.slice A0_0 l0_0.length c0_0, .slice A0_1 l0_1.length c0_1] 32 (0, 0)) q10x45_ hb); have n8_ := aM10_ (kB10_ (g := gb230) (o := .cells #[.slice Ao21 t226.length co21] 55 (0, 0)) q10x46_ hb); have n9_ := aM10_ (kB10_ (g := gb237) (o := .cells #[.slice Ao27 t252.length co27, .slice Ao31 t253.length co31] 34 (0, 0)) q10x47_ hb); have n10_ := aM10_ (kB10_ (g := gb242) (o := .cells #[.slice Ao36 t238.length co36] 55 (0, 0)) q10x48_ hb); have n11_ := aM10_ (kB10_ (g := gb268) (o := .cells #[.slice Ao124 t264.length co124] 55 (0, 0)) q10x31_ hb); have n12_ := aM10_ (below_step q10x13_ hb); clear HO_231000; clear HO_238000; clear HO_238001; clear HO_243000; clear HO260; clear HO263; clear HO266; clear BK218; clear BK230; clear BK237; clear BK242; clear BK268; clear HB; have HO_231000 := n0_; have HO_238000 := n1_; have HO_238001 := n2_; have HO_243000 := n3_; have HO260 := n4_; have HO263 := n5_; have HO266 := n6_; have BK218 := n7_; have BK230 := n8_; have BK237 := n9_; have BK242 := n10_; have BK268 := n11_; have HB := n12_; clear n0_ n1_ n2_ n3_ n4_ n5_ n6_ n7_ n8_ n9_ n10_ n11_ n12_; (try clear hb); (try clear hb2); (try clear hk); (try clear hi)))
      go_meet
      case rel => exact ⟨_, (true), q10x32_, H', ⟨by have := HJ10.out; have := HJ63.out; first | omega | exact Nat.le_refl _⟩, ⟨by (try simp only [hl238000_63]); (try simp only [hl238001_63]); (with_reducible repeat (first | apply rA10_ | apply rN10_ | apply rD10_)); exact HO_231000.out⟩, ⟨by (try simp only [hl238000_63]); (try simp only [hl238001_63]); (with_reducible repeat (first | apply rA10_ | apply rN10_ | apply rD10_)); exact Kd.R_mono HO_238000.out (fun _ hk => hk.1.1)⟩, ⟨by (try simp only [hl238000_63]); (try simp only [hl238001_63]); (with_reducible repeat (first | apply rA10_ | apply rN10_ | apply rD10_)); exact Kd.R_mono HO_238001.out (fun _ hk => hk.1.1)⟩, ⟨by (try simp only [hl238000_63]); (try simp only [hl238001_63]); (with_reducible repeat (first | apply rA10_ | apply rN10_ | apply rD10_)); exact HO_243000.out⟩, ⟨by (try simp only [hl238000_63]); (try simp only [hl238001_63]); (with_reducible repeat (first | apply rA10_ | apply rN10_ | apply rD10_)); exact Kd.R_mono HO266.out (fun _ hk => ⟨hk.1.2, hk.2⟩)⟩, ⟨by (try simp only [hl238000_63]); (try simp only [hl238001_63]); (with_reducible repeat (first | refine kN10_ ?_ _ | refine kD10_ ?_ | refine kA10_ ?_ _)); exact BK218.out⟩, ⟨by (try simp only [hl238000_63]); (try simp only [hl238001_63]); (with_reducible repeat (first | refine kN10_ ?_ _ | refine kD10_ ?_ | refine kA10_ ?_ _)); exact BK230.out⟩, ⟨by (try simp only [hl238000_63]); (try simp only [hl238001_63]); (with_reducible repeat (first | refine kN10_ ?_ _ | refine kD10_ ?_ | refine kA10_ ?_ _)); exact BK237.out⟩, ⟨by (try simp only [hl238000_63]); (try simp only [hl238001_63]); (with_reducible repeat (first | refine kN10_ ?_ _ | refine kD10_ ?_ | refine kA10_ ?_ _)); exact BK242.out⟩, ⟨by (try simp only [hl238000_63]); (try simp only [hl238001_63]); (with_reducible repeat (first | refine kN10_ ?_ _ | refine kD10_ ?_ | refine kA10_ ?_ _)); exact BK268.out⟩, ⟨by repeat (first | (with_reducible first | exact HB.out | apply below_alloc | apply pw_below_drewN | apply below_drew1 | refine bS10_ ?_ GE218.out | refine bS10_ ?_ GE230.out | refine bS10_ ?_ GE237.out | refine bS10_ ?_ GE242.out | refine bS10_ ?_ GE268.out) | exact HB.out)⟩⟩
     case rest =>
      clear HC108
      try clear c1
      try clear c2
      try clear p2
      try clear c3
      try clear c3b0
      try clear c4
      try clear c5
      try clear c6
      try clear c7
      try clear c8
      try clear c9
      try clear c10
      try clear c11
      try clear c12
      try clear c13
      try clear c14
      try clear c17
      try clear c19
      try clear c21
      try clear c22
      try clear c28
      try clear c29
      try clear c35
      try clear c36
      try clear c37
      try clear c38
      try clear c39
      try clear c42
      try clear c43
      try clear c44
      try clear c45
      try clear c47
      try clear c48
      try clear c51
      try clear c52
      try clear c53
      try clear c55
      try clear c56
      try clear c59
      try clear c62
      try clear c70
      try clear c71
      try clear c72
      try clear c75
      try clear c75b0
      try clear c77
      try clear c78
      try clear c79
      try clear c80
      try clear c82
      try clear c83
      try clear c86
      try clear c87
      try clear c88
      try clear c90
      try clear c91
      try clear c94
      try clear c97
      try clear c97b0
      try clear c98
      try clear c99
      try clear c100
      try clear c105
      try clear c105b0
      try clear c105b1
      try clear c109
      try clear c110
      try clear c111
      try clear c116
      try clear c117
      try clear c125
      try clear c126
      try clear c127
      try clear c128
      try clear c131
      try clear c132
      try clear c133
      try clear c134
      try clear c135
      try clear c137
      try clear c138
      try clear c139
      try clear c142
      try clear c143
      try clear c144
      try clear c145
      try clear c147
      try clear c148
      try clear c149
      try clear hcz101_0
      try clear hcz103_0
      try clear hcz112_0
      try clear hcz114_0
      try clear hcz118_0
      try clear hcz118_1
      try clear hcz129_0
      try clear hcz136_0
      try clear hcz13_0
      try clear hcz13_1
      try clear hcz140_0
      try clear hcz146_0
      try clear hcz150_0
      try clear hcz15_0
      try clear hcz15_1
      try clear hcz23_0
      try clear hcz24_0
      try clear hcz24_1
      try clear hcz30_0
      try clear hcz30_1
      try clear hcz33_0
      try clear hcz33_1
      try clear hcz40_0
      try clear hcz46_0
      try clear hcz49_0
      try clear hcz54_0
      try clear hcz57_0
      try clear hcz5_0
      try clear hcz5_1
      try clear hcz73_0
      try clear hcz73_1
      try clear hcz81_0
      try clear hcz84_0
      try clear hcz89_0
      try clear hcz92_0
      try clear hfz101_0
      try clear hfz103_0
      try clear hfz112_0
      try clear hfz114_0
      try clear hfz118_0
      try clear hfz118_1
      try clear hfz129_0
      try clear hfz136_0
      try clear hfz13_0
      try clear hfz13_1
      try clear hfz140_0
      try clear hfz146_0
      try clear hfz150_0
      try clear hfz15_0
      try clear hfz15_1
      try clear hfz23_0
      try clear hfz24_0
      try clear hfz24_1
      try clear hfz30_0
      try clear hfz30_1
      try clear hfz33_0
      try clear hfz33_1
      try clear hfz40_0
      try clear hfz46_0
      try clear hfz49_0
      try clear hfz54_0
      try clear hfz57_0
      try clear hfz5_0
      try clear hfz5_1
      try clear hfz73_0
      try clear hfz73_1
      try clear hfz81_0
      try clear hfz84_0
      try clear hfz89_0
      try clear hfz92_0
      try clear p2
      obtain ⟨kq, x87_107, rfl, HA, HJ107, HO_231000, HO_238000, HO_238001, HO_243000, HO_269000, BK218, BK230, BK237, BK242, BK268, HB⟩ := hcut
      have hl243000_107 := (Kd.R_reads' HO_243000.out).1
      rw [hl243000_107] at HO_243000
      (try simp only [hl243000_107])
      (try simp only [hl243000_107] at BK218)
      (try simp only [hl243000_107] at BK230)
      (try simp only [hl243000_107] at BK237)
      (try simp only [hl243000_107] at BK242)
      (try simp only [hl243000_107] at BK268)
      (try simp only [hl243000_107] at HO_231000)
      (try simp only [hl243000_107] at HO_238000)
      (try simp only [hl243000_107] at HO_238001)
      (try simp only [hl243000_107] at HO_269000)
      cases kq with
      | zero => exact absurd HA.out (by simp [laws_FnExactStreamTree.j2])
      | succ kj107 =>
       have H := HA.out
       clear HA
       simp only [laws_FnExactStreamTree.j2] at H
       by_cases c152 : x87_107 = true
       ·subst c152
        have H1 : (some false) = some r := by rw [if_pos rfl] at H; exact H
        clear H
        have H := H1
        clear H1
        obtain rfl := Option.some.inj H
        go_wp2
        go_ret
        exact ⟨by first | rfl | (simp [errW_none, errW_some] <;> rfl) | (simp [*, errW_none, errW_some] <;> rfl), by repeat (first | (with_reducible first | exact HB.out | apply below_alloc | apply pw_below_drewN | apply below_drew1 | refine bS10_ ?_ GE218.out | refine bS10_ ?_ GE230.out | refine bS10_ ?_ GE237.out | refine bS10_ ?_ GE242.out | refine bS10_ ?_ GE268.out) | exact HB.out)⟩
       replace c152 := Bool.eq_false_iff.mpr c152
       subst c152
       have H1 : ((laws_heldTree.f kj107 t256 1).bind fun t270 => (if t270 < 0 then (some false) else (if t270 = t255 then (some true) else (some false)))) = some r := by rw [if_neg (show ¬ (false = true) by decide)] at H; exact H
       clear H
       have H := H1
       clear H1
       replace H := Option.bind_eq_some_iff.mp H
       obtain ⟨t270, A1530, H⟩ := H
       replace H : (if t270 < 0 then (some false) else (if t270 = t255 then (some true) else (some false))) = some r := H
       have A153 := aM10_ A1530
       clear A1530
       by_cases c154 : t270 < 0
       ·rw [if_pos c154] at H
        have c154b0 : decide (t270 < 0) = true := decide_eq_true c154
        clear c154
        obtain rfl := Option.some.inj H
        have hnb155 := NB242_218.out
        have hnc155 := NB218_242.out
        have hnb156 := NB242_230.out
        have hnc156 := NB230_242.out
        have hnb157 := NB242_237.out
        have hnc157 := NB237_242.out
        have hnb158 := NB242_268.out
        have hnc158 := NB268_242.out
        have hcz159_0 : wc.cell? ⟨gb242, 0, none⟩ = some (.slice Ao36 t256.length co36) := (kC10_ BK242.out 0).trans rfl
        have hfz159_0 := blk_frozen BK242.out 0
        go_wp2_with (first | ((with_reducible refine gate_callee (f := 39) rfl ?_); refine goesL_ (some 90) rfl rfl Try.func39 (by kernel_rfl) rfl #[.agg #[.slice Ao36 t256.length co36], .int .i64 1] rfl q10x4_ ?_; (with_reducible refine (laws_heldTree.calls kj107 _ _ t256 1 t270 _ ?side1 ?side2 A153.out).mono ?_); (case side1 => repeat (first | exact (Kd.R_reads' HO_243000.out).2.2 | (with_reducible refine Kd.C_alloc ?_ _) | (with_reducible refine Kd.C_drewN ?_ _) | (with_reducible refine Kd.C_drew ?_))); (case side2 => exact (Kd.R_reads' HO_243000.out).2.1); rintro e w160 ⟨rfl, hb⟩; refine ⟨_, rfl, ?_⟩; have n0_ := aM10_ (rB10_ q10x9_ hb); have n1_ := aM10_ (rB10_ q10x7_ hb); have n2_ := aM10_ (rB10_ q10x8_ hb); have n3_ := aM10_ (rB10_ q10x10_ hb); have n4_ := aM10_ (rB10_ q10x52_ hb); have n5_ := aM10_ (kB10_ (g := gb218) (o := .cells #[.slice A0_0 l0_0.length c0_0, .slice A0_1 l0_1.length c0_1] 32 (0, 0)) q10x2_ hb); have n6_ := aM10_ (kB10_ (g := gb230) (o := .cells #[.slice Ao21 t226.length co21] 55 (0, 0)) q10x3_ hb); have n7_ := aM10_ (kB10_ (g := gb237) (o := .cells #[.slice Ao27 t252.length co27, .slice Ao31 t253.length co31] 34 (0, 0)) q10x5_ hb); have n8_ := aM10_ (kB10_ (g := gb242) (o := .cells #[.slice Ao36 t256.length co36] 55 (0, 0)) q10x6_ hb); have n9_ := aM10_ (kB10_ (g := gb268) (o := .cells #[.slice Ao124 t264.length co124] 55 (0, 0)) q10x49_ hb); have n10_ := aM10_ (below_step q10x13_ hb); clear HO_231000; clear HO_238000; clear HO_238001; clear HO_243000; clear HO_269000; clear BK218; clear BK230; clear BK237; clear BK242; clear BK268; clear HB; have HO_231000 := n0_; have HO_238000 := n1_; have HO_238001 := n2_; have HO_243000 := n3_; have HO_269000 := n4_; have BK218 := n5_; have BK230 := n6_; have BK237 := n7_; have BK242 := n8_; have BK268 := n9_; have HB := n10_; clear n0_ n1_ n2_ n3_ n4_ n5_ n6_ n7_ n8_ n9_ n10_; (try clear hb); (try clear hb2); (try clear hk); (try clear hi)))
        go_ret
        exact ⟨by first | rfl | (simp [errW_none, errW_some] <;> rfl) | (simp [*, errW_none, errW_some] <;> rfl), by repeat (first | (with_reducible first | exact HB.out | apply below_alloc | apply pw_below_drewN | apply below_drew1 | refine bS10_ ?_ GE218.out | refine bS10_ ?_ GE230.out | refine bS10_ ?_ GE237.out | refine bS10_ ?_ GE242.out | refine bS10_ ?_ GE268.out) | exact HB.out)⟩
       rw [if_neg c154] at H
       have c154b0 : decide (t270 < 0) = false := decide_eq_false c154
       clear c154
       by_cases c161 : t270 = t255
       ·rw [if_pos c161] at H
        have c161b0 : (t270 == t255) = true := beq_iff_eq.mpr c161
        have c161b1 : (t270 != t255) = false := bne_eq_false_iff_eq.mpr c161
        clear c161
        obtain rfl := Option.some.inj H
        have hnb162 := NB242_218.out
        have hnc162 := NB218_242.out
        have hnb163 := NB242_230.out
        have hnc163 := NB230_242.out
        have hnb164 := NB242_237.out
        have hnc164 := NB237_242.out
        have hnb165 := NB242_268.out
        have hnc165 := NB268_242.out
        have hcz166_0 : wc.cell? ⟨gb242, 0, none⟩ = some (.slice Ao36 t256.length co36) := (kC10_ BK242.out 0).trans rfl
        have hfz166_0 := blk_frozen BK242.out 0
        go_wp2_with (first | ((with_reducible refine gate_callee (f := 39) rfl ?_); refine goesL_ (some 90) rfl rfl Try.func39 (by kernel_rfl) rfl #[.agg #[.slice Ao36 t256.length co36], .int .i64 1] rfl q10x4_ ?_; (with_reducible refine (laws_heldTree.calls kj107 _ _ t256 1 t270 _ ?side1 ?side2 A153.out).mono ?_); (case side1 => repeat (first | exact (Kd.R_reads' HO_243000.out).2.2 | (with_reducible refine Kd.C_alloc ?_ _) | (with_reducible refine Kd.C_drewN ?_ _) | (with_reducible refine Kd.C_drew ?_))); (case side2 => exact (Kd.R_reads' HO_243000.out).2.1); rintro e w167 ⟨rfl, hb⟩; refine ⟨_, rfl, ?_⟩; have n0_ := aM10_ (rB10_ q10x9_ hb); have n1_ := aM10_ (rB10_ q10x7_ hb); have n2_ := aM10_ (rB10_ q10x8_ hb); have n3_ := aM10_ (rB10_ q10x10_ hb); have n4_ := aM10_ (rB10_ q10x52_ hb); have n5_ := aM10_ (kB10_ (g := gb218) (o := .cells #[.slice A0_0 l0_0.length c0_0, .slice A0_1 l0_1.length c0_1] 32 (0, 0)) q10x2_ hb); have n6_ := aM10_ (kB10_ (g := gb230) (o := .cells #[.slice Ao21 t226.length co21] 55 (0, 0)) q10x3_ hb); have n7_ := aM10_ (kB10_ (g := gb237) (o := .cells #[.slice Ao27 t252.length co27, .slice Ao31 t253.length co31] 34 (0, 0)) q10x5_ hb); have n8_ := aM10_ (kB10_ (g := gb242) (o := .cells #[.slice Ao36 t256.length co36] 55 (0, 0)) q10x6_ hb); have n9_ := aM10_ (kB10_ (g := gb268) (o := .cells #[.slice Ao124 t264.length co124] 55 (0, 0)) q10x49_ hb); have n10_ := aM10_ (below_step q10x13_ hb); clear HO_231000; clear HO_238000; clear HO_238001; clear HO_243000; clear HO_269000; clear BK218; clear BK230; clear BK237; clear BK242; clear BK268; clear HB; have HO_231000 := n0_; have HO_238000 := n1_; have HO_238001 := n2_; have HO_243000 := n3_; have HO_269000 := n4_; have BK218 := n5_; have BK230 := n6_; have BK237 := n7_; have BK242 := n8_; have BK268 := n9_; have HB := n10_; clear n0_ n1_ n2_ n3_ n4_ n5_ n6_ n7_ n8_ n9_ n10_; (try clear hb); (try clear hb2); (try clear hk); (try clear hi)))
        go_ret
        exact ⟨by first | rfl | (simp [errW_none, errW_some] <;> rfl) | (simp [*, errW_none, errW_some] <;> rfl), by repeat (first | (with_reducible first | exact HB.out | apply below_alloc | apply pw_below_drewN | apply below_drew1 | refine bS10_ ?_ GE218.out | refine bS10_ ?_ GE230.out | refine bS10_ ?_ GE237.out | refine bS10_ ?_ GE242.out | refine bS10_ ?_ GE268.out) | exact HB.out)⟩
       rw [if_neg c161] at H
       have c161b0 : (t270 == t255) = false := beq_eq_false_iff_ne.mpr c161
       have c161b1 : (t270 != t255) = true := bne_iff_ne.mpr c161
       obtain rfl := Option.some.inj H
       have hnb168 := NB242_218.out
       have hnc168 := NB218_242.out
       have hnb169 := NB242_230.out
       have hnc169 := NB230_242.out
       have hnb170 := NB242_237.out
       have hnc170 := NB237_242.out
       have hnb171 := NB242_268.out
       have hnc171 := NB268_242.out
       have hcz172_0 : wc.cell? ⟨gb242, 0, none⟩ = some (.slice Ao36 t256.length co36) := (kC10_ BK242.out 0).trans rfl
       have hfz172_0 := blk_frozen BK242.out 0
       go_wp2_with (first | ((with_reducible refine gate_callee (f := 39) rfl ?_); refine goesL_ (some 90) rfl rfl Try.func39 (by kernel_rfl) rfl #[.agg #[.slice Ao36 t256.length co36], .int .i64 1] rfl q10x4_ ?_; (with_reducible refine (laws_heldTree.calls kj107 _ _ t256 1 t270 _ ?side1 ?side2 A153.out).mono ?_); (case side1 => repeat (first | exact (Kd.R_reads' HO_243000.out).2.2 | (with_reducible refine Kd.C_alloc ?_ _) | (with_reducible refine Kd.C_drewN ?_ _) | (with_reducible refine Kd.C_drew ?_))); (case side2 => exact (Kd.R_reads' HO_243000.out).2.1); rintro e w173 ⟨rfl, hb⟩; refine ⟨_, rfl, ?_⟩; have n0_ := aM10_ (rB10_ q10x9_ hb); have n1_ := aM10_ (rB10_ q10x7_ hb); have n2_ := aM10_ (rB10_ q10x8_ hb); have n3_ := aM10_ (rB10_ q10x10_ hb); have n4_ := aM10_ (rB10_ q10x52_ hb); have n5_ := aM10_ (kB10_ (g := gb218) (o := .cells #[.slice A0_0 l0_0.length c0_0, .slice A0_1 l0_1.length c0_1] 32 (0, 0)) q10x2_ hb); have n6_ := aM10_ (kB10_ (g := gb230) (o := .cells #[.slice Ao21 t226.length co21] 55 (0, 0)) q10x3_ hb); have n7_ := aM10_ (kB10_ (g := gb237) (o := .cells #[.slice Ao27 t252.length co27, .slice Ao31 t253.length co31] 34 (0, 0)) q10x5_ hb); have n8_ := aM10_ (kB10_ (g := gb242) (o := .cells #[.slice Ao36 t256.length co36] 55 (0, 0)) q10x6_ hb); have n9_ := aM10_ (kB10_ (g := gb268) (o := .cells #[.slice Ao124 t264.length co124] 55 (0, 0)) q10x49_ hb); have n10_ := aM10_ (below_step q10x13_ hb); clear HO_231000; clear HO_238000; clear HO_238001; clear HO_243000; clear HO_269000; clear BK218; clear BK230; clear BK237; clear BK242; clear BK268; clear HB; have HO_231000 := n0_; have HO_238000 := n1_; have HO_238001 := n2_; have HO_243000 := n3_; have HO_269000 := n4_; have BK218 := n5_; have BK230 := n6_; have BK237 := n7_; have BK242 := n8_; have BK268 := n9_; have HB := n10_; clear n0_ n1_ n2_ n3_ n4_ n5_ n6_ n7_ n8_ n9_ n10_; (try clear hb); (try clear hb2); (try clear hk); (try clear hi)))
       go_ret
       exact ⟨by first | rfl | (simp [errW_none, errW_some] <;> rfl) | (simp [*, errW_none, errW_some] <;> rfl), by repeat (first | (with_reducible first | exact HB.out | apply below_alloc | apply pw_below_drewN | apply below_drew1 | refine bS10_ ?_ GE218.out | refine bS10_ ?_ GE230.out | refine bS10_ ?_ GE237.out | refine bS10_ ?_ GE242.out | refine bS10_ ?_ GE268.out) | exact HB.out)⟩
/-! ### the law's arguments -/
def WF32 (x : S32) : Prop := (x.f0.length * 1 ≤ 140737488351232 ∧ ∀ z_ ∈ x.f0, (-128) ≤ z_ ∧ z_ ≤ 127) ∧ (x.f1.length * 1 ≤ 140737488351232 ∧ ∀ z_ ∈ x.f1, (-128) ≤ z_ ∧ z_ ≤ 127)
set_option maxRecDepth 100000 in
theorem op32 {H : Type} {enc : TypeId × Value → H} {w : World} : Opens enc Try.prog w 32 k32 WF32 := by
 intro fuel cs x h hz
 obtain ⟨xs, m, rfl, rfl, hl, hn, hf⟩ := DataW.trod_struct Try.underlying32 h
 have hl0 : cs.length = 2 := hl.trans (by kernel_rfl)
 have hn0 : xs.length = 2 := hn
 obtain ⟨x0, xs0, rfl, hn1⟩ := consX_of hn0
 obtain ⟨x1, xs1, rfl, hn2⟩ := consX_of hn1
 obtain rfl := List.eq_nil_of_length_eq_zero hn2
 obtain ⟨c0, cs0, rfl, hl1⟩ := cons_of hl0
 obtain ⟨c1, cs1, rfl, hl2⟩ := cons_of hl1
 obtain rfl := List.eq_nil_of_length_eq_zero hl2
 have h0 : DataW.trod enc Try.prog w 0 (fun _ => true) true m 22 [c0] = some x0 := by
  have h_ : DataW.trod enc Try.prog w 0 (fun _ => true) true m 22 (([c0, c1].drop 0).take (Try.prog.cellsOf 22)) = [x0, x1][0]? := by
   have h2_ := hf 0 _ rfl
   exact h2_
  rw [show Try.prog.cellsOf 22 = 1 from by kernel_rfl] at h_
  exact h_
 obtain ⟨a0, hk0, hw0⟩ := (opens_slice Try.underlying22 (by kernel_rfl) (by kernel_rfl) (opens_int Try.underlying69 wfB_i8)) _ _ _ h0 (weight_struct Try.underlying32 hz (j := 0) rfl rfl)
 have h1 : DataW.trod enc Try.prog w 0 (fun _ => true) true m 22 [c1] = some x1 := by
  have h_ : DataW.trod enc Try.prog w 0 (fun _ => true) true m 22 (([c0, c1].drop 1).take (Try.prog.cellsOf 22)) = [x0, x1][1]? := by
   have h2_ := hf 1 _ rfl
   exact h2_
  rw [show Try.prog.cellsOf 22 = 1 from by kernel_rfl] at h_
  exact h_
 obtain ⟨a1, hk1, hw1⟩ := (opens_slice Try.underlying22 (by kernel_rfl) (by kernel_rfl) (opens_int Try.underlying69 wfB_i8)) _ _ _ h1 (weight_struct Try.underlying32 hz (j := 1) rfl rfl)
 exact ⟨⟨a0, a1⟩, ⟨[c0], [c1], rfl, hk0, hk1⟩, ⟨hw0, hw1⟩⟩
/-- THE ONE PURE STATEMENT of laws_FnExactStreamTree. -/
def laws_FnExactStreamTree.Pure : Prop := ∀ (x0 : S32), (WF32 x0) → ∃ k, laws_FnExactStreamTree.f k x0.f0 x0.f1 = some true
theorem laws_FnExactStreamTree.walk (P_ : laws_FnExactStreamTree.Pure) (w : World) (x0 : S32) (A0_0 : Option Addr) (c0_0 : Nat) (hr0_0 : Kd.C (Kd.int .i8) w A0_0 x0.f0.length x0.f0) (hc0_0 : x0.f0.length ≤ c0_0) (A0_1 : Option Addr) (c0_1 : Nat) (hr0_1 : Kd.C (Kd.int .i8) w A0_1 x0.f1.length x0.f1) (hc0_1 : x0.f1.length ≤ c0_1) (hw0 : WF32 x0) :
  Calls Try.prog 10 #[.agg #[.slice A0_0 x0.f0.length c0_0, .slice A0_1 x0.f1.length c0_1]] w fun e w' => e = .returned (.bool true) ∧ Below w.heap.size w w' := by
 obtain ⟨k, h⟩ := P_ x0 hw0
 refine (laws_FnExactStreamTree.calls k _ _ x0.f0 _ _ x0.f1 true w hr0_0 hc0_0 hr0_1 hc0_1 h).mono ?_
 rintro e w' ⟨rfl, hd⟩
 exact ⟨rfl, hd⟩

end Go.Proofs.Ytfenifdigjcmiaa.MFnExactStreamTree
