/- Functions of the program as Lean functions, and the proof that the code comes to what they say. Written by a program of this session (myprint.py). -/
import Derived.Test.YtfenifdigjcmiaaMFnExactStreamOfx0
import Derived.Test.YtfenifdigjcmiaaMFnExactStreamOfx1
import Derived.Test.YtfenifdigjcmiaaMFnExactStreamOfx3
import Derived.Test.YtfenifdigjcmiaaMFnExactStreamOfx4
import Derived.Test.YtfenifdigjcmiaaMFnExactStreamOfx5
namespace Go.Proofs.Ytfenifdigjcmiaa.MFnExactStreamOf
open Go.RowKit Go.Proofs.Ytfenifdigjcmiaa.MOpen Go.Proofs.YtfenifdigjcmiaaW.PrintWords Go.Proofs.YtfenifdigjcmiaaW.PrintLast Go.Proofs.YtfenifdigjcmiaaW.PrintMore
attribute [local go_sem] max2_int min2_int max_two min_two max_three min_three max_four min_four   -- for this text's walks alone
set_option linter.unusedVariables false
set_option linter.unusedSimpArgs false

set_option linter.defProp false
def rA6_ := @Kd.R_alloc
def rN6_ := @Kd.R_drewN
def rD6_ := @Kd.R_drew
def kA6_ := @blk_alloc
def kN6_ := @blk_drewN
def kD6_ := @blk_drew
def bS6_ := @below_set
def aM6_ := @Aside0.mk
def rB6_ := @Kd.R_below
def kB6_ := @blk_below
def kC6_ := @blk_cell
theorem q6x1_ {P : Prop} (h : P := by (with_reducible repeat (first | refine kN6_ ?_ _ | refine kD6_ ?_ | refine kA6_ ?_ _)); exact BK239.out) : P := h
theorem q6x2_ {P : Prop} (h : P := by repeat (first | (with_reducible first | exact HB.out | apply below_alloc | apply pw_below_drewN | apply below_drew1 | refine bS6_ ?_ GE239.out | refine bS6_ ?_ GE249.out | refine bS6_ ?_ GE259.out) | exact HB.out)) : P := h
theorem q6x3_ {P : Prop} (h : P := by (try simp only [List.map_toArray, List.map_cons, List.map_nil]); first | done | rfl | (simp only [List.length_drop, List.length_take]; rfl)) : P := h
theorem q6x4_ {P : Prop} (h : P := by (with_reducible repeat (first | refine kN6_ ?_ _ | refine kD6_ ?_ | refine kA6_ ?_ _)); exact BK249.out) : P := h
theorem q6x5_ {P : Prop} (h : P := by (with_reducible repeat (first | refine kN6_ ?_ _ | refine kD6_ ?_ | refine kA6_ ?_ _)); exact BK259.out) : P := h
theorem q6x6_ {P : Prop} (h : P := by repeat (first | (with_reducible first | exact HB.out | apply below_alloc | apply pw_below_drewN | apply below_drew1 | refine bS6_ ?_ GE239.out | refine bS6_ ?_ GE249.out) | exact HB.out)) : P := h
theorem q6x7_ {P : Prop} (h : P := by (with_reducible repeat (first | apply rA6_ | apply rN6_ | apply rD6_)); exact HO_250000.out) : P := h
theorem q6x8_ {P : Prop} (h : P := by (with_reducible repeat (first | apply rA6_ | apply rN6_ | apply rD6_)); exact HO_250001.out) : P := h
theorem q6x9_ {P : Prop} (h : P := by (with_reducible repeat (first | apply rA6_ | apply rN6_ | apply rD6_)); exact HO_260000.out) : P := h
theorem q6x10_ {P : Prop} (h : P := by (with_reducible repeat (first | apply rA6_ | apply rN6_ | apply rD6_)); exact HO_260001.out) : P := h
theorem q6x11_ {P : Prop} (h : P := by (with_reducible repeat (first | apply rA6_ | apply rN6_ | apply rD6_)); exact (Kd.R_mono (Kd.R_far (p := ⟨gb274, 1, none⟩) (Kd.R_far (p := ⟨gb274, 0, none⟩) (Kd.R_types HO_250000.out BK274.out (by decide)) (fun _ hk => hk.2) (.slice Ao64 t267.length co64)) (fun _ hk => hk.2) (.slice Ao69 t270.length co69)) (fun _ h_ => h_.1))) : P := h
theorem q6x12_ {P : Prop} (h : P := by (with_reducible repeat (first | apply rA6_ | apply rN6_ | apply rD6_)); exact (Kd.R_mono (Kd.R_far (p := ⟨gb274, 1, none⟩) (Kd.R_far (p := ⟨gb274, 0, none⟩) (Kd.R_types HO_250001.out BK274.out (by decide)) (fun _ hk => hk.2) (.slice Ao64 t267.length co64)) (fun _ hk => hk.2) (.slice Ao69 t270.length co69)) (fun _ h_ => h_.1))) : P := h
theorem q6x13_ {P : Prop} (h : P := by (with_reducible repeat (first | apply rA6_ | apply rN6_ | apply rD6_)); exact (Kd.R_mono (Kd.R_far (p := ⟨gb259, 1, none⟩) (Kd.R_far (p := ⟨gb259, 0, none⟩) (Kd.R_types HO254.out BK259.out (by decide)) (fun _ hk => hk.2) (.slice Ao20 t252.length co20)) (fun _ hk => hk.2) (.slice Ao24 t255.length co24)) (fun _ h_ => h_.1))) : P := h
theorem q6x14_ {P : Prop} (h : P := by (with_reducible repeat (first | apply rA6_ | apply rN6_ | apply rD6_)); exact (Kd.R_mono (Kd.R_far (p := ⟨gb259, 1, none⟩) (Kd.R_far (p := ⟨gb259, 0, none⟩) (Kd.R_types HO257.out BK259.out (by decide)) (fun _ hk => hk.2) (.slice Ao20 t252.length co20)) (fun _ hk => hk.2) (.slice Ao24 t255.length co24)) (fun _ h_ => h_.1))) : P := h
theorem q6x15_ {P : Prop} (h : P := by (with_reducible repeat (first | apply rA6_ | apply rN6_ | apply rD6_)); exact (Kd.R_mono (Kd.R_far (p := ⟨gb259, 1, none⟩) (Kd.R_far (p := ⟨gb259, 0, none⟩) (Kd.R_types HO244.out BK259.out (by decide)) (fun _ hk => hk.2) (.slice Ao20 t252.length co20)) (fun _ hk => hk.2) (.slice Ao24 t255.length co24)) (fun _ h_ => h_.1))) : P := h
theorem q6x16_ {P : Prop} (h : P := by (with_reducible repeat (first | apply rA6_ | apply rN6_ | apply rD6_)); exact (Kd.R_mono (Kd.R_far (p := ⟨gb259, 1, none⟩) (Kd.R_far (p := ⟨gb259, 0, none⟩) (Kd.R_types HO247.out BK259.out (by decide)) (fun _ hk => hk.2) (.slice Ao20 t252.length co20)) (fun _ hk => hk.2) (.slice Ao24 t255.length co24)) (fun _ h_ => h_.1))) : P := h
theorem q6x17_ {P : Prop} (h : P := by (with_reducible repeat (first | apply rA6_ | apply rN6_ | apply rD6_)); exact (Kd.R_mono (Kd.R_far (p := ⟨gb274, 1, none⟩) (Kd.R_far (p := ⟨gb274, 0, none⟩) (Kd.R_types HO269.out BK274.out (by decide)) (fun _ hk => hk.2) (.slice Ao64 t267.length co64)) (fun _ hk => hk.2) (.slice Ao69 t270.length co69)) (fun _ h_ => h_.1))) : P := h
theorem q6x18_ {P : Prop} (h : P := by (with_reducible repeat (first | apply rA6_ | apply rN6_ | apply rD6_)); exact (Kd.R_mono (Kd.R_far (p := ⟨gb274, 1, none⟩) (Kd.R_far (p := ⟨gb274, 0, none⟩) (Kd.R_types HO272.out BK274.out (by decide)) (fun _ hk => hk.2) (.slice Ao64 t267.length co64)) (fun _ hk => hk.2) (.slice Ao69 t270.length co69)) (fun _ h_ => h_.1))) : P := h
theorem q6x19_ {P : Prop} (h : P := by repeat (first | (with_reducible first | exact HB.out | apply below_alloc | apply pw_below_drewN | apply below_drew1 | refine bS6_ ?_ GE239.out | refine bS6_ ?_ GE249.out | refine bS6_ ?_ GE259.out | refine bS6_ ?_ GE274.out) | exact HB.out)) : P := h
theorem q6x20_ {P : Prop} (h : P := by repeat (first | (with_reducible first | exact HB.out | apply below_alloc | apply pw_below_drewN | apply below_drew1 | refine bS6_ ?_ GE239.out) | exact HB.out)) : P := h
theorem q6x21_ {P : Prop} (h : P := by (try simp only [List.map_toArray, List.map_cons, List.map_nil]); first | done | (rw [show t262.length = t252.length from (Kd.R_reads' HO_260000.out).1.symm, show t263.length = t255.length from (Kd.R_reads' HO_260001.out).1.symm] <;> rfl) | rfl | (simp only [List.length_drop, List.length_take]; rfl)) : P := h
theorem q6x22_ {P : Prop} (h : P := by (with_reducible repeat (first | refine kN6_ ?_ _ | refine kD6_ ?_ | refine kA6_ ?_ _)); refine blk_put (cs := #[.slice Ao20 t252.length co20, .slice none 0 0]) ?_ 1 _ rfl; (with_reducible repeat (first | refine kN6_ ?_ _ | refine kD6_ ?_ | refine kA6_ ?_ _)); refine blk_put (cs := #[.slice none 0 0, .slice none 0 0]) ?_ 0 _ rfl; (with_reducible repeat (first | refine kN6_ ?_ _ | refine kD6_ ?_ | refine kA6_ ?_ _)); exact BK259.out) : P := h
theorem q6x23_ {P : Prop} (h : P := by (with_reducible repeat (first | refine kN6_ ?_ _ | refine kD6_ ?_ | refine kA6_ ?_ _)); refine blk_put (cs := #[.slice Ao64 t267.length co64, .slice none 0 0]) ?_ 1 _ rfl; (with_reducible repeat (first | refine kN6_ ?_ _ | refine kD6_ ?_ | refine kA6_ ?_ _)); refine blk_put (cs := #[.slice none 0 0, .slice none 0 0]) ?_ 0 _ rfl; (with_reducible repeat (first | refine kN6_ ?_ _ | refine kD6_ ?_ | refine kA6_ ?_ _)); exact BK274.out) : P := h
theorem q6x24_ {P : Prop} (h : P := by (with_reducible repeat (first | apply rA6_ | apply rN6_ | apply rD6_)); exact HO244.out) : P := h
theorem q6x25_ {P : Prop} (h : P := by (with_reducible repeat (first | apply rA6_ | apply rN6_ | apply rD6_)); exact HO247.out) : P := h
theorem q6x26_ {P : Prop} (h : P := by (with_reducible repeat (first | refine kN6_ ?_ _ | refine kD6_ ?_ | refine kA6_ ?_ _)); refine blk_far ?_ NB239_259.out _; (with_reducible repeat (first | refine kN6_ ?_ _ | refine kD6_ ?_ | refine kA6_ ?_ _)); refine blk_far ?_ NB239_259.out _; (with_reducible repeat (first | refine kN6_ ?_ _ | refine kD6_ ?_ | refine kA6_ ?_ _)); exact BK239.out) : P := h
theorem q6x27_ {P : Prop} (h : P := by (with_reducible repeat (first | refine kN6_ ?_ _ | refine kD6_ ?_ | refine kA6_ ?_ _)); refine blk_far ?_ NB249_259.out _; (with_reducible repeat (first | refine kN6_ ?_ _ | refine kD6_ ?_ | refine kA6_ ?_ _)); refine blk_far ?_ NB249_259.out _; (with_reducible repeat (first | refine kN6_ ?_ _ | refine kD6_ ?_ | refine kA6_ ?_ _)); exact BK249.out) : P := h
theorem q6x28_ {P : Prop} (h : P := by (with_reducible repeat (first | refine kN6_ ?_ _ | refine kD6_ ?_ | refine kA6_ ?_ _)); refine blk_far ?_ NB239_274.out _; (with_reducible repeat (first | refine kN6_ ?_ _ | refine kD6_ ?_ | refine kA6_ ?_ _)); refine blk_far ?_ NB239_274.out _; (with_reducible repeat (first | refine kN6_ ?_ _ | refine kD6_ ?_ | refine kA6_ ?_ _)); exact BK239.out) : P := h
theorem q6x29_ {P : Prop} (h : P := by (with_reducible repeat (first | refine kN6_ ?_ _ | refine kD6_ ?_ | refine kA6_ ?_ _)); refine blk_far ?_ NB249_274.out _; (with_reducible repeat (first | refine kN6_ ?_ _ | refine kD6_ ?_ | refine kA6_ ?_ _)); refine blk_far ?_ NB249_274.out _; (with_reducible repeat (first | refine kN6_ ?_ _ | refine kD6_ ?_ | refine kA6_ ?_ _)); exact BK249.out) : P := h
theorem q6x30_ {P : Prop} (h : P := by (with_reducible repeat (first | refine kN6_ ?_ _ | refine kD6_ ?_ | refine kA6_ ?_ _)); refine blk_far ?_ NB259_274.out _; (with_reducible repeat (first | refine kN6_ ?_ _ | refine kD6_ ?_ | refine kA6_ ?_ _)); refine blk_far ?_ NB259_274.out _; (with_reducible repeat (first | refine kN6_ ?_ _ | refine kD6_ ?_ | refine kA6_ ?_ _)); exact BK259.out) : P := h
theorem q6x31_ {P : Prop} (h : P := by (with_reducible repeat (first | apply rA6_ | apply rN6_ | apply rD6_)); exact (Kd.R_mono (Kd.R_far (p := ⟨gb274, 1, none⟩) (Kd.R_far (p := ⟨gb274, 0, none⟩) (Kd.R_types HO_260000.out BK274.out (by decide)) (fun _ hk => hk.2) (.slice Ao64 t267.length co64)) (fun _ hk => hk.2) (.slice Ao69 t270.length co69)) (fun _ h_ => h_.1))) : P := h
theorem q6x32_ {P : Prop} (h : P := by (with_reducible repeat (first | apply rA6_ | apply rN6_ | apply rD6_)); exact (Kd.R_mono (Kd.R_far (p := ⟨gb274, 1, none⟩) (Kd.R_far (p := ⟨gb274, 0, none⟩) (Kd.R_types HO_260001.out BK274.out (by decide)) (fun _ hk => hk.2) (.slice Ao64 t267.length co64)) (fun _ hk => hk.2) (.slice Ao69 t270.length co69)) (fun _ h_ => h_.1))) : P := h
theorem q6x33_ {P : Prop} (h : P := by repeat (first | (with_reducible first | exact HB.out | apply below_alloc | apply pw_below_drewN | apply below_drew1) | exact HB.out)) : P := h
theorem q6x34_ {P : Prop} (h : P := by (with_reducible repeat (first | refine kN6_ ?_ _ | refine kD6_ ?_ | refine kA6_ ?_ _)); exact BK274.out) : P := h
theorem q6x35_ {P : Prop} (h : P := by rw [hg]; exact Nat.ne_of_lt (blk_lt (g := gb239) (o := .cells #[.int .i64 a0_0, .int .i64 a0_1] 43 (0, 0)) q6x1_)) : P := h
theorem q6x36_ {P : Prop} (h : P := by rw [hg]; exact Nat.ne_of_gt (blk_lt (g := gb239) (o := .cells #[.int .i64 a0_0, .int .i64 a0_1] 43 (0, 0)) q6x1_)) : P := h
theorem q6x37_ {P : Prop} (h : P := by (with_reducible repeat (first | apply rA6_ | apply rN6_ | apply rD6_)); exact HO_275000.out) : P := h
theorem q6x38_ {P : Prop} (h : P := by (with_reducible repeat (first | apply rA6_ | apply rN6_ | apply rD6_)); exact HO_275001.out) : P := h
/-! ### laws_FnExactStreamOf: function 6 -/
mutual
def laws_FnExactStreamOf.j0 : Nat → Int → Bool → Int → Int → List Int → List Int → List Int → List Int → Option (Bool)
 | 0, _, _, _, _, _, _, _, _ => none
 | k + 1, x4, x31, x240000, x240001, x250000, x250001, x260000, x260001 => if x31 = true then (some false) else ((laws_markStream.f k x260000 x260001 1).bind fun bt261 => ((laws_heldStream.f k bt261.2.1 bt261.2.2 1).bind fun t264 => (if t264 < 0 then (some false) else (if t264 = bt261.1 then ((laws_toRatio.f x240000 x240001).bind fun bt265 => ((impl_StreamOf.f k bt265.1 bt265.2).bind fun bt267 => ((laws_eqStream.f k bt267.1 bt267.2.1 x250000 x250001).bind fun t275 => (if t275 = true then (laws_FnExactStreamOf.j1 k bt261.1 (bt267.2.2 != x4) bt261.2.1 bt261.2.2) else (laws_FnExactStreamOf.j1 k bt261.1 true bt261.2.1 bt261.2.2))))) else (some false)))))
def laws_FnExactStreamOf.j1 : Nat → Int → Bool → List Int → List Int → Option (Bool)
 | 0, _, _, _, _ => none
 | k + 1, x7, x57, x260000, x260001 => if x57 = true then (some false) else ((laws_heldStream.f k x260000 x260001 1).bind fun t276 => (if t276 < 0 then (some false) else (if t276 = x7 then (some true) else (some false))))
end
def laws_FnExactStreamOf.f (k : Nat) (a0_0 : Int) (a0_1 : Int) : Option (Bool) := (laws_toRatio.f a0_0 a0_1).bind fun bt240 => ((spec_StreamOf.f k bt240.1 bt240.2).bind fun bt242 => ((laws_toRatio.f a0_0 a0_1).bind fun bt250 => ((impl_StreamOf.f k bt250.1 bt250.2).bind fun bt252 => ((laws_eqStream.f k bt252.1 bt252.2.1 bt242.1 bt242.2.1).bind fun t260 => (if t260 = true then (laws_FnExactStreamOf.j0 k bt242.2.2 (bt252.2.2 != bt242.2.2) a0_0 a0_1 bt242.1 bt242.2.1 bt252.1 bt252.2.1) else (laws_FnExactStreamOf.j0 k bt242.2.2 true a0_0 a0_1 bt242.1 bt242.2.1 bt252.1 bt252.2.1))))))
theorem laws_FnExactStreamOf.mono_l : ∀ k, (∀ y0 y1 y2 y3 y4 y5 y6 y7, LeO (laws_FnExactStreamOf.j0 k y0 y1 y2 y3 y4 y5 y6 y7) (laws_FnExactStreamOf.j0 (k + 1) y0 y1 y2 y3 y4 y5 y6 y7)) ∧ (∀ y0 y1 y2 y3, LeO (laws_FnExactStreamOf.j1 k y0 y1 y2 y3) (laws_FnExactStreamOf.j1 (k + 1) y0 y1 y2 y3))
 | 0 => ⟨fun _ _ _ _ _ _ _ _ r h => by simp [laws_FnExactStreamOf.j0] at h, fun _ _ _ _ r h => by simp [laws_FnExactStreamOf.j1] at h⟩
 | k + 1 => by
  obtain ⟨ih0, ih1⟩ := laws_FnExactStreamOf.mono_l k
  refine ⟨?_, ?_⟩
  ·intro y0 y1 y2 y3 y4 y5 y6 y7
   unfold laws_FnExactStreamOf.j0
   repeat' first
   | (with_reducible exact ih0 _ _ _ _ _ _ _ _)
   | (with_reducible exact ih1 _ _ _ _)
   | (with_reducible exact impl_StreamOf.mono _ _ _)
   | (with_reducible exact laws_eqStream.mono _ _ _ _ _)
   | (with_reducible exact laws_heldStream.mono _ _ _ _)
   | (with_reducible exact laws_markStream.mono _ _ _ _)
   | (with_reducible exact spec_StreamOf.mono _ _ _)
   | (with_reducible exact LeO.refl _)
   | (with_reducible exact LeO.none _)
   | (with_reducible refine LeO.ite ?_ ?_)
   | (with_reducible refine LeO.bind ?_ (fun _ => ?_))
   | exact ih0 _ _ _ _ _ _ _ _
   | exact ih1 _ _ _ _
   | exact impl_StreamOf.mono _ _ _
   | exact laws_eqStream.mono _ _ _ _ _
   | exact laws_heldStream.mono _ _ _ _
   | exact laws_markStream.mono _ _ _ _
   | exact spec_StreamOf.mono _ _ _
   | exact LeO.none _
   | refine LeO.ite ?_ ?_
   | refine LeO.bind ?_ (fun _ => ?_)
  intro y0 y1 y2 y3
  unfold laws_FnExactStreamOf.j1
  repeat' first
  | (with_reducible exact ih0 _ _ _ _ _ _ _ _)
  | (with_reducible exact ih1 _ _ _ _)
  | (with_reducible exact impl_StreamOf.mono _ _ _)
  | (with_reducible exact laws_eqStream.mono _ _ _ _ _)
  | (with_reducible exact laws_heldStream.mono _ _ _ _)
  | (with_reducible exact laws_markStream.mono _ _ _ _)
  | (with_reducible exact spec_StreamOf.mono _ _ _)
  | (with_reducible exact LeO.refl _)
  | (with_reducible exact LeO.none _)
  | (with_reducible refine LeO.ite ?_ ?_)
  | (with_reducible refine LeO.bind ?_ (fun _ => ?_))
  | exact ih0 _ _ _ _ _ _ _ _
  | exact ih1 _ _ _ _
  | exact impl_StreamOf.mono _ _ _
  | exact laws_eqStream.mono _ _ _ _ _
  | exact laws_heldStream.mono _ _ _ _
  | exact laws_markStream.mono _ _ _ _
  | exact spec_StreamOf.mono _ _ _
  | exact LeO.none _
  | refine LeO.ite ?_ ?_
  | refine LeO.bind ?_ (fun _ => ?_)
theorem laws_FnExactStreamOf.mono : ∀ a0 a1 k, LeO (laws_FnExactStreamOf.f k a0 a1) (laws_FnExactStreamOf.f (k + 1) a0 a1) := by
 intro a0 a1 k
 obtain ⟨ih0, ih1⟩ := laws_FnExactStreamOf.mono_l k
 unfold laws_FnExactStreamOf.f
 repeat' first
   | (with_reducible exact ih0 _ _ _ _ _ _ _ _)
   | (with_reducible exact ih1 _ _ _ _)
   | (with_reducible exact impl_StreamOf.mono _ _ _)
   | (with_reducible exact laws_eqStream.mono _ _ _ _ _)
   | (with_reducible exact laws_heldStream.mono _ _ _ _)
   | (with_reducible exact laws_markStream.mono _ _ _ _)
   | (with_reducible exact spec_StreamOf.mono _ _ _)
   | (with_reducible exact LeO.refl _)
   | (with_reducible exact LeO.none _)
   | (with_reducible refine LeO.ite ?_ ?_)
   | (with_reducible refine LeO.bind ?_ (fun _ => ?_))
   | exact ih0 _ _ _ _ _ _ _ _
   | exact ih1 _ _ _ _
   | exact impl_StreamOf.mono _ _ _
   | exact laws_eqStream.mono _ _ _ _ _
   | exact laws_heldStream.mono _ _ _ _
   | exact laws_markStream.mono _ _ _ _
   | exact spec_StreamOf.mono _ _ _
   | exact LeO.none _
   | refine LeO.ite ?_ ?_
   | refine LeO.bind ?_ (fun _ => ?_)
set_option maxHeartbeats 8000000 in
set_option maxRecDepth 100000 in
theorem laws_FnExactStreamOf.calls (k : Nat) (a0_0 : Int) (a0_1 : Int) (r : Bool) (w : World) (h : laws_FnExactStreamOf.f k a0_0 a0_1 = some r) :
  Calls Try.prog 6 #[.agg #[.int .i64 a0_0, .int .i64 a0_1]] w fun e w' => e = .returned (.bool r) ∧ Below w.heap.size w w' := by
 have hu43 := Try.underlying43
 have hu34 := Try.underlying34
 have HB := aM6_ (Below.refl w.heap.size w)
 have H : ((laws_toRatio.f a0_0 a0_1).bind fun bt240 => ((spec_StreamOf.f k bt240.1 bt240.2).bind fun bt242 => ((laws_toRatio.f a0_0 a0_1).bind fun bt250 => ((impl_StreamOf.f k bt250.1 bt250.2).bind fun bt252 => ((laws_eqStream.f k bt252.1 bt252.2.1 bt242.1 bt242.2.1).bind fun t260 => (if t260 = true then (laws_FnExactStreamOf.j0 k bt242.2.2 (bt252.2.2 != bt242.2.2) a0_0 a0_1 bt242.1 bt242.2.1 bt252.1 bt252.2.1) else (laws_FnExactStreamOf.j0 k bt242.2.2 true a0_0 a0_1 bt242.1 bt242.2.1 bt252.1 bt252.2.1))))))) = some r := h
 clear h
 replace H := Option.bind_eq_some_iff.mp H
 obtain ⟨⟨t240, t241⟩, A20, H⟩ := H
 replace H : ((spec_StreamOf.f k t240 t241).bind fun bt242 => ((laws_toRatio.f a0_0 a0_1).bind fun bt250 => ((impl_StreamOf.f k bt250.1 bt250.2).bind fun bt252 => ((laws_eqStream.f k bt252.1 bt252.2.1 bt242.1 bt242.2.1).bind fun t260 => (if t260 = true then (laws_FnExactStreamOf.j0 k bt242.2.2 (bt252.2.2 != bt242.2.2) a0_0 a0_1 bt242.1 bt242.2.1 bt252.1 bt252.2.1) else (laws_FnExactStreamOf.j0 k bt242.2.2 true a0_0 a0_1 bt242.1 bt242.2.1 bt252.1 bt252.2.1)))))) = some r := H
 have A2 := aM6_ A20
 clear A20
 replace H := Option.bind_eq_some_iff.mp H
 obtain ⟨⟨t242, t245, t248⟩, A30, H⟩ := H
 replace H : ((laws_toRatio.f a0_0 a0_1).bind fun bt250 => ((impl_StreamOf.f k bt250.1 bt250.2).bind fun bt252 => ((laws_eqStream.f k bt252.1 bt252.2.1 t242 t245).bind fun t260 => (if t260 = true then (laws_FnExactStreamOf.j0 k t248 (bt252.2.2 != t248) a0_0 a0_1 t242 t245 bt252.1 bt252.2.1) else (laws_FnExactStreamOf.j0 k t248 true a0_0 a0_1 t242 t245 bt252.1 bt252.2.1))))) = some r := H
 have A3 := aM6_ A30
 clear A30
 replace H := Option.bind_eq_some_iff.mp H
 obtain ⟨⟨t250, t251⟩, A40, H⟩ := H
 replace H : ((impl_StreamOf.f k t250 t251).bind fun bt252 => ((laws_eqStream.f k bt252.1 bt252.2.1 t242 t245).bind fun t260 => (if t260 = true then (laws_FnExactStreamOf.j0 k t248 (bt252.2.2 != t248) a0_0 a0_1 t242 t245 bt252.1 bt252.2.1) else (laws_FnExactStreamOf.j0 k t248 true a0_0 a0_1 t242 t245 bt252.1 bt252.2.1)))) = some r := H
 have A4 := aM6_ A40
 clear A40
 replace H := Option.bind_eq_some_iff.mp H
 obtain ⟨⟨t252, t255, t258⟩, A50, H⟩ := H
 replace H : ((laws_eqStream.f k t252 t255 t242 t245).bind fun t260 => (if t260 = true then (laws_FnExactStreamOf.j0 k t248 (t258 != t248) a0_0 a0_1 t242 t245 t252 t255) else (laws_FnExactStreamOf.j0 k t248 true a0_0 a0_1 t242 t245 t252 t255))) = some r := H
 have A5 := aM6_ A50
 clear A50
 have HC6 := aM6_ H
 clear H
 go_enter Try.func6, Try.ntmps6
 go_upto_region 3 with (first | ((with_reducible refine gate_dst (N := 1) rfl ?_); refine box_event ?hg (N := 1) ?hd (cs := #[.int .i64 a0_0, .int .i64 a0_1]) (t := 43) ?hr ?_; (case hd => rfl); (case hg => rfl); (case hr => first | (go_simp; done) | (go_simp; rfl)); intro gb239 hg w7 hbox hb; have n0_ := aM6_ (below_step q6x33_ hb); have n1_ := aM6_ (hbox); have n2_ := aM6_ ((by rw [hg]; exact (below_size q6x33_) : w.heap.size ≤ gb239)); have n3_ := aM6_ ((by rw [hg]; exact (below_size q6x33_) : w.heap.size ≤ gb239)); clear HB; have HB := n0_; have BK239 := n1_; have GW239 := n2_; have GE239 := n3_; clear n0_ n1_ n2_ n3_; clear hb hbox hg; have hcz8_0 : w7.cell? ⟨gb239, 0, none⟩ = some (.int .i64 a0_0) := (kC6_ BK239.out 0).trans rfl; have hcz8_1 : w7.cell? ⟨gb239, 1, none⟩ = some (.int .i64 a0_1) := (kC6_ BK239.out 1).trans rfl; have hfz8_0 := blk_frozen BK239.out 0; have hfz8_1 := blk_frozen BK239.out 1) | ((with_reducible refine gate_callee (f := 27) rfl ?_); refine goesL_ (some 13) rfl rfl Try.func27 (by kernel_rfl) rfl #[.agg #[.int .i64 a0_0, .int .i64 a0_1]] rfl q6x3_ ?_; (with_reducible refine (laws_toRatio.calls a0_0 a0_1 t240 t241 _ A2.out).mono ?_); rintro e w9 ⟨rfl, hb⟩; refine ⟨_, rfl, ?_⟩; have n0_ := aM6_ (kB6_ (g := gb239) (o := .cells #[.int .i64 a0_0, .int .i64 a0_1] 43 (0, 0)) q6x1_ hb); have n1_ := aM6_ (below_step q6x20_ hb); clear BK239; clear HB; have BK239 := n0_; have HB := n1_; clear n0_ n1_; (try clear hb); (try clear hb2); (try clear hk); (try clear hi)) | ((with_reducible refine gate_callee (f := 26) rfl ?_); refine goesL_ (some 14) rfl rfl Try.func26 (by kernel_rfl) rfl #[.agg #[.int .i64 t240, .int .i64 t241]] rfl q6x3_ ?_; (with_reducible refine (spec_StreamOf.calls k t240 t241 t242 t245 t248 _ A3.out).mono ?_); rintro e w10 ⟨v243, v246, rfl, ho0, ho1, hb⟩; refine ⟨_, rfl, ?_⟩; have n0_ := aM6_ (Kd.R_lower ho0 (below_size q6x20_)); have n1_ := aM6_ (Kd.R_lower ho1 (below_size q6x20_)); have n2_ := aM6_ (kB6_ (g := gb239) (o := .cells #[.int .i64 a0_0, .int .i64 a0_1] 43 (0, 0)) q6x1_ hb); have n3_ := aM6_ (below_step q6x20_ hb); clear BK239; clear HB; have HO244 := n0_; have HO247 := n1_; have BK239 := n2_; have HB := n3_; clear n0_ n1_ n2_ n3_; (try clear hb); (try clear hb2); (try clear hk); (try clear hi); (try clear ho0); (try clear ho1)) | ((with_reducible refine gate_dst (N := 3) rfl ?_); refine box_event ?hg (N := 3) ?hd (cs := #[.slice none 0 0, .slice none 0 0]) (t := 34) ?hr ?_; (case hd => rfl); (case hg => rfl); (case hr => first | (go_simp; done) | (go_simp; rfl)); intro gb249 hg w11 hbox hb; have n0_ := aM6_ (rB6_ q6x24_ hb); have n1_ := aM6_ (rB6_ q6x25_ hb); have n2_ := aM6_ (kB6_ (g := gb239) (o := .cells #[.int .i64 a0_0, .int .i64 a0_1] 43 (0, 0)) q6x1_ hb); have n3_ := aM6_ (below_step q6x20_ hb); have n4_ := aM6_ (hbox); have n5_ := aM6_ ((by rw [hg]; exact (below_size q6x20_) : w.heap.size ≤ gb249)); have n6_ := aM6_ ((by rw [hg]; exact (below_size q6x20_) : w.heap.size ≤ gb249)); have n7_ := aM6_ ((q6x35_ : gb239 ≠ gb249)); have n8_ := aM6_ ((q6x36_ : gb249 ≠ gb239)); clear HO244; clear HO247; clear BK239; clear HB; have HO244 := n0_; have HO247 := n1_; have BK239 := n2_; have HB := n3_; have BK249 := n4_; have GW249 := n5_; have GE249 := n6_; have NB239_249 := n7_; have NB249_239 := n8_; clear n0_ n1_ n2_ n3_ n4_ n5_ n6_ n7_ n8_; clear hb hbox hg; obtain ⟨Ao12, co12, eo12⟩ := Kd.R_slice HO244.out; subst eo12; have hnb13 := NB249_239.out; have hnc13 := NB239_249.out; have hcz14_0 : w11.cell? ⟨gb249, 0, none⟩ = some (.slice none 0 0) := (kC6_ BK249.out 0).trans rfl; have hcz14_1 : w11.cell? ⟨gb249, 1, none⟩ = some (.slice none 0 0) := (kC6_ BK249.out 1).trans rfl; have hfz14_0 := blk_frozen BK249.out 0; have hfz14_1 := blk_frozen BK249.out 1; obtain ⟨Ao15, co15, eo15⟩ := Kd.R_slice HO247.out; subst eo15; have hcz16_0 : w11.cell? ⟨gb239, 0, none⟩ = some (.int .i64 a0_0) := (kC6_ BK239.out 0).trans rfl; have hcz16_1 : w11.cell? ⟨gb239, 1, none⟩ = some (.int .i64 a0_1) := (kC6_ BK239.out 1).trans rfl; have hfz16_0 := blk_frozen BK239.out 0; have hfz16_1 := blk_frozen BK239.out 1) | ((with_reducible refine gate_callee (f := 27) rfl ?_); refine goesL_ (some 19) rfl rfl Try.func27 (by kernel_rfl) rfl #[.agg #[.int .i64 a0_0, .int .i64 a0_1]] rfl q6x3_ ?_; (with_reducible refine (laws_toRatio.calls a0_0 a0_1 t250 t251 _ A4.out).mono ?_); rintro e w17 ⟨rfl, hb⟩; refine ⟨_, rfl, ?_⟩; have n0_ := aM6_ (rB6_ (by (with_reducible repeat (first | apply rA6_ | apply rN6_ | apply rD6_)); exact (Kd.R_mono (Kd.R_far (p := ⟨gb249, 1, none⟩) (Kd.R_far (p := ⟨gb249, 0, none⟩) (Kd.R_types HO244.out BK249.out (by decide)) (fun _ hk => hk.2) (.slice Ao12 t242.length co12)) (fun _ hk => hk.2) (.slice Ao15 t245.length co15)) (fun _ h_ => h_.1))) hb); have n1_ := aM6_ (rB6_ (by (with_reducible repeat (first | apply rA6_ | apply rN6_ | apply rD6_)); exact (Kd.R_mono (Kd.R_far (p := ⟨gb249, 1, none⟩) (Kd.R_far (p := ⟨gb249, 0, none⟩) (Kd.R_types HO247.out BK249.out (by decide)) (fun _ hk => hk.2) (.slice Ao12 t242.length co12)) (fun _ hk => hk.2) (.slice Ao15 t245.length co15)) (fun _ h_ => h_.1))) hb); have n2_ := aM6_ (kB6_ (g := gb239) (o := .cells #[.int .i64 a0_0, .int .i64 a0_1] 43 (0, 0)) (by (with_reducible repeat (first | refine kN6_ ?_ _ | refine kD6_ ?_ | refine kA6_ ?_ _)); refine blk_far ?_ NB239_249.out _; (with_reducible repeat (first | refine kN6_ ?_ _ | refine kD6_ ?_ | refine kA6_ ?_ _)); refine blk_far ?_ NB239_249.out _; (with_reducible repeat (first | refine kN6_ ?_ _ | refine kD6_ ?_ | refine kA6_ ?_ _)); exact BK239.out) hb); have n3_ := aM6_ (kB6_ (g := gb249) (o := .cells #[.slice Ao12 t242.length co12, .slice Ao15 t245.length co15] 34 (0, 0)) (by (with_reducible repeat (first | refine kN6_ ?_ _ | refine kD6_ ?_ | refine kA6_ ?_ _)); refine blk_put (cs := #[.slice Ao12 t242.length co12, .slice none 0 0]) ?_ 1 _ rfl; (with_reducible repeat (first | refine kN6_ ?_ _ | refine kD6_ ?_ | refine kA6_ ?_ _)); refine blk_put (cs := #[.slice none 0 0, .slice none 0 0]) ?_ 0 _ rfl; (with_reducible repeat (first | refine kN6_ ?_ _ | refine kD6_ ?_ | refine kA6_ ?_ _)); exact BK249.out) hb); have n4_ := aM6_ (below_step q6x6_ hb); clear HO244; clear HO247; clear BK239; clear BK249; clear HB; have HO244 := n0_; have HO247 := n1_; have BK239 := n2_; have BK249 := n3_; have HB := n4_; clear n0_ n1_ n2_ n3_ n4_; (try clear hb); (try clear hb2); (try clear hk); (try clear hi)) | ((with_reducible refine gate_callee (f := 28) rfl ?_); refine goesL_ (some 20) rfl rfl Try.func28 (by kernel_rfl) rfl #[.agg #[.int .i64 t250, .int .i64 t251]] rfl q6x3_ ?_; (with_reducible refine (impl_StreamOf.calls k t250 t251 t252 t255 t258 _ A5.out).mono ?_); rintro e w18 ⟨v253, v256, rfl, ho0, ho1, hb⟩; refine ⟨_, rfl, ?_⟩; have n0_ := aM6_ (Kd.R_mono (Kd.R_told (Kd.R_told (Kd.R_old q6x24_ hb) (Kd.R_base ho0)) (Kd.R_base ho1)) (fun _ h_ => h_.1)); have n1_ := aM6_ (Kd.R_mono (Kd.R_told (Kd.R_told (Kd.R_old q6x25_ hb) (Kd.R_base ho0)) (Kd.R_base ho1)) (fun _ h_ => h_.1)); have n2_ := aM6_ (Kd.R_lower (Kd.R_new' (Kd.R_new' ho0 (Kd.R_lt q6x24_)) (Kd.R_lt q6x25_)) (below_size q6x6_)); have n3_ := aM6_ (Kd.R_lower (Kd.R_new' (Kd.R_new' ho1 (Kd.R_lt q6x24_)) (Kd.R_lt q6x25_)) (below_size q6x6_)); have n4_ := aM6_ (kB6_ (g := gb239) (o := .cells #[.int .i64 a0_0, .int .i64 a0_1] 43 (0, 0)) q6x1_ hb); have n5_ := aM6_ (kB6_ (g := gb249) (o := .cells #[.slice Ao12 t242.length co12, .slice Ao15 t245.length co15] 34 (0, 0)) q6x4_ hb); have n6_ := aM6_ (below_step q6x6_ hb); clear HO244; clear HO247; clear BK239; clear BK249; clear HB; have HO244 := n0_; have HO247 := n1_; have HO254 := n2_; have HO257 := n3_; have BK239 := n4_; have BK249 := n5_; have HB := n6_; clear n0_ n1_ n2_ n3_ n4_ n5_ n6_; (try clear hb); (try clear hb2); (try clear hk); (try clear hi); (try clear ho0); (try clear ho1)) | ((with_reducible refine gate_dst (N := 5) rfl ?_); refine box_event ?hg (N := 5) ?hd (cs := #[.slice none 0 0, .slice none 0 0]) (t := 34) ?hr ?_; (case hd => rfl); (case hg => rfl); (case hr => first | (go_simp; done) | (go_simp; rfl)); intro gb259 hg w19 hbox hb; have n0_ := aM6_ (rB6_ q6x24_ hb); have n1_ := aM6_ (rB6_ q6x25_ hb); have n2_ := aM6_ (rB6_ (by (with_reducible repeat (first | apply rA6_ | apply rN6_ | apply rD6_)); exact HO254.out) hb); have n3_ := aM6_ (rB6_ (by (with_reducible repeat (first | apply rA6_ | apply rN6_ | apply rD6_)); exact HO257.out) hb); have n4_ := aM6_ (kB6_ (g := gb239) (o := .cells #[.int .i64 a0_0, .int .i64 a0_1] 43 (0, 0)) q6x1_ hb); have n5_ := aM6_ (kB6_ (g := gb249) (o := .cells #[.slice Ao12 t242.length co12, .slice Ao15 t245.length co15] 34 (0, 0)) q6x4_ hb); have n6_ := aM6_ (below_step q6x6_ hb); have n7_ := aM6_ (hbox); have n8_ := aM6_ ((by rw [hg]; exact (below_size q6x6_) : w.heap.size ≤ gb259)); have n9_ := aM6_ ((by rw [hg]; exact (below_size q6x6_) : w.heap.size ≤ gb259)); have n10_ := aM6_ ((q6x35_ : gb239 ≠ gb259)); have n11_ := aM6_ ((q6x36_ : gb259 ≠ gb239)); have n12_ := aM6_ ((by rw [hg]; exact Nat.ne_of_lt (blk_lt (g := gb249) (o := .cells #[.slice Ao12 t242.length co12, .slice Ao15 t245.length co15] 34 (0, 0)) q6x4_) : gb249 ≠ gb259)); have n13_ := aM6_ ((by rw [hg]; exact Nat.ne_of_gt (blk_lt (g := gb249) (o := .cells #[.slice Ao12 t242.length co12, .slice Ao15 t245.length co15] 34 (0, 0)) q6x4_) : gb259 ≠ gb249)); clear HO244; clear HO247; clear HO254; clear HO257; clear BK239; clear BK249; clear HB; have HO244 := n0_; have HO247 := n1_; have HO254 := n2_; have HO257 := n3_; have BK239 := n4_; have BK249 := n5_; have HB := n6_; have BK259 := n7_; have GW259 := n8_; have GE259 := n9_; have NB239_259 := n10_; have NB259_239 := n11_; have NB249_259 := n12_; have NB259_249 := n13_; clear n0_ n1_ n2_ n3_ n4_ n5_ n6_ n7_ n8_ n9_ n10_ n11_ n12_ n13_; clear hb hbox hg; obtain ⟨Ao20, co20, eo20⟩ := Kd.R_slice HO254.out; subst eo20; have hnb21 := NB259_239.out; have hnc21 := NB239_259.out; have hnb22 := NB259_249.out; have hnc22 := NB249_259.out; have hcz23_0 : w19.cell? ⟨gb259, 0, none⟩ = some (.slice none 0 0) := (kC6_ BK259.out 0).trans rfl; have hcz23_1 : w19.cell? ⟨gb259, 1, none⟩ = some (.slice none 0 0) := (kC6_ BK259.out 1).trans rfl; have hfz23_0 := blk_frozen BK259.out 0; have hfz23_1 := blk_frozen BK259.out 1; obtain ⟨Ao24, co24, eo24⟩ := Kd.R_slice HO257.out; subst eo24))
 (try simp only [Act.put, List.setIfInBounds_toArray, List.set_cons_zero, List.set_cons_succ])
 go_cut [31] (fun v31 wc => ∃ (kq : Nat) (x31_5 : Bool), v31 = .bool x31_5 ∧ Aside0 (laws_FnExactStreamOf.j0 kq t248 x31_5 a0_0 a0_1 t242 t245 t252 t255 = some r) ∧ Aside0 (kq ≤ k) ∧ Aside0 (Kd.R (Kd.int .i8) 69 wc w.heap.size (fun k_ => some k_ ≠ ((.slice Ao15 t245.length co15) : Value).ownBlock ∧ some k_ ≠ ((.slice Ao20 t252.length co20) : Value).ownBlock ∧ some k_ ≠ ((.slice Ao24 t255.length co24) : Value).ownBlock) (.slice Ao12 t242.length co12) t242) ∧ Aside0 (Kd.R (Kd.int .i8) 69 wc w.heap.size (fun k_ => some k_ ≠ ((.slice Ao12 t242.length co12) : Value).ownBlock ∧ some k_ ≠ ((.slice Ao20 t252.length co20) : Value).ownBlock ∧ some k_ ≠ ((.slice Ao24 t255.length co24) : Value).ownBlock) (.slice Ao15 t245.length co15) t245) ∧ Aside0 (Kd.R (Kd.int .i8) 69 wc w.heap.size (fun k_ => some k_ ≠ ((.slice Ao12 t242.length co12) : Value).ownBlock ∧ some k_ ≠ ((.slice Ao15 t245.length co15) : Value).ownBlock ∧ some k_ ≠ ((.slice Ao24 t255.length co24) : Value).ownBlock) (.slice Ao20 t252.length co20) t252) ∧ Aside0 (Kd.R (Kd.int .i8) 69 wc w.heap.size (fun k_ => some k_ ≠ ((.slice Ao12 t242.length co12) : Value).ownBlock ∧ some k_ ≠ ((.slice Ao15 t245.length co15) : Value).ownBlock ∧ some k_ ≠ ((.slice Ao20 t252.length co20) : Value).ownBlock) (.slice Ao24 t255.length co24) t255) ∧ Aside0 (wc.heap[gb239]? = some (.cells #[.int .i64 a0_0, .int .i64 a0_1] 43 (0, 0))) ∧ Aside0 (wc.heap[gb249]? = some (.cells #[(.slice Ao12 t242.length co12), (.slice Ao15 t245.length co15)] 34 (0, 0))) ∧ Aside0 (wc.heap[gb259]? = some (.cells #[(.slice Ao20 t252.length co20), (.slice Ao24 t255.length co24)] 34 (0, 0))) ∧ Aside0 (Below w.heap.size w wc))
 case first =>
  have H := HC6.out
  clear HC6
  replace H := Option.bind_eq_some_iff.mp H
  obtain ⟨t260, A250, H⟩ := H
  replace H : (if t260 = true then (laws_FnExactStreamOf.j0 k t248 (t258 != t248) a0_0 a0_1 t242 t245 t252 t255) else (laws_FnExactStreamOf.j0 k t248 true a0_0 a0_1 t242 t245 t252 t255)) = some r := H
  have A25 := aM6_ A250
  clear A250
  by_cases c26 : t260 = true
  ·subst c26
   have H1 : (laws_FnExactStreamOf.j0 k t248 (t258 != t248) a0_0 a0_1 t242 t245 t252 t255) = some r := by rw [if_pos rfl] at H; exact H
   clear H
   have H := H1
   clear H1
   have H' := aM6_ H
   clear H
   have hnb27 := NB259_239.out
   have hnc27 := NB239_259.out
   have hnb28 := NB259_249.out
   have hnc28 := NB249_259.out
   have hcz29_0 : w19.cell? ⟨gb259, 0, none⟩ = some (.slice none 0 0) := (kC6_ BK259.out 0).trans rfl
   have hcz29_1 : w19.cell? ⟨gb259, 1, none⟩ = some (.slice none 0 0) := (kC6_ BK259.out 1).trans rfl
   have hfz29_0 := blk_frozen BK259.out 0
   have hfz29_1 := blk_frozen BK259.out 1
   have hnb30 := NB249_239.out
   have hnc30 := NB239_249.out
   have hcz31_0 : w19.cell? ⟨gb249, 0, none⟩ = some (.slice Ao12 t242.length co12) := (kC6_ BK249.out 0).trans rfl
   have hcz31_1 : w19.cell? ⟨gb249, 1, none⟩ = some (.slice Ao15 t245.length co15) := (kC6_ BK249.out 1).trans rfl
   have hfz31_0 := blk_frozen BK249.out 0
   have hfz31_1 := blk_frozen BK249.out 1
   go_wp2_with (first | ((with_reducible refine gate_callee (f := 21) rfl ?_); refine goesL_ (some 25) rfl rfl Try.func21 (by kernel_rfl) rfl #[.agg #[.slice Ao20 t252.length co20, .slice Ao24 t255.length co24], .agg #[.slice Ao12 t242.length co12, .slice Ao15 t245.length co15]] rfl q6x3_ ?_; (with_reducible refine (laws_eqStream.calls k _ _ t252 _ _ t255 _ _ t242 _ _ t245 true _ ?side1 ?side2 ?side3 ?side4 ?side5 ?side6 ?side7 ?side8 A25.out).mono ?_); (case side1 => refine (Kd.R_reads' (e := 69) (base := w.heap.size) (ok := fun k_ => ((some k_ ≠ (.slice Ao24 t255.length co24 : Value).ownBlock ∧ some k_ ≠ (.slice Ao12 t242.length co12 : Value).ownBlock) ∧ some k_ ≠ (.slice Ao15 t245.length co15 : Value).ownBlock)) (n := t252.length) (c := co20) ?_).2.2; exact q6x13_); (case side2 => exact (Kd.R_reads' HO254.out).2.1); (case side3 => refine (Kd.R_reads' (e := 69) (base := w.heap.size) (ok := fun k_ => ((some k_ ≠ (.slice Ao20 t252.length co20 : Value).ownBlock ∧ some k_ ≠ (.slice Ao12 t242.length co12 : Value).ownBlock) ∧ some k_ ≠ (.slice Ao15 t245.length co15 : Value).ownBlock)) (n := t255.length) (c := co24) ?_).2.2; exact q6x14_); (case side4 => exact (Kd.R_reads' HO257.out).2.1); (case side5 => refine (Kd.R_reads' (e := 69) (base := w.heap.size) (ok := fun k_ => ((some k_ ≠ (.slice Ao15 t245.length co15 : Value).ownBlock ∧ some k_ ≠ (.slice Ao20 t252.length co20 : Value).ownBlock) ∧ some k_ ≠ (.slice Ao24 t255.length co24 : Value).ownBlock)) (n := t242.length) (c := co12) ?_).2.2; exact q6x15_); (case side6 => exact (Kd.R_reads' HO244.out).2.1); (case side7 => refine (Kd.R_reads' (e := 69) (base := w.heap.size) (ok := fun k_ => ((some k_ ≠ (.slice Ao12 t242.length co12 : Value).ownBlock ∧ some k_ ≠ (.slice Ao20 t252.length co20 : Value).ownBlock) ∧ some k_ ≠ (.slice Ao24 t255.length co24 : Value).ownBlock)) (n := t245.length) (c := co15) ?_).2.2; exact q6x16_); (case side8 => exact (Kd.R_reads' HO247.out).2.1); rintro e w32 ⟨rfl, hb⟩; refine ⟨_, rfl, ?_⟩; have n0_ := aM6_ (rB6_ q6x15_ hb); have n1_ := aM6_ (rB6_ q6x16_ hb); have n2_ := aM6_ (rB6_ q6x13_ hb); have n3_ := aM6_ (rB6_ q6x14_ hb); have n4_ := aM6_ (kB6_ (g := gb239) (o := .cells #[.int .i64 a0_0, .int .i64 a0_1] 43 (0, 0)) q6x26_ hb); have n5_ := aM6_ (kB6_ (g := gb249) (o := .cells #[.slice Ao12 t242.length co12, .slice Ao15 t245.length co15] 34 (0, 0)) q6x27_ hb); have n6_ := aM6_ (kB6_ (g := gb259) (o := .cells #[.slice Ao20 t252.length co20, .slice Ao24 t255.length co24] 34 (0, 0)) q6x22_ hb); have n7_ := aM6_ (below_step q6x2_ hb); clear HO244; clear HO247; clear HO254; clear HO257; clear BK239; clear BK249; clear BK259; clear HB; have HO244 := n0_; have HO247 := n1_; have HO254 := n2_; have HO257 := n3_; have BK239 := n4_; have BK249 := n5_; have BK259 := n6_; have HB := n7_; clear n0_ n1_ n2_ n3_ n4_ n5_ n6_ n7_; (try clear hb); (try clear hb2); (try clear hk); (try clear hi)))
   go_meet
   case rel => exact ⟨_, ((t258 != t248)), (by first | rfl | (simp; done) | (simp [*]; done)), H', ⟨by first | omega | exact Nat.le_refl _⟩, ⟨by (with_reducible repeat (first | apply rA6_ | apply rN6_ | apply rD6_)); exact Kd.R_mono HO244.out (fun _ hk => ⟨hk.1.1, ⟨hk.1.2, hk.2⟩⟩)⟩, ⟨by (with_reducible repeat (first | apply rA6_ | apply rN6_ | apply rD6_)); exact Kd.R_mono HO247.out (fun _ hk => ⟨hk.1.1, ⟨hk.1.2, hk.2⟩⟩)⟩, ⟨by (with_reducible repeat (first | apply rA6_ | apply rN6_ | apply rD6_)); exact Kd.R_mono HO254.out (fun _ hk => ⟨hk.1.2, ⟨hk.2, hk.1.1⟩⟩)⟩, ⟨by (with_reducible repeat (first | apply rA6_ | apply rN6_ | apply rD6_)); exact Kd.R_mono HO257.out (fun _ hk => ⟨hk.1.2, ⟨hk.2, hk.1.1⟩⟩)⟩, ⟨by (with_reducible repeat (first | refine kN6_ ?_ _ | refine kD6_ ?_ | refine kA6_ ?_ _)); exact BK239.out⟩, ⟨by (with_reducible repeat (first | refine kN6_ ?_ _ | refine kD6_ ?_ | refine kA6_ ?_ _)); exact BK249.out⟩, ⟨by (with_reducible repeat (first | refine kN6_ ?_ _ | refine kD6_ ?_ | refine kA6_ ?_ _)); exact BK259.out⟩, ⟨by repeat (first | (with_reducible first | exact HB.out | apply below_alloc | apply pw_below_drewN | apply below_drew1 | refine bS6_ ?_ GE239.out | refine bS6_ ?_ GE249.out | refine bS6_ ?_ GE259.out) | exact HB.out)⟩⟩
  replace c26 := Bool.eq_false_iff.mpr c26
  subst c26
  have H1 : (laws_FnExactStreamOf.j0 k t248 true a0_0 a0_1 t242 t245 t252 t255) = some r := by rw [if_neg (show ¬ (false = true) by decide)] at H; exact H
  clear H
  have H := H1
  clear H1
  have H' := aM6_ H
  clear H
  have hnb33 := NB259_239.out
  have hnc33 := NB239_259.out
  have hnb34 := NB259_249.out
  have hnc34 := NB249_259.out
  have hcz35_0 : w19.cell? ⟨gb259, 0, none⟩ = some (.slice none 0 0) := (kC6_ BK259.out 0).trans rfl
  have hcz35_1 : w19.cell? ⟨gb259, 1, none⟩ = some (.slice none 0 0) := (kC6_ BK259.out 1).trans rfl
  have hfz35_0 := blk_frozen BK259.out 0
  have hfz35_1 := blk_frozen BK259.out 1
  have hnb36 := NB249_239.out
  have hnc36 := NB239_249.out
  have hcz37_0 : w19.cell? ⟨gb249, 0, none⟩ = some (.slice Ao12 t242.length co12) := (kC6_ BK249.out 0).trans rfl
  have hcz37_1 : w19.cell? ⟨gb249, 1, none⟩ = some (.slice Ao15 t245.length co15) := (kC6_ BK249.out 1).trans rfl
  have hfz37_0 := blk_frozen BK249.out 0
  have hfz37_1 := blk_frozen BK249.out 1
  go_wp2_with (first | ((with_reducible refine gate_callee (f := 21) rfl ?_); refine goesL_ (some 25) rfl rfl Try.func21 (by kernel_rfl) rfl #[.agg #[.slice Ao20 t252.length co20, .slice Ao24 t255.length co24], .agg #[.slice Ao12 t242.length co12, .slice Ao15 t245.length co15]] rfl q6x3_ ?_; (with_reducible refine (laws_eqStream.calls k _ _ t252 _ _ t255 _ _ t242 _ _ t245 false _ ?side1 ?side2 ?side3 ?side4 ?side5 ?side6 ?side7 ?side8 A25.out).mono ?_); (case side1 => refine (Kd.R_reads' (e := 69) (base := w.heap.size) (ok := fun k_ => ((some k_ ≠ (.slice Ao24 t255.length co24 : Value).ownBlock ∧ some k_ ≠ (.slice Ao12 t242.length co12 : Value).ownBlock) ∧ some k_ ≠ (.slice Ao15 t245.length co15 : Value).ownBlock)) (n := t252.length) (c := co20) ?_).2.2; exact q6x13_); (case side2 => exact (Kd.R_reads' HO254.out).2.1); (case side3 => refine (Kd.R_reads' (e := 69) (base := w.heap.size) (ok := fun k_ => ((some k_ ≠ (.slice Ao20 t252.length co20 : Value).ownBlock ∧ some k_ ≠ (.slice Ao12 t242.length co12 : Value).ownBlock) ∧ some k_ ≠ (.slice Ao15 t245.length co15 : Value).ownBlock)) (n := t255.length) (c := co24) ?_).2.2; exact q6x14_); (case side4 => exact (Kd.R_reads' HO257.out).2.1); (case side5 => refine (Kd.R_reads' (e := 69) (base := w.heap.size) (ok := fun k_ => ((some k_ ≠ (.slice Ao15 t245.length co15 : Value).ownBlock ∧ some k_ ≠ (.slice Ao20 t252.length co20 : Value).ownBlock) ∧ some k_ ≠ (.slice Ao24 t255.length co24 : Value).ownBlock)) (n := t242.length) (c := co12) ?_).2.2; exact q6x15_); (case side6 => exact (Kd.R_reads' HO244.out).2.1); (case side7 => refine (Kd.R_reads' (e := 69) (base := w.heap.size) (ok := fun k_ => ((some k_ ≠ (.slice Ao12 t242.length co12 : Value).ownBlock ∧ some k_ ≠ (.slice Ao20 t252.length co20 : Value).ownBlock) ∧ some k_ ≠ (.slice Ao24 t255.length co24 : Value).ownBlock)) (n := t245.length) (c := co15) ?_).2.2; exact q6x16_); (case side8 => exact (Kd.R_reads' HO247.out).2.1); rintro e w38 ⟨rfl, hb⟩; refine ⟨_, rfl, ?_⟩; have n0_ := aM6_ (rB6_ q6x15_ hb); have n1_ := aM6_ (rB6_ q6x16_ hb); have n2_ := aM6_ (rB6_ q6x13_ hb); have n3_ := aM6_ (rB6_ q6x14_ hb); have n4_ := aM6_ (kB6_ (g := gb239) (o := .cells #[.int .i64 a0_0, .int .i64 a0_1] 43 (0, 0)) q6x26_ hb); have n5_ := aM6_ (kB6_ (g := gb249) (o := .cells #[.slice Ao12 t242.length co12, .slice Ao15 t245.length co15] 34 (0, 0)) q6x27_ hb); have n6_ := aM6_ (kB6_ (g := gb259) (o := .cells #[.slice Ao20 t252.length co20, .slice Ao24 t255.length co24] 34 (0, 0)) q6x22_ hb); have n7_ := aM6_ (below_step q6x2_ hb); clear HO244; clear HO247; clear HO254; clear HO257; clear BK239; clear BK249; clear BK259; clear HB; have HO244 := n0_; have HO247 := n1_; have HO254 := n2_; have HO257 := n3_; have BK239 := n4_; have BK249 := n5_; have BK259 := n6_; have HB := n7_; clear n0_ n1_ n2_ n3_ n4_ n5_ n6_ n7_; (try clear hb); (try clear hb2); (try clear hk); (try clear hi)))
  go_meet
  case rel => exact ⟨_, (true), (by first | rfl | (simp; done) | (simp [*]; done)), H', ⟨by first | omega | exact Nat.le_refl _⟩, ⟨by (with_reducible repeat (first | apply rA6_ | apply rN6_ | apply rD6_)); exact Kd.R_mono HO244.out (fun _ hk => ⟨hk.1.1, ⟨hk.1.2, hk.2⟩⟩)⟩, ⟨by (with_reducible repeat (first | apply rA6_ | apply rN6_ | apply rD6_)); exact Kd.R_mono HO247.out (fun _ hk => ⟨hk.1.1, ⟨hk.1.2, hk.2⟩⟩)⟩, ⟨by (with_reducible repeat (first | apply rA6_ | apply rN6_ | apply rD6_)); exact Kd.R_mono HO254.out (fun _ hk => ⟨hk.1.2, ⟨hk.2, hk.1.1⟩⟩)⟩, ⟨by (with_reducible repeat (first | apply rA6_ | apply rN6_ | apply rD6_)); exact Kd.R_mono HO257.out (fun _ hk => ⟨hk.1.2, ⟨hk.2, hk.1.1⟩⟩)⟩, ⟨by (with_reducible repeat (first | refine kN6_ ?_ _ | refine kD6_ ?_ | refine kA6_ ?_ _)); exact BK239.out⟩, ⟨by (with_reducible repeat (first | refine kN6_ ?_ _ | refine kD6_ ?_ | refine kA6_ ?_ _)); exact BK249.out⟩, ⟨by (with_reducible repeat (first | refine kN6_ ?_ _ | refine kD6_ ?_ | refine kA6_ ?_ _)); exact BK259.out⟩, ⟨by repeat (first | (with_reducible first | exact HB.out | apply below_alloc | apply pw_below_drewN | apply below_drew1 | refine bS6_ ?_ GE239.out | refine bS6_ ?_ GE249.out | refine bS6_ ?_ GE259.out) | exact HB.out)⟩⟩
 case rest =>
  clear HC6
  try clear c1
  try clear c2
  try clear p2
  try clear c3
  try clear c6
  try clear c13
  try clear c21
  try clear c22
  try clear c26
  try clear c27
  try clear c28
  try clear c30
  try clear c33
  try clear c34
  try clear c36
  try clear hcz14_0
  try clear hcz14_1
  try clear hcz16_0
  try clear hcz16_1
  try clear hcz23_0
  try clear hcz23_1
  try clear hcz29_0
  try clear hcz29_1
  try clear hcz31_0
  try clear hcz31_1
  try clear hcz35_0
  try clear hcz35_1
  try clear hcz37_0
  try clear hcz37_1
  try clear hcz8_0
  try clear hcz8_1
  try clear hfz14_0
  try clear hfz14_1
  try clear hfz16_0
  try clear hfz16_1
  try clear hfz23_0
  try clear hfz23_1
  try clear hfz29_0
  try clear hfz29_1
  try clear hfz31_0
  try clear hfz31_1
  try clear hfz35_0
  try clear hfz35_1
  try clear hfz37_0
  try clear hfz37_1
  try clear hfz8_0
  try clear hfz8_1
  obtain ⟨kq, x31_5, rfl, HA, HJ5, HO_250000, HO_250001, HO_260000, HO_260001, BK239, BK249, BK259, HB⟩ := hcut
  cases kq with
  | zero => exact absurd HA.out (by simp [laws_FnExactStreamOf.j0])
  | succ kj5 =>
   have H := HA.out
   clear HA
   simp only [laws_FnExactStreamOf.j0] at H
   by_cases c39 : x31_5 = true
   ·subst c39
    have H1 : (some false) = some r := by rw [if_pos rfl] at H; exact H
    clear H
    have H := H1
    clear H1
    obtain rfl := Option.some.inj H
    go_wp2
    go_ret
    exact ⟨by first | rfl | (simp [errW_none, errW_some] <;> rfl) | (simp [*, errW_none, errW_some] <;> rfl), by repeat (first | (with_reducible first | exact HB.out | apply below_alloc | apply pw_below_drewN | apply below_drew1 | refine bS6_ ?_ GE239.out | refine bS6_ ?_ GE249.out | refine bS6_ ?_ GE259.out) | exact HB.out)⟩
   replace c39 := Bool.eq_false_iff.mpr c39
   subst c39
   have H1 : ((laws_markStream.f kj5 t252 t255 1).bind fun bt261 => ((laws_heldStream.f kj5 bt261.2.1 bt261.2.2 1).bind fun t264 => (if t264 < 0 then (some false) else (if t264 = bt261.1 then ((laws_toRatio.f a0_0 a0_1).bind fun bt265 => ((impl_StreamOf.f kj5 bt265.1 bt265.2).bind fun bt267 => ((laws_eqStream.f kj5 bt267.1 bt267.2.1 t242 t245).bind fun t275 => (if t275 = true then (laws_FnExactStreamOf.j1 kj5 bt261.1 (bt267.2.2 != t248) bt261.2.1 bt261.2.2) else (laws_FnExactStreamOf.j1 kj5 bt261.1 true bt261.2.1 bt261.2.2))))) else (some false))))) = some r := by rw [if_neg (show ¬ (false = true) by decide)] at H; exact H
   clear H
   have H := H1
   clear H1
   replace H := Option.bind_eq_some_iff.mp H
   obtain ⟨⟨t261, t262, t263⟩, A400, H⟩ := H
   replace H : ((laws_heldStream.f kj5 t262 t263 1).bind fun t264 => (if t264 < 0 then (some false) else (if t264 = t261 then ((laws_toRatio.f a0_0 a0_1).bind fun bt265 => ((impl_StreamOf.f kj5 bt265.1 bt265.2).bind fun bt267 => ((laws_eqStream.f kj5 bt267.1 bt267.2.1 t242 t245).bind fun t275 => (if t275 = true then (laws_FnExactStreamOf.j1 kj5 t261 (bt267.2.2 != t248) t262 t263) else (laws_FnExactStreamOf.j1 kj5 t261 true t262 t263))))) else (some false)))) = some r := H
   have A40 := aM6_ A400
   clear A400
   replace H := Option.bind_eq_some_iff.mp H
   obtain ⟨t264, A410, H⟩ := H
   replace H : (if t264 < 0 then (some false) else (if t264 = t261 then ((laws_toRatio.f a0_0 a0_1).bind fun bt265 => ((impl_StreamOf.f kj5 bt265.1 bt265.2).bind fun bt267 => ((laws_eqStream.f kj5 bt267.1 bt267.2.1 t242 t245).bind fun t275 => (if t275 = true then (laws_FnExactStreamOf.j1 kj5 t261 (bt267.2.2 != t248) t262 t263) else (laws_FnExactStreamOf.j1 kj5 t261 true t262 t263))))) else (some false))) = some r := H
   have A41 := aM6_ A410
   clear A410
   by_cases c42 : t264 < 0
   ·rw [if_pos c42] at H
    have c42b0 : decide (t264 < 0) = true := decide_eq_true c42
    clear c42
    obtain rfl := Option.some.inj H
    have hnb43 := NB259_239.out
    have hnc43 := NB239_259.out
    have hnb44 := NB259_249.out
    have hnc44 := NB249_259.out
    have hcz45_0 : wc.cell? ⟨gb259, 0, none⟩ = some (.slice Ao20 t252.length co20) := (kC6_ BK259.out 0).trans rfl
    have hcz45_1 : wc.cell? ⟨gb259, 1, none⟩ = some (.slice Ao24 t255.length co24) := (kC6_ BK259.out 1).trans rfl
    have hfz45_0 := blk_frozen BK259.out 0
    have hfz45_1 := blk_frozen BK259.out 1
    go_wp2_with (first | ((with_reducible refine gate_callee (f := 22) rfl ?_); refine goesL_ (some 34) rfl rfl Try.func22 (by kernel_rfl) rfl #[.agg #[.slice Ao20 t252.length co20, .slice Ao24 t255.length co24], .int .i64 1] rfl q6x3_ ?_; (with_reducible refine (laws_markStream.calls kj5 (fun k_ => some k_ = (.slice Ao20 t252.length co20 : Value).ownBlock) (.slice Ao20 t252.length co20) t252 (fun k_ => some k_ = (.slice Ao24 t255.length co24 : Value).ownBlock) (.slice Ao24 t255.length co24) t255 1 t261 t262 t263 w _ ?side1 ?side2 ?side3 ?side4 ?side5 A40.out).mono ?_); (case side1 => repeat (first | (with_reducible first | exact HB.out | apply below_alloc | apply pw_below_drewN | apply below_drew1 | refine bS6_ ?_ GE239.out | refine bS6_ ?_ GE249.out | refine bS6_ ?_ GE259.out) | exact HB.out)); (case side2 => exact Kd.R_tight rfl HO_260000.out); (case side3 => exact fun k_ e_ => (HO_260000.out.1 k_ e_.symm).2.2); (case side4 => exact Kd.R_tight rfl HO_260001.out); (case side5 => exact fun k_ e_ => (HO_260001.out.1 k_ e_.symm).2.2); rintro e w46 ⟨rfl, hy0, hy1, hb, hkp⟩; refine ⟨_, rfl, ?_⟩; have n0_ := aM6_ (Kd.R_mono (ok' := fun k_ => some k_ ≠ (.slice Ao15 t245.length co15 : Value).ownBlock ∧ some k_ ≠ (.slice Ao20 t252.length co20 : Value).ownBlock ∧ some k_ ≠ (.slice Ao24 t255.length co24 : Value).ownBlock) (Kd.R_keptB (HO_250000.out) hkp (fun k_ hk_ hs_ => Or.elim hs_ (fun e_ => (hk_.2.1) e_) (fun e_ => (hk_.2.2) e_))) (fun k_ hk_ => ⟨hk_.1.1, hk_.1.2.1, hk_.1.2.2⟩)); have n1_ := aM6_ (Kd.R_mono (ok' := fun k_ => some k_ ≠ (.slice Ao12 t242.length co12 : Value).ownBlock ∧ some k_ ≠ (.slice Ao20 t252.length co20 : Value).ownBlock ∧ some k_ ≠ (.slice Ao24 t255.length co24 : Value).ownBlock) (Kd.R_keptB (HO_250001.out) hkp (fun k_ hk_ hs_ => Or.elim hs_ (fun e_ => (hk_.2.1) e_) (fun e_ => (hk_.2.2) e_))) (fun k_ hk_ => ⟨hk_.1.1, hk_.1.2.1, hk_.1.2.2⟩)); have n2_ := aM6_ (Kd.R_reok rfl hy0 (fun k_ e_ => HO_260000.out.1 k_ e_)); have n3_ := aM6_ (Kd.R_reok rfl hy1 (fun k_ e_ => HO_260001.out.1 k_ e_)); have n4_ := aM6_ (blk_kept q6x1_ hkp (fun hs_ => Or.elim hs_ (fun e_ => (fun e_ => (Kd.R_ne HO_260000.out BK239.out (by decide)) e_) e_) (fun e_ => (fun e_ => (Kd.R_ne HO_260001.out BK239.out (by decide)) e_) e_))); have n5_ := aM6_ (blk_kept q6x4_ hkp (fun hs_ => Or.elim hs_ (fun e_ => (fun e_ => (Kd.R_ne HO_260000.out BK249.out (by decide)) e_) e_) (fun e_ => (fun e_ => (Kd.R_ne HO_260001.out BK249.out (by decide)) e_) e_))); have n6_ := aM6_ (blk_kept q6x5_ hkp (fun hs_ => Or.elim hs_ (fun e_ => (fun e_ => (Kd.R_ne HO_260000.out BK259.out (by decide)) e_) e_) (fun e_ => (fun e_ => (Kd.R_ne HO_260001.out BK259.out (by decide)) e_) e_))); have n7_ := aM6_ (hb); clear HO_250000; clear HO_250001; clear HO_260000; clear HO_260001; clear BK239; clear BK249; clear BK259; clear HB; have HO_250000 := n0_; have HO_250001 := n1_; have HO_260000 := n2_; have HO_260001 := n3_; have BK239 := n4_; have BK249 := n5_; have BK259 := n6_; have HB := n7_; clear n0_ n1_ n2_ n3_ n4_ n5_ n6_ n7_; (try clear hb); (try clear hkp); (try clear hy0); (try clear hy1); have hcz47_0 : w46.cell? ⟨gb259, 0, none⟩ = some (.slice Ao20 t252.length co20) := (kC6_ BK259.out 0).trans rfl; have hcz47_1 : w46.cell? ⟨gb259, 1, none⟩ = some (.slice Ao24 t255.length co24) := (kC6_ BK259.out 1).trans rfl; have hfz47_0 := blk_frozen BK259.out 0; have hfz47_1 := blk_frozen BK259.out 1) | ((with_reducible refine gate_callee (f := 23) rfl ?_); refine goesL_ (some 37) rfl rfl Try.func23 (by kernel_rfl) rfl #[.agg #[.slice Ao20 t262.length co20, .slice Ao24 t263.length co24], .int .i64 1] rfl q6x21_ ?_; (with_reducible refine (laws_heldStream.calls kj5 _ _ t262 _ _ t263 1 t264 _ ?side1 ?side2 ?side3 ?side4 A41.out).mono ?_); (case side1 => repeat (first | exact (Kd.R_reads' HO_260000.out).2.2 | (with_reducible refine Kd.C_alloc ?_ _) | (with_reducible refine Kd.C_drewN ?_ _) | (with_reducible refine Kd.C_drew ?_))); (case side2 => rw [show t262.length = t252.length from (Kd.R_reads' HO_260000.out).1.symm]; exact (Kd.R_reads' HO_260000.out).2.1); (case side3 => repeat (first | exact (Kd.R_reads' HO_260001.out).2.2 | (with_reducible refine Kd.C_alloc ?_ _) | (with_reducible refine Kd.C_drewN ?_ _) | (with_reducible refine Kd.C_drew ?_))); (case side4 => rw [show t263.length = t255.length from (Kd.R_reads' HO_260001.out).1.symm]; exact (Kd.R_reads' HO_260001.out).2.1); rintro e w48 ⟨rfl, hb⟩; refine ⟨_, rfl, ?_⟩; have n0_ := aM6_ (rB6_ q6x7_ hb); have n1_ := aM6_ (rB6_ q6x8_ hb); have n2_ := aM6_ (rB6_ q6x9_ hb); have n3_ := aM6_ (rB6_ q6x10_ hb); have n4_ := aM6_ (kB6_ (g := gb239) (o := .cells #[.int .i64 a0_0, .int .i64 a0_1] 43 (0, 0)) q6x1_ hb); have n5_ := aM6_ (kB6_ (g := gb249) (o := .cells #[.slice Ao12 t242.length co12, .slice Ao15 t245.length co15] 34 (0, 0)) q6x4_ hb); have n6_ := aM6_ (kB6_ (g := gb259) (o := .cells #[.slice Ao20 t252.length co20, .slice Ao24 t255.length co24] 34 (0, 0)) q6x5_ hb); have n7_ := aM6_ (below_step q6x2_ hb); clear HO_250000; clear HO_250001; clear HO_260000; clear HO_260001; clear BK239; clear BK249; clear BK259; clear HB; have HO_250000 := n0_; have HO_250001 := n1_; have HO_260000 := n2_; have HO_260001 := n3_; have BK239 := n4_; have BK249 := n5_; have BK259 := n6_; have HB := n7_; clear n0_ n1_ n2_ n3_ n4_ n5_ n6_ n7_; (try clear hb); (try clear hb2); (try clear hk); (try clear hi)))
    go_ret
    exact ⟨by first | rfl | (simp [errW_none, errW_some] <;> rfl) | (simp [*, errW_none, errW_some] <;> rfl), by repeat (first | (with_reducible first | exact HB.out | apply below_alloc | apply pw_below_drewN | apply below_drew1 | refine bS6_ ?_ GE239.out | refine bS6_ ?_ GE249.out | refine bS6_ ?_ GE259.out) | exact HB.out)⟩
   rw [if_neg c42] at H
   have c42b0 : decide (t264 < 0) = false := decide_eq_false c42
   clear c42
   by_cases c49 : t264 = t261
   rotate_left
   ·rw [if_neg c49] at H
    have c49b0 : (t264 == t261) = false := beq_eq_false_iff_ne.mpr c49
    have c49b1 : (t264 != t261) = true := bne_iff_ne.mpr c49
    obtain rfl := Option.some.inj H
    have hnb107 := NB259_239.out
    have hnc107 := NB239_259.out
    have hnb108 := NB259_249.out
    have hnc108 := NB249_259.out
    have hcz109_0 : wc.cell? ⟨gb259, 0, none⟩ = some (.slice Ao20 t252.length co20) := (kC6_ BK259.out 0).trans rfl
    have hcz109_1 : wc.cell? ⟨gb259, 1, none⟩ = some (.slice Ao24 t255.length co24) := (kC6_ BK259.out 1).trans rfl
    have hfz109_0 := blk_frozen BK259.out 0
    have hfz109_1 := blk_frozen BK259.out 1
    go_wp2_with (first | ((with_reducible refine gate_callee (f := 22) rfl ?_); refine goesL_ (some 34) rfl rfl Try.func22 (by kernel_rfl) rfl #[.agg #[.slice Ao20 t252.length co20, .slice Ao24 t255.length co24], .int .i64 1] rfl q6x3_ ?_; (with_reducible refine (laws_markStream.calls kj5 (fun k_ => some k_ = (.slice Ao20 t252.length co20 : Value).ownBlock) (.slice Ao20 t252.length co20) t252 (fun k_ => some k_ = (.slice Ao24 t255.length co24 : Value).ownBlock) (.slice Ao24 t255.length co24) t255 1 t261 t262 t263 w _ ?side1 ?side2 ?side3 ?side4 ?side5 A40.out).mono ?_); (case side1 => repeat (first | (with_reducible first | exact HB.out | apply below_alloc | apply pw_below_drewN | apply below_drew1 | refine bS6_ ?_ GE239.out | refine bS6_ ?_ GE249.out | refine bS6_ ?_ GE259.out) | exact HB.out)); (case side2 => exact Kd.R_tight rfl HO_260000.out); (case side3 => exact fun k_ e_ => (HO_260000.out.1 k_ e_.symm).2.2); (case side4 => exact Kd.R_tight rfl HO_260001.out); (case side5 => exact fun k_ e_ => (HO_260001.out.1 k_ e_.symm).2.2); rintro e w110 ⟨rfl, hy0, hy1, hb, hkp⟩; refine ⟨_, rfl, ?_⟩; have n0_ := aM6_ (Kd.R_mono (ok' := fun k_ => some k_ ≠ (.slice Ao15 t245.length co15 : Value).ownBlock ∧ some k_ ≠ (.slice Ao20 t252.length co20 : Value).ownBlock ∧ some k_ ≠ (.slice Ao24 t255.length co24 : Value).ownBlock) (Kd.R_keptB (HO_250000.out) hkp (fun k_ hk_ hs_ => Or.elim hs_ (fun e_ => (hk_.2.1) e_) (fun e_ => (hk_.2.2) e_))) (fun k_ hk_ => ⟨hk_.1.1, hk_.1.2.1, hk_.1.2.2⟩)); have n1_ := aM6_ (Kd.R_mono (ok' := fun k_ => some k_ ≠ (.slice Ao12 t242.length co12 : Value).ownBlock ∧ some k_ ≠ (.slice Ao20 t252.length co20 : Value).ownBlock ∧ some k_ ≠ (.slice Ao24 t255.length co24 : Value).ownBlock) (Kd.R_keptB (HO_250001.out) hkp (fun k_ hk_ hs_ => Or.elim hs_ (fun e_ => (hk_.2.1) e_) (fun e_ => (hk_.2.2) e_))) (fun k_ hk_ => ⟨hk_.1.1, hk_.1.2.1, hk_.1.2.2⟩)); have n2_ := aM6_ (Kd.R_reok rfl hy0 (fun k_ e_ => HO_260000.out.1 k_ e_)); have n3_ := aM6_ (Kd.R_reok rfl hy1 (fun k_ e_ => HO_260001.out.1 k_ e_)); have n4_ := aM6_ (blk_kept q6x1_ hkp (fun hs_ => Or.elim hs_ (fun e_ => (fun e_ => (Kd.R_ne HO_260000.out BK239.out (by decide)) e_) e_) (fun e_ => (fun e_ => (Kd.R_ne HO_260001.out BK239.out (by decide)) e_) e_))); have n5_ := aM6_ (blk_kept q6x4_ hkp (fun hs_ => Or.elim hs_ (fun e_ => (fun e_ => (Kd.R_ne HO_260000.out BK249.out (by decide)) e_) e_) (fun e_ => (fun e_ => (Kd.R_ne HO_260001.out BK249.out (by decide)) e_) e_))); have n6_ := aM6_ (blk_kept q6x5_ hkp (fun hs_ => Or.elim hs_ (fun e_ => (fun e_ => (Kd.R_ne HO_260000.out BK259.out (by decide)) e_) e_) (fun e_ => (fun e_ => (Kd.R_ne HO_260001.out BK259.out (by decide)) e_) e_))); have n7_ := aM6_ (hb); clear HO_250000; clear HO_250001; clear HO_260000; clear HO_260001; clear BK239; clear BK249; clear BK259; clear HB; have HO_250000 := n0_; have HO_250001 := n1_; have HO_260000 := n2_; have HO_260001 := n3_; have BK239 := n4_; have BK249 := n5_; have BK259 := n6_; have HB := n7_; clear n0_ n1_ n2_ n3_ n4_ n5_ n6_ n7_; (try clear hb); (try clear hkp); (try clear hy0); (try clear hy1); have hcz111_0 : w110.cell? ⟨gb259, 0, none⟩ = some (.slice Ao20 t252.length co20) := (kC6_ BK259.out 0).trans rfl; have hcz111_1 : w110.cell? ⟨gb259, 1, none⟩ = some (.slice Ao24 t255.length co24) := (kC6_ BK259.out 1).trans rfl; have hfz111_0 := blk_frozen BK259.out 0; have hfz111_1 := blk_frozen BK259.out 1) | ((with_reducible refine gate_callee (f := 23) rfl ?_); refine goesL_ (some 37) rfl rfl Try.func23 (by kernel_rfl) rfl #[.agg #[.slice Ao20 t262.length co20, .slice Ao24 t263.length co24], .int .i64 1] rfl q6x21_ ?_; (with_reducible refine (laws_heldStream.calls kj5 _ _ t262 _ _ t263 1 t264 _ ?side1 ?side2 ?side3 ?side4 A41.out).mono ?_); (case side1 => repeat (first | exact (Kd.R_reads' HO_260000.out).2.2 | (with_reducible refine Kd.C_alloc ?_ _) | (with_reducible refine Kd.C_drewN ?_ _) | (with_reducible refine Kd.C_drew ?_))); (case side2 => rw [show t262.length = t252.length from (Kd.R_reads' HO_260000.out).1.symm]; exact (Kd.R_reads' HO_260000.out).2.1); (case side3 => repeat (first | exact (Kd.R_reads' HO_260001.out).2.2 | (with_reducible refine Kd.C_alloc ?_ _) | (with_reducible refine Kd.C_drewN ?_ _) | (with_reducible refine Kd.C_drew ?_))); (case side4 => rw [show t263.length = t255.length from (Kd.R_reads' HO_260001.out).1.symm]; exact (Kd.R_reads' HO_260001.out).2.1); rintro e w112 ⟨rfl, hb⟩; refine ⟨_, rfl, ?_⟩; have n0_ := aM6_ (rB6_ q6x7_ hb); have n1_ := aM6_ (rB6_ q6x8_ hb); have n2_ := aM6_ (rB6_ q6x9_ hb); have n3_ := aM6_ (rB6_ q6x10_ hb); have n4_ := aM6_ (kB6_ (g := gb239) (o := .cells #[.int .i64 a0_0, .int .i64 a0_1] 43 (0, 0)) q6x1_ hb); have n5_ := aM6_ (kB6_ (g := gb249) (o := .cells #[.slice Ao12 t242.length co12, .slice Ao15 t245.length co15] 34 (0, 0)) q6x4_ hb); have n6_ := aM6_ (kB6_ (g := gb259) (o := .cells #[.slice Ao20 t252.length co20, .slice Ao24 t255.length co24] 34 (0, 0)) q6x5_ hb); have n7_ := aM6_ (below_step q6x2_ hb); clear HO_250000; clear HO_250001; clear HO_260000; clear HO_260001; clear BK239; clear BK249; clear BK259; clear HB; have HO_250000 := n0_; have HO_250001 := n1_; have HO_260000 := n2_; have HO_260001 := n3_; have BK239 := n4_; have BK249 := n5_; have BK259 := n6_; have HB := n7_; clear n0_ n1_ n2_ n3_ n4_ n5_ n6_ n7_; (try clear hb); (try clear hb2); (try clear hk); (try clear hi)))
    go_ret
    exact ⟨by first | rfl | (simp [errW_none, errW_some] <;> rfl) | (simp [*, errW_none, errW_some] <;> rfl), by repeat (first | (with_reducible first | exact HB.out | apply below_alloc | apply pw_below_drewN | apply below_drew1 | refine bS6_ ?_ GE239.out | refine bS6_ ?_ GE249.out | refine bS6_ ?_ GE259.out) | exact HB.out)⟩

   rw [if_pos c49] at H
   have c49b0 : (t264 == t261) = true := beq_iff_eq.mpr c49
   have c49b1 : (t264 != t261) = false := bne_eq_false_iff_eq.mpr c49
   clear c49
   replace H := Option.bind_eq_some_iff.mp H
   obtain ⟨⟨t265, t266⟩, A500, H⟩ := H
   replace H : ((impl_StreamOf.f kj5 t265 t266).bind fun bt267 => ((laws_eqStream.f kj5 bt267.1 bt267.2.1 t242 t245).bind fun t275 => (if t275 = true then (laws_FnExactStreamOf.j1 kj5 t261 (bt267.2.2 != t248) t262 t263) else (laws_FnExactStreamOf.j1 kj5 t261 true t262 t263)))) = some r := H
   have A50 := aM6_ A500
   clear A500
   replace H := Option.bind_eq_some_iff.mp H
   obtain ⟨⟨t267, t270, t273⟩, A510, H⟩ := H
   replace H : ((laws_eqStream.f kj5 t267 t270 t242 t245).bind fun t275 => (if t275 = true then (laws_FnExactStreamOf.j1 kj5 t261 (t273 != t248) t262 t263) else (laws_FnExactStreamOf.j1 kj5 t261 true t262 t263))) = some r := H
   have A51 := aM6_ A510
   clear A510
   have HC52 := aM6_ H
   clear H
   have hnb53 := NB259_239.out
   have hnc53 := NB239_259.out
   have hnb54 := NB259_249.out
   have hnc54 := NB249_259.out
   have hcz55_0 : wc.cell? ⟨gb259, 0, none⟩ = some (.slice Ao20 t252.length co20) := (kC6_ BK259.out 0).trans rfl
   have hcz55_1 : wc.cell? ⟨gb259, 1, none⟩ = some (.slice Ao24 t255.length co24) := (kC6_ BK259.out 1).trans rfl
   have hfz55_0 := blk_frozen BK259.out 0
   have hfz55_1 := blk_frozen BK259.out 1
   go_upto_region 14 with (first | ((with_reducible refine gate_callee (f := 22) rfl ?_); refine goesL_ (some 34) rfl rfl Try.func22 (by kernel_rfl) rfl #[.agg #[.slice Ao20 t252.length co20, .slice Ao24 t255.length co24], .int .i64 1] rfl q6x3_ ?_; (with_reducible refine (laws_markStream.calls kj5 (fun k_ => some k_ = (.slice Ao20 t252.length co20 : Value).ownBlock) (.slice Ao20 t252.length co20) t252 (fun k_ => some k_ = (.slice Ao24 t255.length co24 : Value).ownBlock) (.slice Ao24 t255.length co24) t255 1 t261 t262 t263 w _ ?side1 ?side2 ?side3 ?side4 ?side5 A40.out).mono ?_); (case side1 => repeat (first | (with_reducible first | exact HB.out | apply below_alloc | apply pw_below_drewN | apply below_drew1 | refine bS6_ ?_ GE239.out | refine bS6_ ?_ GE249.out | refine bS6_ ?_ GE259.out) | exact HB.out)); (case side2 => exact Kd.R_tight rfl HO_260000.out); (case side3 => exact fun k_ e_ => (HO_260000.out.1 k_ e_.symm).2.2); (case side4 => exact Kd.R_tight rfl HO_260001.out); (case side5 => exact fun k_ e_ => (HO_260001.out.1 k_ e_.symm).2.2); rintro e w56 ⟨rfl, hy0, hy1, hb, hkp⟩; refine ⟨_, rfl, ?_⟩; have n0_ := aM6_ (Kd.R_mono (ok' := fun k_ => some k_ ≠ (.slice Ao15 t245.length co15 : Value).ownBlock ∧ some k_ ≠ (.slice Ao20 t252.length co20 : Value).ownBlock ∧ some k_ ≠ (.slice Ao24 t255.length co24 : Value).ownBlock) (Kd.R_keptB (HO_250000.out) hkp (fun k_ hk_ hs_ => Or.elim hs_ (fun e_ => (hk_.2.1) e_) (fun e_ => (hk_.2.2) e_))) (fun k_ hk_ => ⟨hk_.1.1, hk_.1.2.1, hk_.1.2.2⟩)); have n1_ := aM6_ (Kd.R_mono (ok' := fun k_ => some k_ ≠ (.slice Ao12 t242.length co12 : Value).ownBlock ∧ some k_ ≠ (.slice Ao20 t252.length co20 : Value).ownBlock ∧ some k_ ≠ (.slice Ao24 t255.length co24 : Value).ownBlock) (Kd.R_keptB (HO_250001.out) hkp (fun k_ hk_ hs_ => Or.elim hs_ (fun e_ => (hk_.2.1) e_) (fun e_ => (hk_.2.2) e_))) (fun k_ hk_ => ⟨hk_.1.1, hk_.1.2.1, hk_.1.2.2⟩)); have n2_ := aM6_ (Kd.R_reok rfl hy0 (fun k_ e_ => HO_260000.out.1 k_ e_)); have n3_ := aM6_ (Kd.R_reok rfl hy1 (fun k_ e_ => HO_260001.out.1 k_ e_)); have n4_ := aM6_ (blk_kept q6x1_ hkp (fun hs_ => Or.elim hs_ (fun e_ => (fun e_ => (Kd.R_ne HO_260000.out BK239.out (by decide)) e_) e_) (fun e_ => (fun e_ => (Kd.R_ne HO_260001.out BK239.out (by decide)) e_) e_))); have n5_ := aM6_ (blk_kept q6x4_ hkp (fun hs_ => Or.elim hs_ (fun e_ => (fun e_ => (Kd.R_ne HO_260000.out BK249.out (by decide)) e_) e_) (fun e_ => (fun e_ => (Kd.R_ne HO_260001.out BK249.out (by decide)) e_) e_))); have n6_ := aM6_ (blk_kept q6x5_ hkp (fun hs_ => Or.elim hs_ (fun e_ => (fun e_ => (Kd.R_ne HO_260000.out BK259.out (by decide)) e_) e_) (fun e_ => (fun e_ => (Kd.R_ne HO_260001.out BK259.out (by decide)) e_) e_))); have n7_ := aM6_ (hb); clear HO_250000; clear HO_250001; clear HO_260000; clear HO_260001; clear BK239; clear BK249; clear BK259; clear HB; have HO_250000 := n0_; have HO_250001 := n1_; have HO_260000 := n2_; have HO_260001 := n3_; have BK239 := n4_; have BK249 := n5_; have BK259 := n6_; have HB := n7_; clear n0_ n1_ n2_ n3_ n4_ n5_ n6_ n7_; (try clear hb); (try clear hkp); (try clear hy0); (try clear hy1); have hcz57_0 : w56.cell? ⟨gb259, 0, none⟩ = some (.slice Ao20 t252.length co20) := (kC6_ BK259.out 0).trans rfl; have hcz57_1 : w56.cell? ⟨gb259, 1, none⟩ = some (.slice Ao24 t255.length co24) := (kC6_ BK259.out 1).trans rfl; have hfz57_0 := blk_frozen BK259.out 0; have hfz57_1 := blk_frozen BK259.out 1) | ((with_reducible refine gate_callee (f := 23) rfl ?_); refine goesL_ (some 37) rfl rfl Try.func23 (by kernel_rfl) rfl #[.agg #[.slice Ao20 t262.length co20, .slice Ao24 t263.length co24], .int .i64 1] rfl q6x21_ ?_; (with_reducible refine (laws_heldStream.calls kj5 _ _ t262 _ _ t263 1 t264 _ ?side1 ?side2 ?side3 ?side4 A41.out).mono ?_); (case side1 => repeat (first | exact (Kd.R_reads' HO_260000.out).2.2 | (with_reducible refine Kd.C_alloc ?_ _) | (with_reducible refine Kd.C_drewN ?_ _) | (with_reducible refine Kd.C_drew ?_))); (case side2 => rw [show t262.length = t252.length from (Kd.R_reads' HO_260000.out).1.symm]; exact (Kd.R_reads' HO_260000.out).2.1); (case side3 => repeat (first | exact (Kd.R_reads' HO_260001.out).2.2 | (with_reducible refine Kd.C_alloc ?_ _) | (with_reducible refine Kd.C_drewN ?_ _) | (with_reducible refine Kd.C_drew ?_))); (case side4 => rw [show t263.length = t255.length from (Kd.R_reads' HO_260001.out).1.symm]; exact (Kd.R_reads' HO_260001.out).2.1); rintro e w58 ⟨rfl, hb⟩; refine ⟨_, rfl, ?_⟩; have n0_ := aM6_ (rB6_ q6x7_ hb); have n1_ := aM6_ (rB6_ q6x8_ hb); have n2_ := aM6_ (rB6_ q6x9_ hb); have n3_ := aM6_ (rB6_ q6x10_ hb); have n4_ := aM6_ (kB6_ (g := gb239) (o := .cells #[.int .i64 a0_0, .int .i64 a0_1] 43 (0, 0)) q6x1_ hb); have n5_ := aM6_ (kB6_ (g := gb249) (o := .cells #[.slice Ao12 t242.length co12, .slice Ao15 t245.length co15] 34 (0, 0)) q6x4_ hb); have n6_ := aM6_ (kB6_ (g := gb259) (o := .cells #[.slice Ao20 t252.length co20, .slice Ao24 t255.length co24] 34 (0, 0)) q6x5_ hb); have n7_ := aM6_ (below_step q6x2_ hb); clear HO_250000; clear HO_250001; clear HO_260000; clear HO_260001; clear BK239; clear BK249; clear BK259; clear HB; have HO_250000 := n0_; have HO_250001 := n1_; have HO_260000 := n2_; have HO_260001 := n3_; have BK239 := n4_; have BK249 := n5_; have BK259 := n6_; have HB := n7_; clear n0_ n1_ n2_ n3_ n4_ n5_ n6_ n7_; (try clear hb); (try clear hb2); (try clear hk); (try clear hi); have hnb59 := NB239_249.out; have hnc59 := NB249_239.out; have hcz60_0 : w58.cell? ⟨gb239, 0, none⟩ = some (.int .i64 a0_0) := (kC6_ BK239.out 0).trans rfl; have hcz60_1 : w58.cell? ⟨gb239, 1, none⟩ = some (.int .i64 a0_1) := (kC6_ BK239.out 1).trans rfl; have hfz60_0 := blk_frozen BK239.out 0; have hfz60_1 := blk_frozen BK239.out 1) | ((with_reducible refine gate_callee (f := 27) rfl ?_); refine goesL_ (some 45) rfl rfl Try.func27 (by kernel_rfl) rfl #[.agg #[.int .i64 a0_0, .int .i64 a0_1]] rfl q6x3_ ?_; (with_reducible refine (laws_toRatio.calls a0_0 a0_1 t265 t266 _ A50.out).mono ?_); rintro e w61 ⟨rfl, hb⟩; refine ⟨_, rfl, ?_⟩; have n0_ := aM6_ (rB6_ q6x7_ hb); have n1_ := aM6_ (rB6_ q6x8_ hb); have n2_ := aM6_ (rB6_ q6x9_ hb); have n3_ := aM6_ (rB6_ q6x10_ hb); have n4_ := aM6_ (kB6_ (g := gb239) (o := .cells #[.int .i64 a0_0, .int .i64 a0_1] 43 (0, 0)) q6x1_ hb); have n5_ := aM6_ (kB6_ (g := gb249) (o := .cells #[.slice Ao12 t242.length co12, .slice Ao15 t245.length co15] 34 (0, 0)) q6x4_ hb); have n6_ := aM6_ (kB6_ (g := gb259) (o := .cells #[.slice Ao20 t252.length co20, .slice Ao24 t255.length co24] 34 (0, 0)) q6x5_ hb); have n7_ := aM6_ (below_step q6x2_ hb); clear HO_250000; clear HO_250001; clear HO_260000; clear HO_260001; clear BK239; clear BK249; clear BK259; clear HB; have HO_250000 := n0_; have HO_250001 := n1_; have HO_260000 := n2_; have HO_260001 := n3_; have BK239 := n4_; have BK249 := n5_; have BK259 := n6_; have HB := n7_; clear n0_ n1_ n2_ n3_ n4_ n5_ n6_ n7_; (try clear hb); (try clear hb2); (try clear hk); (try clear hi)) | ((with_reducible refine gate_callee (f := 28) rfl ?_); refine goesL_ (some 46) rfl rfl Try.func28 (by kernel_rfl) rfl #[.agg #[.int .i64 t265, .int .i64 t266]] rfl q6x3_ ?_; (with_reducible refine (impl_StreamOf.calls kj5 t265 t266 t267 t270 t273 _ A51.out).mono ?_); rintro e w62 ⟨v268, v271, rfl, ho0, ho1, hb⟩; refine ⟨_, rfl, ?_⟩; have n0_ := aM6_ (Kd.R_mono (Kd.R_told (Kd.R_told (Kd.R_old q6x7_ hb) (Kd.R_base ho0)) (Kd.R_base ho1)) (fun _ h_ => h_.1)); have n1_ := aM6_ (Kd.R_mono (Kd.R_told (Kd.R_told (Kd.R_old q6x8_ hb) (Kd.R_base ho0)) (Kd.R_base ho1)) (fun _ h_ => h_.1)); have n2_ := aM6_ (Kd.R_mono (Kd.R_told (Kd.R_told (Kd.R_old q6x9_ hb) (Kd.R_base ho0)) (Kd.R_base ho1)) (fun _ h_ => h_.1)); have n3_ := aM6_ (Kd.R_mono (Kd.R_told (Kd.R_told (Kd.R_old q6x10_ hb) (Kd.R_base ho0)) (Kd.R_base ho1)) (fun _ h_ => h_.1)); have n4_ := aM6_ (Kd.R_lower (Kd.R_new' (Kd.R_new' (Kd.R_new' (Kd.R_new' ho0 (Kd.R_lt q6x7_)) (Kd.R_lt q6x8_)) (Kd.R_lt q6x9_)) (Kd.R_lt q6x10_)) (below_size q6x2_)); have n5_ := aM6_ (Kd.R_lower (Kd.R_new' (Kd.R_new' (Kd.R_new' (Kd.R_new' ho1 (Kd.R_lt q6x7_)) (Kd.R_lt q6x8_)) (Kd.R_lt q6x9_)) (Kd.R_lt q6x10_)) (below_size q6x2_)); have n6_ := aM6_ (kB6_ (g := gb239) (o := .cells #[.int .i64 a0_0, .int .i64 a0_1] 43 (0, 0)) q6x1_ hb); have n7_ := aM6_ (kB6_ (g := gb249) (o := .cells #[.slice Ao12 t242.length co12, .slice Ao15 t245.length co15] 34 (0, 0)) q6x4_ hb); have n8_ := aM6_ (kB6_ (g := gb259) (o := .cells #[.slice Ao20 t252.length co20, .slice Ao24 t255.length co24] 34 (0, 0)) q6x5_ hb); have n9_ := aM6_ (below_step q6x2_ hb); clear HO_250000; clear HO_250001; clear HO_260000; clear HO_260001; clear BK239; clear BK249; clear BK259; clear HB; have HO_250000 := n0_; have HO_250001 := n1_; have HO_260000 := n2_; have HO_260001 := n3_; have HO269 := n4_; have HO272 := n5_; have BK239 := n6_; have BK249 := n7_; have BK259 := n8_; have HB := n9_; clear n0_ n1_ n2_ n3_ n4_ n5_ n6_ n7_ n8_ n9_; (try clear hb); (try clear hb2); (try clear hk); (try clear hi); (try clear ho0); (try clear ho1)) | ((with_reducible refine gate_dst (N := 9) rfl ?_); refine box_event ?hg (N := 9) ?hd (cs := #[.slice none 0 0, .slice none 0 0]) (t := 34) ?hr ?_; (case hd => rfl); (case hg => rfl); (case hr => first | (go_simp; done) | (go_simp; rfl)); intro gb274 hg w63 hbox hb; have n0_ := aM6_ (rB6_ q6x7_ hb); have n1_ := aM6_ (rB6_ q6x8_ hb); have n2_ := aM6_ (rB6_ q6x9_ hb); have n3_ := aM6_ (rB6_ q6x10_ hb); have n4_ := aM6_ (rB6_ (by (with_reducible repeat (first | apply rA6_ | apply rN6_ | apply rD6_)); exact HO269.out) hb); have n5_ := aM6_ (rB6_ (by (with_reducible repeat (first | apply rA6_ | apply rN6_ | apply rD6_)); exact HO272.out) hb); have n6_ := aM6_ (kB6_ (g := gb239) (o := .cells #[.int .i64 a0_0, .int .i64 a0_1] 43 (0, 0)) q6x1_ hb); have n7_ := aM6_ (kB6_ (g := gb249) (o := .cells #[.slice Ao12 t242.length co12, .slice Ao15 t245.length co15] 34 (0, 0)) q6x4_ hb); have n8_ := aM6_ (kB6_ (g := gb259) (o := .cells #[.slice Ao20 t252.length co20, .slice Ao24 t255.length co24] 34 (0, 0)) q6x5_ hb); have n9_ := aM6_ (below_step q6x2_ hb); have n10_ := aM6_ (hbox); have n11_ := aM6_ ((by rw [hg]; exact (below_size q6x2_) : w.heap.size ≤ gb274)); have n12_ := aM6_ ((by rw [hg]; exact (below_size q6x2_) : w.heap.size ≤ gb274)); have n13_ := aM6_ ((q6x35_ : gb239 ≠ gb274)); have n14_ := aM6_ ((q6x36_ : gb274 ≠ gb239)); have n15_ := aM6_ ((by rw [hg]; exact Nat.ne_of_lt (blk_lt (g := gb249) (o := .cells #[.slice Ao12 t242.length co12, .slice Ao15 t245.length co15] 34 (0, 0)) q6x4_) : gb249 ≠ gb274)); have n16_ := aM6_ ((by rw [hg]; exact Nat.ne_of_gt (blk_lt (g := gb249) (o := .cells #[.slice Ao12 t242.length co12, .slice Ao15 t245.length co15] 34 (0, 0)) q6x4_) : gb274 ≠ gb249)); have n17_ := aM6_ ((by rw [hg]; exact Nat.ne_of_lt (blk_lt (g := gb259) (o := .cells #[.slice Ao20 t252.length co20, .slice Ao24 t255.length co24] 34 (0, 0)) q6x5_) : gb259 ≠ gb274)); have n18_ := aM6_ ((by rw [hg]; exact Nat.ne_of_gt (blk_lt (g := gb259) (o := .cells #[.slice Ao20 t252.length co20, .slice Ao24 t255.length co24] 34 (0, 0)) q6x5_) : gb274 ≠ gb259)); clear HO_250000; clear HO_250001; clear HO_260000; clear HO_260001; clear HO269; clear HO272; clear BK239; clear BK249; clear BK259; clear HB; have HO_250000 := n0_; have HO_250001 := n1_; have HO_260000 := n2_; have HO_260001 := n3_; have HO269 := n4_; have HO272 := n5_; have BK239 := n6_; have BK249 := n7_; have BK259 := n8_; have HB := n9_; have BK274 := n10_; have GW274 := n11_; have GE274 := n12_; have NB239_274 := n13_; have NB274_239 := n14_; have NB249_274 := n15_; have NB274_249 := n16_; have NB259_274 := n17_; have NB274_259 := n18_; clear n0_ n1_ n2_ n3_ n4_ n5_ n6_ n7_ n8_ n9_ n10_ n11_ n12_ n13_ n14_ n15_ n16_ n17_ n18_; clear hb hbox hg; obtain ⟨Ao64, co64, eo64⟩ := Kd.R_slice HO269.out; subst eo64; have hnb65 := NB274_239.out; have hnc65 := NB239_274.out; have hnb66 := NB274_249.out; have hnc66 := NB249_274.out; have hnb67 := NB274_259.out; have hnc67 := NB259_274.out; have hcz68_0 : w63.cell? ⟨gb274, 0, none⟩ = some (.slice none 0 0) := (kC6_ BK274.out 0).trans rfl; have hcz68_1 : w63.cell? ⟨gb274, 1, none⟩ = some (.slice none 0 0) := (kC6_ BK274.out 1).trans rfl; have hfz68_0 := blk_frozen BK274.out 0; have hfz68_1 := blk_frozen BK274.out 1; obtain ⟨Ao69, co69, eo69⟩ := Kd.R_slice HO272.out; subst eo69))
   (try simp only [Act.put, List.setIfInBounds_toArray, List.set_cons_zero, List.set_cons_succ])
   go_cut [57] (fun v57 wc => ∃ (kq : Nat) (x57_51 : Bool), v57 = .bool x57_51 ∧ Aside0 (laws_FnExactStreamOf.j1 kq t261 x57_51 t262 t263 = some r) ∧ Aside0 (kq ≤ kj5) ∧ Aside0 (Kd.R (Kd.int .i8) 69 wc w.heap.size (fun k_ => some k_ ≠ ((.slice Ao15 t245.length co15) : Value).ownBlock ∧ some k_ ≠ ((.slice Ao20 t252.length co20) : Value).ownBlock ∧ some k_ ≠ ((.slice Ao24 t255.length co24) : Value).ownBlock ∧ some k_ ≠ ((.slice Ao64 t267.length co64) : Value).ownBlock ∧ some k_ ≠ ((.slice Ao69 t270.length co69) : Value).ownBlock) (.slice Ao12 t242.length co12) t242) ∧ Aside0 (Kd.R (Kd.int .i8) 69 wc w.heap.size (fun k_ => some k_ ≠ ((.slice Ao12 t242.length co12) : Value).ownBlock ∧ some k_ ≠ ((.slice Ao20 t252.length co20) : Value).ownBlock ∧ some k_ ≠ ((.slice Ao24 t255.length co24) : Value).ownBlock ∧ some k_ ≠ ((.slice Ao64 t267.length co64) : Value).ownBlock ∧ some k_ ≠ ((.slice Ao69 t270.length co69) : Value).ownBlock) (.slice Ao15 t245.length co15) t245) ∧ Aside0 (Kd.R (Kd.int .i8) 69 wc w.heap.size (fun k_ => some k_ ≠ ((.slice Ao12 t242.length co12) : Value).ownBlock ∧ some k_ ≠ ((.slice Ao15 t245.length co15) : Value).ownBlock ∧ some k_ ≠ ((.slice Ao24 t255.length co24) : Value).ownBlock ∧ some k_ ≠ ((.slice Ao64 t267.length co64) : Value).ownBlock ∧ some k_ ≠ ((.slice Ao69 t270.length co69) : Value).ownBlock) (.slice Ao20 t252.length co20) t262) ∧ Aside0 (Kd.R (Kd.int .i8) 69 wc w.heap.size (fun k_ => some k_ ≠ ((.slice Ao12 t242.length co12) : Value).ownBlock ∧ some k_ ≠ ((.slice Ao15 t245.length co15) : Value).ownBlock ∧ some k_ ≠ ((.slice Ao20 t252.length co20) : Value).ownBlock ∧ some k_ ≠ ((.slice Ao64 t267.length co64) : Value).ownBlock ∧ some k_ ≠ ((.slice Ao69 t270.length co69) : Value).ownBlock) (.slice Ao24 t255.length co24) t263) ∧ Aside0 (Kd.R (Kd.int .i8) 69 wc w.heap.size (fun k_ => some k_ ≠ ((.slice Ao12 t242.length co12) : Value).ownBlock ∧ some k_ ≠ ((.slice Ao15 t245.length co15) : Value).ownBlock ∧ some k_ ≠ ((.slice Ao20 t252.length co20) : Value).ownBlock ∧ some k_ ≠ ((.slice Ao24 t255.length co24) : Value).ownBlock ∧ some k_ ≠ ((.slice Ao69 t270.length co69) : Value).ownBlock) (.slice Ao64 t267.length co64) t267) ∧ Aside0 (Kd.R (Kd.int .i8) 69 wc w.heap.size (fun k_ => some k_ ≠ ((.slice Ao12 t242.length co12) : Value).ownBlock ∧ some k_ ≠ ((.slice Ao15 t245.length co15) : Value).ownBlock ∧ some k_ ≠ ((.slice Ao20 t252.length co20) : Value).ownBlock ∧ some k_ ≠ ((.slice Ao24 t255.length co24) : Value).ownBlock ∧ some k_ ≠ ((.slice Ao64 t267.length co64) : Value).ownBlock) (.slice Ao69 t270.length co69) t270) ∧ Aside0 (wc.heap[gb239]? = some (.cells #[.int .i64 a0_0, .int .i64 a0_1] 43 (0, 0))) ∧ Aside0 (wc.heap[gb249]? = some (.cells #[(.slice Ao12 t242.length co12), (.slice Ao15 t245.length co15)] 34 (0, 0))) ∧ Aside0 (wc.heap[gb259]? = some (.cells #[(.slice Ao20 t252.length co20), (.slice Ao24 t255.length co24)] 34 (0, 0))) ∧ Aside0 (wc.heap[gb274]? = some (.cells #[(.slice Ao64 t267.length co64), (.slice Ao69 t270.length co69)] 34 (0, 0))) ∧ Aside0 (Below w.heap.size w wc))
   case first =>
    have H := HC52.out
    clear HC52
    replace H := Option.bind_eq_some_iff.mp H
    obtain ⟨t275, A700, H⟩ := H
    replace H : (if t275 = true then (laws_FnExactStreamOf.j1 kj5 t261 (t273 != t248) t262 t263) else (laws_FnExactStreamOf.j1 kj5 t261 true t262 t263)) = some r := H
    have A70 := aM6_ A700
    clear A700
    by_cases c71 : t275 = true
    ·subst c71
     have H1 : (laws_FnExactStreamOf.j1 kj5 t261 (t273 != t248) t262 t263) = some r := by rw [if_pos rfl] at H; exact H
     clear H
     have H := H1
     clear H1
     have H' := aM6_ H
     clear H
     have hnb72 := NB274_239.out
     have hnc72 := NB239_274.out
     have hnb73 := NB274_249.out
     have hnc73 := NB249_274.out
     have hnb74 := NB274_259.out
     have hnc74 := NB259_274.out
     have hcz75_0 : w63.cell? ⟨gb274, 0, none⟩ = some (.slice none 0 0) := (kC6_ BK274.out 0).trans rfl
     have hcz75_1 : w63.cell? ⟨gb274, 1, none⟩ = some (.slice none 0 0) := (kC6_ BK274.out 1).trans rfl
     have hfz75_0 := blk_frozen BK274.out 0
     have hfz75_1 := blk_frozen BK274.out 1
     have hnb76 := NB249_239.out
     have hnc76 := NB239_249.out
     have hnb77 := NB249_259.out
     have hnc77 := NB259_249.out
     have hcz78_0 : w63.cell? ⟨gb249, 0, none⟩ = some (.slice Ao12 t242.length co12) := (kC6_ BK249.out 0).trans rfl
     have hcz78_1 : w63.cell? ⟨gb249, 1, none⟩ = some (.slice Ao15 t245.length co15) := (kC6_ BK249.out 1).trans rfl
     have hfz78_0 := blk_frozen BK249.out 0
     have hfz78_1 := blk_frozen BK249.out 1
     go_wp2_with (first | ((with_reducible refine gate_callee (f := 21) rfl ?_); refine goesL_ (some 51) rfl rfl Try.func21 (by kernel_rfl) rfl #[.agg #[.slice Ao64 t267.length co64, .slice Ao69 t270.length co69], .agg #[.slice Ao12 t242.length co12, .slice Ao15 t245.length co15]] rfl q6x3_ ?_; (with_reducible refine (laws_eqStream.calls kj5 _ _ t267 _ _ t270 _ _ t242 _ _ t245 true _ ?side1 ?side2 ?side3 ?side4 ?side5 ?side6 ?side7 ?side8 A70.out).mono ?_); (case side1 => refine (Kd.R_reads' (e := 69) (base := w.heap.size) (ok := fun k_ => ((((some k_ ≠ (.slice Ao69 t270.length co69 : Value).ownBlock ∧ some k_ ≠ (.slice Ao12 t242.length co12 : Value).ownBlock) ∧ some k_ ≠ (.slice Ao15 t245.length co15 : Value).ownBlock) ∧ some k_ ≠ (.slice Ao20 t252.length co20 : Value).ownBlock) ∧ some k_ ≠ (.slice Ao24 t255.length co24 : Value).ownBlock)) (n := t267.length) (c := co64) ?_).2.2; exact q6x17_); (case side2 => exact (Kd.R_reads' HO269.out).2.1); (case side3 => refine (Kd.R_reads' (e := 69) (base := w.heap.size) (ok := fun k_ => ((((some k_ ≠ (.slice Ao64 t267.length co64 : Value).ownBlock ∧ some k_ ≠ (.slice Ao12 t242.length co12 : Value).ownBlock) ∧ some k_ ≠ (.slice Ao15 t245.length co15 : Value).ownBlock) ∧ some k_ ≠ (.slice Ao20 t252.length co20 : Value).ownBlock) ∧ some k_ ≠ (.slice Ao24 t255.length co24 : Value).ownBlock)) (n := t270.length) (c := co69) ?_).2.2; exact q6x18_); (case side4 => exact (Kd.R_reads' HO272.out).2.1); (case side5 => refine (Kd.R_reads' (e := 69) (base := w.heap.size) (ok := fun k_ => (((some k_ ≠ (.slice Ao15 t245.length co15 : Value).ownBlock ∧ (some k_ ≠ (.slice Ao20 t252.length co20 : Value).ownBlock ∧ some k_ ≠ (.slice Ao24 t255.length co24 : Value).ownBlock)) ∧ some k_ ≠ (.slice Ao64 t267.length co64 : Value).ownBlock) ∧ some k_ ≠ (.slice Ao69 t270.length co69 : Value).ownBlock)) (n := t242.length) (c := co12) ?_).2.2; exact q6x11_); (case side6 => exact (Kd.R_reads' HO_250000.out).2.1); (case side7 => refine (Kd.R_reads' (e := 69) (base := w.heap.size) (ok := fun k_ => (((some k_ ≠ (.slice Ao12 t242.length co12 : Value).ownBlock ∧ (some k_ ≠ (.slice Ao20 t252.length co20 : Value).ownBlock ∧ some k_ ≠ (.slice Ao24 t255.length co24 : Value).ownBlock)) ∧ some k_ ≠ (.slice Ao64 t267.length co64 : Value).ownBlock) ∧ some k_ ≠ (.slice Ao69 t270.length co69 : Value).ownBlock)) (n := t245.length) (c := co15) ?_).2.2; exact q6x12_); (case side8 => exact (Kd.R_reads' HO_250001.out).2.1); rintro e w79 ⟨rfl, hb⟩; refine ⟨_, rfl, ?_⟩; have n0_ := aM6_ (rB6_ q6x11_ hb); have n1_ := aM6_ (rB6_ q6x12_ hb); have n2_ := aM6_ (rB6_ q6x31_ hb); have n3_ := aM6_ (rB6_ q6x32_ hb); have n4_ := aM6_ (rB6_ q6x17_ hb); have n5_ := aM6_ (rB6_ q6x18_ hb); have n6_ := aM6_ (kB6_ (g := gb239) (o := .cells #[.int .i64 a0_0, .int .i64 a0_1] 43 (0, 0)) q6x28_ hb); have n7_ := aM6_ (kB6_ (g := gb249) (o := .cells #[.slice Ao12 t242.length co12, .slice Ao15 t245.length co15] 34 (0, 0)) q6x29_ hb); have n8_ := aM6_ (kB6_ (g := gb259) (o := .cells #[.slice Ao20 t252.length co20, .slice Ao24 t255.length co24] 34 (0, 0)) q6x30_ hb); have n9_ := aM6_ (kB6_ (g := gb274) (o := .cells #[.slice Ao64 t267.length co64, .slice Ao69 t270.length co69] 34 (0, 0)) q6x23_ hb); have n10_ := aM6_ (below_step q6x19_ hb); clear HO_250000; clear HO_250001; clear HO_260000; clear HO_260001; clear HO269; clear HO272; clear BK239; clear BK249; clear BK259; clear BK274; clear HB; have HO_250000 := n0_; have HO_250001 := n1_; have HO_260000 := n2_; have HO_260001 := n3_; have HO269 := n4_; have HO272 := n5_; have BK239 := n6_; have BK249 := n7_; have BK259 := n8_; have BK274 := n9_; have HB := n10_; clear n0_ n1_ n2_ n3_ n4_ n5_ n6_ n7_ n8_ n9_ n10_; (try clear hb); (try clear hb2); (try clear hk); (try clear hi)))
     go_meet
     case rel => exact ⟨_, ((t273 != t248)), (by first | rfl | (simp; done) | (simp [*]; done)), H', ⟨by have := HJ5.out; first | omega | exact Nat.le_refl _⟩, ⟨by (with_reducible repeat (first | apply rA6_ | apply rN6_ | apply rD6_)); exact Kd.R_mono HO_250000.out (fun _ hk => ⟨hk.1.1.1, ⟨hk.1.1.2.1, ⟨hk.1.1.2.2, ⟨hk.1.2, hk.2⟩⟩⟩⟩)⟩, ⟨by (with_reducible repeat (first | apply rA6_ | apply rN6_ | apply rD6_)); exact Kd.R_mono HO_250001.out (fun _ hk => ⟨hk.1.1.1, ⟨hk.1.1.2.1, ⟨hk.1.1.2.2, ⟨hk.1.2, hk.2⟩⟩⟩⟩)⟩, ⟨by (with_reducible repeat (first | apply rA6_ | apply rN6_ | apply rD6_)); exact Kd.R_mono HO_260000.out (fun _ hk => ⟨hk.1.1.1, ⟨hk.1.1.2.1, ⟨hk.1.1.2.2, ⟨hk.1.2, hk.2⟩⟩⟩⟩)⟩, ⟨by (with_reducible repeat (first | apply rA6_ | apply rN6_ | apply rD6_)); exact Kd.R_mono HO_260001.out (fun _ hk => ⟨hk.1.1.1, ⟨hk.1.1.2.1, ⟨hk.1.1.2.2, ⟨hk.1.2, hk.2⟩⟩⟩⟩)⟩, ⟨by (with_reducible repeat (first | apply rA6_ | apply rN6_ | apply rD6_)); exact Kd.R_mono HO269.out (fun _ hk => ⟨hk.1.1.1.2, ⟨hk.1.1.2, ⟨hk.1.2, ⟨hk.2, hk.1.1.1.1⟩⟩⟩⟩)⟩, ⟨by (with_reducible repeat (first | apply rA6_ | apply rN6_ | apply rD6_)); exact Kd.R_mono HO272.out (fun _ hk => ⟨hk.1.1.1.2, ⟨hk.1.1.2, ⟨hk.1.2, ⟨hk.2, hk.1.1.1.1⟩⟩⟩⟩)⟩, ⟨by (with_reducible repeat (first | refine kN6_ ?_ _ | refine kD6_ ?_ | refine kA6_ ?_ _)); exact BK239.out⟩, ⟨by (with_reducible repeat (first | refine kN6_ ?_ _ | refine kD6_ ?_ | refine kA6_ ?_ _)); exact BK249.out⟩, ⟨by (with_reducible repeat (first | refine kN6_ ?_ _ | refine kD6_ ?_ | refine kA6_ ?_ _)); exact BK259.out⟩, ⟨by (with_reducible repeat (first | refine kN6_ ?_ _ | refine kD6_ ?_ | refine kA6_ ?_ _)); exact BK274.out⟩, ⟨by repeat (first | (with_reducible first | exact HB.out | apply below_alloc | apply pw_below_drewN | apply below_drew1 | refine bS6_ ?_ GE239.out | refine bS6_ ?_ GE249.out | refine bS6_ ?_ GE259.out | refine bS6_ ?_ GE274.out) | exact HB.out)⟩⟩
    replace c71 := Bool.eq_false_iff.mpr c71
    subst c71
    have H1 : (laws_FnExactStreamOf.j1 kj5 t261 true t262 t263) = some r := by rw [if_neg (show ¬ (false = true) by decide)] at H; exact H
    clear H
    have H := H1
    clear H1
    have H' := aM6_ H
    clear H
    have hnb80 := NB274_239.out
    have hnc80 := NB239_274.out
    have hnb81 := NB274_249.out
    have hnc81 := NB249_274.out
    have hnb82 := NB274_259.out
    have hnc82 := NB259_274.out
    have hcz83_0 : w63.cell? ⟨gb274, 0, none⟩ = some (.slice none 0 0) := (kC6_ BK274.out 0).trans rfl
    have hcz83_1 : w63.cell? ⟨gb274, 1, none⟩ = some (.slice none 0 0) := (kC6_ BK274.out 1).trans rfl
    have hfz83_0 := blk_frozen BK274.out 0
    have hfz83_1 := blk_frozen BK274.out 1
    have hnb84 := NB249_239.out
    have hnc84 := NB239_249.out
    have hnb85 := NB249_259.out
    have hnc85 := NB259_249.out
    have hcz86_0 : w63.cell? ⟨gb249, 0, none⟩ = some (.slice Ao12 t242.length co12) := (kC6_ BK249.out 0).trans rfl
    have hcz86_1 : w63.cell? ⟨gb249, 1, none⟩ = some (.slice Ao15 t245.length co15) := (kC6_ BK249.out 1).trans rfl
    have hfz86_0 := blk_frozen BK249.out 0
    have hfz86_1 := blk_frozen BK249.out 1
    go_wp2_with (first | ((with_reducible refine gate_callee (f := 21) rfl ?_); refine goesL_ (some 51) rfl rfl Try.func21 (by kernel_rfl) rfl #[.agg #[.slice Ao64 t267.length co64, .slice Ao69 t270.length co69], .agg #[.slice Ao12 t242.length co12, .slice Ao15 t245.length co15]] rfl q6x3_ ?_; (with_reducible refine (laws_eqStream.calls kj5 _ _ t267 _ _ t270 _ _ t242 _ _ t245 false _ ?side1 ?side2 ?side3 ?side4 ?side5 ?side6 ?side7 ?side8 A70.out).mono ?_); (case side1 => refine (Kd.R_reads' (e := 69) (base := w.heap.size) (ok := fun k_ => ((((some k_ ≠ (.slice Ao69 t270.length co69 : Value).ownBlock ∧ some k_ ≠ (.slice Ao12 t242.length co12 : Value).ownBlock) ∧ some k_ ≠ (.slice Ao15 t245.length co15 : Value).ownBlock) ∧ some k_ ≠ (.slice Ao20 t252.length co20 : Value).ownBlock) ∧ some k_ ≠ (.slice Ao24 t255.length co24 : Value).ownBlock)) (n := t267.length) (c := co64) ?_).2.2; exact q6x17_); (case side2 => exact (Kd.R_reads' HO269.out).2.1); (case side3 => refine (Kd.R_reads' (e := 69) (base := w.heap.size) (ok := fun k_ => ((((some k_ ≠ (.slice Ao64 t267.length co64 : Value).ownBlock ∧ some k_ ≠ (.slice Ao12 t242.length co12 : Value).ownBlock) ∧ some k_ ≠ (.slice Ao15 t245.length co15 : Value).ownBlock) ∧ some k_ ≠ (.slice Ao20 t252.length co20 : Value).ownBlock) ∧ some k_ ≠ (.slice Ao24 t255.length co24 : Value).ownBlock)) (n := t270.length) (c := co69) ?_).2.2; exact q6x18_); (case side4 => exact (Kd.R_reads' HO272.out).2.1); (case side5 => refine (Kd.R_reads' (e := 69) (base := w.heap.size) (ok := fun k_ => (((some k_ ≠ (.slice Ao15 t245.length co15 : Value).ownBlock ∧ (some k_ ≠ (.slice Ao20 t252.length co20 : Value).ownBlock ∧ some k_ ≠ (.slice Ao24 t255.length co24 : Value).ownBlock)) ∧ some k_ ≠ (.slice Ao64 t267.length co64 : Value).ownBlock) ∧ some k_ ≠ (.slice Ao69 t270.length co69 : Value).ownBlock)) (n := t242.length) (c := co12) ?_).2.2; exact q6x11_); (case side6 => exact (Kd.R_reads' HO_250000.out).2.1); (case side7 => refine (Kd.R_reads' (e := 69) (base := w.heap.size) (ok := fun k_ => (((some k_ ≠ (.slice Ao12 t242.length co12 : Value).ownBlock ∧ (some k_ ≠ (.slice Ao20 t252.length co20 : Value).ownBlock ∧ some k_ ≠ (.slice Ao24 t255.length co24 : Value).ownBlock)) ∧ some k_ ≠ (.slice Ao64 t267.length co64 : Value).ownBlock) ∧ some k_ ≠ (.slice Ao69 t270.length co69 : Value).ownBlock)) (n := t245.length) (c := co15) ?_).2.2; exact q6x12_); (case side8 => exact (Kd.R_reads' HO_250001.out).2.1); rintro e w87 ⟨rfl, hb⟩; refine ⟨_, rfl, ?_⟩; have n0_ := aM6_ (rB6_ q6x11_ hb); have n1_ := aM6_ (rB6_ q6x12_ hb); have n2_ := aM6_ (rB6_ q6x31_ hb); have n3_ := aM6_ (rB6_ q6x32_ hb); have n4_ := aM6_ (rB6_ q6x17_ hb); have n5_ := aM6_ (rB6_ q6x18_ hb); have n6_ := aM6_ (kB6_ (g := gb239) (o := .cells #[.int .i64 a0_0, .int .i64 a0_1] 43 (0, 0)) q6x28_ hb); have n7_ := aM6_ (kB6_ (g := gb249) (o := .cells #[.slice Ao12 t242.length co12, .slice Ao15 t245.length co15] 34 (0, 0)) q6x29_ hb); have n8_ := aM6_ (kB6_ (g := gb259) (o := .cells #[.slice Ao20 t252.length co20, .slice Ao24 t255.length co24] 34 (0, 0)) q6x30_ hb); have n9_ := aM6_ (kB6_ (g := gb274) (o := .cells #[.slice Ao64 t267.length co64, .slice Ao69 t270.length co69] 34 (0, 0)) q6x23_ hb); have n10_ := aM6_ (below_step q6x19_ hb); clear HO_250000; clear HO_250001; clear HO_260000; clear HO_260001; clear HO269; clear HO272; clear BK239; clear BK249; clear BK259; clear BK274; clear HB; have HO_250000 := n0_; have HO_250001 := n1_; have HO_260000 := n2_; have HO_260001 := n3_; have HO269 := n4_; have HO272 := n5_; have BK239 := n6_; have BK249 := n7_; have BK259 := n8_; have BK274 := n9_; have HB := n10_; clear n0_ n1_ n2_ n3_ n4_ n5_ n6_ n7_ n8_ n9_ n10_; (try clear hb); (try clear hb2); (try clear hk); (try clear hi)))
    go_meet
    case rel => exact ⟨_, (true), (by first | rfl | (simp; done) | (simp [*]; done)), H', ⟨by have := HJ5.out; first | omega | exact Nat.le_refl _⟩, ⟨by (with_reducible repeat (first | apply rA6_ | apply rN6_ | apply rD6_)); exact Kd.R_mono HO_250000.out (fun _ hk => ⟨hk.1.1.1, ⟨hk.1.1.2.1, ⟨hk.1.1.2.2, ⟨hk.1.2, hk.2⟩⟩⟩⟩)⟩, ⟨by (with_reducible repeat (first | apply rA6_ | apply rN6_ | apply rD6_)); exact Kd.R_mono HO_250001.out (fun _ hk => ⟨hk.1.1.1, ⟨hk.1.1.2.1, ⟨hk.1.1.2.2, ⟨hk.1.2, hk.2⟩⟩⟩⟩)⟩, ⟨by (with_reducible repeat (first | apply rA6_ | apply rN6_ | apply rD6_)); exact Kd.R_mono HO_260000.out (fun _ hk => ⟨hk.1.1.1, ⟨hk.1.1.2.1, ⟨hk.1.1.2.2, ⟨hk.1.2, hk.2⟩⟩⟩⟩)⟩, ⟨by (with_reducible repeat (first | apply rA6_ | apply rN6_ | apply rD6_)); exact Kd.R_mono HO_260001.out (fun _ hk => ⟨hk.1.1.1, ⟨hk.1.1.2.1, ⟨hk.1.1.2.2, ⟨hk.1.2, hk.2⟩⟩⟩⟩)⟩, ⟨by (with_reducible repeat (first | apply rA6_ | apply rN6_ | apply rD6_)); exact Kd.R_mono HO269.out (fun _ hk => ⟨hk.1.1.1.2, ⟨hk.1.1.2, ⟨hk.1.2, ⟨hk.2, hk.1.1.1.1⟩⟩⟩⟩)⟩, ⟨by (with_reducible repeat (first | apply rA6_ | apply rN6_ | apply rD6_)); exact Kd.R_mono HO272.out (fun _ hk => ⟨hk.1.1.1.2, ⟨hk.1.1.2, ⟨hk.1.2, ⟨hk.2, hk.1.1.1.1⟩⟩⟩⟩)⟩, ⟨by (with_reducible repeat (first | refine kN6_ ?_ _ | refine kD6_ ?_ | refine kA6_ ?_ _)); exact BK239.out⟩, ⟨by (with_reducible repeat (first | refine kN6_ ?_ _ | refine kD6_ ?_ | refine kA6_ ?_ _)); exact BK249.out⟩, ⟨by (with_reducible repeat (first | refine kN6_ ?_ _ | refine kD6_ ?_ | refine kA6_ ?_ _)); exact BK259.out⟩, ⟨by (with_reducible repeat (first | refine kN6_ ?_ _ | refine kD6_ ?_ | refine kA6_ ?_ _)); exact BK274.out⟩, ⟨by repeat (first | (with_reducible first | exact HB.out | apply below_alloc | apply pw_below_drewN | apply below_drew1 | refine bS6_ ?_ GE239.out | refine bS6_ ?_ GE249.out | refine bS6_ ?_ GE259.out | refine bS6_ ?_ GE274.out) | exact HB.out)⟩⟩
   case rest =>
    clear HC52
    try clear c1
    try clear c2
    try clear p2
    try clear c3
    try clear c4
    try clear c5
    try clear c6
    try clear c7
    try clear c8
    try clear c13
    try clear c21
    try clear c22
    try clear c23
    try clear c26
    try clear c27
    try clear c28
    try clear c30
    try clear c33
    try clear c34
    try clear c36
    try clear c39
    try clear c42
    try clear c42b0
    try clear c43
    try clear c44
    try clear c49
    try clear c49b0
    try clear c49b1
    try clear c53
    try clear c54
    try clear c59
    try clear c65
    try clear c66
    try clear c67
    try clear c71
    try clear c72
    try clear c73
    try clear c74
    try clear c76
    try clear c77
    try clear c80
    try clear c81
    try clear c82
    try clear c84
    try clear c85
    try clear hcz14_0
    try clear hcz14_1
    try clear hcz16_0
    try clear hcz16_1
    try clear hcz23_0
    try clear hcz23_1
    try clear hcz29_0
    try clear hcz29_1
    try clear hcz31_0
    try clear hcz31_1
    try clear hcz35_0
    try clear hcz35_1
    try clear hcz37_0
    try clear hcz37_1
    try clear hcz45_0
    try clear hcz45_1
    try clear hcz47_0
    try clear hcz47_1
    try clear hcz55_0
    try clear hcz55_1
    try clear hcz57_0
    try clear hcz57_1
    try clear hcz60_0
    try clear hcz60_1
    try clear hcz68_0
    try clear hcz68_1
    try clear hcz75_0
    try clear hcz75_1
    try clear hcz78_0
    try clear hcz78_1
    try clear hcz83_0
    try clear hcz83_1
    try clear hcz86_0
    try clear hcz86_1
    try clear hcz8_0
    try clear hcz8_1
    try clear hfz14_0
    try clear hfz14_1
    try clear hfz16_0
    try clear hfz16_1
    try clear hfz23_0
    try clear hfz23_1
    try clear hfz29_0
    try clear hfz29_1
    try clear hfz31_0
    try clear hfz31_1
    try clear hfz35_0
    try clear hfz35_1
    try clear hfz37_0
    try clear hfz37_1
    try clear hfz45_0
    try clear hfz45_1
    try clear hfz47_0
    try clear hfz47_1
    try clear hfz55_0
    try clear hfz55_1
    try clear hfz57_0
    try clear hfz57_1
    try clear hfz60_0
    try clear hfz60_1
    try clear hfz68_0
    try clear hfz68_1
    try clear hfz75_0
    try clear hfz75_1
    try clear hfz78_0
    try clear hfz78_1
    try clear hfz83_0
    try clear hfz83_1
    try clear hfz86_0
    try clear hfz86_1
    try clear hfz8_0
    try clear hfz8_1
    try clear p2
    obtain ⟨kq, x57_51, rfl, HA, HJ51, HO_250000, HO_250001, HO_260000, HO_260001, HO_275000, HO_275001, BK239, BK249, BK259, BK274, HB⟩ := hcut
    have hl260000_51 := (Kd.R_reads' HO_260000.out).1
    rw [hl260000_51] at HO_260000
    (try simp only [hl260000_51])
    (try simp only [hl260000_51] at BK239)
    (try simp only [hl260000_51] at BK249)
    (try simp only [hl260000_51] at BK259)
    (try simp only [hl260000_51] at BK274)
    (try simp only [hl260000_51] at HO_250000)
    (try simp only [hl260000_51] at HO_250001)
    (try simp only [hl260000_51] at HO_260001)
    (try simp only [hl260000_51] at HO_275000)
    (try simp only [hl260000_51] at HO_275001)
    have hl260001_51 := (Kd.R_reads' HO_260001.out).1
    rw [hl260001_51] at HO_260001
    (try simp only [hl260001_51])
    (try simp only [hl260001_51] at BK239)
    (try simp only [hl260001_51] at BK249)
    (try simp only [hl260001_51] at BK259)
    (try simp only [hl260001_51] at BK274)
    (try simp only [hl260001_51] at HO_250000)
    (try simp only [hl260001_51] at HO_250001)
    (try simp only [hl260001_51] at HO_260000)
    (try simp only [hl260001_51] at HO_275000)
    (try simp only [hl260001_51] at HO_275001)
    cases kq with
    | zero => exact absurd HA.out (by simp [laws_FnExactStreamOf.j1])
    | succ kj51 =>
     have H := HA.out
     clear HA
     simp only [laws_FnExactStreamOf.j1] at H
     by_cases c88 : x57_51 = true
     ·subst c88
      have H1 : (some false) = some r := by rw [if_pos rfl] at H; exact H
      clear H
      have H := H1
      clear H1
      obtain rfl := Option.some.inj H
      go_wp2
      go_ret
      exact ⟨by first | rfl | (simp [errW_none, errW_some] <;> rfl) | (simp [*, errW_none, errW_some] <;> rfl), by repeat (first | (with_reducible first | exact HB.out | apply below_alloc | apply pw_below_drewN | apply below_drew1 | refine bS6_ ?_ GE239.out | refine bS6_ ?_ GE249.out | refine bS6_ ?_ GE259.out | refine bS6_ ?_ GE274.out) | exact HB.out)⟩
     replace c88 := Bool.eq_false_iff.mpr c88
     subst c88
     have H1 : ((laws_heldStream.f kj51 t262 t263 1).bind fun t276 => (if t276 < 0 then (some false) else (if t276 = t261 then (some true) else (some false)))) = some r := by rw [if_neg (show ¬ (false = true) by decide)] at H; exact H
     clear H
     have H := H1
     clear H1
     replace H := Option.bind_eq_some_iff.mp H
     obtain ⟨t276, A890, H⟩ := H
     replace H : (if t276 < 0 then (some false) else (if t276 = t261 then (some true) else (some false))) = some r := H
     have A89 := aM6_ A890
     clear A890
     by_cases c90 : t276 < 0
     ·rw [if_pos c90] at H
      have c90b0 : decide (t276 < 0) = true := decide_eq_true c90
      clear c90
      obtain rfl := Option.some.inj H
      have hnb91 := NB259_239.out
      have hnc91 := NB239_259.out
      have hnb92 := NB259_249.out
      have hnc92 := NB249_259.out
      have hnb93 := NB259_274.out
      have hnc93 := NB274_259.out
      have hcz94_0 : wc.cell? ⟨gb259, 0, none⟩ = some (.slice Ao20 t262.length co20) := (kC6_ BK259.out 0).trans rfl
      have hcz94_1 : wc.cell? ⟨gb259, 1, none⟩ = some (.slice Ao24 t263.length co24) := (kC6_ BK259.out 1).trans rfl
      have hfz94_0 := blk_frozen BK259.out 0
      have hfz94_1 := blk_frozen BK259.out 1
      go_wp2_with (first | ((with_reducible refine gate_callee (f := 23) rfl ?_); refine goesL_ (some 60) rfl rfl Try.func23 (by kernel_rfl) rfl #[.agg #[.slice Ao20 t262.length co20, .slice Ao24 t263.length co24], .int .i64 1] rfl q6x3_ ?_; (with_reducible refine (laws_heldStream.calls kj51 _ _ t262 _ _ t263 1 t276 _ ?side1 ?side2 ?side3 ?side4 A89.out).mono ?_); (case side1 => repeat (first | exact (Kd.R_reads' HO_260000.out).2.2 | (with_reducible refine Kd.C_alloc ?_ _) | (with_reducible refine Kd.C_drewN ?_ _) | (with_reducible refine Kd.C_drew ?_))); (case side2 => exact (Kd.R_reads' HO_260000.out).2.1); (case side3 => repeat (first | exact (Kd.R_reads' HO_260001.out).2.2 | (with_reducible refine Kd.C_alloc ?_ _) | (with_reducible refine Kd.C_drewN ?_ _) | (with_reducible refine Kd.C_drew ?_))); (case side4 => exact (Kd.R_reads' HO_260001.out).2.1); rintro e w95 ⟨rfl, hb⟩; refine ⟨_, rfl, ?_⟩; have n0_ := aM6_ (rB6_ q6x7_ hb); have n1_ := aM6_ (rB6_ q6x8_ hb); have n2_ := aM6_ (rB6_ q6x9_ hb); have n3_ := aM6_ (rB6_ q6x10_ hb); have n4_ := aM6_ (rB6_ q6x37_ hb); have n5_ := aM6_ (rB6_ q6x38_ hb); have n6_ := aM6_ (kB6_ (g := gb239) (o := .cells #[.int .i64 a0_0, .int .i64 a0_1] 43 (0, 0)) q6x1_ hb); have n7_ := aM6_ (kB6_ (g := gb249) (o := .cells #[.slice Ao12 t242.length co12, .slice Ao15 t245.length co15] 34 (0, 0)) q6x4_ hb); have n8_ := aM6_ (kB6_ (g := gb259) (o := .cells #[.slice Ao20 t262.length co20, .slice Ao24 t263.length co24] 34 (0, 0)) q6x5_ hb); have n9_ := aM6_ (kB6_ (g := gb274) (o := .cells #[.slice Ao64 t267.length co64, .slice Ao69 t270.length co69] 34 (0, 0)) q6x34_ hb); have n10_ := aM6_ (below_step q6x19_ hb); clear HO_250000; clear HO_250001; clear HO_260000; clear HO_260001; clear HO_275000; clear HO_275001; clear BK239; clear BK249; clear BK259; clear BK274; clear HB; have HO_250000 := n0_; have HO_250001 := n1_; have HO_260000 := n2_; have HO_260001 := n3_; have HO_275000 := n4_; have HO_275001 := n5_; have BK239 := n6_; have BK249 := n7_; have BK259 := n8_; have BK274 := n9_; have HB := n10_; clear n0_ n1_ n2_ n3_ n4_ n5_ n6_ n7_ n8_ n9_ n10_; (try clear hb); (try clear hb2); (try clear hk); (try clear hi)))
      go_ret
      exact ⟨by first | rfl | (simp [errW_none, errW_some] <;> rfl) | (simp [*, errW_none, errW_some] <;> rfl), by repeat (first | (with_reducible first | exact HB.out | apply below_alloc | apply pw_below_drewN | apply below_drew1 | refine bS6_ ?_ GE239.out | refine bS6_ ?_ GE249.out | refine bS6_ ?_ GE259.out | refine bS6_ ?_ GE274.out) | exact HB.out)⟩
     rw [if_neg c90] at H
     have c90b0 : decide (t276 < 0) = false := decide_eq_false c90
     clear c90
     by_cases c96 : t276 = t261
     ·rw [if_pos c96] at H
      have c96b0 : (t276 == t261) = true := beq_iff_eq.mpr c96
      have c96b1 : (t276 != t261) = false := bne_eq_false_iff_eq.mpr c96
      clear c96
      obtain rfl := Option.some.inj H
      have hnb97 := NB259_239.out
      have hnc97 := NB239_259.out
      have hnb98 := NB259_249.out
      have hnc98 := NB249_259.out
      have hnb99 := NB259_274.out
      have hnc99 := NB274_259.out
      have hcz100_0 : wc.cell? ⟨gb259, 0, none⟩ = some (.slice Ao20 t262.length co20) := (kC6_ BK259.out 0).trans rfl
      have hcz100_1 : wc.cell? ⟨gb259, 1, none⟩ = some (.slice Ao24 t263.length co24) := (kC6_ BK259.out 1).trans rfl
      have hfz100_0 := blk_frozen BK259.out 0
      have hfz100_1 := blk_frozen BK259.out 1
      go_wp2_with (first | ((with_reducible refine gate_callee (f := 23) rfl ?_); refine goesL_ (some 60) rfl rfl Try.func23 (by kernel_rfl) rfl #[.agg #[.slice Ao20 t262.length co20, .slice Ao24 t263.length co24], .int .i64 1] rfl q6x3_ ?_; (with_reducible refine (laws_heldStream.calls kj51 _ _ t262 _ _ t263 1 t276 _ ?side1 ?side2 ?side3 ?side4 A89.out).mono ?_); (case side1 => repeat (first | exact (Kd.R_reads' HO_260000.out).2.2 | (with_reducible refine Kd.C_alloc ?_ _) | (with_reducible refine Kd.C_drewN ?_ _) | (with_reducible refine Kd.C_drew ?_))); (case side2 => exact (Kd.R_reads' HO_260000.out).2.1); (case side3 => repeat (first | exact (Kd.R_reads' HO_260001.out).2.2 | (with_reducible refine Kd.C_alloc ?_ _) | (with_reducible refine Kd.C_drewN ?_ _) | (with_reducible refine Kd.C_drew ?_))); (case side4 => exact (Kd.R_reads' HO_260001.out).2.1); rintro e w101 ⟨rfl, hb⟩; refine ⟨_, rfl, ?_⟩; have n0_ := aM6_ (rB6_ q6x7_ hb); have n1_ := aM6_ (rB6_ q6x8_ hb); have n2_ := aM6_ (rB6_ q6x9_ hb); have n3_ := aM6_ (rB6_ q6x10_ hb); have n4_ := aM6_ (rB6_ q6x37_ hb); have n5_ := aM6_ (rB6_ q6x38_ hb); have n6_ := aM6_ (kB6_ (g := gb239) (o := .cells #[.int .i64 a0_0, .int .i64 a0_1] 43 (0, 0)) q6x1_ hb); have n7_ := aM6_ (kB6_ (g := gb249) (o := .cells #[.slice Ao12 t242.length co12, .slice Ao15 t245.length co15] 34 (0, 0)) q6x4_ hb); have n8_ := aM6_ (kB6_ (g := gb259) (o := .cells #[.slice Ao20 t262.length co20, .slice Ao24 t263.length co24] 34 (0, 0)) q6x5_ hb); have n9_ := aM6_ (kB6_ (g := gb274) (o := .cells #[.slice Ao64 t267.length co64, .slice Ao69 t270.length co69] 34 (0, 0)) q6x34_ hb); have n10_ := aM6_ (below_step q6x19_ hb); clear HO_250000; clear HO_250001; clear HO_260000; clear HO_260001; clear HO_275000; clear HO_275001; clear BK239; clear BK249; clear BK259; clear BK274; clear HB; have HO_250000 := n0_; have HO_250001 := n1_; have HO_260000 := n2_; have HO_260001 := n3_; have HO_275000 := n4_; have HO_275001 := n5_; have BK239 := n6_; have BK249 := n7_; have BK259 := n8_; have BK274 := n9_; have HB := n10_; clear n0_ n1_ n2_ n3_ n4_ n5_ n6_ n7_ n8_ n9_ n10_; (try clear hb); (try clear hb2); (try clear hk); (try clear hi)))
      go_ret
      exact ⟨by first | rfl | (simp [errW_none, errW_some] <;> rfl) | (simp [*, errW_none, errW_some] <;> rfl), by repeat (first | (with_reducible first | exact HB.out | apply below_alloc | apply pw_below_drewN | apply below_drew1 | refine bS6_ ?_ GE239.out | refine bS6_ ?_ GE249.out | refine bS6_ ?_ GE259.out | refine bS6_ ?_ GE274.out) | exact HB.out)⟩
     rw [if_neg c96] at H
     have c96b0 : (t276 == t261) = false := beq_eq_false_iff_ne.mpr c96
     have c96b1 : (t276 != t261) = true := bne_iff_ne.mpr c96
     obtain rfl := Option.some.inj H
     have hnb102 := NB259_239.out
     have hnc102 := NB239_259.out
     have hnb103 := NB259_249.out
     have hnc103 := NB249_259.out
     have hnb104 := NB259_274.out
     have hnc104 := NB274_259.out
     have hcz105_0 : wc.cell? ⟨gb259, 0, none⟩ = some (.slice Ao20 t262.length co20) := (kC6_ BK259.out 0).trans rfl
     have hcz105_1 : wc.cell? ⟨gb259, 1, none⟩ = some (.slice Ao24 t263.length co24) := (kC6_ BK259.out 1).trans rfl
     have hfz105_0 := blk_frozen BK259.out 0
     have hfz105_1 := blk_frozen BK259.out 1
     go_wp2_with (first | ((with_reducible refine gate_callee (f := 23) rfl ?_); refine goesL_ (some 60) rfl rfl Try.func23 (by kernel_rfl) rfl #[.agg #[.slice Ao20 t262.length co20, .slice Ao24 t263.length co24], .int .i64 1] rfl q6x3_ ?_; (with_reducible refine (laws_heldStream.calls kj51 _ _ t262 _ _ t263 1 t276 _ ?side1 ?side2 ?side3 ?side4 A89.out).mono ?_); (case side1 => repeat (first | exact (Kd.R_reads' HO_260000.out).2.2 | (with_reducible refine Kd.C_alloc ?_ _) | (with_reducible refine Kd.C_drewN ?_ _) | (with_reducible refine Kd.C_drew ?_))); (case side2 => exact (Kd.R_reads' HO_260000.out).2.1); (case side3 => repeat (first | exact (Kd.R_reads' HO_260001.out).2.2 | (with_reducible refine Kd.C_alloc ?_ _) | (with_reducible refine Kd.C_drewN ?_ _) | (with_reducible refine Kd.C_drew ?_))); (case side4 => exact (Kd.R_reads' HO_260001.out).2.1); rintro e w106 ⟨rfl, hb⟩; refine ⟨_, rfl, ?_⟩; have n0_ := aM6_ (rB6_ q6x7_ hb); have n1_ := aM6_ (rB6_ q6x8_ hb); have n2_ := aM6_ (rB6_ q6x9_ hb); have n3_ := aM6_ (rB6_ q6x10_ hb); have n4_ := aM6_ (rB6_ q6x37_ hb); have n5_ := aM6_ (rB6_ q6x38_ hb); have n6_ := aM6_ (kB6_ (g := gb239) (o := .cells #[.int .i64 a0_0, .int .i64 a0_1] 43 (0, 0)) q6x1_ hb); have n7_ := aM6_ (kB6_ (g := gb249) (o := .cells #[.slice Ao12 t242.length co12, .slice Ao15 t245.length co15] 34 (0, 0)) q6x4_ hb); have n8_ := aM6_ (kB6_ (g := gb259) (o := .cells #[.slice Ao20 t262.length co20, .slice Ao24 t263.length co24] 34 (0, 0)) q6x5_ hb); have n9_ := aM6_ (kB6_ (g := gb274) (o := .cells #[.slice Ao64 t267.length co64, .slice Ao69 t270.length co69] 34 (0, 0)) q6x34_ hb); have n10_ := aM6_ (below_step q6x19_ hb); clear HO_250000; clear HO_250001; clear HO_260000; clear HO_260001; clear HO_275000; clear HO_275001; clear BK239; clear BK249; clear BK259; clear BK274; clear HB; have HO_250000 := n0_; have HO_250001 := n1_; have HO_260000 := n2_; have HO_260001 := n3_; have HO_275000 := n4_; have HO_275001 := n5_; have BK239 := n6_; have BK249 := n7_; have BK259 := n8_; have BK274 := n9_; have HB := n10_; clear n0_ n1_ n2_ n3_ n4_ n5_ n6_ n7_ n8_ n9_ n10_; (try clear hb); (try clear hb2); (try clear hk); (try clear hi)))
     go_ret
     exact ⟨by first | rfl | (simp [errW_none, errW_some] <;> rfl) | (simp [*, errW_none, errW_some] <;> rfl), by repeat (first | (with_reducible first | exact HB.out | apply below_alloc | apply pw_below_drewN | apply below_drew1 | refine bS6_ ?_ GE239.out | refine bS6_ ?_ GE249.out | refine bS6_ ?_ GE259.out | refine bS6_ ?_ GE274.out) | exact HB.out)⟩
/-! ### the law's arguments -/
def WF43 (x : S43) : Prop := ((-9223372036854775808) ≤ x.f0 ∧ x.f0 ≤ 9223372036854775807) ∧ ((-9223372036854775808) ≤ x.f1 ∧ x.f1 ≤ 9223372036854775807)
set_option maxRecDepth 100000 in
theorem op43 {H : Type} {enc : TypeId × Value → H} {w : World} : Opens enc Try.prog w 43 k43 WF43 := by
 intro fuel cs x h hz
 obtain ⟨xs, m, rfl, rfl, hl, hn, hf⟩ := DataW.trod_struct Try.underlying43 h
 have hl0 : cs.length = 2 := hl.trans (by kernel_rfl)
 have hn0 : xs.length = 2 := hn
 obtain ⟨x0, xs0, rfl, hn1⟩ := consX_of hn0
 obtain ⟨x1, xs1, rfl, hn2⟩ := consX_of hn1
 obtain rfl := List.eq_nil_of_length_eq_zero hn2
 obtain ⟨c0, cs0, rfl, hl1⟩ := cons_of hl0
 obtain ⟨c1, cs1, rfl, hl2⟩ := cons_of hl1
 obtain rfl := List.eq_nil_of_length_eq_zero hl2
 have h0 : DataW.trod enc Try.prog w 0 (fun _ => true) true m 2 [c0] = some x0 := by
  have h_ : DataW.trod enc Try.prog w 0 (fun _ => true) true m 2 (([c0, c1].drop 0).take (Try.prog.cellsOf 2)) = [x0, x1][0]? := by
   have h2_ := hf 0 _ rfl
   exact h2_
  rw [show Try.prog.cellsOf 2 = 1 from by kernel_rfl] at h_
  exact h_
 obtain ⟨a0, hk0, hw0⟩ := (opens_int Try.underlying2 wfB_i64) _ _ _ h0 (weight_struct Try.underlying43 hz (j := 0) rfl rfl)
 have h1 : DataW.trod enc Try.prog w 0 (fun _ => true) true m 2 [c1] = some x1 := by
  have h_ : DataW.trod enc Try.prog w 0 (fun _ => true) true m 2 (([c0, c1].drop 1).take (Try.prog.cellsOf 2)) = [x0, x1][1]? := by
   have h2_ := hf 1 _ rfl
   exact h2_
  rw [show Try.prog.cellsOf 2 = 1 from by kernel_rfl] at h_
  exact h_
 obtain ⟨a1, hk1, hw1⟩ := (opens_int Try.underlying2 wfB_i64) _ _ _ h1 (weight_struct Try.underlying43 hz (j := 1) rfl rfl)
 exact ⟨⟨a0, a1⟩, ⟨[c0], [c1], rfl, hk0, hk1⟩, ⟨hw0, hw1⟩⟩
/-- THE ONE PURE STATEMENT of laws_FnExactStreamOf. -/
def laws_FnExactStreamOf.Pure : Prop := ∀ (x0 : S43), (WF43 x0) → ∃ k, laws_FnExactStreamOf.f k x0.f0 x0.f1 = some true
theorem laws_FnExactStreamOf.walk (P_ : laws_FnExactStreamOf.Pure) (w : World) (x0 : S43) (hw0 : WF43 x0) :
  Calls Try.prog 6 #[.agg #[.int .i64 x0.f0, .int .i64 x0.f1]] w fun e w' => e = .returned (.bool true) ∧ Below w.heap.size w w' := by
 obtain ⟨k, h⟩ := P_ x0 hw0
 refine (laws_FnExactStreamOf.calls k x0.f0 x0.f1 true w  h).mono ?_
 rintro e w' ⟨rfl, hd⟩
 exact ⟨rfl, hd⟩

end Go.Proofs.Ytfenifdigjcmiaa.MFnExactStreamOf
