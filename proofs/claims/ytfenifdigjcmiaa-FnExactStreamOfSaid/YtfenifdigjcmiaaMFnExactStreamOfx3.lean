/- Functions of the program as Lean functions, and the proof that the code comes to what they say. Written by a program of this session (myprint.py). -/
import Derived.Test.YtfenifdigjcmiaaMFnExactStreamOfx0
import Derived.Test.YtfenifdigjcmiaaMFnExactStreamOfx1
import Derived.Test.YtfenifdigjcmiaaMFnExactStreamOfx2
namespace Go.Proofs.Ytfenifdigjcmiaa.MFnExactStreamOf
open Go.RowKit Go.Proofs.Ytfenifdigjcmiaa.MOpen Go.Proofs.YtfenifdigjcmiaaW.PrintWords Go.Proofs.YtfenifdigjcmiaaW.PrintLast Go.Proofs.YtfenifdigjcmiaaW.PrintMore
attribute [local go_sem] max2_int min2_int max_two min_two max_three min_three max_four min_four   -- for this text's walks alone
set_option linter.unusedVariables false
set_option linter.unusedSimpArgs false

set_option linter.defProp false
def rA26_ := @Kd.R_alloc
def rN26_ := @Kd.R_drewN
def rD26_ := @Kd.R_drew
def kA26_ := @blk_alloc
def kN26_ := @blk_drewN
def kD26_ := @blk_drew
def bS26_ := @below_set
def aM26_ := @Aside0.mk
def bZ26_ := @below_size
def cB26_ := @Kd.C_below
def rB26_ := @Kd.R_below
def kB26_ := @blk_below
def rF26_ := @Kd.R_after
def kG26_ := @blk_grown
def bT26_ := @below_step
def kC26_ := @blk_cell
theorem q26x1_ {P : Prop} (h : P := by repeat (first | (with_reducible first | exact HB.out | apply below_alloc | apply pw_below_drewN | apply below_drew1 | refine bS26_ ?_ GE127.out | refine bS26_ ?_ GE128.out) | exact HB.out)) : P := h
theorem q26x2_ {P : Prop} (h : P := by (with_reducible repeat (first | refine kN26_ ?_ _ | refine kD26_ ?_ | refine kA26_ ?_ _)); exact BK127.out) : P := h
theorem q26x3_ {P : Prop} (h : P := by repeat (first | (with_reducible exact HR144.out) | (with_reducible refine Kd.C_alloc ?_ _) | (with_reducible refine Kd.C_drewN ?_ _) | (with_reducible refine Kd.C_drew ?_) | exact HR144.out)) : P := h
theorem q26x4_ {P : Prop} (h : P := by repeat (first | (with_reducible exact HR154.out) | (with_reducible refine Kd.C_alloc ?_ _) | (with_reducible refine Kd.C_drewN ?_ _) | (with_reducible refine Kd.C_drew ?_) | exact HR154.out)) : P := h
theorem q26x5_ {P : Prop} (h : P := by (with_reducible repeat (first | refine kN26_ ?_ _ | refine kD26_ ?_ | refine kA26_ ?_ _)); exact BK128.out) : P := h
theorem q26x6_ {P : Prop} (h : P := by repeat (first | (with_reducible first | exact HB.out | apply below_alloc | apply pw_below_drewN | apply below_drew1 | refine bS26_ ?_ GE127.out | refine bS26_ ?_ GE128.out | refine bS26_ ?_ GE158.out) | exact HB.out)) : P := h
theorem q26x7_ {P : Prop} (h : P := by (with_reducible repeat (first | apply rA26_ | apply rN26_ | apply rD26_)); exact HO_5.out) : P := h
theorem q26x8_ {P : Prop} (h : P := by (with_reducible repeat (first | apply rA26_ | apply rN26_ | apply rD26_)); exact HO_4.out) : P := h
theorem q26x9_ {P : Prop} (h : P := by first | (simp only [putAll, Act.put, List.setIfInBounds_toArray, List.set_cons_zero, List.set_cons_succ]; done) | (simp only [putAll, Act.put, List.setIfInBounds_toArray, List.set_cons_zero, List.set_cons_succ]; rfl)) : P := h
theorem q26x10_ {P : Prop} (h : P := by (with_reducible repeat (first | refine kN26_ ?_ _ | refine kD26_ ?_ | refine kA26_ ?_ _)); exact BK158.out) : P := h
theorem q26x11_ {P : Prop} (h : P := by (with_reducible repeat (first | apply rA26_ | apply rN26_ | apply rD26_)); exact Kd.R_mono HO_5.out (fun _ hk => ⟨hk.2, hk.1⟩)) : P := h
theorem q26x12_ {P : Prop} (h : P := by (with_reducible repeat (first | apply rA26_ | apply rN26_ | apply rD26_)); exact HO147.out) : P := h
theorem q26x13_ {P : Prop} (h : P := by (with_reducible repeat (first | apply rA26_ | apply rN26_ | apply rD26_)); exact HO150.out) : P := h
theorem q26x14_ {P : Prop} (h : P := by (with_reducible repeat (first | apply rA26_ | apply rN26_ | apply rD26_)); exact HO140.out) : P := h
theorem q26x15_ {P : Prop} (h : P := by (with_reducible repeat (first | apply rA26_ | apply rN26_ | apply rD26_)); exact Kd.R_mono HO150.out (fun _ hk => ⟨hk.2, hk.1⟩)) : P := h
theorem q26x16_ {P : Prop} (h : P := by (with_reducible repeat (first | apply rA26_ | apply rN26_ | apply rD26_)); exact Kd.R_mono HO147.out (fun _ hk => ⟨hk.2, hk.1⟩)) : P := h
theorem q26x17_ {P : Prop} (h : P := by (with_reducible repeat (first | apply rA26_ | apply rN26_ | apply rD26_)); exact Kd.R_mono HO_5.out (fun _ hk => ⟨trivial, hk⟩)) : P := h
theorem q26x18_ {P : Prop} (h : P := by rw [hg]; exact Nat.ne_of_lt (blk_lt (g := gb127) (o := .cells #[.int .i64 a0_0, .int .i64 a0_1] 24 (0, 0)) q26x2_)) : P := h
theorem q26x19_ {P : Prop} (h : P := by rw [hg]; exact Nat.ne_of_gt (blk_lt (g := gb127) (o := .cells #[.int .i64 a0_0, .int .i64 a0_1] 24 (0, 0)) q26x2_)) : P := h
theorem q26x20_ {P : Prop} (h : P := by rw [hg]; exact Nat.ne_of_lt (blk_lt (g := gb128) (o := .cells #[.slice none 0 0, .slice none 0 0] 34 (0, 0)) q26x5_)) : P := h
theorem q26x21_ {P : Prop} (h : P := by rw [hg]; exact Nat.ne_of_gt (blk_lt (g := gb128) (o := .cells #[.slice none 0 0, .slice none 0 0] 34 (0, 0)) q26x5_)) : P := h
theorem q26x22_ {P : Prop} (h : P := by (with_reducible repeat (first | apply rA26_ | apply rN26_ | apply rD26_)); exact Kd.R_mono HO_5.out (fun _ hk => hk.2)) : P := h
theorem q26x23_ {P : Prop} (h : P := by repeat (first | (with_reducible first | exact HB.out | apply below_alloc | apply pw_below_drewN | apply below_drew1 | refine bS26_ ?_ GE127.out) | exact HB.out)) : P := h
theorem q26x24_ {P : Prop} (h : P := by repeat (first | (with_reducible first | exact HB.out | apply below_alloc | apply pw_below_drewN | apply below_drew1) | exact HB.out)) : P := h
theorem q26x25_ {P : Prop} (h : P := by (with_reducible repeat (first | apply rA26_ | apply rN26_ | apply rD26_)); exact Kd.R_mono HO150.out (fun _ hk => ⟨hk.2, hk.1.2⟩)) : P := h
theorem q26x26_ {P : Prop} (h : P := by (with_reducible repeat (first | apply rA26_ | apply rN26_ | apply rD26_)); exact Kd.R_mono HO140.out (fun _ hk => ⟨hk.2, hk.1⟩)) : P := h
theorem q26x27_ {P : Prop} (h : P := by rw [hg]; exact (bZ26_ q26x1_)) : P := h
theorem q26x28_ {P : Prop} (h : P := by (with_reducible repeat (first | refine kN26_ ?_ _ | refine kD26_ ?_ | refine kA26_ ?_ _)); refine blk_put (cs := #[.slice none 0 0, .slice none 0 0]) ?_ 1 _ rfl; (with_reducible repeat (first | refine kN26_ ?_ _ | refine kD26_ ?_ | refine kA26_ ?_ _)); refine blk_put (cs := #[.slice none 0 0, .slice none 0 0]) ?_ 0 _ rfl; (with_reducible repeat (first | refine kN26_ ?_ _ | refine kD26_ ?_ | refine kA26_ ?_ _)); exact BK128.out) : P := h
theorem q26x29_ {P : Prop} (h : P := by (try simp only [List.map_toArray, List.map_cons, List.map_nil]); first | done | rfl | (simp only [List.length_drop, List.length_take]; rfl)) : P := h
theorem q26x30_ {P : Prop} (h : P := by first | (with_reducible assumption) | assumption) : P := h
theorem q26x31_ {P : Prop} (h : P := by (with_reducible repeat (first | refine kN26_ ?_ _ | refine kD26_ ?_ | refine kA26_ ?_ _)); refine blk_put (cs := #[.slice Ao71 y145.length co71, .slice none 0 0]) ?_ 1 _ rfl; (with_reducible repeat (first | refine kN26_ ?_ _ | refine kD26_ ?_ | refine kA26_ ?_ _)); refine blk_put (cs := #[.slice none 0 0, .slice none 0 0]) ?_ 0 _ rfl; (with_reducible repeat (first | refine kN26_ ?_ _ | refine kD26_ ?_ | refine kA26_ ?_ _)); exact BK158.out) : P := h
theorem q26x32_ {P : Prop} (h : P := by (with_reducible repeat (first | refine kN26_ ?_ _ | refine kD26_ ?_ | refine kA26_ ?_ _)); refine blk_put (cs := #[.slice Ao48 y145.length co48, .slice none 0 0]) ?_ 1 _ rfl; (with_reducible repeat (first | refine kN26_ ?_ _ | refine kD26_ ?_ | refine kA26_ ?_ _)); refine blk_put (cs := #[.slice none 0 0, .slice none 0 0]) ?_ 0 _ rfl; (with_reducible repeat (first | refine kN26_ ?_ _ | refine kD26_ ?_ | refine kA26_ ?_ _)); exact BK158.out) : P := h
theorem q26x33_ {P : Prop} (h : P := by (with_reducible repeat (first | apply rA26_ | apply rN26_ | apply rD26_)); exact Kd.R_mono HO140.out (fun _ hk => ⟨hk.2, hk.1.2⟩)) : P := h
theorem q26x34_ {P : Prop} (h : P := by (with_reducible repeat (first | apply rA26_ | apply rN26_ | apply rD26_)); exact Kd.R_mono HO157.out (fun _ hk => ⟨hk.2, hk.1⟩)) : P := h
theorem q26x35_ {P : Prop} (h : P := by (with_reducible repeat (first | apply rA26_ | apply rN26_ | apply rD26_)); exact Kd.R_mono HO140.out (fun _ hk => hk.2)) : P := h
theorem q26x36_ {P : Prop} (h : P := by (with_reducible repeat (first | apply rA26_ | apply rN26_ | apply rD26_)); exact Kd.R_mono HO150.out (fun _ hk => hk.2)) : P := h
theorem q26x37_ {P : Prop} (h : P := by (with_reducible repeat (first | apply rA26_ | apply rN26_ | apply rD26_)); exact HO162.out) : P := h
theorem q26x38_ {P : Prop} (h : P := by (with_reducible repeat (first | apply rA26_ | apply rN26_ | apply rD26_)); exact HO157.out) : P := h
theorem q26x39_ {P : Prop} (h : P := by first | rfl | (simp; done) | (simp [*]; done)) : P := h
theorem q26x40_ {P : Prop} (h : P := by rw [hg]; exact (bZ26_ q26x24_)) : P := h
theorem q26x41_ {P : Prop} (h : P := by rw [hg]; exact (bZ26_ q26x23_)) : P := h
theorem q26x42_ {P : Prop} (h : P := by intro w'; go_simp; with_reducible rfl) : P := h
theorem q26x43_ {P : Prop} (h : P := by simp only [Act.put, List.setIfInBounds_toArray, List.set_cons_zero, List.set_cons_succ, i64_w, i32_w]; rfl) : P := h
theorem q26x44_ {P : Prop} (h : P := by simp only [putAll, Act.put, List.setIfInBounds_toArray, List.set_cons_zero, List.set_cons_succ]; rfl) : P := h
theorem q26x45_ {P : Prop} (h : P := by show Act.put _ (some 8) _ = _; simp only [Act.put, List.setIfInBounds_toArray, List.set_cons_zero, List.set_cons_succ, i64_w, i32_w]; rfl) : P := h
theorem q26x46_ {P : Prop} (h : P := by show Act.put _ (some 48) _ = _; simp only [Act.put, List.setIfInBounds_toArray, List.set_cons_zero, List.set_cons_succ, i64_w, i32_w]; rfl) : P := h
theorem q26x47_ {P : Prop} (h : P := by show Act.put _ (some 44) _ = _; simp only [Act.put, List.setIfInBounds_toArray, List.set_cons_zero, List.set_cons_succ, i64_w, i32_w]; rfl) : P := h
theorem q26x48_ {P : Prop} (h : P := by show Act.put _ (some 43) _ = _; simp only [Act.put, List.setIfInBounds_toArray, List.set_cons_zero, List.set_cons_succ, i64_w, i32_w]; rfl) : P := h
theorem q26x49_ {P : Prop} (h : P := by show Act.put _ (some 39) _ = _; simp only [Act.put, List.setIfInBounds_toArray, List.set_cons_zero, List.set_cons_succ, i64_w, i32_w]; rfl) : P := h
/-! ### spec_StreamOf: function 26 -/
mutual
def spec_StreamOf.l0 : Nat → List Int → List Int → Int → Int → Int → Option (List Int × List Int × Int)
 | 0, _, _, _, _, _ => none
 | k + 1, x4, x5, x6, x128000, x128001 => if (x4.length : Int) ≤ 30 then (spec_StreamOf.l1 k x4 x5 x6 0 x128000 x128001) else (some (([] : List Int), ([] : List Int), 3))
def spec_StreamOf.l1 : Nat → List Int → List Int → Int → Int → Int → Int → Option (List Int × List Int × Int)
 | 0, _, _, _, _, _, _ => none
 | k + 1, x4, x5, x6, x7, x128000, x128001 => if x7 < (x4.length : Int) then (if 0 ≤ x7 then (if (rd x4 x7) = x6 then ((some (([] : List Int) : List Int)).bind fun y138 => (if x7 ≤ (x5.length : Int) then ((some (x5.take (x7 : Int).toNat : List Int)).bind fun y141 => (if y138.length + y141.length < 140737488355328 then ((some (y138 ++ y141 : List Int)).bind fun y145 => ((some (([] : List Int) : List Int)).bind fun y148 => ((some (x5.drop (x7 : Int).toNat : List Int)).bind fun y151 => (if y148.length + y151.length < 140737488355328 then ((some (y148 ++ y151 : List Int)).bind fun y155 => ((spec_l03Ok.f k y145 y155).bind fun t159 => (if t159 = true then (some (y145, y155, 0)) else (some (([] : List Int), ([] : List Int), 3))))) else (none))))) else (none))) else (none))) else (spec_StreamOf.l1 k x4 x5 x6 (wrap64 (x7 + 1)) x128000 x128001)) else (none)) else (if x4.length < 17592186044416 then ((some (x4 ++ [x6] : List Int)).bind fun y160 => (if (wrap64 (2 * x6)) ≥ x128001 then (if (wrap64 (2 * x6)) ≤ (wrap64 (-x128001)) then (if x5.length < 140737488355328 then (spec_StreamOf.l0 k y160 (x5 ++ [(-1)]) (wrap64 ((wrap64 (2 * x6)) - (wrap64 ((-1) * x128001)))) x128000 x128001) else (none)) else (if x5.length < 140737488355328 then (spec_StreamOf.l0 k y160 (x5 ++ [1]) (wrap64 ((wrap64 (2 * x6)) - (wrap64 (1 * x128001)))) x128000 x128001) else (none))) else (if (wrap64 (2 * x6)) ≤ (wrap64 (-x128001)) then (if x5.length < 140737488355328 then (spec_StreamOf.l0 k y160 (x5 ++ [(-1)]) (wrap64 ((wrap64 (2 * x6)) - (wrap64 ((-1) * x128001)))) x128000 x128001) else (none)) else (if x5.length < 140737488355328 then (spec_StreamOf.l0 k y160 (x5 ++ [0]) (wrap64 ((wrap64 (2 * x6)) - (wrap64 (0 * x128001)))) x128000 x128001) else (none))))) else (none))
end
def spec_StreamOf.f (k : Nat) (a0_0 : Int) (a0_1 : Int) : Option (List Int × List Int × Int) := (spec_l03Ratio.f k a0_0 a0_1).bind fun t129 => (if t129 = true then ((spec_l03Size.f a0_0).bind fun t130 => (if t130 > a0_1 then (some (([] : List Int), ([] : List Int), 2)) else (spec_StreamOf.l0 k (([] : List Int)) (([] : List Int)) a0_0 a0_0 a0_1))) else (some (([] : List Int), ([] : List Int), 1)))
theorem spec_StreamOf.mono_l : ∀ k, (∀ y0 y1 y2 y3 y4, LeO (spec_StreamOf.l0 k y0 y1 y2 y3 y4) (spec_StreamOf.l0 (k + 1) y0 y1 y2 y3 y4)) ∧ (∀ y0 y1 y2 y3 y4 y5, LeO (spec_StreamOf.l1 k y0 y1 y2 y3 y4 y5) (spec_StreamOf.l1 (k + 1) y0 y1 y2 y3 y4 y5))
 | 0 => ⟨fun _ _ _ _ _ r h => by simp [spec_StreamOf.l0] at h, fun _ _ _ _ _ _ r h => by simp [spec_StreamOf.l1] at h⟩
 | k + 1 => by
  obtain ⟨ih0, ih1⟩ := spec_StreamOf.mono_l k
  refine ⟨?_, ?_⟩
  ·intro y0 y1 y2 y3 y4
   unfold spec_StreamOf.l0
   repeat' first
   | (with_reducible exact ih0 _ _ _ _ _)
   | (with_reducible exact ih1 _ _ _ _ _ _)
   | (with_reducible exact spec_l03Ok.mono _ _ _)
   | (with_reducible exact spec_l03Ratio.mono _ _ _)
   | (with_reducible exact LeO.refl _)
   | (with_reducible exact LeO.none _)
   | (with_reducible refine LeO.ite ?_ ?_)
   | (with_reducible refine LeO.bind ?_ (fun _ => ?_))
   | exact ih0 _ _ _ _ _
   | exact ih1 _ _ _ _ _ _
   | exact spec_l03Ok.mono _ _ _
   | exact spec_l03Ratio.mono _ _ _
   | exact LeO.none _
   | refine LeO.ite ?_ ?_
   | refine LeO.bind ?_ (fun _ => ?_)
  intro y0 y1 y2 y3 y4 y5
  unfold spec_StreamOf.l1
  repeat' first
  | (with_reducible exact ih0 _ _ _ _ _)
  | (with_reducible exact ih1 _ _ _ _ _ _)
  | (with_reducible exact spec_l03Ok.mono _ _ _)
  | (with_reducible exact spec_l03Ratio.mono _ _ _)
  | (with_reducible exact LeO.refl _)
  | (with_reducible exact LeO.none _)
  | (with_reducible refine LeO.ite ?_ ?_)
  | (with_reducible refine LeO.bind ?_ (fun _ => ?_))
  | exact ih0 _ _ _ _ _
  | exact ih1 _ _ _ _ _ _
  | exact spec_l03Ok.mono _ _ _
  | exact spec_l03Ratio.mono _ _ _
  | exact LeO.none _
  | refine LeO.ite ?_ ?_
  | refine LeO.bind ?_ (fun _ => ?_)
theorem spec_StreamOf.mono : ∀ a0 a1 k, LeO (spec_StreamOf.f k a0 a1) (spec_StreamOf.f (k + 1) a0 a1) := by
 intro a0 a1 k
 obtain ⟨ih0, ih1⟩ := spec_StreamOf.mono_l k
 unfold spec_StreamOf.f
 repeat' first
   | (with_reducible exact ih0 _ _ _ _ _)
   | (with_reducible exact ih1 _ _ _ _ _ _)
   | (with_reducible exact spec_l03Ok.mono _ _ _)
   | (with_reducible exact spec_l03Ratio.mono _ _ _)
   | (with_reducible exact LeO.refl _)
   | (with_reducible exact LeO.none _)
   | (with_reducible refine LeO.ite ?_ ?_)
   | (with_reducible refine LeO.bind ?_ (fun _ => ?_))
   | exact ih0 _ _ _ _ _
   | exact ih1 _ _ _ _ _ _
   | exact spec_l03Ok.mono _ _ _
   | exact spec_l03Ratio.mono _ _ _
   | exact LeO.none _
   | refine LeO.ite ?_ ?_
   | refine LeO.bind ?_ (fun _ => ?_)
def spec_StreamOf.T13 : Bool × List (List Nat × List Nat) := (true, [([], []), ([], []), ([], []), ([1, 2], [1, 2]), ([0, 3], [0, 3]), ([], []), ([], []), ([], []), ([6, 7], [6, 7]), ([5, 8, 4], [5, 8]), ([4, 9], [4, 9]), ([], []), ([11, 10, 9, 0, 1, 2, 3, 4, 5, 6, 7, 8, 9, 10, 11], [10, 11])])
def spec_StreamOf.B13 : List Nat := [0, 0, 0, 6, 15, 0, 0, 0, 192, 511, 1023, 0, 4095]
theorem spec_StreamOf.tab13 : rtab .any (opsOf Try.f26 13) = spec_StreamOf.T13 := by kernel_rfl
theorem spec_StreamOf.bits13 : waitsOk spec_StreamOf.T13.2 spec_StreamOf.B13 = true := by kernel_rfl
set_option maxHeartbeats 8000000 in
set_option maxRecDepth 100000 in
theorem spec_StreamOf.calls (k : Nat) (a0_0 : Int) (a0_1 : Int) (r1 : List Int) (r2 : List Int) (r3 : Int) (w : World) (h : spec_StreamOf.f k a0_0 a0_1 = some (r1, r2, r3)) :
  Calls Try.prog 26 #[.agg #[.int .i64 a0_0, .int .i64 a0_1]] w fun e w' => ∃ v0_ v1_ : Value, e = .returned (.tuple #[.agg #[v0_, v1_], .int .i64 r3]) ∧ Kd.R (Kd.int .i8) 69 w' w.heap.size (fun k_ => some k_ ≠ (v1_ : Value).ownBlock) v0_ r1 ∧ Kd.R (Kd.int .i8) 69 w' w.heap.size (fun k_ => some k_ ≠ (v0_ : Value).ownBlock) v1_ r2 ∧ Below w.heap.size w w' := by
 have hu24 := Try.underlying24
 have hu34 := Try.underlying34
 have HB := aM26_ (Below.refl w.heap.size w)
 have H : ((spec_l03Ratio.f k a0_0 a0_1).bind fun t129 => (if t129 = true then ((spec_l03Size.f a0_0).bind fun t130 => (if t130 > a0_1 then (some (([] : List Int), ([] : List Int), 2)) else (spec_StreamOf.l0 k (([] : List Int)) (([] : List Int)) a0_0 a0_0 a0_1))) else (some (([] : List Int), ([] : List Int), 1)))) = some (r1, r2, r3) := h
 clear h
 replace H := Option.bind_eq_some_iff.mp H
 obtain ⟨t129, A20, H⟩ := H
 replace H : (if t129 = true then ((spec_l03Size.f a0_0).bind fun t130 => (if t130 > a0_1 then (some (([] : List Int), ([] : List Int), 2)) else (spec_StreamOf.l0 k (([] : List Int)) (([] : List Int)) a0_0 a0_0 a0_1))) else (some (([] : List Int), ([] : List Int), 1))) = some (r1, r2, r3) := H
 have A2 := aM26_ A20
 clear A20
 by_cases c3 : t129 = true
 rotate_left
 ·replace c3 := Bool.eq_false_iff.mpr c3
  subst c3
  have H1 : (some (([] : List Int), ([] : List Int), 1)) = some (r1, r2, r3) := by rw [if_neg (show ¬ (false = true) by decide)] at H; exact H
  clear H
  have H := H1
  clear H1
  simp only [Option.some.injEq, Prod.mk.injEq] at H
  obtain ⟨rfl, rfl, rfl⟩ := H
  go_enter Try.func26, Try.ntmps26
  go_wp2_with (first | ((with_reducible refine gate_dst (N := 1) rfl ?_); refine box_event ?hg (N := 1) ?hd (cs := #[.int .i64 a0_0, .int .i64 a0_1]) (t := 24) ?hr ?_; (case hd => rfl); (case hg => rfl); (case hr => first | (go_simp; done) | (go_simp; rfl)); intro gb127 hg w108 hbox hb; have n0_ := aM26_ (bT26_ q26x24_ hb); have n1_ := aM26_ (hbox); have n2_ := aM26_ ((q26x40_ : w.heap.size ≤ gb127)); have n3_ := aM26_ ((q26x40_ : w.heap.size ≤ gb127)); clear HB; have HB := n0_; have BK127 := n1_; have GW127 := n2_; have GE127 := n3_; clear n0_ n1_ n2_ n3_; clear hb hbox hg) | ((with_reducible refine gate_dst (N := 2) rfl ?_); refine box_event ?hg (N := 2) ?hd (cs := #[.slice none 0 0, .slice none 0 0]) (t := 34) ?hr ?_; (case hd => rfl); (case hg => rfl); (case hr => first | (go_simp; done) | (go_simp; rfl)); intro gb128 hg w109 hbox hb; have n0_ := aM26_ (kB26_ (g := gb127) (o := .cells #[.int .i64 a0_0, .int .i64 a0_1] 24 (0, 0)) q26x2_ hb); have n1_ := aM26_ (bT26_ q26x23_ hb); have n2_ := aM26_ (hbox); have n3_ := aM26_ ((q26x41_ : w.heap.size ≤ gb128)); have n4_ := aM26_ ((q26x41_ : w.heap.size ≤ gb128)); have n5_ := aM26_ ((q26x18_ : gb127 ≠ gb128)); have n6_ := aM26_ ((q26x19_ : gb128 ≠ gb127)); clear BK127; clear HB; have BK127 := n0_; have HB := n1_; have BK128 := n2_; have GW128 := n3_; have GE128 := n4_; have NB127_128 := n5_; have NB128_127 := n6_; clear n0_ n1_ n2_ n3_ n4_ n5_ n6_; clear hb hbox hg) | ((with_reducible refine gate_callee (f := 58) rfl ?_); refine goesL_ (some 10) rfl rfl Try.func58 (by kernel_rfl) rfl #[.pointer (some ⟨gb127, 0, none⟩)] rfl q26x29_ ?_; (with_reducible refine (spec_l03Ratio.calls k gb127 0 a0_0 a0_1 false _ ?side1 A2.out).mono ?_); (case side1 => exact ⟨(kC26_ (g := gb127) (t := 24) (cs := #[.int .i64 a0_0, .int .i64 a0_1]) q26x2_ 0).trans rfl, (kC26_ (g := gb127) (t := 24) (cs := #[.int .i64 a0_0, .int .i64 a0_1]) q26x2_ 1).trans rfl⟩); rintro e w' ⟨rfl, ⟨nd, rfl⟩⟩; refine ⟨_, rfl, ?_⟩; (try (rw [drewN_self w109]; generalize hq_ : World.drewN w109 _ = w109; have n0_ : Aside0 (w109.heap[gb127]? = some (.cells #[.int .i64 a0_0, .int .i64 a0_1] 24 (0, 0))) := ⟨by rw [← hq_]; exact q26x2_⟩; have n1_ : Aside0 (w109.heap[gb128]? = some (.cells #[.slice none 0 0, .slice none 0 0] 34 (0, 0))) := ⟨by rw [← hq_]; exact q26x5_⟩; have n2_ : Aside0 (Below w.heap.size w w109) := ⟨by rw [← hq_]; exact q26x1_⟩; clear BK127 BK128 HB hq_; have BK127 := n0_; have BK128 := n1_; have HB := n2_; clear n0_ n1_ n2_)); have hnb110 := NB128_127.out; have hnc110 := NB127_128.out; have hcz111_0 : w109.cell? ⟨gb128, 0, none⟩ = some (.slice none 0 0) := (kC26_ BK128.out 0).trans rfl; have hcz111_1 : w109.cell? ⟨gb128, 1, none⟩ = some (.slice none 0 0) := (kC26_ BK128.out 1).trans rfl; have hfz111_0 := blk_frozen BK128.out 0; have hfz111_1 := blk_frozen BK128.out 1))
  refine bodyPost_ret (results_ct rfl _ _ gb128 34 #[.slice none 0 0, .slice none 0 0] (0, 0) _ rfl q26x28_ Try.underlying34 rfl (by kernel_rfl)) rfl ?_
  exact ⟨_, _, by first | rfl | (simp [errW_none, errW_some] <;> rfl) | (simp [*, errW_none, errW_some] <;> rfl), by first | exact Kd.R_nil _ _ _ _ _ | exact Kd.N_nil _ _ _ _ _ | exact Kd.V_nil _ _ _ _ _ | exact Kd.Q_nil _ _ _ _ _ | exact Kd.S_nil _ _ _ _ _, by first | exact Kd.R_nil _ _ _ _ _ | exact Kd.N_nil _ _ _ _ _ | exact Kd.V_nil _ _ _ _ _ | exact Kd.Q_nil _ _ _ _ _ | exact Kd.S_nil _ _ _ _ _, by repeat (first | (with_reducible first | exact HB.out | apply below_alloc | apply pw_below_drewN | apply below_drew1 | refine bS26_ ?_ GE127.out | refine bS26_ ?_ GE128.out) | exact HB.out)⟩

 subst c3
 have H1 : ((spec_l03Size.f a0_0).bind fun t130 => (if t130 > a0_1 then (some (([] : List Int), ([] : List Int), 2)) else (spec_StreamOf.l0 k (([] : List Int)) (([] : List Int)) a0_0 a0_0 a0_1))) = some (r1, r2, r3) := by rw [if_pos rfl] at H; exact H
 clear H
 have H := H1
 clear H1
 replace H := Option.bind_eq_some_iff.mp H
 obtain ⟨t130, A40, H⟩ := H
 replace H : (if t130 > a0_1 then (some (([] : List Int), ([] : List Int), 2)) else (spec_StreamOf.l0 k (([] : List Int)) (([] : List Int)) a0_0 a0_0 a0_1)) = some (r1, r2, r3) := H
 have A4 := aM26_ A40
 clear A40
 by_cases c5 : t130 > a0_1
 ·rw [if_pos c5] at H
  have c5b0 : decide (a0_1 < t130) = true := decide_eq_true c5
  clear c5
  simp only [Option.some.injEq, Prod.mk.injEq] at H
  obtain ⟨rfl, rfl, rfl⟩ := H
  go_enter Try.func26, Try.ntmps26
  try go_wp2_with (first | ((with_reducible refine gate_dst (N := 1) rfl ?_); refine box_event ?hg (N := 1) ?hd (cs := #[.int .i64 a0_0, .int .i64 a0_1]) (t := 24) ?hr ?_; (case hd => rfl); (case hg => rfl); (case hr => first | (go_simp; done) | (go_simp; rfl)); intro gb127 hg w6 hbox hb; have n0_ := aM26_ (bT26_ q26x24_ hb); have n1_ := aM26_ (hbox); have n2_ := aM26_ ((q26x40_ : w.heap.size ≤ gb127)); have n3_ := aM26_ ((q26x40_ : w.heap.size ≤ gb127)); clear HB; have HB := n0_; have BK127 := n1_; have GW127 := n2_; have GE127 := n3_; clear n0_ n1_ n2_ n3_; clear hb hbox hg) | ((with_reducible refine gate_dst (N := 2) rfl ?_); refine box_event ?hg (N := 2) ?hd (cs := #[.slice none 0 0, .slice none 0 0]) (t := 34) ?hr ?_; (case hd => rfl); (case hg => rfl); (case hr => first | (go_simp; done) | (go_simp; rfl)); intro gb128 hg w7 hbox hb; have n0_ := aM26_ (kB26_ (g := gb127) (o := .cells #[.int .i64 a0_0, .int .i64 a0_1] 24 (0, 0)) q26x2_ hb); have n1_ := aM26_ (bT26_ q26x23_ hb); have n2_ := aM26_ (hbox); have n3_ := aM26_ ((q26x41_ : w.heap.size ≤ gb128)); have n4_ := aM26_ ((q26x41_ : w.heap.size ≤ gb128)); have n5_ := aM26_ ((q26x18_ : gb127 ≠ gb128)); have n6_ := aM26_ ((q26x19_ : gb128 ≠ gb127)); clear BK127; clear HB; have BK127 := n0_; have HB := n1_; have BK128 := n2_; have GW128 := n3_; have GE128 := n4_; have NB127_128 := n5_; have NB128_127 := n6_; clear n0_ n1_ n2_ n3_ n4_ n5_ n6_; clear hb hbox hg) | ((with_reducible refine gate_callee (f := 58) rfl ?_); refine goesL_ (some 10) rfl rfl Try.func58 (by kernel_rfl) rfl #[.pointer (some ⟨gb127, 0, none⟩)] rfl q26x29_ ?_; (with_reducible refine (spec_l03Ratio.calls k gb127 0 a0_0 a0_1 true _ ?side1 A2.out).mono ?_); (case side1 => exact ⟨(kC26_ (g := gb127) (t := 24) (cs := #[.int .i64 a0_0, .int .i64 a0_1]) q26x2_ 0).trans rfl, (kC26_ (g := gb127) (t := 24) (cs := #[.int .i64 a0_0, .int .i64 a0_1]) q26x2_ 1).trans rfl⟩); rintro e w' ⟨rfl, ⟨nd, rfl⟩⟩; refine ⟨_, rfl, ?_⟩; (try (rw [drewN_self w7]; generalize hq_ : World.drewN w7 _ = w7; have n0_ : Aside0 (w7.heap[gb127]? = some (.cells #[.int .i64 a0_0, .int .i64 a0_1] 24 (0, 0))) := ⟨by rw [← hq_]; exact q26x2_⟩; have n1_ : Aside0 (w7.heap[gb128]? = some (.cells #[.slice none 0 0, .slice none 0 0] 34 (0, 0))) := ⟨by rw [← hq_]; exact q26x5_⟩; have n2_ : Aside0 (Below w.heap.size w w7) := ⟨by rw [← hq_]; exact q26x1_⟩; clear BK127 BK128 HB hq_; have BK127 := n0_; have BK128 := n1_; have HB := n2_; clear n0_ n1_ n2_))))
  have n0_ := aM26_ (kD26_ BK127.out)
  have n1_ := aM26_ (kD26_ BK128.out)
  have n2_ := aM26_ (below_drew1 HB.out)
  clear BK127 BK128 HB
  have BK127 := n0_
  have BK128 := n1_
  have HB := n2_
  clear n0_ n1_ n2_
  refine start_ (n := 6) (S := fun w' => w'.cell? ⟨gb127, 0, none⟩ = some (.int .i64 a0_0) ∧ w'.cell? ⟨gb127, 1, none⟩ = some (.int .i64 a0_1)) (ds := []) #[false, false, false, false, false, false] (by kernel_rfl) rfl rfl ⟨(kC26_ BK127.out 0).trans rfl, (kC26_ BK127.out 1).trans rfl⟩ (fun hHeld => ?_)
  generalize w7.drew = w8 at BK127 BK128 HB hHeld ⊢
  refine pure_ (i := 0) (N := some 13) (v := ?_) (a' := ?_) #[true, false, false, false, false, false] rfl rfl (by kernel_rfl) (fun _ _ _ h => h) (Or.inl ⟨by rfl, ?_⟩) ?_ ?_
  rotate_left
  ·exact q26x42_
  rotate_left
  ·exact q26x43_
  refine pure_ (i := 3) (N := some 16) (v := ?_) (a' := ?_) #[true, false, false, true, false, false] rfl rfl (by kernel_rfl) (fun _ _ _ h => h) (Or.inl ⟨by rfl, ?_⟩) ?_ ?_
  rotate_left
  ·exact q26x42_
  rotate_left
  ·exact q26x43_
  refine take_ (i := 1) (N := some 14) (v := ?_) (a' := ?_) #[true, true, false, true, false, false] rfl rfl (by kernel_rfl) (fun _ _ _ h => h) (Or.inl ⟨by rfl, ?_⟩) hHeld ?_ ?_
  rotate_left
  ·rintro w' ⟨s0, s1⟩
   go_simp
   with_reducible rfl
  rotate_left
  ·exact q26x43_
  refine take_ (i := 4) (N := some 17) (v := ?_) (a' := ?_) #[true, true, false, true, true, false] rfl rfl (by kernel_rfl) (fun _ _ _ h => h) (Or.inl ⟨by rfl, ?_⟩) hHeld ?_ ?_
  rotate_left
  ·rintro w' ⟨s0, s1⟩
   go_simp
   with_reducible rfl
  rotate_left
  ·exact q26x43_
  refine one_ (i := 2) (N := some 15) #[true, true, true, true, true, false] rfl rfl (by kernel_rfl) (by decide) (fun K hK => ?_)
  refine goes_ Try.func59 (by kernel_rfl) rfl #[.int .i64 a0_0] (by rfl) rfl rfl q26x29_ ?_
  with_reducible refine (spec_l03Size.calls a0_0 t130 _ A4.out).mono ?_
  rintro e w' ⟨rfl, ⟨nd, rfl⟩⟩
  refine ⟨_, rfl, ?_⟩
  refine hK.out _ _ ⟨(kC26_ BK127.out 0).trans rfl, (kC26_ BK127.out 1).trans rfl⟩ (fun hHeld => ?_)
  clear hK K
  refine norm_ (a' := ?_) ?_ ?_
  rotate_left
  ·show Act.put _ (some 15) _ = _
   simp only [Act.put, List.setIfInBounds_toArray, List.set_cons_zero, List.set_cons_succ, i64_w, i32_w]
   rfl
  refine pure_ (i := 5) (N := some 18) (v := ?_) (a' := ?_) #[true, true, true, true, true, true] rfl rfl (by kernel_rfl) (fun _ _ _ h => h) (Or.inl ⟨by rfl, ?_⟩) ?_ ?_
  rotate_left
  ·exact q26x42_
  rotate_left
  ·exact q26x43_
  refine done_ (by kernel_rfl) ?_
  have hnb9 := NB128_127.out
  have hnc9 := NB127_128.out
  have hcz10_0 : w8.cell? ⟨gb128, 0, none⟩ = some (.slice none 0 0) := (kC26_ BK128.out 0).trans rfl
  have hcz10_1 : w8.cell? ⟨gb128, 1, none⟩ = some (.slice none 0 0) := (kC26_ BK128.out 1).trans rfl
  have hfz10_0 := blk_frozen BK128.out 0
  have hfz10_1 := blk_frozen BK128.out 1
  try go_wp2
  refine bodyPost_ret (results_ct rfl _ _ gb128 34 #[.slice none 0 0, .slice none 0 0] (0, 0) _ rfl q26x28_ Try.underlying34 rfl (by kernel_rfl)) rfl ?_
  exact ⟨_, _, by first | rfl | (simp [errW_none, errW_some] <;> rfl) | (simp [*, errW_none, errW_some] <;> rfl), by first | exact Kd.R_nil _ _ _ _ _ | exact Kd.N_nil _ _ _ _ _ | exact Kd.V_nil _ _ _ _ _ | exact Kd.Q_nil _ _ _ _ _ | exact Kd.S_nil _ _ _ _ _, by first | exact Kd.R_nil _ _ _ _ _ | exact Kd.N_nil _ _ _ _ _ | exact Kd.V_nil _ _ _ _ _ | exact Kd.Q_nil _ _ _ _ _ | exact Kd.S_nil _ _ _ _ _, by repeat (first | (with_reducible first | exact HB.out | apply below_alloc | apply pw_below_drewN | apply below_drew1 | refine bS26_ ?_ GE127.out | refine bS26_ ?_ GE128.out) | exact HB.out)⟩
 rw [if_neg c5] at H
 have c5b0 : decide (a0_1 < t130) = false := decide_eq_false c5
 clear c5
 obtain ⟨y131, hy131⟩ : ∃ y_ : List Int, y_ = (([] : List Int)) := ⟨_, rfl⟩
 replace H : (spec_StreamOf.l0 k y131 (([] : List Int)) a0_0 a0_0 a0_1) = some (r1, r2, r3) := by first | (rw [hy131]; with_reducible exact H) | (have H2_ := (Option.bind_some _ _).symm.trans H; rw [hy131]; with_reducible exact H2_) | (have H2_ := (Option.bind_some _ _).symm.trans H; with_reducible exact H2_) | with_reducible exact H | (rw [hy131]; exact H) | exact H
 have Ny131 := aM26_ hy131
 clear hy131
 obtain ⟨y134, hy134⟩ : ∃ y_ : List Int, y_ = (([] : List Int)) := ⟨_, rfl⟩
 replace H : (spec_StreamOf.l0 k y131 y134 a0_0 a0_0 a0_1) = some (r1, r2, r3) := by first | (rw [hy134]; with_reducible exact H) | (have H2_ := (Option.bind_some _ _).symm.trans H; rw [hy134]; with_reducible exact H2_) | (have H2_ := (Option.bind_some _ _).symm.trans H; with_reducible exact H2_) | with_reducible exact H | (rw [hy134]; exact H) | exact H
 have Ny134 := aM26_ hy134
 clear hy134
 have H' := aM26_ H
 clear H
 go_enter Try.func26, Try.ntmps26
 try go_wp2_with (first | ((with_reducible refine gate_dst (N := 1) rfl ?_); refine box_event ?hg (N := 1) ?hd (cs := #[.int .i64 a0_0, .int .i64 a0_1]) (t := 24) ?hr ?_; (case hd => rfl); (case hg => rfl); (case hr => first | (go_simp; done) | (go_simp; rfl)); intro gb127 hg w11 hbox hb; have n0_ := aM26_ (bT26_ q26x24_ hb); have n1_ := aM26_ (hbox); have n2_ := aM26_ ((q26x40_ : w.heap.size ≤ gb127)); have n3_ := aM26_ ((q26x40_ : w.heap.size ≤ gb127)); clear HB; have HB := n0_; have BK127 := n1_; have GW127 := n2_; have GE127 := n3_; clear n0_ n1_ n2_ n3_; clear hb hbox hg) | ((with_reducible refine gate_dst (N := 2) rfl ?_); refine box_event ?hg (N := 2) ?hd (cs := #[.slice none 0 0, .slice none 0 0]) (t := 34) ?hr ?_; (case hd => rfl); (case hg => rfl); (case hr => first | (go_simp; done) | (go_simp; rfl)); intro gb128 hg w12 hbox hb; have n0_ := aM26_ (kB26_ (g := gb127) (o := .cells #[.int .i64 a0_0, .int .i64 a0_1] 24 (0, 0)) q26x2_ hb); have n1_ := aM26_ (bT26_ q26x23_ hb); have n2_ := aM26_ (hbox); have n3_ := aM26_ ((q26x41_ : w.heap.size ≤ gb128)); have n4_ := aM26_ ((q26x41_ : w.heap.size ≤ gb128)); have n5_ := aM26_ ((q26x18_ : gb127 ≠ gb128)); have n6_ := aM26_ ((q26x19_ : gb128 ≠ gb127)); clear BK127; clear HB; have BK127 := n0_; have HB := n1_; have BK128 := n2_; have GW128 := n3_; have GE128 := n4_; have NB127_128 := n5_; have NB128_127 := n6_; clear n0_ n1_ n2_ n3_ n4_ n5_ n6_; clear hb hbox hg) | ((with_reducible refine gate_callee (f := 58) rfl ?_); refine goesL_ (some 10) rfl rfl Try.func58 (by kernel_rfl) rfl #[.pointer (some ⟨gb127, 0, none⟩)] rfl q26x29_ ?_; (with_reducible refine (spec_l03Ratio.calls k gb127 0 a0_0 a0_1 true _ ?side1 A2.out).mono ?_); (case side1 => exact ⟨(kC26_ (g := gb127) (t := 24) (cs := #[.int .i64 a0_0, .int .i64 a0_1]) q26x2_ 0).trans rfl, (kC26_ (g := gb127) (t := 24) (cs := #[.int .i64 a0_0, .int .i64 a0_1]) q26x2_ 1).trans rfl⟩); rintro e w' ⟨rfl, ⟨nd, rfl⟩⟩; refine ⟨_, rfl, ?_⟩))
 (try (rw [drewN_self w12]; generalize hq_ : World.drewN w12 _ = w12; have n0_ : Aside0 (w12.heap[gb127]? = some (.cells #[.int .i64 a0_0, .int .i64 a0_1] 24 (0, 0))) := ⟨by rw [← hq_]; exact q26x2_⟩; have n1_ : Aside0 (w12.heap[gb128]? = some (.cells #[.slice none 0 0, .slice none 0 0] 34 (0, 0))) := ⟨by rw [← hq_]; exact q26x5_⟩; have n2_ : Aside0 (Below w.heap.size w w12) := ⟨by rw [← hq_]; exact q26x1_⟩; clear BK127 BK128 HB hq_; have BK127 := n0_; have BK128 := n1_; have HB := n2_; clear n0_ n1_ n2_))
 have n0_ := aM26_ (kD26_ BK127.out)
 have n1_ := aM26_ (kD26_ BK128.out)
 have n2_ := aM26_ (below_drew1 HB.out)
 clear BK127 BK128 HB
 have BK127 := n0_
 have BK128 := n1_
 have HB := n2_
 clear n0_ n1_ n2_
 refine start_ (n := 6) (S := fun w' => w'.cell? ⟨gb127, 0, none⟩ = some (.int .i64 a0_0) ∧ w'.cell? ⟨gb127, 1, none⟩ = some (.int .i64 a0_1)) (ds := []) #[false, false, false, false, false, false] (by kernel_rfl) rfl rfl ⟨(kC26_ BK127.out 0).trans rfl, (kC26_ BK127.out 1).trans rfl⟩ (fun hHeld => ?_)
 generalize w12.drew = w13 at BK127 BK128 HB hHeld ⊢
 refine pure_ (i := 0) (N := some 13) (v := ?_) (a' := ?_) #[true, false, false, false, false, false] rfl rfl (by kernel_rfl) (fun _ _ _ h => h) (Or.inl ⟨by rfl, ?_⟩) ?_ ?_
 rotate_left
 ·exact q26x42_
 rotate_left
 ·exact q26x43_
 refine pure_ (i := 3) (N := some 16) (v := ?_) (a' := ?_) #[true, false, false, true, false, false] rfl rfl (by kernel_rfl) (fun _ _ _ h => h) (Or.inl ⟨by rfl, ?_⟩) ?_ ?_
 rotate_left
 ·exact q26x42_
 rotate_left
 ·exact q26x43_
 refine take_ (i := 1) (N := some 14) (v := ?_) (a' := ?_) #[true, true, false, true, false, false] rfl rfl (by kernel_rfl) (fun _ _ _ h => h) (Or.inl ⟨by rfl, ?_⟩) hHeld ?_ ?_
 rotate_left
 ·rintro w' ⟨s0, s1⟩
  go_simp
  with_reducible rfl
 rotate_left
 ·exact q26x43_
 refine take_ (i := 4) (N := some 17) (v := ?_) (a' := ?_) #[true, true, false, true, true, false] rfl rfl (by kernel_rfl) (fun _ _ _ h => h) (Or.inl ⟨by rfl, ?_⟩) hHeld ?_ ?_
 rotate_left
 ·rintro w' ⟨s0, s1⟩
  go_simp
  with_reducible rfl
 rotate_left
 ·exact q26x43_
 refine one_ (i := 2) (N := some 15) #[true, true, true, true, true, false] rfl rfl (by kernel_rfl) (by decide) (fun K hK => ?_)
 refine goes_ Try.func59 (by kernel_rfl) rfl #[.int .i64 a0_0] (by rfl) rfl rfl q26x29_ ?_
 with_reducible refine (spec_l03Size.calls a0_0 t130 _ A4.out).mono ?_
 rintro e w' ⟨rfl, ⟨nd, rfl⟩⟩
 refine ⟨_, rfl, ?_⟩
 refine hK.out _ _ ⟨(kC26_ BK127.out 0).trans rfl, (kC26_ BK127.out 1).trans rfl⟩ (fun hHeld => ?_)
 clear hK K
 refine norm_ (a' := ?_) ?_ ?_
 rotate_left
 ·show Act.put _ (some 15) _ = _
  simp only [Act.put, List.setIfInBounds_toArray, List.set_cons_zero, List.set_cons_succ, i64_w, i32_w]
  rfl
 refine pure_ (i := 5) (N := some 18) (v := ?_) (a' := ?_) #[true, true, true, true, true, true] rfl rfl (by kernel_rfl) (fun _ _ _ h => h) (Or.inl ⟨by rfl, ?_⟩) ?_ ?_
 rotate_left
 ·exact q26x42_
 rotate_left
 ·exact q26x43_
 refine done_ (by kernel_rfl) ?_
 try go_wp2_with (first | ((with_reducible refine gate_dst (N := 20) rfl ?_); refine Kd.R_lit (Kd.int .i64) _ 2 ?hg (N := 20) ?hd (xs := ([] : List Int)) (inner := []) (ok := fun _ => True) (okp := fun _ => True) ?hr ?hp (fun _ hk => hk) trivial (Below.refl _ _) (Nat.le_refl _) (by simp) ?_; (case hd => rfl); (case hg => rfl); (case hr => first | (go_simp; done) | (go_simp; rfl)); (case hp => exact (Reps.none _ _)); intro v132 w14 ho15 hb hg_ hnew_; clear hg_ hnew_; (first | rw [← Ny131.out] at ho15 | (simp only [Int.reduceToNat] at ho15; rw [← Ny131.out] at ho15)); have n0_ := aM26_ (Kd.R_lower ho15 (bZ26_ q26x1_)); have n1_ := aM26_ (kB26_ (g := gb127) (o := .cells #[.int .i64 a0_0, .int .i64 a0_1] 24 (0, 0)) q26x2_ hb); have n2_ := aM26_ (kB26_ (g := gb128) (o := .cells #[.slice none 0 0, .slice none 0 0] 34 (0, 0)) q26x5_ hb); have n3_ := aM26_ (bT26_ q26x1_ hb); clear BK127; clear BK128; clear HB; have HO133 := n0_; have BK127 := n1_; have BK128 := n2_; have HB := n3_; clear n0_ n1_ n2_ n3_; clear hb ho15) | ((with_reducible refine gate_dst (N := 21) rfl ?_); refine Kd.R_lit (Kd.int .i8) _ 69 ?hg (N := 21) ?hd (xs := ([] : List Int)) (inner := []) (ok := fun _ => True) (okp := fun _ => True) ?hr ?hp (fun _ hk => hk) trivial (Below.refl _ _) (Nat.le_refl _) (by simp) ?_; (case hd => rfl); (case hg => rfl); (case hr => first | (go_simp; done) | (go_simp; rfl)); (case hp => exact (Reps.none _ _)); intro v135 w16 ho17 hb hg_ hnew_; clear hg_ hnew_; (first | rw [← Ny134.out] at ho17 | (simp only [Int.reduceToNat] at ho17; rw [← Ny134.out] at ho17)); have n0_ := aM26_ (rB26_ (by (with_reducible repeat (first | apply rA26_ | apply rN26_ | apply rD26_)); exact HO133.out) hb); have n1_ := aM26_ (Kd.R_lower ho17 (bZ26_ q26x1_)); have n2_ := aM26_ (kB26_ (g := gb127) (o := .cells #[.int .i64 a0_0, .int .i64 a0_1] 24 (0, 0)) q26x2_ hb); have n3_ := aM26_ (kB26_ (g := gb128) (o := .cells #[.slice none 0 0, .slice none 0 0] 34 (0, 0)) q26x5_ hb); have n4_ := aM26_ (bT26_ q26x1_ hb); clear HO133; clear BK127; clear BK128; clear HB; have HO133 := n0_; have HO136 := n1_; have BK127 := n2_; have BK128 := n3_; have HB := n4_; clear n0_ n1_ n2_ n3_ n4_; clear hb ho17; have hnb18 := NB127_128.out; have hnc18 := NB128_127.out; have hcz19_0 : w16.cell? ⟨gb127, 0, none⟩ = some (.int .i64 a0_0) := (kC26_ BK127.out 0).trans rfl; have hcz19_1 : w16.cell? ⟨gb127, 1, none⟩ = some (.int .i64 a0_1) := (kC26_ BK127.out 1).trans rfl; have hfz19_0 := blk_frozen BK127.out 0; have hfz19_1 := blk_frozen BK127.out 1))
 go_loopg [4, 5, 6] k (fun kq v4 v5 v6 w' => ∃ (x4_1 : List Int) (x5_1 : List Int) (x6_1 : Int), v6 = .int .i64 x6_1 ∧ Aside0 (spec_StreamOf.l0 kq x4_1 x5_1 x6_1 a0_0 a0_1 = some (r1, r2, r3)) ∧ Aside0 (kq ≤ k) ∧ Aside0 (Kd.R (Kd.int .i64) 2 w' w.heap.size (fun _ => True) v4 x4_1) ∧ Aside0 (Kd.R (Kd.int .i8) 69 w' w.heap.size (fun _ => True) v5 x5_1) ∧ Aside0 (w'.heap[gb127]? = some (.cells #[.int .i64 a0_0, .int .i64 a0_1] 24 (0, 0))) ∧ Aside0 (w'.heap[gb128]? = some (.cells #[(.slice none 0 0), (.slice none 0 0)] 34 (0, 0))) ∧ Aside0 (Below w.heap.size w w'))
 case atStart => exact ⟨(y131), (y134), (a0_0), q26x39_, H', ⟨Nat.le_refl _⟩, ⟨by (with_reducible repeat (first | apply rA26_ | apply rN26_ | apply rD26_)); exact HO133.out⟩, ⟨by (with_reducible repeat (first | apply rA26_ | apply rN26_ | apply rD26_)); exact HO136.out⟩, ⟨by (with_reducible repeat (first | refine kN26_ ?_ _ | refine kD26_ ?_ | refine kA26_ ?_ _)); exact BK127.out⟩, ⟨by (with_reducible repeat (first | refine kN26_ ?_ _ | refine kD26_ ?_ | refine kA26_ ?_ _)); exact BK128.out⟩, ⟨by repeat (first | (with_reducible first | exact HB.out | apply below_alloc | apply pw_below_drewN | apply below_drew1 | refine bS26_ ?_ GE127.out | refine bS26_ ?_ GE128.out) | exact HB.out)⟩⟩
 case round =>
  clear H'
  try clear c1
  try clear c2
  try clear p2
  try clear c3
  try clear c5
  try clear c5b0
  try clear c9
  try clear c18
  try clear hcz10_0
  try clear hcz10_1
  try clear hcz19_0
  try clear hcz19_1
  try clear hfz10_0
  try clear hfz10_1
  try clear hfz19_0
  try clear hfz19_1
  obtain ⟨x4_1, x5_1, x6_1, rfl, HA, HK1, HO_4, HO_5, BK127, BK128, HB⟩ := hrel
  cases gk with
  | zero => exact absurd HA.out (by simp [spec_StreamOf.l0])
  | succ k1 =>
   have H := HA.out
   clear HA
   simp only [spec_StreamOf.l0] at H
   by_cases c20 : (x4_1.length : Int) ≤ 30
   rotate_left
   ·rw [if_neg c20] at H
    have c20b0 : decide ((x4_1.length : Int) ≤ 30) = false := decide_eq_false c20
    have c20b1 : decide (x4_1.length ≤ 30) = false := decide_eq_false (by omega)
    clear c20
    simp only [Option.some.injEq, Prod.mk.injEq] at H
    obtain ⟨rfl, rfl, rfl⟩ := H
    obtain ⟨Ao105, co105, eo105⟩ := Kd.R_slice HO_4.out
    subst eo105
    have hnb106 := NB128_127.out
    have hnc106 := NB127_128.out
    have hcz107_0 : wr.cell? ⟨gb128, 0, none⟩ = some (.slice none 0 0) := (kC26_ BK128.out 0).trans rfl
    have hcz107_1 : wr.cell? ⟨gb128, 1, none⟩ = some (.slice none 0 0) := (kC26_ BK128.out 1).trans rfl
    have hfz107_0 := blk_frozen BK128.out 0
    have hfz107_1 := blk_frozen BK128.out 1
    go_wp2
    refine bodyPost_ret (results_ct rfl _ _ gb128 34 #[.slice none 0 0, .slice none 0 0] (0, 0) _ rfl q26x28_ Try.underlying34 rfl (by kernel_rfl)) rfl ?_
    exact ⟨_, _, by first | rfl | (simp [errW_none, errW_some] <;> rfl) | (simp [*, errW_none, errW_some] <;> rfl), by first | exact Kd.R_nil _ _ _ _ _ | exact Kd.N_nil _ _ _ _ _ | exact Kd.V_nil _ _ _ _ _ | exact Kd.Q_nil _ _ _ _ _ | exact Kd.S_nil _ _ _ _ _, by first | exact Kd.R_nil _ _ _ _ _ | exact Kd.N_nil _ _ _ _ _ | exact Kd.V_nil _ _ _ _ _ | exact Kd.Q_nil _ _ _ _ _ | exact Kd.S_nil _ _ _ _ _, by repeat (first | (with_reducible first | exact HB.out | apply below_alloc | apply pw_below_drewN | apply below_drew1 | refine bS26_ ?_ GE127.out | refine bS26_ ?_ GE128.out) | exact HB.out)⟩
   rw [if_pos c20] at H
   have c20b0 : decide ((x4_1.length : Int) ≤ 30) = true := decide_eq_true c20
   have c20b1 : decide (x4_1.length ≤ 30) = true := decide_eq_true (by omega)
   clear c20
   have H' := aM26_ H
   clear H
   obtain ⟨Ao21, co21, eo21⟩ := Kd.R_slice HO_4.out
   subst eo21
   go_wp2
   go_loopg [7] k1 (fun kq v7 w' => ∃ (x7_2 : Int), v7 = .int .i64 x7_2 ∧ Aside0 (spec_StreamOf.l1 kq x4_1 x5_1 x6_1 x7_2 a0_0 a0_1 = some (r1, r2, r3)) ∧ Aside0 (kq ≤ k1) ∧ Aside0 (Kd.R (Kd.int .i64) 2 w' w.heap.size (fun _ => True) (.slice Ao21 x4_1.length co21) x4_1) ∧ Aside0 (Kd.R (Kd.int .i8) 69 w' w.heap.size (fun _ => True) u5 x5_1) ∧ Aside0 (w'.heap[gb127]? = some (.cells #[.int .i64 a0_0, .int .i64 a0_1] 24 (0, 0))) ∧ Aside0 (w'.heap[gb128]? = some (.cells #[(.slice none 0 0), (.slice none 0 0)] 34 (0, 0))) ∧ Aside0 (Below w.heap.size w w'))
   case atStart => exact ⟨(0), q26x39_, H', ⟨Nat.le_refl _⟩, ⟨by (with_reducible repeat (first | apply rA26_ | apply rN26_ | apply rD26_)); exact HO_4.out⟩, ⟨by (with_reducible repeat (first | apply rA26_ | apply rN26_ | apply rD26_)); exact HO_5.out⟩, ⟨by (with_reducible repeat (first | refine kN26_ ?_ _ | refine kD26_ ?_ | refine kA26_ ?_ _)); exact BK127.out⟩, ⟨by (with_reducible repeat (first | refine kN26_ ?_ _ | refine kD26_ ?_ | refine kA26_ ?_ _)); exact BK128.out⟩, ⟨by repeat (first | (with_reducible first | exact HB.out | apply below_alloc | apply pw_below_drewN | apply below_drew1 | refine bS26_ ?_ GE127.out | refine bS26_ ?_ GE128.out) | exact HB.out)⟩⟩
   case round =>
    clear H'
    try clear c1
    try clear c2
    try clear p2
    try clear c3
    try clear c5
    try clear c5b0
    try clear c9
    try clear c18
    try clear c20
    try clear c20b0
    try clear c20b1
    try clear hcz10_0
    try clear hcz10_1
    try clear hcz19_0
    try clear hcz19_1
    try clear hfz10_0
    try clear hfz10_1
    try clear hfz19_0
    try clear hfz19_1
    try clear p2
    obtain ⟨x7_2, rfl, HA, HK2, HO_4, HO_5, BK127, BK128, HB⟩ := hrel
    cases gk with
    | zero => exact absurd HA.out (by simp [spec_StreamOf.l1])
    | succ k2 =>
     have H := HA.out
     clear HA
     simp only [spec_StreamOf.l1] at H
     by_cases c22 : x7_2 < (x4_1.length : Int)
     rotate_left
     ·rw [if_neg c22] at H
      have c22b0 : decide (x7_2 < (x4_1.length : Int)) = false := decide_eq_false c22
      clear c22
      by_cases c77 : x4_1.length < 17592186044416
      rotate_left
      ·rw [if_neg c77] at H
       exact absurd H (by simp)
      rw [if_pos c77] at H
      have LMc77 := aM26_ c77
      clear c77
      obtain ⟨y160, hy160⟩ : ∃ y_ : List Int, y_ = (x4_1 ++ [x6_1]) := ⟨_, rfl⟩
      replace H : (if (wrap64 (2 * x6_1)) ≥ a0_1 then (if (wrap64 (2 * x6_1)) ≤ (wrap64 (-a0_1)) then (if x5_1.length < 140737488355328 then (spec_StreamOf.l0 k2 y160 (x5_1 ++ [(-1)]) (wrap64 ((wrap64 (2 * x6_1)) - (wrap64 ((-1) * a0_1)))) a0_0 a0_1) else (none)) else (if x5_1.length < 140737488355328 then (spec_StreamOf.l0 k2 y160 (x5_1 ++ [1]) (wrap64 ((wrap64 (2 * x6_1)) - (wrap64 (1 * a0_1)))) a0_0 a0_1) else (none))) else (if (wrap64 (2 * x6_1)) ≤ (wrap64 (-a0_1)) then (if x5_1.length < 140737488355328 then (spec_StreamOf.l0 k2 y160 (x5_1 ++ [(-1)]) (wrap64 ((wrap64 (2 * x6_1)) - (wrap64 ((-1) * a0_1)))) a0_0 a0_1) else (none)) else (if x5_1.length < 140737488355328 then (spec_StreamOf.l0 k2 y160 (x5_1 ++ [0]) (wrap64 ((wrap64 (2 * x6_1)) - (wrap64 (0 * a0_1)))) a0_0 a0_1) else (none)))) = some (r1, r2, r3) := by first | (rw [hy160]; with_reducible exact H) | (have H2_ := (Option.bind_some _ _).symm.trans H; rw [hy160]; with_reducible exact H2_) | (have H2_ := (Option.bind_some _ _).symm.trans H; with_reducible exact H2_) | with_reducible exact H | (rw [hy160]; exact H) | exact H
      have Ny160 := aM26_ hy160
      clear hy160
      by_cases c78 : (wrap64 (2 * x6_1)) ≥ a0_1
      ·rw [if_pos c78] at H
       have c78b0 : decide (a0_1 ≤ (wrap64 (2 * x6_1))) = true := decide_eq_true c78
       clear c78
       by_cases c79 : (wrap64 (2 * x6_1)) ≤ (wrap64 (-a0_1))
       ·rw [if_pos c79] at H
        have c79b0 : decide ((wrap64 (2 * x6_1)) ≤ (wrap64 (-a0_1))) = true := decide_eq_true c79
        clear c79
        by_cases c80 : x5_1.length < 140737488355328
        rotate_left
        ·rw [if_neg c80] at H
         exact absurd H (by simp)
        rw [if_pos c80] at H
        have LMc80 := aM26_ c80
        clear c80
        obtain ⟨y163, hy163⟩ : ∃ y_ : List Int, y_ = (x5_1 ++ [(-1)]) := ⟨_, rfl⟩
        replace H : (spec_StreamOf.l0 k2 y160 y163 (wrap64 ((wrap64 (2 * x6_1)) - (wrap64 ((-1) * a0_1)))) a0_0 a0_1) = some (r1, r2, r3) := by first | (rw [hy163]; with_reducible exact H) | (have H2_ := (Option.bind_some _ _).symm.trans H; rw [hy163]; with_reducible exact H2_) | (have H2_ := (Option.bind_some _ _).symm.trans H; with_reducible exact H2_) | with_reducible exact H | (rw [hy163]; exact H) | exact H
        have Ny163 := aM26_ hy163
        clear hy163
        have H' := aM26_ H
        clear H
        go_wp2_with (first | ((with_reducible refine gate_builtin (b := .append) (xs := #[.tmp 54, .tmp 56]) rfl ?_); at_builtin; refine Kd.R_append (Kd.int .i64) (w0 := w) w.heap.size rfl (.tmp 54) (.tmp 56) 80 2 (.int .i64 0) 8 rfl Try.underlying80 info2 rfl (by decide) (by omega) (.slice Ao21 x4_1.length co21) x4_1 x6_1 [.int .i64 x6_1] (fun _ => True) (fun _ => False) rfl rfl ?aP (fun _ hk => hk.elim) ?aF ?aO ?aB ?aS ?aL ?_; (case aP => exact rfl); (case aB => exact q26x1_); (case aF => exact (fun _ _ => trivial)); (case aO => exact q26x8_); (case aS => exact (bZ26_ q26x1_)); (case aL => have := LMc77.out; omega); intro v161 w81 ho hb hg hat; rw [← Ny160.out] at ho; have n0_ := aM26_ (Kd.R_over' q26x7_ (Kd.R_typed q26x8_) (by decide) hg); have n1_ := aM26_ (kG26_ (g := gb127) (o := .cells #[.int .i64 a0_0, .int .i64 a0_1] 24 (0, 0)) q26x2_ hg (Kd.R_ne HO_4.out BK127.out (by decide))); have n2_ := aM26_ (kG26_ (g := gb128) (o := .cells #[.slice none 0 0, .slice none 0 0] 34 (0, 0)) q26x5_ hg (Kd.R_ne HO_4.out BK128.out (by decide))); have n3_ := aM26_ (hb); have n4_ := aM26_ (ho); clear HO_5; clear BK127; clear BK128; clear HB; clear HO_4; have HO_5 := n0_; have BK127 := n1_; have BK128 := n2_; have HB := n3_; have HO162 := n4_; clear n0_ n1_ n2_ n3_ n4_; clear ho hb hg hat; have hnb82 := NB127_128.out; have hnc82 := NB128_127.out; have hcz83_0 : w81.cell? ⟨gb127, 0, none⟩ = some (.int .i64 a0_0) := (kC26_ BK127.out 0).trans rfl; have hcz83_1 : w81.cell? ⟨gb127, 1, none⟩ = some (.int .i64 a0_1) := (kC26_ BK127.out 1).trans rfl; have hfz83_0 := blk_frozen BK127.out 0; have hfz83_1 := blk_frozen BK127.out 1) | ((with_reducible refine gate_builtin (b := .append) (xs := #[.tmp 69, .tmp 72]) rfl ?_); at_builtin; refine Kd.R_append (Kd.int .i8) (w0 := w) w.heap.size rfl (.tmp 69) (.tmp 72) 22 69 (.int .i8 0) 1 rfl Try.underlying22 info69 rfl (by decide) (by omega) u5 x5_1 (-1) [.int .i8 (-1)] (fun _ => True) (fun _ => False) rfl rfl ?aP (fun _ hk => hk.elim) ?aF ?aO ?aB ?aS ?aL ?_; (case aP => exact rfl); (case aB => exact q26x1_); (case aF => exact (fun _ _ => trivial)); (case aO => exact q26x7_); (case aS => exact (bZ26_ q26x1_)); (case aL => have := LMc80.out; omega); intro v164 w84 ho hb hg hat; rw [← Ny163.out] at ho; have n0_ := aM26_ (kG26_ (g := gb127) (o := .cells #[.int .i64 a0_0, .int .i64 a0_1] 24 (0, 0)) q26x2_ hg (Kd.R_ne HO_5.out BK127.out (by decide))); have n1_ := aM26_ (kG26_ (g := gb128) (o := .cells #[.slice none 0 0, .slice none 0 0] 34 (0, 0)) q26x5_ hg (Kd.R_ne HO_5.out BK128.out (by decide))); have n2_ := aM26_ (Kd.R_over' q26x37_ (Kd.R_typed q26x7_) (by decide) hg); have n3_ := aM26_ (hb); have n4_ := aM26_ (ho); clear BK127; clear BK128; clear HO162; clear HB; clear HO_5; have BK127 := n0_; have BK128 := n1_; have HO162 := n2_; have HB := n3_; have HO165 := n4_; clear n0_ n1_ n2_ n3_ n4_; clear ho hb hg hat; have hcz85_0 : w84.cell? ⟨gb127, 0, none⟩ = some (.int .i64 a0_0) := (kC26_ BK127.out 0).trans rfl; have hcz85_1 : w84.cell? ⟨gb127, 1, none⟩ = some (.int .i64 a0_1) := (kC26_ BK127.out 1).trans rfl; have hfz85_0 := blk_frozen BK127.out 0; have hfz85_1 := blk_frozen BK127.out 1))
        go_roundg k2
        case measure => have := HK1.out; have := HK2.out; omega
        case rel => exact ⟨(y160), (y163), (wrap64 ((wrap64 (2 * x6_1)) - (wrap64 ((-1) * a0_1)))), q26x39_, H', ⟨by have := HK1.out; have := HK2.out; omega⟩, ⟨by (with_reducible repeat (first | apply rA26_ | apply rN26_ | apply rD26_)); exact HO162.out⟩, ⟨by (with_reducible repeat (first | apply rA26_ | apply rN26_ | apply rD26_)); exact HO165.out⟩, ⟨by (with_reducible repeat (first | refine kN26_ ?_ _ | refine kD26_ ?_ | refine kA26_ ?_ _)); exact BK127.out⟩, ⟨by (with_reducible repeat (first | refine kN26_ ?_ _ | refine kD26_ ?_ | refine kA26_ ?_ _)); exact BK128.out⟩, ⟨by repeat (first | (with_reducible first | exact HB.out | apply below_alloc | apply pw_below_drewN | apply below_drew1 | refine bS26_ ?_ GE127.out | refine bS26_ ?_ GE128.out) | exact HB.out)⟩⟩
       rw [if_neg c79] at H
       have c79b0 : decide ((wrap64 (2 * x6_1)) ≤ (wrap64 (-a0_1))) = false := decide_eq_false c79
       clear c79
       by_cases c86 : x5_1.length < 140737488355328
       rotate_left
       ·rw [if_neg c86] at H
        exact absurd H (by simp)
       rw [if_pos c86] at H
       have LMc86 := aM26_ c86
       clear c86
       obtain ⟨y166, hy166⟩ : ∃ y_ : List Int, y_ = (x5_1 ++ [1]) := ⟨_, rfl⟩
       replace H : (spec_StreamOf.l0 k2 y160 y166 (wrap64 ((wrap64 (2 * x6_1)) - (wrap64 (1 * a0_1)))) a0_0 a0_1) = some (r1, r2, r3) := by first | (rw [hy166]; with_reducible exact H) | (have H2_ := (Option.bind_some _ _).symm.trans H; rw [hy166]; with_reducible exact H2_) | (have H2_ := (Option.bind_some _ _).symm.trans H; with_reducible exact H2_) | with_reducible exact H | (rw [hy166]; exact H) | exact H
       have Ny166 := aM26_ hy166
       clear hy166
       have H' := aM26_ H
       clear H
       go_wp2_with (first | ((with_reducible refine gate_builtin (b := .append) (xs := #[.tmp 54, .tmp 56]) rfl ?_); at_builtin; refine Kd.R_append (Kd.int .i64) (w0 := w) w.heap.size rfl (.tmp 54) (.tmp 56) 80 2 (.int .i64 0) 8 rfl Try.underlying80 info2 rfl (by decide) (by omega) (.slice Ao21 x4_1.length co21) x4_1 x6_1 [.int .i64 x6_1] (fun _ => True) (fun _ => False) rfl rfl ?aP (fun _ hk => hk.elim) ?aF ?aO ?aB ?aS ?aL ?_; (case aP => exact rfl); (case aB => exact q26x1_); (case aF => exact (fun _ _ => trivial)); (case aO => exact q26x8_); (case aS => exact (bZ26_ q26x1_)); (case aL => have := LMc77.out; omega); intro v161 w87 ho hb hg hat; rw [← Ny160.out] at ho; have n0_ := aM26_ (Kd.R_over' q26x7_ (Kd.R_typed q26x8_) (by decide) hg); have n1_ := aM26_ (kG26_ (g := gb127) (o := .cells #[.int .i64 a0_0, .int .i64 a0_1] 24 (0, 0)) q26x2_ hg (Kd.R_ne HO_4.out BK127.out (by decide))); have n2_ := aM26_ (kG26_ (g := gb128) (o := .cells #[.slice none 0 0, .slice none 0 0] 34 (0, 0)) q26x5_ hg (Kd.R_ne HO_4.out BK128.out (by decide))); have n3_ := aM26_ (hb); have n4_ := aM26_ (ho); clear HO_5; clear BK127; clear BK128; clear HB; clear HO_4; have HO_5 := n0_; have BK127 := n1_; have BK128 := n2_; have HB := n3_; have HO162 := n4_; clear n0_ n1_ n2_ n3_ n4_; clear ho hb hg hat; have hnb88 := NB127_128.out; have hnc88 := NB128_127.out; have hcz89_0 : w87.cell? ⟨gb127, 0, none⟩ = some (.int .i64 a0_0) := (kC26_ BK127.out 0).trans rfl; have hcz89_1 : w87.cell? ⟨gb127, 1, none⟩ = some (.int .i64 a0_1) := (kC26_ BK127.out 1).trans rfl; have hfz89_0 := blk_frozen BK127.out 0; have hfz89_1 := blk_frozen BK127.out 1) | ((with_reducible refine gate_builtin (b := .append) (xs := #[.tmp 69, .tmp 72]) rfl ?_); at_builtin; refine Kd.R_append (Kd.int .i8) (w0 := w) w.heap.size rfl (.tmp 69) (.tmp 72) 22 69 (.int .i8 0) 1 rfl Try.underlying22 info69 rfl (by decide) (by omega) u5 x5_1 1 [.int .i8 1] (fun _ => True) (fun _ => False) rfl rfl ?aP (fun _ hk => hk.elim) ?aF ?aO ?aB ?aS ?aL ?_; (case aP => exact rfl); (case aB => exact q26x1_); (case aF => exact (fun _ _ => trivial)); (case aO => exact q26x7_); (case aS => exact (bZ26_ q26x1_)); (case aL => have := LMc86.out; omega); intro v167 w90 ho hb hg hat; rw [← Ny166.out] at ho; have n0_ := aM26_ (kG26_ (g := gb127) (o := .cells #[.int .i64 a0_0, .int .i64 a0_1] 24 (0, 0)) q26x2_ hg (Kd.R_ne HO_5.out BK127.out (by decide))); have n1_ := aM26_ (kG26_ (g := gb128) (o := .cells #[.slice none 0 0, .slice none 0 0] 34 (0, 0)) q26x5_ hg (Kd.R_ne HO_5.out BK128.out (by decide))); have n2_ := aM26_ (Kd.R_over' q26x37_ (Kd.R_typed q26x7_) (by decide) hg); have n3_ := aM26_ (hb); have n4_ := aM26_ (ho); clear BK127; clear BK128; clear HO162; clear HB; clear HO_5; have BK127 := n0_; have BK128 := n1_; have HO162 := n2_; have HB := n3_; have HO168 := n4_; clear n0_ n1_ n2_ n3_ n4_; clear ho hb hg hat; have hcz91_0 : w90.cell? ⟨gb127, 0, none⟩ = some (.int .i64 a0_0) := (kC26_ BK127.out 0).trans rfl; have hcz91_1 : w90.cell? ⟨gb127, 1, none⟩ = some (.int .i64 a0_1) := (kC26_ BK127.out 1).trans rfl; have hfz91_0 := blk_frozen BK127.out 0; have hfz91_1 := blk_frozen BK127.out 1))
       go_roundg k2
       case measure => have := HK1.out; have := HK2.out; omega
       case rel => exact ⟨(y160), (y166), (wrap64 ((wrap64 (2 * x6_1)) - (wrap64 (1 * a0_1)))), q26x39_, H', ⟨by have := HK1.out; have := HK2.out; omega⟩, ⟨by (with_reducible repeat (first | apply rA26_ | apply rN26_ | apply rD26_)); exact HO162.out⟩, ⟨by (with_reducible repeat (first | apply rA26_ | apply rN26_ | apply rD26_)); exact HO168.out⟩, ⟨by (with_reducible repeat (first | refine kN26_ ?_ _ | refine kD26_ ?_ | refine kA26_ ?_ _)); exact BK127.out⟩, ⟨by (with_reducible repeat (first | refine kN26_ ?_ _ | refine kD26_ ?_ | refine kA26_ ?_ _)); exact BK128.out⟩, ⟨by repeat (first | (with_reducible first | exact HB.out | apply below_alloc | apply pw_below_drewN | apply below_drew1 | refine bS26_ ?_ GE127.out | refine bS26_ ?_ GE128.out) | exact HB.out)⟩⟩
      rw [if_neg c78] at H
      have c78b0 : decide (a0_1 ≤ (wrap64 (2 * x6_1))) = false := decide_eq_false c78
      clear c78
      by_cases c92 : (wrap64 (2 * x6_1)) ≤ (wrap64 (-a0_1))
      ·rw [if_pos c92] at H
       have c92b0 : decide ((wrap64 (2 * x6_1)) ≤ (wrap64 (-a0_1))) = true := decide_eq_true c92
       clear c92
       by_cases c93 : x5_1.length < 140737488355328
       rotate_left
       ·rw [if_neg c93] at H
        exact absurd H (by simp)
       rw [if_pos c93] at H
       have LMc93 := aM26_ c93
       clear c93
       obtain ⟨y169, hy169⟩ : ∃ y_ : List Int, y_ = (x5_1 ++ [(-1)]) := ⟨_, rfl⟩
       replace H : (spec_StreamOf.l0 k2 y160 y169 (wrap64 ((wrap64 (2 * x6_1)) - (wrap64 ((-1) * a0_1)))) a0_0 a0_1) = some (r1, r2, r3) := by first | (rw [hy169]; with_reducible exact H) | (have H2_ := (Option.bind_some _ _).symm.trans H; rw [hy169]; with_reducible exact H2_) | (have H2_ := (Option.bind_some _ _).symm.trans H; with_reducible exact H2_) | with_reducible exact H | (rw [hy169]; exact H) | exact H
       have Ny169 := aM26_ hy169
       clear hy169
       have H' := aM26_ H
       clear H
       go_wp2_with (first | ((with_reducible refine gate_builtin (b := .append) (xs := #[.tmp 54, .tmp 56]) rfl ?_); at_builtin; refine Kd.R_append (Kd.int .i64) (w0 := w) w.heap.size rfl (.tmp 54) (.tmp 56) 80 2 (.int .i64 0) 8 rfl Try.underlying80 info2 rfl (by decide) (by omega) (.slice Ao21 x4_1.length co21) x4_1 x6_1 [.int .i64 x6_1] (fun _ => True) (fun _ => False) rfl rfl ?aP (fun _ hk => hk.elim) ?aF ?aO ?aB ?aS ?aL ?_; (case aP => exact rfl); (case aB => exact q26x1_); (case aF => exact (fun _ _ => trivial)); (case aO => exact q26x8_); (case aS => exact (bZ26_ q26x1_)); (case aL => have := LMc77.out; omega); intro v161 w94 ho hb hg hat; rw [← Ny160.out] at ho; have n0_ := aM26_ (Kd.R_over' q26x7_ (Kd.R_typed q26x8_) (by decide) hg); have n1_ := aM26_ (kG26_ (g := gb127) (o := .cells #[.int .i64 a0_0, .int .i64 a0_1] 24 (0, 0)) q26x2_ hg (Kd.R_ne HO_4.out BK127.out (by decide))); have n2_ := aM26_ (kG26_ (g := gb128) (o := .cells #[.slice none 0 0, .slice none 0 0] 34 (0, 0)) q26x5_ hg (Kd.R_ne HO_4.out BK128.out (by decide))); have n3_ := aM26_ (hb); have n4_ := aM26_ (ho); clear HO_5; clear BK127; clear BK128; clear HB; clear HO_4; have HO_5 := n0_; have BK127 := n1_; have BK128 := n2_; have HB := n3_; have HO162 := n4_; clear n0_ n1_ n2_ n3_ n4_; clear ho hb hg hat; have hnb95 := NB127_128.out; have hnc95 := NB128_127.out; have hcz96_0 : w94.cell? ⟨gb127, 0, none⟩ = some (.int .i64 a0_0) := (kC26_ BK127.out 0).trans rfl; have hcz96_1 : w94.cell? ⟨gb127, 1, none⟩ = some (.int .i64 a0_1) := (kC26_ BK127.out 1).trans rfl; have hfz96_0 := blk_frozen BK127.out 0; have hfz96_1 := blk_frozen BK127.out 1) | ((with_reducible refine gate_builtin (b := .append) (xs := #[.tmp 69, .tmp 72]) rfl ?_); at_builtin; refine Kd.R_append (Kd.int .i8) (w0 := w) w.heap.size rfl (.tmp 69) (.tmp 72) 22 69 (.int .i8 0) 1 rfl Try.underlying22 info69 rfl (by decide) (by omega) u5 x5_1 (-1) [.int .i8 (-1)] (fun _ => True) (fun _ => False) rfl rfl ?aP (fun _ hk => hk.elim) ?aF ?aO ?aB ?aS ?aL ?_; (case aP => exact rfl); (case aB => exact q26x1_); (case aF => exact (fun _ _ => trivial)); (case aO => exact q26x7_); (case aS => exact (bZ26_ q26x1_)); (case aL => have := LMc93.out; omega); intro v170 w97 ho hb hg hat; rw [← Ny169.out] at ho; have n0_ := aM26_ (kG26_ (g := gb127) (o := .cells #[.int .i64 a0_0, .int .i64 a0_1] 24 (0, 0)) q26x2_ hg (Kd.R_ne HO_5.out BK127.out (by decide))); have n1_ := aM26_ (kG26_ (g := gb128) (o := .cells #[.slice none 0 0, .slice none 0 0] 34 (0, 0)) q26x5_ hg (Kd.R_ne HO_5.out BK128.out (by decide))); have n2_ := aM26_ (Kd.R_over' q26x37_ (Kd.R_typed q26x7_) (by decide) hg); have n3_ := aM26_ (hb); have n4_ := aM26_ (ho); clear BK127; clear BK128; clear HO162; clear HB; clear HO_5; have BK127 := n0_; have BK128 := n1_; have HO162 := n2_; have HB := n3_; have HO171 := n4_; clear n0_ n1_ n2_ n3_ n4_; clear ho hb hg hat; have hcz98_0 : w97.cell? ⟨gb127, 0, none⟩ = some (.int .i64 a0_0) := (kC26_ BK127.out 0).trans rfl; have hcz98_1 : w97.cell? ⟨gb127, 1, none⟩ = some (.int .i64 a0_1) := (kC26_ BK127.out 1).trans rfl; have hfz98_0 := blk_frozen BK127.out 0; have hfz98_1 := blk_frozen BK127.out 1))
       go_roundg k2
       case measure => have := HK1.out; have := HK2.out; omega
       case rel => exact ⟨(y160), (y169), (wrap64 ((wrap64 (2 * x6_1)) - (wrap64 ((-1) * a0_1)))), q26x39_, H', ⟨by have := HK1.out; have := HK2.out; omega⟩, ⟨by (with_reducible repeat (first | apply rA26_ | apply rN26_ | apply rD26_)); exact HO162.out⟩, ⟨by (with_reducible repeat (first | apply rA26_ | apply rN26_ | apply rD26_)); exact HO171.out⟩, ⟨by (with_reducible repeat (first | refine kN26_ ?_ _ | refine kD26_ ?_ | refine kA26_ ?_ _)); exact BK127.out⟩, ⟨by (with_reducible repeat (first | refine kN26_ ?_ _ | refine kD26_ ?_ | refine kA26_ ?_ _)); exact BK128.out⟩, ⟨by repeat (first | (with_reducible first | exact HB.out | apply below_alloc | apply pw_below_drewN | apply below_drew1 | refine bS26_ ?_ GE127.out | refine bS26_ ?_ GE128.out) | exact HB.out)⟩⟩
      rw [if_neg c92] at H
      have c92b0 : decide ((wrap64 (2 * x6_1)) ≤ (wrap64 (-a0_1))) = false := decide_eq_false c92
      clear c92
      by_cases c99 : x5_1.length < 140737488355328
      rotate_left
      ·rw [if_neg c99] at H
       exact absurd H (by simp)
      rw [if_pos c99] at H
      have LMc99 := aM26_ c99
      clear c99
      obtain ⟨y172, hy172⟩ : ∃ y_ : List Int, y_ = (x5_1 ++ [0]) := ⟨_, rfl⟩
      replace H : (spec_StreamOf.l0 k2 y160 y172 (wrap64 ((wrap64 (2 * x6_1)) - (wrap64 (0 * a0_1)))) a0_0 a0_1) = some (r1, r2, r3) := by first | (rw [hy172]; with_reducible exact H) | (have H2_ := (Option.bind_some _ _).symm.trans H; rw [hy172]; with_reducible exact H2_) | (have H2_ := (Option.bind_some _ _).symm.trans H; with_reducible exact H2_) | with_reducible exact H | (rw [hy172]; exact H) | exact H
      have Ny172 := aM26_ hy172
      clear hy172
      have H' := aM26_ H
      clear H
      go_wp2_with (first | ((with_reducible refine gate_builtin (b := .append) (xs := #[.tmp 54, .tmp 56]) rfl ?_); at_builtin; refine Kd.R_append (Kd.int .i64) (w0 := w) w.heap.size rfl (.tmp 54) (.tmp 56) 80 2 (.int .i64 0) 8 rfl Try.underlying80 info2 rfl (by decide) (by omega) (.slice Ao21 x4_1.length co21) x4_1 x6_1 [.int .i64 x6_1] (fun _ => True) (fun _ => False) rfl rfl ?aP (fun _ hk => hk.elim) ?aF ?aO ?aB ?aS ?aL ?_; (case aP => exact rfl); (case aB => exact q26x1_); (case aF => exact (fun _ _ => trivial)); (case aO => exact q26x8_); (case aS => exact (bZ26_ q26x1_)); (case aL => have := LMc77.out; omega); intro v161 w100 ho hb hg hat; rw [← Ny160.out] at ho; have n0_ := aM26_ (Kd.R_over' q26x7_ (Kd.R_typed q26x8_) (by decide) hg); have n1_ := aM26_ (kG26_ (g := gb127) (o := .cells #[.int .i64 a0_0, .int .i64 a0_1] 24 (0, 0)) q26x2_ hg (Kd.R_ne HO_4.out BK127.out (by decide))); have n2_ := aM26_ (kG26_ (g := gb128) (o := .cells #[.slice none 0 0, .slice none 0 0] 34 (0, 0)) q26x5_ hg (Kd.R_ne HO_4.out BK128.out (by decide))); have n3_ := aM26_ (hb); have n4_ := aM26_ (ho); clear HO_5; clear BK127; clear BK128; clear HB; clear HO_4; have HO_5 := n0_; have BK127 := n1_; have BK128 := n2_; have HB := n3_; have HO162 := n4_; clear n0_ n1_ n2_ n3_ n4_; clear ho hb hg hat; have hnb101 := NB127_128.out; have hnc101 := NB128_127.out; have hcz102_0 : w100.cell? ⟨gb127, 0, none⟩ = some (.int .i64 a0_0) := (kC26_ BK127.out 0).trans rfl; have hcz102_1 : w100.cell? ⟨gb127, 1, none⟩ = some (.int .i64 a0_1) := (kC26_ BK127.out 1).trans rfl; have hfz102_0 := blk_frozen BK127.out 0; have hfz102_1 := blk_frozen BK127.out 1) | ((with_reducible refine gate_builtin (b := .append) (xs := #[.tmp 69, .tmp 72]) rfl ?_); at_builtin; refine Kd.R_append (Kd.int .i8) (w0 := w) w.heap.size rfl (.tmp 69) (.tmp 72) 22 69 (.int .i8 0) 1 rfl Try.underlying22 info69 rfl (by decide) (by omega) u5 x5_1 0 [.int .i8 0] (fun _ => True) (fun _ => False) rfl rfl ?aP (fun _ hk => hk.elim) ?aF ?aO ?aB ?aS ?aL ?_; (case aP => exact rfl); (case aB => exact q26x1_); (case aF => exact (fun _ _ => trivial)); (case aO => exact q26x7_); (case aS => exact (bZ26_ q26x1_)); (case aL => have := LMc99.out; omega); intro v173 w103 ho hb hg hat; rw [← Ny172.out] at ho; have n0_ := aM26_ (kG26_ (g := gb127) (o := .cells #[.int .i64 a0_0, .int .i64 a0_1] 24 (0, 0)) q26x2_ hg (Kd.R_ne HO_5.out BK127.out (by decide))); have n1_ := aM26_ (kG26_ (g := gb128) (o := .cells #[.slice none 0 0, .slice none 0 0] 34 (0, 0)) q26x5_ hg (Kd.R_ne HO_5.out BK128.out (by decide))); have n2_ := aM26_ (Kd.R_over' q26x37_ (Kd.R_typed q26x7_) (by decide) hg); have n3_ := aM26_ (hb); have n4_ := aM26_ (ho); clear BK127; clear BK128; clear HO162; clear HB; clear HO_5; have BK127 := n0_; have BK128 := n1_; have HO162 := n2_; have HB := n3_; have HO174 := n4_; clear n0_ n1_ n2_ n3_ n4_; clear ho hb hg hat; have hcz104_0 : w103.cell? ⟨gb127, 0, none⟩ = some (.int .i64 a0_0) := (kC26_ BK127.out 0).trans rfl; have hcz104_1 : w103.cell? ⟨gb127, 1, none⟩ = some (.int .i64 a0_1) := (kC26_ BK127.out 1).trans rfl; have hfz104_0 := blk_frozen BK127.out 0; have hfz104_1 := blk_frozen BK127.out 1))
      go_roundg k2
      case measure => have := HK1.out; have := HK2.out; omega
      case rel => exact ⟨(y160), (y172), (wrap64 ((wrap64 (2 * x6_1)) - (wrap64 (0 * a0_1)))), (by first | rfl | (simp; done) | (simp [*]; done) | (simp [*, show wrap64 0 = 0 by rw [wrap64]; rfl]; done)), H', ⟨by have := HK1.out; have := HK2.out; omega⟩, ⟨by (with_reducible repeat (first | apply rA26_ | apply rN26_ | apply rD26_)); exact HO162.out⟩, ⟨by (with_reducible repeat (first | apply rA26_ | apply rN26_ | apply rD26_)); exact HO174.out⟩, ⟨by (with_reducible repeat (first | refine kN26_ ?_ _ | refine kD26_ ?_ | refine kA26_ ?_ _)); exact BK127.out⟩, ⟨by (with_reducible repeat (first | refine kN26_ ?_ _ | refine kD26_ ?_ | refine kA26_ ?_ _)); exact BK128.out⟩, ⟨by repeat (first | (with_reducible first | exact HB.out | apply below_alloc | apply pw_below_drewN | apply below_drew1 | refine bS26_ ?_ GE127.out | refine bS26_ ?_ GE128.out) | exact HB.out)⟩⟩
     rw [if_pos c22] at H
     have c22b0 : decide (x7_2 < (x4_1.length : Int)) = true := decide_eq_true c22
     clear c22
     by_cases c23 : 0 ≤ x7_2
     rotate_left
     ·rw [if_neg c23] at H
      exact absurd H (by simp)
     rw [if_pos c23] at H
     have c23b0 : decide (0 ≤ x7_2) = true := decide_eq_true c23
     clear c23
     by_cases c24 : (rd x4_1 x7_2) = x6_1
     rotate_left
     ·rw [if_neg c24] at H
      have c24b0 : ((rd x4_1 x7_2) == x6_1) = false := beq_eq_false_iff_ne.mpr c24
      have c24b1 : ((rd x4_1 x7_2) != x6_1) = true := bne_iff_ne.mpr c24
      have H' := aM26_ H
      clear H
      have p137 : 0 ≤ (x7_2 : Int) := of_decide_eq_true q26x30_
      have q137 : x7_2 < (x4_1.length : Int) := of_decide_eq_true q26x30_
      obtain ⟨ad137, e137, hx137_0⟩ := Kd.at_int (Kd.R_reads' HO_4.out).2.2 x7_2 p137 q137
      cases e137
      replace p137 := eq_true p137
      replace q137 := eq_true q137
      go_wp2
      go_roundg k2
      case measure => have := HK1.out; have := HK2.out; omega
      case rel => exact ⟨(wrap64 (x7_2 + 1)), q26x39_, H', ⟨by have := HK1.out; have := HK2.out; omega⟩, ⟨by (with_reducible repeat (first | apply rA26_ | apply rN26_ | apply rD26_)); exact HO_4.out⟩, ⟨by (with_reducible repeat (first | apply rA26_ | apply rN26_ | apply rD26_)); exact HO_5.out⟩, ⟨by (with_reducible repeat (first | refine kN26_ ?_ _ | refine kD26_ ?_ | refine kA26_ ?_ _)); exact BK127.out⟩, ⟨by (with_reducible repeat (first | refine kN26_ ?_ _ | refine kD26_ ?_ | refine kA26_ ?_ _)); exact BK128.out⟩, ⟨by repeat (first | (with_reducible first | exact HB.out | apply below_alloc | apply pw_below_drewN | apply below_drew1 | refine bS26_ ?_ GE127.out | refine bS26_ ?_ GE128.out) | exact HB.out)⟩⟩
     rw [if_pos c24] at H
     have c24b0 : ((rd x4_1 x7_2) == x6_1) = true := beq_iff_eq.mpr c24
     have c24b1 : ((rd x4_1 x7_2) != x6_1) = false := bne_eq_false_iff_eq.mpr c24
     clear c24
     obtain ⟨y138, hy138⟩ : ∃ y_ : List Int, y_ = (([] : List Int)) := ⟨_, rfl⟩
     replace H : (if x7_2 ≤ (x5_1.length : Int) then ((some (x5_1.take (x7_2 : Int).toNat : List Int)).bind fun y141 => (if y138.length + y141.length < 140737488355328 then ((some (y138 ++ y141 : List Int)).bind fun y145 => ((some (([] : List Int) : List Int)).bind fun y148 => ((some (x5_1.drop (x7_2 : Int).toNat : List Int)).bind fun y151 => (if y148.length + y151.length < 140737488355328 then ((some (y148 ++ y151 : List Int)).bind fun y155 => ((spec_l03Ok.f k2 y145 y155).bind fun t159 => (if t159 = true then (some (y145, y155, 0)) else (some (([] : List Int), ([] : List Int), 3))))) else (none))))) else (none))) else (none)) = some (r1, r2, r3) := by first | (rw [hy138]; with_reducible exact H) | (have H2_ := (Option.bind_some _ _).symm.trans H; rw [hy138]; with_reducible exact H2_) | (have H2_ := (Option.bind_some _ _).symm.trans H; with_reducible exact H2_) | with_reducible exact H | (rw [hy138]; exact H) | exact H
     have Ny138 := aM26_ hy138
     clear hy138
     have c25b0 := eq_true (of_decide_eq_true q26x30_ : 0 ≤ x7_2)
     by_cases c26 : x7_2 ≤ (x5_1.length : Int)
     rotate_left
     ·rw [if_neg c26] at H
      exact absurd H (by simp)
     rw [if_pos c26] at H
     have c26b0 := eq_true c26
     have c26b1 : decide (x7_2 ≤ (x5_1.length : Int)) = true := decide_eq_true c26
     clear c26
     obtain ⟨y141, hy141⟩ : ∃ y_ : List Int, y_ = (x5_1.take (x7_2 : Int).toNat) := ⟨_, rfl⟩
     replace H : (if y138.length + y141.length < 140737488355328 then ((some (y138 ++ y141 : List Int)).bind fun y145 => ((some (([] : List Int) : List Int)).bind fun y148 => ((some (x5_1.drop (x7_2 : Int).toNat : List Int)).bind fun y151 => (if y148.length + y151.length < 140737488355328 then ((some (y148 ++ y151 : List Int)).bind fun y155 => ((spec_l03Ok.f k2 y145 y155).bind fun t159 => (if t159 = true then (some (y145, y155, 0)) else (some (([] : List Int), ([] : List Int), 3))))) else (none))))) else (none)) = some (r1, r2, r3) := by first | (rw [hy141]; with_reducible exact H) | (have H2_ := (Option.bind_some _ _).symm.trans H; rw [hy141]; with_reducible exact H2_) | (have H2_ := (Option.bind_some _ _).symm.trans H; with_reducible exact H2_) | with_reducible exact H | (rw [hy141]; exact H) | exact H
     have Ny141 := aM26_ hy141
     clear hy141
     by_cases c27 : y138.length + y141.length < 140737488355328
     rotate_left
     ·rw [if_neg c27] at H
      exact absurd H (by simp)
     rw [if_pos c27] at H
     have LMc27 := aM26_ c27
     clear c27
     obtain ⟨y145, hy145⟩ : ∃ y_ : List Int, y_ = (y138 ++ y141) := ⟨_, rfl⟩
     replace H : ((some (([] : List Int) : List Int)).bind fun y148 => ((some (x5_1.drop (x7_2 : Int).toNat : List Int)).bind fun y151 => (if y148.length + y151.length < 140737488355328 then ((some (y148 ++ y151 : List Int)).bind fun y155 => ((spec_l03Ok.f k2 y145 y155).bind fun t159 => (if t159 = true then (some (y145, y155, 0)) else (some (([] : List Int), ([] : List Int), 3))))) else (none)))) = some (r1, r2, r3) := by first | (rw [hy145]; with_reducible exact H) | (have H2_ := (Option.bind_some _ _).symm.trans H; rw [hy145]; with_reducible exact H2_) | (have H2_ := (Option.bind_some _ _).symm.trans H; with_reducible exact H2_) | with_reducible exact H | (rw [hy145]; exact H) | exact H
     have Ny145 := aM26_ hy145
     clear hy145
     obtain ⟨y148, hy148⟩ : ∃ y_ : List Int, y_ = (([] : List Int)) := ⟨_, rfl⟩
     replace H : ((some (x5_1.drop (x7_2 : Int).toNat : List Int)).bind fun y151 => (if y148.length + y151.length < 140737488355328 then ((some (y148 ++ y151 : List Int)).bind fun y155 => ((spec_l03Ok.f k2 y145 y155).bind fun t159 => (if t159 = true then (some (y145, y155, 0)) else (some (([] : List Int), ([] : List Int), 3))))) else (none))) = some (r1, r2, r3) := by first | (rw [hy148]; with_reducible exact H) | (have H2_ := (Option.bind_some _ _).symm.trans H; rw [hy148]; with_reducible exact H2_) | (have H2_ := (Option.bind_some _ _).symm.trans H; with_reducible exact H2_) | with_reducible exact H | (rw [hy148]; exact H) | exact H
     have Ny148 := aM26_ hy148
     clear hy148
     have c28b0 := eq_true (of_decide_eq_true q26x30_ : 0 ≤ x7_2)
     have c29b0 := eq_true (of_decide_eq_true q26x30_ : x7_2 ≤ (x5_1.length : Int))
     obtain ⟨y151, hy151⟩ : ∃ y_ : List Int, y_ = (x5_1.drop (x7_2 : Int).toNat) := ⟨_, rfl⟩
     replace H : (if y148.length + y151.length < 140737488355328 then ((some (y148 ++ y151 : List Int)).bind fun y155 => ((spec_l03Ok.f k2 y145 y155).bind fun t159 => (if t159 = true then (some (y145, y155, 0)) else (some (([] : List Int), ([] : List Int), 3))))) else (none)) = some (r1, r2, r3) := by first | (rw [hy151]; with_reducible exact H) | (have H2_ := (Option.bind_some _ _).symm.trans H; rw [hy151]; with_reducible exact H2_) | (have H2_ := (Option.bind_some _ _).symm.trans H; with_reducible exact H2_) | with_reducible exact H | (rw [hy151]; exact H) | exact H
     have Ny151 := aM26_ hy151
     clear hy151
     by_cases c30 : y148.length + y151.length < 140737488355328
     rotate_left
     ·rw [if_neg c30] at H
      exact absurd H (by simp)
     rw [if_pos c30] at H
     have LMc30 := aM26_ c30
     clear c30
     obtain ⟨y155, hy155⟩ : ∃ y_ : List Int, y_ = (y148 ++ y151) := ⟨_, rfl⟩
     replace H : ((spec_l03Ok.f k2 y145 y155).bind fun t159 => (if t159 = true then (some (y145, y155, 0)) else (some (([] : List Int), ([] : List Int), 3)))) = some (r1, r2, r3) := by first | (rw [hy155]; with_reducible exact H) | (have H2_ := (Option.bind_some _ _).symm.trans H; rw [hy155]; with_reducible exact H2_) | (have H2_ := (Option.bind_some _ _).symm.trans H; with_reducible exact H2_) | with_reducible exact H | (rw [hy155]; exact H) | exact H
     have Ny155 := aM26_ hy155
     clear hy155
     replace H := Option.bind_eq_some_iff.mp H
     obtain ⟨t159, A310, H⟩ := H
     replace H : (if t159 = true then (some (y145, y155, 0)) else (some (([] : List Int), ([] : List Int), 3))) = some (r1, r2, r3) := H
     have A31 := aM26_ A310
     clear A310
     by_cases c32 : t159 = true
     rotate_left
     ·replace c32 := Bool.eq_false_iff.mpr c32
      subst c32
      have H1 : (some (([] : List Int), ([] : List Int), 3)) = some (r1, r2, r3) := by rw [if_neg (show ¬ (false = true) by decide)] at H; exact H
      clear H
      have H := H1
      clear H1
      simp only [Option.some.injEq, Prod.mk.injEq] at H
      obtain ⟨rfl, rfl, rfl⟩ := H
      have p137 : 0 ≤ (x7_2 : Int) := of_decide_eq_true q26x30_
      have q137 : x7_2 < (x4_1.length : Int) := of_decide_eq_true q26x30_
      obtain ⟨ad137, e137, hx137_0⟩ := Kd.at_int (Kd.R_reads' HO_4.out).2.2 x7_2 p137 q137
      cases e137
      replace p137 := eq_true p137
      replace q137 := eq_true q137
      try go_wp2
      have n0_ := aM26_ (rD26_ HO_4.out)
      have n1_ := aM26_ (rD26_ HO_5.out)
      have n2_ := aM26_ (kD26_ BK127.out)
      have n3_ := aM26_ (kD26_ BK128.out)
      have n4_ := aM26_ (below_drew1 HB.out)
      clear HO_4 HO_5 BK127 BK128 HB
      have HO_4 := n0_
      have HO_5 := n1_
      have BK127 := n2_
      have BK128 := n3_
      have HB := n4_
      clear n0_ n1_ n2_ n3_ n4_
      obtain ⟨Ao58, co58, eo58⟩ := Kd.R_slice HO_5.out
      (first | subst eo58 | (injection eo58 with f1_ f2_ f3_; have f4_ := f1_.symm; have f5_ := f3_.symm; clear f1_ f2_ f3_; subst f4_; subst f5_))
      have q57 : (x7_2 : Int) ≤ ((x5_1.length : Int) : Int) := of_decide_eq_true q26x30_
      obtain ⟨i057, hi057, _, hsz57, _⟩ := info_parts info69
      have hroom57 : x5_1.length ≤ co58 := (Kd.R_reads' HO_5.out).2.1
      have hC57 : Kd.C (Kd.int .i8) _ Ao58 x5_1.length x5_1 := (Kd.R_reads' HO_5.out).2.2
      have hcut57 := cut_to (P := Try.prog) 22 69 .i64 Try.underlying22 hi057 Ao58 x5_1.length co58 x7_2 (of_decide_eq_true q26x30_) q57 hroom57
      have hr57 := Kd.C_take (m := (x7_2 : Int).toNat) hC57 (by omega)
      have hy57 : y141.length = (x7_2 : Int).toNat := (by rw [Ny141.out, List.length_take]; omega)
      rw [← Ny141.out] at hr57
      rw [← hy57] at hcut57
      have HR144 := aM26_ hr57
      have HC144 := aM26_ (show y141.length ≤ co58 from by omega)
      clear hr57 hC57 hroom57 hi057 hsz57
      have KY57 := aM26_ hy57
      clear hy57
      have KL57 := aM26_ (show (x7_2 : Int).toNat ≤ x5_1.length from by omega)
      replace q57 := eq_true q57
      have q59 : (x7_2 : Int) ≤ ((x5_1.length : Int) : Int) := of_decide_eq_true q26x30_
      obtain ⟨i059, hi059, _, hsz59, _⟩ := info_parts info69
      have hroom59 : x5_1.length ≤ co58 := (Kd.R_reads' HO_5.out).2.1
      have hC59 : Kd.C (Kd.int .i8) _ Ao58 x5_1.length x5_1 := (Kd.R_reads' HO_5.out).2.2
      have q059 : (0 : Int) ≤ (x7_2 : Int) := of_decide_eq_true q26x30_
      have hcut59 := cut_from (P := Try.prog) 22 69 .i64 Try.underlying22 hi059 1 hsz59 Ao58 x5_1.length co58 x7_2 q059 q59
      have hr59 := Kd.C_drop (m := (x7_2 : Int).toNat) (c := co58) hC59 (by omega) hroom59
      obtain ⟨A59, hA59⟩ : ∃ A1, A1 = (if co58 = (x7_2 : Int).toNat then Ao58 else (Ao58 : Option Addr).map (·.add ((x7_2 : Int).toNat * 1))) := ⟨_, rfl⟩
      obtain ⟨c59, hc59⟩ : ∃ c1, c1 = co58 - (x7_2 : Int).toNat := ⟨_, rfl⟩
      have hy59 : y151.length = x5_1.length - (x7_2 : Int).toNat := (by rw [Ny151.out, List.length_drop] <;> omega)
      rw [show (x5_1).drop (x7_2 : Int).toNat = y151 from Ny151.out.symm] at hr59
      replace hr59 : Kd.C (Kd.int .i8) _ A59 y151.length y151 := (by rw [hA59]; exact hr59)
      rw [← hy59, ← hA59, ← hc59] at hcut59
      have HR154 := aM26_ hr59
      have HC154 := aM26_ (show y151.length ≤ c59 from by rw [hy59, hc59]; exact Nat.sub_le_sub_right hroom59 _)
      clear hr59 hC59 hroom59 hi059 hsz59 hc59
      have KY59 := aM26_ hy59
      have KA59 := aM26_ hA59
      clear hy59 hA59
      have KL59 := aM26_ (show (x7_2 : Int).toNat ≤ x5_1.length from by omega)
      replace q59 := eq_true q59
      refine start_ (n := 13) (S := fun w' => True) (ds := []) #[false, false, false, false, false, false, false, false, false, false, false, false, false] (by kernel_rfl) rfl rfl trivial (fun hHeld => ?_); refine with_tabW spec_StreamOf.tab13 spec_StreamOf.bits13 (fun HT_ HW_ => ?_)
      generalize wr.drew = w56 at HO_4 HO_5 BK127 BK128 HB HR144 HR154 hHeld ⊢
      refine pure_ (i := 1) (N := some 40) (v := ?_) (a' := ?_) #[false, true, false, false, false, false, false, false, false, false, false, false, false] rfl rfl (any_of HT_.out (by kernel_rfl)) (fun _ _ _ h => h) (Or.inl ⟨by rfl, ?_⟩) ?_ ?_
      rotate_left
      ·exact q26x42_
      rotate_left
      ·exact q26x43_
      refine pure_ (i := 2) (N := some 41) (v := ?_) (a' := ?_) #[false, true, true, false, false, false, false, false, false, false, false, false, false] rfl rfl (any_of HT_.out (by kernel_rfl)) (fun _ _ _ h => h) (Or.inl ⟨by rfl, ?_⟩) ?_ ?_
      rotate_left
      ·exact q26x42_
      rotate_left
      ·exact q26x43_
      refine pure_ (i := 3) (N := some 42) (v := ?_) (a' := ?_) #[false, true, true, true, false, false, false, false, false, false, false, false, false] rfl rfl (any_of HT_.out (by kernel_rfl)) (fun _ _ _ h => h) (Or.inl ⟨by rfl, ?_⟩) ?_ ?_
      rotate_left
      ·exact q26x42_
      rotate_left
      ·exact q26x43_
      refine pure_ (i := 6) (N := some 45) (v := ?_) (a' := ?_) #[false, true, true, true, false, false, true, false, false, false, false, false, false] rfl rfl (any_of HT_.out (by kernel_rfl)) (fun _ _ _ h => h) (Or.inl ⟨by rfl, ?_⟩) ?_ ?_
      rotate_left
      ·exact q26x42_
      rotate_left
      ·exact q26x43_
      refine pure_ (i := 7) (N := some 46) (v := ?_) (a' := ?_) #[false, true, true, true, false, false, true, true, false, false, false, false, false] rfl rfl (any_of HT_.out (by kernel_rfl)) (fun _ _ _ h => h) (Or.inl ⟨by rfl, ?_⟩) ?_ ?_
      rotate_left
      ·exact q26x42_
      rotate_left
      ·exact q26x43_
      refine pure_ (i := 8) (N := some 47) (v := ?_) (a' := ?_) #[false, true, true, true, false, false, true, true, true, false, false, false, false] rfl rfl (any_of HT_.out (by kernel_rfl)) (fun _ _ _ h => h) (Or.inl ⟨by rfl, ?_⟩) ?_ ?_
      rotate_left
      ·exact q26x42_
      rotate_left
      ·exact q26x43_
      refine join_ (σ := Value × Value × Value × Value × Nat) 1 #[true, true, true, true, true, true, true, true, true, true, true, true, false] (fun s_ => [(39, s_.1), (43, s_.2.1), (44, s_.2.2.1), (48, s_.2.2.2.1), (8, .pointer (some ⟨s_.2.2.2.2, 0, none⟩)), (49, .agg #[s_.2.1, s_.2.2.2.1])]) (fun s_ w' => (Kd.R (Kd.int .i8) 69 w' w.heap.size (fun k_ => some k_ ≠ (s_.2.2.2.1 : Value).ownBlock ∧ some k_ ≠ (.slice Ao58 x5_1.length co58 : Value).ownBlock) s_.2.1 y145) ∧ (Kd.R (Kd.int .i8) 69 w' w.heap.size (fun k_ => some k_ ≠ (s_.2.1 : Value).ownBlock ∧ some k_ ≠ (.slice Ao58 x5_1.length co58 : Value).ownBlock) s_.2.2.2.1 y155) ∧ (Kd.R (Kd.int .i64) 2 w' w.heap.size (fun _ => True) (.slice (some ad137) x4_1.length co21) x4_1) ∧ (Kd.R (Kd.int .i8) 69 w' w.heap.size (fun k_ => some k_ ≠ (s_.2.1 : Value).ownBlock ∧ some k_ ≠ (s_.2.2.2.1 : Value).ownBlock) (.slice Ao58 x5_1.length co58) x5_1) ∧ (w'.heap[gb127]? = some (.cells #[.int .i64 a0_0, .int .i64 a0_1] 24 (0, 0))) ∧ (w'.heap[gb128]? = some (.cells #[.slice none 0 0, .slice none 0 0] 34 (0, 0))) ∧ (w'.heap[s_.2.2.2.2]? = some (.cells #[.slice none 0 0, .slice none 0 0] 34 (0, 0))) ∧ (Kd.C (Kd.int .i8) w' Ao58 y141.length y141) ∧ (Kd.C (Kd.int .i8) w' A59 y151.length y151) ∧ (w.heap.size ≤ s_.2.2.2.2) ∧ (w.heap.size ≤ s_.2.2.2.2) ∧ (gb127 ≠ s_.2.2.2.2) ∧ (s_.2.2.2.2 ≠ gb127) ∧ (gb128 ≠ s_.2.2.2.2) ∧ (s_.2.2.2.2 ≠ gb128) ∧ (Below w.heap.size w w')) ?_ ?_
      rotate_left
      ·intro hJ0_4_5_9_11
       refine join_ (σ := Value × Value × Value × Value) 2 #[true, true, true, true, true, true, true, true, true, true, true, false, false] (fun s_ => [(39, s_.1), (43, s_.2.1), (44, s_.2.2.1), (48, s_.2.2.2), (49, .agg #[s_.2.1, s_.2.2.2])]) (fun s_ w' => (Kd.R (Kd.int .i8) 69 w' w.heap.size (fun k_ => some k_ ≠ (s_.2.2.2 : Value).ownBlock ∧ some k_ ≠ (.slice Ao58 x5_1.length co58 : Value).ownBlock) s_.2.1 y145) ∧ (Kd.R (Kd.int .i8) 69 w' w.heap.size (fun k_ => some k_ ≠ (s_.2.1 : Value).ownBlock ∧ some k_ ≠ (.slice Ao58 x5_1.length co58 : Value).ownBlock) s_.2.2.2 y155) ∧ (Kd.R (Kd.int .i64) 2 w' w.heap.size (fun _ => True) (.slice (some ad137) x4_1.length co21) x4_1) ∧ (Kd.R (Kd.int .i8) 69 w' w.heap.size (fun k_ => some k_ ≠ (s_.2.1 : Value).ownBlock ∧ some k_ ≠ (s_.2.2.2 : Value).ownBlock) (.slice Ao58 x5_1.length co58) x5_1) ∧ (w'.heap[gb127]? = some (.cells #[.int .i64 a0_0, .int .i64 a0_1] 24 (0, 0))) ∧ (w'.heap[gb128]? = some (.cells #[.slice none 0 0, .slice none 0 0] 34 (0, 0))) ∧ (Kd.C (Kd.int .i8) w' Ao58 y141.length y141) ∧ (Kd.C (Kd.int .i8) w' A59 y151.length y151) ∧ (Below w.heap.size w w')) ?_ ?_
       rotate_left
       rotate_left
       ·skip
        rintro ⟨v139, v146, v149, v156⟩ w68 ⟨h0_, h1_, h2_, h3_, h4_, h5_, h6_, h7_, h8_⟩
        have n0_ : Aside0 (Kd.R (Kd.int .i8) 69 w68 w.heap.size (fun k_ => some k_ ≠ (v156 : Value).ownBlock ∧ some k_ ≠ (.slice Ao58 x5_1.length co58 : Value).ownBlock) v146 y145) := ⟨h0_⟩
        have n1_ : Aside0 (Kd.R (Kd.int .i8) 69 w68 w.heap.size (fun k_ => some k_ ≠ (v146 : Value).ownBlock ∧ some k_ ≠ (.slice Ao58 x5_1.length co58 : Value).ownBlock) v156 y155) := ⟨h1_⟩
        have n2_ : Aside0 (Kd.R (Kd.int .i64) 2 w68 w.heap.size (fun _ => True) (.slice (some ad137) x4_1.length co21) x4_1) := ⟨h2_⟩
        have n3_ : Aside0 (Kd.R (Kd.int .i8) 69 w68 w.heap.size (fun k_ => some k_ ≠ (v146 : Value).ownBlock ∧ some k_ ≠ (v156 : Value).ownBlock) (.slice Ao58 x5_1.length co58) x5_1) := ⟨h3_⟩
        have n4_ : Aside0 (w68.heap[gb127]? = some (.cells #[.int .i64 a0_0, .int .i64 a0_1] 24 (0, 0))) := ⟨h4_⟩
        have n5_ : Aside0 (w68.heap[gb128]? = some (.cells #[.slice none 0 0, .slice none 0 0] 34 (0, 0))) := ⟨h5_⟩
        have n6_ : Aside0 (Kd.C (Kd.int .i8) w68 Ao58 y141.length y141) := ⟨h6_⟩
        have n7_ : Aside0 (Kd.C (Kd.int .i8) w68 A59 y151.length y151) := ⟨h7_⟩
        have n8_ : Aside0 (Below w.heap.size w w68) := ⟨h8_⟩
        clear HO_4 HO_5 BK127 BK128 HB h0_ h1_ h2_ h3_ h4_ h5_ h6_ h7_ h8_
        have HO147 := n0_
        have HO157 := n1_
        have HO_4 := n2_
        have HO_5 := n3_
        have BK127 := n4_
        have BK128 := n5_
        have HR144 := n6_
        have HR154 := n7_
        have HB := n8_
        clear n0_ n1_ n2_ n3_ n4_ n5_ n6_ n7_ n8_
        have hHeld := trivial
        obtain ⟨Ao69, co69, eo69⟩ := Kd.R_slice HO157.out
        (first | subst eo69 | (injection eo69 with f1_ f2_ f3_; have f4_ := f1_.symm; have f5_ := f3_.symm; clear f1_ f2_ f3_; subst f4_; subst f5_))
        obtain ⟨Ao70, co70, eo70⟩ := Kd.R_slice HO147.out
        (first | subst eo70 | (injection eo70 with f1_ f2_ f3_; have f4_ := f1_.symm; have f5_ := f3_.symm; clear f1_ f2_ f3_; subst f4_; subst f5_))
        refine norm_ (a' := ?_) ?_ ?_
        rotate_left
        ·exact q26x44_
        refine one_ (i := 11) (N := some 8) #[true, true, true, true, true, true, true, true, true, true, true, true, false] rfl rfl (one_of HT_.out (by kernel_rfl)) (by decide) (fun K hK => ?_)
        refine box_step ?hg (N := 8) ?hd (cs := #[.slice none 0 0, .slice none 0 0]) (t := 34) ?hr ?_; (case hd => rfl); (case hg => rfl); (case hr => first | (go_simp; done) | (go_simp; rfl))
        intro gb158 hg w71 hbox hb
        have n0_ := aM26_ (rB26_ q26x8_ hb)
        have n1_ := aM26_ (rB26_ q26x7_ hb)
        have n2_ := aM26_ (rB26_ q26x12_ hb)
        have n3_ := aM26_ (rB26_ q26x38_ hb)
        have n4_ := aM26_ (kB26_ (g := gb127) (o := .cells #[.int .i64 a0_0, .int .i64 a0_1] 24 (0, 0)) q26x2_ hb)
        have n5_ := aM26_ (kB26_ (g := gb128) (o := .cells #[.slice none 0 0, .slice none 0 0] 34 (0, 0)) q26x5_ hb)
        have n6_ := aM26_ (cB26_ q26x3_ hb)
        have n7_ := aM26_ (cB26_ q26x4_ hb)
        have n8_ := aM26_ (bT26_ q26x1_ hb)
        have n9_ := aM26_ (hbox)
        have n10_ := aM26_ ((q26x27_ : w.heap.size ≤ gb158))
        have n11_ := aM26_ ((q26x27_ : w.heap.size ≤ gb158))
        have n12_ := aM26_ ((q26x18_ : gb127 ≠ gb158))
        have n13_ := aM26_ ((q26x19_ : gb158 ≠ gb127))
        have n14_ := aM26_ ((q26x20_ : gb128 ≠ gb158))
        have n15_ := aM26_ ((q26x21_ : gb158 ≠ gb128))
        clear HO_4 HO_5 HO147 HO157 BK127 BK128 HR144 HR154 HB
        have HO_4 := n0_
        have HO_5 := n1_
        have HO147 := n2_
        have HO157 := n3_
        have BK127 := n4_
        have BK128 := n5_
        have HR144 := n6_
        have HR154 := n7_
        have HB := n8_
        have BK158 := n9_
        have GW158 := n10_
        have GE158 := n11_
        have NB127_158 := n12_
        have NB158_127 := n13_
        have NB128_158 := n14_
        have NB158_128 := n15_
        clear n0_ n1_ n2_ n3_ n4_ n5_ n6_ n7_ n8_ n9_ n10_ n11_ n12_ n13_ n14_ n15_ hb hbox hg
        refine hK.out _ _ trivial (fun hHeld => ?_)
        clear hK K
        refine norm_ (a' := ?_) ?_ ?_
        rotate_left
        ·exact q26x45_
        exact norm_ q26x9_ (hJ0_4_5_9_11 (v139, .slice Ao70 y145.length co70, v149, .slice Ao69 y155.length co69, gb158) _ ⟨q26x12_, q26x38_, q26x8_, q26x7_, q26x2_, q26x5_, q26x10_, q26x3_, q26x4_, GW158.out, GE158.out, NB127_158.out, NB158_127.out, NB128_158.out, NB158_128.out, q26x6_⟩)
       intro hJ0_4_5_9
       refine join_ (σ := Value × Value × Value × Nat) 3 #[true, true, true, true, true, true, true, true, true, false, false, true, false] (fun s_ => [(39, s_.1), (43, s_.2.1), (44, s_.2.2.1), (8, .pointer (some ⟨s_.2.2.2, 0, none⟩))]) (fun s_ w' => (Kd.R (Kd.int .i8) 69 w' w.heap.size (fun k_ => some k_ ≠ (s_.2.2.1 : Value).ownBlock ∧ some k_ ≠ (.slice Ao58 x5_1.length co58 : Value).ownBlock) s_.2.1 y145) ∧ (Kd.R (Kd.int .i8) 69 w' w.heap.size (fun k_ => some k_ ≠ (s_.2.1 : Value).ownBlock ∧ some k_ ≠ (.slice Ao58 x5_1.length co58 : Value).ownBlock) s_.2.2.1 y148) ∧ (Kd.R (Kd.int .i64) 2 w' w.heap.size (fun _ => True) (.slice (some ad137) x4_1.length co21) x4_1) ∧ (Kd.R (Kd.int .i8) 69 w' w.heap.size (fun k_ => some k_ ≠ (s_.2.1 : Value).ownBlock ∧ some k_ ≠ (s_.2.2.1 : Value).ownBlock) (.slice Ao58 x5_1.length co58) x5_1) ∧ (w'.heap[gb127]? = some (.cells #[.int .i64 a0_0, .int .i64 a0_1] 24 (0, 0))) ∧ (w'.heap[gb128]? = some (.cells #[.slice none 0 0, .slice none 0 0] 34 (0, 0))) ∧ (w'.heap[s_.2.2.2]? = some (.cells #[.slice none 0 0, .slice none 0 0] 34 (0, 0))) ∧ (Kd.C (Kd.int .i8) w' Ao58 y141.length y141) ∧ (Kd.C (Kd.int .i8) w' A59 y151.length y151) ∧ (w.heap.size ≤ s_.2.2.2) ∧ (w.heap.size ≤ s_.2.2.2) ∧ (gb127 ≠ s_.2.2.2) ∧ (s_.2.2.2 ≠ gb127) ∧ (gb128 ≠ s_.2.2.2) ∧ (s_.2.2.2 ≠ gb128) ∧ (Below w.heap.size w w')) ?_ ?_
       rotate_left
       rotate_left
       ·skip
        rintro ⟨v139, v146, v149, gb158⟩ w66 ⟨h0_, h1_, h2_, h3_, h4_, h5_, h6_, h7_, h8_, h9_, h10_, h11_, h12_, h13_, h14_, h15_⟩
        have n0_ : Aside0 (Kd.R (Kd.int .i8) 69 w66 w.heap.size (fun k_ => some k_ ≠ (v149 : Value).ownBlock ∧ some k_ ≠ (.slice Ao58 x5_1.length co58 : Value).ownBlock) v146 y145) := ⟨h0_⟩
        have n1_ : Aside0 (Kd.R (Kd.int .i8) 69 w66 w.heap.size (fun k_ => some k_ ≠ (v146 : Value).ownBlock ∧ some k_ ≠ (.slice Ao58 x5_1.length co58 : Value).ownBlock) v149 y148) := ⟨h1_⟩
        have n2_ : Aside0 (Kd.R (Kd.int .i64) 2 w66 w.heap.size (fun _ => True) (.slice (some ad137) x4_1.length co21) x4_1) := ⟨h2_⟩
        have n3_ : Aside0 (Kd.R (Kd.int .i8) 69 w66 w.heap.size (fun k_ => some k_ ≠ (v146 : Value).ownBlock ∧ some k_ ≠ (v149 : Value).ownBlock) (.slice Ao58 x5_1.length co58) x5_1) := ⟨h3_⟩
        have n4_ : Aside0 (w66.heap[gb127]? = some (.cells #[.int .i64 a0_0, .int .i64 a0_1] 24 (0, 0))) := ⟨h4_⟩
        have n5_ : Aside0 (w66.heap[gb128]? = some (.cells #[.slice none 0 0, .slice none 0 0] 34 (0, 0))) := ⟨h5_⟩
        have n6_ : Aside0 (w66.heap[gb158]? = some (.cells #[.slice none 0 0, .slice none 0 0] 34 (0, 0))) := ⟨h6_⟩
        have n7_ : Aside0 (Kd.C (Kd.int .i8) w66 Ao58 y141.length y141) := ⟨h7_⟩
        have n8_ : Aside0 (Kd.C (Kd.int .i8) w66 A59 y151.length y151) := ⟨h8_⟩
        have n9_ : Aside0 (w.heap.size ≤ gb158) := ⟨h9_⟩
        have n10_ : Aside0 (w.heap.size ≤ gb158) := ⟨h10_⟩
        have n11_ : Aside0 (gb127 ≠ gb158) := ⟨h11_⟩
        have n12_ : Aside0 (gb158 ≠ gb127) := ⟨h12_⟩
        have n13_ : Aside0 (gb128 ≠ gb158) := ⟨h13_⟩
        have n14_ : Aside0 (gb158 ≠ gb128) := ⟨h14_⟩
        have n15_ : Aside0 (Below w.heap.size w w66) := ⟨h15_⟩
        clear HO_4 HO_5 BK127 BK128 HB h0_ h1_ h2_ h3_ h4_ h5_ h6_ h7_ h8_ h9_ h10_ h11_ h12_ h13_ h14_ h15_
        have HO147 := n0_
        have HO150 := n1_
        have HO_4 := n2_
        have HO_5 := n3_
        have BK127 := n4_
        have BK128 := n5_
        have BK158 := n6_
        have HR144 := n7_
        have HR154 := n8_
        have GW158 := n9_
        have GE158 := n10_
        have NB127_158 := n11_
        have NB158_127 := n12_
        have NB128_158 := n13_
        have NB158_128 := n14_
        have HB := n15_
        clear n0_ n1_ n2_ n3_ n4_ n5_ n6_ n7_ n8_ n9_ n10_ n11_ n12_ n13_ n14_ n15_
        have hHeld := trivial
        refine norm_ (a' := ?_) ?_ ?_
        rotate_left
        ·exact q26x44_
        refine one_ (i := 9) (N := some 48) #[true, true, true, true, true, true, true, true, true, true, false, true, false] rfl rfl (one_of HT_.out (by kernel_rfl)) (by decide) (fun K hK => ?_)
        refine Kd.R_append_rows_step (Kd.int .i8) (w0 := w) w.heap.size (by rfl) (.tmp 44) (.tmp 47) 22 69 (.int .i8 0) 1 rfl Try.underlying22 info69 rfl (by decide) (by omega) v149 y148 y151 _ _ _ (fun k_ => some k_ ≠ (.slice Ao58 x5_1.length co58 : Value).ownBlock ∧ some k_ ≠ (v146 : Value).ownBlock) (fun _ => False) rfl rfl ?aO ?aR (fun _ _ h => h) (fun _ h => h.elim) ?aF ?aB ?aS ?aL ?_
        (case aR => repeat (first | exact q26x4_ | (with_reducible refine Kd.C_alloc ?_ _) | (with_reducible refine Kd.C_drewN ?_ _) | (with_reducible refine Kd.C_drew ?_)))
        (case aB => exact q26x6_)
        (case aF => exact (fun k_ hk => ⟨Kd.fresh' (Kd.R_lt q26x7_) k_ hk, Kd.fresh' (Kd.R_lt q26x12_) k_ hk⟩))
        (case aO => exact q26x15_)
        (case aS => exact (bZ26_ q26x6_))
        (case aL => have := LMc30.out; omega)
        intro v156 w67 ho hb hg hat
        rw [← Ny155.out] at ho
        have n0_ := aM26_ (Kd.R_over' q26x8_ (Kd.R_typed q26x13_) (by decide) hg)
        have n1_ := aM26_ (rF26_ (ok := (fun k_ => some k_ ≠ (v146 : Value).ownBlock)) q26x7_ hg hat)
        have n2_ := aM26_ (kG26_ (g := gb127) (o := .cells #[.int .i64 a0_0, .int .i64 a0_1] 24 (0, 0)) q26x2_ hg (Kd.R_ne HO150.out BK127.out (by decide)))
        have n3_ := aM26_ (kG26_ (g := gb128) (o := .cells #[.slice none 0 0, .slice none 0 0] 34 (0, 0)) q26x5_ hg (Kd.R_ne HO150.out BK128.out (by decide)))
        have n4_ := aM26_ (rF26_ (ok := (fun k_ => some k_ ≠ (.slice Ao58 x5_1.length co58 : Value).ownBlock)) q26x16_ hg hat)
        have n5_ := aM26_ (kG26_ (g := gb158) (o := .cells #[.slice none 0 0, .slice none 0 0] 34 (0, 0)) q26x10_ hg (Kd.R_ne HO150.out BK158.out (by decide)))
        have n6_ := aM26_ (hb)
        have n7_ := aM26_ ((show Kd.C (Kd.int .i8) w67 Ao58 y141.length y141 from by rw [Ny141.out]; exact Kd.C_take (m := (x7_2 : Int).toNat) ((Kd.R_reads' (rF26_ (ok := (fun k_ => some k_ ≠ (v146 : Value).ownBlock)) q26x7_ hg hat)).2.2) KL57.out))
        have n8_ := aM26_ ((show Kd.C (Kd.int .i8) w67 A59 y151.length y151 from by rw [Ny151.out, KA59.out]; exact Kd.C_drop (m := (x7_2 : Int).toNat) (c := co58) ((Kd.R_reads' (rF26_ (ok := (fun k_ => some k_ ≠ (v146 : Value).ownBlock)) q26x7_ hg hat)).2.2) KL59.out ((Kd.R_reads' (rF26_ (ok := (fun k_ => some k_ ≠ (v146 : Value).ownBlock)) q26x7_ hg hat)).2.1)))
        have n9_ := aM26_ (ho)
        clear HO_4 HO_5 BK127 BK128 HO147 BK158 HB HR144 HR154 HO150
        have HO_4 := n0_
        have HO_5 := n1_
        have BK127 := n2_
        have BK128 := n3_
        have HO147 := n4_
        have BK158 := n5_
        have HB := n6_
        have HR144 := n7_
        have HR154 := n8_
        have HO157 := n9_
        clear n0_ n1_ n2_ n3_ n4_ n5_ n6_ n7_ n8_ n9_ ho hb hg hat
        obtain ⟨Ao68, co68, eo68⟩ := Kd.R_slice HO157.out
        (first | subst eo68 | (injection eo68 with f1_ f2_ f3_; have f4_ := f1_.symm; have f5_ := f3_.symm; clear f1_ f2_ f3_; subst f4_; subst f5_))
        obtain ⟨Ao69, co69, eo69⟩ := Kd.R_slice HO147.out
        (first | subst eo69 | (injection eo69 with f1_ f2_ f3_; have f4_ := f1_.symm; have f5_ := f3_.symm; clear f1_ f2_ f3_; subst f4_; subst f5_))
        refine hK.out _ _ trivial (fun hHeld => ?_)
        clear hK K
        refine norm_ (a' := ?_) ?_ ?_
        rotate_left
        ·exact q26x46_
        refine pure_ (i := 10) (N := some 49) (v := ?_) (a' := ?_) #[true, true, true, true, true, true, true, true, true, true, true, true, false] rfl rfl (any_of HT_.out (by kernel_rfl)) (fun _ _ _ h => h) (Or.inl ⟨by rfl, ?_⟩) ?_ ?_
        rotate_left
        ·exact q26x42_
        rotate_left
        ·exact q26x43_
        exact norm_ q26x9_ (hJ0_4_5_9_11 (v139, .slice Ao69 y145.length co69, v149, .slice Ao68 y155.length co68, gb158) _ ⟨q26x16_, q26x34_, q26x8_, q26x7_, q26x2_, q26x5_, q26x10_, q26x3_, q26x4_, GW158.out, GE158.out, NB127_158.out, NB158_127.out, NB128_158.out, NB158_128.out, q26x6_⟩)
       intro hJ0_4_5_11
       refine join_ (σ := Value × Value × Value) 4 #[true, true, true, true, true, true, true, true, true, false, false, false, false] (fun s_ => [(39, s_.1), (43, s_.2.1), (44, s_.2.2)]) (fun s_ w' => (Kd.R (Kd.int .i8) 69 w' w.heap.size (fun k_ => some k_ ≠ (s_.2.2 : Value).ownBlock ∧ some k_ ≠ (.slice Ao58 x5_1.length co58 : Value).ownBlock) s_.2.1 y145) ∧ (Kd.R (Kd.int .i8) 69 w' w.heap.size (fun k_ => some k_ ≠ (s_.2.1 : Value).ownBlock ∧ some k_ ≠ (.slice Ao58 x5_1.length co58 : Value).ownBlock) s_.2.2 y148) ∧ (Kd.R (Kd.int .i64) 2 w' w.heap.size (fun _ => True) (.slice (some ad137) x4_1.length co21) x4_1) ∧ (Kd.R (Kd.int .i8) 69 w' w.heap.size (fun k_ => some k_ ≠ (s_.2.1 : Value).ownBlock ∧ some k_ ≠ (s_.2.2 : Value).ownBlock) (.slice Ao58 x5_1.length co58) x5_1) ∧ (w'.heap[gb127]? = some (.cells #[.int .i64 a0_0, .int .i64 a0_1] 24 (0, 0))) ∧ (w'.heap[gb128]? = some (.cells #[.slice none 0 0, .slice none 0 0] 34 (0, 0))) ∧ (Kd.C (Kd.int .i8) w' Ao58 y141.length y141) ∧ (Kd.C (Kd.int .i8) w' A59 y151.length y151) ∧ (Below w.heap.size w w')) ?_ ?_
       rotate_left
       rotate_left
       ·skip
        rintro ⟨v139, v146, v149⟩ w65 ⟨h0_, h1_, h2_, h3_, h4_, h5_, h6_, h7_, h8_⟩
        have n0_ : Aside0 (Kd.R (Kd.int .i8) 69 w65 w.heap.size (fun k_ => some k_ ≠ (v149 : Value).ownBlock ∧ some k_ ≠ (.slice Ao58 x5_1.length co58 : Value).ownBlock) v146 y145) := ⟨h0_⟩
        have n1_ : Aside0 (Kd.R (Kd.int .i8) 69 w65 w.heap.size (fun k_ => some k_ ≠ (v146 : Value).ownBlock ∧ some k_ ≠ (.slice Ao58 x5_1.length co58 : Value).ownBlock) v149 y148) := ⟨h1_⟩
        have n2_ : Aside0 (Kd.R (Kd.int .i64) 2 w65 w.heap.size (fun _ => True) (.slice (some ad137) x4_1.length co21) x4_1) := ⟨h2_⟩
        have n3_ : Aside0 (Kd.R (Kd.int .i8) 69 w65 w.heap.size (fun k_ => some k_ ≠ (v146 : Value).ownBlock ∧ some k_ ≠ (v149 : Value).ownBlock) (.slice Ao58 x5_1.length co58) x5_1) := ⟨h3_⟩
        have n4_ : Aside0 (w65.heap[gb127]? = some (.cells #[.int .i64 a0_0, .int .i64 a0_1] 24 (0, 0))) := ⟨h4_⟩
        have n5_ : Aside0 (w65.heap[gb128]? = some (.cells #[.slice none 0 0, .slice none 0 0] 34 (0, 0))) := ⟨h5_⟩
        have n6_ : Aside0 (Kd.C (Kd.int .i8) w65 Ao58 y141.length y141) := ⟨h6_⟩
        have n7_ : Aside0 (Kd.C (Kd.int .i8) w65 A59 y151.length y151) := ⟨h7_⟩
        have n8_ : Aside0 (Below w.heap.size w w65) := ⟨h8_⟩
        clear HO_4 HO_5 BK127 BK128 HB h0_ h1_ h2_ h3_ h4_ h5_ h6_ h7_ h8_
        have HO147 := n0_
        have HO150 := n1_
        have HO_4 := n2_
        have HO_5 := n3_
        have BK127 := n4_
        have BK128 := n5_
        have HR144 := n6_
        have HR154 := n7_
        have HB := n8_
        clear n0_ n1_ n2_ n3_ n4_ n5_ n6_ n7_ n8_
        have hHeld := trivial
        refine norm_ (a' := ?_) ?_ ?_
        rotate_left
        ·exact q26x44_
        refine two_ (i := 9) (j := 11) (Ni := some 48) (Nj := some 8) #[true, true, true, true, true, true, true, true, true, true, false, false, false] #[true, true, true, true, true, true, true, true, true, false, false, true, false] rfl rfl rfl rfl (two_of HT_.out (by kernel_rfl)) (by decide) (by decide) (fun K hK => ?_) (fun K hK => ?_)
        rotate_left
        ·skip
         refine box_step ?hg (N := 8) ?hd (cs := #[.slice none 0 0, .slice none 0 0]) (t := 34) ?hr ?_; (case hd => rfl); (case hg => rfl); (case hr => first | (go_simp; done) | (go_simp; rfl))
         intro gb158 hg w66 hbox hb
         have n0_ := aM26_ (rB26_ q26x8_ hb)
         have n1_ := aM26_ (rB26_ q26x7_ hb)
         have n2_ := aM26_ (rB26_ q26x12_ hb)
         have n3_ := aM26_ (rB26_ q26x13_ hb)
         have n4_ := aM26_ (kB26_ (g := gb127) (o := .cells #[.int .i64 a0_0, .int .i64 a0_1] 24 (0, 0)) q26x2_ hb)
         have n5_ := aM26_ (kB26_ (g := gb128) (o := .cells #[.slice none 0 0, .slice none 0 0] 34 (0, 0)) q26x5_ hb)
         have n6_ := aM26_ (cB26_ q26x3_ hb)
         have n7_ := aM26_ (cB26_ q26x4_ hb)
         have n8_ := aM26_ (bT26_ q26x1_ hb)
         have n9_ := aM26_ (hbox)
         have n10_ := aM26_ ((q26x27_ : w.heap.size ≤ gb158))
         have n11_ := aM26_ ((q26x27_ : w.heap.size ≤ gb158))
         have n12_ := aM26_ ((q26x18_ : gb127 ≠ gb158))
         have n13_ := aM26_ ((q26x19_ : gb158 ≠ gb127))
         have n14_ := aM26_ ((q26x20_ : gb128 ≠ gb158))
         have n15_ := aM26_ ((q26x21_ : gb158 ≠ gb128))
         clear HO_4 HO_5 HO147 HO150 BK127 BK128 HR144 HR154 HB
         have HO_4 := n0_
         have HO_5 := n1_
         have HO147 := n2_
         have HO150 := n3_
         have BK127 := n4_
         have BK128 := n5_
         have HR144 := n6_
         have HR154 := n7_
         have HB := n8_
         have BK158 := n9_
         have GW158 := n10_
         have GE158 := n11_
         have NB127_158 := n12_
         have NB158_127 := n13_
         have NB128_158 := n14_
         have NB158_128 := n15_
         clear n0_ n1_ n2_ n3_ n4_ n5_ n6_ n7_ n8_ n9_ n10_ n11_ n12_ n13_ n14_ n15_ hb hbox hg
         refine hK.out _ _ trivial (fun hHeld => ?_)
         clear hK K
         refine norm_ (a' := ?_) ?_ ?_
         rotate_left
         ·exact q26x45_
         exact norm_ q26x9_ (hJ0_4_5_11 (v139, v146, v149, gb158) _ ⟨q26x12_, q26x13_, q26x8_, q26x7_, q26x2_, q26x5_, q26x10_, q26x3_, q26x4_, GW158.out, GE158.out, NB127_158.out, NB158_127.out, NB128_158.out, NB158_128.out, q26x6_⟩)
        skip
        refine Kd.R_append_rows_step (Kd.int .i8) (w0 := w) w.heap.size (by rfl) (.tmp 44) (.tmp 47) 22 69 (.int .i8 0) 1 rfl Try.underlying22 info69 rfl (by decide) (by omega) v149 y148 y151 _ _ _ (fun k_ => some k_ ≠ (.slice Ao58 x5_1.length co58 : Value).ownBlock ∧ some k_ ≠ (v146 : Value).ownBlock) (fun _ => False) rfl rfl ?aO ?aR (fun _ _ h => h) (fun _ h => h.elim) ?aF ?aB ?aS ?aL ?_
        (case aR => repeat (first | exact q26x4_ | (with_reducible refine Kd.C_alloc ?_ _) | (with_reducible refine Kd.C_drewN ?_ _) | (with_reducible refine Kd.C_drew ?_)))
        (case aB => exact q26x1_)
        (case aF => exact (fun k_ hk => ⟨Kd.fresh' (Kd.R_lt q26x7_) k_ hk, Kd.fresh' (Kd.R_lt q26x12_) k_ hk⟩))
        (case aO => exact q26x15_)
        (case aS => exact (bZ26_ q26x1_))
        (case aL => have := LMc30.out; omega)
        intro v156 w66 ho hb hg hat
        rw [← Ny155.out] at ho
        have n0_ := aM26_ (Kd.R_over' q26x8_ (Kd.R_typed q26x13_) (by decide) hg)
        have n1_ := aM26_ (rF26_ (ok := (fun k_ => some k_ ≠ (v146 : Value).ownBlock)) q26x7_ hg hat)
        have n2_ := aM26_ (kG26_ (g := gb127) (o := .cells #[.int .i64 a0_0, .int .i64 a0_1] 24 (0, 0)) q26x2_ hg (Kd.R_ne HO150.out BK127.out (by decide)))
        have n3_ := aM26_ (kG26_ (g := gb128) (o := .cells #[.slice none 0 0, .slice none 0 0] 34 (0, 0)) q26x5_ hg (Kd.R_ne HO150.out BK128.out (by decide)))
        have n4_ := aM26_ (rF26_ (ok := (fun k_ => some k_ ≠ (.slice Ao58 x5_1.length co58 : Value).ownBlock)) q26x16_ hg hat)
        have n5_ := aM26_ (hb)
        have n6_ := aM26_ ((show Kd.C (Kd.int .i8) w66 Ao58 y141.length y141 from by rw [Ny141.out]; exact Kd.C_take (m := (x7_2 : Int).toNat) ((Kd.R_reads' (rF26_ (ok := (fun k_ => some k_ ≠ (v146 : Value).ownBlock)) q26x7_ hg hat)).2.2) KL57.out))
        have n7_ := aM26_ ((show Kd.C (Kd.int .i8) w66 A59 y151.length y151 from by rw [Ny151.out, KA59.out]; exact Kd.C_drop (m := (x7_2 : Int).toNat) (c := co58) ((Kd.R_reads' (rF26_ (ok := (fun k_ => some k_ ≠ (v146 : Value).ownBlock)) q26x7_ hg hat)).2.2) KL59.out ((Kd.R_reads' (rF26_ (ok := (fun k_ => some k_ ≠ (v146 : Value).ownBlock)) q26x7_ hg hat)).2.1)))
        have n8_ := aM26_ (ho)
        clear HO_4 HO_5 BK127 BK128 HO147 HB HR144 HR154 HO150
        have HO_4 := n0_
        have HO_5 := n1_
        have BK127 := n2_
        have BK128 := n3_
        have HO147 := n4_
        have HB := n5_
        have HR144 := n6_
        have HR154 := n7_
        have HO157 := n8_
        clear n0_ n1_ n2_ n3_ n4_ n5_ n6_ n7_ n8_ ho hb hg hat
        obtain ⟨Ao67, co67, eo67⟩ := Kd.R_slice HO157.out
        (first | subst eo67 | (injection eo67 with f1_ f2_ f3_; have f4_ := f1_.symm; have f5_ := f3_.symm; clear f1_ f2_ f3_; subst f4_; subst f5_))
        obtain ⟨Ao68, co68, eo68⟩ := Kd.R_slice HO147.out
        (first | subst eo68 | (injection eo68 with f1_ f2_ f3_; have f4_ := f1_.symm; have f5_ := f3_.symm; clear f1_ f2_ f3_; subst f4_; subst f5_))
        refine hK.out _ _ trivial (fun hHeld => ?_)
        clear hK K
        refine norm_ (a' := ?_) ?_ ?_
        rotate_left
        ·exact q26x46_
        refine pure_ (i := 10) (N := some 49) (v := ?_) (a' := ?_) #[true, true, true, true, true, true, true, true, true, true, true, false, false] rfl rfl (any_of HT_.out (by kernel_rfl)) (fun _ _ _ h => h) (Or.inl ⟨by rfl, ?_⟩) ?_ ?_
        rotate_left
        ·exact q26x42_
        rotate_left
        ·exact q26x43_
        exact norm_ q26x9_ (hJ0_4_5_9 (v139, .slice Ao68 y145.length co68, v149, .slice Ao67 y155.length co67) _ ⟨q26x16_, q26x34_, q26x8_, q26x7_, q26x2_, q26x5_, q26x3_, q26x4_, q26x1_⟩)
       intro hJ0_4_5
       refine join_ (σ := Value × Value × Nat) 4 #[true, true, true, true, true, false, true, true, true, false, false, true, false] (fun s_ => [(39, s_.1), (43, s_.2.1), (8, .pointer (some ⟨s_.2.2, 0, none⟩))]) (fun s_ w' => (Kd.R (Kd.int .i8) 69 w' w.heap.size (fun k_ => some k_ ≠ (.slice Ao58 x5_1.length co58 : Value).ownBlock) s_.2.1 y145) ∧ (Kd.R (Kd.int .i64) 2 w' w.heap.size (fun _ => True) (.slice (some ad137) x4_1.length co21) x4_1) ∧ (Kd.R (Kd.int .i8) 69 w' w.heap.size (fun k_ => some k_ ≠ (s_.2.1 : Value).ownBlock) (.slice Ao58 x5_1.length co58) x5_1) ∧ (w'.heap[gb127]? = some (.cells #[.int .i64 a0_0, .int .i64 a0_1] 24 (0, 0))) ∧ (w'.heap[gb128]? = some (.cells #[.slice none 0 0, .slice none 0 0] 34 (0, 0))) ∧ (w'.heap[s_.2.2]? = some (.cells #[.slice none 0 0, .slice none 0 0] 34 (0, 0))) ∧ (Kd.C (Kd.int .i8) w' Ao58 y141.length y141) ∧ (Kd.C (Kd.int .i8) w' A59 y151.length y151) ∧ (w.heap.size ≤ s_.2.2) ∧ (w.heap.size ≤ s_.2.2) ∧ (gb127 ≠ s_.2.2) ∧ (s_.2.2 ≠ gb127) ∧ (gb128 ≠ s_.2.2) ∧ (s_.2.2 ≠ gb128) ∧ (Below w.heap.size w w')) ?_ ?_
       rotate_left
       rotate_left
       ·skip
        rintro ⟨v139, v146, gb158⟩ w64 ⟨h0_, h1_, h2_, h3_, h4_, h5_, h6_, h7_, h8_, h9_, h10_, h11_, h12_, h13_, h14_⟩
        have n0_ : Aside0 (Kd.R (Kd.int .i8) 69 w64 w.heap.size (fun k_ => some k_ ≠ (.slice Ao58 x5_1.length co58 : Value).ownBlock) v146 y145) := ⟨h0_⟩
        have n1_ : Aside0 (Kd.R (Kd.int .i64) 2 w64 w.heap.size (fun _ => True) (.slice (some ad137) x4_1.length co21) x4_1) := ⟨h1_⟩
        have n2_ : Aside0 (Kd.R (Kd.int .i8) 69 w64 w.heap.size (fun k_ => some k_ ≠ (v146 : Value).ownBlock) (.slice Ao58 x5_1.length co58) x5_1) := ⟨h2_⟩
        have n3_ : Aside0 (w64.heap[gb127]? = some (.cells #[.int .i64 a0_0, .int .i64 a0_1] 24 (0, 0))) := ⟨h3_⟩
        have n4_ : Aside0 (w64.heap[gb128]? = some (.cells #[.slice none 0 0, .slice none 0 0] 34 (0, 0))) := ⟨h4_⟩
        have n5_ : Aside0 (w64.heap[gb158]? = some (.cells #[.slice none 0 0, .slice none 0 0] 34 (0, 0))) := ⟨h5_⟩
        have n6_ : Aside0 (Kd.C (Kd.int .i8) w64 Ao58 y141.length y141) := ⟨h6_⟩
        have n7_ : Aside0 (Kd.C (Kd.int .i8) w64 A59 y151.length y151) := ⟨h7_⟩
        have n8_ : Aside0 (w.heap.size ≤ gb158) := ⟨h8_⟩
        have n9_ : Aside0 (w.heap.size ≤ gb158) := ⟨h9_⟩
        have n10_ : Aside0 (gb127 ≠ gb158) := ⟨h10_⟩
        have n11_ : Aside0 (gb158 ≠ gb127) := ⟨h11_⟩
        have n12_ : Aside0 (gb128 ≠ gb158) := ⟨h12_⟩
        have n13_ : Aside0 (gb158 ≠ gb128) := ⟨h13_⟩
        have n14_ : Aside0 (Below w.heap.size w w64) := ⟨h14_⟩
        clear HO_4 HO_5 BK127 BK128 HB h0_ h1_ h2_ h3_ h4_ h5_ h6_ h7_ h8_ h9_ h10_ h11_ h12_ h13_ h14_
        have HO147 := n0_
        have HO_4 := n1_
        have HO_5 := n2_
        have BK127 := n3_
        have BK128 := n4_
        have BK158 := n5_
        have HR144 := n6_
        have HR154 := n7_
        have GW158 := n8_
        have GE158 := n9_
        have NB127_158 := n10_
        have NB158_127 := n11_
        have NB128_158 := n12_
        have NB158_128 := n13_
        have HB := n14_
        clear n0_ n1_ n2_ n3_ n4_ n5_ n6_ n7_ n8_ n9_ n10_ n11_ n12_ n13_ n14_
        have hHeld := trivial
        refine norm_ (a' := ?_) ?_ ?_
        rotate_left
        ·exact q26x44_
        refine one_ (i := 5) (N := some 44) #[true, true, true, true, true, true, true, true, true, false, false, true, false] rfl rfl (one_of HT_.out (by kernel_rfl)) (by decide) (fun K hK => ?_)
        refine Kd.R_lit_step (Kd.int .i8) _ 69 ?hg (N := 44) ?hd (xs := ([] : List Int)) (inner := []) (ok := fun _ => True) (okp := fun _ => True) ?hr ?hp (fun _ hk => hk) trivial (Below.refl _ _) (Nat.le_refl _) (by simp) ?_; (case hd => rfl); (case hg => rfl); (case hr => first | (go_simp; done) | (go_simp; rfl)); (case hp => exact (Reps.none _ _))
        intro v149 w65 ho66 hb hg_ hnew_
        clear hg_ hnew_
        (first | rw [← Ny148.out] at ho66 | (simp only [Int.reduceToNat] at ho66; rw [← Ny148.out] at ho66))
        have n0_ := aM26_ (rB26_ q26x8_ hb)
        have n1_ := aM26_ (Kd.R_elder' q26x7_ (Kd.R_base ho66) hb)
        have n2_ := aM26_ (Kd.R_elder' q26x12_ (Kd.R_base ho66) hb)
        have n3_ := aM26_ (Kd.R_lower (Kd.R_new' (Kd.R_new' ho66 (Kd.R_lt q26x7_)) (Kd.R_lt q26x12_)) (bZ26_ q26x6_))
        have n4_ := aM26_ (kB26_ (g := gb127) (o := .cells #[.int .i64 a0_0, .int .i64 a0_1] 24 (0, 0)) q26x2_ hb)
        have n5_ := aM26_ (kB26_ (g := gb128) (o := .cells #[.slice none 0 0, .slice none 0 0] 34 (0, 0)) q26x5_ hb)
        have n6_ := aM26_ (cB26_ q26x3_ hb)
        have n7_ := aM26_ (cB26_ q26x4_ hb)
        have n8_ := aM26_ (kB26_ (g := gb158) (o := .cells #[.slice none 0 0, .slice none 0 0] 34 (0, 0)) q26x10_ hb)
        have n9_ := aM26_ (bT26_ q26x6_ hb)
        clear HO_4 HO_5 HO147 BK127 BK128 HR144 HR154 BK158 HB
        have HO_4 := n0_
        have HO_5 := n1_
        have HO147 := n2_
        have HO150 := n3_
        have BK127 := n4_
        have BK128 := n5_
        have HR144 := n6_
        have HR154 := n7_
        have BK158 := n8_
        have HB := n9_
        clear n0_ n1_ n2_ n3_ n4_ n5_ n6_ n7_ n8_ n9_ hb ho66
        refine hK.out _ _ trivial (fun hHeld => ?_)
        clear hK K
        refine norm_ (a' := ?_) ?_ ?_
        rotate_left
        ·exact q26x47_
        exact norm_ q26x9_ (hJ0_4_5_11 (v139, v146, v149, gb158) _ ⟨q26x16_, q26x25_, q26x8_, q26x7_, q26x2_, q26x5_, q26x10_, q26x3_, q26x4_, GW158.out, GE158.out, NB127_158.out, NB158_127.out, NB128_158.out, NB158_128.out, q26x6_⟩)
       intro hJ0_4_11
       refine join_ (σ := Value × Value × Nat) 4 #[true, true, true, true, false, true, true, true, true, false, false, true, false] (fun s_ => [(39, s_.1), (44, s_.2.1), (8, .pointer (some ⟨s_.2.2, 0, none⟩))]) (fun s_ w' => (Kd.R (Kd.int .i8) 69 w' w.heap.size (fun k_ => some k_ ≠ (s_.2.1 : Value).ownBlock ∧ some k_ ≠ (.slice Ao58 x5_1.length co58 : Value).ownBlock) s_.1 y138) ∧ (Kd.R (Kd.int .i8) 69 w' w.heap.size (fun k_ => some k_ ≠ (s_.1 : Value).ownBlock ∧ some k_ ≠ (.slice Ao58 x5_1.length co58 : Value).ownBlock) s_.2.1 y148) ∧ (Kd.R (Kd.int .i64) 2 w' w.heap.size (fun _ => True) (.slice (some ad137) x4_1.length co21) x4_1) ∧ (Kd.R (Kd.int .i8) 69 w' w.heap.size (fun k_ => some k_ ≠ (s_.1 : Value).ownBlock ∧ some k_ ≠ (s_.2.1 : Value).ownBlock) (.slice Ao58 x5_1.length co58) x5_1) ∧ (w'.heap[gb127]? = some (.cells #[.int .i64 a0_0, .int .i64 a0_1] 24 (0, 0))) ∧ (w'.heap[gb128]? = some (.cells #[.slice none 0 0, .slice none 0 0] 34 (0, 0))) ∧ (w'.heap[s_.2.2]? = some (.cells #[.slice none 0 0, .slice none 0 0] 34 (0, 0))) ∧ (Kd.C (Kd.int .i8) w' Ao58 y141.length y141) ∧ (Kd.C (Kd.int .i8) w' A59 y151.length y151) ∧ (w.heap.size ≤ s_.2.2) ∧ (w.heap.size ≤ s_.2.2) ∧ (gb127 ≠ s_.2.2) ∧ (s_.2.2 ≠ gb127) ∧ (gb128 ≠ s_.2.2) ∧ (s_.2.2 ≠ gb128) ∧ (Below w.heap.size w w')) ?_ ?_
       rotate_left
       rotate_left
       ·skip
        rintro ⟨v139, v149, gb158⟩ w65 ⟨h0_, h1_, h2_, h3_, h4_, h5_, h6_, h7_, h8_, h9_, h10_, h11_, h12_, h13_, h14_, h15_⟩
        have n0_ : Aside0 (Kd.R (Kd.int .i8) 69 w65 w.heap.size (fun k_ => some k_ ≠ (v149 : Value).ownBlock ∧ some k_ ≠ (.slice Ao58 x5_1.length co58 : Value).ownBlock) v139 y138) := ⟨h0_⟩
        have n1_ : Aside0 (Kd.R (Kd.int .i8) 69 w65 w.heap.size (fun k_ => some k_ ≠ (v139 : Value).ownBlock ∧ some k_ ≠ (.slice Ao58 x5_1.length co58 : Value).ownBlock) v149 y148) := ⟨h1_⟩
        have n2_ : Aside0 (Kd.R (Kd.int .i64) 2 w65 w.heap.size (fun _ => True) (.slice (some ad137) x4_1.length co21) x4_1) := ⟨h2_⟩
        have n3_ : Aside0 (Kd.R (Kd.int .i8) 69 w65 w.heap.size (fun k_ => some k_ ≠ (v139 : Value).ownBlock ∧ some k_ ≠ (v149 : Value).ownBlock) (.slice Ao58 x5_1.length co58) x5_1) := ⟨h3_⟩
        have n4_ : Aside0 (w65.heap[gb127]? = some (.cells #[.int .i64 a0_0, .int .i64 a0_1] 24 (0, 0))) := ⟨h4_⟩
        have n5_ : Aside0 (w65.heap[gb128]? = some (.cells #[.slice none 0 0, .slice none 0 0] 34 (0, 0))) := ⟨h5_⟩
        have n6_ : Aside0 (w65.heap[gb158]? = some (.cells #[.slice none 0 0, .slice none 0 0] 34 (0, 0))) := ⟨h6_⟩
        have n7_ : Aside0 (Kd.C (Kd.int .i8) w65 Ao58 y141.length y141) := ⟨h7_⟩
        have n8_ : Aside0 (Kd.C (Kd.int .i8) w65 A59 y151.length y151) := ⟨h8_⟩
        have n9_ : Aside0 (w.heap.size ≤ gb158) := ⟨h9_⟩
        have n10_ : Aside0 (w.heap.size ≤ gb158) := ⟨h10_⟩
        have n11_ : Aside0 (gb127 ≠ gb158) := ⟨h11_⟩
        have n12_ : Aside0 (gb158 ≠ gb127) := ⟨h12_⟩
        have n13_ : Aside0 (gb128 ≠ gb158) := ⟨h13_⟩
        have n14_ : Aside0 (gb158 ≠ gb128) := ⟨h14_⟩
        have n15_ : Aside0 (Below w.heap.size w w65) := ⟨h15_⟩
        clear HO_4 HO_5 BK127 BK128 HB h0_ h1_ h2_ h3_ h4_ h5_ h6_ h7_ h8_ h9_ h10_ h11_ h12_ h13_ h14_ h15_
        have HO140 := n0_
        have HO150 := n1_
        have HO_4 := n2_
        have HO_5 := n3_
        have BK127 := n4_
        have BK128 := n5_
        have BK158 := n6_
        have HR144 := n7_
        have HR154 := n8_
        have GW158 := n9_
        have GE158 := n10_
        have NB127_158 := n11_
        have NB158_127 := n12_
        have NB128_158 := n13_
        have NB158_128 := n14_
        have HB := n15_
        clear n0_ n1_ n2_ n3_ n4_ n5_ n6_ n7_ n8_ n9_ n10_ n11_ n12_ n13_ n14_ n15_
        have hHeld := trivial
        refine norm_ (a' := ?_) ?_ ?_
        rotate_left
        ·exact q26x44_
        refine one_ (i := 4) (N := some 43) #[true, true, true, true, true, true, true, true, true, false, false, true, false] rfl rfl (one_of HT_.out (by kernel_rfl)) (by decide) (fun K hK => ?_)
        refine Kd.R_append_rows_step (Kd.int .i8) (w0 := w) w.heap.size (by rfl) (.tmp 39) (.tmp 42) 22 69 (.int .i8 0) 1 rfl Try.underlying22 info69 rfl (by decide) (by omega) v139 y138 y141 _ _ _ (fun k_ => some k_ ≠ (.slice Ao58 x5_1.length co58 : Value).ownBlock ∧ some k_ ≠ (v149 : Value).ownBlock) (fun _ => False) rfl rfl ?aO ?aR (fun _ _ h => h) (fun _ h => h.elim) ?aF ?aB ?aS ?aL ?_
        (case aR => repeat (first | exact q26x3_ | (with_reducible refine Kd.C_alloc ?_ _) | (with_reducible refine Kd.C_drewN ?_ _) | (with_reducible refine Kd.C_drew ?_)))
        (case aB => exact q26x6_)
        (case aF => exact (fun k_ hk => ⟨Kd.fresh' (Kd.R_lt q26x7_) k_ hk, Kd.fresh' (Kd.R_lt q26x13_) k_ hk⟩))
        (case aO => exact q26x26_)
        (case aS => exact (bZ26_ q26x6_))
        (case aL => have := LMc27.out; omega)
        intro v146 w66 ho hb hg hat
        rw [← Ny145.out] at ho
        have n0_ := aM26_ (Kd.R_over' q26x8_ (Kd.R_typed q26x14_) (by decide) hg)
        have n1_ := aM26_ (rF26_ (ok := (fun k_ => some k_ ≠ (v149 : Value).ownBlock)) q26x11_ hg hat)
        have n2_ := aM26_ (kG26_ (g := gb127) (o := .cells #[.int .i64 a0_0, .int .i64 a0_1] 24 (0, 0)) q26x2_ hg (Kd.R_ne HO140.out BK127.out (by decide)))
        have n3_ := aM26_ (kG26_ (g := gb128) (o := .cells #[.slice none 0 0, .slice none 0 0] 34 (0, 0)) q26x5_ hg (Kd.R_ne HO140.out BK128.out (by decide)))
        have n4_ := aM26_ (rF26_ (ok := (fun k_ => some k_ ≠ (.slice Ao58 x5_1.length co58 : Value).ownBlock)) q26x15_ hg hat)
        have n5_ := aM26_ (kG26_ (g := gb158) (o := .cells #[.slice none 0 0, .slice none 0 0] 34 (0, 0)) q26x10_ hg (Kd.R_ne HO140.out BK158.out (by decide)))
        have n6_ := aM26_ (hb)
        have n7_ := aM26_ ((show Kd.C (Kd.int .i8) w66 Ao58 y141.length y141 from by rw [Ny141.out]; exact Kd.C_take (m := (x7_2 : Int).toNat) ((Kd.R_reads' (rF26_ (ok := (fun k_ => some k_ ≠ (v149 : Value).ownBlock)) q26x11_ hg hat)).2.2) KL57.out))
        have n8_ := aM26_ ((show Kd.C (Kd.int .i8) w66 A59 y151.length y151 from by rw [Ny151.out, KA59.out]; exact Kd.C_drop (m := (x7_2 : Int).toNat) (c := co58) ((Kd.R_reads' (rF26_ (ok := (fun k_ => some k_ ≠ (v149 : Value).ownBlock)) q26x11_ hg hat)).2.2) KL59.out ((Kd.R_reads' (rF26_ (ok := (fun k_ => some k_ ≠ (v149 : Value).ownBlock)) q26x11_ hg hat)).2.1)))
        have n9_ := aM26_ (ho)
        clear HO_4 HO_5 BK127 BK128 HO150 BK158 HB HR144 HR154 HO140
        have HO_4 := n0_
        have HO_5 := n1_
        have BK127 := n2_
        have BK128 := n3_
        have HO150 := n4_
        have BK158 := n5_
        have HB := n6_
        have HR144 := n7_
        have HR154 := n8_
        have HO147 := n9_
        clear n0_ n1_ n2_ n3_ n4_ n5_ n6_ n7_ n8_ n9_ ho hb hg hat
        refine hK.out _ _ trivial (fun hHeld => ?_)
        clear hK K
        refine norm_ (a' := ?_) ?_ ?_
        rotate_left
        ·exact q26x48_
        exact norm_ q26x9_ (hJ0_4_5_11 (v139, v146, v149, gb158) _ ⟨q26x16_, q26x15_, q26x8_, q26x11_, q26x2_, q26x5_, q26x10_, q26x3_, q26x4_, GW158.out, GE158.out, NB127_158.out, NB158_127.out, NB128_158.out, NB158_128.out, q26x6_⟩)
       intro hJ0_5_11
       refine join_ (σ := Value × Value) 5 #[true, true, true, true, true, false, true, true, true, false, false, false, false] (fun s_ => [(39, s_.1), (43, s_.2)]) (fun s_ w' => (Kd.R (Kd.int .i8) 69 w' w.heap.size (fun k_ => some k_ ≠ (.slice Ao58 x5_1.length co58 : Value).ownBlock) s_.2 y145) ∧ (Kd.R (Kd.int .i64) 2 w' w.heap.size (fun _ => True) (.slice (some ad137) x4_1.length co21) x4_1) ∧ (Kd.R (Kd.int .i8) 69 w' w.heap.size (fun k_ => some k_ ≠ (s_.2 : Value).ownBlock) (.slice Ao58 x5_1.length co58) x5_1) ∧ (w'.heap[gb127]? = some (.cells #[.int .i64 a0_0, .int .i64 a0_1] 24 (0, 0))) ∧ (w'.heap[gb128]? = some (.cells #[.slice none 0 0, .slice none 0 0] 34 (0, 0))) ∧ (Kd.C (Kd.int .i8) w' Ao58 y141.length y141) ∧ (Kd.C (Kd.int .i8) w' A59 y151.length y151) ∧ (Below w.heap.size w w')) ?_ ?_
       rotate_left
       rotate_left
       ·skip
        rintro ⟨v139, v146⟩ w63 ⟨h0_, h1_, h2_, h3_, h4_, h5_, h6_, h7_⟩
        have n0_ : Aside0 (Kd.R (Kd.int .i8) 69 w63 w.heap.size (fun k_ => some k_ ≠ (.slice Ao58 x5_1.length co58 : Value).ownBlock) v146 y145) := ⟨h0_⟩
        have n1_ : Aside0 (Kd.R (Kd.int .i64) 2 w63 w.heap.size (fun _ => True) (.slice (some ad137) x4_1.length co21) x4_1) := ⟨h1_⟩
        have n2_ : Aside0 (Kd.R (Kd.int .i8) 69 w63 w.heap.size (fun k_ => some k_ ≠ (v146 : Value).ownBlock) (.slice Ao58 x5_1.length co58) x5_1) := ⟨h2_⟩
        have n3_ : Aside0 (w63.heap[gb127]? = some (.cells #[.int .i64 a0_0, .int .i64 a0_1] 24 (0, 0))) := ⟨h3_⟩
        have n4_ : Aside0 (w63.heap[gb128]? = some (.cells #[.slice none 0 0, .slice none 0 0] 34 (0, 0))) := ⟨h4_⟩
        have n5_ : Aside0 (Kd.C (Kd.int .i8) w63 Ao58 y141.length y141) := ⟨h5_⟩
        have n6_ : Aside0 (Kd.C (Kd.int .i8) w63 A59 y151.length y151) := ⟨h6_⟩
        have n7_ : Aside0 (Below w.heap.size w w63) := ⟨h7_⟩
        clear HO_4 HO_5 BK127 BK128 HB h0_ h1_ h2_ h3_ h4_ h5_ h6_ h7_
        have HO147 := n0_
        have HO_4 := n1_
        have HO_5 := n2_
        have BK127 := n3_
        have BK128 := n4_
        have HR144 := n5_
        have HR154 := n6_
        have HB := n7_
        clear n0_ n1_ n2_ n3_ n4_ n5_ n6_ n7_
        have hHeld := trivial
        refine norm_ (a' := ?_) ?_ ?_
        rotate_left
        ·exact q26x44_
        refine two_ (i := 5) (j := 11) (Ni := some 44) (Nj := some 8) #[true, true, true, true, true, true, true, true, true, false, false, false, false] #[true, true, true, true, true, false, true, true, true, false, false, true, false] rfl rfl rfl rfl (two_of HT_.out (by kernel_rfl)) (by decide) (by decide) (fun K hK => ?_) (fun K hK => ?_)
        ·skip
         refine Kd.R_lit_step (Kd.int .i8) _ 69 ?hg (N := 44) ?hd (xs := ([] : List Int)) (inner := []) (ok := fun _ => True) (okp := fun _ => True) ?hr ?hp (fun _ hk => hk) trivial (Below.refl _ _) (Nat.le_refl _) (by simp) ?_; (case hd => rfl); (case hg => rfl); (case hr => first | (go_simp; done) | (go_simp; rfl)); (case hp => exact (Reps.none _ _))
         intro v149 w64 ho65 hb hg_ hnew_
         clear hg_ hnew_
         (first | rw [← Ny148.out] at ho65 | (simp only [Int.reduceToNat] at ho65; rw [← Ny148.out] at ho65))
         have n0_ := aM26_ (rB26_ q26x8_ hb)
         have n1_ := aM26_ (Kd.R_elder' q26x7_ (Kd.R_base ho65) hb)
         have n2_ := aM26_ (Kd.R_elder' q26x12_ (Kd.R_base ho65) hb)
         have n3_ := aM26_ (Kd.R_lower (Kd.R_new' (Kd.R_new' ho65 (Kd.R_lt q26x7_)) (Kd.R_lt q26x12_)) (bZ26_ q26x1_))
         have n4_ := aM26_ (kB26_ (g := gb127) (o := .cells #[.int .i64 a0_0, .int .i64 a0_1] 24 (0, 0)) q26x2_ hb)
         have n5_ := aM26_ (kB26_ (g := gb128) (o := .cells #[.slice none 0 0, .slice none 0 0] 34 (0, 0)) q26x5_ hb)
         have n6_ := aM26_ (cB26_ q26x3_ hb)
         have n7_ := aM26_ (cB26_ q26x4_ hb)
         have n8_ := aM26_ (bT26_ q26x1_ hb)
         clear HO_4 HO_5 HO147 BK127 BK128 HR144 HR154 HB
         have HO_4 := n0_
         have HO_5 := n1_
         have HO147 := n2_
         have HO150 := n3_
         have BK127 := n4_
         have BK128 := n5_
         have HR144 := n6_
         have HR154 := n7_
         have HB := n8_
         clear n0_ n1_ n2_ n3_ n4_ n5_ n6_ n7_ n8_ hb ho65
         refine hK.out _ _ trivial (fun hHeld => ?_)
         clear hK K
         refine norm_ (a' := ?_) ?_ ?_
         rotate_left
         ·exact q26x47_
         exact norm_ q26x9_ (hJ0_4_5 (v139, v146, v149) _ ⟨q26x16_, q26x25_, q26x8_, q26x7_, q26x2_, q26x5_, q26x3_, q26x4_, q26x1_⟩)
        skip
        refine box_step ?hg (N := 8) ?hd (cs := #[.slice none 0 0, .slice none 0 0]) (t := 34) ?hr ?_; (case hd => rfl); (case hg => rfl); (case hr => first | (go_simp; done) | (go_simp; rfl))
        intro gb158 hg w64 hbox hb
        have n0_ := aM26_ (rB26_ q26x8_ hb)
        have n1_ := aM26_ (rB26_ q26x7_ hb)
        have n2_ := aM26_ (rB26_ q26x12_ hb)
        have n3_ := aM26_ (kB26_ (g := gb127) (o := .cells #[.int .i64 a0_0, .int .i64 a0_1] 24 (0, 0)) q26x2_ hb)
        have n4_ := aM26_ (kB26_ (g := gb128) (o := .cells #[.slice none 0 0, .slice none 0 0] 34 (0, 0)) q26x5_ hb)
        have n5_ := aM26_ (cB26_ q26x3_ hb)
        have n6_ := aM26_ (cB26_ q26x4_ hb)
        have n7_ := aM26_ (bT26_ q26x1_ hb)
        have n8_ := aM26_ (hbox)
        have n9_ := aM26_ ((q26x27_ : w.heap.size ≤ gb158))
        have n10_ := aM26_ ((q26x27_ : w.heap.size ≤ gb158))
        have n11_ := aM26_ ((q26x18_ : gb127 ≠ gb158))
        have n12_ := aM26_ ((q26x19_ : gb158 ≠ gb127))
        have n13_ := aM26_ ((q26x20_ : gb128 ≠ gb158))
        have n14_ := aM26_ ((q26x21_ : gb158 ≠ gb128))
        clear HO_4 HO_5 HO147 BK127 BK128 HR144 HR154 HB
        have HO_4 := n0_
        have HO_5 := n1_
        have HO147 := n2_
        have BK127 := n3_
        have BK128 := n4_
        have HR144 := n5_
        have HR154 := n6_
        have HB := n7_
        have BK158 := n8_
        have GW158 := n9_
        have GE158 := n10_
        have NB127_158 := n11_
        have NB158_127 := n12_
        have NB128_158 := n13_
        have NB158_128 := n14_
        clear n0_ n1_ n2_ n3_ n4_ n5_ n6_ n7_ n8_ n9_ n10_ n11_ n12_ n13_ n14_ hb hbox hg
        refine hK.out _ _ trivial (fun hHeld => ?_)
        clear hK K
        refine norm_ (a' := ?_) ?_ ?_
        rotate_left
        ·exact q26x45_
        exact norm_ q26x9_ (hJ0_4_11 (v139, v146, gb158) _ ⟨q26x12_, q26x8_, q26x7_, q26x2_, q26x5_, q26x10_, q26x3_, q26x4_, GW158.out, GE158.out, NB127_158.out, NB158_127.out, NB128_158.out, NB158_128.out, q26x6_⟩)
       intro hJ0_4
       refine join_ (σ := Value × Value) 5 #[true, true, true, true, false, true, true, true, true, false, false, false, false] (fun s_ => [(39, s_.1), (44, s_.2)]) (fun s_ w' => (Kd.R (Kd.int .i8) 69 w' w.heap.size (fun k_ => some k_ ≠ (s_.2 : Value).ownBlock ∧ some k_ ≠ (.slice Ao58 x5_1.length co58 : Value).ownBlock) s_.1 y138) ∧ (Kd.R (Kd.int .i8) 69 w' w.heap.size (fun k_ => some k_ ≠ (s_.1 : Value).ownBlock ∧ some k_ ≠ (.slice Ao58 x5_1.length co58 : Value).ownBlock) s_.2 y148) ∧ (Kd.R (Kd.int .i64) 2 w' w.heap.size (fun _ => True) (.slice (some ad137) x4_1.length co21) x4_1) ∧ (Kd.R (Kd.int .i8) 69 w' w.heap.size (fun k_ => some k_ ≠ (s_.1 : Value).ownBlock ∧ some k_ ≠ (s_.2 : Value).ownBlock) (.slice Ao58 x5_1.length co58) x5_1) ∧ (w'.heap[gb127]? = some (.cells #[.int .i64 a0_0, .int .i64 a0_1] 24 (0, 0))) ∧ (w'.heap[gb128]? = some (.cells #[.slice none 0 0, .slice none 0 0] 34 (0, 0))) ∧ (Kd.C (Kd.int .i8) w' Ao58 y141.length y141) ∧ (Kd.C (Kd.int .i8) w' A59 y151.length y151) ∧ (Below w.heap.size w w')) ?_ ?_
       rotate_left
       rotate_left
       ·skip
        rintro ⟨v139, v149⟩ w64 ⟨h0_, h1_, h2_, h3_, h4_, h5_, h6_, h7_, h8_⟩
        have n0_ : Aside0 (Kd.R (Kd.int .i8) 69 w64 w.heap.size (fun k_ => some k_ ≠ (v149 : Value).ownBlock ∧ some k_ ≠ (.slice Ao58 x5_1.length co58 : Value).ownBlock) v139 y138) := ⟨h0_⟩
        have n1_ : Aside0 (Kd.R (Kd.int .i8) 69 w64 w.heap.size (fun k_ => some k_ ≠ (v139 : Value).ownBlock ∧ some k_ ≠ (.slice Ao58 x5_1.length co58 : Value).ownBlock) v149 y148) := ⟨h1_⟩
        have n2_ : Aside0 (Kd.R (Kd.int .i64) 2 w64 w.heap.size (fun _ => True) (.slice (some ad137) x4_1.length co21) x4_1) := ⟨h2_⟩
        have n3_ : Aside0 (Kd.R (Kd.int .i8) 69 w64 w.heap.size (fun k_ => some k_ ≠ (v139 : Value).ownBlock ∧ some k_ ≠ (v149 : Value).ownBlock) (.slice Ao58 x5_1.length co58) x5_1) := ⟨h3_⟩
        have n4_ : Aside0 (w64.heap[gb127]? = some (.cells #[.int .i64 a0_0, .int .i64 a0_1] 24 (0, 0))) := ⟨h4_⟩
        have n5_ : Aside0 (w64.heap[gb128]? = some (.cells #[.slice none 0 0, .slice none 0 0] 34 (0, 0))) := ⟨h5_⟩
        have n6_ : Aside0 (Kd.C (Kd.int .i8) w64 Ao58 y141.length y141) := ⟨h6_⟩
        have n7_ : Aside0 (Kd.C (Kd.int .i8) w64 A59 y151.length y151) := ⟨h7_⟩
        have n8_ : Aside0 (Below w.heap.size w w64) := ⟨h8_⟩
        clear HO_4 HO_5 BK127 BK128 HB h0_ h1_ h2_ h3_ h4_ h5_ h6_ h7_ h8_
        have HO140 := n0_
        have HO150 := n1_
        have HO_4 := n2_
        have HO_5 := n3_
        have BK127 := n4_
        have BK128 := n5_
        have HR144 := n6_
        have HR154 := n7_
        have HB := n8_
        clear n0_ n1_ n2_ n3_ n4_ n5_ n6_ n7_ n8_
        have hHeld := trivial
        refine norm_ (a' := ?_) ?_ ?_
        rotate_left
        ·exact q26x44_
        refine two_ (i := 4) (j := 11) (Ni := some 43) (Nj := some 8) #[true, true, true, true, true, true, true, true, true, false, false, false, false] #[true, true, true, true, false, true, true, true, true, false, false, true, false] rfl rfl rfl rfl (two_of HT_.out (by kernel_rfl)) (by decide) (by decide) (fun K hK => ?_) (fun K hK => ?_)
        ·skip
         refine Kd.R_append_rows_step (Kd.int .i8) (w0 := w) w.heap.size (by rfl) (.tmp 39) (.tmp 42) 22 69 (.int .i8 0) 1 rfl Try.underlying22 info69 rfl (by decide) (by omega) v139 y138 y141 _ _ _ (fun k_ => some k_ ≠ (.slice Ao58 x5_1.length co58 : Value).ownBlock ∧ some k_ ≠ (v149 : Value).ownBlock) (fun _ => False) rfl rfl ?aO ?aR (fun _ _ h => h) (fun _ h => h.elim) ?aF ?aB ?aS ?aL ?_
         (case aR => repeat (first | exact q26x3_ | (with_reducible refine Kd.C_alloc ?_ _) | (with_reducible refine Kd.C_drewN ?_ _) | (with_reducible refine Kd.C_drew ?_)))
         (case aB => exact q26x1_)
         (case aF => exact (fun k_ hk => ⟨Kd.fresh' (Kd.R_lt q26x7_) k_ hk, Kd.fresh' (Kd.R_lt q26x13_) k_ hk⟩))
         (case aO => exact q26x26_)
         (case aS => exact (bZ26_ q26x1_))
         (case aL => have := LMc27.out; omega)
         intro v146 w65 ho hb hg hat
         rw [← Ny145.out] at ho
         have n0_ := aM26_ (Kd.R_over' q26x8_ (Kd.R_typed q26x14_) (by decide) hg)
         have n1_ := aM26_ (rF26_ (ok := (fun k_ => some k_ ≠ (v149 : Value).ownBlock)) q26x11_ hg hat)
         have n2_ := aM26_ (kG26_ (g := gb127) (o := .cells #[.int .i64 a0_0, .int .i64 a0_1] 24 (0, 0)) q26x2_ hg (Kd.R_ne HO140.out BK127.out (by decide)))
         have n3_ := aM26_ (kG26_ (g := gb128) (o := .cells #[.slice none 0 0, .slice none 0 0] 34 (0, 0)) q26x5_ hg (Kd.R_ne HO140.out BK128.out (by decide)))
         have n4_ := aM26_ (rF26_ (ok := (fun k_ => some k_ ≠ (.slice Ao58 x5_1.length co58 : Value).ownBlock)) q26x15_ hg hat)
         have n5_ := aM26_ (hb)
         have n6_ := aM26_ ((show Kd.C (Kd.int .i8) w65 Ao58 y141.length y141 from by rw [Ny141.out]; exact Kd.C_take (m := (x7_2 : Int).toNat) ((Kd.R_reads' (rF26_ (ok := (fun k_ => some k_ ≠ (v149 : Value).ownBlock)) q26x11_ hg hat)).2.2) KL57.out))
         have n7_ := aM26_ ((show Kd.C (Kd.int .i8) w65 A59 y151.length y151 from by rw [Ny151.out, KA59.out]; exact Kd.C_drop (m := (x7_2 : Int).toNat) (c := co58) ((Kd.R_reads' (rF26_ (ok := (fun k_ => some k_ ≠ (v149 : Value).ownBlock)) q26x11_ hg hat)).2.2) KL59.out ((Kd.R_reads' (rF26_ (ok := (fun k_ => some k_ ≠ (v149 : Value).ownBlock)) q26x11_ hg hat)).2.1)))
         have n8_ := aM26_ (ho)
         clear HO_4 HO_5 BK127 BK128 HO150 HB HR144 HR154 HO140
         have HO_4 := n0_
         have HO_5 := n1_
         have BK127 := n2_
         have BK128 := n3_
         have HO150 := n4_
         have HB := n5_
         have HR144 := n6_
         have HR154 := n7_
         have HO147 := n8_
         clear n0_ n1_ n2_ n3_ n4_ n5_ n6_ n7_ n8_ ho hb hg hat
         refine hK.out _ _ trivial (fun hHeld => ?_)
         clear hK K
         refine norm_ (a' := ?_) ?_ ?_
         rotate_left
         ·exact q26x48_
         exact norm_ q26x9_ (hJ0_4_5 (v139, v146, v149) _ ⟨q26x16_, q26x15_, q26x8_, q26x11_, q26x2_, q26x5_, q26x3_, q26x4_, q26x1_⟩)
        skip
        refine box_step ?hg (N := 8) ?hd (cs := #[.slice none 0 0, .slice none 0 0]) (t := 34) ?hr ?_; (case hd => rfl); (case hg => rfl); (case hr => first | (go_simp; done) | (go_simp; rfl))
        intro gb158 hg w65 hbox hb
        have n0_ := aM26_ (rB26_ q26x8_ hb)
        have n1_ := aM26_ (rB26_ q26x7_ hb)
        have n2_ := aM26_ (rB26_ q26x14_ hb)
        have n3_ := aM26_ (rB26_ q26x13_ hb)
        have n4_ := aM26_ (kB26_ (g := gb127) (o := .cells #[.int .i64 a0_0, .int .i64 a0_1] 24 (0, 0)) q26x2_ hb)
        have n5_ := aM26_ (kB26_ (g := gb128) (o := .cells #[.slice none 0 0, .slice none 0 0] 34 (0, 0)) q26x5_ hb)
        have n6_ := aM26_ (cB26_ q26x3_ hb)
        have n7_ := aM26_ (cB26_ q26x4_ hb)
        have n8_ := aM26_ (bT26_ q26x1_ hb)
        have n9_ := aM26_ (hbox)
        have n10_ := aM26_ ((q26x27_ : w.heap.size ≤ gb158))
        have n11_ := aM26_ ((q26x27_ : w.heap.size ≤ gb158))
        have n12_ := aM26_ ((q26x18_ : gb127 ≠ gb158))
        have n13_ := aM26_ ((q26x19_ : gb158 ≠ gb127))
        have n14_ := aM26_ ((q26x20_ : gb128 ≠ gb158))
        have n15_ := aM26_ ((q26x21_ : gb158 ≠ gb128))
        clear HO_4 HO_5 HO140 HO150 BK127 BK128 HR144 HR154 HB
        have HO_4 := n0_
        have HO_5 := n1_
        have HO140 := n2_
        have HO150 := n3_
        have BK127 := n4_
        have BK128 := n5_
        have HR144 := n6_
        have HR154 := n7_
        have HB := n8_
        have BK158 := n9_
        have GW158 := n10_
        have GE158 := n11_
        have NB127_158 := n12_
        have NB158_127 := n13_
        have NB128_158 := n14_
        have NB158_128 := n15_
        clear n0_ n1_ n2_ n3_ n4_ n5_ n6_ n7_ n8_ n9_ n10_ n11_ n12_ n13_ n14_ n15_ hb hbox hg
        refine hK.out _ _ trivial (fun hHeld => ?_)
        clear hK K
        refine norm_ (a' := ?_) ?_ ?_
        rotate_left
        ·exact q26x45_
        exact norm_ q26x9_ (hJ0_5_11 (v139, v149, gb158) _ ⟨q26x14_, q26x13_, q26x8_, q26x7_, q26x2_, q26x5_, q26x10_, q26x3_, q26x4_, GW158.out, GE158.out, NB127_158.out, NB158_127.out, NB128_158.out, NB158_128.out, q26x6_⟩)
       intro hJ0_5
       refine join_ (σ := Value × Nat) 5 #[true, true, true, true, false, false, true, true, true, false, false, true, false] (fun s_ => [(39, s_.1), (8, .pointer (some ⟨s_.2, 0, none⟩))]) (fun s_ w' => (Kd.R (Kd.int .i8) 69 w' w.heap.size (fun k_ => some k_ ≠ (.slice Ao58 x5_1.length co58 : Value).ownBlock) s_.1 y138) ∧ (Kd.R (Kd.int .i64) 2 w' w.heap.size (fun _ => True) (.slice (some ad137) x4_1.length co21) x4_1) ∧ (Kd.R (Kd.int .i8) 69 w' w.heap.size (fun k_ => some k_ ≠ (s_.1 : Value).ownBlock) (.slice Ao58 x5_1.length co58) x5_1) ∧ (w'.heap[gb127]? = some (.cells #[.int .i64 a0_0, .int .i64 a0_1] 24 (0, 0))) ∧ (w'.heap[gb128]? = some (.cells #[.slice none 0 0, .slice none 0 0] 34 (0, 0))) ∧ (w'.heap[s_.2]? = some (.cells #[.slice none 0 0, .slice none 0 0] 34 (0, 0))) ∧ (Kd.C (Kd.int .i8) w' Ao58 y141.length y141) ∧ (Kd.C (Kd.int .i8) w' A59 y151.length y151) ∧ (w.heap.size ≤ s_.2) ∧ (w.heap.size ≤ s_.2) ∧ (gb127 ≠ s_.2) ∧ (s_.2 ≠ gb127) ∧ (gb128 ≠ s_.2) ∧ (s_.2 ≠ gb128) ∧ (Below w.heap.size w w')) ?_ ?_
       rotate_left
       rotate_left
       ·skip
        rintro ⟨v139, gb158⟩ w63 ⟨h0_, h1_, h2_, h3_, h4_, h5_, h6_, h7_, h8_, h9_, h10_, h11_, h12_, h13_, h14_⟩
        have n0_ : Aside0 (Kd.R (Kd.int .i8) 69 w63 w.heap.size (fun k_ => some k_ ≠ (.slice Ao58 x5_1.length co58 : Value).ownBlock) v139 y138) := ⟨h0_⟩
        have n1_ : Aside0 (Kd.R (Kd.int .i64) 2 w63 w.heap.size (fun _ => True) (.slice (some ad137) x4_1.length co21) x4_1) := ⟨h1_⟩
        have n2_ : Aside0 (Kd.R (Kd.int .i8) 69 w63 w.heap.size (fun k_ => some k_ ≠ (v139 : Value).ownBlock) (.slice Ao58 x5_1.length co58) x5_1) := ⟨h2_⟩
        have n3_ : Aside0 (w63.heap[gb127]? = some (.cells #[.int .i64 a0_0, .int .i64 a0_1] 24 (0, 0))) := ⟨h3_⟩
        have n4_ : Aside0 (w63.heap[gb128]? = some (.cells #[.slice none 0 0, .slice none 0 0] 34 (0, 0))) := ⟨h4_⟩
        have n5_ : Aside0 (w63.heap[gb158]? = some (.cells #[.slice none 0 0, .slice none 0 0] 34 (0, 0))) := ⟨h5_⟩
        have n6_ : Aside0 (Kd.C (Kd.int .i8) w63 Ao58 y141.length y141) := ⟨h6_⟩
        have n7_ : Aside0 (Kd.C (Kd.int .i8) w63 A59 y151.length y151) := ⟨h7_⟩
        have n8_ : Aside0 (w.heap.size ≤ gb158) := ⟨h8_⟩
        have n9_ : Aside0 (w.heap.size ≤ gb158) := ⟨h9_⟩
        have n10_ : Aside0 (gb127 ≠ gb158) := ⟨h10_⟩
        have n11_ : Aside0 (gb158 ≠ gb127) := ⟨h11_⟩
        have n12_ : Aside0 (gb128 ≠ gb158) := ⟨h12_⟩
        have n13_ : Aside0 (gb158 ≠ gb128) := ⟨h13_⟩
        have n14_ : Aside0 (Below w.heap.size w w63) := ⟨h14_⟩
        clear HO_4 HO_5 BK127 BK128 HB h0_ h1_ h2_ h3_ h4_ h5_ h6_ h7_ h8_ h9_ h10_ h11_ h12_ h13_ h14_
        have HO140 := n0_
        have HO_4 := n1_
        have HO_5 := n2_
        have BK127 := n3_
        have BK128 := n4_
        have BK158 := n5_
        have HR144 := n6_
        have HR154 := n7_
        have GW158 := n8_
        have GE158 := n9_
        have NB127_158 := n10_
        have NB158_127 := n11_
        have NB128_158 := n12_
        have NB158_128 := n13_
        have HB := n14_
        clear n0_ n1_ n2_ n3_ n4_ n5_ n6_ n7_ n8_ n9_ n10_ n11_ n12_ n13_ n14_
        have hHeld := trivial
        refine norm_ (a' := ?_) ?_ ?_
        rotate_left
        ·exact q26x44_
        refine two_ (i := 4) (j := 5) (Ni := some 43) (Nj := some 44) #[true, true, true, true, true, false, true, true, true, false, false, true, false] #[true, true, true, true, false, true, true, true, true, false, false, true, false] rfl rfl rfl rfl (two_of HT_.out (by kernel_rfl)) (by decide) (by decide) (fun K hK => ?_) (fun K hK => ?_)
        rotate_left
        ·skip
         refine Kd.R_lit_step (Kd.int .i8) _ 69 ?hg (N := 44) ?hd (xs := ([] : List Int)) (inner := []) (ok := fun _ => True) (okp := fun _ => True) ?hr ?hp (fun _ hk => hk) trivial (Below.refl _ _) (Nat.le_refl _) (by simp) ?_; (case hd => rfl); (case hg => rfl); (case hr => first | (go_simp; done) | (go_simp; rfl)); (case hp => exact (Reps.none _ _))
         intro v149 w64 ho65 hb hg_ hnew_
         clear hg_ hnew_
         (first | rw [← Ny148.out] at ho65 | (simp only [Int.reduceToNat] at ho65; rw [← Ny148.out] at ho65))
         have n0_ := aM26_ (rB26_ q26x8_ hb)
         have n1_ := aM26_ (Kd.R_elder' q26x7_ (Kd.R_base ho65) hb)
         have n2_ := aM26_ (Kd.R_elder' q26x14_ (Kd.R_base ho65) hb)
         have n3_ := aM26_ (Kd.R_lower (Kd.R_new' (Kd.R_new' ho65 (Kd.R_lt q26x7_)) (Kd.R_lt q26x14_)) (bZ26_ q26x6_))
         have n4_ := aM26_ (kB26_ (g := gb127) (o := .cells #[.int .i64 a0_0, .int .i64 a0_1] 24 (0, 0)) q26x2_ hb)
         have n5_ := aM26_ (kB26_ (g := gb128) (o := .cells #[.slice none 0 0, .slice none 0 0] 34 (0, 0)) q26x5_ hb)
         have n6_ := aM26_ (cB26_ q26x3_ hb)
         have n7_ := aM26_ (cB26_ q26x4_ hb)
         have n8_ := aM26_ (kB26_ (g := gb158) (o := .cells #[.slice none 0 0, .slice none 0 0] 34 (0, 0)) q26x10_ hb)
         have n9_ := aM26_ (bT26_ q26x6_ hb)
         clear HO_4 HO_5 HO140 BK127 BK128 HR144 HR154 BK158 HB
         have HO_4 := n0_
         have HO_5 := n1_
         have HO140 := n2_
         have HO150 := n3_
         have BK127 := n4_
         have BK128 := n5_
         have HR144 := n6_
         have HR154 := n7_
         have BK158 := n8_
         have HB := n9_
         clear n0_ n1_ n2_ n3_ n4_ n5_ n6_ n7_ n8_ n9_ hb ho65
         refine hK.out _ _ trivial (fun hHeld => ?_)
         clear hK K
         refine norm_ (a' := ?_) ?_ ?_
         rotate_left
         ·exact q26x47_
         exact norm_ q26x9_ (hJ0_5_11 (v139, v149, gb158) _ ⟨q26x26_, q26x25_, q26x8_, q26x7_, q26x2_, q26x5_, q26x10_, q26x3_, q26x4_, GW158.out, GE158.out, NB127_158.out, NB158_127.out, NB128_158.out, NB158_128.out, q26x6_⟩)
        skip
        refine Kd.R_append_rows_step (Kd.int .i8) (w0 := w) w.heap.size (by rfl) (.tmp 39) (.tmp 42) 22 69 (.int .i8 0) 1 rfl Try.underlying22 info69 rfl (by decide) (by omega) v139 y138 y141 _ _ _ (fun k_ => some k_ ≠ (.slice Ao58 x5_1.length co58 : Value).ownBlock) (fun _ => False) rfl rfl ?aO ?aR (fun _ _ h => h) (fun _ h => h.elim) ?aF ?aB ?aS ?aL ?_
        (case aR => repeat (first | exact q26x3_ | (with_reducible refine Kd.C_alloc ?_ _) | (with_reducible refine Kd.C_drewN ?_ _) | (with_reducible refine Kd.C_drew ?_)))
        (case aB => exact q26x6_)
        (case aF => exact (fun k_ hk => Kd.fresh' (Kd.R_lt q26x7_) k_ hk))
        (case aO => exact q26x14_)
        (case aS => exact (bZ26_ q26x6_))
        (case aL => have := LMc27.out; omega)
        intro v146 w64 ho hb hg hat
        rw [← Ny145.out] at ho
        have n0_ := aM26_ (Kd.R_over' q26x8_ (Kd.R_typed q26x14_) (by decide) hg)
        have n1_ := aM26_ (rF26_ (ok := (fun _ => True)) q26x17_ hg hat)
        have n2_ := aM26_ (kG26_ (g := gb127) (o := .cells #[.int .i64 a0_0, .int .i64 a0_1] 24 (0, 0)) q26x2_ hg (Kd.R_ne HO140.out BK127.out (by decide)))
        have n3_ := aM26_ (kG26_ (g := gb128) (o := .cells #[.slice none 0 0, .slice none 0 0] 34 (0, 0)) q26x5_ hg (Kd.R_ne HO140.out BK128.out (by decide)))
        have n4_ := aM26_ (kG26_ (g := gb158) (o := .cells #[.slice none 0 0, .slice none 0 0] 34 (0, 0)) q26x10_ hg (Kd.R_ne HO140.out BK158.out (by decide)))
        have n5_ := aM26_ (hb)
        have n6_ := aM26_ ((show Kd.C (Kd.int .i8) w64 Ao58 y141.length y141 from by rw [Ny141.out]; exact Kd.C_take (m := (x7_2 : Int).toNat) ((Kd.R_reads' (rF26_ (ok := (fun _ => True)) q26x17_ hg hat)).2.2) KL57.out))
        have n7_ := aM26_ ((show Kd.C (Kd.int .i8) w64 A59 y151.length y151 from by rw [Ny151.out, KA59.out]; exact Kd.C_drop (m := (x7_2 : Int).toNat) (c := co58) ((Kd.R_reads' (rF26_ (ok := (fun _ => True)) q26x17_ hg hat)).2.2) KL59.out ((Kd.R_reads' (rF26_ (ok := (fun _ => True)) q26x17_ hg hat)).2.1)))
        have n8_ := aM26_ (ho)
        clear HO_4 HO_5 BK127 BK128 BK158 HB HR144 HR154 HO140
        have HO_4 := n0_
        have HO_5 := n1_
        have BK127 := n2_
        have BK128 := n3_
        have BK158 := n4_
        have HB := n5_
        have HR144 := n6_
        have HR154 := n7_
        have HO147 := n8_
        clear n0_ n1_ n2_ n3_ n4_ n5_ n6_ n7_ n8_ ho hb hg hat
        refine hK.out _ _ trivial (fun hHeld => ?_)
        clear hK K
        refine norm_ (a' := ?_) ?_ ?_
        rotate_left
        ·exact q26x48_
        exact norm_ q26x9_ (hJ0_4_11 (v139, v146, gb158) _ ⟨q26x12_, q26x8_, q26x22_, q26x2_, q26x5_, q26x10_, q26x3_, q26x4_, GW158.out, GE158.out, NB127_158.out, NB158_127.out, NB128_158.out, NB158_128.out, q26x6_⟩)
       intro hJ0_11
       refine join_ (σ := Value × Nat) 5 #[false, true, true, true, false, true, true, true, true, false, false, true, false] (fun s_ => [(44, s_.1), (8, .pointer (some ⟨s_.2, 0, none⟩))]) (fun s_ w' => (Kd.R (Kd.int .i8) 69 w' w.heap.size (fun k_ => some k_ ≠ (.slice Ao58 x5_1.length co58 : Value).ownBlock) s_.1 y148) ∧ (Kd.R (Kd.int .i64) 2 w' w.heap.size (fun _ => True) (.slice (some ad137) x4_1.length co21) x4_1) ∧ (Kd.R (Kd.int .i8) 69 w' w.heap.size (fun k_ => some k_ ≠ (s_.1 : Value).ownBlock) (.slice Ao58 x5_1.length co58) x5_1) ∧ (w'.heap[gb127]? = some (.cells #[.int .i64 a0_0, .int .i64 a0_1] 24 (0, 0))) ∧ (w'.heap[gb128]? = some (.cells #[.slice none 0 0, .slice none 0 0] 34 (0, 0))) ∧ (w'.heap[s_.2]? = some (.cells #[.slice none 0 0, .slice none 0 0] 34 (0, 0))) ∧ (Kd.C (Kd.int .i8) w' Ao58 y141.length y141) ∧ (Kd.C (Kd.int .i8) w' A59 y151.length y151) ∧ (w.heap.size ≤ s_.2) ∧ (w.heap.size ≤ s_.2) ∧ (gb127 ≠ s_.2) ∧ (s_.2 ≠ gb127) ∧ (gb128 ≠ s_.2) ∧ (s_.2 ≠ gb128) ∧ (Below w.heap.size w w')) ?_ ?_
       rotate_left
       rotate_left
       ·skip
        rintro ⟨v149, gb158⟩ w63 ⟨h0_, h1_, h2_, h3_, h4_, h5_, h6_, h7_, h8_, h9_, h10_, h11_, h12_, h13_, h14_⟩
        have n0_ : Aside0 (Kd.R (Kd.int .i8) 69 w63 w.heap.size (fun k_ => some k_ ≠ (.slice Ao58 x5_1.length co58 : Value).ownBlock) v149 y148) := ⟨h0_⟩
        have n1_ : Aside0 (Kd.R (Kd.int .i64) 2 w63 w.heap.size (fun _ => True) (.slice (some ad137) x4_1.length co21) x4_1) := ⟨h1_⟩
        have n2_ : Aside0 (Kd.R (Kd.int .i8) 69 w63 w.heap.size (fun k_ => some k_ ≠ (v149 : Value).ownBlock) (.slice Ao58 x5_1.length co58) x5_1) := ⟨h2_⟩
        have n3_ : Aside0 (w63.heap[gb127]? = some (.cells #[.int .i64 a0_0, .int .i64 a0_1] 24 (0, 0))) := ⟨h3_⟩
        have n4_ : Aside0 (w63.heap[gb128]? = some (.cells #[.slice none 0 0, .slice none 0 0] 34 (0, 0))) := ⟨h4_⟩
        have n5_ : Aside0 (w63.heap[gb158]? = some (.cells #[.slice none 0 0, .slice none 0 0] 34 (0, 0))) := ⟨h5_⟩
        have n6_ : Aside0 (Kd.C (Kd.int .i8) w63 Ao58 y141.length y141) := ⟨h6_⟩
        have n7_ : Aside0 (Kd.C (Kd.int .i8) w63 A59 y151.length y151) := ⟨h7_⟩
        have n8_ : Aside0 (w.heap.size ≤ gb158) := ⟨h8_⟩
        have n9_ : Aside0 (w.heap.size ≤ gb158) := ⟨h9_⟩
        have n10_ : Aside0 (gb127 ≠ gb158) := ⟨h10_⟩
        have n11_ : Aside0 (gb158 ≠ gb127) := ⟨h11_⟩
        have n12_ : Aside0 (gb128 ≠ gb158) := ⟨h12_⟩
        have n13_ : Aside0 (gb158 ≠ gb128) := ⟨h13_⟩
        have n14_ : Aside0 (Below w.heap.size w w63) := ⟨h14_⟩
        clear HO_4 HO_5 BK127 BK128 HB h0_ h1_ h2_ h3_ h4_ h5_ h6_ h7_ h8_ h9_ h10_ h11_ h12_ h13_ h14_
        have HO150 := n0_
        have HO_4 := n1_
        have HO_5 := n2_
        have BK127 := n3_
        have BK128 := n4_
        have BK158 := n5_
        have HR144 := n6_
        have HR154 := n7_
        have GW158 := n8_
        have GE158 := n9_
        have NB127_158 := n10_
        have NB158_127 := n11_
        have NB128_158 := n12_
        have NB158_128 := n13_
        have HB := n14_
        clear n0_ n1_ n2_ n3_ n4_ n5_ n6_ n7_ n8_ n9_ n10_ n11_ n12_ n13_ n14_
        have hHeld := trivial
        refine norm_ (a' := ?_) ?_ ?_
        rotate_left
        ·exact q26x44_
        refine one_ (i := 0) (N := some 39) #[true, true, true, true, false, true, true, true, true, false, false, true, false] rfl rfl (one_of HT_.out (by kernel_rfl)) (by decide) (fun K hK => ?_)
        refine Kd.R_lit_step (Kd.int .i8) _ 69 ?hg (N := 39) ?hd (xs := ([] : List Int)) (inner := []) (ok := fun _ => True) (okp := fun _ => True) ?hr ?hp (fun _ hk => hk) trivial (Below.refl _ _) (Nat.le_refl _) (by simp) ?_; (case hd => rfl); (case hg => rfl); (case hr => first | (go_simp; done) | (go_simp; rfl)); (case hp => exact (Reps.none _ _))
        intro v139 w64 ho65 hb hg_ hnew_
        clear hg_ hnew_
        (first | rw [← Ny138.out] at ho65 | (simp only [Int.reduceToNat] at ho65; rw [← Ny138.out] at ho65))
        have n0_ := aM26_ (rB26_ q26x8_ hb)
        have n1_ := aM26_ (Kd.R_elder' q26x7_ (Kd.R_base ho65) hb)
        have n2_ := aM26_ (Kd.R_elder' q26x13_ (Kd.R_base ho65) hb)
        have n3_ := aM26_ (Kd.R_lower (Kd.R_new' (Kd.R_new' ho65 (Kd.R_lt q26x7_)) (Kd.R_lt q26x13_)) (bZ26_ q26x6_))
        have n4_ := aM26_ (kB26_ (g := gb127) (o := .cells #[.int .i64 a0_0, .int .i64 a0_1] 24 (0, 0)) q26x2_ hb)
        have n5_ := aM26_ (kB26_ (g := gb128) (o := .cells #[.slice none 0 0, .slice none 0 0] 34 (0, 0)) q26x5_ hb)
        have n6_ := aM26_ (cB26_ q26x3_ hb)
        have n7_ := aM26_ (cB26_ q26x4_ hb)
        have n8_ := aM26_ (kB26_ (g := gb158) (o := .cells #[.slice none 0 0, .slice none 0 0] 34 (0, 0)) q26x10_ hb)
        have n9_ := aM26_ (bT26_ q26x6_ hb)
        clear HO_4 HO_5 HO150 BK127 BK128 HR144 HR154 BK158 HB
        have HO_4 := n0_
        have HO_5 := n1_
        have HO150 := n2_
        have HO140 := n3_
        have BK127 := n4_
        have BK128 := n5_
        have HR144 := n6_
        have HR154 := n7_
        have BK158 := n8_
        have HB := n9_
        clear n0_ n1_ n2_ n3_ n4_ n5_ n6_ n7_ n8_ n9_ hb ho65
        refine hK.out _ _ trivial (fun hHeld => ?_)
        clear hK K
        refine norm_ (a' := ?_) ?_ ?_
        rotate_left
        ·exact q26x49_
        exact norm_ q26x9_ (hJ0_5_11 (v139, v149, gb158) _ ⟨q26x33_, q26x15_, q26x8_, q26x11_, q26x2_, q26x5_, q26x10_, q26x3_, q26x4_, GW158.out, GE158.out, NB127_158.out, NB158_127.out, NB128_158.out, NB158_128.out, q26x6_⟩)
       intro hJ5_11
       refine join_ (σ := Value) 6 #[true, true, true, true, false, false, true, true, true, false, false, false, false] (fun s_ => [(39, s_)]) (fun s_ w' => (Kd.R (Kd.int .i8) 69 w' w.heap.size (fun k_ => some k_ ≠ (.slice Ao58 x5_1.length co58 : Value).ownBlock) s_ y138) ∧ (Kd.R (Kd.int .i64) 2 w' w.heap.size (fun _ => True) (.slice (some ad137) x4_1.length co21) x4_1) ∧ (Kd.R (Kd.int .i8) 69 w' w.heap.size (fun k_ => some k_ ≠ (s_ : Value).ownBlock) (.slice Ao58 x5_1.length co58) x5_1) ∧ (w'.heap[gb127]? = some (.cells #[.int .i64 a0_0, .int .i64 a0_1] 24 (0, 0))) ∧ (w'.heap[gb128]? = some (.cells #[.slice none 0 0, .slice none 0 0] 34 (0, 0))) ∧ (Kd.C (Kd.int .i8) w' Ao58 y141.length y141) ∧ (Kd.C (Kd.int .i8) w' A59 y151.length y151) ∧ (Below w.heap.size w w')) ?_ ?_
       rotate_left
       rotate_left
       ·skip
        rintro v139 w62 ⟨h0_, h1_, h2_, h3_, h4_, h5_, h6_, h7_⟩
        have n0_ : Aside0 (Kd.R (Kd.int .i8) 69 w62 w.heap.size (fun k_ => some k_ ≠ (.slice Ao58 x5_1.length co58 : Value).ownBlock) v139 y138) := ⟨h0_⟩
        have n1_ : Aside0 (Kd.R (Kd.int .i64) 2 w62 w.heap.size (fun _ => True) (.slice (some ad137) x4_1.length co21) x4_1) := ⟨h1_⟩
        have n2_ : Aside0 (Kd.R (Kd.int .i8) 69 w62 w.heap.size (fun k_ => some k_ ≠ (v139 : Value).ownBlock) (.slice Ao58 x5_1.length co58) x5_1) := ⟨h2_⟩
        have n3_ : Aside0 (w62.heap[gb127]? = some (.cells #[.int .i64 a0_0, .int .i64 a0_1] 24 (0, 0))) := ⟨h3_⟩
        have n4_ : Aside0 (w62.heap[gb128]? = some (.cells #[.slice none 0 0, .slice none 0 0] 34 (0, 0))) := ⟨h4_⟩
        have n5_ : Aside0 (Kd.C (Kd.int .i8) w62 Ao58 y141.length y141) := ⟨h5_⟩
        have n6_ : Aside0 (Kd.C (Kd.int .i8) w62 A59 y151.length y151) := ⟨h6_⟩
        have n7_ : Aside0 (Below w.heap.size w w62) := ⟨h7_⟩
        clear HO_4 HO_5 BK127 BK128 HB h0_ h1_ h2_ h3_ h4_ h5_ h6_ h7_
        have HO140 := n0_
        have HO_4 := n1_
        have HO_5 := n2_
        have BK127 := n3_
        have BK128 := n4_
        have HR144 := n5_
        have HR154 := n6_
        have HB := n7_
        clear n0_ n1_ n2_ n3_ n4_ n5_ n6_ n7_
        have hHeld := trivial
        refine norm_ (a' := ?_) ?_ ?_
        rotate_left
        ·exact q26x44_
        refine three_ (i := 4) (j := 5) (k := 11) (Ni := some 43) (Nj := some 44) (Nk := some 8) #[true, true, true, true, true, false, true, true, true, false, false, false, false] #[true, true, true, true, false, true, true, true, true, false, false, false, false] #[true, true, true, true, false, false, true, true, true, false, false, true, false] rfl rfl rfl rfl rfl rfl (three_of HT_.out (by kernel_rfl)) (by decide) (by decide) (by decide) (fun K hK => ?_) (fun K hK => ?_) (fun K hK => ?_)
        ·skip
         refine Kd.R_append_rows_step (Kd.int .i8) (w0 := w) w.heap.size (by rfl) (.tmp 39) (.tmp 42) 22 69 (.int .i8 0) 1 rfl Try.underlying22 info69 rfl (by decide) (by omega) v139 y138 y141 _ _ _ (fun k_ => some k_ ≠ (.slice Ao58 x5_1.length co58 : Value).ownBlock) (fun _ => False) rfl rfl ?aO ?aR (fun _ _ h => h) (fun _ h => h.elim) ?aF ?aB ?aS ?aL ?_
         (case aR => repeat (first | exact q26x3_ | (with_reducible refine Kd.C_alloc ?_ _) | (with_reducible refine Kd.C_drewN ?_ _) | (with_reducible refine Kd.C_drew ?_)))
         (case aB => exact q26x1_)
         (case aF => exact (fun k_ hk => Kd.fresh' (Kd.R_lt q26x7_) k_ hk))
         (case aO => exact q26x14_)
         (case aS => exact (bZ26_ q26x1_))
         (case aL => have := LMc27.out; omega)
         intro v146 w63 ho hb hg hat
         rw [← Ny145.out] at ho
         have n0_ := aM26_ (Kd.R_over' q26x8_ (Kd.R_typed q26x14_) (by decide) hg)
         have n1_ := aM26_ (rF26_ (ok := (fun _ => True)) q26x17_ hg hat)
         have n2_ := aM26_ (kG26_ (g := gb127) (o := .cells #[.int .i64 a0_0, .int .i64 a0_1] 24 (0, 0)) q26x2_ hg (Kd.R_ne HO140.out BK127.out (by decide)))
         have n3_ := aM26_ (kG26_ (g := gb128) (o := .cells #[.slice none 0 0, .slice none 0 0] 34 (0, 0)) q26x5_ hg (Kd.R_ne HO140.out BK128.out (by decide)))
         have n4_ := aM26_ (hb)
         have n5_ := aM26_ ((show Kd.C (Kd.int .i8) w63 Ao58 y141.length y141 from by rw [Ny141.out]; exact Kd.C_take (m := (x7_2 : Int).toNat) ((Kd.R_reads' (rF26_ (ok := (fun _ => True)) q26x17_ hg hat)).2.2) KL57.out))
         have n6_ := aM26_ ((show Kd.C (Kd.int .i8) w63 A59 y151.length y151 from by rw [Ny151.out, KA59.out]; exact Kd.C_drop (m := (x7_2 : Int).toNat) (c := co58) ((Kd.R_reads' (rF26_ (ok := (fun _ => True)) q26x17_ hg hat)).2.2) KL59.out ((Kd.R_reads' (rF26_ (ok := (fun _ => True)) q26x17_ hg hat)).2.1)))
         have n7_ := aM26_ (ho)
         clear HO_4 HO_5 BK127 BK128 HB HR144 HR154 HO140
         have HO_4 := n0_
         have HO_5 := n1_
         have BK127 := n2_
         have BK128 := n3_
         have HB := n4_
         have HR144 := n5_
         have HR154 := n6_
         have HO147 := n7_
         clear n0_ n1_ n2_ n3_ n4_ n5_ n6_ n7_ ho hb hg hat
         refine hK.out _ _ trivial (fun hHeld => ?_)
         clear hK K
         refine norm_ (a' := ?_) ?_ ?_
         rotate_left
         ·exact q26x48_
         exact norm_ q26x9_ (hJ0_4 (v139, v146) _ ⟨q26x12_, q26x8_, q26x22_, q26x2_, q26x5_, q26x3_, q26x4_, q26x1_⟩)
        ·skip
         refine Kd.R_lit_step (Kd.int .i8) _ 69 ?hg (N := 44) ?hd (xs := ([] : List Int)) (inner := []) (ok := fun _ => True) (okp := fun _ => True) ?hr ?hp (fun _ hk => hk) trivial (Below.refl _ _) (Nat.le_refl _) (by simp) ?_; (case hd => rfl); (case hg => rfl); (case hr => first | (go_simp; done) | (go_simp; rfl)); (case hp => exact (Reps.none _ _))
         intro v149 w63 ho64 hb hg_ hnew_
         clear hg_ hnew_
         (first | rw [← Ny148.out] at ho64 | (simp only [Int.reduceToNat] at ho64; rw [← Ny148.out] at ho64))
         have n0_ := aM26_ (rB26_ q26x8_ hb)
         have n1_ := aM26_ (Kd.R_elder' q26x7_ (Kd.R_base ho64) hb)
         have n2_ := aM26_ (Kd.R_elder' q26x14_ (Kd.R_base ho64) hb)
         have n3_ := aM26_ (Kd.R_lower (Kd.R_new' (Kd.R_new' ho64 (Kd.R_lt q26x7_)) (Kd.R_lt q26x14_)) (bZ26_ q26x1_))
         have n4_ := aM26_ (kB26_ (g := gb127) (o := .cells #[.int .i64 a0_0, .int .i64 a0_1] 24 (0, 0)) q26x2_ hb)
         have n5_ := aM26_ (kB26_ (g := gb128) (o := .cells #[.slice none 0 0, .slice none 0 0] 34 (0, 0)) q26x5_ hb)
         have n6_ := aM26_ (cB26_ q26x3_ hb)
         have n7_ := aM26_ (cB26_ q26x4_ hb)
         have n8_ := aM26_ (bT26_ q26x1_ hb)
         clear HO_4 HO_5 HO140 BK127 BK128 HR144 HR154 HB
         have HO_4 := n0_
         have HO_5 := n1_
         have HO140 := n2_
         have HO150 := n3_
         have BK127 := n4_
         have BK128 := n5_
         have HR144 := n6_
         have HR154 := n7_
         have HB := n8_
         clear n0_ n1_ n2_ n3_ n4_ n5_ n6_ n7_ n8_ hb ho64
         refine hK.out _ _ trivial (fun hHeld => ?_)
         clear hK K
         refine norm_ (a' := ?_) ?_ ?_
         rotate_left
         ·exact q26x47_
         exact norm_ q26x9_ (hJ0_5 (v139, v149) _ ⟨q26x26_, q26x25_, q26x8_, q26x7_, q26x2_, q26x5_, q26x3_, q26x4_, q26x1_⟩)
        skip
        refine box_step ?hg (N := 8) ?hd (cs := #[.slice none 0 0, .slice none 0 0]) (t := 34) ?hr ?_; (case hd => rfl); (case hg => rfl); (case hr => first | (go_simp; done) | (go_simp; rfl))
        intro gb158 hg w63 hbox hb
        have n0_ := aM26_ (rB26_ q26x8_ hb)
        have n1_ := aM26_ (rB26_ q26x7_ hb)
        have n2_ := aM26_ (rB26_ q26x14_ hb)
        have n3_ := aM26_ (kB26_ (g := gb127) (o := .cells #[.int .i64 a0_0, .int .i64 a0_1] 24 (0, 0)) q26x2_ hb)
        have n4_ := aM26_ (kB26_ (g := gb128) (o := .cells #[.slice none 0 0, .slice none 0 0] 34 (0, 0)) q26x5_ hb)
        have n5_ := aM26_ (cB26_ q26x3_ hb)
        have n6_ := aM26_ (cB26_ q26x4_ hb)
        have n7_ := aM26_ (bT26_ q26x1_ hb)
        have n8_ := aM26_ (hbox)
        have n9_ := aM26_ ((q26x27_ : w.heap.size ≤ gb158))
        have n10_ := aM26_ ((q26x27_ : w.heap.size ≤ gb158))
        have n11_ := aM26_ ((q26x18_ : gb127 ≠ gb158))
        have n12_ := aM26_ ((q26x19_ : gb158 ≠ gb127))
        have n13_ := aM26_ ((q26x20_ : gb128 ≠ gb158))
        have n14_ := aM26_ ((q26x21_ : gb158 ≠ gb128))
        clear HO_4 HO_5 HO140 BK127 BK128 HR144 HR154 HB
        have HO_4 := n0_
        have HO_5 := n1_
        have HO140 := n2_
        have BK127 := n3_
        have BK128 := n4_
        have HR144 := n5_
        have HR154 := n6_
        have HB := n7_
        have BK158 := n8_
        have GW158 := n9_
        have GE158 := n10_
        have NB127_158 := n11_
        have NB158_127 := n12_
        have NB128_158 := n13_
        have NB158_128 := n14_
        clear n0_ n1_ n2_ n3_ n4_ n5_ n6_ n7_ n8_ n9_ n10_ n11_ n12_ n13_ n14_ hb hbox hg
        refine hK.out _ _ trivial (fun hHeld => ?_)
        clear hK K
        refine norm_ (a' := ?_) ?_ ?_
        rotate_left
        ·exact q26x45_
        exact norm_ q26x9_ (hJ0_11 (v139, gb158) _ ⟨q26x14_, q26x8_, q26x7_, q26x2_, q26x5_, q26x10_, q26x3_, q26x4_, GW158.out, GE158.out, NB127_158.out, NB158_127.out, NB128_158.out, NB158_128.out, q26x6_⟩)
       intro hJ0
       refine join_ (σ := Value) 6 #[false, true, true, true, false, true, true, true, true, false, false, false, false] (fun s_ => [(44, s_)]) (fun s_ w' => (Kd.R (Kd.int .i8) 69 w' w.heap.size (fun k_ => some k_ ≠ (.slice Ao58 x5_1.length co58 : Value).ownBlock) s_ y148) ∧ (Kd.R (Kd.int .i64) 2 w' w.heap.size (fun _ => True) (.slice (some ad137) x4_1.length co21) x4_1) ∧ (Kd.R (Kd.int .i8) 69 w' w.heap.size (fun k_ => some k_ ≠ (s_ : Value).ownBlock) (.slice Ao58 x5_1.length co58) x5_1) ∧ (w'.heap[gb127]? = some (.cells #[.int .i64 a0_0, .int .i64 a0_1] 24 (0, 0))) ∧ (w'.heap[gb128]? = some (.cells #[.slice none 0 0, .slice none 0 0] 34 (0, 0))) ∧ (Kd.C (Kd.int .i8) w' Ao58 y141.length y141) ∧ (Kd.C (Kd.int .i8) w' A59 y151.length y151) ∧ (Below w.heap.size w w')) ?_ ?_
       rotate_left
       rotate_left
       ·skip
        rintro v149 w62 ⟨h0_, h1_, h2_, h3_, h4_, h5_, h6_, h7_⟩
        have n0_ : Aside0 (Kd.R (Kd.int .i8) 69 w62 w.heap.size (fun k_ => some k_ ≠ (.slice Ao58 x5_1.length co58 : Value).ownBlock) v149 y148) := ⟨h0_⟩
        have n1_ : Aside0 (Kd.R (Kd.int .i64) 2 w62 w.heap.size (fun _ => True) (.slice (some ad137) x4_1.length co21) x4_1) := ⟨h1_⟩
        have n2_ : Aside0 (Kd.R (Kd.int .i8) 69 w62 w.heap.size (fun k_ => some k_ ≠ (v149 : Value).ownBlock) (.slice Ao58 x5_1.length co58) x5_1) := ⟨h2_⟩
        have n3_ : Aside0 (w62.heap[gb127]? = some (.cells #[.int .i64 a0_0, .int .i64 a0_1] 24 (0, 0))) := ⟨h3_⟩
        have n4_ : Aside0 (w62.heap[gb128]? = some (.cells #[.slice none 0 0, .slice none 0 0] 34 (0, 0))) := ⟨h4_⟩
        have n5_ : Aside0 (Kd.C (Kd.int .i8) w62 Ao58 y141.length y141) := ⟨h5_⟩
        have n6_ : Aside0 (Kd.C (Kd.int .i8) w62 A59 y151.length y151) := ⟨h6_⟩
        have n7_ : Aside0 (Below w.heap.size w w62) := ⟨h7_⟩
        clear HO_4 HO_5 BK127 BK128 HB h0_ h1_ h2_ h3_ h4_ h5_ h6_ h7_
        have HO150 := n0_
        have HO_4 := n1_
        have HO_5 := n2_
        have BK127 := n3_
        have BK128 := n4_
        have HR144 := n5_
        have HR154 := n6_
        have HB := n7_
        clear n0_ n1_ n2_ n3_ n4_ n5_ n6_ n7_
        have hHeld := trivial
        refine norm_ (a' := ?_) ?_ ?_
        rotate_left
        ·exact q26x44_
        refine two_ (i := 0) (j := 11) (Ni := some 39) (Nj := some 8) #[true, true, true, true, false, true, true, true, true, false, false, false, false] #[false, true, true, true, false, true, true, true, true, false, false, true, false] rfl rfl rfl rfl (two_of HT_.out (by kernel_rfl)) (by decide) (by decide) (fun K hK => ?_) (fun K hK => ?_)
        ·skip
         refine Kd.R_lit_step (Kd.int .i8) _ 69 ?hg (N := 39) ?hd (xs := ([] : List Int)) (inner := []) (ok := fun _ => True) (okp := fun _ => True) ?hr ?hp (fun _ hk => hk) trivial (Below.refl _ _) (Nat.le_refl _) (by simp) ?_; (case hd => rfl); (case hg => rfl); (case hr => first | (go_simp; done) | (go_simp; rfl)); (case hp => exact (Reps.none _ _))
         intro v139 w63 ho64 hb hg_ hnew_
         clear hg_ hnew_
         (first | rw [← Ny138.out] at ho64 | (simp only [Int.reduceToNat] at ho64; rw [← Ny138.out] at ho64))
         have n0_ := aM26_ (rB26_ q26x8_ hb)
         have n1_ := aM26_ (Kd.R_elder' q26x7_ (Kd.R_base ho64) hb)
         have n2_ := aM26_ (Kd.R_elder' q26x13_ (Kd.R_base ho64) hb)
         have n3_ := aM26_ (Kd.R_lower (Kd.R_new' (Kd.R_new' ho64 (Kd.R_lt q26x7_)) (Kd.R_lt q26x13_)) (bZ26_ q26x1_))
         have n4_ := aM26_ (kB26_ (g := gb127) (o := .cells #[.int .i64 a0_0, .int .i64 a0_1] 24 (0, 0)) q26x2_ hb)
         have n5_ := aM26_ (kB26_ (g := gb128) (o := .cells #[.slice none 0 0, .slice none 0 0] 34 (0, 0)) q26x5_ hb)
         have n6_ := aM26_ (cB26_ q26x3_ hb)
         have n7_ := aM26_ (cB26_ q26x4_ hb)
         have n8_ := aM26_ (bT26_ q26x1_ hb)
         clear HO_4 HO_5 HO150 BK127 BK128 HR144 HR154 HB
         have HO_4 := n0_
         have HO_5 := n1_
         have HO150 := n2_
         have HO140 := n3_
         have BK127 := n4_
         have BK128 := n5_
         have HR144 := n6_
         have HR154 := n7_
         have HB := n8_
         clear n0_ n1_ n2_ n3_ n4_ n5_ n6_ n7_ n8_ hb ho64
         refine hK.out _ _ trivial (fun hHeld => ?_)
         clear hK K
         refine norm_ (a' := ?_) ?_ ?_
         rotate_left
         ·exact q26x49_
         exact norm_ q26x9_ (hJ0_5 (v139, v149) _ ⟨q26x33_, q26x15_, q26x8_, q26x11_, q26x2_, q26x5_, q26x3_, q26x4_, q26x1_⟩)
        skip
        refine box_step ?hg (N := 8) ?hd (cs := #[.slice none 0 0, .slice none 0 0]) (t := 34) ?hr ?_; (case hd => rfl); (case hg => rfl); (case hr => first | (go_simp; done) | (go_simp; rfl))
        intro gb158 hg w63 hbox hb
        have n0_ := aM26_ (rB26_ q26x8_ hb)
        have n1_ := aM26_ (rB26_ q26x7_ hb)
        have n2_ := aM26_ (rB26_ q26x13_ hb)
        have n3_ := aM26_ (kB26_ (g := gb127) (o := .cells #[.int .i64 a0_0, .int .i64 a0_1] 24 (0, 0)) q26x2_ hb)
        have n4_ := aM26_ (kB26_ (g := gb128) (o := .cells #[.slice none 0 0, .slice none 0 0] 34 (0, 0)) q26x5_ hb)
        have n5_ := aM26_ (cB26_ q26x3_ hb)
        have n6_ := aM26_ (cB26_ q26x4_ hb)
        have n7_ := aM26_ (bT26_ q26x1_ hb)
        have n8_ := aM26_ (hbox)
        have n9_ := aM26_ ((q26x27_ : w.heap.size ≤ gb158))
        have n10_ := aM26_ ((q26x27_ : w.heap.size ≤ gb158))
        have n11_ := aM26_ ((q26x18_ : gb127 ≠ gb158))
        have n12_ := aM26_ ((q26x19_ : gb158 ≠ gb127))
        have n13_ := aM26_ ((q26x20_ : gb128 ≠ gb158))
        have n14_ := aM26_ ((q26x21_ : gb158 ≠ gb128))
        clear HO_4 HO_5 HO150 BK127 BK128 HR144 HR154 HB
        have HO_4 := n0_
        have HO_5 := n1_
        have HO150 := n2_
        have BK127 := n3_
        have BK128 := n4_
        have HR144 := n5_
        have HR154 := n6_
        have HB := n7_
        have BK158 := n8_
        have GW158 := n9_
        have GE158 := n10_
        have NB127_158 := n11_
        have NB158_127 := n12_
        have NB128_158 := n13_
        have NB158_128 := n14_
        clear n0_ n1_ n2_ n3_ n4_ n5_ n6_ n7_ n8_ n9_ n10_ n11_ n12_ n13_ n14_ hb hbox hg
        refine hK.out _ _ trivial (fun hHeld => ?_)
        clear hK K
        refine norm_ (a' := ?_) ?_ ?_
        rotate_left
        ·exact q26x45_
        exact norm_ q26x9_ (hJ5_11 (v149, gb158) _ ⟨q26x13_, q26x8_, q26x7_, q26x2_, q26x5_, q26x10_, q26x3_, q26x4_, GW158.out, GE158.out, NB127_158.out, NB158_127.out, NB128_158.out, NB158_128.out, q26x6_⟩)
       intro hJ5
       refine join_ (σ := Nat) 6 #[false, true, true, true, false, false, true, true, true, false, false, true, false] (fun s_ => [(8, .pointer (some ⟨s_, 0, none⟩))]) (fun s_ w' => (Kd.R (Kd.int .i64) 2 w' w.heap.size (fun _ => True) (.slice (some ad137) x4_1.length co21) x4_1) ∧ (Kd.R (Kd.int .i8) 69 w' w.heap.size (fun _ => True) (.slice Ao58 x5_1.length co58) x5_1) ∧ (w'.heap[gb127]? = some (.cells #[.int .i64 a0_0, .int .i64 a0_1] 24 (0, 0))) ∧ (w'.heap[gb128]? = some (.cells #[.slice none 0 0, .slice none 0 0] 34 (0, 0))) ∧ (w'.heap[s_]? = some (.cells #[.slice none 0 0, .slice none 0 0] 34 (0, 0))) ∧ (Kd.C (Kd.int .i8) w' Ao58 y141.length y141) ∧ (Kd.C (Kd.int .i8) w' A59 y151.length y151) ∧ (w.heap.size ≤ s_) ∧ (w.heap.size ≤ s_) ∧ (gb127 ≠ s_) ∧ (s_ ≠ gb127) ∧ (gb128 ≠ s_) ∧ (s_ ≠ gb128) ∧ (Below w.heap.size w w')) ?_ ?_
       rotate_left
       rotate_left
       ·skip
        rintro gb158 w61 ⟨h0_, h1_, h2_, h3_, h4_, h5_, h6_, h7_, h8_, h9_, h10_, h11_, h12_, h13_⟩
        have n0_ : Aside0 (Kd.R (Kd.int .i64) 2 w61 w.heap.size (fun _ => True) (.slice (some ad137) x4_1.length co21) x4_1) := ⟨h0_⟩
        have n1_ : Aside0 (Kd.R (Kd.int .i8) 69 w61 w.heap.size (fun _ => True) (.slice Ao58 x5_1.length co58) x5_1) := ⟨h1_⟩
        have n2_ : Aside0 (w61.heap[gb127]? = some (.cells #[.int .i64 a0_0, .int .i64 a0_1] 24 (0, 0))) := ⟨h2_⟩
        have n3_ : Aside0 (w61.heap[gb128]? = some (.cells #[.slice none 0 0, .slice none 0 0] 34 (0, 0))) := ⟨h3_⟩
        have n4_ : Aside0 (w61.heap[gb158]? = some (.cells #[.slice none 0 0, .slice none 0 0] 34 (0, 0))) := ⟨h4_⟩
        have n5_ : Aside0 (Kd.C (Kd.int .i8) w61 Ao58 y141.length y141) := ⟨h5_⟩
        have n6_ : Aside0 (Kd.C (Kd.int .i8) w61 A59 y151.length y151) := ⟨h6_⟩
        have n7_ : Aside0 (w.heap.size ≤ gb158) := ⟨h7_⟩
        have n8_ : Aside0 (w.heap.size ≤ gb158) := ⟨h8_⟩
        have n9_ : Aside0 (gb127 ≠ gb158) := ⟨h9_⟩
        have n10_ : Aside0 (gb158 ≠ gb127) := ⟨h10_⟩
        have n11_ : Aside0 (gb128 ≠ gb158) := ⟨h11_⟩
        have n12_ : Aside0 (gb158 ≠ gb128) := ⟨h12_⟩
        have n13_ : Aside0 (Below w.heap.size w w61) := ⟨h13_⟩
        clear HO_4 HO_5 BK127 BK128 HB h0_ h1_ h2_ h3_ h4_ h5_ h6_ h7_ h8_ h9_ h10_ h11_ h12_ h13_
        have HO_4 := n0_
        have HO_5 := n1_
        have BK127 := n2_
        have BK128 := n3_
        have BK158 := n4_
        have HR144 := n5_
        have HR154 := n6_
        have GW158 := n7_
        have GE158 := n8_
        have NB127_158 := n9_
        have NB158_127 := n10_
        have NB128_158 := n11_
        have NB158_128 := n12_
        have HB := n13_
        clear n0_ n1_ n2_ n3_ n4_ n5_ n6_ n7_ n8_ n9_ n10_ n11_ n12_ n13_
        have hHeld := trivial
        refine norm_ (a' := ?_) ?_ ?_
        rotate_left
        ·exact q26x44_
        refine two_ (i := 0) (j := 5) (Ni := some 39) (Nj := some 44) #[true, true, true, true, false, false, true, true, true, false, false, true, false] #[false, true, true, true, false, true, true, true, true, false, false, true, false] rfl rfl rfl rfl (two_of HT_.out (by kernel_rfl)) (by decide) (by decide) (fun K hK => ?_) (fun K hK => ?_)
        ·skip
         refine Kd.R_lit_step (Kd.int .i8) _ 69 ?hg (N := 39) ?hd (xs := ([] : List Int)) (inner := []) (ok := fun _ => True) (okp := fun _ => True) ?hr ?hp (fun _ hk => hk) trivial (Below.refl _ _) (Nat.le_refl _) (by simp) ?_; (case hd => rfl); (case hg => rfl); (case hr => first | (go_simp; done) | (go_simp; rfl)); (case hp => exact (Reps.none _ _))
         intro v139 w62 ho63 hb hg_ hnew_
         clear hg_ hnew_
         (first | rw [← Ny138.out] at ho63 | (simp only [Int.reduceToNat] at ho63; rw [← Ny138.out] at ho63))
         have n0_ := aM26_ (rB26_ q26x8_ hb)
         have n1_ := aM26_ (Kd.R_elder' q26x7_ (Kd.R_base ho63) hb)
         have n2_ := aM26_ (Kd.R_lower (Kd.R_new' ho63 (Kd.R_lt q26x7_)) (bZ26_ q26x6_))
         have n3_ := aM26_ (kB26_ (g := gb127) (o := .cells #[.int .i64 a0_0, .int .i64 a0_1] 24 (0, 0)) q26x2_ hb)
         have n4_ := aM26_ (kB26_ (g := gb128) (o := .cells #[.slice none 0 0, .slice none 0 0] 34 (0, 0)) q26x5_ hb)
         have n5_ := aM26_ (cB26_ q26x3_ hb)
         have n6_ := aM26_ (cB26_ q26x4_ hb)
         have n7_ := aM26_ (kB26_ (g := gb158) (o := .cells #[.slice none 0 0, .slice none 0 0] 34 (0, 0)) q26x10_ hb)
         have n8_ := aM26_ (bT26_ q26x6_ hb)
         clear HO_4 HO_5 BK127 BK128 HR144 HR154 BK158 HB
         have HO_4 := n0_
         have HO_5 := n1_
         have HO140 := n2_
         have BK127 := n3_
         have BK128 := n4_
         have HR144 := n5_
         have HR154 := n6_
         have BK158 := n7_
         have HB := n8_
         clear n0_ n1_ n2_ n3_ n4_ n5_ n6_ n7_ n8_ hb ho63
         refine hK.out _ _ trivial (fun hHeld => ?_)
         clear hK K
         refine norm_ (a' := ?_) ?_ ?_
         rotate_left
         ·exact q26x49_
         exact norm_ q26x9_ (hJ0_11 (v139, gb158) _ ⟨q26x35_, q26x8_, q26x22_, q26x2_, q26x5_, q26x10_, q26x3_, q26x4_, GW158.out, GE158.out, NB127_158.out, NB158_127.out, NB128_158.out, NB158_128.out, q26x6_⟩)
        skip
        refine Kd.R_lit_step (Kd.int .i8) _ 69 ?hg (N := 44) ?hd (xs := ([] : List Int)) (inner := []) (ok := fun _ => True) (okp := fun _ => True) ?hr ?hp (fun _ hk => hk) trivial (Below.refl _ _) (Nat.le_refl _) (by simp) ?_; (case hd => rfl); (case hg => rfl); (case hr => first | (go_simp; done) | (go_simp; rfl)); (case hp => exact (Reps.none _ _))
        intro v149 w62 ho63 hb hg_ hnew_
        clear hg_ hnew_
        (first | rw [← Ny148.out] at ho63 | (simp only [Int.reduceToNat] at ho63; rw [← Ny148.out] at ho63))
        have n0_ := aM26_ (rB26_ q26x8_ hb)
        have n1_ := aM26_ (Kd.R_elder' q26x7_ (Kd.R_base ho63) hb)
        have n2_ := aM26_ (Kd.R_lower (Kd.R_new' ho63 (Kd.R_lt q26x7_)) (bZ26_ q26x6_))
        have n3_ := aM26_ (kB26_ (g := gb127) (o := .cells #[.int .i64 a0_0, .int .i64 a0_1] 24 (0, 0)) q26x2_ hb)
        have n4_ := aM26_ (kB26_ (g := gb128) (o := .cells #[.slice none 0 0, .slice none 0 0] 34 (0, 0)) q26x5_ hb)
        have n5_ := aM26_ (cB26_ q26x3_ hb)
        have n6_ := aM26_ (cB26_ q26x4_ hb)
        have n7_ := aM26_ (kB26_ (g := gb158) (o := .cells #[.slice none 0 0, .slice none 0 0] 34 (0, 0)) q26x10_ hb)
        have n8_ := aM26_ (bT26_ q26x6_ hb)
        clear HO_4 HO_5 BK127 BK128 HR144 HR154 BK158 HB
        have HO_4 := n0_
        have HO_5 := n1_
        have HO150 := n2_
        have BK127 := n3_
        have BK128 := n4_
        have HR144 := n5_
        have HR154 := n6_
        have BK158 := n7_
        have HB := n8_
        clear n0_ n1_ n2_ n3_ n4_ n5_ n6_ n7_ n8_ hb ho63
        refine hK.out _ _ trivial (fun hHeld => ?_)
        clear hK K
        refine norm_ (a' := ?_) ?_ ?_
        rotate_left
        ·exact q26x47_
        exact norm_ q26x9_ (hJ5_11 (v149, gb158) _ ⟨q26x36_, q26x8_, q26x22_, q26x2_, q26x5_, q26x10_, q26x3_, q26x4_, GW158.out, GE158.out, NB127_158.out, NB158_127.out, NB128_158.out, NB158_128.out, q26x6_⟩)
       intro hJ11
       refine three_ (i := 0) (j := 5) (k := 11) (Ni := some 39) (Nj := some 44) (Nk := some 8) #[true, true, true, true, false, false, true, true, true, false, false, false, false] #[false, true, true, true, false, true, true, true, true, false, false, false, false] #[false, true, true, true, false, false, true, true, true, false, false, true, false] rfl rfl rfl rfl rfl rfl (three_of HT_.out (by kernel_rfl)) (by decide) (by decide) (by decide) (fun K hK => ?_) (fun K hK => ?_) (fun K hK => ?_)
       ·skip
        refine Kd.R_lit_step (Kd.int .i8) _ 69 ?hg (N := 39) ?hd (xs := ([] : List Int)) (inner := []) (ok := fun _ => True) (okp := fun _ => True) ?hr ?hp (fun _ hk => hk) trivial (Below.refl _ _) (Nat.le_refl _) (by simp) ?_; (case hd => rfl); (case hg => rfl); (case hr => first | (go_simp; done) | (go_simp; rfl)); (case hp => exact (Reps.none _ _))
        intro v139 w60 ho61 hb hg_ hnew_
        clear hg_ hnew_
        (first | rw [← Ny138.out] at ho61 | (simp only [Int.reduceToNat] at ho61; rw [← Ny138.out] at ho61))
        have n0_ := aM26_ (rB26_ q26x8_ hb)
        have n1_ := aM26_ (Kd.R_elder' q26x7_ (Kd.R_base ho61) hb)
        have n2_ := aM26_ (Kd.R_lower (Kd.R_new' ho61 (Kd.R_lt q26x7_)) (bZ26_ q26x1_))
        have n3_ := aM26_ (kB26_ (g := gb127) (o := .cells #[.int .i64 a0_0, .int .i64 a0_1] 24 (0, 0)) q26x2_ hb)
        have n4_ := aM26_ (kB26_ (g := gb128) (o := .cells #[.slice none 0 0, .slice none 0 0] 34 (0, 0)) q26x5_ hb)
        have n5_ := aM26_ (cB26_ q26x3_ hb)
        have n6_ := aM26_ (cB26_ q26x4_ hb)
        have n7_ := aM26_ (bT26_ q26x1_ hb)
        clear HO_4 HO_5 BK127 BK128 HR144 HR154 HB
        have HO_4 := n0_
        have HO_5 := n1_
        have HO140 := n2_
        have BK127 := n3_
        have BK128 := n4_
        have HR144 := n5_
        have HR154 := n6_
        have HB := n7_
        clear n0_ n1_ n2_ n3_ n4_ n5_ n6_ n7_ hb ho61
        refine hK.out _ _ trivial (fun hHeld => ?_)
        clear hK K
        refine norm_ (a' := ?_) ?_ ?_
        rotate_left
        ·exact q26x49_
        exact norm_ q26x9_ (hJ0 (v139) _ ⟨q26x35_, q26x8_, q26x22_, q26x2_, q26x5_, q26x3_, q26x4_, q26x1_⟩)
       ·skip
        refine Kd.R_lit_step (Kd.int .i8) _ 69 ?hg (N := 44) ?hd (xs := ([] : List Int)) (inner := []) (ok := fun _ => True) (okp := fun _ => True) ?hr ?hp (fun _ hk => hk) trivial (Below.refl _ _) (Nat.le_refl _) (by simp) ?_; (case hd => rfl); (case hg => rfl); (case hr => first | (go_simp; done) | (go_simp; rfl)); (case hp => exact (Reps.none _ _))
        intro v149 w60 ho61 hb hg_ hnew_
        clear hg_ hnew_
        (first | rw [← Ny148.out] at ho61 | (simp only [Int.reduceToNat] at ho61; rw [← Ny148.out] at ho61))
        have n0_ := aM26_ (rB26_ q26x8_ hb)
        have n1_ := aM26_ (Kd.R_elder' q26x7_ (Kd.R_base ho61) hb)
        have n2_ := aM26_ (Kd.R_lower (Kd.R_new' ho61 (Kd.R_lt q26x7_)) (bZ26_ q26x1_))
        have n3_ := aM26_ (kB26_ (g := gb127) (o := .cells #[.int .i64 a0_0, .int .i64 a0_1] 24 (0, 0)) q26x2_ hb)
        have n4_ := aM26_ (kB26_ (g := gb128) (o := .cells #[.slice none 0 0, .slice none 0 0] 34 (0, 0)) q26x5_ hb)
        have n5_ := aM26_ (cB26_ q26x3_ hb)
        have n6_ := aM26_ (cB26_ q26x4_ hb)
        have n7_ := aM26_ (bT26_ q26x1_ hb)
        clear HO_4 HO_5 BK127 BK128 HR144 HR154 HB
        have HO_4 := n0_
        have HO_5 := n1_
        have HO150 := n2_
        have BK127 := n3_
        have BK128 := n4_
        have HR144 := n5_
        have HR154 := n6_
        have HB := n7_
        clear n0_ n1_ n2_ n3_ n4_ n5_ n6_ n7_ hb ho61
        refine hK.out _ _ trivial (fun hHeld => ?_)
        clear hK K
        refine norm_ (a' := ?_) ?_ ?_
        rotate_left
        ·exact q26x47_
        exact norm_ q26x9_ (hJ5 (v149) _ ⟨q26x36_, q26x8_, q26x22_, q26x2_, q26x5_, q26x3_, q26x4_, q26x1_⟩)
       skip
       refine box_step ?hg (N := 8) ?hd (cs := #[.slice none 0 0, .slice none 0 0]) (t := 34) ?hr ?_; (case hd => rfl); (case hg => rfl); (case hr => first | (go_simp; done) | (go_simp; rfl))
       intro gb158 hg w60 hbox hb
       have n0_ := aM26_ (rB26_ q26x8_ hb)
       have n1_ := aM26_ (rB26_ q26x7_ hb)
       have n2_ := aM26_ (kB26_ (g := gb127) (o := .cells #[.int .i64 a0_0, .int .i64 a0_1] 24 (0, 0)) q26x2_ hb)
       have n3_ := aM26_ (kB26_ (g := gb128) (o := .cells #[.slice none 0 0, .slice none 0 0] 34 (0, 0)) q26x5_ hb)
       have n4_ := aM26_ (cB26_ q26x3_ hb)
       have n5_ := aM26_ (cB26_ q26x4_ hb)
       have n6_ := aM26_ (bT26_ q26x1_ hb)
       have n7_ := aM26_ (hbox)
       have n8_ := aM26_ ((q26x27_ : w.heap.size ≤ gb158))
       have n9_ := aM26_ ((q26x27_ : w.heap.size ≤ gb158))
       have n10_ := aM26_ ((q26x18_ : gb127 ≠ gb158))
       have n11_ := aM26_ ((q26x19_ : gb158 ≠ gb127))
       have n12_ := aM26_ ((q26x20_ : gb128 ≠ gb158))
       have n13_ := aM26_ ((q26x21_ : gb158 ≠ gb128))
       clear HO_4 HO_5 BK127 BK128 HR144 HR154 HB
       have HO_4 := n0_
       have HO_5 := n1_
       have BK127 := n2_
       have BK128 := n3_
       have HR144 := n4_
       have HR154 := n5_
       have HB := n6_
       have BK158 := n7_
       have GW158 := n8_
       have GE158 := n9_
       have NB127_158 := n10_
       have NB158_127 := n11_
       have NB128_158 := n12_
       have NB158_128 := n13_
       clear n0_ n1_ n2_ n3_ n4_ n5_ n6_ n7_ n8_ n9_ n10_ n11_ n12_ n13_ hb hbox hg
       refine hK.out _ _ trivial (fun hHeld => ?_)
       clear hK K
       refine norm_ (a' := ?_) ?_ ?_
       rotate_left
       ·exact q26x45_
       exact norm_ q26x9_ (hJ11 (gb158) _ ⟨q26x8_, q26x7_, q26x2_, q26x5_, q26x10_, q26x3_, q26x4_, GW158.out, GE158.out, NB127_158.out, NB158_127.out, NB128_158.out, NB158_128.out, q26x6_⟩)
      rintro ⟨v139, v146, v149, v156, gb158⟩ w69 ⟨h0_, h1_, h2_, h3_, h4_, h5_, h6_, h7_, h8_, h9_, h10_, h11_, h12_, h13_, h14_, h15_⟩
      have n0_ : Aside0 (Kd.R (Kd.int .i8) 69 w69 w.heap.size (fun k_ => some k_ ≠ (v156 : Value).ownBlock ∧ some k_ ≠ (.slice Ao58 x5_1.length co58 : Value).ownBlock) v146 y145) := ⟨h0_⟩
      have n1_ : Aside0 (Kd.R (Kd.int .i8) 69 w69 w.heap.size (fun k_ => some k_ ≠ (v146 : Value).ownBlock ∧ some k_ ≠ (.slice Ao58 x5_1.length co58 : Value).ownBlock) v156 y155) := ⟨h1_⟩
      have n2_ : Aside0 (Kd.R (Kd.int .i64) 2 w69 w.heap.size (fun _ => True) (.slice (some ad137) x4_1.length co21) x4_1) := ⟨h2_⟩
      have n3_ : Aside0 (Kd.R (Kd.int .i8) 69 w69 w.heap.size (fun k_ => some k_ ≠ (v146 : Value).ownBlock ∧ some k_ ≠ (v156 : Value).ownBlock) (.slice Ao58 x5_1.length co58) x5_1) := ⟨h3_⟩
      have n4_ : Aside0 (w69.heap[gb127]? = some (.cells #[.int .i64 a0_0, .int .i64 a0_1] 24 (0, 0))) := ⟨h4_⟩
      have n5_ : Aside0 (w69.heap[gb128]? = some (.cells #[.slice none 0 0, .slice none 0 0] 34 (0, 0))) := ⟨h5_⟩
      have n6_ : Aside0 (w69.heap[gb158]? = some (.cells #[.slice none 0 0, .slice none 0 0] 34 (0, 0))) := ⟨h6_⟩
      have n7_ : Aside0 (Kd.C (Kd.int .i8) w69 Ao58 y141.length y141) := ⟨h7_⟩
      have n8_ : Aside0 (Kd.C (Kd.int .i8) w69 A59 y151.length y151) := ⟨h8_⟩
      have n9_ : Aside0 (w.heap.size ≤ gb158) := ⟨h9_⟩
      have n10_ : Aside0 (w.heap.size ≤ gb158) := ⟨h10_⟩
      have n11_ : Aside0 (gb127 ≠ gb158) := ⟨h11_⟩
      have n12_ : Aside0 (gb158 ≠ gb127) := ⟨h12_⟩
      have n13_ : Aside0 (gb128 ≠ gb158) := ⟨h13_⟩
      have n14_ : Aside0 (gb158 ≠ gb128) := ⟨h14_⟩
      have n15_ : Aside0 (Below w.heap.size w w69) := ⟨h15_⟩
      clear HO_4 HO_5 BK127 BK128 HB h0_ h1_ h2_ h3_ h4_ h5_ h6_ h7_ h8_ h9_ h10_ h11_ h12_ h13_ h14_ h15_
      have HO147 := n0_
      have HO157 := n1_
      have HO_4 := n2_
      have HO_5 := n3_
      have BK127 := n4_
      have BK128 := n5_
      have BK158 := n6_
      have HR144 := n7_
      have HR154 := n8_
      have GW158 := n9_
      have GE158 := n10_
      have NB127_158 := n11_
      have NB158_127 := n12_
      have NB128_158 := n13_
      have NB158_128 := n14_
      have HB := n15_
      clear n0_ n1_ n2_ n3_ n4_ n5_ n6_ n7_ n8_ n9_ n10_ n11_ n12_ n13_ n14_ n15_
      have hHeld := trivial
      obtain ⟨Ao70, co70, eo70⟩ := Kd.R_slice HO157.out
      (first | subst eo70 | (injection eo70 with f1_ f2_ f3_; have f4_ := f1_.symm; have f5_ := f3_.symm; clear f1_ f2_ f3_; subst f4_; subst f5_))
      obtain ⟨Ao71, co71, eo71⟩ := Kd.R_slice HO147.out
      (first | subst eo71 | (injection eo71 with f1_ f2_ f3_; have f4_ := f1_.symm; have f5_ := f3_.symm; clear f1_ f2_ f3_; subst f4_; subst f5_))
      refine norm_ (a' := ?_) ?_ ?_
      rotate_left
      ·exact q26x44_
      refine one_ (i := 12) (N := none) #[true, true, true, true, true, true, true, true, true, true, true, true, true] rfl rfl (one_of HT_.out (by kernel_rfl)) (by decide) (fun K hK => ?_)
      have hs72 : w69.cell? ⟨gb158, 0, none⟩ = some (.slice none 0 0) := (kC26_ BK158.out 0).trans rfl
      have hfs72 := blk_frozen BK158.out 0
      have hns72_0 := NB127_158.out
      have hns72_1 := NB128_158.out
      have hms72_0 := NB158_127.out
      have hms72_1 := NB158_128.out
      have hs73 : w69.cell? ⟨gb158, 1, none⟩ = some (.slice none 0 0) := (kC26_ BK158.out 1).trans rfl
      have hfs73 := blk_frozen BK158.out 1
      have hns73_0 := NB127_158.out
      have hns73_1 := NB128_158.out
      have hms73_0 := NB158_127.out
      have hms73_1 := NB158_128.out
      refine skip_ (w1 := ?_) (by rfl) rfl ?_ ?_
      rotate_left
      ·go_simp
       rfl
      refine hK.out _ _ trivial (fun hHeld => ?_)
      clear hK K
      refine done_ (done_of HT_.out (by kernel_rfl)) ?_
      try go_wp2_with (first | ((with_reducible refine gate_callee (f := 50) rfl ?_); refine goesL_ (some 50) rfl rfl Try.func50 (by kernel_rfl) rfl #[.pointer (some ⟨gb158, 0, none⟩)] rfl q26x29_ ?_; (with_reducible refine (spec_l03Ok.calls k2 gb158 0 Ao71 co71 y145 Ao70 co70 y155 false _ ?side1 ?side2 ?side3 ?side4 ?side5 A31.out).mono ?_); (case side1 => refine (Kd.R_reads' (e := 69) (base := w.heap.size) (ok := fun k_ => (some k_ ≠ (.slice Ao70 y155.length co70 : Value).ownBlock ∧ some k_ ≠ (.slice Ao58 x5_1.length co58 : Value).ownBlock)) (n := y145.length) (c := co71) ?_).2.2; exact (by (with_reducible repeat (first | apply rA26_ | apply rN26_ | apply rD26_)); exact (Kd.R_mono (Kd.R_far (p := ⟨gb158, 1, none⟩) (Kd.R_far (p := ⟨gb158, 0, none⟩) (Kd.R_types HO147.out BK158.out (by decide)) (fun _ hk => hk.2) (.slice Ao71 y145.length co71)) (fun _ hk => hk.2) (.slice Ao70 y155.length co70)) (fun _ h_ => h_.1)))); (case side2 => exact (Kd.R_reads' HO147.out).2.1); (case side3 => refine (Kd.R_reads' (e := 69) (base := w.heap.size) (ok := fun k_ => (some k_ ≠ (.slice Ao71 y145.length co71 : Value).ownBlock ∧ some k_ ≠ (.slice Ao58 x5_1.length co58 : Value).ownBlock)) (n := y155.length) (c := co70) ?_).2.2; exact (by (with_reducible repeat (first | apply rA26_ | apply rN26_ | apply rD26_)); exact (Kd.R_mono (Kd.R_far (p := ⟨gb158, 1, none⟩) (Kd.R_far (p := ⟨gb158, 0, none⟩) (Kd.R_types HO157.out BK158.out (by decide)) (fun _ hk => hk.2) (.slice Ao71 y145.length co71)) (fun _ hk => hk.2) (.slice Ao70 y155.length co70)) (fun _ h_ => h_.1)))); (case side4 => exact (Kd.R_reads' HO157.out).2.1); (case side5 => exact ⟨(kC26_ (g := gb158) (t := 34) (cs := #[.slice Ao71 y145.length co71, .slice Ao70 y155.length co70]) q26x31_ 0).trans rfl, (kC26_ (g := gb158) (t := 34) (cs := #[.slice Ao71 y145.length co71, .slice Ao70 y155.length co70]) q26x31_ 1).trans rfl⟩); rintro e w' ⟨rfl, ⟨nd, rfl⟩⟩; refine ⟨_, rfl, ?_⟩; have hnb74 := NB128_127.out; have hnc74 := NB127_128.out; have hnb75 := NB128_158.out; have hnc75 := NB158_128.out; have hcz76_0 : w69.cell? ⟨gb128, 0, none⟩ = some (.slice none 0 0) := (kC26_ BK128.out 0).trans rfl; have hcz76_1 : w69.cell? ⟨gb128, 1, none⟩ = some (.slice none 0 0) := (kC26_ BK128.out 1).trans rfl; have hfz76_0 := blk_frozen BK128.out 0; have hfz76_1 := blk_frozen BK128.out 1))
      refine bodyPost_ret (results_ct rfl _ _ gb128 34 #[.slice none 0 0, .slice none 0 0] (0, 0) _ rfl (by (with_reducible repeat (first | refine kN26_ ?_ _ | refine kD26_ ?_ | refine kA26_ ?_ _)); refine blk_put (cs := #[.slice none 0 0, .slice none 0 0]) ?_ 1 _ rfl; (with_reducible repeat (first | refine kN26_ ?_ _ | refine kD26_ ?_ | refine kA26_ ?_ _)); refine blk_put (cs := #[.slice none 0 0, .slice none 0 0]) ?_ 0 _ rfl; (with_reducible repeat (first | refine kN26_ ?_ _ | refine kD26_ ?_ | refine kA26_ ?_ _)); refine blk_far ?_ NB128_158.out _; (with_reducible repeat (first | refine kN26_ ?_ _ | refine kD26_ ?_ | refine kA26_ ?_ _)); refine blk_far ?_ NB128_158.out _; (with_reducible repeat (first | refine kN26_ ?_ _ | refine kD26_ ?_ | refine kA26_ ?_ _)); exact BK128.out) Try.underlying34 rfl (by kernel_rfl)) rfl ?_
      exact ⟨_, _, by first | rfl | (simp [errW_none, errW_some] <;> rfl) | (simp [*, errW_none, errW_some] <;> rfl), by first | exact Kd.R_nil _ _ _ _ _ | exact Kd.N_nil _ _ _ _ _ | exact Kd.V_nil _ _ _ _ _ | exact Kd.Q_nil _ _ _ _ _ | exact Kd.S_nil _ _ _ _ _, by first | exact Kd.R_nil _ _ _ _ _ | exact Kd.N_nil _ _ _ _ _ | exact Kd.V_nil _ _ _ _ _ | exact Kd.Q_nil _ _ _ _ _ | exact Kd.S_nil _ _ _ _ _, by repeat (first | (with_reducible first | exact HB.out | apply below_alloc | apply pw_below_drewN | apply below_drew1 | refine bS26_ ?_ GE127.out | refine bS26_ ?_ GE128.out | refine bS26_ ?_ GE158.out) | exact HB.out)⟩
     subst c32
     have H1 : (some (y145, y155, 0)) = some (r1, r2, r3) := by rw [if_pos rfl] at H; exact H
     clear H
     have H := H1
     clear H1
     simp only [Option.some.injEq, Prod.mk.injEq] at H
     obtain ⟨rfl, rfl, rfl⟩ := H
     have p137 : 0 ≤ (x7_2 : Int) := of_decide_eq_true q26x30_
     have q137 : x7_2 < (x4_1.length : Int) := of_decide_eq_true q26x30_
     obtain ⟨ad137, e137, hx137_0⟩ := Kd.at_int (Kd.R_reads' HO_4.out).2.2 x7_2 p137 q137
     cases e137
     replace p137 := eq_true p137
     replace q137 := eq_true q137
     try go_wp2
     have n0_ := aM26_ (rD26_ HO_4.out)
     have n1_ := aM26_ (rD26_ HO_5.out)
     have n2_ := aM26_ (kD26_ BK127.out)
     have n3_ := aM26_ (kD26_ BK128.out)
     have n4_ := aM26_ (below_drew1 HB.out)
     clear HO_4 HO_5 BK127 BK128 HB
     have HO_4 := n0_
     have HO_5 := n1_
     have BK127 := n2_
     have BK128 := n3_
     have HB := n4_
     clear n0_ n1_ n2_ n3_ n4_
     obtain ⟨Ao35, co35, eo35⟩ := Kd.R_slice HO_5.out
     (first | subst eo35 | (injection eo35 with f1_ f2_ f3_; have f4_ := f1_.symm; have f5_ := f3_.symm; clear f1_ f2_ f3_; subst f4_; subst f5_))
     have q34 : (x7_2 : Int) ≤ ((x5_1.length : Int) : Int) := of_decide_eq_true q26x30_
     obtain ⟨i034, hi034, _, hsz34, _⟩ := info_parts info69
     have hroom34 : x5_1.length ≤ co35 := (Kd.R_reads' HO_5.out).2.1
     have hC34 : Kd.C (Kd.int .i8) _ Ao35 x5_1.length x5_1 := (Kd.R_reads' HO_5.out).2.2
     have hcut34 := cut_to (P := Try.prog) 22 69 .i64 Try.underlying22 hi034 Ao35 x5_1.length co35 x7_2 (of_decide_eq_true q26x30_) q34 hroom34
     have hr34 := Kd.C_take (m := (x7_2 : Int).toNat) hC34 (by omega)
     have hy34 : y141.length = (x7_2 : Int).toNat := (by rw [Ny141.out, List.length_take]; omega)
     rw [← Ny141.out] at hr34
     rw [← hy34] at hcut34
     have HR144 := aM26_ hr34
     have HC144 := aM26_ (show y141.length ≤ co35 from by omega)
     clear hr34 hC34 hroom34 hi034 hsz34
     have KY34 := aM26_ hy34
     clear hy34
     have KL34 := aM26_ (show (x7_2 : Int).toNat ≤ x5_1.length from by omega)
     replace q34 := eq_true q34
     have q36 : (x7_2 : Int) ≤ ((x5_1.length : Int) : Int) := of_decide_eq_true q26x30_
     obtain ⟨i036, hi036, _, hsz36, _⟩ := info_parts info69
     have hroom36 : x5_1.length ≤ co35 := (Kd.R_reads' HO_5.out).2.1
     have hC36 : Kd.C (Kd.int .i8) _ Ao35 x5_1.length x5_1 := (Kd.R_reads' HO_5.out).2.2
     have q036 : (0 : Int) ≤ (x7_2 : Int) := of_decide_eq_true q26x30_
     have hcut36 := cut_from (P := Try.prog) 22 69 .i64 Try.underlying22 hi036 1 hsz36 Ao35 x5_1.length co35 x7_2 q036 q36
     have hr36 := Kd.C_drop (m := (x7_2 : Int).toNat) (c := co35) hC36 (by omega) hroom36
     obtain ⟨A36, hA36⟩ : ∃ A1, A1 = (if co35 = (x7_2 : Int).toNat then Ao35 else (Ao35 : Option Addr).map (·.add ((x7_2 : Int).toNat * 1))) := ⟨_, rfl⟩
     obtain ⟨c36, hc36⟩ : ∃ c1, c1 = co35 - (x7_2 : Int).toNat := ⟨_, rfl⟩
     have hy36 : y151.length = x5_1.length - (x7_2 : Int).toNat := (by rw [Ny151.out, List.length_drop] <;> omega)
     rw [show (x5_1).drop (x7_2 : Int).toNat = y151 from Ny151.out.symm] at hr36
     replace hr36 : Kd.C (Kd.int .i8) _ A36 y151.length y151 := (by rw [hA36]; exact hr36)
     rw [← hy36, ← hA36, ← hc36] at hcut36
     have HR154 := aM26_ hr36
     have HC154 := aM26_ (show y151.length ≤ c36 from by rw [hy36, hc36]; exact Nat.sub_le_sub_right hroom36 _)
     clear hr36 hC36 hroom36 hi036 hsz36 hc36
     have KY36 := aM26_ hy36
     have KA36 := aM26_ hA36
     clear hy36 hA36
     have KL36 := aM26_ (show (x7_2 : Int).toNat ≤ x5_1.length from by omega)
     replace q36 := eq_true q36
     refine start_ (n := 13) (S := fun w' => True) (ds := []) #[false, false, false, false, false, false, false, false, false, false, false, false, false] (by kernel_rfl) rfl rfl trivial (fun hHeld => ?_); refine with_tabW spec_StreamOf.tab13 spec_StreamOf.bits13 (fun HT_ HW_ => ?_)
     generalize wr.drew = w33 at HO_4 HO_5 BK127 BK128 HB HR144 HR154 hHeld ⊢
     refine pure_ (i := 1) (N := some 40) (v := ?_) (a' := ?_) #[false, true, false, false, false, false, false, false, false, false, false, false, false] rfl rfl (any_of HT_.out (by kernel_rfl)) (fun _ _ _ h => h) (Or.inl ⟨by rfl, ?_⟩) ?_ ?_
     rotate_left
     ·exact q26x42_
     rotate_left
     ·exact q26x43_
     refine pure_ (i := 2) (N := some 41) (v := ?_) (a' := ?_) #[false, true, true, false, false, false, false, false, false, false, false, false, false] rfl rfl (any_of HT_.out (by kernel_rfl)) (fun _ _ _ h => h) (Or.inl ⟨by rfl, ?_⟩) ?_ ?_
     rotate_left
     ·exact q26x42_
     rotate_left
     ·exact q26x43_
     refine pure_ (i := 3) (N := some 42) (v := ?_) (a' := ?_) #[false, true, true, true, false, false, false, false, false, false, false, false, false] rfl rfl (any_of HT_.out (by kernel_rfl)) (fun _ _ _ h => h) (Or.inl ⟨by rfl, ?_⟩) ?_ ?_
     rotate_left
     ·exact q26x42_
     rotate_left
     ·exact q26x43_
     refine pure_ (i := 6) (N := some 45) (v := ?_) (a' := ?_) #[false, true, true, true, false, false, true, false, false, false, false, false, false] rfl rfl (any_of HT_.out (by kernel_rfl)) (fun _ _ _ h => h) (Or.inl ⟨by rfl, ?_⟩) ?_ ?_
     rotate_left
     ·exact q26x42_
     rotate_left
     ·exact q26x43_
     refine pure_ (i := 7) (N := some 46) (v := ?_) (a' := ?_) #[false, true, true, true, false, false, true, true, false, false, false, false, false] rfl rfl (any_of HT_.out (by kernel_rfl)) (fun _ _ _ h => h) (Or.inl ⟨by rfl, ?_⟩) ?_ ?_
     rotate_left
     ·exact q26x42_
     rotate_left
     ·exact q26x43_
     refine pure_ (i := 8) (N := some 47) (v := ?_) (a' := ?_) #[false, true, true, true, false, false, true, true, true, false, false, false, false] rfl rfl (any_of HT_.out (by kernel_rfl)) (fun _ _ _ h => h) (Or.inl ⟨by rfl, ?_⟩) ?_ ?_
     rotate_left
     ·exact q26x42_
     rotate_left
     ·exact q26x43_
     refine join_ (σ := Value × Value × Value × Value × Nat) 1 #[true, true, true, true, true, true, true, true, true, true, true, true, false] (fun s_ => [(39, s_.1), (43, s_.2.1), (44, s_.2.2.1), (48, s_.2.2.2.1), (8, .pointer (some ⟨s_.2.2.2.2, 0, none⟩)), (49, .agg #[s_.2.1, s_.2.2.2.1])]) (fun s_ w' => (Kd.R (Kd.int .i8) 69 w' w.heap.size (fun k_ => some k_ ≠ (s_.2.2.2.1 : Value).ownBlock ∧ some k_ ≠ (.slice Ao35 x5_1.length co35 : Value).ownBlock) s_.2.1 y145) ∧ (Kd.R (Kd.int .i8) 69 w' w.heap.size (fun k_ => some k_ ≠ (s_.2.1 : Value).ownBlock ∧ some k_ ≠ (.slice Ao35 x5_1.length co35 : Value).ownBlock) s_.2.2.2.1 y155) ∧ (Kd.R (Kd.int .i64) 2 w' w.heap.size (fun _ => True) (.slice (some ad137) x4_1.length co21) x4_1) ∧ (Kd.R (Kd.int .i8) 69 w' w.heap.size (fun k_ => some k_ ≠ (s_.2.1 : Value).ownBlock ∧ some k_ ≠ (s_.2.2.2.1 : Value).ownBlock) (.slice Ao35 x5_1.length co35) x5_1) ∧ (w'.heap[gb127]? = some (.cells #[.int .i64 a0_0, .int .i64 a0_1] 24 (0, 0))) ∧ (w'.heap[gb128]? = some (.cells #[.slice none 0 0, .slice none 0 0] 34 (0, 0))) ∧ (w'.heap[s_.2.2.2.2]? = some (.cells #[.slice none 0 0, .slice none 0 0] 34 (0, 0))) ∧ (Kd.C (Kd.int .i8) w' Ao35 y141.length y141) ∧ (Kd.C (Kd.int .i8) w' A36 y151.length y151) ∧ (w.heap.size ≤ s_.2.2.2.2) ∧ (w.heap.size ≤ s_.2.2.2.2) ∧ (gb127 ≠ s_.2.2.2.2) ∧ (s_.2.2.2.2 ≠ gb127) ∧ (gb128 ≠ s_.2.2.2.2) ∧ (s_.2.2.2.2 ≠ gb128) ∧ (Below w.heap.size w w')) ?_ ?_
     rotate_left
     ·intro hJ0_4_5_9_11
      refine join_ (σ := Value × Value × Value × Value) 2 #[true, true, true, true, true, true, true, true, true, true, true, false, false] (fun s_ => [(39, s_.1), (43, s_.2.1), (44, s_.2.2.1), (48, s_.2.2.2), (49, .agg #[s_.2.1, s_.2.2.2])]) (fun s_ w' => (Kd.R (Kd.int .i8) 69 w' w.heap.size (fun k_ => some k_ ≠ (s_.2.2.2 : Value).ownBlock ∧ some k_ ≠ (.slice Ao35 x5_1.length co35 : Value).ownBlock) s_.2.1 y145) ∧ (Kd.R (Kd.int .i8) 69 w' w.heap.size (fun k_ => some k_ ≠ (s_.2.1 : Value).ownBlock ∧ some k_ ≠ (.slice Ao35 x5_1.length co35 : Value).ownBlock) s_.2.2.2 y155) ∧ (Kd.R (Kd.int .i64) 2 w' w.heap.size (fun _ => True) (.slice (some ad137) x4_1.length co21) x4_1) ∧ (Kd.R (Kd.int .i8) 69 w' w.heap.size (fun k_ => some k_ ≠ (s_.2.1 : Value).ownBlock ∧ some k_ ≠ (s_.2.2.2 : Value).ownBlock) (.slice Ao35 x5_1.length co35) x5_1) ∧ (w'.heap[gb127]? = some (.cells #[.int .i64 a0_0, .int .i64 a0_1] 24 (0, 0))) ∧ (w'.heap[gb128]? = some (.cells #[.slice none 0 0, .slice none 0 0] 34 (0, 0))) ∧ (Kd.C (Kd.int .i8) w' Ao35 y141.length y141) ∧ (Kd.C (Kd.int .i8) w' A36 y151.length y151) ∧ (Below w.heap.size w w')) ?_ ?_
      rotate_left
      rotate_left
      ·skip
       rintro ⟨v139, v146, v149, v156⟩ w45 ⟨h0_, h1_, h2_, h3_, h4_, h5_, h6_, h7_, h8_⟩
       have n0_ : Aside0 (Kd.R (Kd.int .i8) 69 w45 w.heap.size (fun k_ => some k_ ≠ (v156 : Value).ownBlock ∧ some k_ ≠ (.slice Ao35 x5_1.length co35 : Value).ownBlock) v146 y145) := ⟨h0_⟩
       have n1_ : Aside0 (Kd.R (Kd.int .i8) 69 w45 w.heap.size (fun k_ => some k_ ≠ (v146 : Value).ownBlock ∧ some k_ ≠ (.slice Ao35 x5_1.length co35 : Value).ownBlock) v156 y155) := ⟨h1_⟩
       have n2_ : Aside0 (Kd.R (Kd.int .i64) 2 w45 w.heap.size (fun _ => True) (.slice (some ad137) x4_1.length co21) x4_1) := ⟨h2_⟩
       have n3_ : Aside0 (Kd.R (Kd.int .i8) 69 w45 w.heap.size (fun k_ => some k_ ≠ (v146 : Value).ownBlock ∧ some k_ ≠ (v156 : Value).ownBlock) (.slice Ao35 x5_1.length co35) x5_1) := ⟨h3_⟩
       have n4_ : Aside0 (w45.heap[gb127]? = some (.cells #[.int .i64 a0_0, .int .i64 a0_1] 24 (0, 0))) := ⟨h4_⟩
       have n5_ : Aside0 (w45.heap[gb128]? = some (.cells #[.slice none 0 0, .slice none 0 0] 34 (0, 0))) := ⟨h5_⟩
       have n6_ : Aside0 (Kd.C (Kd.int .i8) w45 Ao35 y141.length y141) := ⟨h6_⟩
       have n7_ : Aside0 (Kd.C (Kd.int .i8) w45 A36 y151.length y151) := ⟨h7_⟩
       have n8_ : Aside0 (Below w.heap.size w w45) := ⟨h8_⟩
       clear HO_4 HO_5 BK127 BK128 HB h0_ h1_ h2_ h3_ h4_ h5_ h6_ h7_ h8_
       have HO147 := n0_
       have HO157 := n1_
       have HO_4 := n2_
       have HO_5 := n3_
       have BK127 := n4_
       have BK128 := n5_
       have HR144 := n6_
       have HR154 := n7_
       have HB := n8_
       clear n0_ n1_ n2_ n3_ n4_ n5_ n6_ n7_ n8_
       have hHeld := trivial
       obtain ⟨Ao46, co46, eo46⟩ := Kd.R_slice HO157.out
       (first | subst eo46 | (injection eo46 with f1_ f2_ f3_; have f4_ := f1_.symm; have f5_ := f3_.symm; clear f1_ f2_ f3_; subst f4_; subst f5_))
       obtain ⟨Ao47, co47, eo47⟩ := Kd.R_slice HO147.out
       (first | subst eo47 | (injection eo47 with f1_ f2_ f3_; have f4_ := f1_.symm; have f5_ := f3_.symm; clear f1_ f2_ f3_; subst f4_; subst f5_))
       refine norm_ (a' := ?_) ?_ ?_
       rotate_left
       ·exact q26x44_
       refine one_ (i := 11) (N := some 8) #[true, true, true, true, true, true, true, true, true, true, true, true, false] rfl rfl (one_of HT_.out (by kernel_rfl)) (by decide) (fun K hK => ?_)
       refine box_step ?hg (N := 8) ?hd (cs := #[.slice none 0 0, .slice none 0 0]) (t := 34) ?hr ?_; (case hd => rfl); (case hg => rfl); (case hr => first | (go_simp; done) | (go_simp; rfl))
       intro gb158 hg w48 hbox hb
       have n0_ := aM26_ (rB26_ q26x8_ hb)
       have n1_ := aM26_ (rB26_ q26x7_ hb)
       have n2_ := aM26_ (rB26_ q26x12_ hb)
       have n3_ := aM26_ (rB26_ q26x38_ hb)
       have n4_ := aM26_ (kB26_ (g := gb127) (o := .cells #[.int .i64 a0_0, .int .i64 a0_1] 24 (0, 0)) q26x2_ hb)
       have n5_ := aM26_ (kB26_ (g := gb128) (o := .cells #[.slice none 0 0, .slice none 0 0] 34 (0, 0)) q26x5_ hb)
       have n6_ := aM26_ (cB26_ q26x3_ hb)
       have n7_ := aM26_ (cB26_ q26x4_ hb)
       have n8_ := aM26_ (bT26_ q26x1_ hb)
       have n9_ := aM26_ (hbox)
       have n10_ := aM26_ ((q26x27_ : w.heap.size ≤ gb158))
       have n11_ := aM26_ ((q26x27_ : w.heap.size ≤ gb158))
       have n12_ := aM26_ ((q26x18_ : gb127 ≠ gb158))
       have n13_ := aM26_ ((q26x19_ : gb158 ≠ gb127))
       have n14_ := aM26_ ((q26x20_ : gb128 ≠ gb158))
       have n15_ := aM26_ ((q26x21_ : gb158 ≠ gb128))
       clear HO_4 HO_5 HO147 HO157 BK127 BK128 HR144 HR154 HB
       have HO_4 := n0_
       have HO_5 := n1_
       have HO147 := n2_
       have HO157 := n3_
       have BK127 := n4_
       have BK128 := n5_
       have HR144 := n6_
       have HR154 := n7_
       have HB := n8_
       have BK158 := n9_
       have GW158 := n10_
       have GE158 := n11_
       have NB127_158 := n12_
       have NB158_127 := n13_
       have NB128_158 := n14_
       have NB158_128 := n15_
       clear n0_ n1_ n2_ n3_ n4_ n5_ n6_ n7_ n8_ n9_ n10_ n11_ n12_ n13_ n14_ n15_ hb hbox hg
       refine hK.out _ _ trivial (fun hHeld => ?_)
       clear hK K
       refine norm_ (a' := ?_) ?_ ?_
       rotate_left
       ·exact q26x45_
       exact norm_ q26x9_ (hJ0_4_5_9_11 (v139, .slice Ao47 y145.length co47, v149, .slice Ao46 y155.length co46, gb158) _ ⟨q26x12_, q26x38_, q26x8_, q26x7_, q26x2_, q26x5_, q26x10_, q26x3_, q26x4_, GW158.out, GE158.out, NB127_158.out, NB158_127.out, NB128_158.out, NB158_128.out, q26x6_⟩)
      intro hJ0_4_5_9
      refine join_ (σ := Value × Value × Value × Nat) 3 #[true, true, true, true, true, true, true, true, true, false, false, true, false] (fun s_ => [(39, s_.1), (43, s_.2.1), (44, s_.2.2.1), (8, .pointer (some ⟨s_.2.2.2, 0, none⟩))]) (fun s_ w' => (Kd.R (Kd.int .i8) 69 w' w.heap.size (fun k_ => some k_ ≠ (s_.2.2.1 : Value).ownBlock ∧ some k_ ≠ (.slice Ao35 x5_1.length co35 : Value).ownBlock) s_.2.1 y145) ∧ (Kd.R (Kd.int .i8) 69 w' w.heap.size (fun k_ => some k_ ≠ (s_.2.1 : Value).ownBlock ∧ some k_ ≠ (.slice Ao35 x5_1.length co35 : Value).ownBlock) s_.2.2.1 y148) ∧ (Kd.R (Kd.int .i64) 2 w' w.heap.size (fun _ => True) (.slice (some ad137) x4_1.length co21) x4_1) ∧ (Kd.R (Kd.int .i8) 69 w' w.heap.size (fun k_ => some k_ ≠ (s_.2.1 : Value).ownBlock ∧ some k_ ≠ (s_.2.2.1 : Value).ownBlock) (.slice Ao35 x5_1.length co35) x5_1) ∧ (w'.heap[gb127]? = some (.cells #[.int .i64 a0_0, .int .i64 a0_1] 24 (0, 0))) ∧ (w'.heap[gb128]? = some (.cells #[.slice none 0 0, .slice none 0 0] 34 (0, 0))) ∧ (w'.heap[s_.2.2.2]? = some (.cells #[.slice none 0 0, .slice none 0 0] 34 (0, 0))) ∧ (Kd.C (Kd.int .i8) w' Ao35 y141.length y141) ∧ (Kd.C (Kd.int .i8) w' A36 y151.length y151) ∧ (w.heap.size ≤ s_.2.2.2) ∧ (w.heap.size ≤ s_.2.2.2) ∧ (gb127 ≠ s_.2.2.2) ∧ (s_.2.2.2 ≠ gb127) ∧ (gb128 ≠ s_.2.2.2) ∧ (s_.2.2.2 ≠ gb128) ∧ (Below w.heap.size w w')) ?_ ?_
      rotate_left
      rotate_left
      ·skip
       rintro ⟨v139, v146, v149, gb158⟩ w43 ⟨h0_, h1_, h2_, h3_, h4_, h5_, h6_, h7_, h8_, h9_, h10_, h11_, h12_, h13_, h14_, h15_⟩
       have n0_ : Aside0 (Kd.R (Kd.int .i8) 69 w43 w.heap.size (fun k_ => some k_ ≠ (v149 : Value).ownBlock ∧ some k_ ≠ (.slice Ao35 x5_1.length co35 : Value).ownBlock) v146 y145) := ⟨h0_⟩
       have n1_ : Aside0 (Kd.R (Kd.int .i8) 69 w43 w.heap.size (fun k_ => some k_ ≠ (v146 : Value).ownBlock ∧ some k_ ≠ (.slice Ao35 x5_1.length co35 : Value).ownBlock) v149 y148) := ⟨h1_⟩
       have n2_ : Aside0 (Kd.R (Kd.int .i64) 2 w43 w.heap.size (fun _ => True) (.slice (some ad137) x4_1.length co21) x4_1) := ⟨h2_⟩
       have n3_ : Aside0 (Kd.R (Kd.int .i8) 69 w43 w.heap.size (fun k_ => some k_ ≠ (v146 : Value).ownBlock ∧ some k_ ≠ (v149 : Value).ownBlock) (.slice Ao35 x5_1.length co35) x5_1) := ⟨h3_⟩
       have n4_ : Aside0 (w43.heap[gb127]? = some (.cells #[.int .i64 a0_0, .int .i64 a0_1] 24 (0, 0))) := ⟨h4_⟩
       have n5_ : Aside0 (w43.heap[gb128]? = some (.cells #[.slice none 0 0, .slice none 0 0] 34 (0, 0))) := ⟨h5_⟩
       have n6_ : Aside0 (w43.heap[gb158]? = some (.cells #[.slice none 0 0, .slice none 0 0] 34 (0, 0))) := ⟨h6_⟩
       have n7_ : Aside0 (Kd.C (Kd.int .i8) w43 Ao35 y141.length y141) := ⟨h7_⟩
       have n8_ : Aside0 (Kd.C (Kd.int .i8) w43 A36 y151.length y151) := ⟨h8_⟩
       have n9_ : Aside0 (w.heap.size ≤ gb158) := ⟨h9_⟩
       have n10_ : Aside0 (w.heap.size ≤ gb158) := ⟨h10_⟩
       have n11_ : Aside0 (gb127 ≠ gb158) := ⟨h11_⟩
       have n12_ : Aside0 (gb158 ≠ gb127) := ⟨h12_⟩
       have n13_ : Aside0 (gb128 ≠ gb158) := ⟨h13_⟩
       have n14_ : Aside0 (gb158 ≠ gb128) := ⟨h14_⟩
       have n15_ : Aside0 (Below w.heap.size w w43) := ⟨h15_⟩
       clear HO_4 HO_5 BK127 BK128 HB h0_ h1_ h2_ h3_ h4_ h5_ h6_ h7_ h8_ h9_ h10_ h11_ h12_ h13_ h14_ h15_
       have HO147 := n0_
       have HO150 := n1_
       have HO_4 := n2_
       have HO_5 := n3_
       have BK127 := n4_
       have BK128 := n5_
       have BK158 := n6_
       have HR144 := n7_
       have HR154 := n8_
       have GW158 := n9_
       have GE158 := n10_
       have NB127_158 := n11_
       have NB158_127 := n12_
       have NB128_158 := n13_
       have NB158_128 := n14_
       have HB := n15_
       clear n0_ n1_ n2_ n3_ n4_ n5_ n6_ n7_ n8_ n9_ n10_ n11_ n12_ n13_ n14_ n15_
       have hHeld := trivial
       refine norm_ (a' := ?_) ?_ ?_
       rotate_left
       ·exact q26x44_
       refine one_ (i := 9) (N := some 48) #[true, true, true, true, true, true, true, true, true, true, false, true, false] rfl rfl (one_of HT_.out (by kernel_rfl)) (by decide) (fun K hK => ?_)
       refine Kd.R_append_rows_step (Kd.int .i8) (w0 := w) w.heap.size (by rfl) (.tmp 44) (.tmp 47) 22 69 (.int .i8 0) 1 rfl Try.underlying22 info69 rfl (by decide) (by omega) v149 y148 y151 _ _ _ (fun k_ => some k_ ≠ (.slice Ao35 x5_1.length co35 : Value).ownBlock ∧ some k_ ≠ (v146 : Value).ownBlock) (fun _ => False) rfl rfl ?aO ?aR (fun _ _ h => h) (fun _ h => h.elim) ?aF ?aB ?aS ?aL ?_
       (case aR => repeat (first | exact q26x4_ | (with_reducible refine Kd.C_alloc ?_ _) | (with_reducible refine Kd.C_drewN ?_ _) | (with_reducible refine Kd.C_drew ?_)))
       (case aB => exact q26x6_)
       (case aF => exact (fun k_ hk => ⟨Kd.fresh' (Kd.R_lt q26x7_) k_ hk, Kd.fresh' (Kd.R_lt q26x12_) k_ hk⟩))
       (case aO => exact q26x15_)
       (case aS => exact (bZ26_ q26x6_))
       (case aL => have := LMc30.out; omega)
       intro v156 w44 ho hb hg hat
       rw [← Ny155.out] at ho
       have n0_ := aM26_ (Kd.R_over' q26x8_ (Kd.R_typed q26x13_) (by decide) hg)
       have n1_ := aM26_ (rF26_ (ok := (fun k_ => some k_ ≠ (v146 : Value).ownBlock)) q26x7_ hg hat)
       have n2_ := aM26_ (kG26_ (g := gb127) (o := .cells #[.int .i64 a0_0, .int .i64 a0_1] 24 (0, 0)) q26x2_ hg (Kd.R_ne HO150.out BK127.out (by decide)))
       have n3_ := aM26_ (kG26_ (g := gb128) (o := .cells #[.slice none 0 0, .slice none 0 0] 34 (0, 0)) q26x5_ hg (Kd.R_ne HO150.out BK128.out (by decide)))
       have n4_ := aM26_ (rF26_ (ok := (fun k_ => some k_ ≠ (.slice Ao35 x5_1.length co35 : Value).ownBlock)) q26x16_ hg hat)
       have n5_ := aM26_ (kG26_ (g := gb158) (o := .cells #[.slice none 0 0, .slice none 0 0] 34 (0, 0)) q26x10_ hg (Kd.R_ne HO150.out BK158.out (by decide)))
       have n6_ := aM26_ (hb)
       have n7_ := aM26_ ((show Kd.C (Kd.int .i8) w44 Ao35 y141.length y141 from by rw [Ny141.out]; exact Kd.C_take (m := (x7_2 : Int).toNat) ((Kd.R_reads' (rF26_ (ok := (fun k_ => some k_ ≠ (v146 : Value).ownBlock)) q26x7_ hg hat)).2.2) KL34.out))
       have n8_ := aM26_ ((show Kd.C (Kd.int .i8) w44 A36 y151.length y151 from by rw [Ny151.out, KA36.out]; exact Kd.C_drop (m := (x7_2 : Int).toNat) (c := co35) ((Kd.R_reads' (rF26_ (ok := (fun k_ => some k_ ≠ (v146 : Value).ownBlock)) q26x7_ hg hat)).2.2) KL36.out ((Kd.R_reads' (rF26_ (ok := (fun k_ => some k_ ≠ (v146 : Value).ownBlock)) q26x7_ hg hat)).2.1)))
       have n9_ := aM26_ (ho)
       clear HO_4 HO_5 BK127 BK128 HO147 BK158 HB HR144 HR154 HO150
       have HO_4 := n0_
       have HO_5 := n1_
       have BK127 := n2_
       have BK128 := n3_
       have HO147 := n4_
       have BK158 := n5_
       have HB := n6_
       have HR144 := n7_
       have HR154 := n8_
       have HO157 := n9_
       clear n0_ n1_ n2_ n3_ n4_ n5_ n6_ n7_ n8_ n9_ ho hb hg hat
       obtain ⟨Ao45, co45, eo45⟩ := Kd.R_slice HO157.out
       (first | subst eo45 | (injection eo45 with f1_ f2_ f3_; have f4_ := f1_.symm; have f5_ := f3_.symm; clear f1_ f2_ f3_; subst f4_; subst f5_))
       obtain ⟨Ao46, co46, eo46⟩ := Kd.R_slice HO147.out
       (first | subst eo46 | (injection eo46 with f1_ f2_ f3_; have f4_ := f1_.symm; have f5_ := f3_.symm; clear f1_ f2_ f3_; subst f4_; subst f5_))
       refine hK.out _ _ trivial (fun hHeld => ?_)
       clear hK K
       refine norm_ (a' := ?_) ?_ ?_
       rotate_left
       ·exact q26x46_
       refine pure_ (i := 10) (N := some 49) (v := ?_) (a' := ?_) #[true, true, true, true, true, true, true, true, true, true, true, true, false] rfl rfl (any_of HT_.out (by kernel_rfl)) (fun _ _ _ h => h) (Or.inl ⟨by rfl, ?_⟩) ?_ ?_
       rotate_left
       ·exact q26x42_
       rotate_left
       ·exact q26x43_
       exact norm_ q26x9_ (hJ0_4_5_9_11 (v139, .slice Ao46 y145.length co46, v149, .slice Ao45 y155.length co45, gb158) _ ⟨q26x16_, q26x34_, q26x8_, q26x7_, q26x2_, q26x5_, q26x10_, q26x3_, q26x4_, GW158.out, GE158.out, NB127_158.out, NB158_127.out, NB128_158.out, NB158_128.out, q26x6_⟩)
      intro hJ0_4_5_11
      refine join_ (σ := Value × Value × Value) 4 #[true, true, true, true, true, true, true, true, true, false, false, false, false] (fun s_ => [(39, s_.1), (43, s_.2.1), (44, s_.2.2)]) (fun s_ w' => (Kd.R (Kd.int .i8) 69 w' w.heap.size (fun k_ => some k_ ≠ (s_.2.2 : Value).ownBlock ∧ some k_ ≠ (.slice Ao35 x5_1.length co35 : Value).ownBlock) s_.2.1 y145) ∧ (Kd.R (Kd.int .i8) 69 w' w.heap.size (fun k_ => some k_ ≠ (s_.2.1 : Value).ownBlock ∧ some k_ ≠ (.slice Ao35 x5_1.length co35 : Value).ownBlock) s_.2.2 y148) ∧ (Kd.R (Kd.int .i64) 2 w' w.heap.size (fun _ => True) (.slice (some ad137) x4_1.length co21) x4_1) ∧ (Kd.R (Kd.int .i8) 69 w' w.heap.size (fun k_ => some k_ ≠ (s_.2.1 : Value).ownBlock ∧ some k_ ≠ (s_.2.2 : Value).ownBlock) (.slice Ao35 x5_1.length co35) x5_1) ∧ (w'.heap[gb127]? = some (.cells #[.int .i64 a0_0, .int .i64 a0_1] 24 (0, 0))) ∧ (w'.heap[gb128]? = some (.cells #[.slice none 0 0, .slice none 0 0] 34 (0, 0))) ∧ (Kd.C (Kd.int .i8) w' Ao35 y141.length y141) ∧ (Kd.C (Kd.int .i8) w' A36 y151.length y151) ∧ (Below w.heap.size w w')) ?_ ?_
      rotate_left
      rotate_left
      ·skip
       rintro ⟨v139, v146, v149⟩ w42 ⟨h0_, h1_, h2_, h3_, h4_, h5_, h6_, h7_, h8_⟩
       have n0_ : Aside0 (Kd.R (Kd.int .i8) 69 w42 w.heap.size (fun k_ => some k_ ≠ (v149 : Value).ownBlock ∧ some k_ ≠ (.slice Ao35 x5_1.length co35 : Value).ownBlock) v146 y145) := ⟨h0_⟩
       have n1_ : Aside0 (Kd.R (Kd.int .i8) 69 w42 w.heap.size (fun k_ => some k_ ≠ (v146 : Value).ownBlock ∧ some k_ ≠ (.slice Ao35 x5_1.length co35 : Value).ownBlock) v149 y148) := ⟨h1_⟩
       have n2_ : Aside0 (Kd.R (Kd.int .i64) 2 w42 w.heap.size (fun _ => True) (.slice (some ad137) x4_1.length co21) x4_1) := ⟨h2_⟩
       have n3_ : Aside0 (Kd.R (Kd.int .i8) 69 w42 w.heap.size (fun k_ => some k_ ≠ (v146 : Value).ownBlock ∧ some k_ ≠ (v149 : Value).ownBlock) (.slice Ao35 x5_1.length co35) x5_1) := ⟨h3_⟩
       have n4_ : Aside0 (w42.heap[gb127]? = some (.cells #[.int .i64 a0_0, .int .i64 a0_1] 24 (0, 0))) := ⟨h4_⟩
       have n5_ : Aside0 (w42.heap[gb128]? = some (.cells #[.slice none 0 0, .slice none 0 0] 34 (0, 0))) := ⟨h5_⟩
       have n6_ : Aside0 (Kd.C (Kd.int .i8) w42 Ao35 y141.length y141) := ⟨h6_⟩
       have n7_ : Aside0 (Kd.C (Kd.int .i8) w42 A36 y151.length y151) := ⟨h7_⟩
       have n8_ : Aside0 (Below w.heap.size w w42) := ⟨h8_⟩
       clear HO_4 HO_5 BK127 BK128 HB h0_ h1_ h2_ h3_ h4_ h5_ h6_ h7_ h8_
       have HO147 := n0_
       have HO150 := n1_
       have HO_4 := n2_
       have HO_5 := n3_
       have BK127 := n4_
       have BK128 := n5_
       have HR144 := n6_
       have HR154 := n7_
       have HB := n8_
       clear n0_ n1_ n2_ n3_ n4_ n5_ n6_ n7_ n8_
       have hHeld := trivial
       refine norm_ (a' := ?_) ?_ ?_
       rotate_left
       ·exact q26x44_
       refine two_ (i := 9) (j := 11) (Ni := some 48) (Nj := some 8) #[true, true, true, true, true, true, true, true, true, true, false, false, false] #[true, true, true, true, true, true, true, true, true, false, false, true, false] rfl rfl rfl rfl (two_of HT_.out (by kernel_rfl)) (by decide) (by decide) (fun K hK => ?_) (fun K hK => ?_)
       rotate_left
       ·skip
        refine box_step ?hg (N := 8) ?hd (cs := #[.slice none 0 0, .slice none 0 0]) (t := 34) ?hr ?_; (case hd => rfl); (case hg => rfl); (case hr => first | (go_simp; done) | (go_simp; rfl))
        intro gb158 hg w43 hbox hb
        have n0_ := aM26_ (rB26_ q26x8_ hb)
        have n1_ := aM26_ (rB26_ q26x7_ hb)
        have n2_ := aM26_ (rB26_ q26x12_ hb)
        have n3_ := aM26_ (rB26_ q26x13_ hb)
        have n4_ := aM26_ (kB26_ (g := gb127) (o := .cells #[.int .i64 a0_0, .int .i64 a0_1] 24 (0, 0)) q26x2_ hb)
        have n5_ := aM26_ (kB26_ (g := gb128) (o := .cells #[.slice none 0 0, .slice none 0 0] 34 (0, 0)) q26x5_ hb)
        have n6_ := aM26_ (cB26_ q26x3_ hb)
        have n7_ := aM26_ (cB26_ q26x4_ hb)
        have n8_ := aM26_ (bT26_ q26x1_ hb)
        have n9_ := aM26_ (hbox)
        have n10_ := aM26_ ((q26x27_ : w.heap.size ≤ gb158))
        have n11_ := aM26_ ((q26x27_ : w.heap.size ≤ gb158))
        have n12_ := aM26_ ((q26x18_ : gb127 ≠ gb158))
        have n13_ := aM26_ ((q26x19_ : gb158 ≠ gb127))
        have n14_ := aM26_ ((q26x20_ : gb128 ≠ gb158))
        have n15_ := aM26_ ((q26x21_ : gb158 ≠ gb128))
        clear HO_4 HO_5 HO147 HO150 BK127 BK128 HR144 HR154 HB
        have HO_4 := n0_
        have HO_5 := n1_
        have HO147 := n2_
        have HO150 := n3_
        have BK127 := n4_
        have BK128 := n5_
        have HR144 := n6_
        have HR154 := n7_
        have HB := n8_
        have BK158 := n9_
        have GW158 := n10_
        have GE158 := n11_
        have NB127_158 := n12_
        have NB158_127 := n13_
        have NB128_158 := n14_
        have NB158_128 := n15_
        clear n0_ n1_ n2_ n3_ n4_ n5_ n6_ n7_ n8_ n9_ n10_ n11_ n12_ n13_ n14_ n15_ hb hbox hg
        refine hK.out _ _ trivial (fun hHeld => ?_)
        clear hK K
        refine norm_ (a' := ?_) ?_ ?_
        rotate_left
        ·exact q26x45_
        exact norm_ q26x9_ (hJ0_4_5_11 (v139, v146, v149, gb158) _ ⟨q26x12_, q26x13_, q26x8_, q26x7_, q26x2_, q26x5_, q26x10_, q26x3_, q26x4_, GW158.out, GE158.out, NB127_158.out, NB158_127.out, NB128_158.out, NB158_128.out, q26x6_⟩)
       skip
       refine Kd.R_append_rows_step (Kd.int .i8) (w0 := w) w.heap.size (by rfl) (.tmp 44) (.tmp 47) 22 69 (.int .i8 0) 1 rfl Try.underlying22 info69 rfl (by decide) (by omega) v149 y148 y151 _ _ _ (fun k_ => some k_ ≠ (.slice Ao35 x5_1.length co35 : Value).ownBlock ∧ some k_ ≠ (v146 : Value).ownBlock) (fun _ => False) rfl rfl ?aO ?aR (fun _ _ h => h) (fun _ h => h.elim) ?aF ?aB ?aS ?aL ?_
       (case aR => repeat (first | exact q26x4_ | (with_reducible refine Kd.C_alloc ?_ _) | (with_reducible refine Kd.C_drewN ?_ _) | (with_reducible refine Kd.C_drew ?_)))
       (case aB => exact q26x1_)
       (case aF => exact (fun k_ hk => ⟨Kd.fresh' (Kd.R_lt q26x7_) k_ hk, Kd.fresh' (Kd.R_lt q26x12_) k_ hk⟩))
       (case aO => exact q26x15_)
       (case aS => exact (bZ26_ q26x1_))
       (case aL => have := LMc30.out; omega)
       intro v156 w43 ho hb hg hat
       rw [← Ny155.out] at ho
       have n0_ := aM26_ (Kd.R_over' q26x8_ (Kd.R_typed q26x13_) (by decide) hg)
       have n1_ := aM26_ (rF26_ (ok := (fun k_ => some k_ ≠ (v146 : Value).ownBlock)) q26x7_ hg hat)
       have n2_ := aM26_ (kG26_ (g := gb127) (o := .cells #[.int .i64 a0_0, .int .i64 a0_1] 24 (0, 0)) q26x2_ hg (Kd.R_ne HO150.out BK127.out (by decide)))
       have n3_ := aM26_ (kG26_ (g := gb128) (o := .cells #[.slice none 0 0, .slice none 0 0] 34 (0, 0)) q26x5_ hg (Kd.R_ne HO150.out BK128.out (by decide)))
       have n4_ := aM26_ (rF26_ (ok := (fun k_ => some k_ ≠ (.slice Ao35 x5_1.length co35 : Value).ownBlock)) q26x16_ hg hat)
       have n5_ := aM26_ (hb)
       have n6_ := aM26_ ((show Kd.C (Kd.int .i8) w43 Ao35 y141.length y141 from by rw [Ny141.out]; exact Kd.C_take (m := (x7_2 : Int).toNat) ((Kd.R_reads' (rF26_ (ok := (fun k_ => some k_ ≠ (v146 : Value).ownBlock)) q26x7_ hg hat)).2.2) KL34.out))
       have n7_ := aM26_ ((show Kd.C (Kd.int .i8) w43 A36 y151.length y151 from by rw [Ny151.out, KA36.out]; exact Kd.C_drop (m := (x7_2 : Int).toNat) (c := co35) ((Kd.R_reads' (rF26_ (ok := (fun k_ => some k_ ≠ (v146 : Value).ownBlock)) q26x7_ hg hat)).2.2) KL36.out ((Kd.R_reads' (rF26_ (ok := (fun k_ => some k_ ≠ (v146 : Value).ownBlock)) q26x7_ hg hat)).2.1)))
       have n8_ := aM26_ (ho)
       clear HO_4 HO_5 BK127 BK128 HO147 HB HR144 HR154 HO150
       have HO_4 := n0_
       have HO_5 := n1_
       have BK127 := n2_
       have BK128 := n3_
       have HO147 := n4_
       have HB := n5_
       have HR144 := n6_
       have HR154 := n7_
       have HO157 := n8_
       clear n0_ n1_ n2_ n3_ n4_ n5_ n6_ n7_ n8_ ho hb hg hat
       obtain ⟨Ao44, co44, eo44⟩ := Kd.R_slice HO157.out
       (first | subst eo44 | (injection eo44 with f1_ f2_ f3_; have f4_ := f1_.symm; have f5_ := f3_.symm; clear f1_ f2_ f3_; subst f4_; subst f5_))
       obtain ⟨Ao45, co45, eo45⟩ := Kd.R_slice HO147.out
       (first | subst eo45 | (injection eo45 with f1_ f2_ f3_; have f4_ := f1_.symm; have f5_ := f3_.symm; clear f1_ f2_ f3_; subst f4_; subst f5_))
       refine hK.out _ _ trivial (fun hHeld => ?_)
       clear hK K
       refine norm_ (a' := ?_) ?_ ?_
       rotate_left
       ·exact q26x46_
       refine pure_ (i := 10) (N := some 49) (v := ?_) (a' := ?_) #[true, true, true, true, true, true, true, true, true, true, true, false, false] rfl rfl (any_of HT_.out (by kernel_rfl)) (fun _ _ _ h => h) (Or.inl ⟨by rfl, ?_⟩) ?_ ?_
       rotate_left
       ·exact q26x42_
       rotate_left
       ·exact q26x43_
       exact norm_ q26x9_ (hJ0_4_5_9 (v139, .slice Ao45 y145.length co45, v149, .slice Ao44 y155.length co44) _ ⟨q26x16_, q26x34_, q26x8_, q26x7_, q26x2_, q26x5_, q26x3_, q26x4_, q26x1_⟩)
      intro hJ0_4_5
      refine join_ (σ := Value × Value × Nat) 4 #[true, true, true, true, true, false, true, true, true, false, false, true, false] (fun s_ => [(39, s_.1), (43, s_.2.1), (8, .pointer (some ⟨s_.2.2, 0, none⟩))]) (fun s_ w' => (Kd.R (Kd.int .i8) 69 w' w.heap.size (fun k_ => some k_ ≠ (.slice Ao35 x5_1.length co35 : Value).ownBlock) s_.2.1 y145) ∧ (Kd.R (Kd.int .i64) 2 w' w.heap.size (fun _ => True) (.slice (some ad137) x4_1.length co21) x4_1) ∧ (Kd.R (Kd.int .i8) 69 w' w.heap.size (fun k_ => some k_ ≠ (s_.2.1 : Value).ownBlock) (.slice Ao35 x5_1.length co35) x5_1) ∧ (w'.heap[gb127]? = some (.cells #[.int .i64 a0_0, .int .i64 a0_1] 24 (0, 0))) ∧ (w'.heap[gb128]? = some (.cells #[.slice none 0 0, .slice none 0 0] 34 (0, 0))) ∧ (w'.heap[s_.2.2]? = some (.cells #[.slice none 0 0, .slice none 0 0] 34 (0, 0))) ∧ (Kd.C (Kd.int .i8) w' Ao35 y141.length y141) ∧ (Kd.C (Kd.int .i8) w' A36 y151.length y151) ∧ (w.heap.size ≤ s_.2.2) ∧ (w.heap.size ≤ s_.2.2) ∧ (gb127 ≠ s_.2.2) ∧ (s_.2.2 ≠ gb127) ∧ (gb128 ≠ s_.2.2) ∧ (s_.2.2 ≠ gb128) ∧ (Below w.heap.size w w')) ?_ ?_
      rotate_left
      rotate_left
      ·skip
       rintro ⟨v139, v146, gb158⟩ w41 ⟨h0_, h1_, h2_, h3_, h4_, h5_, h6_, h7_, h8_, h9_, h10_, h11_, h12_, h13_, h14_⟩
       have n0_ : Aside0 (Kd.R (Kd.int .i8) 69 w41 w.heap.size (fun k_ => some k_ ≠ (.slice Ao35 x5_1.length co35 : Value).ownBlock) v146 y145) := ⟨h0_⟩
       have n1_ : Aside0 (Kd.R (Kd.int .i64) 2 w41 w.heap.size (fun _ => True) (.slice (some ad137) x4_1.length co21) x4_1) := ⟨h1_⟩
       have n2_ : Aside0 (Kd.R (Kd.int .i8) 69 w41 w.heap.size (fun k_ => some k_ ≠ (v146 : Value).ownBlock) (.slice Ao35 x5_1.length co35) x5_1) := ⟨h2_⟩
       have n3_ : Aside0 (w41.heap[gb127]? = some (.cells #[.int .i64 a0_0, .int .i64 a0_1] 24 (0, 0))) := ⟨h3_⟩
       have n4_ : Aside0 (w41.heap[gb128]? = some (.cells #[.slice none 0 0, .slice none 0 0] 34 (0, 0))) := ⟨h4_⟩
       have n5_ : Aside0 (w41.heap[gb158]? = some (.cells #[.slice none 0 0, .slice none 0 0] 34 (0, 0))) := ⟨h5_⟩
       have n6_ : Aside0 (Kd.C (Kd.int .i8) w41 Ao35 y141.length y141) := ⟨h6_⟩
       have n7_ : Aside0 (Kd.C (Kd.int .i8) w41 A36 y151.length y151) := ⟨h7_⟩
       have n8_ : Aside0 (w.heap.size ≤ gb158) := ⟨h8_⟩
       have n9_ : Aside0 (w.heap.size ≤ gb158) := ⟨h9_⟩
       have n10_ : Aside0 (gb127 ≠ gb158) := ⟨h10_⟩
       have n11_ : Aside0 (gb158 ≠ gb127) := ⟨h11_⟩
       have n12_ : Aside0 (gb128 ≠ gb158) := ⟨h12_⟩
       have n13_ : Aside0 (gb158 ≠ gb128) := ⟨h13_⟩
       have n14_ : Aside0 (Below w.heap.size w w41) := ⟨h14_⟩
       clear HO_4 HO_5 BK127 BK128 HB h0_ h1_ h2_ h3_ h4_ h5_ h6_ h7_ h8_ h9_ h10_ h11_ h12_ h13_ h14_
       have HO147 := n0_
       have HO_4 := n1_
       have HO_5 := n2_
       have BK127 := n3_
       have BK128 := n4_
       have BK158 := n5_
       have HR144 := n6_
       have HR154 := n7_
       have GW158 := n8_
       have GE158 := n9_
       have NB127_158 := n10_
       have NB158_127 := n11_
       have NB128_158 := n12_
       have NB158_128 := n13_
       have HB := n14_
       clear n0_ n1_ n2_ n3_ n4_ n5_ n6_ n7_ n8_ n9_ n10_ n11_ n12_ n13_ n14_
       have hHeld := trivial
       refine norm_ (a' := ?_) ?_ ?_
       rotate_left
       ·exact q26x44_
       refine one_ (i := 5) (N := some 44) #[true, true, true, true, true, true, true, true, true, false, false, true, false] rfl rfl (one_of HT_.out (by kernel_rfl)) (by decide) (fun K hK => ?_)
       refine Kd.R_lit_step (Kd.int .i8) _ 69 ?hg (N := 44) ?hd (xs := ([] : List Int)) (inner := []) (ok := fun _ => True) (okp := fun _ => True) ?hr ?hp (fun _ hk => hk) trivial (Below.refl _ _) (Nat.le_refl _) (by simp) ?_; (case hd => rfl); (case hg => rfl); (case hr => first | (go_simp; done) | (go_simp; rfl)); (case hp => exact (Reps.none _ _))
       intro v149 w42 ho43 hb hg_ hnew_
       clear hg_ hnew_
       (first | rw [← Ny148.out] at ho43 | (simp only [Int.reduceToNat] at ho43; rw [← Ny148.out] at ho43))
       have n0_ := aM26_ (rB26_ q26x8_ hb)
       have n1_ := aM26_ (Kd.R_elder' q26x7_ (Kd.R_base ho43) hb)
       have n2_ := aM26_ (Kd.R_elder' q26x12_ (Kd.R_base ho43) hb)
       have n3_ := aM26_ (Kd.R_lower (Kd.R_new' (Kd.R_new' ho43 (Kd.R_lt q26x7_)) (Kd.R_lt q26x12_)) (bZ26_ q26x6_))
       have n4_ := aM26_ (kB26_ (g := gb127) (o := .cells #[.int .i64 a0_0, .int .i64 a0_1] 24 (0, 0)) q26x2_ hb)
       have n5_ := aM26_ (kB26_ (g := gb128) (o := .cells #[.slice none 0 0, .slice none 0 0] 34 (0, 0)) q26x5_ hb)
       have n6_ := aM26_ (cB26_ q26x3_ hb)
       have n7_ := aM26_ (cB26_ q26x4_ hb)
       have n8_ := aM26_ (kB26_ (g := gb158) (o := .cells #[.slice none 0 0, .slice none 0 0] 34 (0, 0)) q26x10_ hb)
       have n9_ := aM26_ (bT26_ q26x6_ hb)
       clear HO_4 HO_5 HO147 BK127 BK128 HR144 HR154 BK158 HB
       have HO_4 := n0_
       have HO_5 := n1_
       have HO147 := n2_
       have HO150 := n3_
       have BK127 := n4_
       have BK128 := n5_
       have HR144 := n6_
       have HR154 := n7_
       have BK158 := n8_
       have HB := n9_
       clear n0_ n1_ n2_ n3_ n4_ n5_ n6_ n7_ n8_ n9_ hb ho43
       refine hK.out _ _ trivial (fun hHeld => ?_)
       clear hK K
       refine norm_ (a' := ?_) ?_ ?_
       rotate_left
       ·exact q26x47_
       exact norm_ q26x9_ (hJ0_4_5_11 (v139, v146, v149, gb158) _ ⟨q26x16_, q26x25_, q26x8_, q26x7_, q26x2_, q26x5_, q26x10_, q26x3_, q26x4_, GW158.out, GE158.out, NB127_158.out, NB158_127.out, NB128_158.out, NB158_128.out, q26x6_⟩)
      intro hJ0_4_11
      refine join_ (σ := Value × Value × Nat) 4 #[true, true, true, true, false, true, true, true, true, false, false, true, false] (fun s_ => [(39, s_.1), (44, s_.2.1), (8, .pointer (some ⟨s_.2.2, 0, none⟩))]) (fun s_ w' => (Kd.R (Kd.int .i8) 69 w' w.heap.size (fun k_ => some k_ ≠ (s_.2.1 : Value).ownBlock ∧ some k_ ≠ (.slice Ao35 x5_1.length co35 : Value).ownBlock) s_.1 y138) ∧ (Kd.R (Kd.int .i8) 69 w' w.heap.size (fun k_ => some k_ ≠ (s_.1 : Value).ownBlock ∧ some k_ ≠ (.slice Ao35 x5_1.length co35 : Value).ownBlock) s_.2.1 y148) ∧ (Kd.R (Kd.int .i64) 2 w' w.heap.size (fun _ => True) (.slice (some ad137) x4_1.length co21) x4_1) ∧ (Kd.R (Kd.int .i8) 69 w' w.heap.size (fun k_ => some k_ ≠ (s_.1 : Value).ownBlock ∧ some k_ ≠ (s_.2.1 : Value).ownBlock) (.slice Ao35 x5_1.length co35) x5_1) ∧ (w'.heap[gb127]? = some (.cells #[.int .i64 a0_0, .int .i64 a0_1] 24 (0, 0))) ∧ (w'.heap[gb128]? = some (.cells #[.slice none 0 0, .slice none 0 0] 34 (0, 0))) ∧ (w'.heap[s_.2.2]? = some (.cells #[.slice none 0 0, .slice none 0 0] 34 (0, 0))) ∧ (Kd.C (Kd.int .i8) w' Ao35 y141.length y141) ∧ (Kd.C (Kd.int .i8) w' A36 y151.length y151) ∧ (w.heap.size ≤ s_.2.2) ∧ (w.heap.size ≤ s_.2.2) ∧ (gb127 ≠ s_.2.2) ∧ (s_.2.2 ≠ gb127) ∧ (gb128 ≠ s_.2.2) ∧ (s_.2.2 ≠ gb128) ∧ (Below w.heap.size w w')) ?_ ?_
      rotate_left
      rotate_left
      ·skip
       rintro ⟨v139, v149, gb158⟩ w42 ⟨h0_, h1_, h2_, h3_, h4_, h5_, h6_, h7_, h8_, h9_, h10_, h11_, h12_, h13_, h14_, h15_⟩
       have n0_ : Aside0 (Kd.R (Kd.int .i8) 69 w42 w.heap.size (fun k_ => some k_ ≠ (v149 : Value).ownBlock ∧ some k_ ≠ (.slice Ao35 x5_1.length co35 : Value).ownBlock) v139 y138) := ⟨h0_⟩
       have n1_ : Aside0 (Kd.R (Kd.int .i8) 69 w42 w.heap.size (fun k_ => some k_ ≠ (v139 : Value).ownBlock ∧ some k_ ≠ (.slice Ao35 x5_1.length co35 : Value).ownBlock) v149 y148) := ⟨h1_⟩
       have n2_ : Aside0 (Kd.R (Kd.int .i64) 2 w42 w.heap.size (fun _ => True) (.slice (some ad137) x4_1.length co21) x4_1) := ⟨h2_⟩
       have n3_ : Aside0 (Kd.R (Kd.int .i8) 69 w42 w.heap.size (fun k_ => some k_ ≠ (v139 : Value).ownBlock ∧ some k_ ≠ (v149 : Value).ownBlock) (.slice Ao35 x5_1.length co35) x5_1) := ⟨h3_⟩
       have n4_ : Aside0 (w42.heap[gb127]? = some (.cells #[.int .i64 a0_0, .int .i64 a0_1] 24 (0, 0))) := ⟨h4_⟩
       have n5_ : Aside0 (w42.heap[gb128]? = some (.cells #[.slice none 0 0, .slice none 0 0] 34 (0, 0))) := ⟨h5_⟩
       have n6_ : Aside0 (w42.heap[gb158]? = some (.cells #[.slice none 0 0, .slice none 0 0] 34 (0, 0))) := ⟨h6_⟩
       have n7_ : Aside0 (Kd.C (Kd.int .i8) w42 Ao35 y141.length y141) := ⟨h7_⟩
       have n8_ : Aside0 (Kd.C (Kd.int .i8) w42 A36 y151.length y151) := ⟨h8_⟩
       have n9_ : Aside0 (w.heap.size ≤ gb158) := ⟨h9_⟩
       have n10_ : Aside0 (w.heap.size ≤ gb158) := ⟨h10_⟩
       have n11_ : Aside0 (gb127 ≠ gb158) := ⟨h11_⟩
       have n12_ : Aside0 (gb158 ≠ gb127) := ⟨h12_⟩
       have n13_ : Aside0 (gb128 ≠ gb158) := ⟨h13_⟩
       have n14_ : Aside0 (gb158 ≠ gb128) := ⟨h14_⟩
       have n15_ : Aside0 (Below w.heap.size w w42) := ⟨h15_⟩
       clear HO_4 HO_5 BK127 BK128 HB h0_ h1_ h2_ h3_ h4_ h5_ h6_ h7_ h8_ h9_ h10_ h11_ h12_ h13_ h14_ h15_
       have HO140 := n0_
       have HO150 := n1_
       have HO_4 := n2_
       have HO_5 := n3_
       have BK127 := n4_
       have BK128 := n5_
       have BK158 := n6_
       have HR144 := n7_
       have HR154 := n8_
       have GW158 := n9_
       have GE158 := n10_
       have NB127_158 := n11_
       have NB158_127 := n12_
       have NB128_158 := n13_
       have NB158_128 := n14_
       have HB := n15_
       clear n0_ n1_ n2_ n3_ n4_ n5_ n6_ n7_ n8_ n9_ n10_ n11_ n12_ n13_ n14_ n15_
       have hHeld := trivial
       refine norm_ (a' := ?_) ?_ ?_
       rotate_left
       ·exact q26x44_
       refine one_ (i := 4) (N := some 43) #[true, true, true, true, true, true, true, true, true, false, false, true, false] rfl rfl (one_of HT_.out (by kernel_rfl)) (by decide) (fun K hK => ?_)
       refine Kd.R_append_rows_step (Kd.int .i8) (w0 := w) w.heap.size (by rfl) (.tmp 39) (.tmp 42) 22 69 (.int .i8 0) 1 rfl Try.underlying22 info69 rfl (by decide) (by omega) v139 y138 y141 _ _ _ (fun k_ => some k_ ≠ (.slice Ao35 x5_1.length co35 : Value).ownBlock ∧ some k_ ≠ (v149 : Value).ownBlock) (fun _ => False) rfl rfl ?aO ?aR (fun _ _ h => h) (fun _ h => h.elim) ?aF ?aB ?aS ?aL ?_
       (case aR => repeat (first | exact q26x3_ | (with_reducible refine Kd.C_alloc ?_ _) | (with_reducible refine Kd.C_drewN ?_ _) | (with_reducible refine Kd.C_drew ?_)))
       (case aB => exact q26x6_)
       (case aF => exact (fun k_ hk => ⟨Kd.fresh' (Kd.R_lt q26x7_) k_ hk, Kd.fresh' (Kd.R_lt q26x13_) k_ hk⟩))
       (case aO => exact q26x26_)
       (case aS => exact (bZ26_ q26x6_))
       (case aL => have := LMc27.out; omega)
       intro v146 w43 ho hb hg hat
       rw [← Ny145.out] at ho
       have n0_ := aM26_ (Kd.R_over' q26x8_ (Kd.R_typed q26x14_) (by decide) hg)
       have n1_ := aM26_ (rF26_ (ok := (fun k_ => some k_ ≠ (v149 : Value).ownBlock)) q26x11_ hg hat)
       have n2_ := aM26_ (kG26_ (g := gb127) (o := .cells #[.int .i64 a0_0, .int .i64 a0_1] 24 (0, 0)) q26x2_ hg (Kd.R_ne HO140.out BK127.out (by decide)))
       have n3_ := aM26_ (kG26_ (g := gb128) (o := .cells #[.slice none 0 0, .slice none 0 0] 34 (0, 0)) q26x5_ hg (Kd.R_ne HO140.out BK128.out (by decide)))
       have n4_ := aM26_ (rF26_ (ok := (fun k_ => some k_ ≠ (.slice Ao35 x5_1.length co35 : Value).ownBlock)) q26x15_ hg hat)
       have n5_ := aM26_ (kG26_ (g := gb158) (o := .cells #[.slice none 0 0, .slice none 0 0] 34 (0, 0)) q26x10_ hg (Kd.R_ne HO140.out BK158.out (by decide)))
       have n6_ := aM26_ (hb)
       have n7_ := aM26_ ((show Kd.C (Kd.int .i8) w43 Ao35 y141.length y141 from by rw [Ny141.out]; exact Kd.C_take (m := (x7_2 : Int).toNat) ((Kd.R_reads' (rF26_ (ok := (fun k_ => some k_ ≠ (v149 : Value).ownBlock)) q26x11_ hg hat)).2.2) KL34.out))
       have n8_ := aM26_ ((show Kd.C (Kd.int .i8) w43 A36 y151.length y151 from by rw [Ny151.out, KA36.out]; exact Kd.C_drop (m := (x7_2 : Int).toNat) (c := co35) ((Kd.R_reads' (rF26_ (ok := (fun k_ => some k_ ≠ (v149 : Value).ownBlock)) q26x11_ hg hat)).2.2) KL36.out ((Kd.R_reads' (rF26_ (ok := (fun k_ => some k_ ≠ (v149 : Value).ownBlock)) q26x11_ hg hat)).2.1)))
       have n9_ := aM26_ (ho)
       clear HO_4 HO_5 BK127 BK128 HO150 BK158 HB HR144 HR154 HO140
       have HO_4 := n0_
       have HO_5 := n1_
       have BK127 := n2_
       have BK128 := n3_
       have HO150 := n4_
       have BK158 := n5_
       have HB := n6_
       have HR144 := n7_
       have HR154 := n8_
       have HO147 := n9_
       clear n0_ n1_ n2_ n3_ n4_ n5_ n6_ n7_ n8_ n9_ ho hb hg hat
       refine hK.out _ _ trivial (fun hHeld => ?_)
       clear hK K
       refine norm_ (a' := ?_) ?_ ?_
       rotate_left
       ·exact q26x48_
       exact norm_ q26x9_ (hJ0_4_5_11 (v139, v146, v149, gb158) _ ⟨q26x16_, q26x15_, q26x8_, q26x11_, q26x2_, q26x5_, q26x10_, q26x3_, q26x4_, GW158.out, GE158.out, NB127_158.out, NB158_127.out, NB128_158.out, NB158_128.out, q26x6_⟩)
      intro hJ0_5_11
      refine join_ (σ := Value × Value) 5 #[true, true, true, true, true, false, true, true, true, false, false, false, false] (fun s_ => [(39, s_.1), (43, s_.2)]) (fun s_ w' => (Kd.R (Kd.int .i8) 69 w' w.heap.size (fun k_ => some k_ ≠ (.slice Ao35 x5_1.length co35 : Value).ownBlock) s_.2 y145) ∧ (Kd.R (Kd.int .i64) 2 w' w.heap.size (fun _ => True) (.slice (some ad137) x4_1.length co21) x4_1) ∧ (Kd.R (Kd.int .i8) 69 w' w.heap.size (fun k_ => some k_ ≠ (s_.2 : Value).ownBlock) (.slice Ao35 x5_1.length co35) x5_1) ∧ (w'.heap[gb127]? = some (.cells #[.int .i64 a0_0, .int .i64 a0_1] 24 (0, 0))) ∧ (w'.heap[gb128]? = some (.cells #[.slice none 0 0, .slice none 0 0] 34 (0, 0))) ∧ (Kd.C (Kd.int .i8) w' Ao35 y141.length y141) ∧ (Kd.C (Kd.int .i8) w' A36 y151.length y151) ∧ (Below w.heap.size w w')) ?_ ?_
      rotate_left
      rotate_left
      ·skip
       rintro ⟨v139, v146⟩ w40 ⟨h0_, h1_, h2_, h3_, h4_, h5_, h6_, h7_⟩
       have n0_ : Aside0 (Kd.R (Kd.int .i8) 69 w40 w.heap.size (fun k_ => some k_ ≠ (.slice Ao35 x5_1.length co35 : Value).ownBlock) v146 y145) := ⟨h0_⟩
       have n1_ : Aside0 (Kd.R (Kd.int .i64) 2 w40 w.heap.size (fun _ => True) (.slice (some ad137) x4_1.length co21) x4_1) := ⟨h1_⟩
       have n2_ : Aside0 (Kd.R (Kd.int .i8) 69 w40 w.heap.size (fun k_ => some k_ ≠ (v146 : Value).ownBlock) (.slice Ao35 x5_1.length co35) x5_1) := ⟨h2_⟩
       have n3_ : Aside0 (w40.heap[gb127]? = some (.cells #[.int .i64 a0_0, .int .i64 a0_1] 24 (0, 0))) := ⟨h3_⟩
       have n4_ : Aside0 (w40.heap[gb128]? = some (.cells #[.slice none 0 0, .slice none 0 0] 34 (0, 0))) := ⟨h4_⟩
       have n5_ : Aside0 (Kd.C (Kd.int .i8) w40 Ao35 y141.length y141) := ⟨h5_⟩
       have n6_ : Aside0 (Kd.C (Kd.int .i8) w40 A36 y151.length y151) := ⟨h6_⟩
       have n7_ : Aside0 (Below w.heap.size w w40) := ⟨h7_⟩
       clear HO_4 HO_5 BK127 BK128 HB h0_ h1_ h2_ h3_ h4_ h5_ h6_ h7_
       have HO147 := n0_
       have HO_4 := n1_
       have HO_5 := n2_
       have BK127 := n3_
       have BK128 := n4_
       have HR144 := n5_
       have HR154 := n6_
       have HB := n7_
       clear n0_ n1_ n2_ n3_ n4_ n5_ n6_ n7_
       have hHeld := trivial
       refine norm_ (a' := ?_) ?_ ?_
       rotate_left
       ·exact q26x44_
       refine two_ (i := 5) (j := 11) (Ni := some 44) (Nj := some 8) #[true, true, true, true, true, true, true, true, true, false, false, false, false] #[true, true, true, true, true, false, true, true, true, false, false, true, false] rfl rfl rfl rfl (two_of HT_.out (by kernel_rfl)) (by decide) (by decide) (fun K hK => ?_) (fun K hK => ?_)
       ·skip
        refine Kd.R_lit_step (Kd.int .i8) _ 69 ?hg (N := 44) ?hd (xs := ([] : List Int)) (inner := []) (ok := fun _ => True) (okp := fun _ => True) ?hr ?hp (fun _ hk => hk) trivial (Below.refl _ _) (Nat.le_refl _) (by simp) ?_; (case hd => rfl); (case hg => rfl); (case hr => first | (go_simp; done) | (go_simp; rfl)); (case hp => exact (Reps.none _ _))
        intro v149 w41 ho42 hb hg_ hnew_
        clear hg_ hnew_
        (first | rw [← Ny148.out] at ho42 | (simp only [Int.reduceToNat] at ho42; rw [← Ny148.out] at ho42))
        have n0_ := aM26_ (rB26_ q26x8_ hb)
        have n1_ := aM26_ (Kd.R_elder' q26x7_ (Kd.R_base ho42) hb)
        have n2_ := aM26_ (Kd.R_elder' q26x12_ (Kd.R_base ho42) hb)
        have n3_ := aM26_ (Kd.R_lower (Kd.R_new' (Kd.R_new' ho42 (Kd.R_lt q26x7_)) (Kd.R_lt q26x12_)) (bZ26_ q26x1_))
        have n4_ := aM26_ (kB26_ (g := gb127) (o := .cells #[.int .i64 a0_0, .int .i64 a0_1] 24 (0, 0)) q26x2_ hb)
        have n5_ := aM26_ (kB26_ (g := gb128) (o := .cells #[.slice none 0 0, .slice none 0 0] 34 (0, 0)) q26x5_ hb)
        have n6_ := aM26_ (cB26_ q26x3_ hb)
        have n7_ := aM26_ (cB26_ q26x4_ hb)
        have n8_ := aM26_ (bT26_ q26x1_ hb)
        clear HO_4 HO_5 HO147 BK127 BK128 HR144 HR154 HB
        have HO_4 := n0_
        have HO_5 := n1_
        have HO147 := n2_
        have HO150 := n3_
        have BK127 := n4_
        have BK128 := n5_
        have HR144 := n6_
        have HR154 := n7_
        have HB := n8_
        clear n0_ n1_ n2_ n3_ n4_ n5_ n6_ n7_ n8_ hb ho42
        refine hK.out _ _ trivial (fun hHeld => ?_)
        clear hK K
        refine norm_ (a' := ?_) ?_ ?_
        rotate_left
        ·exact q26x47_
        exact norm_ q26x9_ (hJ0_4_5 (v139, v146, v149) _ ⟨q26x16_, q26x25_, q26x8_, q26x7_, q26x2_, q26x5_, q26x3_, q26x4_, q26x1_⟩)
       skip
       refine box_step ?hg (N := 8) ?hd (cs := #[.slice none 0 0, .slice none 0 0]) (t := 34) ?hr ?_; (case hd => rfl); (case hg => rfl); (case hr => first | (go_simp; done) | (go_simp; rfl))
       intro gb158 hg w41 hbox hb
       have n0_ := aM26_ (rB26_ q26x8_ hb)
       have n1_ := aM26_ (rB26_ q26x7_ hb)
       have n2_ := aM26_ (rB26_ q26x12_ hb)
       have n3_ := aM26_ (kB26_ (g := gb127) (o := .cells #[.int .i64 a0_0, .int .i64 a0_1] 24 (0, 0)) q26x2_ hb)
       have n4_ := aM26_ (kB26_ (g := gb128) (o := .cells #[.slice none 0 0, .slice none 0 0] 34 (0, 0)) q26x5_ hb)
       have n5_ := aM26_ (cB26_ q26x3_ hb)
       have n6_ := aM26_ (cB26_ q26x4_ hb)
       have n7_ := aM26_ (bT26_ q26x1_ hb)
       have n8_ := aM26_ (hbox)
       have n9_ := aM26_ ((q26x27_ : w.heap.size ≤ gb158))
       have n10_ := aM26_ ((q26x27_ : w.heap.size ≤ gb158))
       have n11_ := aM26_ ((q26x18_ : gb127 ≠ gb158))
       have n12_ := aM26_ ((q26x19_ : gb158 ≠ gb127))
       have n13_ := aM26_ ((q26x20_ : gb128 ≠ gb158))
       have n14_ := aM26_ ((q26x21_ : gb158 ≠ gb128))
       clear HO_4 HO_5 HO147 BK127 BK128 HR144 HR154 HB
       have HO_4 := n0_
       have HO_5 := n1_
       have HO147 := n2_
       have BK127 := n3_
       have BK128 := n4_
       have HR144 := n5_
       have HR154 := n6_
       have HB := n7_
       have BK158 := n8_
       have GW158 := n9_
       have GE158 := n10_
       have NB127_158 := n11_
       have NB158_127 := n12_
       have NB128_158 := n13_
       have NB158_128 := n14_
       clear n0_ n1_ n2_ n3_ n4_ n5_ n6_ n7_ n8_ n9_ n10_ n11_ n12_ n13_ n14_ hb hbox hg
       refine hK.out _ _ trivial (fun hHeld => ?_)
       clear hK K
       refine norm_ (a' := ?_) ?_ ?_
       rotate_left
       ·exact q26x45_
       exact norm_ q26x9_ (hJ0_4_11 (v139, v146, gb158) _ ⟨q26x12_, q26x8_, q26x7_, q26x2_, q26x5_, q26x10_, q26x3_, q26x4_, GW158.out, GE158.out, NB127_158.out, NB158_127.out, NB128_158.out, NB158_128.out, q26x6_⟩)
      intro hJ0_4
      refine join_ (σ := Value × Value) 5 #[true, true, true, true, false, true, true, true, true, false, false, false, false] (fun s_ => [(39, s_.1), (44, s_.2)]) (fun s_ w' => (Kd.R (Kd.int .i8) 69 w' w.heap.size (fun k_ => some k_ ≠ (s_.2 : Value).ownBlock ∧ some k_ ≠ (.slice Ao35 x5_1.length co35 : Value).ownBlock) s_.1 y138) ∧ (Kd.R (Kd.int .i8) 69 w' w.heap.size (fun k_ => some k_ ≠ (s_.1 : Value).ownBlock ∧ some k_ ≠ (.slice Ao35 x5_1.length co35 : Value).ownBlock) s_.2 y148) ∧ (Kd.R (Kd.int .i64) 2 w' w.heap.size (fun _ => True) (.slice (some ad137) x4_1.length co21) x4_1) ∧ (Kd.R (Kd.int .i8) 69 w' w.heap.size (fun k_ => some k_ ≠ (s_.1 : Value).ownBlock ∧ some k_ ≠ (s_.2 : Value).ownBlock) (.slice Ao35 x5_1.length co35) x5_1) ∧ (w'.heap[gb127]? = some (.cells #[.int .i64 a0_0, .int .i64 a0_1] 24 (0, 0))) ∧ (w'.heap[gb128]? = some (.cells #[.slice none 0 0, .slice none 0 0] 34 (0, 0))) ∧ (Kd.C (Kd.int .i8) w' Ao35 y141.length y141) ∧ (Kd.C (Kd.int .i8) w' A36 y151.length y151) ∧ (Below w.heap.size w w')) ?_ ?_
      rotate_left
      rotate_left
      ·skip
       rintro ⟨v139, v149⟩ w41 ⟨h0_, h1_, h2_, h3_, h4_, h5_, h6_, h7_, h8_⟩
       have n0_ : Aside0 (Kd.R (Kd.int .i8) 69 w41 w.heap.size (fun k_ => some k_ ≠ (v149 : Value).ownBlock ∧ some k_ ≠ (.slice Ao35 x5_1.length co35 : Value).ownBlock) v139 y138) := ⟨h0_⟩
       have n1_ : Aside0 (Kd.R (Kd.int .i8) 69 w41 w.heap.size (fun k_ => some k_ ≠ (v139 : Value).ownBlock ∧ some k_ ≠ (.slice Ao35 x5_1.length co35 : Value).ownBlock) v149 y148) := ⟨h1_⟩
       have n2_ : Aside0 (Kd.R (Kd.int .i64) 2 w41 w.heap.size (fun _ => True) (.slice (some ad137) x4_1.length co21) x4_1) := ⟨h2_⟩
       have n3_ : Aside0 (Kd.R (Kd.int .i8) 69 w41 w.heap.size (fun k_ => some k_ ≠ (v139 : Value).ownBlock ∧ some k_ ≠ (v149 : Value).ownBlock) (.slice Ao35 x5_1.length co35) x5_1) := ⟨h3_⟩
       have n4_ : Aside0 (w41.heap[gb127]? = some (.cells #[.int .i64 a0_0, .int .i64 a0_1] 24 (0, 0))) := ⟨h4_⟩
       have n5_ : Aside0 (w41.heap[gb128]? = some (.cells #[.slice none 0 0, .slice none 0 0] 34 (0, 0))) := ⟨h5_⟩
       have n6_ : Aside0 (Kd.C (Kd.int .i8) w41 Ao35 y141.length y141) := ⟨h6_⟩
       have n7_ : Aside0 (Kd.C (Kd.int .i8) w41 A36 y151.length y151) := ⟨h7_⟩
       have n8_ : Aside0 (Below w.heap.size w w41) := ⟨h8_⟩
       clear HO_4 HO_5 BK127 BK128 HB h0_ h1_ h2_ h3_ h4_ h5_ h6_ h7_ h8_
       have HO140 := n0_
       have HO150 := n1_
       have HO_4 := n2_
       have HO_5 := n3_
       have BK127 := n4_
       have BK128 := n5_
       have HR144 := n6_
       have HR154 := n7_
       have HB := n8_
       clear n0_ n1_ n2_ n3_ n4_ n5_ n6_ n7_ n8_
       have hHeld := trivial
       refine norm_ (a' := ?_) ?_ ?_
       rotate_left
       ·exact q26x44_
       refine two_ (i := 4) (j := 11) (Ni := some 43) (Nj := some 8) #[true, true, true, true, true, true, true, true, true, false, false, false, false] #[true, true, true, true, false, true, true, true, true, false, false, true, false] rfl rfl rfl rfl (two_of HT_.out (by kernel_rfl)) (by decide) (by decide) (fun K hK => ?_) (fun K hK => ?_)
       ·skip
        refine Kd.R_append_rows_step (Kd.int .i8) (w0 := w) w.heap.size (by rfl) (.tmp 39) (.tmp 42) 22 69 (.int .i8 0) 1 rfl Try.underlying22 info69 rfl (by decide) (by omega) v139 y138 y141 _ _ _ (fun k_ => some k_ ≠ (.slice Ao35 x5_1.length co35 : Value).ownBlock ∧ some k_ ≠ (v149 : Value).ownBlock) (fun _ => False) rfl rfl ?aO ?aR (fun _ _ h => h) (fun _ h => h.elim) ?aF ?aB ?aS ?aL ?_
        (case aR => repeat (first | exact q26x3_ | (with_reducible refine Kd.C_alloc ?_ _) | (with_reducible refine Kd.C_drewN ?_ _) | (with_reducible refine Kd.C_drew ?_)))
        (case aB => exact q26x1_)
        (case aF => exact (fun k_ hk => ⟨Kd.fresh' (Kd.R_lt q26x7_) k_ hk, Kd.fresh' (Kd.R_lt q26x13_) k_ hk⟩))
        (case aO => exact q26x26_)
        (case aS => exact (bZ26_ q26x1_))
        (case aL => have := LMc27.out; omega)
        intro v146 w42 ho hb hg hat
        rw [← Ny145.out] at ho
        have n0_ := aM26_ (Kd.R_over' q26x8_ (Kd.R_typed q26x14_) (by decide) hg)
        have n1_ := aM26_ (rF26_ (ok := (fun k_ => some k_ ≠ (v149 : Value).ownBlock)) q26x11_ hg hat)
        have n2_ := aM26_ (kG26_ (g := gb127) (o := .cells #[.int .i64 a0_0, .int .i64 a0_1] 24 (0, 0)) q26x2_ hg (Kd.R_ne HO140.out BK127.out (by decide)))
        have n3_ := aM26_ (kG26_ (g := gb128) (o := .cells #[.slice none 0 0, .slice none 0 0] 34 (0, 0)) q26x5_ hg (Kd.R_ne HO140.out BK128.out (by decide)))
        have n4_ := aM26_ (rF26_ (ok := (fun k_ => some k_ ≠ (.slice Ao35 x5_1.length co35 : Value).ownBlock)) q26x15_ hg hat)
        have n5_ := aM26_ (hb)
        have n6_ := aM26_ ((show Kd.C (Kd.int .i8) w42 Ao35 y141.length y141 from by rw [Ny141.out]; exact Kd.C_take (m := (x7_2 : Int).toNat) ((Kd.R_reads' (rF26_ (ok := (fun k_ => some k_ ≠ (v149 : Value).ownBlock)) q26x11_ hg hat)).2.2) KL34.out))
        have n7_ := aM26_ ((show Kd.C (Kd.int .i8) w42 A36 y151.length y151 from by rw [Ny151.out, KA36.out]; exact Kd.C_drop (m := (x7_2 : Int).toNat) (c := co35) ((Kd.R_reads' (rF26_ (ok := (fun k_ => some k_ ≠ (v149 : Value).ownBlock)) q26x11_ hg hat)).2.2) KL36.out ((Kd.R_reads' (rF26_ (ok := (fun k_ => some k_ ≠ (v149 : Value).ownBlock)) q26x11_ hg hat)).2.1)))
        have n8_ := aM26_ (ho)
        clear HO_4 HO_5 BK127 BK128 HO150 HB HR144 HR154 HO140
        have HO_4 := n0_
        have HO_5 := n1_
        have BK127 := n2_
        have BK128 := n3_
        have HO150 := n4_
        have HB := n5_
        have HR144 := n6_
        have HR154 := n7_
        have HO147 := n8_
        clear n0_ n1_ n2_ n3_ n4_ n5_ n6_ n7_ n8_ ho hb hg hat
        refine hK.out _ _ trivial (fun hHeld => ?_)
        clear hK K
        refine norm_ (a' := ?_) ?_ ?_
        rotate_left
        ·exact q26x48_
        exact norm_ q26x9_ (hJ0_4_5 (v139, v146, v149) _ ⟨q26x16_, q26x15_, q26x8_, q26x11_, q26x2_, q26x5_, q26x3_, q26x4_, q26x1_⟩)
       skip
       refine box_step ?hg (N := 8) ?hd (cs := #[.slice none 0 0, .slice none 0 0]) (t := 34) ?hr ?_; (case hd => rfl); (case hg => rfl); (case hr => first | (go_simp; done) | (go_simp; rfl))
       intro gb158 hg w42 hbox hb
       have n0_ := aM26_ (rB26_ q26x8_ hb)
       have n1_ := aM26_ (rB26_ q26x7_ hb)
       have n2_ := aM26_ (rB26_ q26x14_ hb)
       have n3_ := aM26_ (rB26_ q26x13_ hb)
       have n4_ := aM26_ (kB26_ (g := gb127) (o := .cells #[.int .i64 a0_0, .int .i64 a0_1] 24 (0, 0)) q26x2_ hb)
       have n5_ := aM26_ (kB26_ (g := gb128) (o := .cells #[.slice none 0 0, .slice none 0 0] 34 (0, 0)) q26x5_ hb)
       have n6_ := aM26_ (cB26_ q26x3_ hb)
       have n7_ := aM26_ (cB26_ q26x4_ hb)
       have n8_ := aM26_ (bT26_ q26x1_ hb)
       have n9_ := aM26_ (hbox)
       have n10_ := aM26_ ((q26x27_ : w.heap.size ≤ gb158))
       have n11_ := aM26_ ((q26x27_ : w.heap.size ≤ gb158))
       have n12_ := aM26_ ((q26x18_ : gb127 ≠ gb158))
       have n13_ := aM26_ ((q26x19_ : gb158 ≠ gb127))
       have n14_ := aM26_ ((q26x20_ : gb128 ≠ gb158))
       have n15_ := aM26_ ((q26x21_ : gb158 ≠ gb128))
       clear HO_4 HO_5 HO140 HO150 BK127 BK128 HR144 HR154 HB
       have HO_4 := n0_
       have HO_5 := n1_
       have HO140 := n2_
       have HO150 := n3_
       have BK127 := n4_
       have BK128 := n5_
       have HR144 := n6_
       have HR154 := n7_
       have HB := n8_
       have BK158 := n9_
       have GW158 := n10_
       have GE158 := n11_
       have NB127_158 := n12_
       have NB158_127 := n13_
       have NB128_158 := n14_
       have NB158_128 := n15_
       clear n0_ n1_ n2_ n3_ n4_ n5_ n6_ n7_ n8_ n9_ n10_ n11_ n12_ n13_ n14_ n15_ hb hbox hg
       refine hK.out _ _ trivial (fun hHeld => ?_)
       clear hK K
       refine norm_ (a' := ?_) ?_ ?_
       rotate_left
       ·exact q26x45_
       exact norm_ q26x9_ (hJ0_5_11 (v139, v149, gb158) _ ⟨q26x14_, q26x13_, q26x8_, q26x7_, q26x2_, q26x5_, q26x10_, q26x3_, q26x4_, GW158.out, GE158.out, NB127_158.out, NB158_127.out, NB128_158.out, NB158_128.out, q26x6_⟩)
      intro hJ0_5
      refine join_ (σ := Value × Nat) 5 #[true, true, true, true, false, false, true, true, true, false, false, true, false] (fun s_ => [(39, s_.1), (8, .pointer (some ⟨s_.2, 0, none⟩))]) (fun s_ w' => (Kd.R (Kd.int .i8) 69 w' w.heap.size (fun k_ => some k_ ≠ (.slice Ao35 x5_1.length co35 : Value).ownBlock) s_.1 y138) ∧ (Kd.R (Kd.int .i64) 2 w' w.heap.size (fun _ => True) (.slice (some ad137) x4_1.length co21) x4_1) ∧ (Kd.R (Kd.int .i8) 69 w' w.heap.size (fun k_ => some k_ ≠ (s_.1 : Value).ownBlock) (.slice Ao35 x5_1.length co35) x5_1) ∧ (w'.heap[gb127]? = some (.cells #[.int .i64 a0_0, .int .i64 a0_1] 24 (0, 0))) ∧ (w'.heap[gb128]? = some (.cells #[.slice none 0 0, .slice none 0 0] 34 (0, 0))) ∧ (w'.heap[s_.2]? = some (.cells #[.slice none 0 0, .slice none 0 0] 34 (0, 0))) ∧ (Kd.C (Kd.int .i8) w' Ao35 y141.length y141) ∧ (Kd.C (Kd.int .i8) w' A36 y151.length y151) ∧ (w.heap.size ≤ s_.2) ∧ (w.heap.size ≤ s_.2) ∧ (gb127 ≠ s_.2) ∧ (s_.2 ≠ gb127) ∧ (gb128 ≠ s_.2) ∧ (s_.2 ≠ gb128) ∧ (Below w.heap.size w w')) ?_ ?_
      rotate_left
      rotate_left
      ·skip
       rintro ⟨v139, gb158⟩ w40 ⟨h0_, h1_, h2_, h3_, h4_, h5_, h6_, h7_, h8_, h9_, h10_, h11_, h12_, h13_, h14_⟩
       have n0_ : Aside0 (Kd.R (Kd.int .i8) 69 w40 w.heap.size (fun k_ => some k_ ≠ (.slice Ao35 x5_1.length co35 : Value).ownBlock) v139 y138) := ⟨h0_⟩
       have n1_ : Aside0 (Kd.R (Kd.int .i64) 2 w40 w.heap.size (fun _ => True) (.slice (some ad137) x4_1.length co21) x4_1) := ⟨h1_⟩
       have n2_ : Aside0 (Kd.R (Kd.int .i8) 69 w40 w.heap.size (fun k_ => some k_ ≠ (v139 : Value).ownBlock) (.slice Ao35 x5_1.length co35) x5_1) := ⟨h2_⟩
       have n3_ : Aside0 (w40.heap[gb127]? = some (.cells #[.int .i64 a0_0, .int .i64 a0_1] 24 (0, 0))) := ⟨h3_⟩
       have n4_ : Aside0 (w40.heap[gb128]? = some (.cells #[.slice none 0 0, .slice none 0 0] 34 (0, 0))) := ⟨h4_⟩
       have n5_ : Aside0 (w40.heap[gb158]? = some (.cells #[.slice none 0 0, .slice none 0 0] 34 (0, 0))) := ⟨h5_⟩
       have n6_ : Aside0 (Kd.C (Kd.int .i8) w40 Ao35 y141.length y141) := ⟨h6_⟩
       have n7_ : Aside0 (Kd.C (Kd.int .i8) w40 A36 y151.length y151) := ⟨h7_⟩
       have n8_ : Aside0 (w.heap.size ≤ gb158) := ⟨h8_⟩
       have n9_ : Aside0 (w.heap.size ≤ gb158) := ⟨h9_⟩
       have n10_ : Aside0 (gb127 ≠ gb158) := ⟨h10_⟩
       have n11_ : Aside0 (gb158 ≠ gb127) := ⟨h11_⟩
       have n12_ : Aside0 (gb128 ≠ gb158) := ⟨h12_⟩
       have n13_ : Aside0 (gb158 ≠ gb128) := ⟨h13_⟩
       have n14_ : Aside0 (Below w.heap.size w w40) := ⟨h14_⟩
       clear HO_4 HO_5 BK127 BK128 HB h0_ h1_ h2_ h3_ h4_ h5_ h6_ h7_ h8_ h9_ h10_ h11_ h12_ h13_ h14_
       have HO140 := n0_
       have HO_4 := n1_
       have HO_5 := n2_
       have BK127 := n3_
       have BK128 := n4_
       have BK158 := n5_
       have HR144 := n6_
       have HR154 := n7_
       have GW158 := n8_
       have GE158 := n9_
       have NB127_158 := n10_
       have NB158_127 := n11_
       have NB128_158 := n12_
       have NB158_128 := n13_
       have HB := n14_
       clear n0_ n1_ n2_ n3_ n4_ n5_ n6_ n7_ n8_ n9_ n10_ n11_ n12_ n13_ n14_
       have hHeld := trivial
       refine norm_ (a' := ?_) ?_ ?_
       rotate_left
       ·exact q26x44_
       refine two_ (i := 4) (j := 5) (Ni := some 43) (Nj := some 44) #[true, true, true, true, true, false, true, true, true, false, false, true, false] #[true, true, true, true, false, true, true, true, true, false, false, true, false] rfl rfl rfl rfl (two_of HT_.out (by kernel_rfl)) (by decide) (by decide) (fun K hK => ?_) (fun K hK => ?_)
       rotate_left
       ·skip
        refine Kd.R_lit_step (Kd.int .i8) _ 69 ?hg (N := 44) ?hd (xs := ([] : List Int)) (inner := []) (ok := fun _ => True) (okp := fun _ => True) ?hr ?hp (fun _ hk => hk) trivial (Below.refl _ _) (Nat.le_refl _) (by simp) ?_; (case hd => rfl); (case hg => rfl); (case hr => first | (go_simp; done) | (go_simp; rfl)); (case hp => exact (Reps.none _ _))
        intro v149 w41 ho42 hb hg_ hnew_
        clear hg_ hnew_
        (first | rw [← Ny148.out] at ho42 | (simp only [Int.reduceToNat] at ho42; rw [← Ny148.out] at ho42))
        have n0_ := aM26_ (rB26_ q26x8_ hb)
        have n1_ := aM26_ (Kd.R_elder' q26x7_ (Kd.R_base ho42) hb)
        have n2_ := aM26_ (Kd.R_elder' q26x14_ (Kd.R_base ho42) hb)
        have n3_ := aM26_ (Kd.R_lower (Kd.R_new' (Kd.R_new' ho42 (Kd.R_lt q26x7_)) (Kd.R_lt q26x14_)) (bZ26_ q26x6_))
        have n4_ := aM26_ (kB26_ (g := gb127) (o := .cells #[.int .i64 a0_0, .int .i64 a0_1] 24 (0, 0)) q26x2_ hb)
        have n5_ := aM26_ (kB26_ (g := gb128) (o := .cells #[.slice none 0 0, .slice none 0 0] 34 (0, 0)) q26x5_ hb)
        have n6_ := aM26_ (cB26_ q26x3_ hb)
        have n7_ := aM26_ (cB26_ q26x4_ hb)
        have n8_ := aM26_ (kB26_ (g := gb158) (o := .cells #[.slice none 0 0, .slice none 0 0] 34 (0, 0)) q26x10_ hb)
        have n9_ := aM26_ (bT26_ q26x6_ hb)
        clear HO_4 HO_5 HO140 BK127 BK128 HR144 HR154 BK158 HB
        have HO_4 := n0_
        have HO_5 := n1_
        have HO140 := n2_
        have HO150 := n3_
        have BK127 := n4_
        have BK128 := n5_
        have HR144 := n6_
        have HR154 := n7_
        have BK158 := n8_
        have HB := n9_
        clear n0_ n1_ n2_ n3_ n4_ n5_ n6_ n7_ n8_ n9_ hb ho42
        refine hK.out _ _ trivial (fun hHeld => ?_)
        clear hK K
        refine norm_ (a' := ?_) ?_ ?_
        rotate_left
        ·exact q26x47_
        exact norm_ q26x9_ (hJ0_5_11 (v139, v149, gb158) _ ⟨q26x26_, q26x25_, q26x8_, q26x7_, q26x2_, q26x5_, q26x10_, q26x3_, q26x4_, GW158.out, GE158.out, NB127_158.out, NB158_127.out, NB128_158.out, NB158_128.out, q26x6_⟩)
       skip
       refine Kd.R_append_rows_step (Kd.int .i8) (w0 := w) w.heap.size (by rfl) (.tmp 39) (.tmp 42) 22 69 (.int .i8 0) 1 rfl Try.underlying22 info69 rfl (by decide) (by omega) v139 y138 y141 _ _ _ (fun k_ => some k_ ≠ (.slice Ao35 x5_1.length co35 : Value).ownBlock) (fun _ => False) rfl rfl ?aO ?aR (fun _ _ h => h) (fun _ h => h.elim) ?aF ?aB ?aS ?aL ?_
       (case aR => repeat (first | exact q26x3_ | (with_reducible refine Kd.C_alloc ?_ _) | (with_reducible refine Kd.C_drewN ?_ _) | (with_reducible refine Kd.C_drew ?_)))
       (case aB => exact q26x6_)
       (case aF => exact (fun k_ hk => Kd.fresh' (Kd.R_lt q26x7_) k_ hk))
       (case aO => exact q26x14_)
       (case aS => exact (bZ26_ q26x6_))
       (case aL => have := LMc27.out; omega)
       intro v146 w41 ho hb hg hat
       rw [← Ny145.out] at ho
       have n0_ := aM26_ (Kd.R_over' q26x8_ (Kd.R_typed q26x14_) (by decide) hg)
       have n1_ := aM26_ (rF26_ (ok := (fun _ => True)) q26x17_ hg hat)
       have n2_ := aM26_ (kG26_ (g := gb127) (o := .cells #[.int .i64 a0_0, .int .i64 a0_1] 24 (0, 0)) q26x2_ hg (Kd.R_ne HO140.out BK127.out (by decide)))
       have n3_ := aM26_ (kG26_ (g := gb128) (o := .cells #[.slice none 0 0, .slice none 0 0] 34 (0, 0)) q26x5_ hg (Kd.R_ne HO140.out BK128.out (by decide)))
       have n4_ := aM26_ (kG26_ (g := gb158) (o := .cells #[.slice none 0 0, .slice none 0 0] 34 (0, 0)) q26x10_ hg (Kd.R_ne HO140.out BK158.out (by decide)))
       have n5_ := aM26_ (hb)
       have n6_ := aM26_ ((show Kd.C (Kd.int .i8) w41 Ao35 y141.length y141 from by rw [Ny141.out]; exact Kd.C_take (m := (x7_2 : Int).toNat) ((Kd.R_reads' (rF26_ (ok := (fun _ => True)) q26x17_ hg hat)).2.2) KL34.out))
       have n7_ := aM26_ ((show Kd.C (Kd.int .i8) w41 A36 y151.length y151 from by rw [Ny151.out, KA36.out]; exact Kd.C_drop (m := (x7_2 : Int).toNat) (c := co35) ((Kd.R_reads' (rF26_ (ok := (fun _ => True)) q26x17_ hg hat)).2.2) KL36.out ((Kd.R_reads' (rF26_ (ok := (fun _ => True)) q26x17_ hg hat)).2.1)))
       have n8_ := aM26_ (ho)
       clear HO_4 HO_5 BK127 BK128 BK158 HB HR144 HR154 HO140
       have HO_4 := n0_
       have HO_5 := n1_
       have BK127 := n2_
       have BK128 := n3_
       have BK158 := n4_
       have HB := n5_
       have HR144 := n6_
       have HR154 := n7_
       have HO147 := n8_
       clear n0_ n1_ n2_ n3_ n4_ n5_ n6_ n7_ n8_ ho hb hg hat
       refine hK.out _ _ trivial (fun hHeld => ?_)
       clear hK K
       refine norm_ (a' := ?_) ?_ ?_
       rotate_left
       ·exact q26x48_
       exact norm_ q26x9_ (hJ0_4_11 (v139, v146, gb158) _ ⟨q26x12_, q26x8_, q26x22_, q26x2_, q26x5_, q26x10_, q26x3_, q26x4_, GW158.out, GE158.out, NB127_158.out, NB158_127.out, NB128_158.out, NB158_128.out, q26x6_⟩)
      intro hJ0_11
      refine join_ (σ := Value × Nat) 5 #[false, true, true, true, false, true, true, true, true, false, false, true, false] (fun s_ => [(44, s_.1), (8, .pointer (some ⟨s_.2, 0, none⟩))]) (fun s_ w' => (Kd.R (Kd.int .i8) 69 w' w.heap.size (fun k_ => some k_ ≠ (.slice Ao35 x5_1.length co35 : Value).ownBlock) s_.1 y148) ∧ (Kd.R (Kd.int .i64) 2 w' w.heap.size (fun _ => True) (.slice (some ad137) x4_1.length co21) x4_1) ∧ (Kd.R (Kd.int .i8) 69 w' w.heap.size (fun k_ => some k_ ≠ (s_.1 : Value).ownBlock) (.slice Ao35 x5_1.length co35) x5_1) ∧ (w'.heap[gb127]? = some (.cells #[.int .i64 a0_0, .int .i64 a0_1] 24 (0, 0))) ∧ (w'.heap[gb128]? = some (.cells #[.slice none 0 0, .slice none 0 0] 34 (0, 0))) ∧ (w'.heap[s_.2]? = some (.cells #[.slice none 0 0, .slice none 0 0] 34 (0, 0))) ∧ (Kd.C (Kd.int .i8) w' Ao35 y141.length y141) ∧ (Kd.C (Kd.int .i8) w' A36 y151.length y151) ∧ (w.heap.size ≤ s_.2) ∧ (w.heap.size ≤ s_.2) ∧ (gb127 ≠ s_.2) ∧ (s_.2 ≠ gb127) ∧ (gb128 ≠ s_.2) ∧ (s_.2 ≠ gb128) ∧ (Below w.heap.size w w')) ?_ ?_
      rotate_left
      rotate_left
      ·skip
       rintro ⟨v149, gb158⟩ w40 ⟨h0_, h1_, h2_, h3_, h4_, h5_, h6_, h7_, h8_, h9_, h10_, h11_, h12_, h13_, h14_⟩
       have n0_ : Aside0 (Kd.R (Kd.int .i8) 69 w40 w.heap.size (fun k_ => some k_ ≠ (.slice Ao35 x5_1.length co35 : Value).ownBlock) v149 y148) := ⟨h0_⟩
       have n1_ : Aside0 (Kd.R (Kd.int .i64) 2 w40 w.heap.size (fun _ => True) (.slice (some ad137) x4_1.length co21) x4_1) := ⟨h1_⟩
       have n2_ : Aside0 (Kd.R (Kd.int .i8) 69 w40 w.heap.size (fun k_ => some k_ ≠ (v149 : Value).ownBlock) (.slice Ao35 x5_1.length co35) x5_1) := ⟨h2_⟩
       have n3_ : Aside0 (w40.heap[gb127]? = some (.cells #[.int .i64 a0_0, .int .i64 a0_1] 24 (0, 0))) := ⟨h3_⟩
       have n4_ : Aside0 (w40.heap[gb128]? = some (.cells #[.slice none 0 0, .slice none 0 0] 34 (0, 0))) := ⟨h4_⟩
       have n5_ : Aside0 (w40.heap[gb158]? = some (.cells #[.slice none 0 0, .slice none 0 0] 34 (0, 0))) := ⟨h5_⟩
       have n6_ : Aside0 (Kd.C (Kd.int .i8) w40 Ao35 y141.length y141) := ⟨h6_⟩
       have n7_ : Aside0 (Kd.C (Kd.int .i8) w40 A36 y151.length y151) := ⟨h7_⟩
       have n8_ : Aside0 (w.heap.size ≤ gb158) := ⟨h8_⟩
       have n9_ : Aside0 (w.heap.size ≤ gb158) := ⟨h9_⟩
       have n10_ : Aside0 (gb127 ≠ gb158) := ⟨h10_⟩
       have n11_ : Aside0 (gb158 ≠ gb127) := ⟨h11_⟩
       have n12_ : Aside0 (gb128 ≠ gb158) := ⟨h12_⟩
       have n13_ : Aside0 (gb158 ≠ gb128) := ⟨h13_⟩
       have n14_ : Aside0 (Below w.heap.size w w40) := ⟨h14_⟩
       clear HO_4 HO_5 BK127 BK128 HB h0_ h1_ h2_ h3_ h4_ h5_ h6_ h7_ h8_ h9_ h10_ h11_ h12_ h13_ h14_
       have HO150 := n0_
       have HO_4 := n1_
       have HO_5 := n2_
       have BK127 := n3_
       have BK128 := n4_
       have BK158 := n5_
       have HR144 := n6_
       have HR154 := n7_
       have GW158 := n8_
       have GE158 := n9_
       have NB127_158 := n10_
       have NB158_127 := n11_
       have NB128_158 := n12_
       have NB158_128 := n13_
       have HB := n14_
       clear n0_ n1_ n2_ n3_ n4_ n5_ n6_ n7_ n8_ n9_ n10_ n11_ n12_ n13_ n14_
       have hHeld := trivial
       refine norm_ (a' := ?_) ?_ ?_
       rotate_left
       ·exact q26x44_
       refine one_ (i := 0) (N := some 39) #[true, true, true, true, false, true, true, true, true, false, false, true, false] rfl rfl (one_of HT_.out (by kernel_rfl)) (by decide) (fun K hK => ?_)
       refine Kd.R_lit_step (Kd.int .i8) _ 69 ?hg (N := 39) ?hd (xs := ([] : List Int)) (inner := []) (ok := fun _ => True) (okp := fun _ => True) ?hr ?hp (fun _ hk => hk) trivial (Below.refl _ _) (Nat.le_refl _) (by simp) ?_; (case hd => rfl); (case hg => rfl); (case hr => first | (go_simp; done) | (go_simp; rfl)); (case hp => exact (Reps.none _ _))
       intro v139 w41 ho42 hb hg_ hnew_
       clear hg_ hnew_
       (first | rw [← Ny138.out] at ho42 | (simp only [Int.reduceToNat] at ho42; rw [← Ny138.out] at ho42))
       have n0_ := aM26_ (rB26_ q26x8_ hb)
       have n1_ := aM26_ (Kd.R_elder' q26x7_ (Kd.R_base ho42) hb)
       have n2_ := aM26_ (Kd.R_elder' q26x13_ (Kd.R_base ho42) hb)
       have n3_ := aM26_ (Kd.R_lower (Kd.R_new' (Kd.R_new' ho42 (Kd.R_lt q26x7_)) (Kd.R_lt q26x13_)) (bZ26_ q26x6_))
       have n4_ := aM26_ (kB26_ (g := gb127) (o := .cells #[.int .i64 a0_0, .int .i64 a0_1] 24 (0, 0)) q26x2_ hb)
       have n5_ := aM26_ (kB26_ (g := gb128) (o := .cells #[.slice none 0 0, .slice none 0 0] 34 (0, 0)) q26x5_ hb)
       have n6_ := aM26_ (cB26_ q26x3_ hb)
       have n7_ := aM26_ (cB26_ q26x4_ hb)
       have n8_ := aM26_ (kB26_ (g := gb158) (o := .cells #[.slice none 0 0, .slice none 0 0] 34 (0, 0)) q26x10_ hb)
       have n9_ := aM26_ (bT26_ q26x6_ hb)
       clear HO_4 HO_5 HO150 BK127 BK128 HR144 HR154 BK158 HB
       have HO_4 := n0_
       have HO_5 := n1_
       have HO150 := n2_
       have HO140 := n3_
       have BK127 := n4_
       have BK128 := n5_
       have HR144 := n6_
       have HR154 := n7_
       have BK158 := n8_
       have HB := n9_
       clear n0_ n1_ n2_ n3_ n4_ n5_ n6_ n7_ n8_ n9_ hb ho42
       refine hK.out _ _ trivial (fun hHeld => ?_)
       clear hK K
       refine norm_ (a' := ?_) ?_ ?_
       rotate_left
       ·exact q26x49_
       exact norm_ q26x9_ (hJ0_5_11 (v139, v149, gb158) _ ⟨q26x33_, q26x15_, q26x8_, q26x11_, q26x2_, q26x5_, q26x10_, q26x3_, q26x4_, GW158.out, GE158.out, NB127_158.out, NB158_127.out, NB128_158.out, NB158_128.out, q26x6_⟩)
      intro hJ5_11
      refine join_ (σ := Value) 6 #[true, true, true, true, false, false, true, true, true, false, false, false, false] (fun s_ => [(39, s_)]) (fun s_ w' => (Kd.R (Kd.int .i8) 69 w' w.heap.size (fun k_ => some k_ ≠ (.slice Ao35 x5_1.length co35 : Value).ownBlock) s_ y138) ∧ (Kd.R (Kd.int .i64) 2 w' w.heap.size (fun _ => True) (.slice (some ad137) x4_1.length co21) x4_1) ∧ (Kd.R (Kd.int .i8) 69 w' w.heap.size (fun k_ => some k_ ≠ (s_ : Value).ownBlock) (.slice Ao35 x5_1.length co35) x5_1) ∧ (w'.heap[gb127]? = some (.cells #[.int .i64 a0_0, .int .i64 a0_1] 24 (0, 0))) ∧ (w'.heap[gb128]? = some (.cells #[.slice none 0 0, .slice none 0 0] 34 (0, 0))) ∧ (Kd.C (Kd.int .i8) w' Ao35 y141.length y141) ∧ (Kd.C (Kd.int .i8) w' A36 y151.length y151) ∧ (Below w.heap.size w w')) ?_ ?_
      rotate_left
      rotate_left
      ·skip
       rintro v139 w39 ⟨h0_, h1_, h2_, h3_, h4_, h5_, h6_, h7_⟩
       have n0_ : Aside0 (Kd.R (Kd.int .i8) 69 w39 w.heap.size (fun k_ => some k_ ≠ (.slice Ao35 x5_1.length co35 : Value).ownBlock) v139 y138) := ⟨h0_⟩
       have n1_ : Aside0 (Kd.R (Kd.int .i64) 2 w39 w.heap.size (fun _ => True) (.slice (some ad137) x4_1.length co21) x4_1) := ⟨h1_⟩
       have n2_ : Aside0 (Kd.R (Kd.int .i8) 69 w39 w.heap.size (fun k_ => some k_ ≠ (v139 : Value).ownBlock) (.slice Ao35 x5_1.length co35) x5_1) := ⟨h2_⟩
       have n3_ : Aside0 (w39.heap[gb127]? = some (.cells #[.int .i64 a0_0, .int .i64 a0_1] 24 (0, 0))) := ⟨h3_⟩
       have n4_ : Aside0 (w39.heap[gb128]? = some (.cells #[.slice none 0 0, .slice none 0 0] 34 (0, 0))) := ⟨h4_⟩
       have n5_ : Aside0 (Kd.C (Kd.int .i8) w39 Ao35 y141.length y141) := ⟨h5_⟩
       have n6_ : Aside0 (Kd.C (Kd.int .i8) w39 A36 y151.length y151) := ⟨h6_⟩
       have n7_ : Aside0 (Below w.heap.size w w39) := ⟨h7_⟩
       clear HO_4 HO_5 BK127 BK128 HB h0_ h1_ h2_ h3_ h4_ h5_ h6_ h7_
       have HO140 := n0_
       have HO_4 := n1_
       have HO_5 := n2_
       have BK127 := n3_
       have BK128 := n4_
       have HR144 := n5_
       have HR154 := n6_
       have HB := n7_
       clear n0_ n1_ n2_ n3_ n4_ n5_ n6_ n7_
       have hHeld := trivial
       refine norm_ (a' := ?_) ?_ ?_
       rotate_left
       ·exact q26x44_
       refine three_ (i := 4) (j := 5) (k := 11) (Ni := some 43) (Nj := some 44) (Nk := some 8) #[true, true, true, true, true, false, true, true, true, false, false, false, false] #[true, true, true, true, false, true, true, true, true, false, false, false, false] #[true, true, true, true, false, false, true, true, true, false, false, true, false] rfl rfl rfl rfl rfl rfl (three_of HT_.out (by kernel_rfl)) (by decide) (by decide) (by decide) (fun K hK => ?_) (fun K hK => ?_) (fun K hK => ?_)
       ·skip
        refine Kd.R_append_rows_step (Kd.int .i8) (w0 := w) w.heap.size (by rfl) (.tmp 39) (.tmp 42) 22 69 (.int .i8 0) 1 rfl Try.underlying22 info69 rfl (by decide) (by omega) v139 y138 y141 _ _ _ (fun k_ => some k_ ≠ (.slice Ao35 x5_1.length co35 : Value).ownBlock) (fun _ => False) rfl rfl ?aO ?aR (fun _ _ h => h) (fun _ h => h.elim) ?aF ?aB ?aS ?aL ?_
        (case aR => repeat (first | exact q26x3_ | (with_reducible refine Kd.C_alloc ?_ _) | (with_reducible refine Kd.C_drewN ?_ _) | (with_reducible refine Kd.C_drew ?_)))
        (case aB => exact q26x1_)
        (case aF => exact (fun k_ hk => Kd.fresh' (Kd.R_lt q26x7_) k_ hk))
        (case aO => exact q26x14_)
        (case aS => exact (bZ26_ q26x1_))
        (case aL => have := LMc27.out; omega)
        intro v146 w40 ho hb hg hat
        rw [← Ny145.out] at ho
        have n0_ := aM26_ (Kd.R_over' q26x8_ (Kd.R_typed q26x14_) (by decide) hg)
        have n1_ := aM26_ (rF26_ (ok := (fun _ => True)) q26x17_ hg hat)
        have n2_ := aM26_ (kG26_ (g := gb127) (o := .cells #[.int .i64 a0_0, .int .i64 a0_1] 24 (0, 0)) q26x2_ hg (Kd.R_ne HO140.out BK127.out (by decide)))
        have n3_ := aM26_ (kG26_ (g := gb128) (o := .cells #[.slice none 0 0, .slice none 0 0] 34 (0, 0)) q26x5_ hg (Kd.R_ne HO140.out BK128.out (by decide)))
        have n4_ := aM26_ (hb)
        have n5_ := aM26_ ((show Kd.C (Kd.int .i8) w40 Ao35 y141.length y141 from by rw [Ny141.out]; exact Kd.C_take (m := (x7_2 : Int).toNat) ((Kd.R_reads' (rF26_ (ok := (fun _ => True)) q26x17_ hg hat)).2.2) KL34.out))
        have n6_ := aM26_ ((show Kd.C (Kd.int .i8) w40 A36 y151.length y151 from by rw [Ny151.out, KA36.out]; exact Kd.C_drop (m := (x7_2 : Int).toNat) (c := co35) ((Kd.R_reads' (rF26_ (ok := (fun _ => True)) q26x17_ hg hat)).2.2) KL36.out ((Kd.R_reads' (rF26_ (ok := (fun _ => True)) q26x17_ hg hat)).2.1)))
        have n7_ := aM26_ (ho)
        clear HO_4 HO_5 BK127 BK128 HB HR144 HR154 HO140
        have HO_4 := n0_
        have HO_5 := n1_
        have BK127 := n2_
        have BK128 := n3_
        have HB := n4_
        have HR144 := n5_
        have HR154 := n6_
        have HO147 := n7_
        clear n0_ n1_ n2_ n3_ n4_ n5_ n6_ n7_ ho hb hg hat
        refine hK.out _ _ trivial (fun hHeld => ?_)
        clear hK K
        refine norm_ (a' := ?_) ?_ ?_
        rotate_left
        ·exact q26x48_
        exact norm_ q26x9_ (hJ0_4 (v139, v146) _ ⟨q26x12_, q26x8_, q26x22_, q26x2_, q26x5_, q26x3_, q26x4_, q26x1_⟩)
       ·skip
        refine Kd.R_lit_step (Kd.int .i8) _ 69 ?hg (N := 44) ?hd (xs := ([] : List Int)) (inner := []) (ok := fun _ => True) (okp := fun _ => True) ?hr ?hp (fun _ hk => hk) trivial (Below.refl _ _) (Nat.le_refl _) (by simp) ?_; (case hd => rfl); (case hg => rfl); (case hr => first | (go_simp; done) | (go_simp; rfl)); (case hp => exact (Reps.none _ _))
        intro v149 w40 ho41 hb hg_ hnew_
        clear hg_ hnew_
        (first | rw [← Ny148.out] at ho41 | (simp only [Int.reduceToNat] at ho41; rw [← Ny148.out] at ho41))
        have n0_ := aM26_ (rB26_ q26x8_ hb)
        have n1_ := aM26_ (Kd.R_elder' q26x7_ (Kd.R_base ho41) hb)
        have n2_ := aM26_ (Kd.R_elder' q26x14_ (Kd.R_base ho41) hb)
        have n3_ := aM26_ (Kd.R_lower (Kd.R_new' (Kd.R_new' ho41 (Kd.R_lt q26x7_)) (Kd.R_lt q26x14_)) (bZ26_ q26x1_))
        have n4_ := aM26_ (kB26_ (g := gb127) (o := .cells #[.int .i64 a0_0, .int .i64 a0_1] 24 (0, 0)) q26x2_ hb)
        have n5_ := aM26_ (kB26_ (g := gb128) (o := .cells #[.slice none 0 0, .slice none 0 0] 34 (0, 0)) q26x5_ hb)
        have n6_ := aM26_ (cB26_ q26x3_ hb)
        have n7_ := aM26_ (cB26_ q26x4_ hb)
        have n8_ := aM26_ (bT26_ q26x1_ hb)
        clear HO_4 HO_5 HO140 BK127 BK128 HR144 HR154 HB
        have HO_4 := n0_
        have HO_5 := n1_
        have HO140 := n2_
        have HO150 := n3_
        have BK127 := n4_
        have BK128 := n5_
        have HR144 := n6_
        have HR154 := n7_
        have HB := n8_
        clear n0_ n1_ n2_ n3_ n4_ n5_ n6_ n7_ n8_ hb ho41
        refine hK.out _ _ trivial (fun hHeld => ?_)
        clear hK K
        refine norm_ (a' := ?_) ?_ ?_
        rotate_left
        ·exact q26x47_
        exact norm_ q26x9_ (hJ0_5 (v139, v149) _ ⟨q26x26_, q26x25_, q26x8_, q26x7_, q26x2_, q26x5_, q26x3_, q26x4_, q26x1_⟩)
       skip
       refine box_step ?hg (N := 8) ?hd (cs := #[.slice none 0 0, .slice none 0 0]) (t := 34) ?hr ?_; (case hd => rfl); (case hg => rfl); (case hr => first | (go_simp; done) | (go_simp; rfl))
       intro gb158 hg w40 hbox hb
       have n0_ := aM26_ (rB26_ q26x8_ hb)
       have n1_ := aM26_ (rB26_ q26x7_ hb)
       have n2_ := aM26_ (rB26_ q26x14_ hb)
       have n3_ := aM26_ (kB26_ (g := gb127) (o := .cells #[.int .i64 a0_0, .int .i64 a0_1] 24 (0, 0)) q26x2_ hb)
       have n4_ := aM26_ (kB26_ (g := gb128) (o := .cells #[.slice none 0 0, .slice none 0 0] 34 (0, 0)) q26x5_ hb)
       have n5_ := aM26_ (cB26_ q26x3_ hb)
       have n6_ := aM26_ (cB26_ q26x4_ hb)
       have n7_ := aM26_ (bT26_ q26x1_ hb)
       have n8_ := aM26_ (hbox)
       have n9_ := aM26_ ((q26x27_ : w.heap.size ≤ gb158))
       have n10_ := aM26_ ((q26x27_ : w.heap.size ≤ gb158))
       have n11_ := aM26_ ((q26x18_ : gb127 ≠ gb158))
       have n12_ := aM26_ ((q26x19_ : gb158 ≠ gb127))
       have n13_ := aM26_ ((q26x20_ : gb128 ≠ gb158))
       have n14_ := aM26_ ((q26x21_ : gb158 ≠ gb128))
       clear HO_4 HO_5 HO140 BK127 BK128 HR144 HR154 HB
       have HO_4 := n0_
       have HO_5 := n1_
       have HO140 := n2_
       have BK127 := n3_
       have BK128 := n4_
       have HR144 := n5_
       have HR154 := n6_
       have HB := n7_
       have BK158 := n8_
       have GW158 := n9_
       have GE158 := n10_
       have NB127_158 := n11_
       have NB158_127 := n12_
       have NB128_158 := n13_
       have NB158_128 := n14_
       clear n0_ n1_ n2_ n3_ n4_ n5_ n6_ n7_ n8_ n9_ n10_ n11_ n12_ n13_ n14_ hb hbox hg
       refine hK.out _ _ trivial (fun hHeld => ?_)
       clear hK K
       refine norm_ (a' := ?_) ?_ ?_
       rotate_left
       ·exact q26x45_
       exact norm_ q26x9_ (hJ0_11 (v139, gb158) _ ⟨q26x14_, q26x8_, q26x7_, q26x2_, q26x5_, q26x10_, q26x3_, q26x4_, GW158.out, GE158.out, NB127_158.out, NB158_127.out, NB128_158.out, NB158_128.out, q26x6_⟩)
      intro hJ0
      refine join_ (σ := Value) 6 #[false, true, true, true, false, true, true, true, true, false, false, false, false] (fun s_ => [(44, s_)]) (fun s_ w' => (Kd.R (Kd.int .i8) 69 w' w.heap.size (fun k_ => some k_ ≠ (.slice Ao35 x5_1.length co35 : Value).ownBlock) s_ y148) ∧ (Kd.R (Kd.int .i64) 2 w' w.heap.size (fun _ => True) (.slice (some ad137) x4_1.length co21) x4_1) ∧ (Kd.R (Kd.int .i8) 69 w' w.heap.size (fun k_ => some k_ ≠ (s_ : Value).ownBlock) (.slice Ao35 x5_1.length co35) x5_1) ∧ (w'.heap[gb127]? = some (.cells #[.int .i64 a0_0, .int .i64 a0_1] 24 (0, 0))) ∧ (w'.heap[gb128]? = some (.cells #[.slice none 0 0, .slice none 0 0] 34 (0, 0))) ∧ (Kd.C (Kd.int .i8) w' Ao35 y141.length y141) ∧ (Kd.C (Kd.int .i8) w' A36 y151.length y151) ∧ (Below w.heap.size w w')) ?_ ?_
      rotate_left
      rotate_left
      ·skip
       rintro v149 w39 ⟨h0_, h1_, h2_, h3_, h4_, h5_, h6_, h7_⟩
       have n0_ : Aside0 (Kd.R (Kd.int .i8) 69 w39 w.heap.size (fun k_ => some k_ ≠ (.slice Ao35 x5_1.length co35 : Value).ownBlock) v149 y148) := ⟨h0_⟩
       have n1_ : Aside0 (Kd.R (Kd.int .i64) 2 w39 w.heap.size (fun _ => True) (.slice (some ad137) x4_1.length co21) x4_1) := ⟨h1_⟩
       have n2_ : Aside0 (Kd.R (Kd.int .i8) 69 w39 w.heap.size (fun k_ => some k_ ≠ (v149 : Value).ownBlock) (.slice Ao35 x5_1.length co35) x5_1) := ⟨h2_⟩
       have n3_ : Aside0 (w39.heap[gb127]? = some (.cells #[.int .i64 a0_0, .int .i64 a0_1] 24 (0, 0))) := ⟨h3_⟩
       have n4_ : Aside0 (w39.heap[gb128]? = some (.cells #[.slice none 0 0, .slice none 0 0] 34 (0, 0))) := ⟨h4_⟩
       have n5_ : Aside0 (Kd.C (Kd.int .i8) w39 Ao35 y141.length y141) := ⟨h5_⟩
       have n6_ : Aside0 (Kd.C (Kd.int .i8) w39 A36 y151.length y151) := ⟨h6_⟩
       have n7_ : Aside0 (Below w.heap.size w w39) := ⟨h7_⟩
       clear HO_4 HO_5 BK127 BK128 HB h0_ h1_ h2_ h3_ h4_ h5_ h6_ h7_
       have HO150 := n0_
       have HO_4 := n1_
       have HO_5 := n2_
       have BK127 := n3_
       have BK128 := n4_
       have HR144 := n5_
       have HR154 := n6_
       have HB := n7_
       clear n0_ n1_ n2_ n3_ n4_ n5_ n6_ n7_
       have hHeld := trivial
       refine norm_ (a' := ?_) ?_ ?_
       rotate_left
       ·exact q26x44_
       refine two_ (i := 0) (j := 11) (Ni := some 39) (Nj := some 8) #[true, true, true, true, false, true, true, true, true, false, false, false, false] #[false, true, true, true, false, true, true, true, true, false, false, true, false] rfl rfl rfl rfl (two_of HT_.out (by kernel_rfl)) (by decide) (by decide) (fun K hK => ?_) (fun K hK => ?_)
       ·skip
        refine Kd.R_lit_step (Kd.int .i8) _ 69 ?hg (N := 39) ?hd (xs := ([] : List Int)) (inner := []) (ok := fun _ => True) (okp := fun _ => True) ?hr ?hp (fun _ hk => hk) trivial (Below.refl _ _) (Nat.le_refl _) (by simp) ?_; (case hd => rfl); (case hg => rfl); (case hr => first | (go_simp; done) | (go_simp; rfl)); (case hp => exact (Reps.none _ _))
        intro v139 w40 ho41 hb hg_ hnew_
        clear hg_ hnew_
        (first | rw [← Ny138.out] at ho41 | (simp only [Int.reduceToNat] at ho41; rw [← Ny138.out] at ho41))
        have n0_ := aM26_ (rB26_ q26x8_ hb)
        have n1_ := aM26_ (Kd.R_elder' q26x7_ (Kd.R_base ho41) hb)
        have n2_ := aM26_ (Kd.R_elder' q26x13_ (Kd.R_base ho41) hb)
        have n3_ := aM26_ (Kd.R_lower (Kd.R_new' (Kd.R_new' ho41 (Kd.R_lt q26x7_)) (Kd.R_lt q26x13_)) (bZ26_ q26x1_))
        have n4_ := aM26_ (kB26_ (g := gb127) (o := .cells #[.int .i64 a0_0, .int .i64 a0_1] 24 (0, 0)) q26x2_ hb)
        have n5_ := aM26_ (kB26_ (g := gb128) (o := .cells #[.slice none 0 0, .slice none 0 0] 34 (0, 0)) q26x5_ hb)
        have n6_ := aM26_ (cB26_ q26x3_ hb)
        have n7_ := aM26_ (cB26_ q26x4_ hb)
        have n8_ := aM26_ (bT26_ q26x1_ hb)
        clear HO_4 HO_5 HO150 BK127 BK128 HR144 HR154 HB
        have HO_4 := n0_
        have HO_5 := n1_
        have HO150 := n2_
        have HO140 := n3_
        have BK127 := n4_
        have BK128 := n5_
        have HR144 := n6_
        have HR154 := n7_
        have HB := n8_
        clear n0_ n1_ n2_ n3_ n4_ n5_ n6_ n7_ n8_ hb ho41
        refine hK.out _ _ trivial (fun hHeld => ?_)
        clear hK K
        refine norm_ (a' := ?_) ?_ ?_
        rotate_left
        ·exact q26x49_
        exact norm_ q26x9_ (hJ0_5 (v139, v149) _ ⟨q26x33_, q26x15_, q26x8_, q26x11_, q26x2_, q26x5_, q26x3_, q26x4_, q26x1_⟩)
       skip
       refine box_step ?hg (N := 8) ?hd (cs := #[.slice none 0 0, .slice none 0 0]) (t := 34) ?hr ?_; (case hd => rfl); (case hg => rfl); (case hr => first | (go_simp; done) | (go_simp; rfl))
       intro gb158 hg w40 hbox hb
       have n0_ := aM26_ (rB26_ q26x8_ hb)
       have n1_ := aM26_ (rB26_ q26x7_ hb)
       have n2_ := aM26_ (rB26_ q26x13_ hb)
       have n3_ := aM26_ (kB26_ (g := gb127) (o := .cells #[.int .i64 a0_0, .int .i64 a0_1] 24 (0, 0)) q26x2_ hb)
       have n4_ := aM26_ (kB26_ (g := gb128) (o := .cells #[.slice none 0 0, .slice none 0 0] 34 (0, 0)) q26x5_ hb)
       have n5_ := aM26_ (cB26_ q26x3_ hb)
       have n6_ := aM26_ (cB26_ q26x4_ hb)
       have n7_ := aM26_ (bT26_ q26x1_ hb)
       have n8_ := aM26_ (hbox)
       have n9_ := aM26_ ((q26x27_ : w.heap.size ≤ gb158))
       have n10_ := aM26_ ((q26x27_ : w.heap.size ≤ gb158))
       have n11_ := aM26_ ((q26x18_ : gb127 ≠ gb158))
       have n12_ := aM26_ ((q26x19_ : gb158 ≠ gb127))
       have n13_ := aM26_ ((q26x20_ : gb128 ≠ gb158))
       have n14_ := aM26_ ((q26x21_ : gb158 ≠ gb128))
       clear HO_4 HO_5 HO150 BK127 BK128 HR144 HR154 HB
       have HO_4 := n0_
       have HO_5 := n1_
       have HO150 := n2_
       have BK127 := n3_
       have BK128 := n4_
       have HR144 := n5_
       have HR154 := n6_
       have HB := n7_
       have BK158 := n8_
       have GW158 := n9_
       have GE158 := n10_
       have NB127_158 := n11_
       have NB158_127 := n12_
       have NB128_158 := n13_
       have NB158_128 := n14_
       clear n0_ n1_ n2_ n3_ n4_ n5_ n6_ n7_ n8_ n9_ n10_ n11_ n12_ n13_ n14_ hb hbox hg
       refine hK.out _ _ trivial (fun hHeld => ?_)
       clear hK K
       refine norm_ (a' := ?_) ?_ ?_
       rotate_left
       ·exact q26x45_
       exact norm_ q26x9_ (hJ5_11 (v149, gb158) _ ⟨q26x13_, q26x8_, q26x7_, q26x2_, q26x5_, q26x10_, q26x3_, q26x4_, GW158.out, GE158.out, NB127_158.out, NB158_127.out, NB128_158.out, NB158_128.out, q26x6_⟩)
      intro hJ5
      refine join_ (σ := Nat) 6 #[false, true, true, true, false, false, true, true, true, false, false, true, false] (fun s_ => [(8, .pointer (some ⟨s_, 0, none⟩))]) (fun s_ w' => (Kd.R (Kd.int .i64) 2 w' w.heap.size (fun _ => True) (.slice (some ad137) x4_1.length co21) x4_1) ∧ (Kd.R (Kd.int .i8) 69 w' w.heap.size (fun _ => True) (.slice Ao35 x5_1.length co35) x5_1) ∧ (w'.heap[gb127]? = some (.cells #[.int .i64 a0_0, .int .i64 a0_1] 24 (0, 0))) ∧ (w'.heap[gb128]? = some (.cells #[.slice none 0 0, .slice none 0 0] 34 (0, 0))) ∧ (w'.heap[s_]? = some (.cells #[.slice none 0 0, .slice none 0 0] 34 (0, 0))) ∧ (Kd.C (Kd.int .i8) w' Ao35 y141.length y141) ∧ (Kd.C (Kd.int .i8) w' A36 y151.length y151) ∧ (w.heap.size ≤ s_) ∧ (w.heap.size ≤ s_) ∧ (gb127 ≠ s_) ∧ (s_ ≠ gb127) ∧ (gb128 ≠ s_) ∧ (s_ ≠ gb128) ∧ (Below w.heap.size w w')) ?_ ?_
      rotate_left
      rotate_left
      ·skip
       rintro gb158 w38 ⟨h0_, h1_, h2_, h3_, h4_, h5_, h6_, h7_, h8_, h9_, h10_, h11_, h12_, h13_⟩
       have n0_ : Aside0 (Kd.R (Kd.int .i64) 2 w38 w.heap.size (fun _ => True) (.slice (some ad137) x4_1.length co21) x4_1) := ⟨h0_⟩
       have n1_ : Aside0 (Kd.R (Kd.int .i8) 69 w38 w.heap.size (fun _ => True) (.slice Ao35 x5_1.length co35) x5_1) := ⟨h1_⟩
       have n2_ : Aside0 (w38.heap[gb127]? = some (.cells #[.int .i64 a0_0, .int .i64 a0_1] 24 (0, 0))) := ⟨h2_⟩
       have n3_ : Aside0 (w38.heap[gb128]? = some (.cells #[.slice none 0 0, .slice none 0 0] 34 (0, 0))) := ⟨h3_⟩
       have n4_ : Aside0 (w38.heap[gb158]? = some (.cells #[.slice none 0 0, .slice none 0 0] 34 (0, 0))) := ⟨h4_⟩
       have n5_ : Aside0 (Kd.C (Kd.int .i8) w38 Ao35 y141.length y141) := ⟨h5_⟩
       have n6_ : Aside0 (Kd.C (Kd.int .i8) w38 A36 y151.length y151) := ⟨h6_⟩
       have n7_ : Aside0 (w.heap.size ≤ gb158) := ⟨h7_⟩
       have n8_ : Aside0 (w.heap.size ≤ gb158) := ⟨h8_⟩
       have n9_ : Aside0 (gb127 ≠ gb158) := ⟨h9_⟩
       have n10_ : Aside0 (gb158 ≠ gb127) := ⟨h10_⟩
       have n11_ : Aside0 (gb128 ≠ gb158) := ⟨h11_⟩
       have n12_ : Aside0 (gb158 ≠ gb128) := ⟨h12_⟩
       have n13_ : Aside0 (Below w.heap.size w w38) := ⟨h13_⟩
       clear HO_4 HO_5 BK127 BK128 HB h0_ h1_ h2_ h3_ h4_ h5_ h6_ h7_ h8_ h9_ h10_ h11_ h12_ h13_
       have HO_4 := n0_
       have HO_5 := n1_
       have BK127 := n2_
       have BK128 := n3_
       have BK158 := n4_
       have HR144 := n5_
       have HR154 := n6_
       have GW158 := n7_
       have GE158 := n8_
       have NB127_158 := n9_
       have NB158_127 := n10_
       have NB128_158 := n11_
       have NB158_128 := n12_
       have HB := n13_
       clear n0_ n1_ n2_ n3_ n4_ n5_ n6_ n7_ n8_ n9_ n10_ n11_ n12_ n13_
       have hHeld := trivial
       refine norm_ (a' := ?_) ?_ ?_
       rotate_left
       ·exact q26x44_
       refine two_ (i := 0) (j := 5) (Ni := some 39) (Nj := some 44) #[true, true, true, true, false, false, true, true, true, false, false, true, false] #[false, true, true, true, false, true, true, true, true, false, false, true, false] rfl rfl rfl rfl (two_of HT_.out (by kernel_rfl)) (by decide) (by decide) (fun K hK => ?_) (fun K hK => ?_)
       ·skip
        refine Kd.R_lit_step (Kd.int .i8) _ 69 ?hg (N := 39) ?hd (xs := ([] : List Int)) (inner := []) (ok := fun _ => True) (okp := fun _ => True) ?hr ?hp (fun _ hk => hk) trivial (Below.refl _ _) (Nat.le_refl _) (by simp) ?_; (case hd => rfl); (case hg => rfl); (case hr => first | (go_simp; done) | (go_simp; rfl)); (case hp => exact (Reps.none _ _))
        intro v139 w39 ho40 hb hg_ hnew_
        clear hg_ hnew_
        (first | rw [← Ny138.out] at ho40 | (simp only [Int.reduceToNat] at ho40; rw [← Ny138.out] at ho40))
        have n0_ := aM26_ (rB26_ q26x8_ hb)
        have n1_ := aM26_ (Kd.R_elder' q26x7_ (Kd.R_base ho40) hb)
        have n2_ := aM26_ (Kd.R_lower (Kd.R_new' ho40 (Kd.R_lt q26x7_)) (bZ26_ q26x6_))
        have n3_ := aM26_ (kB26_ (g := gb127) (o := .cells #[.int .i64 a0_0, .int .i64 a0_1] 24 (0, 0)) q26x2_ hb)
        have n4_ := aM26_ (kB26_ (g := gb128) (o := .cells #[.slice none 0 0, .slice none 0 0] 34 (0, 0)) q26x5_ hb)
        have n5_ := aM26_ (cB26_ q26x3_ hb)
        have n6_ := aM26_ (cB26_ q26x4_ hb)
        have n7_ := aM26_ (kB26_ (g := gb158) (o := .cells #[.slice none 0 0, .slice none 0 0] 34 (0, 0)) q26x10_ hb)
        have n8_ := aM26_ (bT26_ q26x6_ hb)
        clear HO_4 HO_5 BK127 BK128 HR144 HR154 BK158 HB
        have HO_4 := n0_
        have HO_5 := n1_
        have HO140 := n2_
        have BK127 := n3_
        have BK128 := n4_
        have HR144 := n5_
        have HR154 := n6_
        have BK158 := n7_
        have HB := n8_
        clear n0_ n1_ n2_ n3_ n4_ n5_ n6_ n7_ n8_ hb ho40
        refine hK.out _ _ trivial (fun hHeld => ?_)
        clear hK K
        refine norm_ (a' := ?_) ?_ ?_
        rotate_left
        ·exact q26x49_
        exact norm_ q26x9_ (hJ0_11 (v139, gb158) _ ⟨q26x35_, q26x8_, q26x22_, q26x2_, q26x5_, q26x10_, q26x3_, q26x4_, GW158.out, GE158.out, NB127_158.out, NB158_127.out, NB128_158.out, NB158_128.out, q26x6_⟩)
       skip
       refine Kd.R_lit_step (Kd.int .i8) _ 69 ?hg (N := 44) ?hd (xs := ([] : List Int)) (inner := []) (ok := fun _ => True) (okp := fun _ => True) ?hr ?hp (fun _ hk => hk) trivial (Below.refl _ _) (Nat.le_refl _) (by simp) ?_; (case hd => rfl); (case hg => rfl); (case hr => first | (go_simp; done) | (go_simp; rfl)); (case hp => exact (Reps.none _ _))
       intro v149 w39 ho40 hb hg_ hnew_
       clear hg_ hnew_
       (first | rw [← Ny148.out] at ho40 | (simp only [Int.reduceToNat] at ho40; rw [← Ny148.out] at ho40))
       have n0_ := aM26_ (rB26_ q26x8_ hb)
       have n1_ := aM26_ (Kd.R_elder' q26x7_ (Kd.R_base ho40) hb)
       have n2_ := aM26_ (Kd.R_lower (Kd.R_new' ho40 (Kd.R_lt q26x7_)) (bZ26_ q26x6_))
       have n3_ := aM26_ (kB26_ (g := gb127) (o := .cells #[.int .i64 a0_0, .int .i64 a0_1] 24 (0, 0)) q26x2_ hb)
       have n4_ := aM26_ (kB26_ (g := gb128) (o := .cells #[.slice none 0 0, .slice none 0 0] 34 (0, 0)) q26x5_ hb)
       have n5_ := aM26_ (cB26_ q26x3_ hb)
       have n6_ := aM26_ (cB26_ q26x4_ hb)
       have n7_ := aM26_ (kB26_ (g := gb158) (o := .cells #[.slice none 0 0, .slice none 0 0] 34 (0, 0)) q26x10_ hb)
       have n8_ := aM26_ (bT26_ q26x6_ hb)
       clear HO_4 HO_5 BK127 BK128 HR144 HR154 BK158 HB
       have HO_4 := n0_
       have HO_5 := n1_
       have HO150 := n2_
       have BK127 := n3_
       have BK128 := n4_
       have HR144 := n5_
       have HR154 := n6_
       have BK158 := n7_
       have HB := n8_
       clear n0_ n1_ n2_ n3_ n4_ n5_ n6_ n7_ n8_ hb ho40
       refine hK.out _ _ trivial (fun hHeld => ?_)
       clear hK K
       refine norm_ (a' := ?_) ?_ ?_
       rotate_left
       ·exact q26x47_
       exact norm_ q26x9_ (hJ5_11 (v149, gb158) _ ⟨q26x36_, q26x8_, q26x22_, q26x2_, q26x5_, q26x10_, q26x3_, q26x4_, GW158.out, GE158.out, NB127_158.out, NB158_127.out, NB128_158.out, NB158_128.out, q26x6_⟩)
      intro hJ11
      refine three_ (i := 0) (j := 5) (k := 11) (Ni := some 39) (Nj := some 44) (Nk := some 8) #[true, true, true, true, false, false, true, true, true, false, false, false, false] #[false, true, true, true, false, true, true, true, true, false, false, false, false] #[false, true, true, true, false, false, true, true, true, false, false, true, false] rfl rfl rfl rfl rfl rfl (three_of HT_.out (by kernel_rfl)) (by decide) (by decide) (by decide) (fun K hK => ?_) (fun K hK => ?_) (fun K hK => ?_)
      ·skip
       refine Kd.R_lit_step (Kd.int .i8) _ 69 ?hg (N := 39) ?hd (xs := ([] : List Int)) (inner := []) (ok := fun _ => True) (okp := fun _ => True) ?hr ?hp (fun _ hk => hk) trivial (Below.refl _ _) (Nat.le_refl _) (by simp) ?_; (case hd => rfl); (case hg => rfl); (case hr => first | (go_simp; done) | (go_simp; rfl)); (case hp => exact (Reps.none _ _))
       intro v139 w37 ho38 hb hg_ hnew_
       clear hg_ hnew_
       (first | rw [← Ny138.out] at ho38 | (simp only [Int.reduceToNat] at ho38; rw [← Ny138.out] at ho38))
       have n0_ := aM26_ (rB26_ q26x8_ hb)
       have n1_ := aM26_ (Kd.R_elder' q26x7_ (Kd.R_base ho38) hb)
       have n2_ := aM26_ (Kd.R_lower (Kd.R_new' ho38 (Kd.R_lt q26x7_)) (bZ26_ q26x1_))
       have n3_ := aM26_ (kB26_ (g := gb127) (o := .cells #[.int .i64 a0_0, .int .i64 a0_1] 24 (0, 0)) q26x2_ hb)
       have n4_ := aM26_ (kB26_ (g := gb128) (o := .cells #[.slice none 0 0, .slice none 0 0] 34 (0, 0)) q26x5_ hb)
       have n5_ := aM26_ (cB26_ q26x3_ hb)
       have n6_ := aM26_ (cB26_ q26x4_ hb)
       have n7_ := aM26_ (bT26_ q26x1_ hb)
       clear HO_4 HO_5 BK127 BK128 HR144 HR154 HB
       have HO_4 := n0_
       have HO_5 := n1_
       have HO140 := n2_
       have BK127 := n3_
       have BK128 := n4_
       have HR144 := n5_
       have HR154 := n6_
       have HB := n7_
       clear n0_ n1_ n2_ n3_ n4_ n5_ n6_ n7_ hb ho38
       refine hK.out _ _ trivial (fun hHeld => ?_)
       clear hK K
       refine norm_ (a' := ?_) ?_ ?_
       rotate_left
       ·exact q26x49_
       exact norm_ q26x9_ (hJ0 (v139) _ ⟨q26x35_, q26x8_, q26x22_, q26x2_, q26x5_, q26x3_, q26x4_, q26x1_⟩)
      ·skip
       refine Kd.R_lit_step (Kd.int .i8) _ 69 ?hg (N := 44) ?hd (xs := ([] : List Int)) (inner := []) (ok := fun _ => True) (okp := fun _ => True) ?hr ?hp (fun _ hk => hk) trivial (Below.refl _ _) (Nat.le_refl _) (by simp) ?_; (case hd => rfl); (case hg => rfl); (case hr => first | (go_simp; done) | (go_simp; rfl)); (case hp => exact (Reps.none _ _))
       intro v149 w37 ho38 hb hg_ hnew_
       clear hg_ hnew_
       (first | rw [← Ny148.out] at ho38 | (simp only [Int.reduceToNat] at ho38; rw [← Ny148.out] at ho38))
       have n0_ := aM26_ (rB26_ q26x8_ hb)
       have n1_ := aM26_ (Kd.R_elder' q26x7_ (Kd.R_base ho38) hb)
       have n2_ := aM26_ (Kd.R_lower (Kd.R_new' ho38 (Kd.R_lt q26x7_)) (bZ26_ q26x1_))
       have n3_ := aM26_ (kB26_ (g := gb127) (o := .cells #[.int .i64 a0_0, .int .i64 a0_1] 24 (0, 0)) q26x2_ hb)
       have n4_ := aM26_ (kB26_ (g := gb128) (o := .cells #[.slice none 0 0, .slice none 0 0] 34 (0, 0)) q26x5_ hb)
       have n5_ := aM26_ (cB26_ q26x3_ hb)
       have n6_ := aM26_ (cB26_ q26x4_ hb)
       have n7_ := aM26_ (bT26_ q26x1_ hb)
       clear HO_4 HO_5 BK127 BK128 HR144 HR154 HB
       have HO_4 := n0_
       have HO_5 := n1_
       have HO150 := n2_
       have BK127 := n3_
       have BK128 := n4_
       have HR144 := n5_
       have HR154 := n6_
       have HB := n7_
       clear n0_ n1_ n2_ n3_ n4_ n5_ n6_ n7_ hb ho38
       refine hK.out _ _ trivial (fun hHeld => ?_)
       clear hK K
       refine norm_ (a' := ?_) ?_ ?_
       rotate_left
       ·exact q26x47_
       exact norm_ q26x9_ (hJ5 (v149) _ ⟨q26x36_, q26x8_, q26x22_, q26x2_, q26x5_, q26x3_, q26x4_, q26x1_⟩)
      skip
      refine box_step ?hg (N := 8) ?hd (cs := #[.slice none 0 0, .slice none 0 0]) (t := 34) ?hr ?_; (case hd => rfl); (case hg => rfl); (case hr => first | (go_simp; done) | (go_simp; rfl))
      intro gb158 hg w37 hbox hb
      have n0_ := aM26_ (rB26_ q26x8_ hb)
      have n1_ := aM26_ (rB26_ q26x7_ hb)
      have n2_ := aM26_ (kB26_ (g := gb127) (o := .cells #[.int .i64 a0_0, .int .i64 a0_1] 24 (0, 0)) q26x2_ hb)
      have n3_ := aM26_ (kB26_ (g := gb128) (o := .cells #[.slice none 0 0, .slice none 0 0] 34 (0, 0)) q26x5_ hb)
      have n4_ := aM26_ (cB26_ q26x3_ hb)
      have n5_ := aM26_ (cB26_ q26x4_ hb)
      have n6_ := aM26_ (bT26_ q26x1_ hb)
      have n7_ := aM26_ (hbox)
      have n8_ := aM26_ ((q26x27_ : w.heap.size ≤ gb158))
      have n9_ := aM26_ ((q26x27_ : w.heap.size ≤ gb158))
      have n10_ := aM26_ ((q26x18_ : gb127 ≠ gb158))
      have n11_ := aM26_ ((q26x19_ : gb158 ≠ gb127))
      have n12_ := aM26_ ((q26x20_ : gb128 ≠ gb158))
      have n13_ := aM26_ ((q26x21_ : gb158 ≠ gb128))
      clear HO_4 HO_5 BK127 BK128 HR144 HR154 HB
      have HO_4 := n0_
      have HO_5 := n1_
      have BK127 := n2_
      have BK128 := n3_
      have HR144 := n4_
      have HR154 := n5_
      have HB := n6_
      have BK158 := n7_
      have GW158 := n8_
      have GE158 := n9_
      have NB127_158 := n10_
      have NB158_127 := n11_
      have NB128_158 := n12_
      have NB158_128 := n13_
      clear n0_ n1_ n2_ n3_ n4_ n5_ n6_ n7_ n8_ n9_ n10_ n11_ n12_ n13_ hb hbox hg
      refine hK.out _ _ trivial (fun hHeld => ?_)
      clear hK K
      refine norm_ (a' := ?_) ?_ ?_
      rotate_left
      ·exact q26x45_
      exact norm_ q26x9_ (hJ11 (gb158) _ ⟨q26x8_, q26x7_, q26x2_, q26x5_, q26x10_, q26x3_, q26x4_, GW158.out, GE158.out, NB127_158.out, NB158_127.out, NB128_158.out, NB158_128.out, q26x6_⟩)
     rintro ⟨v139, v146, v149, v156, gb158⟩ w46 ⟨h0_, h1_, h2_, h3_, h4_, h5_, h6_, h7_, h8_, h9_, h10_, h11_, h12_, h13_, h14_, h15_⟩
     have n0_ : Aside0 (Kd.R (Kd.int .i8) 69 w46 w.heap.size (fun k_ => some k_ ≠ (v156 : Value).ownBlock ∧ some k_ ≠ (.slice Ao35 x5_1.length co35 : Value).ownBlock) v146 y145) := ⟨h0_⟩
     have n1_ : Aside0 (Kd.R (Kd.int .i8) 69 w46 w.heap.size (fun k_ => some k_ ≠ (v146 : Value).ownBlock ∧ some k_ ≠ (.slice Ao35 x5_1.length co35 : Value).ownBlock) v156 y155) := ⟨h1_⟩
     have n2_ : Aside0 (Kd.R (Kd.int .i64) 2 w46 w.heap.size (fun _ => True) (.slice (some ad137) x4_1.length co21) x4_1) := ⟨h2_⟩
     have n3_ : Aside0 (Kd.R (Kd.int .i8) 69 w46 w.heap.size (fun k_ => some k_ ≠ (v146 : Value).ownBlock ∧ some k_ ≠ (v156 : Value).ownBlock) (.slice Ao35 x5_1.length co35) x5_1) := ⟨h3_⟩
     have n4_ : Aside0 (w46.heap[gb127]? = some (.cells #[.int .i64 a0_0, .int .i64 a0_1] 24 (0, 0))) := ⟨h4_⟩
     have n5_ : Aside0 (w46.heap[gb128]? = some (.cells #[.slice none 0 0, .slice none 0 0] 34 (0, 0))) := ⟨h5_⟩
     have n6_ : Aside0 (w46.heap[gb158]? = some (.cells #[.slice none 0 0, .slice none 0 0] 34 (0, 0))) := ⟨h6_⟩
     have n7_ : Aside0 (Kd.C (Kd.int .i8) w46 Ao35 y141.length y141) := ⟨h7_⟩
     have n8_ : Aside0 (Kd.C (Kd.int .i8) w46 A36 y151.length y151) := ⟨h8_⟩
     have n9_ : Aside0 (w.heap.size ≤ gb158) := ⟨h9_⟩
     have n10_ : Aside0 (w.heap.size ≤ gb158) := ⟨h10_⟩
     have n11_ : Aside0 (gb127 ≠ gb158) := ⟨h11_⟩
     have n12_ : Aside0 (gb158 ≠ gb127) := ⟨h12_⟩
     have n13_ : Aside0 (gb128 ≠ gb158) := ⟨h13_⟩
     have n14_ : Aside0 (gb158 ≠ gb128) := ⟨h14_⟩
     have n15_ : Aside0 (Below w.heap.size w w46) := ⟨h15_⟩
     clear HO_4 HO_5 BK127 BK128 HB h0_ h1_ h2_ h3_ h4_ h5_ h6_ h7_ h8_ h9_ h10_ h11_ h12_ h13_ h14_ h15_
     have HO147 := n0_
     have HO157 := n1_
     have HO_4 := n2_
     have HO_5 := n3_
     have BK127 := n4_
     have BK128 := n5_
     have BK158 := n6_
     have HR144 := n7_
     have HR154 := n8_
     have GW158 := n9_
     have GE158 := n10_
     have NB127_158 := n11_
     have NB158_127 := n12_
     have NB128_158 := n13_
     have NB158_128 := n14_
     have HB := n15_
     clear n0_ n1_ n2_ n3_ n4_ n5_ n6_ n7_ n8_ n9_ n10_ n11_ n12_ n13_ n14_ n15_
     have hHeld := trivial
     obtain ⟨Ao47, co47, eo47⟩ := Kd.R_slice HO157.out
     (first | subst eo47 | (injection eo47 with f1_ f2_ f3_; have f4_ := f1_.symm; have f5_ := f3_.symm; clear f1_ f2_ f3_; subst f4_; subst f5_))
     obtain ⟨Ao48, co48, eo48⟩ := Kd.R_slice HO147.out
     (first | subst eo48 | (injection eo48 with f1_ f2_ f3_; have f4_ := f1_.symm; have f5_ := f3_.symm; clear f1_ f2_ f3_; subst f4_; subst f5_))
     refine norm_ (a' := ?_) ?_ ?_
     rotate_left
     ·exact q26x44_
     refine one_ (i := 12) (N := none) #[true, true, true, true, true, true, true, true, true, true, true, true, true] rfl rfl (one_of HT_.out (by kernel_rfl)) (by decide) (fun K hK => ?_)
     have hs49 : w46.cell? ⟨gb158, 0, none⟩ = some (.slice none 0 0) := (kC26_ BK158.out 0).trans rfl
     have hfs49 := blk_frozen BK158.out 0
     have hns49_0 := NB127_158.out
     have hns49_1 := NB128_158.out
     have hms49_0 := NB158_127.out
     have hms49_1 := NB158_128.out
     have hs50 : w46.cell? ⟨gb158, 1, none⟩ = some (.slice none 0 0) := (kC26_ BK158.out 1).trans rfl
     have hfs50 := blk_frozen BK158.out 1
     have hns50_0 := NB127_158.out
     have hns50_1 := NB128_158.out
     have hms50_0 := NB158_127.out
     have hms50_1 := NB158_128.out
     refine skip_ (w1 := ?_) (by rfl) rfl ?_ ?_
     rotate_left
     ·go_simp
      rfl
     refine hK.out _ _ trivial (fun hHeld => ?_)
     clear hK K
     refine done_ (done_of HT_.out (by kernel_rfl)) ?_
     try go_wp2_with (first | ((with_reducible refine gate_callee (f := 50) rfl ?_); refine goesL_ (some 50) rfl rfl Try.func50 (by kernel_rfl) rfl #[.pointer (some ⟨gb158, 0, none⟩)] rfl q26x29_ ?_; (with_reducible refine (spec_l03Ok.calls k2 gb158 0 Ao48 co48 y145 Ao47 co47 y155 true _ ?side1 ?side2 ?side3 ?side4 ?side5 A31.out).mono ?_); (case side1 => refine (Kd.R_reads' (e := 69) (base := w.heap.size) (ok := fun k_ => (some k_ ≠ (.slice Ao47 y155.length co47 : Value).ownBlock ∧ some k_ ≠ (.slice Ao35 x5_1.length co35 : Value).ownBlock)) (n := y145.length) (c := co48) ?_).2.2; exact (by (with_reducible repeat (first | apply rA26_ | apply rN26_ | apply rD26_)); exact (Kd.R_mono (Kd.R_far (p := ⟨gb158, 1, none⟩) (Kd.R_far (p := ⟨gb158, 0, none⟩) (Kd.R_types HO147.out BK158.out (by decide)) (fun _ hk => hk.2) (.slice Ao48 y145.length co48)) (fun _ hk => hk.2) (.slice Ao47 y155.length co47)) (fun _ h_ => h_.1)))); (case side2 => exact (Kd.R_reads' HO147.out).2.1); (case side3 => refine (Kd.R_reads' (e := 69) (base := w.heap.size) (ok := fun k_ => (some k_ ≠ (.slice Ao48 y145.length co48 : Value).ownBlock ∧ some k_ ≠ (.slice Ao35 x5_1.length co35 : Value).ownBlock)) (n := y155.length) (c := co47) ?_).2.2; exact (by (with_reducible repeat (first | apply rA26_ | apply rN26_ | apply rD26_)); exact (Kd.R_mono (Kd.R_far (p := ⟨gb158, 1, none⟩) (Kd.R_far (p := ⟨gb158, 0, none⟩) (Kd.R_types HO157.out BK158.out (by decide)) (fun _ hk => hk.2) (.slice Ao48 y145.length co48)) (fun _ hk => hk.2) (.slice Ao47 y155.length co47)) (fun _ h_ => h_.1)))); (case side4 => exact (Kd.R_reads' HO157.out).2.1); (case side5 => exact ⟨(kC26_ (g := gb158) (t := 34) (cs := #[.slice Ao48 y145.length co48, .slice Ao47 y155.length co47]) q26x32_ 0).trans rfl, (kC26_ (g := gb158) (t := 34) (cs := #[.slice Ao48 y145.length co48, .slice Ao47 y155.length co47]) q26x32_ 1).trans rfl⟩); rintro e w' ⟨rfl, ⟨nd, rfl⟩⟩; refine ⟨_, rfl, ?_⟩; have hnb51 := NB158_127.out; have hnc51 := NB127_158.out; have hnb52 := NB158_128.out; have hnc52 := NB128_158.out; have hcz53_0 : w46.cell? ⟨gb158, 0, none⟩ = some (.slice none 0 0) := (kC26_ BK158.out 0).trans rfl; have hcz53_1 : w46.cell? ⟨gb158, 1, none⟩ = some (.slice none 0 0) := (kC26_ BK158.out 1).trans rfl; have hfz53_0 := blk_frozen BK158.out 0; have hfz53_1 := blk_frozen BK158.out 1; have hnb54 := NB128_127.out; have hnc54 := NB127_128.out; have hcz55_0 : w46.cell? ⟨gb128, 0, none⟩ = some (.slice none 0 0) := (kC26_ BK128.out 0).trans rfl; have hcz55_1 : w46.cell? ⟨gb128, 1, none⟩ = some (.slice none 0 0) := (kC26_ BK128.out 1).trans rfl; have hfz55_0 := blk_frozen BK128.out 0; have hfz55_1 := blk_frozen BK128.out 1))
     refine bodyPost_ret (results_ct rfl _ _ gb128 34 #[.slice Ao48 y145.length co48, .slice Ao47 y155.length co47] (0, 0) _ rfl (by (with_reducible repeat (first | refine kN26_ ?_ _ | refine kD26_ ?_ | refine kA26_ ?_ _)); refine blk_put (cs := #[.slice Ao48 y145.length co48, .slice none 0 0]) ?_ 1 _ rfl; (with_reducible repeat (first | refine kN26_ ?_ _ | refine kD26_ ?_ | refine kA26_ ?_ _)); refine blk_put (cs := #[.slice none 0 0, .slice none 0 0]) ?_ 0 _ rfl; (with_reducible repeat (first | refine kN26_ ?_ _ | refine kD26_ ?_ | refine kA26_ ?_ _)); refine blk_far ?_ NB128_158.out _; (with_reducible repeat (first | refine kN26_ ?_ _ | refine kD26_ ?_ | refine kA26_ ?_ _)); refine blk_far ?_ NB128_158.out _; (with_reducible repeat (first | refine kN26_ ?_ _ | refine kD26_ ?_ | refine kA26_ ?_ _)); exact BK128.out) Try.underlying34 rfl (by kernel_rfl)) rfl ?_
     exact ⟨_, _, by first | rfl | (simp [errW_none, errW_some] <;> rfl) | (simp [*, errW_none, errW_some] <;> rfl), by (with_reducible repeat (first | apply rA26_ | apply rN26_ | apply rD26_)); exact Kd.R_mono (Kd.R_far (p := ⟨gb128, 1, none⟩) (Kd.R_far (p := ⟨gb128, 0, none⟩) (Kd.R_far (p := ⟨gb158, 1, none⟩) (Kd.R_far (p := ⟨gb158, 0, none⟩) (Kd.R_types (Kd.R_types HO147.out BK158.out (by decide)) BK128.out (by decide)) (fun _ hk => hk.1.2) (.slice Ao48 y145.length co48)) (fun _ hk => hk.1.2) (.slice Ao47 y155.length co47)) (fun _ hk => hk.2) (.slice Ao48 y145.length co48)) (fun _ hk => hk.2) (.slice Ao47 y155.length co47)) (fun _ hk => hk.1.1.1), by (with_reducible repeat (first | apply rA26_ | apply rN26_ | apply rD26_)); exact Kd.R_mono (Kd.R_far (p := ⟨gb128, 1, none⟩) (Kd.R_far (p := ⟨gb128, 0, none⟩) (Kd.R_far (p := ⟨gb158, 1, none⟩) (Kd.R_far (p := ⟨gb158, 0, none⟩) (Kd.R_types (Kd.R_types HO157.out BK158.out (by decide)) BK128.out (by decide)) (fun _ hk => hk.1.2) (.slice Ao48 y145.length co48)) (fun _ hk => hk.1.2) (.slice Ao47 y155.length co47)) (fun _ hk => hk.2) (.slice Ao48 y145.length co48)) (fun _ hk => hk.2) (.slice Ao47 y155.length co47)) (fun _ hk => hk.1.1.1), by repeat (first | (with_reducible first | exact HB.out | apply below_alloc | apply pw_below_drewN | apply below_drew1 | refine bS26_ ?_ GE127.out | refine bS26_ ?_ GE128.out | refine bS26_ ?_ GE158.out) | exact HB.out)⟩
end Go.Proofs.Ytfenifdigjcmiaa.MFnExactStreamOf
