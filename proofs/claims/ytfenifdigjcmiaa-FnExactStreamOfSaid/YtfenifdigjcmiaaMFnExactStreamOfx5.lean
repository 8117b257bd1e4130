/- Functions of the program as Lean functions, and the proof that the code comes to what they say. Written by a program of this session (myprint.py). -/
import Derived.Test.YtfenifdigjcmiaaMFnExactStreamOfx0
import Derived.Test.YtfenifdigjcmiaaMFnExactStreamOfx4
namespace Go.Proofs.Ytfenifdigjcmiaa.MFnExactStreamOf
open Go.RowKit Go.Proofs.Ytfenifdigjcmiaa.MOpen Go.Proofs.YtfenifdigjcmiaaW.PrintWords Go.Proofs.YtfenifdigjcmiaaW.PrintLast Go.Proofs.YtfenifdigjcmiaaW.PrintMore
attribute [local go_sem] max2_int min2_int max_two min_two max_three min_three max_four min_four   -- for this text's walks alone
set_option linter.unusedVariables false
set_option linter.unusedSimpArgs false

set_option linter.defProp false
def rD28_ := @Kd.R_drew
def kA28_ := @blk_alloc
def kN28_ := @blk_drewN
def kD28_ := @blk_drew
def aM28_ := @Aside0.mk
def cB28_ := @Kd.C_below
def rB28_ := @Kd.R_below
def kB28_ := @blk_below
def kC28_ := @blk_cell
theorem q28x1_ {P : Prop} (h : P := by repeat (first | (with_reducible first | exact HB.out | apply below_alloc | apply pw_below_drewN | apply below_drew1 | refine below_set ?_ GE201.out | refine below_set ?_ GE202.out) | exact HB.out)) : P := h
theorem q28x2_ {P : Prop} (h : P := by (with_reducible repeat (first | refine kN28_ ?_ _ | refine kD28_ ?_ | refine kA28_ ?_ _)); exact BK201.out) : P := h
theorem q28x3_ {P : Prop} (h : P := by (with_reducible repeat (first | refine kN28_ ?_ _ | refine kD28_ ?_ | refine kA28_ ?_ _)); exact BK202.out) : P := h
theorem q28x4_ {P : Prop} (h : P := by repeat (first | (with_reducible first | exact HB.out | apply below_alloc | apply pw_below_drewN | apply below_drew1 | refine below_set ?_ GE201.out | refine below_set ?_ GE202.out | refine below_set ?_ GE225.out) | exact HB.out)) : P := h
theorem q28x5_ {P : Prop} (h : P := by repeat (first | (with_reducible exact HR221.out) | (with_reducible refine Kd.C_alloc ?_ _) | (with_reducible refine Kd.C_drewN ?_ _) | (with_reducible refine Kd.C_drew ?_) | exact HR221.out)) : P := h
theorem q28x6_ {P : Prop} (h : P := by (with_reducible repeat (first | apply Kd.R_alloc | apply Kd.R_drewN | apply rD28_)); exact HO_5.out) : P := h
theorem q28x7_ {P : Prop} (h : P := by repeat (first | (with_reducible exact HR214.out) | (with_reducible refine Kd.C_alloc ?_ _) | (with_reducible refine Kd.C_drewN ?_ _) | (with_reducible refine Kd.C_drew ?_) | exact HR214.out)) : P := h
theorem q28x8_ {P : Prop} (h : P := by (with_reducible repeat (first | apply Kd.R_alloc | apply Kd.R_drewN | apply rD28_)); exact HO_4.out) : P := h
theorem q28x9_ {P : Prop} (h : P := by (try simp only [List.map_toArray, List.map_cons, List.map_nil]); first | done | rfl | (simp only [List.length_drop, List.length_take]; rfl)) : P := h
theorem q28x10_ {P : Prop} (h : P := by (with_reducible repeat (first | apply Kd.R_alloc | apply Kd.R_drewN | apply rD28_)); exact HO217.out) : P := h
theorem q28x11_ {P : Prop} (h : P := by (with_reducible repeat (first | refine kN28_ ?_ _ | refine kD28_ ?_ | refine kA28_ ?_ _)); refine blk_put (cs := #[.slice none 0 0, .slice none 0 0]) ?_ 1 _ rfl; (with_reducible repeat (first | refine kN28_ ?_ _ | refine kD28_ ?_ | refine kA28_ ?_ _)); refine blk_put (cs := #[.slice none 0 0, .slice none 0 0]) ?_ 0 _ rfl; (with_reducible repeat (first | refine kN28_ ?_ _ | refine kD28_ ?_ | refine kA28_ ?_ _)); exact BK202.out) : P := h
theorem q28x12_ {P : Prop} (h : P := by (with_reducible repeat (first | refine kN28_ ?_ _ | refine kD28_ ?_ | refine kA28_ ?_ _)); exact BK225.out) : P := h
theorem q28x13_ {P : Prop} (h : P := by repeat (first | (with_reducible first | exact HB.out | apply below_alloc | apply pw_below_drewN | apply below_drew1 | refine below_set ?_ GE201.out) | exact HB.out)) : P := h
theorem q28x14_ {P : Prop} (h : P := by rw [hg]; exact Nat.ne_of_lt (blk_lt (g := gb201) (o := .cells #[.int .i64 a0_0, .int .i64 a0_1] 24 (0, 0)) q28x2_)) : P := h
theorem q28x15_ {P : Prop} (h : P := by rw [hg]; exact Nat.ne_of_gt (blk_lt (g := gb201) (o := .cells #[.int .i64 a0_0, .int .i64 a0_1] 24 (0, 0)) q28x2_)) : P := h
theorem q28x16_ {P : Prop} (h : P := by (with_reducible repeat (first | apply Kd.R_alloc | apply Kd.R_drewN | apply rD28_)); exact Kd.R_mono HO217.out (fun _ hk => ⟨hk.2, hk.1.2⟩)) : P := h
theorem q28x17_ {P : Prop} (h : P := by (with_reducible repeat (first | apply Kd.R_alloc | apply Kd.R_drewN | apply rD28_)); exact Kd.R_mono HO224.out (fun _ hk => ⟨hk.2, hk.1.2⟩)) : P := h
theorem q28x18_ {P : Prop} (h : P := by (with_reducible repeat (first | apply Kd.R_alloc | apply Kd.R_drewN | apply rD28_)); exact Kd.R_mono HO_5.out (fun _ hk => ⟨hk.1.2, hk.2⟩)) : P := h
theorem q28x19_ {P : Prop} (h : P := by repeat (first | (with_reducible first | exact HB.out | apply below_alloc | apply pw_below_drewN | apply below_drew1) | exact HB.out)) : P := h
theorem q28x20_ {P : Prop} (h : P := by rw [hg]; exact Nat.ne_of_lt (blk_lt (g := gb202) (o := .cells #[.slice none 0 0, .slice none 0 0] 34 (0, 0)) q28x3_)) : P := h
theorem q28x21_ {P : Prop} (h : P := by rw [hg]; exact Nat.ne_of_gt (blk_lt (g := gb202) (o := .cells #[.slice none 0 0, .slice none 0 0] 34 (0, 0)) q28x3_)) : P := h
theorem q28x22_ {P : Prop} (h : P := by simp only [putAll, Act.put, List.setIfInBounds_toArray, List.set_cons_zero, List.set_cons_succ]) : P := h
theorem q28x23_ {P : Prop} (h : P := by first | (with_reducible assumption) | assumption) : P := h
theorem q28x24_ {P : Prop} (h : P := by rw [hg]; exact (below_size q28x1_)) : P := h
theorem q28x25_ {P : Prop} (h : P := by (with_reducible repeat (first | refine kN28_ ?_ _ | refine kD28_ ?_ | refine kA28_ ?_ _)); refine blk_far ?_ NB201_225.out _; (with_reducible repeat (first | refine kN28_ ?_ _ | refine kD28_ ?_ | refine kA28_ ?_ _)); refine blk_far ?_ NB201_225.out _; (with_reducible repeat (first | refine kN28_ ?_ _ | refine kD28_ ?_ | refine kA28_ ?_ _)); exact BK201.out) : P := h
theorem q28x26_ {P : Prop} (h : P := by (with_reducible repeat (first | refine kN28_ ?_ _ | refine kD28_ ?_ | refine kA28_ ?_ _)); refine blk_far ?_ NB202_225.out _; (with_reducible repeat (first | refine kN28_ ?_ _ | refine kD28_ ?_ | refine kA28_ ?_ _)); refine blk_far ?_ NB202_225.out _; (with_reducible repeat (first | refine kN28_ ?_ _ | refine kD28_ ?_ | refine kA28_ ?_ _)); exact BK202.out) : P := h
theorem q28x27_ {P : Prop} (h : P := by (with_reducible repeat (first | apply Kd.R_alloc | apply Kd.R_drewN | apply rD28_)); exact (Kd.R_mono (Kd.R_far (p := ⟨gb225, 1, none⟩) (Kd.R_far (p := ⟨gb225, 0, none⟩) (Kd.R_types HO217.out BK225.out (by decide)) (fun _ hk => hk.2) (.slice Ao69 t215.length co69)) (fun _ hk => hk.2) (.slice Ao68 t222.length co68)) (fun _ h_ => h_.1))) : P := h
theorem q28x28_ {P : Prop} (h : P := by (with_reducible repeat (first | apply Kd.R_alloc | apply Kd.R_drewN | apply rD28_)); exact (Kd.R_mono (Kd.R_far (p := ⟨gb225, 1, none⟩) (Kd.R_far (p := ⟨gb225, 0, none⟩) (Kd.R_types HO224.out BK225.out (by decide)) (fun _ hk => hk.2) (.slice Ao69 t215.length co69)) (fun _ hk => hk.2) (.slice Ao68 t222.length co68)) (fun _ h_ => h_.1))) : P := h
theorem q28x29_ {P : Prop} (h : P := by (with_reducible repeat (first | apply Kd.R_alloc | apply Kd.R_drewN | apply rD28_)); exact (Kd.R_mono (Kd.R_far (p := ⟨gb225, 1, none⟩) (Kd.R_far (p := ⟨gb225, 0, none⟩) (Kd.R_types HO217.out BK225.out (by decide)) (fun _ hk => hk.2) (.slice Ao47 t215.length co47)) (fun _ hk => hk.2) (.slice Ao46 t222.length co46)) (fun _ h_ => h_.1))) : P := h
theorem q28x30_ {P : Prop} (h : P := by (with_reducible repeat (first | apply Kd.R_alloc | apply Kd.R_drewN | apply rD28_)); exact (Kd.R_mono (Kd.R_far (p := ⟨gb225, 1, none⟩) (Kd.R_far (p := ⟨gb225, 0, none⟩) (Kd.R_types HO224.out BK225.out (by decide)) (fun _ hk => hk.2) (.slice Ao47 t215.length co47)) (fun _ hk => hk.2) (.slice Ao46 t222.length co46)) (fun _ h_ => h_.1))) : P := h
theorem q28x31_ {P : Prop} (h : P := by (with_reducible repeat (first | apply Kd.R_alloc | apply Kd.R_drewN | apply rD28_)); exact HO229.out) : P := h
theorem q28x32_ {P : Prop} (h : P := by first | rfl | (simp; done) | (simp [*]; done)) : P := h
theorem q28x33_ {P : Prop} (h : P := by intro w'; go_simp; with_reducible rfl) : P := h
theorem q28x34_ {P : Prop} (h : P := by simp only [Act.put, List.setIfInBounds_toArray, List.set_cons_zero, List.set_cons_succ, i64_w, i32_w]; rfl) : P := h
theorem q28x35_ {P : Prop} (h : P := by show Act.put _ (some 8) _ = _; simp only [Act.put, List.setIfInBounds_toArray, List.set_cons_zero, List.set_cons_succ, i64_w, i32_w]; rfl) : P := h
theorem q28x36_ {P : Prop} (h : P := by show Act.put _ (some 43) _ = _; simp only [Act.put, List.setIfInBounds_toArray, List.set_cons_zero, List.set_cons_succ, i64_w, i32_w]; rfl) : P := h
theorem q28x37_ {P : Prop} (h : P := by show Act.put _ (some 47) _ = _; simp only [Act.put, List.setIfInBounds_toArray, List.set_cons_zero, List.set_cons_succ, i64_w, i32_w]; rfl) : P := h
/-! ### impl_StreamOf: function 28 -/
mutual
def impl_StreamOf.j0 : Nat → Bool → Int → Int → Option (List Int × List Int × Int)
 | 0, _, _, _ => none
 | k + 1, x26, x202000, x202001 => if x26 = true then (some (([] : List Int), ([] : List Int), 2)) else (impl_StreamOf.l0 k (([] : List Int)) (([] : List Int)) x202000 x202000 x202001)
def impl_StreamOf.l0 : Nat → List Int → List Int → Int → Int → Int → Option (List Int × List Int × Int)
 | 0, _, _, _, _, _ => none
 | k + 1, x4, x5, x6, x202000, x202001 => if (x5.length : Int) ≤ 30 then ((slices_Index_int64_int64.f k x4 x6).bind fun t210 => (if t210 ≥ 0 then (if 0 ≤ t210 then (if t210 ≤ (x5.length : Int) then ((slices_Clone_int8_int8.f (x5.take (t210 : Int).toNat)).bind fun t215 => ((slices_Clone_int8_int8.f (x5.drop (t210 : Int).toNat)).bind fun t222 => ((impl_ValidStream.f k t215 t222).bind fun t226 => (if t226 = true then (some (t215, t222, 0)) else (some (([] : List Int), ([] : List Int), 3)))))) else (none)) else (none)) else (if x4.length < 17592186044416 then ((some (x4 ++ [x6] : List Int)).bind fun y227 => (if (wrap64 (2 * x6)) ≥ x202001 then (if x5.length < 140737488355328 then (impl_StreamOf.l0 k y227 (x5 ++ [1]) (wrap64 ((wrap64 (2 * x6)) - (wrap64 (1 * x202001)))) x202000 x202001) else (none)) else (if (wrap64 (2 * x6)) ≤ (wrap64 (-x202001)) then (if x5.length < 140737488355328 then (impl_StreamOf.l0 k y227 (x5 ++ [(-1)]) (wrap64 ((wrap64 (2 * x6)) - (wrap64 ((-1) * x202001)))) x202000 x202001) else (none)) else (if x5.length < 140737488355328 then (impl_StreamOf.l0 k y227 (x5 ++ [0]) (wrap64 ((wrap64 (2 * x6)) - (wrap64 (0 * x202001)))) x202000 x202001) else (none))))) else (none)))) else (some (([] : List Int), ([] : List Int), 3))
end
def impl_StreamOf.f (k : Nat) (a0_0 : Int) (a0_1 : Int) : Option (List Int × List Int × Int) := (impl_ValidRatio.f k a0_0 a0_1).bind fun t203 => (if t203 = true then (if a0_0 > a0_1 then (impl_StreamOf.j0 k true a0_0 a0_1) else (impl_StreamOf.j0 k (decide (a0_0 < (wrap64 (-a0_1)))) a0_0 a0_1)) else (some (([] : List Int), ([] : List Int), 1)))
theorem impl_StreamOf.mono_l : ∀ k, (∀ y0 y1 y2, LeO (impl_StreamOf.j0 k y0 y1 y2) (impl_StreamOf.j0 (k + 1) y0 y1 y2)) ∧ (∀ y0 y1 y2 y3 y4, LeO (impl_StreamOf.l0 k y0 y1 y2 y3 y4) (impl_StreamOf.l0 (k + 1) y0 y1 y2 y3 y4))
 | 0 => ⟨fun _ _ _ r h => by simp [impl_StreamOf.j0] at h, fun _ _ _ _ _ r h => by simp [impl_StreamOf.l0] at h⟩
 | k + 1 => by
  obtain ⟨ih0, ih1⟩ := impl_StreamOf.mono_l k
  refine ⟨?_, ?_⟩
  ·intro y0 y1 y2
   unfold impl_StreamOf.j0
   repeat' first
   | (with_reducible exact ih0 _ _ _)
   | (with_reducible exact ih1 _ _ _ _ _)
   | (with_reducible exact impl_ValidRatio.mono _ _ _)
   | (with_reducible exact impl_ValidStream.mono _ _ _)
   | (with_reducible exact slices_Index_int64_int64.mono _ _ _)
   | (with_reducible exact LeO.refl _)
   | (with_reducible exact LeO.none _)
   | (with_reducible refine LeO.ite ?_ ?_)
   | (with_reducible refine LeO.bind ?_ (fun _ => ?_))
   | exact ih0 _ _ _
   | exact ih1 _ _ _ _ _
   | exact impl_ValidRatio.mono _ _ _
   | exact impl_ValidStream.mono _ _ _
   | exact slices_Index_int64_int64.mono _ _ _
   | exact LeO.none _
   | refine LeO.ite ?_ ?_
   | refine LeO.bind ?_ (fun _ => ?_)
  intro y0 y1 y2 y3 y4
  unfold impl_StreamOf.l0
  repeat' first
  | (with_reducible exact ih0 _ _ _)
  | (with_reducible exact ih1 _ _ _ _ _)
  | (with_reducible exact impl_ValidRatio.mono _ _ _)
  | (with_reducible exact impl_ValidStream.mono _ _ _)
  | (with_reducible exact slices_Index_int64_int64.mono _ _ _)
  | (with_reducible exact LeO.refl _)
  | (with_reducible exact LeO.none _)
  | (with_reducible refine LeO.ite ?_ ?_)
  | (with_reducible refine LeO.bind ?_ (fun _ => ?_))
  | exact ih0 _ _ _
  | exact ih1 _ _ _ _ _
  | exact impl_ValidRatio.mono _ _ _
  | exact impl_ValidStream.mono _ _ _
  | exact slices_Index_int64_int64.mono _ _ _
  | exact LeO.none _
  | refine LeO.ite ?_ ?_
  | refine LeO.bind ?_ (fun _ => ?_)
theorem impl_StreamOf.mono : ∀ a0 a1 k, LeO (impl_StreamOf.f k a0 a1) (impl_StreamOf.f (k + 1) a0 a1) := by
 intro a0 a1 k
 obtain ⟨ih0, ih1⟩ := impl_StreamOf.mono_l k
 unfold impl_StreamOf.f
 repeat' first
   | (with_reducible exact ih0 _ _ _)
   | (with_reducible exact ih1 _ _ _ _ _)
   | (with_reducible exact impl_ValidRatio.mono _ _ _)
   | (with_reducible exact impl_ValidStream.mono _ _ _)
   | (with_reducible exact slices_Index_int64_int64.mono _ _ _)
   | (with_reducible exact LeO.refl _)
   | (with_reducible exact LeO.none _)
   | (with_reducible refine LeO.ite ?_ ?_)
   | (with_reducible refine LeO.bind ?_ (fun _ => ?_))
   | exact ih0 _ _ _
   | exact ih1 _ _ _ _ _
   | exact impl_ValidRatio.mono _ _ _
   | exact impl_ValidStream.mono _ _ _
   | exact slices_Index_int64_int64.mono _ _ _
   | exact LeO.none _
   | refine LeO.ite ?_ ?_
   | refine LeO.bind ?_ (fun _ => ?_)
def impl_StreamOf.T10 : Bool × List (List Nat × List Nat) := (true, [([], []), ([], []), ([0, 1], [0, 1]), ([2], [2]), ([], []), ([], []), ([4, 5], [4, 5]), ([6, 3], [6]), ([3, 7], [3, 7]), ([], []), ([9, 8, 7, 0, 1, 2, 3, 4, 5, 6, 7, 8, 9], [8, 9])])
def impl_StreamOf.B10 : List Nat := [0, 0, 3, 7, 0, 0, 48, 127, 255, 0, 1023]
theorem impl_StreamOf.tab10 : rtab .any (opsOf Try.f28 10) = impl_StreamOf.T10 := by kernel_rfl
theorem impl_StreamOf.bits10 : waitsOk impl_StreamOf.T10.2 impl_StreamOf.B10 = true := by kernel_rfl
set_option maxHeartbeats 8000000 in
set_option maxRecDepth 100000 in
theorem impl_StreamOf.calls (k : Nat) (a0_0 : Int) (a0_1 : Int) (r1 : List Int) (r2 : List Int) (r3 : Int) (w : World) (h : impl_StreamOf.f k a0_0 a0_1 = some (r1, r2, r3)) :
  Calls Try.prog 28 #[.agg #[.int .i64 a0_0, .int .i64 a0_1]] w fun e w' => ∃ v0_ v1_ : Value, e = .returned (.tuple #[.agg #[v0_, v1_], .int .i64 r3]) ∧ Kd.R (Kd.int .i8) 69 w' w.heap.size (fun k_ => some k_ ≠ (v1_ : Value).ownBlock) v0_ r1 ∧ Kd.R (Kd.int .i8) 69 w' w.heap.size (fun k_ => some k_ ≠ (v0_ : Value).ownBlock) v1_ r2 ∧ Below w.heap.size w w' := by
 have hu24 := Try.underlying24
 have hu34 := Try.underlying34
 have HB := aM28_ (Below.refl w.heap.size w)
 have H : ((impl_ValidRatio.f k a0_0 a0_1).bind fun t203 => (if t203 = true then (if a0_0 > a0_1 then (impl_StreamOf.j0 k true a0_0 a0_1) else (impl_StreamOf.j0 k (decide (a0_0 < (wrap64 (-a0_1)))) a0_0 a0_1)) else (some (([] : List Int), ([] : List Int), 1)))) = some (r1, r2, r3) := h
 clear h
 replace H := Option.bind_eq_some_iff.mp H
 obtain ⟨t203, A20, H⟩ := H
 replace H : (if t203 = true then (if a0_0 > a0_1 then (impl_StreamOf.j0 k true a0_0 a0_1) else (impl_StreamOf.j0 k (decide (a0_0 < (wrap64 (-a0_1)))) a0_0 a0_1)) else (some (([] : List Int), ([] : List Int), 1))) = some (r1, r2, r3) := H
 have A2 := aM28_ A20
 clear A20
 by_cases c3 : t203 = true
 rotate_left
 ·replace c3 := Bool.eq_false_iff.mpr c3
  subst c3
  have H1 : (some (([] : List Int), ([] : List Int), 1)) = some (r1, r2, r3) := by rw [if_neg (show ¬ (false = true) by decide)] at H; exact H
  clear H
  have H := H1
  clear H1
  simp only [Option.some.injEq, Prod.mk.injEq] at H
  obtain ⟨rfl, rfl, rfl⟩ := H
  go_enter Try.func28, Try.ntmps28
  go_wp2_with (first | ((with_reducible refine gate_dst (N := 1) rfl ?_); refine box_event ?hg (N := 1) ?hd (cs := #[.int .i64 a0_0, .int .i64 a0_1]) (t := 24) ?hr ?_; (case hd => rfl); (case hg => rfl); (case hr => first | (go_simp; done) | (go_simp; rfl)); intro gb201 hg w108 hbox hb; have n0_ := aM28_ (below_step q28x19_ hb); have n1_ := aM28_ (hbox); have n2_ := aM28_ ((by rw [hg]; exact (below_size q28x19_) : w.heap.size ≤ gb201)); have n3_ := aM28_ ((by rw [hg]; exact (below_size q28x19_) : w.heap.size ≤ gb201)); clear HB; have HB := n0_; have BK201 := n1_; have GW201 := n2_; have GE201 := n3_; clear n0_ n1_ n2_ n3_; clear hb hbox hg) | ((with_reducible refine gate_dst (N := 2) rfl ?_); refine box_event ?hg (N := 2) ?hd (cs := #[.slice none 0 0, .slice none 0 0]) (t := 34) ?hr ?_; (case hd => rfl); (case hg => rfl); (case hr => first | (go_simp; done) | (go_simp; rfl)); intro gb202 hg w109 hbox hb; have n0_ := aM28_ (kB28_ (g := gb201) (o := .cells #[.int .i64 a0_0, .int .i64 a0_1] 24 (0, 0)) q28x2_ hb); have n1_ := aM28_ (below_step q28x13_ hb); have n2_ := aM28_ (hbox); have n3_ := aM28_ ((by rw [hg]; exact (below_size q28x13_) : w.heap.size ≤ gb202)); have n4_ := aM28_ ((by rw [hg]; exact (below_size q28x13_) : w.heap.size ≤ gb202)); have n5_ := aM28_ ((q28x14_ : gb201 ≠ gb202)); have n6_ := aM28_ ((q28x15_ : gb202 ≠ gb201)); clear BK201; clear HB; have BK201 := n0_; have HB := n1_; have BK202 := n2_; have GW202 := n3_; have GE202 := n4_; have NB201_202 := n5_; have NB202_201 := n6_; clear n0_ n1_ n2_ n3_ n4_ n5_ n6_; clear hb hbox hg; have hnb110 := NB201_202.out; have hnc110 := NB202_201.out; have hcz111_0 : w109.cell? ⟨gb201, 0, none⟩ = some (.int .i64 a0_0) := (kC28_ BK201.out 0).trans rfl; have hcz111_1 : w109.cell? ⟨gb201, 1, none⟩ = some (.int .i64 a0_1) := (kC28_ BK201.out 1).trans rfl; have hfz111_0 := blk_frozen BK201.out 0; have hfz111_1 := blk_frozen BK201.out 1) | ((with_reducible refine gate_callee (f := 60) rfl ?_); refine goesL_ (some 11) rfl rfl Try.func60 (by kernel_rfl) rfl #[.agg #[.int .i64 a0_0, .int .i64 a0_1]] rfl q28x9_ ?_; (with_reducible refine (impl_ValidRatio.calls k a0_0 a0_1 false _ A2.out).mono ?_); rintro e w112 ⟨rfl, hb⟩; refine ⟨_, rfl, ?_⟩; have n0_ := aM28_ (kB28_ (g := gb201) (o := .cells #[.int .i64 a0_0, .int .i64 a0_1] 24 (0, 0)) q28x2_ hb); have n1_ := aM28_ (kB28_ (g := gb202) (o := .cells #[.slice none 0 0, .slice none 0 0] 34 (0, 0)) q28x3_ hb); have n2_ := aM28_ (below_step q28x1_ hb); clear BK201; clear BK202; clear HB; have BK201 := n0_; have BK202 := n1_; have HB := n2_; clear n0_ n1_ n2_; (try clear hb); (try clear hb2); (try clear hk); (try clear hi); have hcz113_0 : w112.cell? ⟨gb202, 0, none⟩ = some (.slice none 0 0) := (kC28_ BK202.out 0).trans rfl; have hcz113_1 : w112.cell? ⟨gb202, 1, none⟩ = some (.slice none 0 0) := (kC28_ BK202.out 1).trans rfl; have hfz113_0 := blk_frozen BK202.out 0; have hfz113_1 := blk_frozen BK202.out 1))
  refine bodyPost_ret (results_ct rfl _ _ gb202 34 #[.slice none 0 0, .slice none 0 0] (0, 0) _ rfl q28x11_ Try.underlying34 rfl (by kernel_rfl)) rfl ?_
  exact ⟨_, _, by first | rfl | (simp [errW_none, errW_some] <;> rfl) | (simp [*, errW_none, errW_some] <;> rfl), by first | exact Kd.R_nil _ _ _ _ _ | exact Kd.N_nil _ _ _ _ _ | exact Kd.V_nil _ _ _ _ _ | exact Kd.Q_nil _ _ _ _ _ | exact Kd.S_nil _ _ _ _ _, by first | exact Kd.R_nil _ _ _ _ _ | exact Kd.N_nil _ _ _ _ _ | exact Kd.V_nil _ _ _ _ _ | exact Kd.Q_nil _ _ _ _ _ | exact Kd.S_nil _ _ _ _ _, by repeat (first | (with_reducible first | exact HB.out | apply below_alloc | apply pw_below_drewN | apply below_drew1 | refine below_set ?_ GE201.out | refine below_set ?_ GE202.out) | exact HB.out)⟩

 subst c3
 have H1 : (if a0_0 > a0_1 then (impl_StreamOf.j0 k true a0_0 a0_1) else (impl_StreamOf.j0 k (decide (a0_0 < (wrap64 (-a0_1)))) a0_0 a0_1)) = some (r1, r2, r3) := by rw [if_pos rfl] at H; exact H
 clear H
 have H := H1
 clear H1
 have HC4 := aM28_ H
 clear H
 go_enter Try.func28, Try.ntmps28
 go_upto_region 3 with (first | ((with_reducible refine gate_dst (N := 1) rfl ?_); refine box_event ?hg (N := 1) ?hd (cs := #[.int .i64 a0_0, .int .i64 a0_1]) (t := 24) ?hr ?_; (case hd => rfl); (case hg => rfl); (case hr => first | (go_simp; done) | (go_simp; rfl)); intro gb201 hg w5 hbox hb; have n0_ := aM28_ (below_step q28x19_ hb); have n1_ := aM28_ (hbox); have n2_ := aM28_ ((by rw [hg]; exact (below_size q28x19_) : w.heap.size ≤ gb201)); have n3_ := aM28_ ((by rw [hg]; exact (below_size q28x19_) : w.heap.size ≤ gb201)); clear HB; have HB := n0_; have BK201 := n1_; have GW201 := n2_; have GE201 := n3_; clear n0_ n1_ n2_ n3_; clear hb hbox hg) | ((with_reducible refine gate_dst (N := 2) rfl ?_); refine box_event ?hg (N := 2) ?hd (cs := #[.slice none 0 0, .slice none 0 0]) (t := 34) ?hr ?_; (case hd => rfl); (case hg => rfl); (case hr => first | (go_simp; done) | (go_simp; rfl)); intro gb202 hg w6 hbox hb; have n0_ := aM28_ (kB28_ (g := gb201) (o := .cells #[.int .i64 a0_0, .int .i64 a0_1] 24 (0, 0)) q28x2_ hb); have n1_ := aM28_ (below_step q28x13_ hb); have n2_ := aM28_ (hbox); have n3_ := aM28_ ((by rw [hg]; exact (below_size q28x13_) : w.heap.size ≤ gb202)); have n4_ := aM28_ ((by rw [hg]; exact (below_size q28x13_) : w.heap.size ≤ gb202)); have n5_ := aM28_ ((q28x14_ : gb201 ≠ gb202)); have n6_ := aM28_ ((q28x15_ : gb202 ≠ gb201)); clear BK201; clear HB; have BK201 := n0_; have HB := n1_; have BK202 := n2_; have GW202 := n3_; have GE202 := n4_; have NB201_202 := n5_; have NB202_201 := n6_; clear n0_ n1_ n2_ n3_ n4_ n5_ n6_; clear hb hbox hg; have hnb7 := NB201_202.out; have hnc7 := NB202_201.out; have hcz8_0 : w6.cell? ⟨gb201, 0, none⟩ = some (.int .i64 a0_0) := (kC28_ BK201.out 0).trans rfl; have hcz8_1 : w6.cell? ⟨gb201, 1, none⟩ = some (.int .i64 a0_1) := (kC28_ BK201.out 1).trans rfl; have hfz8_0 := blk_frozen BK201.out 0; have hfz8_1 := blk_frozen BK201.out 1) | ((with_reducible refine gate_callee (f := 60) rfl ?_); refine goesL_ (some 11) rfl rfl Try.func60 (by kernel_rfl) rfl #[.agg #[.int .i64 a0_0, .int .i64 a0_1]] rfl q28x9_ ?_; (with_reducible refine (impl_ValidRatio.calls k a0_0 a0_1 true _ A2.out).mono ?_); rintro e w9 ⟨rfl, hb⟩; refine ⟨_, rfl, ?_⟩; have n0_ := aM28_ (kB28_ (g := gb201) (o := .cells #[.int .i64 a0_0, .int .i64 a0_1] 24 (0, 0)) q28x2_ hb); have n1_ := aM28_ (kB28_ (g := gb202) (o := .cells #[.slice none 0 0, .slice none 0 0] 34 (0, 0)) q28x3_ hb); have n2_ := aM28_ (below_step q28x1_ hb); clear BK201; clear BK202; clear HB; have BK201 := n0_; have BK202 := n1_; have HB := n2_; clear n0_ n1_ n2_; (try clear hb); (try clear hb2); (try clear hk); (try clear hi)))
 (try simp only [Act.put, List.setIfInBounds_toArray, List.set_cons_zero, List.set_cons_succ])
 go_cut [26] (fun v26 wc => ∃ (kq : Nat) (x26_3 : Bool), v26 = .bool x26_3 ∧ Aside0 (impl_StreamOf.j0 kq x26_3 a0_0 a0_1 = some (r1, r2, r3)) ∧ Aside0 (kq ≤ k) ∧ Aside0 (wc.heap[gb201]? = some (.cells #[.int .i64 a0_0, .int .i64 a0_1] 24 (0, 0))) ∧ Aside0 (wc.heap[gb202]? = some (.cells #[(.slice none 0 0), (.slice none 0 0)] 34 (0, 0))) ∧ Aside0 (Below w.heap.size w wc))
 case first =>
  have H := HC4.out
  clear HC4
  by_cases c10 : a0_0 > a0_1
  ·rw [if_pos c10] at H
   have c10b0 : decide (a0_1 < a0_0) = true := decide_eq_true c10
   clear c10
   (first | rw [c10b0] | (simp only [i64_w, i32_w]; rw [c10b0]) | skip)
   have H' := aM28_ H
   clear H
   have hnb11 := NB201_202.out
   have hnc11 := NB202_201.out
   have hcz12_0 : w9.cell? ⟨gb201, 0, none⟩ = some (.int .i64 a0_0) := (kC28_ BK201.out 0).trans rfl
   have hcz12_1 : w9.cell? ⟨gb201, 1, none⟩ = some (.int .i64 a0_1) := (kC28_ BK201.out 1).trans rfl
   have hfz12_0 := blk_frozen BK201.out 0
   have hfz12_1 := blk_frozen BK201.out 1
   go_wp2
   go_meet
   case rel => exact ⟨_, (true), q28x32_, H', ⟨by first | omega | exact Nat.le_refl _⟩, ⟨by (with_reducible repeat (first | refine kN28_ ?_ _ | refine kD28_ ?_ | refine kA28_ ?_ _)); exact BK201.out⟩, ⟨by (with_reducible repeat (first | refine kN28_ ?_ _ | refine kD28_ ?_ | refine kA28_ ?_ _)); exact BK202.out⟩, ⟨by repeat (first | (with_reducible first | exact HB.out | apply below_alloc | apply pw_below_drewN | apply below_drew1 | refine below_set ?_ GE201.out | refine below_set ?_ GE202.out) | exact HB.out)⟩⟩
  rw [if_neg c10] at H
  have c10b0 : decide (a0_1 < a0_0) = false := decide_eq_false c10
  clear c10
  (first | rw [c10b0] | (simp only [i64_w, i32_w]; rw [c10b0]) | skip)
  have H' := aM28_ H
  clear H
  have hnb13 := NB201_202.out
  have hnc13 := NB202_201.out
  have hcz14_0 : w9.cell? ⟨gb201, 0, none⟩ = some (.int .i64 a0_0) := (kC28_ BK201.out 0).trans rfl
  have hcz14_1 : w9.cell? ⟨gb201, 1, none⟩ = some (.int .i64 a0_1) := (kC28_ BK201.out 1).trans rfl
  have hfz14_0 := blk_frozen BK201.out 0
  have hfz14_1 := blk_frozen BK201.out 1
  go_wp2
  go_meet
  case rel => exact ⟨_, (decide (a0_0 < (wrap64 (-a0_1)))), q28x32_, H', ⟨by first | omega | exact Nat.le_refl _⟩, ⟨by (with_reducible repeat (first | refine kN28_ ?_ _ | refine kD28_ ?_ | refine kA28_ ?_ _)); exact BK201.out⟩, ⟨by (with_reducible repeat (first | refine kN28_ ?_ _ | refine kD28_ ?_ | refine kA28_ ?_ _)); exact BK202.out⟩, ⟨by repeat (first | (with_reducible first | exact HB.out | apply below_alloc | apply pw_below_drewN | apply below_drew1 | refine below_set ?_ GE201.out | refine below_set ?_ GE202.out) | exact HB.out)⟩⟩
 case rest =>
  clear HC4
  try clear c1
  try clear c2
  try clear p2
  try clear c3
  try clear c6
  try clear p6
  try clear c7
  try clear c10
  try clear c10b0
  try clear c11
  try clear c13
  try clear hcz12_0
  try clear hcz12_1
  try clear hcz14_0
  try clear hcz14_1
  try clear hcz8_0
  try clear hcz8_1
  try clear hfz12_0
  try clear hfz12_1
  try clear hfz14_0
  try clear hfz14_1
  try clear hfz8_0
  try clear hfz8_1
  obtain ⟨kq, x26_3, rfl, HA, HJ3, BK201, BK202, HB⟩ := hcut
  cases kq with
  | zero => exact absurd HA.out (by simp [impl_StreamOf.j0])
  | succ kj3 =>
   have H := HA.out
   clear HA
   simp only [impl_StreamOf.j0] at H
   by_cases c15 : x26_3 = true
   ·subst c15
    have H1 : (some (([] : List Int), ([] : List Int), 2)) = some (r1, r2, r3) := by rw [if_pos rfl] at H; exact H
    clear H
    have H := H1
    clear H1
    simp only [Option.some.injEq, Prod.mk.injEq] at H
    obtain ⟨rfl, rfl, rfl⟩ := H
    have hnb16 := NB202_201.out
    have hnc16 := NB201_202.out
    have hcz17_0 : wc.cell? ⟨gb202, 0, none⟩ = some (.slice none 0 0) := (kC28_ BK202.out 0).trans rfl
    have hcz17_1 : wc.cell? ⟨gb202, 1, none⟩ = some (.slice none 0 0) := (kC28_ BK202.out 1).trans rfl
    have hfz17_0 := blk_frozen BK202.out 0
    have hfz17_1 := blk_frozen BK202.out 1
    go_wp2
    refine bodyPost_ret (results_ct rfl _ _ gb202 34 #[.slice none 0 0, .slice none 0 0] (0, 0) _ rfl q28x11_ Try.underlying34 rfl (by kernel_rfl)) rfl ?_
    exact ⟨_, _, by first | rfl | (simp [errW_none, errW_some] <;> rfl) | (simp [*, errW_none, errW_some] <;> rfl), by first | exact Kd.R_nil _ _ _ _ _ | exact Kd.N_nil _ _ _ _ _ | exact Kd.V_nil _ _ _ _ _ | exact Kd.Q_nil _ _ _ _ _ | exact Kd.S_nil _ _ _ _ _, by first | exact Kd.R_nil _ _ _ _ _ | exact Kd.N_nil _ _ _ _ _ | exact Kd.V_nil _ _ _ _ _ | exact Kd.Q_nil _ _ _ _ _ | exact Kd.S_nil _ _ _ _ _, by repeat (first | (with_reducible first | exact HB.out | apply below_alloc | apply pw_below_drewN | apply below_drew1 | refine below_set ?_ GE201.out | refine below_set ?_ GE202.out) | exact HB.out)⟩
   replace c15 := Bool.eq_false_iff.mpr c15
   subst c15
   have H1 : (impl_StreamOf.l0 kj3 (([] : List Int)) (([] : List Int)) a0_0 a0_0 a0_1) = some (r1, r2, r3) := by rw [if_neg (show ¬ (false = true) by decide)] at H; exact H
   clear H
   have H := H1
   clear H1
   obtain ⟨y204, hy204⟩ : ∃ y_ : List Int, y_ = (([] : List Int)) := ⟨_, rfl⟩
   replace H : (impl_StreamOf.l0 kj3 y204 (([] : List Int)) a0_0 a0_0 a0_1) = some (r1, r2, r3) := by first | (rw [hy204]; with_reducible exact H) | (have H2_ := (Option.bind_some _ _).symm.trans H; rw [hy204]; with_reducible exact H2_) | (have H2_ := (Option.bind_some _ _).symm.trans H; with_reducible exact H2_) | with_reducible exact H | (rw [hy204]; exact H) | exact H
   have Ny204 := aM28_ hy204
   clear hy204
   obtain ⟨y207, hy207⟩ : ∃ y_ : List Int, y_ = (([] : List Int)) := ⟨_, rfl⟩
   replace H : (impl_StreamOf.l0 kj3 y204 y207 a0_0 a0_0 a0_1) = some (r1, r2, r3) := by first | (rw [hy207]; with_reducible exact H) | (have H2_ := (Option.bind_some _ _).symm.trans H; rw [hy207]; with_reducible exact H2_) | (have H2_ := (Option.bind_some _ _).symm.trans H; with_reducible exact H2_) | with_reducible exact H | (rw [hy207]; exact H) | exact H
   have Ny207 := aM28_ hy207
   clear hy207
   have H' := aM28_ H
   clear H
   go_wp2_with (first | ((with_reducible refine gate_dst (N := 28) rfl ?_); refine Kd.R_lit (Kd.int .i64) _ 2 ?hg (N := 28) ?hd (xs := ([] : List Int)) (inner := []) (ok := fun _ => True) (okp := fun _ => True) ?hr ?hp (fun _ hk => hk) trivial (Below.refl _ _) (Nat.le_refl _) (by simp) ?_; (case hd => rfl); (case hg => rfl); (case hr => first | (go_simp; done) | (go_simp; rfl)); (case hp => exact (Reps.none _ _)); intro v205 w18 ho19 hb hg_ hnew_; clear hg_ hnew_; (first | rw [← Ny204.out] at ho19 | (simp only [Int.reduceToNat] at ho19; rw [← Ny204.out] at ho19)); have n0_ := aM28_ (Kd.R_lower ho19 (below_size q28x1_)); have n1_ := aM28_ (kB28_ (g := gb201) (o := .cells #[.int .i64 a0_0, .int .i64 a0_1] 24 (0, 0)) q28x2_ hb); have n2_ := aM28_ (kB28_ (g := gb202) (o := .cells #[.slice none 0 0, .slice none 0 0] 34 (0, 0)) q28x3_ hb); have n3_ := aM28_ (below_step q28x1_ hb); clear BK201; clear BK202; clear HB; have HO206 := n0_; have BK201 := n1_; have BK202 := n2_; have HB := n3_; clear n0_ n1_ n2_ n3_; clear hb ho19) | ((with_reducible refine gate_dst (N := 29) rfl ?_); refine Kd.R_lit (Kd.int .i8) _ 69 ?hg (N := 29) ?hd (xs := ([] : List Int)) (inner := []) (ok := fun _ => True) (okp := fun _ => True) ?hr ?hp (fun _ hk => hk) trivial (Below.refl _ _) (Nat.le_refl _) (by simp) ?_; (case hd => rfl); (case hg => rfl); (case hr => first | (go_simp; done) | (go_simp; rfl)); (case hp => exact (Reps.none _ _)); intro v208 w20 ho21 hb hg_ hnew_; clear hg_ hnew_; (first | rw [← Ny207.out] at ho21 | (simp only [Int.reduceToNat] at ho21; rw [← Ny207.out] at ho21)); have n0_ := aM28_ (rB28_ (by (with_reducible repeat (first | apply Kd.R_alloc | apply Kd.R_drewN | apply rD28_)); exact HO206.out) hb); have n1_ := aM28_ (Kd.R_lower ho21 (below_size q28x1_)); have n2_ := aM28_ (kB28_ (g := gb201) (o := .cells #[.int .i64 a0_0, .int .i64 a0_1] 24 (0, 0)) q28x2_ hb); have n3_ := aM28_ (kB28_ (g := gb202) (o := .cells #[.slice none 0 0, .slice none 0 0] 34 (0, 0)) q28x3_ hb); have n4_ := aM28_ (below_step q28x1_ hb); clear HO206; clear BK201; clear BK202; clear HB; have HO206 := n0_; have HO209 := n1_; have BK201 := n2_; have BK202 := n3_; have HB := n4_; clear n0_ n1_ n2_ n3_ n4_; clear hb ho21; have hnb22 := NB201_202.out; have hnc22 := NB202_201.out; have hcz23_0 : w20.cell? ⟨gb201, 0, none⟩ = some (.int .i64 a0_0) := (kC28_ BK201.out 0).trans rfl; have hcz23_1 : w20.cell? ⟨gb201, 1, none⟩ = some (.int .i64 a0_1) := (kC28_ BK201.out 1).trans rfl; have hfz23_0 := blk_frozen BK201.out 0; have hfz23_1 := blk_frozen BK201.out 1))
   go_loopg [4, 5, 6] kj3 (fun kq v4 v5 v6 w' => ∃ (x4_2 : List Int) (x5_2 : List Int) (x6_2 : Int), v6 = .int .i64 x6_2 ∧ Aside0 (impl_StreamOf.l0 kq x4_2 x5_2 x6_2 a0_0 a0_1 = some (r1, r2, r3)) ∧ Aside0 (kq ≤ kj3) ∧ Aside0 (Kd.R (Kd.int .i64) 2 w' w.heap.size (fun _ => True) v4 x4_2) ∧ Aside0 (Kd.R (Kd.int .i8) 69 w' w.heap.size (fun _ => True) v5 x5_2) ∧ Aside0 (w'.heap[gb201]? = some (.cells #[.int .i64 a0_0, .int .i64 a0_1] 24 (0, 0))) ∧ Aside0 (w'.heap[gb202]? = some (.cells #[(.slice none 0 0), (.slice none 0 0)] 34 (0, 0))) ∧ Aside0 (Below w.heap.size w w'))
   case atStart => exact ⟨(y204), (y207), (a0_0), q28x32_, H', ⟨Nat.le_refl _⟩, ⟨by (with_reducible repeat (first | apply Kd.R_alloc | apply Kd.R_drewN | apply rD28_)); exact HO206.out⟩, ⟨by (with_reducible repeat (first | apply Kd.R_alloc | apply Kd.R_drewN | apply rD28_)); exact HO209.out⟩, ⟨by (with_reducible repeat (first | refine kN28_ ?_ _ | refine kD28_ ?_ | refine kA28_ ?_ _)); exact BK201.out⟩, ⟨by (with_reducible repeat (first | refine kN28_ ?_ _ | refine kD28_ ?_ | refine kA28_ ?_ _)); exact BK202.out⟩, ⟨by repeat (first | (with_reducible first | exact HB.out | apply below_alloc | apply pw_below_drewN | apply below_drew1 | refine below_set ?_ GE201.out | refine below_set ?_ GE202.out) | exact HB.out)⟩⟩
   case round =>
    clear H'
    try clear c1
    try clear c2
    try clear p2
    try clear c3
    try clear c6
    try clear p6
    try clear c7
    try clear c10
    try clear c10b0
    try clear c11
    try clear c13
    try clear c15
    try clear c16
    try clear c22
    try clear hcz12_0
    try clear hcz12_1
    try clear hcz14_0
    try clear hcz14_1
    try clear hcz17_0
    try clear hcz17_1
    try clear hcz23_0
    try clear hcz23_1
    try clear hcz8_0
    try clear hcz8_1
    try clear hfz12_0
    try clear hfz12_1
    try clear hfz14_0
    try clear hfz14_1
    try clear hfz17_0
    try clear hfz17_1
    try clear hfz23_0
    try clear hfz23_1
    try clear hfz8_0
    try clear hfz8_1
    try clear p2
    try clear p6
    obtain ⟨x4_2, x5_2, x6_2, rfl, HA, HK2, HO_4, HO_5, BK201, BK202, HB⟩ := hrel
    cases gk with
    | zero => exact absurd HA.out (by simp [impl_StreamOf.l0])
    | succ k2 =>
     have H := HA.out
     clear HA
     simp only [impl_StreamOf.l0] at H
     by_cases c24 : (x5_2.length : Int) ≤ 30
     rotate_left
     ·rw [if_neg c24] at H
      have c24b0 : decide ((x5_2.length : Int) ≤ 30) = false := decide_eq_false c24
      have c24b1 : decide (x5_2.length ≤ 30) = false := decide_eq_false (by omega)
      clear c24
      simp only [Option.some.injEq, Prod.mk.injEq] at H
      obtain ⟨rfl, rfl, rfl⟩ := H
      obtain ⟨Ao105, co105, eo105⟩ := Kd.R_slice HO_5.out
      subst eo105
      have hnb106 := NB202_201.out
      have hnc106 := NB201_202.out
      have hcz107_0 : wr.cell? ⟨gb202, 0, none⟩ = some (.slice none 0 0) := (kC28_ BK202.out 0).trans rfl
      have hcz107_1 : wr.cell? ⟨gb202, 1, none⟩ = some (.slice none 0 0) := (kC28_ BK202.out 1).trans rfl
      have hfz107_0 := blk_frozen BK202.out 0
      have hfz107_1 := blk_frozen BK202.out 1
      go_wp2
      refine bodyPost_ret (results_ct rfl _ _ gb202 34 #[.slice none 0 0, .slice none 0 0] (0, 0) _ rfl q28x11_ Try.underlying34 rfl (by kernel_rfl)) rfl ?_
      exact ⟨_, _, by first | rfl | (simp [errW_none, errW_some] <;> rfl) | (simp [*, errW_none, errW_some] <;> rfl), by first | exact Kd.R_nil _ _ _ _ _ | exact Kd.N_nil _ _ _ _ _ | exact Kd.V_nil _ _ _ _ _ | exact Kd.Q_nil _ _ _ _ _ | exact Kd.S_nil _ _ _ _ _, by first | exact Kd.R_nil _ _ _ _ _ | exact Kd.N_nil _ _ _ _ _ | exact Kd.V_nil _ _ _ _ _ | exact Kd.Q_nil _ _ _ _ _ | exact Kd.S_nil _ _ _ _ _, by repeat (first | (with_reducible first | exact HB.out | apply below_alloc | apply pw_below_drewN | apply below_drew1 | refine below_set ?_ GE201.out | refine below_set ?_ GE202.out) | exact HB.out)⟩
     rw [if_pos c24] at H
     have c24b0 : decide ((x5_2.length : Int) ≤ 30) = true := decide_eq_true c24
     have c24b1 : decide (x5_2.length ≤ 30) = true := decide_eq_true (by omega)
     clear c24
     replace H := Option.bind_eq_some_iff.mp H
     obtain ⟨t210, A250, H⟩ := H
     replace H : (if t210 ≥ 0 then (if 0 ≤ t210 then (if t210 ≤ (x5_2.length : Int) then ((slices_Clone_int8_int8.f (x5_2.take (t210 : Int).toNat)).bind fun t215 => ((slices_Clone_int8_int8.f (x5_2.drop (t210 : Int).toNat)).bind fun t222 => ((impl_ValidStream.f k2 t215 t222).bind fun t226 => (if t226 = true then (some (t215, t222, 0)) else (some (([] : List Int), ([] : List Int), 3)))))) else (none)) else (none)) else (if x4_2.length < 17592186044416 then ((some (x4_2 ++ [x6_2] : List Int)).bind fun y227 => (if (wrap64 (2 * x6_2)) ≥ a0_1 then (if x5_2.length < 140737488355328 then (impl_StreamOf.l0 k2 y227 (x5_2 ++ [1]) (wrap64 ((wrap64 (2 * x6_2)) - (wrap64 (1 * a0_1)))) a0_0 a0_1) else (none)) else (if (wrap64 (2 * x6_2)) ≤ (wrap64 (-a0_1)) then (if x5_2.length < 140737488355328 then (impl_StreamOf.l0 k2 y227 (x5_2 ++ [(-1)]) (wrap64 ((wrap64 (2 * x6_2)) - (wrap64 ((-1) * a0_1)))) a0_0 a0_1) else (none)) else (if x5_2.length < 140737488355328 then (impl_StreamOf.l0 k2 y227 (x5_2 ++ [0]) (wrap64 ((wrap64 (2 * x6_2)) - (wrap64 (0 * a0_1)))) a0_0 a0_1) else (none))))) else (none))) = some (r1, r2, r3) := H
     have A25 := aM28_ A250
     clear A250
     by_cases c26 : t210 ≥ 0
     rotate_left
     ·rw [if_neg c26] at H
      have c26b0 : decide (0 ≤ t210) = false := decide_eq_false c26
      clear c26
      by_cases c78 : x4_2.length < 17592186044416
      rotate_left
      ·rw [if_neg c78] at H
       exact absurd H (by simp)
      rw [if_pos c78] at H
      have LMc78 := aM28_ c78
      clear c78
      obtain ⟨y227, hy227⟩ : ∃ y_ : List Int, y_ = (x4_2 ++ [x6_2]) := ⟨_, rfl⟩
      replace H : (if (wrap64 (2 * x6_2)) ≥ a0_1 then (if x5_2.length < 140737488355328 then (impl_StreamOf.l0 k2 y227 (x5_2 ++ [1]) (wrap64 ((wrap64 (2 * x6_2)) - (wrap64 (1 * a0_1)))) a0_0 a0_1) else (none)) else (if (wrap64 (2 * x6_2)) ≤ (wrap64 (-a0_1)) then (if x5_2.length < 140737488355328 then (impl_StreamOf.l0 k2 y227 (x5_2 ++ [(-1)]) (wrap64 ((wrap64 (2 * x6_2)) - (wrap64 ((-1) * a0_1)))) a0_0 a0_1) else (none)) else (if x5_2.length < 140737488355328 then (impl_StreamOf.l0 k2 y227 (x5_2 ++ [0]) (wrap64 ((wrap64 (2 * x6_2)) - (wrap64 (0 * a0_1)))) a0_0 a0_1) else (none)))) = some (r1, r2, r3) := by first | (rw [hy227]; with_reducible exact H) | (have H2_ := (Option.bind_some _ _).symm.trans H; rw [hy227]; with_reducible exact H2_) | (have H2_ := (Option.bind_some _ _).symm.trans H; with_reducible exact H2_) | with_reducible exact H | (rw [hy227]; exact H) | exact H
      have Ny227 := aM28_ hy227
      clear hy227
      by_cases c79 : (wrap64 (2 * x6_2)) ≥ a0_1
      ·rw [if_pos c79] at H
       have c79b0 : decide (a0_1 ≤ (wrap64 (2 * x6_2))) = true := decide_eq_true c79
       clear c79
       by_cases c80 : x5_2.length < 140737488355328
       rotate_left
       ·rw [if_neg c80] at H
        exact absurd H (by simp)
       rw [if_pos c80] at H
       have LMc80 := aM28_ c80
       clear c80
       obtain ⟨y230, hy230⟩ : ∃ y_ : List Int, y_ = (x5_2 ++ [1]) := ⟨_, rfl⟩
       replace H : (impl_StreamOf.l0 k2 y227 y230 (wrap64 ((wrap64 (2 * x6_2)) - (wrap64 (1 * a0_1)))) a0_0 a0_1) = some (r1, r2, r3) := by first | (rw [hy230]; with_reducible exact H) | (have H2_ := (Option.bind_some _ _).symm.trans H; rw [hy230]; with_reducible exact H2_) | (have H2_ := (Option.bind_some _ _).symm.trans H; with_reducible exact H2_) | with_reducible exact H | (rw [hy230]; exact H) | exact H
       have Ny230 := aM28_ hy230
       clear hy230
       have H' := aM28_ H
       clear H
       obtain ⟨Ao81, co81, eo81⟩ := Kd.R_slice HO_5.out
       subst eo81
       obtain ⟨Ao82, co82, eo82⟩ := Kd.R_slice HO_4.out
       subst eo82
       go_wp2_with (first | ((with_reducible refine gate_callee (f := 61) rfl ?_); refine goesL_ (some 37) rfl rfl Try.func61 (by kernel_rfl) rfl #[.slice Ao82 x4_2.length co82, .int .i64 x6_2] rfl q28x9_ ?_; (with_reducible refine (slices_Index_int64_int64.calls k2 _ _ x4_2 x6_2 t210 _ ?side1 ?side2 A25.out).mono ?_); (case side1 => repeat (first | exact (Kd.R_reads' HO_4.out).2.2 | (with_reducible refine Kd.C_alloc ?_ _) | (with_reducible refine Kd.C_drewN ?_ _) | (with_reducible refine Kd.C_drew ?_))); (case side2 => exact (Kd.R_reads' HO_4.out).2.1); rintro e w' ⟨rfl, ⟨nd, rfl⟩⟩; refine ⟨_, rfl, ?_⟩) | ((with_reducible refine gate_builtin (b := .append) (xs := #[.tmp 54, .tmp 56]) rfl ?_); at_builtin; refine Kd.R_append (Kd.int .i64) (w0 := w) w.heap.size rfl (.tmp 54) (.tmp 56) 80 2 (.int .i64 0) 8 rfl Try.underlying80 info2 rfl (by decide) (by omega) (.slice Ao82 x4_2.length co82) x4_2 x6_2 [.int .i64 x6_2] (fun _ => True) (fun _ => False) rfl rfl ?aP (fun _ hk => hk.elim) ?aF ?aO ?aB ?aS ?aL ?_; (case aP => exact rfl); (case aB => exact q28x1_); (case aF => exact (fun _ _ => trivial)); (case aO => exact q28x8_); (case aS => exact (below_size q28x1_)); (case aL => have := LMc78.out; omega); intro v228 w83 ho hb hg hat; rw [← Ny227.out] at ho; have n0_ := aM28_ (Kd.R_over' q28x6_ (Kd.R_typed q28x8_) (by decide) hg); have n1_ := aM28_ (blk_grown (g := gb201) (o := .cells #[.int .i64 a0_0, .int .i64 a0_1] 24 (0, 0)) q28x2_ hg (Kd.R_ne HO_4.out BK201.out (by decide))); have n2_ := aM28_ (blk_grown (g := gb202) (o := .cells #[.slice none 0 0, .slice none 0 0] 34 (0, 0)) q28x3_ hg (Kd.R_ne HO_4.out BK202.out (by decide))); have n3_ := aM28_ (hb); have n4_ := aM28_ (ho); clear HO_5; clear BK201; clear BK202; clear HB; clear HO_4; have HO_5 := n0_; have BK201 := n1_; have BK202 := n2_; have HB := n3_; have HO229 := n4_; clear n0_ n1_ n2_ n3_ n4_; clear ho hb hg hat; have hnb84 := NB201_202.out; have hnc84 := NB202_201.out; have hcz85_0 : w83.cell? ⟨gb201, 0, none⟩ = some (.int .i64 a0_0) := (kC28_ BK201.out 0).trans rfl; have hcz85_1 : w83.cell? ⟨gb201, 1, none⟩ = some (.int .i64 a0_1) := (kC28_ BK201.out 1).trans rfl; have hfz85_0 := blk_frozen BK201.out 0; have hfz85_1 := blk_frozen BK201.out 1) | ((with_reducible refine gate_builtin (b := .append) (xs := #[.tmp 69, .tmp 71]) rfl ?_); at_builtin; refine Kd.R_append (Kd.int .i8) (w0 := w) w.heap.size rfl (.tmp 69) (.tmp 71) 22 69 (.int .i8 0) 1 rfl Try.underlying22 info69 rfl (by decide) (by omega) (.slice Ao81 x5_2.length co81) x5_2 1 [.int .i8 1] (fun _ => True) (fun _ => False) rfl rfl ?aP (fun _ hk => hk.elim) ?aF ?aO ?aB ?aS ?aL ?_; (case aP => exact rfl); (case aB => exact q28x1_); (case aF => exact (fun _ _ => trivial)); (case aO => exact q28x6_); (case aS => exact (below_size q28x1_)); (case aL => have := LMc80.out; omega); intro v231 w86 ho hb hg hat; rw [← Ny230.out] at ho; have n0_ := aM28_ (blk_grown (g := gb201) (o := .cells #[.int .i64 a0_0, .int .i64 a0_1] 24 (0, 0)) q28x2_ hg (Kd.R_ne HO_5.out BK201.out (by decide))); have n1_ := aM28_ (blk_grown (g := gb202) (o := .cells #[.slice none 0 0, .slice none 0 0] 34 (0, 0)) q28x3_ hg (Kd.R_ne HO_5.out BK202.out (by decide))); have n2_ := aM28_ (Kd.R_over' q28x31_ (Kd.R_typed q28x6_) (by decide) hg); have n3_ := aM28_ (hb); have n4_ := aM28_ (ho); clear BK201; clear BK202; clear HO229; clear HB; clear HO_5; have BK201 := n0_; have BK202 := n1_; have HO229 := n2_; have HB := n3_; have HO232 := n4_; clear n0_ n1_ n2_ n3_ n4_; clear ho hb hg hat; have hcz87_0 : w86.cell? ⟨gb201, 0, none⟩ = some (.int .i64 a0_0) := (kC28_ BK201.out 0).trans rfl; have hcz87_1 : w86.cell? ⟨gb201, 1, none⟩ = some (.int .i64 a0_1) := (kC28_ BK201.out 1).trans rfl; have hfz87_0 := blk_frozen BK201.out 0; have hfz87_1 := blk_frozen BK201.out 1))
       go_roundg k2
       case measure => have := HJ3.out; have := HK2.out; omega
       case rel => exact ⟨(y227), (y230), (wrap64 ((wrap64 (2 * x6_2)) - (wrap64 (1 * a0_1)))), q28x32_, H', ⟨by have := HJ3.out; have := HK2.out; omega⟩, ⟨by (with_reducible repeat (first | apply Kd.R_alloc | apply Kd.R_drewN | apply rD28_)); exact HO229.out⟩, ⟨by (with_reducible repeat (first | apply Kd.R_alloc | apply Kd.R_drewN | apply rD28_)); exact HO232.out⟩, ⟨by (with_reducible repeat (first | refine kN28_ ?_ _ | refine kD28_ ?_ | refine kA28_ ?_ _)); exact BK201.out⟩, ⟨by (with_reducible repeat (first | refine kN28_ ?_ _ | refine kD28_ ?_ | refine kA28_ ?_ _)); exact BK202.out⟩, ⟨by repeat (first | (with_reducible first | exact HB.out | apply below_alloc | apply pw_below_drewN | apply below_drew1 | refine below_set ?_ GE201.out | refine below_set ?_ GE202.out) | exact HB.out)⟩⟩
      rw [if_neg c79] at H
      have c79b0 : decide (a0_1 ≤ (wrap64 (2 * x6_2))) = false := decide_eq_false c79
      clear c79
      by_cases c88 : (wrap64 (2 * x6_2)) ≤ (wrap64 (-a0_1))
      ·rw [if_pos c88] at H
       have c88b0 : decide ((wrap64 (2 * x6_2)) ≤ (wrap64 (-a0_1))) = true := decide_eq_true c88
       clear c88
       by_cases c89 : x5_2.length < 140737488355328
       rotate_left
       ·rw [if_neg c89] at H
        exact absurd H (by simp)
       rw [if_pos c89] at H
       have LMc89 := aM28_ c89
       clear c89
       obtain ⟨y233, hy233⟩ : ∃ y_ : List Int, y_ = (x5_2 ++ [(-1)]) := ⟨_, rfl⟩
       replace H : (impl_StreamOf.l0 k2 y227 y233 (wrap64 ((wrap64 (2 * x6_2)) - (wrap64 ((-1) * a0_1)))) a0_0 a0_1) = some (r1, r2, r3) := by first | (rw [hy233]; with_reducible exact H) | (have H2_ := (Option.bind_some _ _).symm.trans H; rw [hy233]; with_reducible exact H2_) | (have H2_ := (Option.bind_some _ _).symm.trans H; with_reducible exact H2_) | with_reducible exact H | (rw [hy233]; exact H) | exact H
       have Ny233 := aM28_ hy233
       clear hy233
       have H' := aM28_ H
       clear H
       obtain ⟨Ao90, co90, eo90⟩ := Kd.R_slice HO_5.out
       subst eo90
       obtain ⟨Ao91, co91, eo91⟩ := Kd.R_slice HO_4.out
       subst eo91
       go_wp2_with (first | ((with_reducible refine gate_callee (f := 61) rfl ?_); refine goesL_ (some 37) rfl rfl Try.func61 (by kernel_rfl) rfl #[.slice Ao91 x4_2.length co91, .int .i64 x6_2] rfl q28x9_ ?_; (with_reducible refine (slices_Index_int64_int64.calls k2 _ _ x4_2 x6_2 t210 _ ?side1 ?side2 A25.out).mono ?_); (case side1 => repeat (first | exact (Kd.R_reads' HO_4.out).2.2 | (with_reducible refine Kd.C_alloc ?_ _) | (with_reducible refine Kd.C_drewN ?_ _) | (with_reducible refine Kd.C_drew ?_))); (case side2 => exact (Kd.R_reads' HO_4.out).2.1); rintro e w' ⟨rfl, ⟨nd, rfl⟩⟩; refine ⟨_, rfl, ?_⟩) | ((with_reducible refine gate_builtin (b := .append) (xs := #[.tmp 54, .tmp 56]) rfl ?_); at_builtin; refine Kd.R_append (Kd.int .i64) (w0 := w) w.heap.size rfl (.tmp 54) (.tmp 56) 80 2 (.int .i64 0) 8 rfl Try.underlying80 info2 rfl (by decide) (by omega) (.slice Ao91 x4_2.length co91) x4_2 x6_2 [.int .i64 x6_2] (fun _ => True) (fun _ => False) rfl rfl ?aP (fun _ hk => hk.elim) ?aF ?aO ?aB ?aS ?aL ?_; (case aP => exact rfl); (case aB => exact q28x1_); (case aF => exact (fun _ _ => trivial)); (case aO => exact q28x8_); (case aS => exact (below_size q28x1_)); (case aL => have := LMc78.out; omega); intro v228 w92 ho hb hg hat; rw [← Ny227.out] at ho; have n0_ := aM28_ (Kd.R_over' q28x6_ (Kd.R_typed q28x8_) (by decide) hg); have n1_ := aM28_ (blk_grown (g := gb201) (o := .cells #[.int .i64 a0_0, .int .i64 a0_1] 24 (0, 0)) q28x2_ hg (Kd.R_ne HO_4.out BK201.out (by decide))); have n2_ := aM28_ (blk_grown (g := gb202) (o := .cells #[.slice none 0 0, .slice none 0 0] 34 (0, 0)) q28x3_ hg (Kd.R_ne HO_4.out BK202.out (by decide))); have n3_ := aM28_ (hb); have n4_ := aM28_ (ho); clear HO_5; clear BK201; clear BK202; clear HB; clear HO_4; have HO_5 := n0_; have BK201 := n1_; have BK202 := n2_; have HB := n3_; have HO229 := n4_; clear n0_ n1_ n2_ n3_ n4_; clear ho hb hg hat; have hnb93 := NB201_202.out; have hnc93 := NB202_201.out; have hcz94_0 : w92.cell? ⟨gb201, 0, none⟩ = some (.int .i64 a0_0) := (kC28_ BK201.out 0).trans rfl; have hcz94_1 : w92.cell? ⟨gb201, 1, none⟩ = some (.int .i64 a0_1) := (kC28_ BK201.out 1).trans rfl; have hfz94_0 := blk_frozen BK201.out 0; have hfz94_1 := blk_frozen BK201.out 1) | ((with_reducible refine gate_builtin (b := .append) (xs := #[.tmp 69, .tmp 71]) rfl ?_); at_builtin; refine Kd.R_append (Kd.int .i8) (w0 := w) w.heap.size rfl (.tmp 69) (.tmp 71) 22 69 (.int .i8 0) 1 rfl Try.underlying22 info69 rfl (by decide) (by omega) (.slice Ao90 x5_2.length co90) x5_2 (-1) [.int .i8 (-1)] (fun _ => True) (fun _ => False) rfl rfl ?aP (fun _ hk => hk.elim) ?aF ?aO ?aB ?aS ?aL ?_; (case aP => exact rfl); (case aB => exact q28x1_); (case aF => exact (fun _ _ => trivial)); (case aO => exact q28x6_); (case aS => exact (below_size q28x1_)); (case aL => have := LMc89.out; omega); intro v234 w95 ho hb hg hat; rw [← Ny233.out] at ho; have n0_ := aM28_ (blk_grown (g := gb201) (o := .cells #[.int .i64 a0_0, .int .i64 a0_1] 24 (0, 0)) q28x2_ hg (Kd.R_ne HO_5.out BK201.out (by decide))); have n1_ := aM28_ (blk_grown (g := gb202) (o := .cells #[.slice none 0 0, .slice none 0 0] 34 (0, 0)) q28x3_ hg (Kd.R_ne HO_5.out BK202.out (by decide))); have n2_ := aM28_ (Kd.R_over' q28x31_ (Kd.R_typed q28x6_) (by decide) hg); have n3_ := aM28_ (hb); have n4_ := aM28_ (ho); clear BK201; clear BK202; clear HO229; clear HB; clear HO_5; have BK201 := n0_; have BK202 := n1_; have HO229 := n2_; have HB := n3_; have HO235 := n4_; clear n0_ n1_ n2_ n3_ n4_; clear ho hb hg hat; have hcz96_0 : w95.cell? ⟨gb201, 0, none⟩ = some (.int .i64 a0_0) := (kC28_ BK201.out 0).trans rfl; have hcz96_1 : w95.cell? ⟨gb201, 1, none⟩ = some (.int .i64 a0_1) := (kC28_ BK201.out 1).trans rfl; have hfz96_0 := blk_frozen BK201.out 0; have hfz96_1 := blk_frozen BK201.out 1))
       go_roundg k2
       case measure => have := HJ3.out; have := HK2.out; omega
       case rel => exact ⟨(y227), (y233), (wrap64 ((wrap64 (2 * x6_2)) - (wrap64 ((-1) * a0_1)))), q28x32_, H', ⟨by have := HJ3.out; have := HK2.out; omega⟩, ⟨by (with_reducible repeat (first | apply Kd.R_alloc | apply Kd.R_drewN | apply rD28_)); exact HO229.out⟩, ⟨by (with_reducible repeat (first | apply Kd.R_alloc | apply Kd.R_drewN | apply rD28_)); exact HO235.out⟩, ⟨by (with_reducible repeat (first | refine kN28_ ?_ _ | refine kD28_ ?_ | refine kA28_ ?_ _)); exact BK201.out⟩, ⟨by (with_reducible repeat (first | refine kN28_ ?_ _ | refine kD28_ ?_ | refine kA28_ ?_ _)); exact BK202.out⟩, ⟨by repeat (first | (with_reducible first | exact HB.out | apply below_alloc | apply pw_below_drewN | apply below_drew1 | refine below_set ?_ GE201.out | refine below_set ?_ GE202.out) | exact HB.out)⟩⟩
      rw [if_neg c88] at H
      have c88b0 : decide ((wrap64 (2 * x6_2)) ≤ (wrap64 (-a0_1))) = false := decide_eq_false c88
      clear c88
      by_cases c97 : x5_2.length < 140737488355328
      rotate_left
      ·rw [if_neg c97] at H
       exact absurd H (by simp)
      rw [if_pos c97] at H
      have LMc97 := aM28_ c97
      clear c97
      obtain ⟨y236, hy236⟩ : ∃ y_ : List Int, y_ = (x5_2 ++ [0]) := ⟨_, rfl⟩
      replace H : (impl_StreamOf.l0 k2 y227 y236 (wrap64 ((wrap64 (2 * x6_2)) - (wrap64 (0 * a0_1)))) a0_0 a0_1) = some (r1, r2, r3) := by first | (rw [hy236]; with_reducible exact H) | (have H2_ := (Option.bind_some _ _).symm.trans H; rw [hy236]; with_reducible exact H2_) | (have H2_ := (Option.bind_some _ _).symm.trans H; with_reducible exact H2_) | with_reducible exact H | (rw [hy236]; exact H) | exact H
      have Ny236 := aM28_ hy236
      clear hy236
      have H' := aM28_ H
      clear H
      obtain ⟨Ao98, co98, eo98⟩ := Kd.R_slice HO_5.out
      subst eo98
      obtain ⟨Ao99, co99, eo99⟩ := Kd.R_slice HO_4.out
      subst eo99
      go_wp2_with (first | ((with_reducible refine gate_callee (f := 61) rfl ?_); refine goesL_ (some 37) rfl rfl Try.func61 (by kernel_rfl) rfl #[.slice Ao99 x4_2.length co99, .int .i64 x6_2] rfl q28x9_ ?_; (with_reducible refine (slices_Index_int64_int64.calls k2 _ _ x4_2 x6_2 t210 _ ?side1 ?side2 A25.out).mono ?_); (case side1 => repeat (first | exact (Kd.R_reads' HO_4.out).2.2 | (with_reducible refine Kd.C_alloc ?_ _) | (with_reducible refine Kd.C_drewN ?_ _) | (with_reducible refine Kd.C_drew ?_))); (case side2 => exact (Kd.R_reads' HO_4.out).2.1); rintro e w' ⟨rfl, ⟨nd, rfl⟩⟩; refine ⟨_, rfl, ?_⟩) | ((with_reducible refine gate_builtin (b := .append) (xs := #[.tmp 54, .tmp 56]) rfl ?_); at_builtin; refine Kd.R_append (Kd.int .i64) (w0 := w) w.heap.size rfl (.tmp 54) (.tmp 56) 80 2 (.int .i64 0) 8 rfl Try.underlying80 info2 rfl (by decide) (by omega) (.slice Ao99 x4_2.length co99) x4_2 x6_2 [.int .i64 x6_2] (fun _ => True) (fun _ => False) rfl rfl ?aP (fun _ hk => hk.elim) ?aF ?aO ?aB ?aS ?aL ?_; (case aP => exact rfl); (case aB => exact q28x1_); (case aF => exact (fun _ _ => trivial)); (case aO => exact q28x8_); (case aS => exact (below_size q28x1_)); (case aL => have := LMc78.out; omega); intro v228 w100 ho hb hg hat; rw [← Ny227.out] at ho; have n0_ := aM28_ (Kd.R_over' q28x6_ (Kd.R_typed q28x8_) (by decide) hg); have n1_ := aM28_ (blk_grown (g := gb201) (o := .cells #[.int .i64 a0_0, .int .i64 a0_1] 24 (0, 0)) q28x2_ hg (Kd.R_ne HO_4.out BK201.out (by decide))); have n2_ := aM28_ (blk_grown (g := gb202) (o := .cells #[.slice none 0 0, .slice none 0 0] 34 (0, 0)) q28x3_ hg (Kd.R_ne HO_4.out BK202.out (by decide))); have n3_ := aM28_ (hb); have n4_ := aM28_ (ho); clear HO_5; clear BK201; clear BK202; clear HB; clear HO_4; have HO_5 := n0_; have BK201 := n1_; have BK202 := n2_; have HB := n3_; have HO229 := n4_; clear n0_ n1_ n2_ n3_ n4_; clear ho hb hg hat; have hnb101 := NB201_202.out; have hnc101 := NB202_201.out; have hcz102_0 : w100.cell? ⟨gb201, 0, none⟩ = some (.int .i64 a0_0) := (kC28_ BK201.out 0).trans rfl; have hcz102_1 : w100.cell? ⟨gb201, 1, none⟩ = some (.int .i64 a0_1) := (kC28_ BK201.out 1).trans rfl; have hfz102_0 := blk_frozen BK201.out 0; have hfz102_1 := blk_frozen BK201.out 1) | ((with_reducible refine gate_builtin (b := .append) (xs := #[.tmp 69, .tmp 71]) rfl ?_); at_builtin; refine Kd.R_append (Kd.int .i8) (w0 := w) w.heap.size rfl (.tmp 69) (.tmp 71) 22 69 (.int .i8 0) 1 rfl Try.underlying22 info69 rfl (by decide) (by omega) (.slice Ao98 x5_2.length co98) x5_2 0 [.int .i8 0] (fun _ => True) (fun _ => False) rfl rfl ?aP (fun _ hk => hk.elim) ?aF ?aO ?aB ?aS ?aL ?_; (case aP => exact rfl); (case aB => exact q28x1_); (case aF => exact (fun _ _ => trivial)); (case aO => exact q28x6_); (case aS => exact (below_size q28x1_)); (case aL => have := LMc97.out; omega); intro v237 w103 ho hb hg hat; rw [← Ny236.out] at ho; have n0_ := aM28_ (blk_grown (g := gb201) (o := .cells #[.int .i64 a0_0, .int .i64 a0_1] 24 (0, 0)) q28x2_ hg (Kd.R_ne HO_5.out BK201.out (by decide))); have n1_ := aM28_ (blk_grown (g := gb202) (o := .cells #[.slice none 0 0, .slice none 0 0] 34 (0, 0)) q28x3_ hg (Kd.R_ne HO_5.out BK202.out (by decide))); have n2_ := aM28_ (Kd.R_over' q28x31_ (Kd.R_typed q28x6_) (by decide) hg); have n3_ := aM28_ (hb); have n4_ := aM28_ (ho); clear BK201; clear BK202; clear HO229; clear HB; clear HO_5; have BK201 := n0_; have BK202 := n1_; have HO229 := n2_; have HB := n3_; have HO238 := n4_; clear n0_ n1_ n2_ n3_ n4_; clear ho hb hg hat; have hcz104_0 : w103.cell? ⟨gb201, 0, none⟩ = some (.int .i64 a0_0) := (kC28_ BK201.out 0).trans rfl; have hcz104_1 : w103.cell? ⟨gb201, 1, none⟩ = some (.int .i64 a0_1) := (kC28_ BK201.out 1).trans rfl; have hfz104_0 := blk_frozen BK201.out 0; have hfz104_1 := blk_frozen BK201.out 1))
      go_roundg k2
      case measure => have := HJ3.out; have := HK2.out; omega
      case rel => exact ⟨(y227), (y236), (wrap64 ((wrap64 (2 * x6_2)) - (wrap64 (0 * a0_1)))), (by first | rfl | (simp; done) | (simp [*]; done) | (simp [*, show wrap64 0 = 0 by rw [wrap64]; rfl]; done)), H', ⟨by have := HJ3.out; have := HK2.out; omega⟩, ⟨by (with_reducible repeat (first | apply Kd.R_alloc | apply Kd.R_drewN | apply rD28_)); exact HO229.out⟩, ⟨by (with_reducible repeat (first | apply Kd.R_alloc | apply Kd.R_drewN | apply rD28_)); exact HO238.out⟩, ⟨by (with_reducible repeat (first | refine kN28_ ?_ _ | refine kD28_ ?_ | refine kA28_ ?_ _)); exact BK201.out⟩, ⟨by (with_reducible repeat (first | refine kN28_ ?_ _ | refine kD28_ ?_ | refine kA28_ ?_ _)); exact BK202.out⟩, ⟨by repeat (first | (with_reducible first | exact HB.out | apply below_alloc | apply pw_below_drewN | apply below_drew1 | refine below_set ?_ GE201.out | refine below_set ?_ GE202.out) | exact HB.out)⟩⟩
     rw [if_pos c26] at H
     have c26b0 : decide (0 ≤ t210) = true := decide_eq_true c26
     clear c26
     by_cases c27 : 0 ≤ t210
     rotate_left
     ·rw [if_neg c27] at H
      exact absurd H (by simp)
     rw [if_pos c27] at H
     have c27b0 := eq_true c27
     have c27b1 : decide (0 ≤ t210) = true := decide_eq_true c27
     clear c27
     by_cases c28 : t210 ≤ (x5_2.length : Int)
     rotate_left
     ·rw [if_neg c28] at H
      exact absurd H (by simp)
     rw [if_pos c28] at H
     have c28b0 := eq_true c28
     have c28b1 : decide (t210 ≤ (x5_2.length : Int)) = true := decide_eq_true c28
     clear c28
     obtain ⟨y211, hy211⟩ : ∃ y_ : List Int, y_ = (x5_2.take (t210 : Int).toNat) := ⟨_, rfl⟩
     replace H : ((slices_Clone_int8_int8.f y211).bind fun t215 => ((slices_Clone_int8_int8.f (x5_2.drop (t210 : Int).toNat)).bind fun t222 => ((impl_ValidStream.f k2 t215 t222).bind fun t226 => (if t226 = true then (some (t215, t222, 0)) else (some (([] : List Int), ([] : List Int), 3)))))) = some (r1, r2, r3) := by first | (rw [hy211]; with_reducible exact H) | (have H2_ := (Option.bind_some _ _).symm.trans H; rw [hy211]; with_reducible exact H2_) | (have H2_ := (Option.bind_some _ _).symm.trans H; with_reducible exact H2_) | with_reducible exact H | (rw [hy211]; exact H) | exact H
     have Ny211 := aM28_ hy211
     clear hy211
     replace H := Option.bind_eq_some_iff.mp H
     obtain ⟨t215, A290, H⟩ := H
     replace H : ((slices_Clone_int8_int8.f (x5_2.drop (t210 : Int).toNat)).bind fun t222 => ((impl_ValidStream.f k2 t215 t222).bind fun t226 => (if t226 = true then (some (t215, t222, 0)) else (some (([] : List Int), ([] : List Int), 3))))) = some (r1, r2, r3) := H
     have A29 := aM28_ A290
     clear A290
     have c30b0 := eq_true (of_decide_eq_true q28x23_ : 0 ≤ t210)
     have c31b0 := eq_true (of_decide_eq_true q28x23_ : t210 ≤ (x5_2.length : Int))
     obtain ⟨y218, hy218⟩ : ∃ y_ : List Int, y_ = (x5_2.drop (t210 : Int).toNat) := ⟨_, rfl⟩
     replace H : ((slices_Clone_int8_int8.f y218).bind fun t222 => ((impl_ValidStream.f k2 t215 t222).bind fun t226 => (if t226 = true then (some (t215, t222, 0)) else (some (([] : List Int), ([] : List Int), 3))))) = some (r1, r2, r3) := by first | (rw [hy218]; with_reducible exact H) | (have H2_ := (Option.bind_some _ _).symm.trans H; rw [hy218]; with_reducible exact H2_) | (have H2_ := (Option.bind_some _ _).symm.trans H; with_reducible exact H2_) | with_reducible exact H | (rw [hy218]; exact H) | exact H
     have Ny218 := aM28_ hy218
     clear hy218
     replace H := Option.bind_eq_some_iff.mp H
     obtain ⟨t222, A320, H⟩ := H
     replace H : ((impl_ValidStream.f k2 t215 t222).bind fun t226 => (if t226 = true then (some (t215, t222, 0)) else (some (([] : List Int), ([] : List Int), 3)))) = some (r1, r2, r3) := H
     have A32 := aM28_ A320
     clear A320
     replace H := Option.bind_eq_some_iff.mp H
     obtain ⟨t226, A330, H⟩ := H
     replace H : (if t226 = true then (some (t215, t222, 0)) else (some (([] : List Int), ([] : List Int), 3))) = some (r1, r2, r3) := H
     have A33 := aM28_ A330
     clear A330
     by_cases c34 : t226 = true
     rotate_left
     ·replace c34 := Bool.eq_false_iff.mpr c34
      subst c34
      have H1 : (some (([] : List Int), ([] : List Int), 3)) = some (r1, r2, r3) := by rw [if_neg (show ¬ (false = true) by decide)] at H; exact H
      clear H
      have H := H1
      clear H1
      simp only [Option.some.injEq, Prod.mk.injEq] at H
      obtain ⟨rfl, rfl, rfl⟩ := H
      obtain ⟨Ao57, co57, eo57⟩ := Kd.R_slice HO_5.out
      subst eo57
      obtain ⟨Ao58, co58, eo58⟩ := Kd.R_slice HO_4.out
      subst eo58
      try go_wp2_with (first | ((with_reducible refine gate_callee (f := 61) rfl ?_); refine goesL_ (some 37) rfl rfl Try.func61 (by kernel_rfl) rfl #[.slice Ao58 x4_2.length co58, .int .i64 x6_2] rfl q28x9_ ?_; (with_reducible refine (slices_Index_int64_int64.calls k2 _ _ x4_2 x6_2 t210 _ ?side1 ?side2 A25.out).mono ?_); (case side1 => repeat (first | exact (Kd.R_reads' HO_4.out).2.2 | (with_reducible refine Kd.C_alloc ?_ _) | (with_reducible refine Kd.C_drewN ?_ _) | (with_reducible refine Kd.C_drew ?_))); (case side2 => exact (Kd.R_reads' HO_4.out).2.1); rintro e w' ⟨rfl, ⟨nd, rfl⟩⟩; refine ⟨_, rfl, ?_⟩; (try (rw [drewN_self wr]; generalize hq_ : World.drewN wr _ = wr; have n0_ : Aside0 (Kd.R (Kd.int .i64) 2 wr w.heap.size (fun _ => True) (.slice Ao58 x4_2.length co58) x4_2) := ⟨by rw [← hq_]; exact q28x8_⟩; have n1_ : Aside0 (Kd.R (Kd.int .i8) 69 wr w.heap.size (fun _ => True) (.slice Ao57 x5_2.length co57) x5_2) := ⟨by rw [← hq_]; exact q28x6_⟩; have n2_ : Aside0 (wr.heap[gb201]? = some (.cells #[.int .i64 a0_0, .int .i64 a0_1] 24 (0, 0))) := ⟨by rw [← hq_]; exact q28x2_⟩; have n3_ : Aside0 (wr.heap[gb202]? = some (.cells #[.slice none 0 0, .slice none 0 0] 34 (0, 0))) := ⟨by rw [← hq_]; exact q28x3_⟩; have n4_ : Aside0 (Below w.heap.size w wr) := ⟨by rw [← hq_]; exact q28x1_⟩; clear HO_4 HO_5 BK201 BK202 HB hq_; have HO_4 := n0_; have HO_5 := n1_; have BK201 := n2_; have BK202 := n3_; have HB := n4_; clear n0_ n1_ n2_ n3_ n4_))))
      have n0_ := aM28_ (rD28_ HO_4.out)
      have n1_ := aM28_ (rD28_ HO_5.out)
      have n2_ := aM28_ (kD28_ BK201.out)
      have n3_ := aM28_ (kD28_ BK202.out)
      have n4_ := aM28_ (below_drew1 HB.out)
      clear HO_4 HO_5 BK201 BK202 HB
      have HO_4 := n0_
      have HO_5 := n1_
      have BK201 := n2_
      have BK202 := n3_
      have HB := n4_
      clear n0_ n1_ n2_ n3_ n4_
      have q60 : (t210 : Int) ≤ ((x5_2.length : Int) : Int) := of_decide_eq_true q28x23_
      obtain ⟨i060, hi060, _, hsz60, _⟩ := info_parts info69
      have hroom60 : x5_2.length ≤ co57 := (Kd.R_reads' HO_5.out).2.1
      have hC60 : Kd.C (Kd.int .i8) _ Ao57 x5_2.length x5_2 := (Kd.R_reads' HO_5.out).2.2
      have hcut60 := cut_to (P := Try.prog) 22 69 .i64 Try.underlying22 hi060 Ao57 x5_2.length co57 t210 (of_decide_eq_true q28x23_) q60 hroom60
      have hr60 := Kd.C_take (m := (t210 : Int).toNat) hC60 (by omega)
      have hy60 : y211.length = (t210 : Int).toNat := (by rw [Ny211.out, List.length_take]; omega)
      rw [← Ny211.out] at hr60
      rw [← hy60] at hcut60
      have HR214 := aM28_ hr60
      have HC214 := aM28_ (show y211.length ≤ co57 from by omega)
      clear hr60 hC60 hroom60 hi060 hsz60
      have KY60 := aM28_ hy60
      clear hy60
      have KL60 := aM28_ (show (t210 : Int).toNat ≤ x5_2.length from by omega)
      replace q60 := eq_true q60
      have q61 : (t210 : Int) ≤ ((x5_2.length : Int) : Int) := of_decide_eq_true q28x23_
      obtain ⟨i061, hi061, _, hsz61, _⟩ := info_parts info69
      have hroom61 : x5_2.length ≤ co57 := (Kd.R_reads' HO_5.out).2.1
      have hC61 : Kd.C (Kd.int .i8) _ Ao57 x5_2.length x5_2 := (Kd.R_reads' HO_5.out).2.2
      have q061 : (0 : Int) ≤ (t210 : Int) := of_decide_eq_true q28x23_
      have hcut61 := cut_from (P := Try.prog) 22 69 .i64 Try.underlying22 hi061 1 hsz61 Ao57 x5_2.length co57 t210 q061 q61
      have hr61 := Kd.C_drop (m := (t210 : Int).toNat) (c := co57) hC61 (by omega) hroom61
      obtain ⟨A61, hA61⟩ : ∃ A1, A1 = (if co57 = (t210 : Int).toNat then Ao57 else (Ao57 : Option Addr).map (·.add ((t210 : Int).toNat * 1))) := ⟨_, rfl⟩
      obtain ⟨c61, hc61⟩ : ∃ c1, c1 = co57 - (t210 : Int).toNat := ⟨_, rfl⟩
      have hy61 : y218.length = x5_2.length - (t210 : Int).toNat := (by rw [Ny218.out, List.length_drop] <;> omega)
      rw [show (x5_2).drop (t210 : Int).toNat = y218 from Ny218.out.symm] at hr61
      replace hr61 : Kd.C (Kd.int .i8) _ A61 y218.length y218 := (by rw [hA61]; exact hr61)
      rw [← hy61, ← hA61, ← hc61] at hcut61
      have HR221 := aM28_ hr61
      have HC221 := aM28_ (show y218.length ≤ c61 from by rw [hy61, hc61]; exact Nat.sub_le_sub_right hroom61 _)
      clear hr61 hC61 hroom61 hi061 hsz61 hc61
      have KY61 := aM28_ hy61
      have KA61 := aM28_ hA61
      clear hy61 hA61
      have KL61 := aM28_ (show (t210 : Int).toNat ≤ x5_2.length from by omega)
      replace q61 := eq_true q61
      refine start_ (n := 11) (S := fun w' => True) (ds := []) #[false, false, false, false, false, false, false, false, false, false, false] (by kernel_rfl) rfl rfl trivial (fun hHeld => ?_); refine with_tabW impl_StreamOf.tab10 impl_StreamOf.bits10 (fun HT_ HW_ => ?_)
      generalize wr.drew = w59 at HO_4 HO_5 BK201 BK202 HB HR214 HR221 hHeld ⊢
      refine pure_ (i := 0) (N := some 40) (v := ?_) (a' := ?_) #[true, false, false, false, false, false, false, false, false, false, false] rfl rfl (any_of HT_.out (by kernel_rfl)) (fun _ _ _ h => h) (Or.inl ⟨by rfl, ?_⟩) ?_ ?_
      rotate_left
      ·exact q28x33_
      rotate_left
      ·exact q28x34_
      refine pure_ (i := 1) (N := some 41) (v := ?_) (a' := ?_) #[true, true, false, false, false, false, false, false, false, false, false] rfl rfl (any_of HT_.out (by kernel_rfl)) (fun _ _ _ h => h) (Or.inl ⟨by rfl, ?_⟩) ?_ ?_
      rotate_left
      ·exact q28x33_
      rotate_left
      ·exact q28x34_
      refine pure_ (i := 2) (N := some 42) (v := ?_) (a' := ?_) #[true, true, true, false, false, false, false, false, false, false, false] rfl rfl (any_of HT_.out (by kernel_rfl)) (fun _ _ _ h => h) (Or.inl ⟨by rfl, ?_⟩) ?_ ?_
      rotate_left
      ·exact q28x33_
      rotate_left
      ·exact q28x34_
      refine pure_ (i := 4) (N := some 44) (v := ?_) (a' := ?_) #[true, true, true, false, true, false, false, false, false, false, false] rfl rfl (any_of HT_.out (by kernel_rfl)) (fun _ _ _ h => h) (Or.inl ⟨by rfl, ?_⟩) ?_ ?_
      rotate_left
      ·exact q28x33_
      rotate_left
      ·exact q28x34_
      refine pure_ (i := 5) (N := some 45) (v := ?_) (a' := ?_) #[true, true, true, false, true, true, false, false, false, false, false] rfl rfl (any_of HT_.out (by kernel_rfl)) (fun _ _ _ h => h) (Or.inl ⟨by rfl, ?_⟩) ?_ ?_
      rotate_left
      ·exact q28x33_
      rotate_left
      ·exact q28x34_
      refine pure_ (i := 6) (N := some 46) (v := ?_) (a' := ?_) #[true, true, true, false, true, true, true, false, false, false, false] rfl rfl (any_of HT_.out (by kernel_rfl)) (fun _ _ _ h => h) (Or.inl ⟨by rfl, ?_⟩) ?_ ?_
      rotate_left
      ·exact q28x33_
      rotate_left
      ·exact q28x34_
      refine join_ (σ := Value × Value × Nat) 1 #[true, true, true, true, true, true, true, true, true, true, false] (fun s_ => [(43, s_.1), (47, s_.2.1), (8, .pointer (some ⟨s_.2.2, 0, none⟩)), (48, .agg #[s_.1, s_.2.1])]) (fun s_ w' => (Kd.R (Kd.int .i8) 69 w' w.heap.size (fun k_ => some k_ ≠ (s_.2.1 : Value).ownBlock ∧ some k_ ≠ (.slice Ao57 x5_2.length co57 : Value).ownBlock) s_.1 t215) ∧ (Kd.R (Kd.int .i8) 69 w' w.heap.size (fun k_ => some k_ ≠ (s_.1 : Value).ownBlock ∧ some k_ ≠ (.slice Ao57 x5_2.length co57 : Value).ownBlock) s_.2.1 t222) ∧ (Kd.R (Kd.int .i64) 2 w' w.heap.size (fun _ => True) (.slice Ao58 x4_2.length co58) x4_2) ∧ (Kd.R (Kd.int .i8) 69 w' w.heap.size (fun k_ => some k_ ≠ (s_.1 : Value).ownBlock ∧ some k_ ≠ (s_.2.1 : Value).ownBlock) (.slice Ao57 x5_2.length co57) x5_2) ∧ (w'.heap[gb201]? = some (.cells #[.int .i64 a0_0, .int .i64 a0_1] 24 (0, 0))) ∧ (w'.heap[gb202]? = some (.cells #[.slice none 0 0, .slice none 0 0] 34 (0, 0))) ∧ (w'.heap[s_.2.2]? = some (.cells #[.slice none 0 0, .slice none 0 0] 34 (0, 0))) ∧ (w.heap.size ≤ s_.2.2) ∧ (w.heap.size ≤ s_.2.2) ∧ (gb201 ≠ s_.2.2) ∧ (s_.2.2 ≠ gb201) ∧ (gb202 ≠ s_.2.2) ∧ (s_.2.2 ≠ gb202) ∧ (Below w.heap.size w w')) ?_ ?_
      rotate_left
      ·intro hCont
       refine two_ (i := 3) (j := 9) (Ni := some 43) (Nj := some 8) #[true, true, true, true, true, true, true, false, false, false, false] #[true, true, true, false, true, true, true, false, false, true, false] rfl rfl rfl rfl (two_of HT_.out (by kernel_rfl)) (by decide) (by decide) (fun K hK => ?_) (fun K hK => ?_)
       rotate_left
       ·skip
        refine box_step ?hg (N := 8) ?hd (cs := #[.slice none 0 0, .slice none 0 0]) (t := 34) ?hr ?_; (case hd => rfl); (case hg => rfl); (case hr => first | (go_simp; done) | (go_simp; rfl))
        intro gb225 hg w62 hbox hb
        have n0_ := aM28_ (rB28_ q28x8_ hb)
        have n1_ := aM28_ (rB28_ q28x6_ hb)
        have n2_ := aM28_ (kB28_ (g := gb201) (o := .cells #[.int .i64 a0_0, .int .i64 a0_1] 24 (0, 0)) q28x2_ hb)
        have n3_ := aM28_ (kB28_ (g := gb202) (o := .cells #[.slice none 0 0, .slice none 0 0] 34 (0, 0)) q28x3_ hb)
        have n4_ := aM28_ (cB28_ q28x7_ hb)
        have n5_ := aM28_ (cB28_ q28x5_ hb)
        have n6_ := aM28_ (below_step q28x1_ hb)
        have n7_ := aM28_ (hbox)
        have n8_ := aM28_ ((q28x24_ : w.heap.size ≤ gb225))
        have n9_ := aM28_ ((q28x24_ : w.heap.size ≤ gb225))
        have n10_ := aM28_ ((q28x14_ : gb201 ≠ gb225))
        have n11_ := aM28_ ((q28x15_ : gb225 ≠ gb201))
        have n12_ := aM28_ ((q28x20_ : gb202 ≠ gb225))
        have n13_ := aM28_ ((q28x21_ : gb225 ≠ gb202))
        clear HO_4 HO_5 BK201 BK202 HR214 HR221 HB
        have HO_4 := n0_
        have HO_5 := n1_
        have BK201 := n2_
        have BK202 := n3_
        have HR214 := n4_
        have HR221 := n5_
        have HB := n6_
        have BK225 := n7_
        have GW225 := n8_
        have GE225 := n9_
        have NB201_225 := n10_
        have NB225_201 := n11_
        have NB202_225 := n12_
        have NB225_202 := n13_
        clear n0_ n1_ n2_ n3_ n4_ n5_ n6_ n7_ n8_ n9_ n10_ n11_ n12_ n13_ hb hbox hg
        refine hK.out _ _ trivial (fun hHeld => ?_)
        clear hK K
        refine norm_ (a' := ?_) ?_ ?_
        rotate_left
        ·exact q28x35_
        refine one_ (i := 3) (N := some 43) #[true, true, true, true, true, true, true, false, false, true, false] rfl rfl (one_of HT_.out (by kernel_rfl)) (by decide) (fun K hK => ?_)
        refine goes_ Try.func62 (by kernel_rfl) rfl #[.slice Ao57 y211.length co57] (by rfl) rfl rfl q28x9_ ?_
        with_reducible refine (slices_Clone_int8_int8.calls _ _ y211 t215 _ ?side1 ?side2 A29.out).mono ?_
        (case side1 => repeat (first | exact q28x7_ | (with_reducible refine Kd.C_alloc ?_ _) | (with_reducible refine Kd.C_drewN ?_ _) | (with_reducible refine Kd.C_drew ?_)))
        (case side2 => exact HC214.out)
        rintro e w63 ⟨v216, rfl, ho0, hb⟩
        refine ⟨_, rfl, ?_⟩
        have n0_ := aM28_ (rB28_ q28x8_ hb)
        have n1_ := aM28_ (Kd.R_elder' q28x6_ (Kd.R_base ho0) hb)
        have n2_ := aM28_ (Kd.R_lower (Kd.R_new' ho0 (Kd.R_lt q28x6_)) (below_size q28x4_))
        have n3_ := aM28_ (kB28_ (g := gb201) (o := .cells #[.int .i64 a0_0, .int .i64 a0_1] 24 (0, 0)) q28x2_ hb)
        have n4_ := aM28_ (kB28_ (g := gb202) (o := .cells #[.slice none 0 0, .slice none 0 0] 34 (0, 0)) q28x3_ hb)
        have n5_ := aM28_ (cB28_ q28x7_ hb)
        have n6_ := aM28_ (cB28_ q28x5_ hb)
        have n7_ := aM28_ (kB28_ (g := gb225) (o := .cells #[.slice none 0 0, .slice none 0 0] 34 (0, 0)) q28x12_ hb)
        have n8_ := aM28_ (below_step q28x4_ hb)
        clear HO_4 HO_5 BK201 BK202 HR214 HR221 BK225 HB
        have HO_4 := n0_
        have HO_5 := n1_
        have HO217 := n2_
        have BK201 := n3_
        have BK202 := n4_
        have HR214 := n5_
        have HR221 := n6_
        have BK225 := n7_
        have HB := n8_
        clear n0_ n1_ n2_ n3_ n4_ n5_ n6_ n7_ n8_
        (try clear hb)
        (try clear hb2)
        (try clear hk)
        (try clear hi)
        (try clear ho0)
        refine hK.out _ _ trivial (fun hHeld => ?_)
        clear hK K
        refine norm_ (a' := ?_) ?_ ?_
        rotate_left
        ·exact q28x36_
        refine one_ (i := 7) (N := some 47) #[true, true, true, true, true, true, true, true, false, true, false] rfl rfl (one_of HT_.out (by kernel_rfl)) (by decide) (fun K hK => ?_)
        refine goes_ Try.func62 (by kernel_rfl) rfl #[.slice A61 y218.length c61] (by rfl) rfl rfl q28x9_ ?_
        with_reducible refine (slices_Clone_int8_int8.calls _ _ y218 t222 _ ?side1 ?side2 A32.out).mono ?_
        (case side1 => repeat (first | exact q28x5_ | (with_reducible refine Kd.C_alloc ?_ _) | (with_reducible refine Kd.C_drewN ?_ _) | (with_reducible refine Kd.C_drew ?_)))
        (case side2 => exact HC221.out)
        rintro e w64 ⟨v223, rfl, ho0, hb⟩
        refine ⟨_, rfl, ?_⟩
        have n0_ := aM28_ (rB28_ q28x8_ hb)
        have n1_ := aM28_ (Kd.R_elder' q28x6_ (Kd.R_base ho0) hb)
        have n2_ := aM28_ (Kd.R_elder' q28x10_ (Kd.R_base ho0) hb)
        have n3_ := aM28_ (Kd.R_lower (Kd.R_new' (Kd.R_new' ho0 (Kd.R_lt q28x6_)) (Kd.R_lt q28x10_)) (below_size q28x4_))
        have n4_ := aM28_ (kB28_ (g := gb201) (o := .cells #[.int .i64 a0_0, .int .i64 a0_1] 24 (0, 0)) q28x2_ hb)
        have n5_ := aM28_ (kB28_ (g := gb202) (o := .cells #[.slice none 0 0, .slice none 0 0] 34 (0, 0)) q28x3_ hb)
        have n6_ := aM28_ (cB28_ q28x7_ hb)
        have n7_ := aM28_ (cB28_ q28x5_ hb)
        have n8_ := aM28_ (kB28_ (g := gb225) (o := .cells #[.slice none 0 0, .slice none 0 0] 34 (0, 0)) q28x12_ hb)
        have n9_ := aM28_ (below_step q28x4_ hb)
        clear HO_4 HO_5 HO217 BK201 BK202 HR214 HR221 BK225 HB
        have HO_4 := n0_
        have HO_5 := n1_
        have HO217 := n2_
        have HO224 := n3_
        have BK201 := n4_
        have BK202 := n5_
        have HR214 := n6_
        have HR221 := n7_
        have BK225 := n8_
        have HB := n9_
        clear n0_ n1_ n2_ n3_ n4_ n5_ n6_ n7_ n8_ n9_
        (try clear hb)
        (try clear hb2)
        (try clear hk)
        (try clear hi)
        (try clear ho0)
        obtain ⟨Ao65, co65, eo65⟩ := Kd.R_slice HO224.out
        (first | subst eo65 | (injection eo65 with f1_ f2_ f3_; have f4_ := f1_.symm; have f5_ := f3_.symm; clear f1_ f2_ f3_; subst f4_; subst f5_))
        obtain ⟨Ao66, co66, eo66⟩ := Kd.R_slice HO217.out
        (first | subst eo66 | (injection eo66 with f1_ f2_ f3_; have f4_ := f1_.symm; have f5_ := f3_.symm; clear f1_ f2_ f3_; subst f4_; subst f5_))
        refine hK.out _ _ trivial (fun hHeld => ?_)
        clear hK K
        refine norm_ (a' := ?_) ?_ ?_
        rotate_left
        ·exact q28x37_
        refine pure_ (i := 8) (N := some 48) (v := ?_) (a' := ?_) #[true, true, true, true, true, true, true, true, true, true, false] rfl rfl (any_of HT_.out (by kernel_rfl)) (fun _ _ _ h => h) (Or.inl ⟨by rfl, ?_⟩) ?_ ?_
        rotate_left
        ·exact q28x33_
        rotate_left
        ·exact q28x34_
        exact norm_ q28x22_ (hCont (.slice Ao66 t215.length co66, .slice Ao65 t222.length co65, gb225) _ ⟨q28x16_, q28x17_, q28x8_, q28x18_, q28x2_, q28x3_, q28x12_, GW225.out, GE225.out, NB201_225.out, NB225_201.out, NB202_225.out, NB225_202.out, q28x4_⟩)
       skip
       refine goes_ Try.func62 (by kernel_rfl) rfl #[.slice Ao57 y211.length co57] (by rfl) rfl rfl q28x9_ ?_
       with_reducible refine (slices_Clone_int8_int8.calls _ _ y211 t215 _ ?side1 ?side2 A29.out).mono ?_
       (case side1 => repeat (first | exact q28x7_ | (with_reducible refine Kd.C_alloc ?_ _) | (with_reducible refine Kd.C_drewN ?_ _) | (with_reducible refine Kd.C_drew ?_)))
       (case side2 => exact HC214.out)
       rintro e w62 ⟨v216, rfl, ho0, hb⟩
       refine ⟨_, rfl, ?_⟩
       have n0_ := aM28_ (rB28_ q28x8_ hb)
       have n1_ := aM28_ (Kd.R_elder' q28x6_ (Kd.R_base ho0) hb)
       have n2_ := aM28_ (Kd.R_lower (Kd.R_new' ho0 (Kd.R_lt q28x6_)) (below_size q28x1_))
       have n3_ := aM28_ (kB28_ (g := gb201) (o := .cells #[.int .i64 a0_0, .int .i64 a0_1] 24 (0, 0)) q28x2_ hb)
       have n4_ := aM28_ (kB28_ (g := gb202) (o := .cells #[.slice none 0 0, .slice none 0 0] 34 (0, 0)) q28x3_ hb)
       have n5_ := aM28_ (cB28_ q28x7_ hb)
       have n6_ := aM28_ (cB28_ q28x5_ hb)
       have n7_ := aM28_ (below_step q28x1_ hb)
       clear HO_4 HO_5 BK201 BK202 HR214 HR221 HB
       have HO_4 := n0_
       have HO_5 := n1_
       have HO217 := n2_
       have BK201 := n3_
       have BK202 := n4_
       have HR214 := n5_
       have HR221 := n6_
       have HB := n7_
       clear n0_ n1_ n2_ n3_ n4_ n5_ n6_ n7_
       (try clear hb)
       (try clear hb2)
       (try clear hk)
       (try clear hi)
       (try clear ho0)
       refine hK.out _ _ trivial (fun hHeld => ?_)
       clear hK K
       refine norm_ (a' := ?_) ?_ ?_
       rotate_left
       ·exact q28x36_
       refine two_ (i := 7) (j := 9) (Ni := some 47) (Nj := some 8) #[true, true, true, true, true, true, true, true, false, false, false] #[true, true, true, true, true, true, true, false, false, true, false] rfl rfl rfl rfl (two_of HT_.out (by kernel_rfl)) (by decide) (by decide) (fun K hK => ?_) (fun K hK => ?_)
       ·skip
        refine goes_ Try.func62 (by kernel_rfl) rfl #[.slice A61 y218.length c61] (by rfl) rfl rfl q28x9_ ?_
        with_reducible refine (slices_Clone_int8_int8.calls _ _ y218 t222 _ ?side1 ?side2 A32.out).mono ?_
        (case side1 => repeat (first | exact q28x5_ | (with_reducible refine Kd.C_alloc ?_ _) | (with_reducible refine Kd.C_drewN ?_ _) | (with_reducible refine Kd.C_drew ?_)))
        (case side2 => exact HC221.out)
        rintro e w63 ⟨v223, rfl, ho0, hb⟩
        refine ⟨_, rfl, ?_⟩
        have n0_ := aM28_ (rB28_ q28x8_ hb)
        have n1_ := aM28_ (Kd.R_elder' q28x6_ (Kd.R_base ho0) hb)
        have n2_ := aM28_ (Kd.R_elder' q28x10_ (Kd.R_base ho0) hb)
        have n3_ := aM28_ (Kd.R_lower (Kd.R_new' (Kd.R_new' ho0 (Kd.R_lt q28x6_)) (Kd.R_lt q28x10_)) (below_size q28x1_))
        have n4_ := aM28_ (kB28_ (g := gb201) (o := .cells #[.int .i64 a0_0, .int .i64 a0_1] 24 (0, 0)) q28x2_ hb)
        have n5_ := aM28_ (kB28_ (g := gb202) (o := .cells #[.slice none 0 0, .slice none 0 0] 34 (0, 0)) q28x3_ hb)
        have n6_ := aM28_ (cB28_ q28x7_ hb)
        have n7_ := aM28_ (cB28_ q28x5_ hb)
        have n8_ := aM28_ (below_step q28x1_ hb)
        clear HO_4 HO_5 HO217 BK201 BK202 HR214 HR221 HB
        have HO_4 := n0_
        have HO_5 := n1_
        have HO217 := n2_
        have HO224 := n3_
        have BK201 := n4_
        have BK202 := n5_
        have HR214 := n6_
        have HR221 := n7_
        have HB := n8_
        clear n0_ n1_ n2_ n3_ n4_ n5_ n6_ n7_ n8_
        (try clear hb)
        (try clear hb2)
        (try clear hk)
        (try clear hi)
        (try clear ho0)
        obtain ⟨Ao64, co64, eo64⟩ := Kd.R_slice HO224.out
        (first | subst eo64 | (injection eo64 with f1_ f2_ f3_; have f4_ := f1_.symm; have f5_ := f3_.symm; clear f1_ f2_ f3_; subst f4_; subst f5_))
        obtain ⟨Ao65, co65, eo65⟩ := Kd.R_slice HO217.out
        (first | subst eo65 | (injection eo65 with f1_ f2_ f3_; have f4_ := f1_.symm; have f5_ := f3_.symm; clear f1_ f2_ f3_; subst f4_; subst f5_))
        refine hK.out _ _ trivial (fun hHeld => ?_)
        clear hK K
        refine norm_ (a' := ?_) ?_ ?_
        rotate_left
        ·exact q28x37_
        refine pure_ (i := 8) (N := some 48) (v := ?_) (a' := ?_) #[true, true, true, true, true, true, true, true, true, false, false] rfl rfl (any_of HT_.out (by kernel_rfl)) (fun _ _ _ h => h) (Or.inl ⟨by rfl, ?_⟩) ?_ ?_
        rotate_left
        ·exact q28x33_
        rotate_left
        ·exact q28x34_
        refine one_ (i := 9) (N := some 8) #[true, true, true, true, true, true, true, true, true, true, false] rfl rfl (one_of HT_.out (by kernel_rfl)) (by decide) (fun K hK => ?_)
        refine box_step ?hg (N := 8) ?hd (cs := #[.slice none 0 0, .slice none 0 0]) (t := 34) ?hr ?_; (case hd => rfl); (case hg => rfl); (case hr => first | (go_simp; done) | (go_simp; rfl))
        intro gb225 hg w66 hbox hb
        have n0_ := aM28_ (rB28_ q28x8_ hb)
        have n1_ := aM28_ (rB28_ q28x6_ hb)
        have n2_ := aM28_ (rB28_ q28x10_ hb)
        have n3_ := aM28_ (rB28_ (by (with_reducible repeat (first | apply Kd.R_alloc | apply Kd.R_drewN | apply rD28_)); exact HO224.out) hb)
        have n4_ := aM28_ (kB28_ (g := gb201) (o := .cells #[.int .i64 a0_0, .int .i64 a0_1] 24 (0, 0)) q28x2_ hb)
        have n5_ := aM28_ (kB28_ (g := gb202) (o := .cells #[.slice none 0 0, .slice none 0 0] 34 (0, 0)) q28x3_ hb)
        have n6_ := aM28_ (cB28_ q28x7_ hb)
        have n7_ := aM28_ (cB28_ q28x5_ hb)
        have n8_ := aM28_ (below_step q28x1_ hb)
        have n9_ := aM28_ (hbox)
        have n10_ := aM28_ ((q28x24_ : w.heap.size ≤ gb225))
        have n11_ := aM28_ ((q28x24_ : w.heap.size ≤ gb225))
        have n12_ := aM28_ ((q28x14_ : gb201 ≠ gb225))
        have n13_ := aM28_ ((q28x15_ : gb225 ≠ gb201))
        have n14_ := aM28_ ((q28x20_ : gb202 ≠ gb225))
        have n15_ := aM28_ ((q28x21_ : gb225 ≠ gb202))
        clear HO_4 HO_5 HO217 HO224 BK201 BK202 HR214 HR221 HB
        have HO_4 := n0_
        have HO_5 := n1_
        have HO217 := n2_
        have HO224 := n3_
        have BK201 := n4_
        have BK202 := n5_
        have HR214 := n6_
        have HR221 := n7_
        have HB := n8_
        have BK225 := n9_
        have GW225 := n10_
        have GE225 := n11_
        have NB201_225 := n12_
        have NB225_201 := n13_
        have NB202_225 := n14_
        have NB225_202 := n15_
        clear n0_ n1_ n2_ n3_ n4_ n5_ n6_ n7_ n8_ n9_ n10_ n11_ n12_ n13_ n14_ n15_ hb hbox hg
        refine hK.out _ _ trivial (fun hHeld => ?_)
        clear hK K
        refine norm_ (a' := ?_) ?_ ?_
        rotate_left
        ·exact q28x35_
        exact norm_ q28x22_ (hCont (.slice Ao65 t215.length co65, .slice Ao64 t222.length co64, gb225) _ ⟨q28x16_, q28x17_, q28x8_, q28x18_, q28x2_, q28x3_, q28x12_, GW225.out, GE225.out, NB201_225.out, NB225_201.out, NB202_225.out, NB225_202.out, q28x4_⟩)
       skip
       refine box_step ?hg (N := 8) ?hd (cs := #[.slice none 0 0, .slice none 0 0]) (t := 34) ?hr ?_; (case hd => rfl); (case hg => rfl); (case hr => first | (go_simp; done) | (go_simp; rfl))
       intro gb225 hg w63 hbox hb
       have n0_ := aM28_ (rB28_ q28x8_ hb)
       have n1_ := aM28_ (rB28_ q28x6_ hb)
       have n2_ := aM28_ (rB28_ q28x10_ hb)
       have n3_ := aM28_ (kB28_ (g := gb201) (o := .cells #[.int .i64 a0_0, .int .i64 a0_1] 24 (0, 0)) q28x2_ hb)
       have n4_ := aM28_ (kB28_ (g := gb202) (o := .cells #[.slice none 0 0, .slice none 0 0] 34 (0, 0)) q28x3_ hb)
       have n5_ := aM28_ (cB28_ q28x7_ hb)
       have n6_ := aM28_ (cB28_ q28x5_ hb)
       have n7_ := aM28_ (below_step q28x1_ hb)
       have n8_ := aM28_ (hbox)
       have n9_ := aM28_ ((q28x24_ : w.heap.size ≤ gb225))
       have n10_ := aM28_ ((q28x24_ : w.heap.size ≤ gb225))
       have n11_ := aM28_ ((q28x14_ : gb201 ≠ gb225))
       have n12_ := aM28_ ((q28x15_ : gb225 ≠ gb201))
       have n13_ := aM28_ ((q28x20_ : gb202 ≠ gb225))
       have n14_ := aM28_ ((q28x21_ : gb225 ≠ gb202))
       clear HO_4 HO_5 HO217 BK201 BK202 HR214 HR221 HB
       have HO_4 := n0_
       have HO_5 := n1_
       have HO217 := n2_
       have BK201 := n3_
       have BK202 := n4_
       have HR214 := n5_
       have HR221 := n6_
       have HB := n7_
       have BK225 := n8_
       have GW225 := n9_
       have GE225 := n10_
       have NB201_225 := n11_
       have NB225_201 := n12_
       have NB202_225 := n13_
       have NB225_202 := n14_
       clear n0_ n1_ n2_ n3_ n4_ n5_ n6_ n7_ n8_ n9_ n10_ n11_ n12_ n13_ n14_ hb hbox hg
       refine hK.out _ _ trivial (fun hHeld => ?_)
       clear hK K
       refine norm_ (a' := ?_) ?_ ?_
       rotate_left
       ·exact q28x35_
       refine one_ (i := 7) (N := some 47) #[true, true, true, true, true, true, true, true, false, true, false] rfl rfl (one_of HT_.out (by kernel_rfl)) (by decide) (fun K hK => ?_)
       refine goes_ Try.func62 (by kernel_rfl) rfl #[.slice A61 y218.length c61] (by rfl) rfl rfl q28x9_ ?_
       with_reducible refine (slices_Clone_int8_int8.calls _ _ y218 t222 _ ?side1 ?side2 A32.out).mono ?_
       (case side1 => repeat (first | exact q28x5_ | (with_reducible refine Kd.C_alloc ?_ _) | (with_reducible refine Kd.C_drewN ?_ _) | (with_reducible refine Kd.C_drew ?_)))
       (case side2 => exact HC221.out)
       rintro e w64 ⟨v223, rfl, ho0, hb⟩
       refine ⟨_, rfl, ?_⟩
       have n0_ := aM28_ (rB28_ q28x8_ hb)
       have n1_ := aM28_ (Kd.R_elder' q28x6_ (Kd.R_base ho0) hb)
       have n2_ := aM28_ (Kd.R_elder' q28x10_ (Kd.R_base ho0) hb)
       have n3_ := aM28_ (Kd.R_lower (Kd.R_new' (Kd.R_new' ho0 (Kd.R_lt q28x6_)) (Kd.R_lt q28x10_)) (below_size q28x4_))
       have n4_ := aM28_ (kB28_ (g := gb201) (o := .cells #[.int .i64 a0_0, .int .i64 a0_1] 24 (0, 0)) q28x2_ hb)
       have n5_ := aM28_ (kB28_ (g := gb202) (o := .cells #[.slice none 0 0, .slice none 0 0] 34 (0, 0)) q28x3_ hb)
       have n6_ := aM28_ (cB28_ q28x7_ hb)
       have n7_ := aM28_ (cB28_ q28x5_ hb)
       have n8_ := aM28_ (kB28_ (g := gb225) (o := .cells #[.slice none 0 0, .slice none 0 0] 34 (0, 0)) q28x12_ hb)
       have n9_ := aM28_ (below_step q28x4_ hb)
       clear HO_4 HO_5 HO217 BK201 BK202 HR214 HR221 BK225 HB
       have HO_4 := n0_
       have HO_5 := n1_
       have HO217 := n2_
       have HO224 := n3_
       have BK201 := n4_
       have BK202 := n5_
       have HR214 := n6_
       have HR221 := n7_
       have BK225 := n8_
       have HB := n9_
       clear n0_ n1_ n2_ n3_ n4_ n5_ n6_ n7_ n8_ n9_
       (try clear hb)
       (try clear hb2)
       (try clear hk)
       (try clear hi)
       (try clear ho0)
       obtain ⟨Ao65, co65, eo65⟩ := Kd.R_slice HO224.out
       (first | subst eo65 | (injection eo65 with f1_ f2_ f3_; have f4_ := f1_.symm; have f5_ := f3_.symm; clear f1_ f2_ f3_; subst f4_; subst f5_))
       obtain ⟨Ao66, co66, eo66⟩ := Kd.R_slice HO217.out
       (first | subst eo66 | (injection eo66 with f1_ f2_ f3_; have f4_ := f1_.symm; have f5_ := f3_.symm; clear f1_ f2_ f3_; subst f4_; subst f5_))
       refine hK.out _ _ trivial (fun hHeld => ?_)
       clear hK K
       refine norm_ (a' := ?_) ?_ ?_
       rotate_left
       ·exact q28x37_
       refine pure_ (i := 8) (N := some 48) (v := ?_) (a' := ?_) #[true, true, true, true, true, true, true, true, true, true, false] rfl rfl (any_of HT_.out (by kernel_rfl)) (fun _ _ _ h => h) (Or.inl ⟨by rfl, ?_⟩) ?_ ?_
       rotate_left
       ·exact q28x33_
       rotate_left
       ·exact q28x34_
       exact norm_ q28x22_ (hCont (.slice Ao66 t215.length co66, .slice Ao65 t222.length co65, gb225) _ ⟨q28x16_, q28x17_, q28x8_, q28x18_, q28x2_, q28x3_, q28x12_, GW225.out, GE225.out, NB201_225.out, NB225_201.out, NB202_225.out, NB225_202.out, q28x4_⟩)
      rintro ⟨v216, v223, gb225⟩ w67 ⟨h0_, h1_, h2_, h3_, h4_, h5_, h6_, h7_, h8_, h9_, h10_, h11_, h12_, h13_⟩
      have n0_ : Aside0 (Kd.R (Kd.int .i8) 69 w67 w.heap.size (fun k_ => some k_ ≠ (v223 : Value).ownBlock ∧ some k_ ≠ (.slice Ao57 x5_2.length co57 : Value).ownBlock) v216 t215) := ⟨h0_⟩
      have n1_ : Aside0 (Kd.R (Kd.int .i8) 69 w67 w.heap.size (fun k_ => some k_ ≠ (v216 : Value).ownBlock ∧ some k_ ≠ (.slice Ao57 x5_2.length co57 : Value).ownBlock) v223 t222) := ⟨h1_⟩
      have n2_ : Aside0 (Kd.R (Kd.int .i64) 2 w67 w.heap.size (fun _ => True) (.slice Ao58 x4_2.length co58) x4_2) := ⟨h2_⟩
      have n3_ : Aside0 (Kd.R (Kd.int .i8) 69 w67 w.heap.size (fun k_ => some k_ ≠ (v216 : Value).ownBlock ∧ some k_ ≠ (v223 : Value).ownBlock) (.slice Ao57 x5_2.length co57) x5_2) := ⟨h3_⟩
      have n4_ : Aside0 (w67.heap[gb201]? = some (.cells #[.int .i64 a0_0, .int .i64 a0_1] 24 (0, 0))) := ⟨h4_⟩
      have n5_ : Aside0 (w67.heap[gb202]? = some (.cells #[.slice none 0 0, .slice none 0 0] 34 (0, 0))) := ⟨h5_⟩
      have n6_ : Aside0 (w67.heap[gb225]? = some (.cells #[.slice none 0 0, .slice none 0 0] 34 (0, 0))) := ⟨h6_⟩
      have n7_ : Aside0 (w.heap.size ≤ gb225) := ⟨h7_⟩
      have n8_ : Aside0 (w.heap.size ≤ gb225) := ⟨h8_⟩
      have n9_ : Aside0 (gb201 ≠ gb225) := ⟨h9_⟩
      have n10_ : Aside0 (gb225 ≠ gb201) := ⟨h10_⟩
      have n11_ : Aside0 (gb202 ≠ gb225) := ⟨h11_⟩
      have n12_ : Aside0 (gb225 ≠ gb202) := ⟨h12_⟩
      have n13_ : Aside0 (Below w.heap.size w w67) := ⟨h13_⟩
      clear HO_4 HO_5 BK201 BK202 HB h0_ h1_ h2_ h3_ h4_ h5_ h6_ h7_ h8_ h9_ h10_ h11_ h12_ h13_
      have HO217 := n0_
      have HO224 := n1_
      have HO_4 := n2_
      have HO_5 := n3_
      have BK201 := n4_
      have BK202 := n5_
      have BK225 := n6_
      have GW225 := n7_
      have GE225 := n8_
      have NB201_225 := n9_
      have NB225_201 := n10_
      have NB202_225 := n11_
      have NB225_202 := n12_
      have HB := n13_
      clear n0_ n1_ n2_ n3_ n4_ n5_ n6_ n7_ n8_ n9_ n10_ n11_ n12_ n13_
      have hHeld := trivial
      obtain ⟨Ao68, co68, eo68⟩ := Kd.R_slice HO224.out
      (first | subst eo68 | (injection eo68 with f1_ f2_ f3_; have f4_ := f1_.symm; have f5_ := f3_.symm; clear f1_ f2_ f3_; subst f4_; subst f5_))
      obtain ⟨Ao69, co69, eo69⟩ := Kd.R_slice HO217.out
      (first | subst eo69 | (injection eo69 with f1_ f2_ f3_; have f4_ := f1_.symm; have f5_ := f3_.symm; clear f1_ f2_ f3_; subst f4_; subst f5_))
      refine norm_ (a' := ?_) ?_ ?_
      rotate_left
      ·simp only [putAll, Act.put, List.setIfInBounds_toArray, List.set_cons_zero, List.set_cons_succ]
       rfl
      refine one_ (i := 10) (N := none) #[true, true, true, true, true, true, true, true, true, true, true] rfl rfl (one_of HT_.out (by kernel_rfl)) (by decide) (fun K hK => ?_)
      have hs70 : w67.cell? ⟨gb225, 0, none⟩ = some (.slice none 0 0) := (kC28_ BK225.out 0).trans rfl
      have hfs70 := blk_frozen BK225.out 0
      have hns70_0 := NB201_225.out
      have hns70_1 := NB202_225.out
      have hms70_0 := NB225_201.out
      have hms70_1 := NB225_202.out
      have hs71 : w67.cell? ⟨gb225, 1, none⟩ = some (.slice none 0 0) := (kC28_ BK225.out 1).trans rfl
      have hfs71 := blk_frozen BK225.out 1
      have hns71_0 := NB201_225.out
      have hns71_1 := NB202_225.out
      have hms71_0 := NB225_201.out
      have hms71_1 := NB225_202.out
      refine skip_ (w1 := ?_) (by rfl) rfl ?_ ?_
      rotate_left
      ·go_simp
       rfl
      refine hK.out _ _ trivial (fun hHeld => ?_)
      clear hK K
      refine done_ (done_of HT_.out (by kernel_rfl)) ?_
      have hnb72 := NB225_201.out
      have hnc72 := NB201_225.out
      have hnb73 := NB225_202.out
      have hnc73 := NB202_225.out
      have hcz74_0 : w67.cell? ⟨gb225, 0, none⟩ = some (.slice none 0 0) := (kC28_ BK225.out 0).trans rfl
      have hcz74_1 : w67.cell? ⟨gb225, 1, none⟩ = some (.slice none 0 0) := (kC28_ BK225.out 1).trans rfl
      have hfz74_0 := blk_frozen BK225.out 0
      have hfz74_1 := blk_frozen BK225.out 1
      try go_wp2_with (first | ((with_reducible refine gate_callee (f := 52) rfl ?_); refine goesL_ (some 50) rfl rfl Try.func52 (by kernel_rfl) rfl #[.agg #[.slice Ao69 t215.length co69, .slice Ao68 t222.length co68]] rfl q28x9_ ?_; (with_reducible refine (impl_ValidStream.calls k2 _ _ t215 _ _ t222 false _ ?side1 ?side2 ?side3 ?side4 A33.out).mono ?_); (case side1 => refine (Kd.R_reads' (e := 69) (base := w.heap.size) (ok := fun k_ => (some k_ ≠ (.slice Ao68 t222.length co68 : Value).ownBlock ∧ some k_ ≠ (.slice Ao57 x5_2.length co57 : Value).ownBlock)) (n := t215.length) (c := co69) ?_).2.2; exact q28x27_); (case side2 => exact (Kd.R_reads' HO217.out).2.1); (case side3 => refine (Kd.R_reads' (e := 69) (base := w.heap.size) (ok := fun k_ => (some k_ ≠ (.slice Ao69 t215.length co69 : Value).ownBlock ∧ some k_ ≠ (.slice Ao57 x5_2.length co57 : Value).ownBlock)) (n := t222.length) (c := co68) ?_).2.2; exact q28x28_); (case side4 => exact (Kd.R_reads' HO224.out).2.1); rintro e w75 ⟨rfl, hb⟩; refine ⟨_, rfl, ?_⟩; have n0_ := aM28_ (rB28_ (by (with_reducible repeat (first | apply Kd.R_alloc | apply Kd.R_drewN | apply rD28_)); exact (Kd.R_mono (Kd.R_far (p := ⟨gb225, 1, none⟩) (Kd.R_far (p := ⟨gb225, 0, none⟩) (Kd.R_types HO_4.out BK225.out (by decide)) (fun _ hk => hk.2) (.slice Ao69 t215.length co69)) (fun _ hk => hk.2) (.slice Ao68 t222.length co68)) (fun _ h_ => h_.1))) hb); have n1_ := aM28_ (rB28_ (by (with_reducible repeat (first | apply Kd.R_alloc | apply Kd.R_drewN | apply rD28_)); exact (Kd.R_mono (Kd.R_far (p := ⟨gb225, 1, none⟩) (Kd.R_far (p := ⟨gb225, 0, none⟩) (Kd.R_types HO_5.out BK225.out (by decide)) (fun _ hk => hk.2) (.slice Ao69 t215.length co69)) (fun _ hk => hk.2) (.slice Ao68 t222.length co68)) (fun _ h_ => h_.1))) hb); have n2_ := aM28_ (rB28_ q28x27_ hb); have n3_ := aM28_ (rB28_ q28x28_ hb); have n4_ := aM28_ (kB28_ (g := gb201) (o := .cells #[.int .i64 a0_0, .int .i64 a0_1] 24 (0, 0)) q28x25_ hb); have n5_ := aM28_ (kB28_ (g := gb202) (o := .cells #[.slice none 0 0, .slice none 0 0] 34 (0, 0)) q28x26_ hb); have n6_ := aM28_ (kB28_ (g := gb225) (o := .cells #[.slice Ao69 t215.length co69, .slice Ao68 t222.length co68] 34 (0, 0)) (by (with_reducible repeat (first | refine kN28_ ?_ _ | refine kD28_ ?_ | refine kA28_ ?_ _)); refine blk_put (cs := #[.slice Ao69 t215.length co69, .slice none 0 0]) ?_ 1 _ rfl; (with_reducible repeat (first | refine kN28_ ?_ _ | refine kD28_ ?_ | refine kA28_ ?_ _)); refine blk_put (cs := #[.slice none 0 0, .slice none 0 0]) ?_ 0 _ rfl; (with_reducible repeat (first | refine kN28_ ?_ _ | refine kD28_ ?_ | refine kA28_ ?_ _)); exact BK225.out) hb); have n7_ := aM28_ (below_step q28x4_ hb); clear HO_4; clear HO_5; clear HO217; clear HO224; clear BK201; clear BK202; clear BK225; clear HB; have HO_4 := n0_; have HO_5 := n1_; have HO217 := n2_; have HO224 := n3_; have BK201 := n4_; have BK202 := n5_; have BK225 := n6_; have HB := n7_; clear n0_ n1_ n2_ n3_ n4_ n5_ n6_ n7_; (try clear hb); (try clear hb2); (try clear hk); (try clear hi); have hnb76 := NB202_201.out; have hnc76 := NB201_202.out; have hcz77_0 : w75.cell? ⟨gb202, 0, none⟩ = some (.slice none 0 0) := (kC28_ BK202.out 0).trans rfl; have hcz77_1 : w75.cell? ⟨gb202, 1, none⟩ = some (.slice none 0 0) := (kC28_ BK202.out 1).trans rfl; have hfz77_0 := blk_frozen BK202.out 0; have hfz77_1 := blk_frozen BK202.out 1))
      refine bodyPost_ret (results_ct rfl _ _ gb202 34 #[.slice none 0 0, .slice none 0 0] (0, 0) _ rfl q28x11_ Try.underlying34 rfl (by kernel_rfl)) rfl ?_
      exact ⟨_, _, by first | rfl | (simp [errW_none, errW_some] <;> rfl) | (simp [*, errW_none, errW_some] <;> rfl), by first | exact Kd.R_nil _ _ _ _ _ | exact Kd.N_nil _ _ _ _ _ | exact Kd.V_nil _ _ _ _ _ | exact Kd.Q_nil _ _ _ _ _ | exact Kd.S_nil _ _ _ _ _, by first | exact Kd.R_nil _ _ _ _ _ | exact Kd.N_nil _ _ _ _ _ | exact Kd.V_nil _ _ _ _ _ | exact Kd.Q_nil _ _ _ _ _ | exact Kd.S_nil _ _ _ _ _, by repeat (first | (with_reducible first | exact HB.out | apply below_alloc | apply pw_below_drewN | apply below_drew1 | refine below_set ?_ GE201.out | refine below_set ?_ GE202.out | refine below_set ?_ GE225.out) | exact HB.out)⟩
     subst c34
     have H1 : (some (t215, t222, 0)) = some (r1, r2, r3) := by rw [if_pos rfl] at H; exact H
     clear H
     have H := H1
     clear H1
     simp only [Option.some.injEq, Prod.mk.injEq] at H
     obtain ⟨rfl, rfl, rfl⟩ := H
     obtain ⟨Ao35, co35, eo35⟩ := Kd.R_slice HO_5.out
     subst eo35
     obtain ⟨Ao36, co36, eo36⟩ := Kd.R_slice HO_4.out
     subst eo36
     try go_wp2_with (first | ((with_reducible refine gate_callee (f := 61) rfl ?_); refine goesL_ (some 37) rfl rfl Try.func61 (by kernel_rfl) rfl #[.slice Ao36 x4_2.length co36, .int .i64 x6_2] rfl q28x9_ ?_; (with_reducible refine (slices_Index_int64_int64.calls k2 _ _ x4_2 x6_2 t210 _ ?side1 ?side2 A25.out).mono ?_); (case side1 => repeat (first | exact (Kd.R_reads' HO_4.out).2.2 | (with_reducible refine Kd.C_alloc ?_ _) | (with_reducible refine Kd.C_drewN ?_ _) | (with_reducible refine Kd.C_drew ?_))); (case side2 => exact (Kd.R_reads' HO_4.out).2.1); rintro e w' ⟨rfl, ⟨nd, rfl⟩⟩; refine ⟨_, rfl, ?_⟩; (try (rw [drewN_self wr]; generalize hq_ : World.drewN wr _ = wr; have n0_ : Aside0 (Kd.R (Kd.int .i64) 2 wr w.heap.size (fun _ => True) (.slice Ao36 x4_2.length co36) x4_2) := ⟨by rw [← hq_]; exact q28x8_⟩; have n1_ : Aside0 (Kd.R (Kd.int .i8) 69 wr w.heap.size (fun _ => True) (.slice Ao35 x5_2.length co35) x5_2) := ⟨by rw [← hq_]; exact q28x6_⟩; have n2_ : Aside0 (wr.heap[gb201]? = some (.cells #[.int .i64 a0_0, .int .i64 a0_1] 24 (0, 0))) := ⟨by rw [← hq_]; exact q28x2_⟩; have n3_ : Aside0 (wr.heap[gb202]? = some (.cells #[.slice none 0 0, .slice none 0 0] 34 (0, 0))) := ⟨by rw [← hq_]; exact q28x3_⟩; have n4_ : Aside0 (Below w.heap.size w wr) := ⟨by rw [← hq_]; exact q28x1_⟩; clear HO_4 HO_5 BK201 BK202 HB hq_; have HO_4 := n0_; have HO_5 := n1_; have BK201 := n2_; have BK202 := n3_; have HB := n4_; clear n0_ n1_ n2_ n3_ n4_))))
     have n0_ := aM28_ (rD28_ HO_4.out)
     have n1_ := aM28_ (rD28_ HO_5.out)
     have n2_ := aM28_ (kD28_ BK201.out)
     have n3_ := aM28_ (kD28_ BK202.out)
     have n4_ := aM28_ (below_drew1 HB.out)
     clear HO_4 HO_5 BK201 BK202 HB
     have HO_4 := n0_
     have HO_5 := n1_
     have BK201 := n2_
     have BK202 := n3_
     have HB := n4_
     clear n0_ n1_ n2_ n3_ n4_
     have q38 : (t210 : Int) ≤ ((x5_2.length : Int) : Int) := of_decide_eq_true q28x23_
     obtain ⟨i038, hi038, _, hsz38, _⟩ := info_parts info69
     have hroom38 : x5_2.length ≤ co35 := (Kd.R_reads' HO_5.out).2.1
     have hC38 : Kd.C (Kd.int .i8) _ Ao35 x5_2.length x5_2 := (Kd.R_reads' HO_5.out).2.2
     have hcut38 := cut_to (P := Try.prog) 22 69 .i64 Try.underlying22 hi038 Ao35 x5_2.length co35 t210 (of_decide_eq_true q28x23_) q38 hroom38
     have hr38 := Kd.C_take (m := (t210 : Int).toNat) hC38 (by omega)
     have hy38 : y211.length = (t210 : Int).toNat := (by rw [Ny211.out, List.length_take]; omega)
     rw [← Ny211.out] at hr38
     rw [← hy38] at hcut38
     have HR214 := aM28_ hr38
     have HC214 := aM28_ (show y211.length ≤ co35 from by omega)
     clear hr38 hC38 hroom38 hi038 hsz38
     have KY38 := aM28_ hy38
     clear hy38
     have KL38 := aM28_ (show (t210 : Int).toNat ≤ x5_2.length from by omega)
     replace q38 := eq_true q38
     have q39 : (t210 : Int) ≤ ((x5_2.length : Int) : Int) := of_decide_eq_true q28x23_
     obtain ⟨i039, hi039, _, hsz39, _⟩ := info_parts info69
     have hroom39 : x5_2.length ≤ co35 := (Kd.R_reads' HO_5.out).2.1
     have hC39 : Kd.C (Kd.int .i8) _ Ao35 x5_2.length x5_2 := (Kd.R_reads' HO_5.out).2.2
     have q039 : (0 : Int) ≤ (t210 : Int) := of_decide_eq_true q28x23_
     have hcut39 := cut_from (P := Try.prog) 22 69 .i64 Try.underlying22 hi039 1 hsz39 Ao35 x5_2.length co35 t210 q039 q39
     have hr39 := Kd.C_drop (m := (t210 : Int).toNat) (c := co35) hC39 (by omega) hroom39
     obtain ⟨A39, hA39⟩ : ∃ A1, A1 = (if co35 = (t210 : Int).toNat then Ao35 else (Ao35 : Option Addr).map (·.add ((t210 : Int).toNat * 1))) := ⟨_, rfl⟩
     obtain ⟨c39, hc39⟩ : ∃ c1, c1 = co35 - (t210 : Int).toNat := ⟨_, rfl⟩
     have hy39 : y218.length = x5_2.length - (t210 : Int).toNat := (by rw [Ny218.out, List.length_drop] <;> omega)
     rw [show (x5_2).drop (t210 : Int).toNat = y218 from Ny218.out.symm] at hr39
     replace hr39 : Kd.C (Kd.int .i8) _ A39 y218.length y218 := (by rw [hA39]; exact hr39)
     rw [← hy39, ← hA39, ← hc39] at hcut39
     have HR221 := aM28_ hr39
     have HC221 := aM28_ (show y218.length ≤ c39 from by rw [hy39, hc39]; exact Nat.sub_le_sub_right hroom39 _)
     clear hr39 hC39 hroom39 hi039 hsz39 hc39
     have KY39 := aM28_ hy39
     have KA39 := aM28_ hA39
     clear hy39 hA39
     have KL39 := aM28_ (show (t210 : Int).toNat ≤ x5_2.length from by omega)
     replace q39 := eq_true q39
     refine start_ (n := 11) (S := fun w' => True) (ds := []) #[false, false, false, false, false, false, false, false, false, false, false] (by kernel_rfl) rfl rfl trivial (fun hHeld => ?_); refine with_tabW impl_StreamOf.tab10 impl_StreamOf.bits10 (fun HT_ HW_ => ?_)
     generalize wr.drew = w37 at HO_4 HO_5 BK201 BK202 HB HR214 HR221 hHeld ⊢
     refine pure_ (i := 0) (N := some 40) (v := ?_) (a' := ?_) #[true, false, false, false, false, false, false, false, false, false, false] rfl rfl (any_of HT_.out (by kernel_rfl)) (fun _ _ _ h => h) (Or.inl ⟨by rfl, ?_⟩) ?_ ?_
     rotate_left
     ·exact q28x33_
     rotate_left
     ·exact q28x34_
     refine pure_ (i := 1) (N := some 41) (v := ?_) (a' := ?_) #[true, true, false, false, false, false, false, false, false, false, false] rfl rfl (any_of HT_.out (by kernel_rfl)) (fun _ _ _ h => h) (Or.inl ⟨by rfl, ?_⟩) ?_ ?_
     rotate_left
     ·exact q28x33_
     rotate_left
     ·exact q28x34_
     refine pure_ (i := 2) (N := some 42) (v := ?_) (a' := ?_) #[true, true, true, false, false, false, false, false, false, false, false] rfl rfl (any_of HT_.out (by kernel_rfl)) (fun _ _ _ h => h) (Or.inl ⟨by rfl, ?_⟩) ?_ ?_
     rotate_left
     ·exact q28x33_
     rotate_left
     ·exact q28x34_
     refine pure_ (i := 4) (N := some 44) (v := ?_) (a' := ?_) #[true, true, true, false, true, false, false, false, false, false, false] rfl rfl (any_of HT_.out (by kernel_rfl)) (fun _ _ _ h => h) (Or.inl ⟨by rfl, ?_⟩) ?_ ?_
     rotate_left
     ·exact q28x33_
     rotate_left
     ·exact q28x34_
     refine pure_ (i := 5) (N := some 45) (v := ?_) (a' := ?_) #[true, true, true, false, true, true, false, false, false, false, false] rfl rfl (any_of HT_.out (by kernel_rfl)) (fun _ _ _ h => h) (Or.inl ⟨by rfl, ?_⟩) ?_ ?_
     rotate_left
     ·exact q28x33_
     rotate_left
     ·exact q28x34_
     refine pure_ (i := 6) (N := some 46) (v := ?_) (a' := ?_) #[true, true, true, false, true, true, true, false, false, false, false] rfl rfl (any_of HT_.out (by kernel_rfl)) (fun _ _ _ h => h) (Or.inl ⟨by rfl, ?_⟩) ?_ ?_
     rotate_left
     ·exact q28x33_
     rotate_left
     ·exact q28x34_
     refine join_ (σ := Value × Value × Nat) 1 #[true, true, true, true, true, true, true, true, true, true, false] (fun s_ => [(43, s_.1), (47, s_.2.1), (8, .pointer (some ⟨s_.2.2, 0, none⟩)), (48, .agg #[s_.1, s_.2.1])]) (fun s_ w' => (Kd.R (Kd.int .i8) 69 w' w.heap.size (fun k_ => some k_ ≠ (s_.2.1 : Value).ownBlock ∧ some k_ ≠ (.slice Ao35 x5_2.length co35 : Value).ownBlock) s_.1 t215) ∧ (Kd.R (Kd.int .i8) 69 w' w.heap.size (fun k_ => some k_ ≠ (s_.1 : Value).ownBlock ∧ some k_ ≠ (.slice Ao35 x5_2.length co35 : Value).ownBlock) s_.2.1 t222) ∧ (Kd.R (Kd.int .i64) 2 w' w.heap.size (fun _ => True) (.slice Ao36 x4_2.length co36) x4_2) ∧ (Kd.R (Kd.int .i8) 69 w' w.heap.size (fun k_ => some k_ ≠ (s_.1 : Value).ownBlock ∧ some k_ ≠ (s_.2.1 : Value).ownBlock) (.slice Ao35 x5_2.length co35) x5_2) ∧ (w'.heap[gb201]? = some (.cells #[.int .i64 a0_0, .int .i64 a0_1] 24 (0, 0))) ∧ (w'.heap[gb202]? = some (.cells #[.slice none 0 0, .slice none 0 0] 34 (0, 0))) ∧ (w'.heap[s_.2.2]? = some (.cells #[.slice none 0 0, .slice none 0 0] 34 (0, 0))) ∧ (w.heap.size ≤ s_.2.2) ∧ (w.heap.size ≤ s_.2.2) ∧ (gb201 ≠ s_.2.2) ∧ (s_.2.2 ≠ gb201) ∧ (gb202 ≠ s_.2.2) ∧ (s_.2.2 ≠ gb202) ∧ (Below w.heap.size w w')) ?_ ?_
     rotate_left
     ·intro hCont
      refine two_ (i := 3) (j := 9) (Ni := some 43) (Nj := some 8) #[true, true, true, true, true, true, true, false, false, false, false] #[true, true, true, false, true, true, true, false, false, true, false] rfl rfl rfl rfl (two_of HT_.out (by kernel_rfl)) (by decide) (by decide) (fun K hK => ?_) (fun K hK => ?_)
      rotate_left
      ·skip
       refine box_step ?hg (N := 8) ?hd (cs := #[.slice none 0 0, .slice none 0 0]) (t := 34) ?hr ?_; (case hd => rfl); (case hg => rfl); (case hr => first | (go_simp; done) | (go_simp; rfl))
       intro gb225 hg w40 hbox hb
       have n0_ := aM28_ (rB28_ q28x8_ hb)
       have n1_ := aM28_ (rB28_ q28x6_ hb)
       have n2_ := aM28_ (kB28_ (g := gb201) (o := .cells #[.int .i64 a0_0, .int .i64 a0_1] 24 (0, 0)) q28x2_ hb)
       have n3_ := aM28_ (kB28_ (g := gb202) (o := .cells #[.slice none 0 0, .slice none 0 0] 34 (0, 0)) q28x3_ hb)
       have n4_ := aM28_ (cB28_ q28x7_ hb)
       have n5_ := aM28_ (cB28_ q28x5_ hb)
       have n6_ := aM28_ (below_step q28x1_ hb)
       have n7_ := aM28_ (hbox)
       have n8_ := aM28_ ((q28x24_ : w.heap.size ≤ gb225))
       have n9_ := aM28_ ((q28x24_ : w.heap.size ≤ gb225))
       have n10_ := aM28_ ((q28x14_ : gb201 ≠ gb225))
       have n11_ := aM28_ ((q28x15_ : gb225 ≠ gb201))
       have n12_ := aM28_ ((q28x20_ : gb202 ≠ gb225))
       have n13_ := aM28_ ((q28x21_ : gb225 ≠ gb202))
       clear HO_4 HO_5 BK201 BK202 HR214 HR221 HB
       have HO_4 := n0_
       have HO_5 := n1_
       have BK201 := n2_
       have BK202 := n3_
       have HR214 := n4_
       have HR221 := n5_
       have HB := n6_
       have BK225 := n7_
       have GW225 := n8_
       have GE225 := n9_
       have NB201_225 := n10_
       have NB225_201 := n11_
       have NB202_225 := n12_
       have NB225_202 := n13_
       clear n0_ n1_ n2_ n3_ n4_ n5_ n6_ n7_ n8_ n9_ n10_ n11_ n12_ n13_ hb hbox hg
       refine hK.out _ _ trivial (fun hHeld => ?_)
       clear hK K
       refine norm_ (a' := ?_) ?_ ?_
       rotate_left
       ·exact q28x35_
       refine one_ (i := 3) (N := some 43) #[true, true, true, true, true, true, true, false, false, true, false] rfl rfl (one_of HT_.out (by kernel_rfl)) (by decide) (fun K hK => ?_)
       refine goes_ Try.func62 (by kernel_rfl) rfl #[.slice Ao35 y211.length co35] (by rfl) rfl rfl q28x9_ ?_
       with_reducible refine (slices_Clone_int8_int8.calls _ _ y211 t215 _ ?side1 ?side2 A29.out).mono ?_
       (case side1 => repeat (first | exact q28x7_ | (with_reducible refine Kd.C_alloc ?_ _) | (with_reducible refine Kd.C_drewN ?_ _) | (with_reducible refine Kd.C_drew ?_)))
       (case side2 => exact HC214.out)
       rintro e w41 ⟨v216, rfl, ho0, hb⟩
       refine ⟨_, rfl, ?_⟩
       have n0_ := aM28_ (rB28_ q28x8_ hb)
       have n1_ := aM28_ (Kd.R_elder' q28x6_ (Kd.R_base ho0) hb)
       have n2_ := aM28_ (Kd.R_lower (Kd.R_new' ho0 (Kd.R_lt q28x6_)) (below_size q28x4_))
       have n3_ := aM28_ (kB28_ (g := gb201) (o := .cells #[.int .i64 a0_0, .int .i64 a0_1] 24 (0, 0)) q28x2_ hb)
       have n4_ := aM28_ (kB28_ (g := gb202) (o := .cells #[.slice none 0 0, .slice none 0 0] 34 (0, 0)) q28x3_ hb)
       have n5_ := aM28_ (cB28_ q28x7_ hb)
       have n6_ := aM28_ (cB28_ q28x5_ hb)
       have n7_ := aM28_ (kB28_ (g := gb225) (o := .cells #[.slice none 0 0, .slice none 0 0] 34 (0, 0)) q28x12_ hb)
       have n8_ := aM28_ (below_step q28x4_ hb)
       clear HO_4 HO_5 BK201 BK202 HR214 HR221 BK225 HB
       have HO_4 := n0_
       have HO_5 := n1_
       have HO217 := n2_
       have BK201 := n3_
       have BK202 := n4_
       have HR214 := n5_
       have HR221 := n6_
       have BK225 := n7_
       have HB := n8_
       clear n0_ n1_ n2_ n3_ n4_ n5_ n6_ n7_ n8_
       (try clear hb)
       (try clear hb2)
       (try clear hk)
       (try clear hi)
       (try clear ho0)
       refine hK.out _ _ trivial (fun hHeld => ?_)
       clear hK K
       refine norm_ (a' := ?_) ?_ ?_
       rotate_left
       ·exact q28x36_
       refine one_ (i := 7) (N := some 47) #[true, true, true, true, true, true, true, true, false, true, false] rfl rfl (one_of HT_.out (by kernel_rfl)) (by decide) (fun K hK => ?_)
       refine goes_ Try.func62 (by kernel_rfl) rfl #[.slice A39 y218.length c39] (by rfl) rfl rfl q28x9_ ?_
       with_reducible refine (slices_Clone_int8_int8.calls _ _ y218 t222 _ ?side1 ?side2 A32.out).mono ?_
       (case side1 => repeat (first | exact q28x5_ | (with_reducible refine Kd.C_alloc ?_ _) | (with_reducible refine Kd.C_drewN ?_ _) | (with_reducible refine Kd.C_drew ?_)))
       (case side2 => exact HC221.out)
       rintro e w42 ⟨v223, rfl, ho0, hb⟩
       refine ⟨_, rfl, ?_⟩
       have n0_ := aM28_ (rB28_ q28x8_ hb)
       have n1_ := aM28_ (Kd.R_elder' q28x6_ (Kd.R_base ho0) hb)
       have n2_ := aM28_ (Kd.R_elder' q28x10_ (Kd.R_base ho0) hb)
       have n3_ := aM28_ (Kd.R_lower (Kd.R_new' (Kd.R_new' ho0 (Kd.R_lt q28x6_)) (Kd.R_lt q28x10_)) (below_size q28x4_))
       have n4_ := aM28_ (kB28_ (g := gb201) (o := .cells #[.int .i64 a0_0, .int .i64 a0_1] 24 (0, 0)) q28x2_ hb)
       have n5_ := aM28_ (kB28_ (g := gb202) (o := .cells #[.slice none 0 0, .slice none 0 0] 34 (0, 0)) q28x3_ hb)
       have n6_ := aM28_ (cB28_ q28x7_ hb)
       have n7_ := aM28_ (cB28_ q28x5_ hb)
       have n8_ := aM28_ (kB28_ (g := gb225) (o := .cells #[.slice none 0 0, .slice none 0 0] 34 (0, 0)) q28x12_ hb)
       have n9_ := aM28_ (below_step q28x4_ hb)
       clear HO_4 HO_5 HO217 BK201 BK202 HR214 HR221 BK225 HB
       have HO_4 := n0_
       have HO_5 := n1_
       have HO217 := n2_
       have HO224 := n3_
       have BK201 := n4_
       have BK202 := n5_
       have HR214 := n6_
       have HR221 := n7_
       have BK225 := n8_
       have HB := n9_
       clear n0_ n1_ n2_ n3_ n4_ n5_ n6_ n7_ n8_ n9_
       (try clear hb)
       (try clear hb2)
       (try clear hk)
       (try clear hi)
       (try clear ho0)
       obtain ⟨Ao43, co43, eo43⟩ := Kd.R_slice HO224.out
       (first | subst eo43 | (injection eo43 with f1_ f2_ f3_; have f4_ := f1_.symm; have f5_ := f3_.symm; clear f1_ f2_ f3_; subst f4_; subst f5_))
       obtain ⟨Ao44, co44, eo44⟩ := Kd.R_slice HO217.out
       (first | subst eo44 | (injection eo44 with f1_ f2_ f3_; have f4_ := f1_.symm; have f5_ := f3_.symm; clear f1_ f2_ f3_; subst f4_; subst f5_))
       refine hK.out _ _ trivial (fun hHeld => ?_)
       clear hK K
       refine norm_ (a' := ?_) ?_ ?_
       rotate_left
       ·exact q28x37_
       refine pure_ (i := 8) (N := some 48) (v := ?_) (a' := ?_) #[true, true, true, true, true, true, true, true, true, true, false] rfl rfl (any_of HT_.out (by kernel_rfl)) (fun _ _ _ h => h) (Or.inl ⟨by rfl, ?_⟩) ?_ ?_
       rotate_left
       ·exact q28x33_
       rotate_left
       ·exact q28x34_
       exact norm_ q28x22_ (hCont (.slice Ao44 t215.length co44, .slice Ao43 t222.length co43, gb225) _ ⟨q28x16_, q28x17_, q28x8_, q28x18_, q28x2_, q28x3_, q28x12_, GW225.out, GE225.out, NB201_225.out, NB225_201.out, NB202_225.out, NB225_202.out, q28x4_⟩)
      skip
      refine goes_ Try.func62 (by kernel_rfl) rfl #[.slice Ao35 y211.length co35] (by rfl) rfl rfl q28x9_ ?_
      with_reducible refine (slices_Clone_int8_int8.calls _ _ y211 t215 _ ?side1 ?side2 A29.out).mono ?_
      (case side1 => repeat (first | exact q28x7_ | (with_reducible refine Kd.C_alloc ?_ _) | (with_reducible refine Kd.C_drewN ?_ _) | (with_reducible refine Kd.C_drew ?_)))
      (case side2 => exact HC214.out)
      rintro e w40 ⟨v216, rfl, ho0, hb⟩
      refine ⟨_, rfl, ?_⟩
      have n0_ := aM28_ (rB28_ q28x8_ hb)
      have n1_ := aM28_ (Kd.R_elder' q28x6_ (Kd.R_base ho0) hb)
      have n2_ := aM28_ (Kd.R_lower (Kd.R_new' ho0 (Kd.R_lt q28x6_)) (below_size q28x1_))
      have n3_ := aM28_ (kB28_ (g := gb201) (o := .cells #[.int .i64 a0_0, .int .i64 a0_1] 24 (0, 0)) q28x2_ hb)
      have n4_ := aM28_ (kB28_ (g := gb202) (o := .cells #[.slice none 0 0, .slice none 0 0] 34 (0, 0)) q28x3_ hb)
      have n5_ := aM28_ (cB28_ q28x7_ hb)
      have n6_ := aM28_ (cB28_ q28x5_ hb)
      have n7_ := aM28_ (below_step q28x1_ hb)
      clear HO_4 HO_5 BK201 BK202 HR214 HR221 HB
      have HO_4 := n0_
      have HO_5 := n1_
      have HO217 := n2_
      have BK201 := n3_
      have BK202 := n4_
      have HR214 := n5_
      have HR221 := n6_
      have HB := n7_
      clear n0_ n1_ n2_ n3_ n4_ n5_ n6_ n7_
      (try clear hb)
      (try clear hb2)
      (try clear hk)
      (try clear hi)
      (try clear ho0)
      refine hK.out _ _ trivial (fun hHeld => ?_)
      clear hK K
      refine norm_ (a' := ?_) ?_ ?_
      rotate_left
      ·exact q28x36_
      refine two_ (i := 7) (j := 9) (Ni := some 47) (Nj := some 8) #[true, true, true, true, true, true, true, true, false, false, false] #[true, true, true, true, true, true, true, false, false, true, false] rfl rfl rfl rfl (two_of HT_.out (by kernel_rfl)) (by decide) (by decide) (fun K hK => ?_) (fun K hK => ?_)
      ·skip
       refine goes_ Try.func62 (by kernel_rfl) rfl #[.slice A39 y218.length c39] (by rfl) rfl rfl q28x9_ ?_
       with_reducible refine (slices_Clone_int8_int8.calls _ _ y218 t222 _ ?side1 ?side2 A32.out).mono ?_
       (case side1 => repeat (first | exact q28x5_ | (with_reducible refine Kd.C_alloc ?_ _) | (with_reducible refine Kd.C_drewN ?_ _) | (with_reducible refine Kd.C_drew ?_)))
       (case side2 => exact HC221.out)
       rintro e w41 ⟨v223, rfl, ho0, hb⟩
       refine ⟨_, rfl, ?_⟩
       have n0_ := aM28_ (rB28_ q28x8_ hb)
       have n1_ := aM28_ (Kd.R_elder' q28x6_ (Kd.R_base ho0) hb)
       have n2_ := aM28_ (Kd.R_elder' q28x10_ (Kd.R_base ho0) hb)
       have n3_ := aM28_ (Kd.R_lower (Kd.R_new' (Kd.R_new' ho0 (Kd.R_lt q28x6_)) (Kd.R_lt q28x10_)) (below_size q28x1_))
       have n4_ := aM28_ (kB28_ (g := gb201) (o := .cells #[.int .i64 a0_0, .int .i64 a0_1] 24 (0, 0)) q28x2_ hb)
       have n5_ := aM28_ (kB28_ (g := gb202) (o := .cells #[.slice none 0 0, .slice none 0 0] 34 (0, 0)) q28x3_ hb)
       have n6_ := aM28_ (cB28_ q28x7_ hb)
       have n7_ := aM28_ (cB28_ q28x5_ hb)
       have n8_ := aM28_ (below_step q28x1_ hb)
       clear HO_4 HO_5 HO217 BK201 BK202 HR214 HR221 HB
       have HO_4 := n0_
       have HO_5 := n1_
       have HO217 := n2_
       have HO224 := n3_
       have BK201 := n4_
       have BK202 := n5_
       have HR214 := n6_
       have HR221 := n7_
       have HB := n8_
       clear n0_ n1_ n2_ n3_ n4_ n5_ n6_ n7_ n8_
       (try clear hb)
       (try clear hb2)
       (try clear hk)
       (try clear hi)
       (try clear ho0)
       obtain ⟨Ao42, co42, eo42⟩ := Kd.R_slice HO224.out
       (first | subst eo42 | (injection eo42 with f1_ f2_ f3_; have f4_ := f1_.symm; have f5_ := f3_.symm; clear f1_ f2_ f3_; subst f4_; subst f5_))
       obtain ⟨Ao43, co43, eo43⟩ := Kd.R_slice HO217.out
       (first | subst eo43 | (injection eo43 with f1_ f2_ f3_; have f4_ := f1_.symm; have f5_ := f3_.symm; clear f1_ f2_ f3_; subst f4_; subst f5_))
       refine hK.out _ _ trivial (fun hHeld => ?_)
       clear hK K
       refine norm_ (a' := ?_) ?_ ?_
       rotate_left
       ·exact q28x37_
       refine pure_ (i := 8) (N := some 48) (v := ?_) (a' := ?_) #[true, true, true, true, true, true, true, true, true, false, false] rfl rfl (any_of HT_.out (by kernel_rfl)) (fun _ _ _ h => h) (Or.inl ⟨by rfl, ?_⟩) ?_ ?_
       rotate_left
       ·exact q28x33_
       rotate_left
       ·exact q28x34_
       refine one_ (i := 9) (N := some 8) #[true, true, true, true, true, true, true, true, true, true, false] rfl rfl (one_of HT_.out (by kernel_rfl)) (by decide) (fun K hK => ?_)
       refine box_step ?hg (N := 8) ?hd (cs := #[.slice none 0 0, .slice none 0 0]) (t := 34) ?hr ?_; (case hd => rfl); (case hg => rfl); (case hr => first | (go_simp; done) | (go_simp; rfl))
       intro gb225 hg w44 hbox hb
       have n0_ := aM28_ (rB28_ q28x8_ hb)
       have n1_ := aM28_ (rB28_ q28x6_ hb)
       have n2_ := aM28_ (rB28_ q28x10_ hb)
       have n3_ := aM28_ (rB28_ (by (with_reducible repeat (first | apply Kd.R_alloc | apply Kd.R_drewN | apply rD28_)); exact HO224.out) hb)
       have n4_ := aM28_ (kB28_ (g := gb201) (o := .cells #[.int .i64 a0_0, .int .i64 a0_1] 24 (0, 0)) q28x2_ hb)
       have n5_ := aM28_ (kB28_ (g := gb202) (o := .cells #[.slice none 0 0, .slice none 0 0] 34 (0, 0)) q28x3_ hb)
       have n6_ := aM28_ (cB28_ q28x7_ hb)
       have n7_ := aM28_ (cB28_ q28x5_ hb)
       have n8_ := aM28_ (below_step q28x1_ hb)
       have n9_ := aM28_ (hbox)
       have n10_ := aM28_ ((q28x24_ : w.heap.size ≤ gb225))
       have n11_ := aM28_ ((q28x24_ : w.heap.size ≤ gb225))
       have n12_ := aM28_ ((q28x14_ : gb201 ≠ gb225))
       have n13_ := aM28_ ((q28x15_ : gb225 ≠ gb201))
       have n14_ := aM28_ ((q28x20_ : gb202 ≠ gb225))
       have n15_ := aM28_ ((q28x21_ : gb225 ≠ gb202))
       clear HO_4 HO_5 HO217 HO224 BK201 BK202 HR214 HR221 HB
       have HO_4 := n0_
       have HO_5 := n1_
       have HO217 := n2_
       have HO224 := n3_
       have BK201 := n4_
       have BK202 := n5_
       have HR214 := n6_
       have HR221 := n7_
       have HB := n8_
       have BK225 := n9_
       have GW225 := n10_
       have GE225 := n11_
       have NB201_225 := n12_
       have NB225_201 := n13_
       have NB202_225 := n14_
       have NB225_202 := n15_
       clear n0_ n1_ n2_ n3_ n4_ n5_ n6_ n7_ n8_ n9_ n10_ n11_ n12_ n13_ n14_ n15_ hb hbox hg
       refine hK.out _ _ trivial (fun hHeld => ?_)
       clear hK K
       refine norm_ (a' := ?_) ?_ ?_
       rotate_left
       ·exact q28x35_
       exact norm_ q28x22_ (hCont (.slice Ao43 t215.length co43, .slice Ao42 t222.length co42, gb225) _ ⟨q28x16_, q28x17_, q28x8_, q28x18_, q28x2_, q28x3_, q28x12_, GW225.out, GE225.out, NB201_225.out, NB225_201.out, NB202_225.out, NB225_202.out, q28x4_⟩)
      skip
      refine box_step ?hg (N := 8) ?hd (cs := #[.slice none 0 0, .slice none 0 0]) (t := 34) ?hr ?_; (case hd => rfl); (case hg => rfl); (case hr => first | (go_simp; done) | (go_simp; rfl))
      intro gb225 hg w41 hbox hb
      have n0_ := aM28_ (rB28_ q28x8_ hb)
      have n1_ := aM28_ (rB28_ q28x6_ hb)
      have n2_ := aM28_ (rB28_ q28x10_ hb)
      have n3_ := aM28_ (kB28_ (g := gb201) (o := .cells #[.int .i64 a0_0, .int .i64 a0_1] 24 (0, 0)) q28x2_ hb)
      have n4_ := aM28_ (kB28_ (g := gb202) (o := .cells #[.slice none 0 0, .slice none 0 0] 34 (0, 0)) q28x3_ hb)
      have n5_ := aM28_ (cB28_ q28x7_ hb)
      have n6_ := aM28_ (cB28_ q28x5_ hb)
      have n7_ := aM28_ (below_step q28x1_ hb)
      have n8_ := aM28_ (hbox)
      have n9_ := aM28_ ((q28x24_ : w.heap.size ≤ gb225))
      have n10_ := aM28_ ((q28x24_ : w.heap.size ≤ gb225))
      have n11_ := aM28_ ((q28x14_ : gb201 ≠ gb225))
      have n12_ := aM28_ ((q28x15_ : gb225 ≠ gb201))
      have n13_ := aM28_ ((q28x20_ : gb202 ≠ gb225))
      have n14_ := aM28_ ((q28x21_ : gb225 ≠ gb202))
      clear HO_4 HO_5 HO217 BK201 BK202 HR214 HR221 HB
      have HO_4 := n0_
      have HO_5 := n1_
      have HO217 := n2_
      have BK201 := n3_
      have BK202 := n4_
      have HR214 := n5_
      have HR221 := n6_
      have HB := n7_
      have BK225 := n8_
      have GW225 := n9_
      have GE225 := n10_
      have NB201_225 := n11_
      have NB225_201 := n12_
      have NB202_225 := n13_
      have NB225_202 := n14_
      clear n0_ n1_ n2_ n3_ n4_ n5_ n6_ n7_ n8_ n9_ n10_ n11_ n12_ n13_ n14_ hb hbox hg
      refine hK.out _ _ trivial (fun hHeld => ?_)
      clear hK K
      refine norm_ (a' := ?_) ?_ ?_
      rotate_left
      ·exact q28x35_
      refine one_ (i := 7) (N := some 47) #[true, true, true, true, true, true, true, true, false, true, false] rfl rfl (one_of HT_.out (by kernel_rfl)) (by decide) (fun K hK => ?_)
      refine goes_ Try.func62 (by kernel_rfl) rfl #[.slice A39 y218.length c39] (by rfl) rfl rfl q28x9_ ?_
      with_reducible refine (slices_Clone_int8_int8.calls _ _ y218 t222 _ ?side1 ?side2 A32.out).mono ?_
      (case side1 => repeat (first | exact q28x5_ | (with_reducible refine Kd.C_alloc ?_ _) | (with_reducible refine Kd.C_drewN ?_ _) | (with_reducible refine Kd.C_drew ?_)))
      (case side2 => exact HC221.out)
      rintro e w42 ⟨v223, rfl, ho0, hb⟩
      refine ⟨_, rfl, ?_⟩
      have n0_ := aM28_ (rB28_ q28x8_ hb)
      have n1_ := aM28_ (Kd.R_elder' q28x6_ (Kd.R_base ho0) hb)
      have n2_ := aM28_ (Kd.R_elder' q28x10_ (Kd.R_base ho0) hb)
      have n3_ := aM28_ (Kd.R_lower (Kd.R_new' (Kd.R_new' ho0 (Kd.R_lt q28x6_)) (Kd.R_lt q28x10_)) (below_size q28x4_))
      have n4_ := aM28_ (kB28_ (g := gb201) (o := .cells #[.int .i64 a0_0, .int .i64 a0_1] 24 (0, 0)) q28x2_ hb)
      have n5_ := aM28_ (kB28_ (g := gb202) (o := .cells #[.slice none 0 0, .slice none 0 0] 34 (0, 0)) q28x3_ hb)
      have n6_ := aM28_ (cB28_ q28x7_ hb)
      have n7_ := aM28_ (cB28_ q28x5_ hb)
      have n8_ := aM28_ (kB28_ (g := gb225) (o := .cells #[.slice none 0 0, .slice none 0 0] 34 (0, 0)) q28x12_ hb)
      have n9_ := aM28_ (below_step q28x4_ hb)
      clear HO_4 HO_5 HO217 BK201 BK202 HR214 HR221 BK225 HB
      have HO_4 := n0_
      have HO_5 := n1_
      have HO217 := n2_
      have HO224 := n3_
      have BK201 := n4_
      have BK202 := n5_
      have HR214 := n6_
      have HR221 := n7_
      have BK225 := n8_
      have HB := n9_
      clear n0_ n1_ n2_ n3_ n4_ n5_ n6_ n7_ n8_ n9_
      (try clear hb)
      (try clear hb2)
      (try clear hk)
      (try clear hi)
      (try clear ho0)
      obtain ⟨Ao43, co43, eo43⟩ := Kd.R_slice HO224.out
      (first | subst eo43 | (injection eo43 with f1_ f2_ f3_; have f4_ := f1_.symm; have f5_ := f3_.symm; clear f1_ f2_ f3_; subst f4_; subst f5_))
      obtain ⟨Ao44, co44, eo44⟩ := Kd.R_slice HO217.out
      (first | subst eo44 | (injection eo44 with f1_ f2_ f3_; have f4_ := f1_.symm; have f5_ := f3_.symm; clear f1_ f2_ f3_; subst f4_; subst f5_))
      refine hK.out _ _ trivial (fun hHeld => ?_)
      clear hK K
      refine norm_ (a' := ?_) ?_ ?_
      rotate_left
      ·exact q28x37_
      refine pure_ (i := 8) (N := some 48) (v := ?_) (a' := ?_) #[true, true, true, true, true, true, true, true, true, true, false] rfl rfl (any_of HT_.out (by kernel_rfl)) (fun _ _ _ h => h) (Or.inl ⟨by rfl, ?_⟩) ?_ ?_
      rotate_left
      ·exact q28x33_
      rotate_left
      ·exact q28x34_
      exact norm_ q28x22_ (hCont (.slice Ao44 t215.length co44, .slice Ao43 t222.length co43, gb225) _ ⟨q28x16_, q28x17_, q28x8_, q28x18_, q28x2_, q28x3_, q28x12_, GW225.out, GE225.out, NB201_225.out, NB225_201.out, NB202_225.out, NB225_202.out, q28x4_⟩)
     rintro ⟨v216, v223, gb225⟩ w45 ⟨h0_, h1_, h2_, h3_, h4_, h5_, h6_, h7_, h8_, h9_, h10_, h11_, h12_, h13_⟩
     have n0_ : Aside0 (Kd.R (Kd.int .i8) 69 w45 w.heap.size (fun k_ => some k_ ≠ (v223 : Value).ownBlock ∧ some k_ ≠ (.slice Ao35 x5_2.length co35 : Value).ownBlock) v216 t215) := ⟨h0_⟩
     have n1_ : Aside0 (Kd.R (Kd.int .i8) 69 w45 w.heap.size (fun k_ => some k_ ≠ (v216 : Value).ownBlock ∧ some k_ ≠ (.slice Ao35 x5_2.length co35 : Value).ownBlock) v223 t222) := ⟨h1_⟩
     have n2_ : Aside0 (Kd.R (Kd.int .i64) 2 w45 w.heap.size (fun _ => True) (.slice Ao36 x4_2.length co36) x4_2) := ⟨h2_⟩
     have n3_ : Aside0 (Kd.R (Kd.int .i8) 69 w45 w.heap.size (fun k_ => some k_ ≠ (v216 : Value).ownBlock ∧ some k_ ≠ (v223 : Value).ownBlock) (.slice Ao35 x5_2.length co35) x5_2) := ⟨h3_⟩
     have n4_ : Aside0 (w45.heap[gb201]? = some (.cells #[.int .i64 a0_0, .int .i64 a0_1] 24 (0, 0))) := ⟨h4_⟩
     have n5_ : Aside0 (w45.heap[gb202]? = some (.cells #[.slice none 0 0, .slice none 0 0] 34 (0, 0))) := ⟨h5_⟩
     have n6_ : Aside0 (w45.heap[gb225]? = some (.cells #[.slice none 0 0, .slice none 0 0] 34 (0, 0))) := ⟨h6_⟩
     have n7_ : Aside0 (w.heap.size ≤ gb225) := ⟨h7_⟩
     have n8_ : Aside0 (w.heap.size ≤ gb225) := ⟨h8_⟩
     have n9_ : Aside0 (gb201 ≠ gb225) := ⟨h9_⟩
     have n10_ : Aside0 (gb225 ≠ gb201) := ⟨h10_⟩
     have n11_ : Aside0 (gb202 ≠ gb225) := ⟨h11_⟩
     have n12_ : Aside0 (gb225 ≠ gb202) := ⟨h12_⟩
     have n13_ : Aside0 (Below w.heap.size w w45) := ⟨h13_⟩
     clear HO_4 HO_5 BK201 BK202 HB h0_ h1_ h2_ h3_ h4_ h5_ h6_ h7_ h8_ h9_ h10_ h11_ h12_ h13_
     have HO217 := n0_
     have HO224 := n1_
     have HO_4 := n2_
     have HO_5 := n3_
     have BK201 := n4_
     have BK202 := n5_
     have BK225 := n6_
     have GW225 := n7_
     have GE225 := n8_
     have NB201_225 := n9_
     have NB225_201 := n10_
     have NB202_225 := n11_
     have NB225_202 := n12_
     have HB := n13_
     clear n0_ n1_ n2_ n3_ n4_ n5_ n6_ n7_ n8_ n9_ n10_ n11_ n12_ n13_
     have hHeld := trivial
     obtain ⟨Ao46, co46, eo46⟩ := Kd.R_slice HO224.out
     (first | subst eo46 | (injection eo46 with f1_ f2_ f3_; have f4_ := f1_.symm; have f5_ := f3_.symm; clear f1_ f2_ f3_; subst f4_; subst f5_))
     obtain ⟨Ao47, co47, eo47⟩ := Kd.R_slice HO217.out
     (first | subst eo47 | (injection eo47 with f1_ f2_ f3_; have f4_ := f1_.symm; have f5_ := f3_.symm; clear f1_ f2_ f3_; subst f4_; subst f5_))
     refine norm_ (a' := ?_) ?_ ?_
     rotate_left
     ·simp only [putAll, Act.put, List.setIfInBounds_toArray, List.set_cons_zero, List.set_cons_succ]
      rfl
     refine one_ (i := 10) (N := none) #[true, true, true, true, true, true, true, true, true, true, true] rfl rfl (one_of HT_.out (by kernel_rfl)) (by decide) (fun K hK => ?_)
     have hs48 : w45.cell? ⟨gb225, 0, none⟩ = some (.slice none 0 0) := (kC28_ BK225.out 0).trans rfl
     have hfs48 := blk_frozen BK225.out 0
     have hns48_0 := NB201_225.out
     have hns48_1 := NB202_225.out
     have hms48_0 := NB225_201.out
     have hms48_1 := NB225_202.out
     have hs49 : w45.cell? ⟨gb225, 1, none⟩ = some (.slice none 0 0) := (kC28_ BK225.out 1).trans rfl
     have hfs49 := blk_frozen BK225.out 1
     have hns49_0 := NB201_225.out
     have hns49_1 := NB202_225.out
     have hms49_0 := NB225_201.out
     have hms49_1 := NB225_202.out
     refine skip_ (w1 := ?_) (by rfl) rfl ?_ ?_
     rotate_left
     ·go_simp
      rfl
     refine hK.out _ _ trivial (fun hHeld => ?_)
     clear hK K
     refine done_ (done_of HT_.out (by kernel_rfl)) ?_
     have hnb50 := NB225_201.out
     have hnc50 := NB201_225.out
     have hnb51 := NB225_202.out
     have hnc51 := NB202_225.out
     have hcz52_0 : w45.cell? ⟨gb225, 0, none⟩ = some (.slice none 0 0) := (kC28_ BK225.out 0).trans rfl
     have hcz52_1 : w45.cell? ⟨gb225, 1, none⟩ = some (.slice none 0 0) := (kC28_ BK225.out 1).trans rfl
     have hfz52_0 := blk_frozen BK225.out 0
     have hfz52_1 := blk_frozen BK225.out 1
     try go_wp2_with (first | ((with_reducible refine gate_callee (f := 52) rfl ?_); refine goesL_ (some 50) rfl rfl Try.func52 (by kernel_rfl) rfl #[.agg #[.slice Ao47 t215.length co47, .slice Ao46 t222.length co46]] rfl q28x9_ ?_; (with_reducible refine (impl_ValidStream.calls k2 _ _ t215 _ _ t222 true _ ?side1 ?side2 ?side3 ?side4 A33.out).mono ?_); (case side1 => refine (Kd.R_reads' (e := 69) (base := w.heap.size) (ok := fun k_ => (some k_ ≠ (.slice Ao46 t222.length co46 : Value).ownBlock ∧ some k_ ≠ (.slice Ao35 x5_2.length co35 : Value).ownBlock)) (n := t215.length) (c := co47) ?_).2.2; exact q28x29_); (case side2 => exact (Kd.R_reads' HO217.out).2.1); (case side3 => refine (Kd.R_reads' (e := 69) (base := w.heap.size) (ok := fun k_ => (some k_ ≠ (.slice Ao47 t215.length co47 : Value).ownBlock ∧ some k_ ≠ (.slice Ao35 x5_2.length co35 : Value).ownBlock)) (n := t222.length) (c := co46) ?_).2.2; exact q28x30_); (case side4 => exact (Kd.R_reads' HO224.out).2.1); rintro e w53 ⟨rfl, hb⟩; refine ⟨_, rfl, ?_⟩; have n0_ := aM28_ (rB28_ (by (with_reducible repeat (first | apply Kd.R_alloc | apply Kd.R_drewN | apply rD28_)); exact (Kd.R_mono (Kd.R_far (p := ⟨gb225, 1, none⟩) (Kd.R_far (p := ⟨gb225, 0, none⟩) (Kd.R_types HO_4.out BK225.out (by decide)) (fun _ hk => hk.2) (.slice Ao47 t215.length co47)) (fun _ hk => hk.2) (.slice Ao46 t222.length co46)) (fun _ h_ => h_.1))) hb); have n1_ := aM28_ (rB28_ (by (with_reducible repeat (first | apply Kd.R_alloc | apply Kd.R_drewN | apply rD28_)); exact (Kd.R_mono (Kd.R_far (p := ⟨gb225, 1, none⟩) (Kd.R_far (p := ⟨gb225, 0, none⟩) (Kd.R_types HO_5.out BK225.out (by decide)) (fun _ hk => hk.2) (.slice Ao47 t215.length co47)) (fun _ hk => hk.2) (.slice Ao46 t222.length co46)) (fun _ h_ => h_.1))) hb); have n2_ := aM28_ (rB28_ q28x29_ hb); have n3_ := aM28_ (rB28_ q28x30_ hb); have n4_ := aM28_ (kB28_ (g := gb201) (o := .cells #[.int .i64 a0_0, .int .i64 a0_1] 24 (0, 0)) q28x25_ hb); have n5_ := aM28_ (kB28_ (g := gb202) (o := .cells #[.slice none 0 0, .slice none 0 0] 34 (0, 0)) q28x26_ hb); have n6_ := aM28_ (kB28_ (g := gb225) (o := .cells #[.slice Ao47 t215.length co47, .slice Ao46 t222.length co46] 34 (0, 0)) (by (with_reducible repeat (first | refine kN28_ ?_ _ | refine kD28_ ?_ | refine kA28_ ?_ _)); refine blk_put (cs := #[.slice Ao47 t215.length co47, .slice none 0 0]) ?_ 1 _ rfl; (with_reducible repeat (first | refine kN28_ ?_ _ | refine kD28_ ?_ | refine kA28_ ?_ _)); refine blk_put (cs := #[.slice none 0 0, .slice none 0 0]) ?_ 0 _ rfl; (with_reducible repeat (first | refine kN28_ ?_ _ | refine kD28_ ?_ | refine kA28_ ?_ _)); exact BK225.out) hb); have n7_ := aM28_ (below_step q28x4_ hb); clear HO_4; clear HO_5; clear HO217; clear HO224; clear BK201; clear BK202; clear BK225; clear HB; have HO_4 := n0_; have HO_5 := n1_; have HO217 := n2_; have HO224 := n3_; have BK201 := n4_; have BK202 := n5_; have BK225 := n6_; have HB := n7_; clear n0_ n1_ n2_ n3_ n4_ n5_ n6_ n7_; (try clear hb); (try clear hb2); (try clear hk); (try clear hi); have hcz54_0 : w53.cell? ⟨gb225, 0, none⟩ = some (.slice Ao47 t215.length co47) := (kC28_ BK225.out 0).trans rfl; have hcz54_1 : w53.cell? ⟨gb225, 1, none⟩ = some (.slice Ao46 t222.length co46) := (kC28_ BK225.out 1).trans rfl; have hfz54_0 := blk_frozen BK225.out 0; have hfz54_1 := blk_frozen BK225.out 1; have hnb55 := NB202_201.out; have hnc55 := NB201_202.out; have hcz56_0 : w53.cell? ⟨gb202, 0, none⟩ = some (.slice none 0 0) := (kC28_ BK202.out 0).trans rfl; have hcz56_1 : w53.cell? ⟨gb202, 1, none⟩ = some (.slice none 0 0) := (kC28_ BK202.out 1).trans rfl; have hfz56_0 := blk_frozen BK202.out 0; have hfz56_1 := blk_frozen BK202.out 1))
     refine bodyPost_ret (results_ct rfl _ _ gb202 34 #[.slice Ao47 t215.length co47, .slice Ao46 t222.length co46] (0, 0) _ rfl (by (with_reducible repeat (first | refine kN28_ ?_ _ | refine kD28_ ?_ | refine kA28_ ?_ _)); refine blk_put (cs := #[.slice Ao47 t215.length co47, .slice none 0 0]) ?_ 1 _ rfl; (with_reducible repeat (first | refine kN28_ ?_ _ | refine kD28_ ?_ | refine kA28_ ?_ _)); refine blk_put (cs := #[.slice none 0 0, .slice none 0 0]) ?_ 0 _ rfl; (with_reducible repeat (first | refine kN28_ ?_ _ | refine kD28_ ?_ | refine kA28_ ?_ _)); exact BK202.out) Try.underlying34 rfl (by kernel_rfl)) rfl ?_
     exact ⟨_, _, by first | rfl | (simp [errW_none, errW_some] <;> rfl) | (simp [*, errW_none, errW_some] <;> rfl), by (with_reducible repeat (first | apply Kd.R_alloc | apply Kd.R_drewN | apply rD28_)); exact Kd.R_mono (Kd.R_far (p := ⟨gb202, 1, none⟩) (Kd.R_far (p := ⟨gb202, 0, none⟩) (Kd.R_types HO217.out BK202.out (by decide)) (fun _ hk => hk.2) (.slice Ao47 t215.length co47)) (fun _ hk => hk.2) (.slice Ao46 t222.length co46)) (fun _ hk => hk.1.1), by (with_reducible repeat (first | apply Kd.R_alloc | apply Kd.R_drewN | apply rD28_)); exact Kd.R_mono (Kd.R_far (p := ⟨gb202, 1, none⟩) (Kd.R_far (p := ⟨gb202, 0, none⟩) (Kd.R_types HO224.out BK202.out (by decide)) (fun _ hk => hk.2) (.slice Ao47 t215.length co47)) (fun _ hk => hk.2) (.slice Ao46 t222.length co46)) (fun _ hk => hk.1.1), by repeat (first | (with_reducible first | exact HB.out | apply below_alloc | apply pw_below_drewN | apply below_drew1 | refine below_set ?_ GE201.out | refine below_set ?_ GE202.out | refine below_set ?_ GE225.out) | exact HB.out)⟩
end Go.Proofs.Ytfenifdigjcmiaa.MFnExactStreamOf
