/- Functions of the program as Lean functions, and the proof that the code comes to what they say. Written by a program of this session (myprint.py). -/
import Derived.Test.YtbomadebdekjjaaMFnRootsx0
import Derived.Test.YtbomadebdekjjaaMFnRootsx2
import Derived.Test.YtbomadebdekjjaaMFnRootsx5
import Derived.Test.YtbomadebdekjjaaMFnRootsx6
import Derived.Test.YtbomadebdekjjaaMFnRootsx7
import Derived.Test.YtbomadebdekjjaaMFnRootsx8
namespace Go.Proofs.Ytbomadebdekjjaa.MFnRoots
open Go.RowKit Go.Proofs.Ytbomadebdekjjaa.MOpen Go.Proofs.YtbomadebdekjjaaW.PrintWords Go.Proofs.YtbomadebdekjjaaW.PrintLast Go.Proofs.YtbomadebdekjjaaW.PrintMore
attribute [local go_sem] max2_int min2_int max_two min_two max_three min_three max_four min_four   -- for this text's walks alone
set_option linter.unusedVariables false
set_option linter.unusedSimpArgs false
theorem kW_ {w w' : World} (g : Nat) (s : S24) (h : w.heap[g]? = some (.cells #[.bool s.f0, .int .u32 s.f1.f0, .int .u32 s.f1.f1, .int .u32 s.f1.f2, .int .u32 s.f1.f3, .int .u32 s.f1.f4, .int .u32 s.f1.f5] 25 (0, 0))) (hb : Below w.heap.size w w') : Aside0 (w'.heap[g]? = some (.cells #[.bool s.f0, .int .u32 s.f1.f0, .int .u32 s.f1.f1, .int .u32 s.f1.f2, .int .u32 s.f1.f3, .int .u32 s.f1.f4, .int .u32 s.f1.f5] 25 (0, 0))) := ⟨blk_below h hb⟩
theorem kZ_ {w w' : World} (g : Nat) (h : w.heap[g]? = some (.cells #[.bool false, .int .u32 0, .int .u32 0, .int .u32 0, .int .u32 0, .int .u32 0, .int .u32 0] 25 (0, 0))) (hb : Below w.heap.size w w') : Aside0 (w'.heap[g]? = some (.cells #[.bool false, .int .u32 0, .int .u32 0, .int .u32 0, .int .u32 0, .int .u32 0, .int .u32 0] 25 (0, 0))) := ⟨blk_below h hb⟩
theorem lW_ {w : World} (g : Nat) (s : S24) (h : w.heap[g]? = some (.cells #[.bool s.f0, .int .u32 s.f1.f0, .int .u32 s.f1.f1, .int .u32 s.f1.f2, .int .u32 s.f1.f3, .int .u32 s.f1.f4, .int .u32 s.f1.f5] 25 (0, 0))) : g < w.heap.size := blk_lt h
theorem lZ_ {w : World} (g : Nat) (h : w.heap[g]? = some (.cells #[.bool false, .int .u32 0, .int .u32 0, .int .u32 0, .int .u32 0, .int .u32 0, .int .u32 0] 25 (0, 0))) : g < w.heap.size := blk_lt h
abbrev pS_ (w : World) (g : Nat) (s : S24) : World := World.setCell (World.setCell (World.setCell (World.setCell (World.setCell (World.setCell (World.setCell w ⟨g, 0, none⟩ (.bool s.f0)) ⟨g, 1, none⟩ (.int .u32 s.f1.f0)) ⟨g, 2, none⟩ (.int .u32 s.f1.f1)) ⟨g, 3, none⟩ (.int .u32 s.f1.f2)) ⟨g, 4, none⟩ (.int .u32 s.f1.f3)) ⟨g, 5, none⟩ (.int .u32 s.f1.f4)) ⟨g, 6, none⟩ (.int .u32 s.f1.f5)
abbrev bW_ (w : World) (g : Nat) (s : S24) : Prop := Aside0 (w.heap[g]? = some (.cells #[.bool s.f0, .int .u32 s.f1.f0, .int .u32 s.f1.f1, .int .u32 s.f1.f2, .int .u32 s.f1.f3, .int .u32 s.f1.f4, .int .u32 s.f1.f5] 25 (0, 0)))
abbrev bZ_ (w : World) (g : Nat) : Prop := Aside0 (w.heap[g]? = some (.cells #[.bool false, .int .u32 0, .int .u32 0, .int .u32 0, .int .u32 0, .int .u32 0, .int .u32 0] 25 (0, 0)))

attribute [local go_sem high] eqA25
set_option linter.defProp false
def kA10_ := @blk_alloc
def kN10_ := @blk_drewN
def kD10_ := @blk_drew
def bS10_ := @below_set
def aM10_ := @Aside0.mk
def bA10_ := @below_alloc
def bN10_ := @pw_below_drewN
def bD10_ := @below_drew1
def kB10_ := @blk_below
def bT10_ := @below_step
def kC10_ := @blk_cell
theorem q10x1_ {P : Prop} (h : P := by repeat (first | (with_reducible first | exact HB.out | apply bA10_ | apply bN10_ | apply bD10_ | refine bS10_ ?_ GE346.out | refine bS10_ ?_ GE347.out | refine bS10_ ?_ GE351.out | refine bS10_ ?_ GE352.out | refine bS10_ ?_ GE355.out | refine bS10_ ?_ GE358.out) | exact HB.out)) : P := h
theorem q10x2_ {P : Prop} (h : P := by repeat (first | (with_reducible first | exact HB.out | apply bA10_ | apply bN10_ | apply bD10_ | refine bS10_ ?_ GE346.out | refine bS10_ ?_ GE347.out | refine bS10_ ?_ GE351.out | refine bS10_ ?_ GE352.out | refine bS10_ ?_ GE355.out | refine bS10_ ?_ GE358.out | refine bS10_ ?_ GE362.out) | exact HB.out)) : P := h
theorem q10x3_ {P : Prop} (h : P := by (with_reducible repeat (first | refine kN10_ ?_ _ | refine kD10_ ?_ | refine kA10_ ?_ _)); exact BK346.out) : P := h
theorem q10x4_ {P : Prop} (h : P := by (with_reducible repeat (first | refine kN10_ ?_ _ | refine kD10_ ?_ | refine kA10_ ?_ _)); exact BK347.out) : P := h
theorem q10x5_ {P : Prop} (h : P := by (with_reducible repeat (first | refine kN10_ ?_ _ | refine kD10_ ?_ | refine kA10_ ?_ _)); exact BK351.out) : P := h
theorem q10x6_ {P : Prop} (h : P := by (with_reducible repeat (first | refine kN10_ ?_ _ | refine kD10_ ?_ | refine kA10_ ?_ _)); exact BK352.out) : P := h
theorem q10x7_ {P : Prop} (h : P := by (try simp only [List.map_toArray, List.map_cons, List.map_nil]); first | done | rfl | (simp only [List.length_drop, List.length_take]; rfl) | (simp only [List.drop_one]; done) | (simp only [List.drop_one]; rfl)) : P := h
theorem q10x8_ {P : Prop} (h : P := by (with_reducible repeat (first | refine kN10_ ?_ _ | refine kD10_ ?_ | refine kA10_ ?_ _)); exact BK355.out) : P := h
theorem q10x9_ {P : Prop} (h : P := by (with_reducible repeat (first | refine kN10_ ?_ _ | refine kD10_ ?_ | refine kA10_ ?_ _)); exact BK358.out) : P := h
theorem q10x10_ {P : Prop} (h : P := by rw [hg]; exact Nat.ne_of_lt (lW_ gb346 t343 q10x3_)) : P := h
theorem q10x11_ {P : Prop} (h : P := by rw [hg]; exact Nat.ne_of_gt (lW_ gb346 t343 q10x3_)) : P := h
theorem q10x12_ {P : Prop} (h : P := by rw [hg]; exact Nat.ne_of_lt (lW_ gb347 t344 q10x4_)) : P := h
theorem q10x13_ {P : Prop} (h : P := by rw [hg]; exact Nat.ne_of_gt (lW_ gb347 t344 q10x4_)) : P := h
theorem q10x14_ {P : Prop} (h : P := by (with_reducible repeat (first | refine kN10_ ?_ _ | refine kD10_ ?_ | refine kA10_ ?_ _)); exact BK362.out) : P := h
theorem q10x15_ {P : Prop} (h : P := by rw [hg]; exact Nat.ne_of_lt (lW_ gb351 t348 q10x5_)) : P := h
theorem q10x16_ {P : Prop} (h : P := by rw [hg]; exact Nat.ne_of_gt (lW_ gb351 t348 q10x5_)) : P := h
theorem q10x17_ {P : Prop} (h : P := by rw [hg]; exact Nat.ne_of_lt (lW_ gb352 t349 q10x6_)) : P := h
theorem q10x18_ {P : Prop} (h : P := by rw [hg]; exact Nat.ne_of_gt (lW_ gb352 t349 q10x6_)) : P := h
theorem q10x19_ {P : Prop} (h : P := by repeat (first | (with_reducible first | exact HB.out | apply bA10_ | apply bN10_ | apply bD10_) | exact HB.out)) : P := h
theorem q10x20_ {P : Prop} (h : P := by rw [hg]; exact Nat.ne_of_lt (lW_ gb355 t353 q10x8_)) : P := h
theorem q10x21_ {P : Prop} (h : P := by rw [hg]; exact Nat.ne_of_gt (lW_ gb355 t353 q10x8_)) : P := h
theorem q10x22_ {P : Prop} (h : P := by rw [hg]; exact Nat.ne_of_lt (lW_ gb358 t356 q10x9_)) : P := h
theorem q10x23_ {P : Prop} (h : P := by rw [hg]; exact Nat.ne_of_gt (lW_ gb358 t356 q10x9_)) : P := h
theorem q10x24_ {P : Prop} (h : P := by repeat (first | (with_reducible first | exact HB.out | apply bA10_ | apply bN10_ | apply bD10_ | refine bS10_ ?_ GE331.out | refine bS10_ ?_ GE332.out) | exact HB.out)) : P := h
theorem q10x25_ {P : Prop} (h : P := by rw [hw]; exact (by (with_reducible repeat (first | apply Kd.R_alloc | apply Kd.R_drewN | apply Kd.R_drew)); exact Kd.R_mono (Kd.R_far (p := ⟨gb331, 6, none⟩) (Kd.R_far (p := ⟨gb331, 5, none⟩) (Kd.R_far (p := ⟨gb331, 4, none⟩) (Kd.R_far (p := ⟨gb331, 3, none⟩) (Kd.R_far (p := ⟨gb331, 2, none⟩) (Kd.R_far (p := ⟨gb331, 1, none⟩) (Kd.R_far (p := ⟨gb331, 0, none⟩) (Kd.R_types HO_8.out BK331.out (by decide)) (fun _ hk => hk.2) (.bool t328.f0)) (fun _ hk => hk.2) (.int .u32 t328.f1.f0)) (fun _ hk => hk.2) (.int .u32 t328.f1.f1)) (fun _ hk => hk.2) (.int .u32 t328.f1.f2)) (fun _ hk => hk.2) (.int .u32 t328.f1.f3)) (fun _ hk => hk.2) (.int .u32 t328.f1.f4)) (fun _ hk => hk.2) (.int .u32 t328.f1.f5)) (fun _ hk => trivial))) : P := h
theorem q10x26_ {P : Prop} (h : P := by rw [hw]; exact (by (with_reducible repeat (first | apply Kd.R_alloc | apply Kd.R_drewN | apply Kd.R_drew)); exact Kd.R_mono (Kd.R_far (p := ⟨gb332, 6, none⟩) (Kd.R_far (p := ⟨gb332, 5, none⟩) (Kd.R_far (p := ⟨gb332, 4, none⟩) (Kd.R_far (p := ⟨gb332, 3, none⟩) (Kd.R_far (p := ⟨gb332, 2, none⟩) (Kd.R_far (p := ⟨gb332, 1, none⟩) (Kd.R_far (p := ⟨gb332, 0, none⟩) (Kd.R_types HO_8.out BK332.out (by decide)) (fun _ hk => hk.2) (.bool t329.f0)) (fun _ hk => hk.2) (.int .u32 t329.f1.f0)) (fun _ hk => hk.2) (.int .u32 t329.f1.f1)) (fun _ hk => hk.2) (.int .u32 t329.f1.f2)) (fun _ hk => hk.2) (.int .u32 t329.f1.f3)) (fun _ hk => hk.2) (.int .u32 t329.f1.f4)) (fun _ hk => hk.2) (.int .u32 t329.f1.f5)) (fun _ hk => trivial))) : P := h
theorem q10x27_ {P : Prop} (h : P := by (with_reducible repeat (first | apply Kd.R_alloc | apply Kd.R_drewN | apply Kd.R_drew)); exact HO_8.out) : P := h
theorem q10x28_ {P : Prop} (h : P := by repeat (first | (with_reducible first | exact HB.out | apply bA10_ | apply bN10_ | apply bD10_ | refine bS10_ ?_ GE331.out) | exact HB.out)) : P := h
theorem q10x29_ {P : Prop} (h : P := by repeat (first | (with_reducible first | exact HB.out | apply bA10_ | apply bN10_ | apply bD10_ | refine bS10_ ?_ GE346.out | refine bS10_ ?_ GE347.out | refine bS10_ ?_ GE351.out | refine bS10_ ?_ GE352.out) | exact HB.out)) : P := h
theorem q10x30_ {P : Prop} (h : P := by (with_reducible repeat (first | refine kN10_ ?_ _ | refine kD10_ ?_ | refine kA10_ ?_ _)); exact BK331.out) : P := h
theorem q10x31_ {P : Prop} (h : P := by repeat (first | (with_reducible first | exact HB.out | apply bA10_ | apply bN10_ | apply bD10_ | refine bS10_ ?_ GE346.out | refine bS10_ ?_ GE347.out | refine bS10_ ?_ GE351.out | refine bS10_ ?_ GE352.out | refine bS10_ ?_ GE355.out) | exact HB.out)) : P := h
theorem q10x32_ {P : Prop} (h : P := by repeat (first | (with_reducible first | exact HB.out | apply bA10_ | apply bN10_ | apply bD10_ | refine bS10_ ?_ GE346.out | refine bS10_ ?_ GE347.out) | exact HB.out)) : P := h
theorem q10x33_ {P : Prop} (h : P := by repeat (first | (with_reducible first | exact HB.out | apply bA10_ | apply bN10_ | apply bD10_ | refine bS10_ ?_ GE346.out | refine bS10_ ?_ GE347.out | refine bS10_ ?_ GE351.out | refine bS10_ ?_ GE352.out | refine bS10_ ?_ GE355.out | refine bS10_ ?_ GE358.out | refine bS10_ ?_ GE362.out | refine bS10_ ?_ GE365.out) | exact HB.out)) : P := h
theorem q10x34_ {P : Prop} (h : P := by simp only [putAll, Act.put, List.setIfInBounds_toArray, List.set_cons_zero, List.set_cons_succ]) : P := h
theorem q10x35_ {P : Prop} (h : P := by first | rfl | (simp; done) | (simp [*]; done)) : P := h
theorem q10x36_ {P : Prop} (h : P := by rw [hw]; exact (by (with_reducible repeat (first | refine kN10_ ?_ _ | refine kD10_ ?_ | refine kA10_ ?_ _)); refine puts7_ (.bool false) (.int .u32 0) (.int .u32 0) (.int .u32 0) (.int .u32 0) (.int .u32 0) (.int .u32 0) ?_; (with_reducible repeat (first | refine kN10_ ?_ _ | refine kD10_ ?_ | refine kA10_ ?_ _)); exact BK331.out)) : P := h
theorem q10x37_ {P : Prop} (h : P := by rw [hw]; exact (by (with_reducible repeat (first | refine kN10_ ?_ _ | refine kD10_ ?_ | refine kA10_ ?_ _)); refine puts7_ (.bool false) (.int .u32 0) (.int .u32 0) (.int .u32 0) (.int .u32 0) (.int .u32 0) (.int .u32 0) ?_; (with_reducible repeat (first | refine kN10_ ?_ _ | refine kD10_ ?_ | refine kA10_ ?_ _)); exact BK332.out)) : P := h
theorem q10x38_ {P : Prop} (h : P := by rw [hg]; exact (below_size q10x1_)) : P := h
theorem q10x39_ {P : Prop} (h : P := by rw [hw]; exact (by (with_reducible repeat (first | refine kN10_ ?_ _ | refine kD10_ ?_ | refine kA10_ ?_ _ | refine blk_far ?_ NB332_331.out _)); (with_reducible repeat (first | refine kN10_ ?_ _ | refine kD10_ ?_ | refine kA10_ ?_ _)); exact BK332.out)) : P := h
theorem q10x40_ {P : Prop} (h : P := by rw [hw]; exact (by (with_reducible repeat (first | refine kN10_ ?_ _ | refine kD10_ ?_ | refine kA10_ ?_ _ | refine blk_far ?_ NB331_332.out _)); (with_reducible repeat (first | refine kN10_ ?_ _ | refine kD10_ ?_ | refine kA10_ ?_ _)); exact BK331.out)) : P := h
theorem q10x41_ {P : Prop} (h : P := by first | (with_reducible assumption) | assumption) : P := h
theorem q10x42_ {P : Prop} (h : P := by repeat (first | (with_reducible first | exact HB.out | apply bA10_ | apply bN10_ | apply bD10_ | refine bS10_ ?_ GE346.out | refine bS10_ ?_ GE347.out | refine bS10_ ?_ GE351.out) | exact HB.out)) : P := h
theorem q10x43_ {P : Prop} (h : P := by rw [hw]; exact (by (with_reducible repeat (first | refine kN10_ ?_ _ | refine kD10_ ?_ | refine kA10_ ?_ _)); refine puts7_ (.bool false) (.int .u32 0) (.int .u32 0) (.int .u32 0) (.int .u32 0) (.int .u32 0) (.int .u32 0) ?_; (with_reducible repeat (first | refine kN10_ ?_ _ | refine kD10_ ?_ | refine kA10_ ?_ _)); exact BK365.out)) : P := h
theorem q10x44_ {P : Prop} (h : P := by rw [hg]; exact Nat.ne_of_lt (lZ_ gb331 q10x30_)) : P := h
theorem q10x45_ {P : Prop} (h : P := by rw [hg]; exact Nat.ne_of_gt (lZ_ gb331 q10x30_)) : P := h
theorem q10x46_ {P : Prop} (h : P := by (with_reducible repeat (first | refine kN10_ ?_ _ | refine kD10_ ?_ | refine kA10_ ?_ _)); refine puts7_ (.bool false) (.int .u32 0) (.int .u32 0) (.int .u32 0) (.int .u32 0) (.int .u32 0) (.int .u32 0) ?_; (with_reducible repeat (first | refine kN10_ ?_ _ | refine kD10_ ?_ | refine kA10_ ?_ _)); exact BK362.out) : P := h
theorem q10x47_ {P : Prop} (h : P := by repeat (first | (with_reducible first | exact HB.out | apply bA10_ | apply bN10_ | apply bD10_ | refine bS10_ ?_ GE346.out) | exact HB.out)) : P := h
theorem q10x48_ {P : Prop} (h : P := by rw [hw]; exact (by (with_reducible repeat (first | refine kN10_ ?_ _ | refine kD10_ ?_ | refine kA10_ ?_ _ | refine blk_far ?_ NB346_365.out _)); (with_reducible repeat (first | refine kN10_ ?_ _ | refine kD10_ ?_ | refine kA10_ ?_ _)); exact BK346.out)) : P := h
theorem q10x49_ {P : Prop} (h : P := by rw [hw]; exact (by (with_reducible repeat (first | refine kN10_ ?_ _ | refine kD10_ ?_ | refine kA10_ ?_ _ | refine blk_far ?_ NB347_365.out _)); (with_reducible repeat (first | refine kN10_ ?_ _ | refine kD10_ ?_ | refine kA10_ ?_ _)); exact BK347.out)) : P := h
theorem q10x50_ {P : Prop} (h : P := by rw [hw]; exact (by (with_reducible repeat (first | refine kN10_ ?_ _ | refine kD10_ ?_ | refine kA10_ ?_ _ | refine blk_far ?_ NB351_365.out _)); (with_reducible repeat (first | refine kN10_ ?_ _ | refine kD10_ ?_ | refine kA10_ ?_ _)); exact BK351.out)) : P := h
theorem q10x51_ {P : Prop} (h : P := by rw [hw]; exact (by (with_reducible repeat (first | refine kN10_ ?_ _ | refine kD10_ ?_ | refine kA10_ ?_ _ | refine blk_far ?_ NB352_365.out _)); (with_reducible repeat (first | refine kN10_ ?_ _ | refine kD10_ ?_ | refine kA10_ ?_ _)); exact BK352.out)) : P := h
theorem q10x52_ {P : Prop} (h : P := by rw [hw]; exact (by (with_reducible repeat (first | refine kN10_ ?_ _ | refine kD10_ ?_ | refine kA10_ ?_ _ | refine blk_far ?_ NB355_365.out _)); (with_reducible repeat (first | refine kN10_ ?_ _ | refine kD10_ ?_ | refine kA10_ ?_ _)); exact BK355.out)) : P := h
theorem q10x53_ {P : Prop} (h : P := by rw [hw]; exact (by (with_reducible repeat (first | refine kN10_ ?_ _ | refine kD10_ ?_ | refine kA10_ ?_ _ | refine blk_far ?_ NB358_365.out _)); (with_reducible repeat (first | refine kN10_ ?_ _ | refine kD10_ ?_ | refine kA10_ ?_ _)); exact BK358.out)) : P := h
theorem q10x54_ {P : Prop} (h : P := by rw [hw]; exact (by (with_reducible repeat (first | refine kN10_ ?_ _ | refine kD10_ ?_ | refine kA10_ ?_ _ | refine blk_far ?_ NB362_365.out _)); (with_reducible repeat (first | refine kN10_ ?_ _ | refine kD10_ ?_ | refine kA10_ ?_ _)); exact BK362.out)) : P := h
theorem q10x55_ {P : Prop} (h : P := by rw [hg]; exact (below_size q10x19_)) : P := h
theorem q10x56_ {P : Prop} (h : P := by (with_reducible repeat (first | refine kN10_ ?_ _ | refine kD10_ ?_ | refine kA10_ ?_ _ | refine blk_far ?_ NB346_362.out _)); (with_reducible repeat (first | refine kN10_ ?_ _ | refine kD10_ ?_ | refine kA10_ ?_ _)); exact BK346.out) : P := h
theorem q10x57_ {P : Prop} (h : P := by (with_reducible repeat (first | refine kN10_ ?_ _ | refine kD10_ ?_ | refine kA10_ ?_ _ | refine blk_far ?_ NB347_362.out _)); (with_reducible repeat (first | refine kN10_ ?_ _ | refine kD10_ ?_ | refine kA10_ ?_ _)); exact BK347.out) : P := h
theorem q10x58_ {P : Prop} (h : P := by (with_reducible repeat (first | refine kN10_ ?_ _ | refine kD10_ ?_ | refine kA10_ ?_ _ | refine blk_far ?_ NB351_362.out _)); (with_reducible repeat (first | refine kN10_ ?_ _ | refine kD10_ ?_ | refine kA10_ ?_ _)); exact BK351.out) : P := h
theorem q10x59_ {P : Prop} (h : P := by (with_reducible repeat (first | refine kN10_ ?_ _ | refine kD10_ ?_ | refine kA10_ ?_ _ | refine blk_far ?_ NB352_362.out _)); (with_reducible repeat (first | refine kN10_ ?_ _ | refine kD10_ ?_ | refine kA10_ ?_ _)); exact BK352.out) : P := h
theorem q10x60_ {P : Prop} (h : P := by (with_reducible repeat (first | refine kN10_ ?_ _ | refine kD10_ ?_ | refine kA10_ ?_ _ | refine blk_far ?_ NB355_362.out _)); (with_reducible repeat (first | refine kN10_ ?_ _ | refine kD10_ ?_ | refine kA10_ ?_ _)); exact BK355.out) : P := h
theorem q10x61_ {P : Prop} (h : P := by (with_reducible repeat (first | refine kN10_ ?_ _ | refine kD10_ ?_ | refine kA10_ ?_ _ | refine blk_far ?_ NB358_362.out _)); (with_reducible repeat (first | refine kN10_ ?_ _ | refine kD10_ ?_ | refine kA10_ ?_ _)); exact BK358.out) : P := h
theorem q10x62_ {P : Prop} (h : P := by (with_reducible repeat (first | refine kN10_ ?_ _ | refine kD10_ ?_ | refine kA10_ ?_ _)); exact BK332.out) : P := h
theorem q10x63_ {P : Prop} (h : P := by rw [hg]; exact Nat.ne_of_lt (lW_ gb362 t360 q10x14_)) : P := h
theorem q10x64_ {P : Prop} (h : P := by rw [hg]; exact Nat.ne_of_gt (lW_ gb362 t360 q10x14_)) : P := h
theorem q10x65_ {P : Prop} (h : P := by rw [hg]; exact (below_size q10x28_)) : P := h
theorem q10x66_ {P : Prop} (h : P := by intro w'; go_simp; with_reducible rfl) : P := h
theorem q10x67_ {P : Prop} (h : P := by simp only [Act.put, List.setIfInBounds_toArray, List.set_cons_zero, List.set_cons_succ, i64_w, i32_w]; rfl) : P := h
theorem q10x68_ {P : Prop} (h : P := by rintro w' ⟨s0, s1, s2, s3, s4, s5, s6⟩; go_simp; with_reducible rfl) : P := h
theorem q10x69_ {P : Prop} (h : P := by show Act.put _ (some 32) _ = _; simp only [Act.put, List.setIfInBounds_toArray, List.set_cons_zero, List.set_cons_succ, i64_w, i32_w]; rfl) : P := h
theorem q10x70_ {P : Prop} (h : P := by show Act.put _ (some 230) _ = _; simp only [Act.put, List.setIfInBounds_toArray, List.set_cons_zero, List.set_cons_succ, i64_w, i32_w]; rfl) : P := h
theorem q10x71_ {P : Prop} (h : P := by show Act.put _ (some 232) _ = _; simp only [Act.put, List.setIfInBounds_toArray, List.set_cons_zero, List.set_cons_succ, i64_w, i32_w]; rfl) : P := h
theorem q10x72_ {P : Prop} (h : P := by simp only [putAll, Act.put, List.setIfInBounds_toArray, List.set_cons_zero, List.set_cons_succ]; rfl) : P := h
/-! ### laws_FnRoots: function 10 -/
mutual
def laws_FnRoots.j0 : Nat → List Int → Int → Int → List Int → Bool → Option (Bool)
 | 0, _, _, _, _, _ => none
 | k + 1, x0, x3, x7, x8, x90 => if x90 = true then (some false) else (if (x8.length : Int) = 0 then ((impl_UnitOf.f k x3).bind fun bt328 => ((impl_RootTermAt.f k x3 1).bind fun bt333 => (if (wrap64 (x7 * x7)) = x3 then (if bt328.2.2 = 4 then (some (bt333.2 == 6)) else (some false)) else (some false)))) else (if 0 ≤ (wrap64 ((x8.length : Int) - 1)) then (if (wrap64 ((x8.length : Int) - 1)) < (x8.length : Int) then (if (rd x8 (wrap64 ((x8.length : Int) - 1))) = (wrap64 (2 * x7)) then (laws_FnRoots.l0 k x0 x3 x8 (x8.length : Int) 0) else (some false)) else (none)) else (none)))
def laws_FnRoots.l0 : Nat → List Int → Int → List Int → Int → Int → Option (Bool)
 | 0, _, _, _, _, _ => none
 | k + 1, x0, x3, x8, x10, x16 => if (wrap64 (x16 + 1)) < x10 then (if 0 ≤ x16 then (if x16 < (x8.length : Int) then (if 0 ≤ (wrap64 ((wrap64 (x10 - 2)) - x16)) then (if (wrap64 ((wrap64 (x10 - 2)) - x16)) < (x8.length : Int) then (if (rd x8 x16) = (rd x8 (wrap64 ((wrap64 (x10 - 2)) - x16))) then (laws_FnRoots.l0 k x0 x3 x8 x10 (wrap64 (x16 + 1))) else (some false)) else (none)) else (none)) else (none)) else (none)) else ((laws_a2At.f x0 2 200).bind fun t338 => ((impl_RootTermAt.f k x3 t338).bind fun bt339 => ((spec_RootTermAt.f k x3 t338).bind fun bt341 => (if bt339.2 = bt341.2 then (if bt339.2 = 0 then (laws_FnRoots.j2 k x3 (bt339.1 != bt341.1)) else (laws_FnRoots.j2 k x3 true)) else (laws_FnRoots.j2 k x3 true)))))
def laws_FnRoots.j2 : Nat → Int → Bool → Option (Bool)
 | 0, _, _ => none
 | k + 1, x3, x170 => if x170 = true then (some false) else ((impl_UnitOf.f k x3).bind fun bt343 => ((spec_UnitOf.f k x3).bind fun bt348 => (if bt343.2.2 = bt348.2.2 then (if bt343.2.2 = 0 then (if (!(bt343.1.f0 == bt348.1.f0) || ((!(bt343.1.f1.f0 == bt348.1.f1.f0) || (!(bt343.1.f1.f1 == bt348.1.f1.f1) || (!(bt343.1.f1.f2 == bt348.1.f1.f2) || (!(bt343.1.f1.f3 == bt348.1.f1.f3) || (!(bt343.1.f1.f4 == bt348.1.f1.f4) || (!(bt343.1.f1.f5 == bt348.1.f1.f5))))))))) = true then (laws_FnRoots.j3 k x3 bt343.2.2 true bt348.1 bt348.2.1) else (laws_FnRoots.j3 k x3 bt343.2.2 (!(bt343.2.1.f0 == bt348.2.1.f0) || ((!(bt343.2.1.f1.f0 == bt348.2.1.f1.f0) || (!(bt343.2.1.f1.f1 == bt348.2.1.f1.f1) || (!(bt343.2.1.f1.f2 == bt348.2.1.f1.f2) || (!(bt343.2.1.f1.f3 == bt348.2.1.f1.f3) || (!(bt343.2.1.f1.f4 == bt348.2.1.f1.f4) || (!(bt343.2.1.f1.f5 == bt348.2.1.f1.f5))))))))) bt348.1 bt348.2.1)) else (laws_FnRoots.j3 k x3 bt343.2.2 false bt348.1 bt348.2.1)) else (laws_FnRoots.j3 k x3 bt343.2.2 true bt348.1 bt348.2.1))))
def laws_FnRoots.j3 : Nat → Int → Int → Bool → S24 → S24 → Option (Bool)
 | 0, _, _, _, _, _ => none
 | k + 1, x3, x24, x199, x352000, x353000 => if x199 = true then (some false) else (if x24 = 0 then ((spec_MulWides.f k x352000 x352000).bind fun bt353 => ((spec_MulWides.f k x353000 x353000).bind fun bt356 => (if bt353.2 = 0 then (laws_FnRoots.j4 k x3 bt353.2 bt356.2 (bt356.2 != 0) bt353.1 bt356.1) else (laws_FnRoots.j4 k x3 bt353.2 bt356.2 true bt353.1 bt356.1)))) else (some (x24 == 3)))
def laws_FnRoots.j4 : Nat → Int → Int → Int → Bool → S24 → S24 → Option (Bool)
 | 0, _, _, _, _, _, _ => none
 | k + 1, x3, x29, x31, x221, x356000, x359000 => if x221 = true then (if x29 = 3 then (some true) else (some (x31 == 3))) else ((spec_WideOf.f x3).bind fun t359 => ((spec_MulWides.f k t359 x359000).bind fun bt360 => (if bt360.2 = 0 then ((spec_SubWides.f k x356000 bt360.1).bind fun bt363 => (if bt363.2 = 0 then ((spec_WideOf.f 1).bind fun t366 => (some (bt363.1.f0 == t366.f0 && ((bt363.1.f1.f0 == t366.f1.f0 && (bt363.1.f1.f1 == t366.f1.f1 && (bt363.1.f1.f2 == t366.f1.f2 && (bt363.1.f1.f3 == t366.f1.f3 && (bt363.1.f1.f4 == t366.f1.f4 && (bt363.1.f1.f5 == t366.f1.f5)))))))))) else (some false))) else (some (bt360.2 == 3)))))
end
def laws_FnRoots.f (k : Nat) (l0 : List Int) : Option (Bool) := (laws_a2Long.f l0 l0).bind fun t314 => (if t314 = true then (some true) else ((laws_a2At.f l0 0 256).bind fun t315 => ((laws_a2At.f l0 1 4).bind fun t316 => ((impl_RootTerms.f k (wrap64 ((wrap64 (t315 * 4)) + t316))).bind fun bt317 => ((spec_RootTerms.f k (wrap64 ((wrap64 (t315 * 4)) + t316))).bind fun bt322 => (if bt317.2.2 = bt322.2.2 then (if bt317.2.2 = 0 then (if bt317.1 = bt322.1 then ((spec_A2Same.f k bt317.2.1 bt322.2.1).bind fun t327 => (if t327 = true then (if (wrap64 (bt322.1 * bt322.1)) > (wrap64 ((wrap64 (t315 * 4)) + t316)) then (laws_FnRoots.j0 k l0 (wrap64 ((wrap64 (t315 * 4)) + t316)) bt322.1 bt322.2.1 true) else (laws_FnRoots.j0 k l0 (wrap64 ((wrap64 (t315 * 4)) + t316)) bt322.1 bt322.2.1 (decide ((wrap64 ((wrap64 (bt322.1 + 1)) * (wrap64 (bt322.1 + 1)))) ≤ (wrap64 ((wrap64 (t315 * 4)) + t316)))))) else (laws_FnRoots.j0 k l0 (wrap64 ((wrap64 (t315 * 4)) + t316)) bt322.1 bt322.2.1 true))) else (laws_FnRoots.j0 k l0 (wrap64 ((wrap64 (t315 * 4)) + t316)) bt322.1 bt322.2.1 true)) else (laws_FnRoots.j0 k l0 (wrap64 ((wrap64 (t315 * 4)) + t316)) bt322.1 bt322.2.1 true)) else (laws_FnRoots.j0 k l0 (wrap64 ((wrap64 (t315 * 4)) + t316)) bt322.1 bt322.2.1 true)))))))
theorem laws_FnRoots.mono_l : ∀ k, (∀ y0 y1 y2 y3 y4, LeO (laws_FnRoots.j0 k y0 y1 y2 y3 y4) (laws_FnRoots.j0 (k + 1) y0 y1 y2 y3 y4)) ∧ (∀ y0 y1 y2 y3 y4, LeO (laws_FnRoots.l0 k y0 y1 y2 y3 y4) (laws_FnRoots.l0 (k + 1) y0 y1 y2 y3 y4)) ∧ (∀ y0 y1, LeO (laws_FnRoots.j2 k y0 y1) (laws_FnRoots.j2 (k + 1) y0 y1)) ∧ (∀ y0 y1 y2 y3 y4, LeO (laws_FnRoots.j3 k y0 y1 y2 y3 y4) (laws_FnRoots.j3 (k + 1) y0 y1 y2 y3 y4)) ∧ (∀ y0 y1 y2 y3 y4 y5, LeO (laws_FnRoots.j4 k y0 y1 y2 y3 y4 y5) (laws_FnRoots.j4 (k + 1) y0 y1 y2 y3 y4 y5))
 | 0 => ⟨fun _ _ _ _ _ r h => by simp [laws_FnRoots.j0] at h, fun _ _ _ _ _ r h => by simp [laws_FnRoots.l0] at h, fun _ _ r h => by simp [laws_FnRoots.j2] at h, fun _ _ _ _ _ r h => by simp [laws_FnRoots.j3] at h, fun _ _ _ _ _ _ r h => by simp [laws_FnRoots.j4] at h⟩
 | k + 1 => by
  obtain ⟨ih0, ih1, ih2, ih3, ih4⟩ := laws_FnRoots.mono_l k
  refine ⟨?_, ?_, ?_, ?_, ?_⟩
  ·intro y0 y1 y2 y3 y4
   unfold laws_FnRoots.j0
   repeat' first
   | (with_reducible exact ih0 _ _ _ _ _)
   | (with_reducible exact ih1 _ _ _ _ _)
   | (with_reducible exact ih2 _ _)
   | (with_reducible exact ih3 _ _ _ _ _)
   | (with_reducible exact ih4 _ _ _ _ _ _)
   | (with_reducible exact impl_RootTermAt.mono _ _ _)
   | (with_reducible exact impl_RootTerms.mono _ _)
   | (with_reducible exact impl_UnitOf.mono _ _)
   | (with_reducible exact spec_A2Same.mono _ _ _)
   | (with_reducible exact spec_MulWides.mono _ _ _)
   | (with_reducible exact spec_RootTermAt.mono _ _ _)
   | (with_reducible exact spec_RootTerms.mono _ _)
   | (with_reducible exact spec_SubWides.mono _ _ _)
   | (with_reducible exact spec_UnitOf.mono _ _)
   | (with_reducible exact LeO.refl _)
   | (with_reducible exact LeO.none _)
   | (with_reducible refine LeO.ite ?_ ?_)
   | (with_reducible refine LeO.bind ?_ (fun _ => ?_))
   | exact ih0 _ _ _ _ _
   | exact ih1 _ _ _ _ _
   | exact ih2 _ _
   | exact ih3 _ _ _ _ _
   | exact ih4 _ _ _ _ _ _
   | exact impl_RootTermAt.mono _ _ _
   | exact impl_RootTerms.mono _ _
   | exact impl_UnitOf.mono _ _
   | exact spec_A2Same.mono _ _ _
   | exact spec_MulWides.mono _ _ _
   | exact spec_RootTermAt.mono _ _ _
   | exact spec_RootTerms.mono _ _
   | exact spec_SubWides.mono _ _ _
   | exact spec_UnitOf.mono _ _
   | exact LeO.none _
   | refine LeO.ite ?_ ?_
   | refine LeO.bind ?_ (fun _ => ?_)
  ·intro y0 y1 y2 y3 y4
   unfold laws_FnRoots.l0
   repeat' first
   | (with_reducible exact ih0 _ _ _ _ _)
   | (with_reducible exact ih1 _ _ _ _ _)
   | (with_reducible exact ih2 _ _)
   | (with_reducible exact ih3 _ _ _ _ _)
   | (with_reducible exact ih4 _ _ _ _ _ _)
   | (with_reducible exact impl_RootTermAt.mono _ _ _)
   | (with_reducible exact impl_RootTerms.mono _ _)
   | (with_reducible exact impl_UnitOf.mono _ _)
   | (with_reducible exact spec_A2Same.mono _ _ _)
   | (with_reducible exact spec_MulWides.mono _ _ _)
   | (with_reducible exact spec_RootTermAt.mono _ _ _)
   | (with_reducible exact spec_RootTerms.mono _ _)
   | (with_reducible exact spec_SubWides.mono _ _ _)
   | (with_reducible exact spec_UnitOf.mono _ _)
   | (with_reducible exact LeO.refl _)
   | (with_reducible exact LeO.none _)
   | (with_reducible refine LeO.ite ?_ ?_)
   | (with_reducible refine LeO.bind ?_ (fun _ => ?_))
   | exact ih0 _ _ _ _ _
   | exact ih1 _ _ _ _ _
   | exact ih2 _ _
   | exact ih3 _ _ _ _ _
   | exact ih4 _ _ _ _ _ _
   | exact impl_RootTermAt.mono _ _ _
   | exact impl_RootTerms.mono _ _
   | exact impl_UnitOf.mono _ _
   | exact spec_A2Same.mono _ _ _
   | exact spec_MulWides.mono _ _ _
   | exact spec_RootTermAt.mono _ _ _
   | exact spec_RootTerms.mono _ _
   | exact spec_SubWides.mono _ _ _
   | exact spec_UnitOf.mono _ _
   | exact LeO.none _
   | refine LeO.ite ?_ ?_
   | refine LeO.bind ?_ (fun _ => ?_)
  ·intro y0 y1
   unfold laws_FnRoots.j2
   repeat' first
   | (with_reducible exact ih0 _ _ _ _ _)
   | (with_reducible exact ih1 _ _ _ _ _)
   | (with_reducible exact ih2 _ _)
   | (with_reducible exact ih3 _ _ _ _ _)
   | (with_reducible exact ih4 _ _ _ _ _ _)
   | (with_reducible exact impl_RootTermAt.mono _ _ _)
   | (with_reducible exact impl_RootTerms.mono _ _)
   | (with_reducible exact impl_UnitOf.mono _ _)
   | (with_reducible exact spec_A2Same.mono _ _ _)
   | (with_reducible exact spec_MulWides.mono _ _ _)
   | (with_reducible exact spec_RootTermAt.mono _ _ _)
   | (with_reducible exact spec_RootTerms.mono _ _)
   | (with_reducible exact spec_SubWides.mono _ _ _)
   | (with_reducible exact spec_UnitOf.mono _ _)
   | (with_reducible exact LeO.refl _)
   | (with_reducible exact LeO.none _)
   | (with_reducible refine LeO.ite ?_ ?_)
   | (with_reducible refine LeO.bind ?_ (fun _ => ?_))
   | exact ih0 _ _ _ _ _
   | exact ih1 _ _ _ _ _
   | exact ih2 _ _
   | exact ih3 _ _ _ _ _
   | exact ih4 _ _ _ _ _ _
   | exact impl_RootTermAt.mono _ _ _
   | exact impl_RootTerms.mono _ _
   | exact impl_UnitOf.mono _ _
   | exact spec_A2Same.mono _ _ _
   | exact spec_MulWides.mono _ _ _
   | exact spec_RootTermAt.mono _ _ _
   | exact spec_RootTerms.mono _ _
   | exact spec_SubWides.mono _ _ _
   | exact spec_UnitOf.mono _ _
   | exact LeO.none _
   | refine LeO.ite ?_ ?_
   | refine LeO.bind ?_ (fun _ => ?_)
  ·intro y0 y1 y2 y3 y4
   unfold laws_FnRoots.j3
   repeat' first
   | (with_reducible exact ih0 _ _ _ _ _)
   | (with_reducible exact ih1 _ _ _ _ _)
   | (with_reducible exact ih2 _ _)
   | (with_reducible exact ih3 _ _ _ _ _)
   | (with_reducible exact ih4 _ _ _ _ _ _)
   | (with_reducible exact impl_RootTermAt.mono _ _ _)
   | (with_reducible exact impl_RootTerms.mono _ _)
   | (with_reducible exact impl_UnitOf.mono _ _)
   | (with_reducible exact spec_A2Same.mono _ _ _)
   | (with_reducible exact spec_MulWides.mono _ _ _)
   | (with_reducible exact spec_RootTermAt.mono _ _ _)
   | (with_reducible exact spec_RootTerms.mono _ _)
   | (with_reducible exact spec_SubWides.mono _ _ _)
   | (with_reducible exact spec_UnitOf.mono _ _)
   | (with_reducible exact LeO.refl _)
   | (with_reducible exact LeO.none _)
   | (with_reducible refine LeO.ite ?_ ?_)
   | (with_reducible refine LeO.bind ?_ (fun _ => ?_))
   | exact ih0 _ _ _ _ _
   | exact ih1 _ _ _ _ _
   | exact ih2 _ _
   | exact ih3 _ _ _ _ _
   | exact ih4 _ _ _ _ _ _
   | exact impl_RootTermAt.mono _ _ _
   | exact impl_RootTerms.mono _ _
   | exact impl_UnitOf.mono _ _
   | exact spec_A2Same.mono _ _ _
   | exact spec_MulWides.mono _ _ _
   | exact spec_RootTermAt.mono _ _ _
   | exact spec_RootTerms.mono _ _
   | exact spec_SubWides.mono _ _ _
   | exact spec_UnitOf.mono _ _
   | exact LeO.none _
   | refine LeO.ite ?_ ?_
   | refine LeO.bind ?_ (fun _ => ?_)
  intro y0 y1 y2 y3 y4 y5
  unfold laws_FnRoots.j4
  repeat' first
  | (with_reducible exact ih0 _ _ _ _ _)
  | (with_reducible exact ih1 _ _ _ _ _)
  | (with_reducible exact ih2 _ _)
  | (with_reducible exact ih3 _ _ _ _ _)
  | (with_reducible exact ih4 _ _ _ _ _ _)
  | (with_reducible exact impl_RootTermAt.mono _ _ _)
  | (with_reducible exact impl_RootTerms.mono _ _)
  | (with_reducible exact impl_UnitOf.mono _ _)
  | (with_reducible exact spec_A2Same.mono _ _ _)
  | (with_reducible exact spec_MulWides.mono _ _ _)
  | (with_reducible exact spec_RootTermAt.mono _ _ _)
  | (with_reducible exact spec_RootTerms.mono _ _)
  | (with_reducible exact spec_SubWides.mono _ _ _)
  | (with_reducible exact spec_UnitOf.mono _ _)
  | (with_reducible exact LeO.refl _)
  | (with_reducible exact LeO.none _)
  | (with_reducible refine LeO.ite ?_ ?_)
  | (with_reducible refine LeO.bind ?_ (fun _ => ?_))
  | exact ih0 _ _ _ _ _
  | exact ih1 _ _ _ _ _
  | exact ih2 _ _
  | exact ih3 _ _ _ _ _
  | exact ih4 _ _ _ _ _ _
  | exact impl_RootTermAt.mono _ _ _
  | exact impl_RootTerms.mono _ _
  | exact impl_UnitOf.mono _ _
  | exact spec_A2Same.mono _ _ _
  | exact spec_MulWides.mono _ _ _
  | exact spec_RootTermAt.mono _ _ _
  | exact spec_RootTerms.mono _ _
  | exact spec_SubWides.mono _ _ _
  | exact spec_UnitOf.mono _ _
  | exact LeO.none _
  | refine LeO.ite ?_ ?_
  | refine LeO.bind ?_ (fun _ => ?_)
theorem laws_FnRoots.mono : ∀ a0 k, LeO (laws_FnRoots.f k a0) (laws_FnRoots.f (k + 1) a0) := by
 intro a0 k
 obtain ⟨ih0, ih1, ih2, ih3, ih4⟩ := laws_FnRoots.mono_l k
 unfold laws_FnRoots.f
 repeat' first
   | (with_reducible exact ih0 _ _ _ _ _)
   | (with_reducible exact ih1 _ _ _ _ _)
   | (with_reducible exact ih2 _ _)
   | (with_reducible exact ih3 _ _ _ _ _)
   | (with_reducible exact ih4 _ _ _ _ _ _)
   | (with_reducible exact impl_RootTermAt.mono _ _ _)
   | (with_reducible exact impl_RootTerms.mono _ _)
   | (with_reducible exact impl_UnitOf.mono _ _)
   | (with_reducible exact spec_A2Same.mono _ _ _)
   | (with_reducible exact spec_MulWides.mono _ _ _)
   | (with_reducible exact spec_RootTermAt.mono _ _ _)
   | (with_reducible exact spec_RootTerms.mono _ _)
   | (with_reducible exact spec_SubWides.mono _ _ _)
   | (with_reducible exact spec_UnitOf.mono _ _)
   | (with_reducible exact LeO.refl _)
   | (with_reducible exact LeO.none _)
   | (with_reducible refine LeO.ite ?_ ?_)
   | (with_reducible refine LeO.bind ?_ (fun _ => ?_))
   | exact ih0 _ _ _ _ _
   | exact ih1 _ _ _ _ _
   | exact ih2 _ _
   | exact ih3 _ _ _ _ _
   | exact ih4 _ _ _ _ _ _
   | exact impl_RootTermAt.mono _ _ _
   | exact impl_RootTerms.mono _ _
   | exact impl_UnitOf.mono _ _
   | exact spec_A2Same.mono _ _ _
   | exact spec_MulWides.mono _ _ _
   | exact spec_RootTermAt.mono _ _ _
   | exact spec_RootTerms.mono _ _
   | exact spec_SubWides.mono _ _ _
   | exact spec_UnitOf.mono _ _
   | exact LeO.none _
   | refine LeO.ite ?_ ?_
   | refine LeO.bind ?_ (fun _ => ?_)
def laws_FnRoots.T18 : Bool × List (List Nat × List Nat) := (true, [([], []), ([], []), ([0, 1], [0, 1]), ([2], [2]), ([], []), ([], []), ([5], [5]), ([], []), ([6, 7], [6, 7]), ([4, 8], [4, 8]), ([9], [9]), ([3, 10], [3, 10])])
def laws_FnRoots.B18 : List Nat := [0, 0, 3, 7, 0, 0, 32, 0, 224, 496, 1008, 2047]
theorem laws_FnRoots.tab18 : rtab .any (opsOf Try.f10 18) = laws_FnRoots.T18 := by kernel_rfl
theorem laws_FnRoots.bits18 : waitsOk laws_FnRoots.T18.2 laws_FnRoots.B18 = true := by kernel_rfl
def laws_FnRoots.T35 : Bool × List (List Nat × List Nat) := (true, [([], []), ([0], [0]), ([], []), ([1, 2, 1], [1, 2]), ([3], [3]), ([4], [4]), ([4], [4]), ([], []), ([7, 5, 3, 0, 1, 2, 3, 4, 5, 7], [5, 7]), ([6, 8, 0, 1, 2, 3, 4, 5, 6, 7, 8], [6])])
def laws_FnRoots.B35 : List Nat := [0, 1, 0, 7, 15, 31, 31, 0, 191, 511]
theorem laws_FnRoots.tab35 : rtab .any (opsOf Try.f10 35) = laws_FnRoots.T35 := by kernel_rfl
theorem laws_FnRoots.bits35 : waitsOk laws_FnRoots.T35.2 laws_FnRoots.B35 = true := by kernel_rfl
def laws_FnRoots.T39 : Bool × List (List Nat × List Nat) := (true, [([], []), ([0], [0]), ([1], [1]), ([2], [2]), ([2, 2], [2]), ([3, 4, 2], [2, 3, 4]), ([2, 5], [2, 5]), ([6, 4, 0, 1, 2, 3, 4, 5, 6], [6])])
def laws_FnRoots.B39 : List Nat := [0, 1, 3, 7, 7, 31, 63, 127]
theorem laws_FnRoots.tab39 : rtab .any (opsOf Try.f10 39) = laws_FnRoots.T39 := by kernel_rfl
theorem laws_FnRoots.bits39 : waitsOk laws_FnRoots.T39.2 laws_FnRoots.B39 = true := by kernel_rfl
theorem noF_ {r : Bool} (hT : r = true) (h : (some false : Option Bool) = some r) : False := by
  rw [hT] at h
  exact absurd h (by decide)
theorem noj0_ {k : Nat} {r : Bool} {y0 : List Int} {y1 : Int} {y2 : Int} {y3 : List Int} (hT : r = true) (h : laws_FnRoots.j0 k y0 y1 y2 y3 true = some r) : False := by
  cases k with
  | zero => exact absurd h (by simp [laws_FnRoots.j0])
  | succ k =>
    simp only [laws_FnRoots.j0, if_true] at h
    exact noF_ hT h
theorem noj2_ {k : Nat} {r : Bool} {y0 : Int} (hT : r = true) (h : laws_FnRoots.j2 k y0 true = some r) : False := by
  cases k with
  | zero => exact absurd h (by simp [laws_FnRoots.j2])
  | succ k =>
    simp only [laws_FnRoots.j2, if_true] at h
    exact noF_ hT h
theorem noj3_ {k : Nat} {r : Bool} {y0 : Int} {y1 : Int} {y3 : S24} {y4 : S24} (hT : r = true) (h : laws_FnRoots.j3 k y0 y1 true y3 y4 = some r) : False := by
  cases k with
  | zero => exact absurd h (by simp [laws_FnRoots.j3])
  | succ k =>
    simp only [laws_FnRoots.j3, if_true] at h
    exact noF_ hT h
set_option maxHeartbeats 64000000 in
set_option maxRecDepth 100000 in
theorem laws_FnRoots.calls (k : Nat) (A0 : Option Addr) (c0 : Nat) (l0 : List Int) (r : Bool) (w : World) (hr0 : Kd.C (Kd.int .u8) w A0 l0.length l0) (hc0 : l0.length ≤ c0) (hT : r = true) (h : laws_FnRoots.f k l0 = some r) :
  Calls Try.prog 10 #[.slice A0 l0.length c0] w fun e w' => e = .returned (.bool r) ∧ Below w.heap.size w w' := by
 have hu25 := Try.underlying25
 have HR0 := aM10_ hr0
 have HC0 := aM10_ hc0
 clear hr0 hc0
 have HT := aM10_ hT
 clear hT
 have HB := aM10_ (Below.refl w.heap.size w)
 have H : ((laws_a2Long.f l0 l0).bind fun t314 => (if t314 = true then (some true) else ((laws_a2At.f l0 0 256).bind fun t315 => ((laws_a2At.f l0 1 4).bind fun t316 => ((impl_RootTerms.f k (wrap64 ((wrap64 (t315 * 4)) + t316))).bind fun bt317 => ((spec_RootTerms.f k (wrap64 ((wrap64 (t315 * 4)) + t316))).bind fun bt322 => (if bt317.2.2 = bt322.2.2 then (if bt317.2.2 = 0 then (if bt317.1 = bt322.1 then ((spec_A2Same.f k bt317.2.1 bt322.2.1).bind fun t327 => (if t327 = true then (if (wrap64 (bt322.1 * bt322.1)) > (wrap64 ((wrap64 (t315 * 4)) + t316)) then (laws_FnRoots.j0 k l0 (wrap64 ((wrap64 (t315 * 4)) + t316)) bt322.1 bt322.2.1 true) else (laws_FnRoots.j0 k l0 (wrap64 ((wrap64 (t315 * 4)) + t316)) bt322.1 bt322.2.1 (decide ((wrap64 ((wrap64 (bt322.1 + 1)) * (wrap64 (bt322.1 + 1)))) ≤ (wrap64 ((wrap64 (t315 * 4)) + t316)))))) else (laws_FnRoots.j0 k l0 (wrap64 ((wrap64 (t315 * 4)) + t316)) bt322.1 bt322.2.1 true))) else (laws_FnRoots.j0 k l0 (wrap64 ((wrap64 (t315 * 4)) + t316)) bt322.1 bt322.2.1 true)) else (laws_FnRoots.j0 k l0 (wrap64 ((wrap64 (t315 * 4)) + t316)) bt322.1 bt322.2.1 true)) else (laws_FnRoots.j0 k l0 (wrap64 ((wrap64 (t315 * 4)) + t316)) bt322.1 bt322.2.1 true)))))))) = some r := h
 clear h
 replace H := Option.bind_eq_some_iff.mp H
 obtain ⟨t314, A20, H⟩ := H
 replace H : (if t314 = true then (some true) else ((laws_a2At.f l0 0 256).bind fun t315 => ((laws_a2At.f l0 1 4).bind fun t316 => ((impl_RootTerms.f k (wrap64 ((wrap64 (t315 * 4)) + t316))).bind fun bt317 => ((spec_RootTerms.f k (wrap64 ((wrap64 (t315 * 4)) + t316))).bind fun bt322 => (if bt317.2.2 = bt322.2.2 then (if bt317.2.2 = 0 then (if bt317.1 = bt322.1 then ((spec_A2Same.f k bt317.2.1 bt322.2.1).bind fun t327 => (if t327 = true then (if (wrap64 (bt322.1 * bt322.1)) > (wrap64 ((wrap64 (t315 * 4)) + t316)) then (laws_FnRoots.j0 k l0 (wrap64 ((wrap64 (t315 * 4)) + t316)) bt322.1 bt322.2.1 true) else (laws_FnRoots.j0 k l0 (wrap64 ((wrap64 (t315 * 4)) + t316)) bt322.1 bt322.2.1 (decide ((wrap64 ((wrap64 (bt322.1 + 1)) * (wrap64 (bt322.1 + 1)))) ≤ (wrap64 ((wrap64 (t315 * 4)) + t316)))))) else (laws_FnRoots.j0 k l0 (wrap64 ((wrap64 (t315 * 4)) + t316)) bt322.1 bt322.2.1 true))) else (laws_FnRoots.j0 k l0 (wrap64 ((wrap64 (t315 * 4)) + t316)) bt322.1 bt322.2.1 true)) else (laws_FnRoots.j0 k l0 (wrap64 ((wrap64 (t315 * 4)) + t316)) bt322.1 bt322.2.1 true)) else (laws_FnRoots.j0 k l0 (wrap64 ((wrap64 (t315 * 4)) + t316)) bt322.1 bt322.2.1 true))))))) = some r := H
 have A2 := aM10_ A20
 clear A20
 by_cases c3 : t314 = true
 ·subst c3
  have H1 : (some true) = some r := by rw [if_pos rfl] at H; exact H
  clear H
  have H := H1
  clear H1
  obtain rfl := Option.some.inj H
  go_enter Try.func10, Try.ntmps10
  go_wp2_with (first | ((with_reducible refine gate_callee (f := 37) rfl ?_); refine goesL_ (some 38) rfl rfl Try.func37 (by kernel_rfl) rfl #[.slice A0 l0.length c0, .slice A0 l0.length c0] rfl q10x7_ ?_; (with_reducible refine (laws_a2Long.calls _ _ l0 _ _ l0 true _ ?side1 ?side2 ?side3 ?side4 A2.out).mono ?_); (case side1 => repeat (first | exact HR0.out | (with_reducible refine Kd.C_alloc ?_ _) | (with_reducible refine Kd.C_drewN ?_ _) | (with_reducible refine Kd.C_drew ?_))); (case side2 => exact HC0.out); (case side3 => repeat (first | exact HR0.out | (with_reducible refine Kd.C_alloc ?_ _) | (with_reducible refine Kd.C_drewN ?_ _) | (with_reducible refine Kd.C_drew ?_))); (case side4 => exact HC0.out); rintro e w' ⟨rfl, ⟨nd, rfl⟩⟩; refine ⟨_, rfl, ?_⟩))
  go_ret
  exact ⟨by first | rfl | (simp [errW_none, errW_some] <;> rfl) | (simp [*, errW_none, errW_some] <;> rfl), by repeat (first | (with_reducible first | exact HB.out | apply bA10_ | apply bN10_ | apply bD10_) | exact HB.out)⟩
 replace c3 := Bool.eq_false_iff.mpr c3
 subst c3
 have H1 : ((laws_a2At.f l0 0 256).bind fun t315 => ((laws_a2At.f l0 1 4).bind fun t316 => ((impl_RootTerms.f k (wrap64 ((wrap64 (t315 * 4)) + t316))).bind fun bt317 => ((spec_RootTerms.f k (wrap64 ((wrap64 (t315 * 4)) + t316))).bind fun bt322 => (if bt317.2.2 = bt322.2.2 then (if bt317.2.2 = 0 then (if bt317.1 = bt322.1 then ((spec_A2Same.f k bt317.2.1 bt322.2.1).bind fun t327 => (if t327 = true then (if (wrap64 (bt322.1 * bt322.1)) > (wrap64 ((wrap64 (t315 * 4)) + t316)) then (laws_FnRoots.j0 k l0 (wrap64 ((wrap64 (t315 * 4)) + t316)) bt322.1 bt322.2.1 true) else (laws_FnRoots.j0 k l0 (wrap64 ((wrap64 (t315 * 4)) + t316)) bt322.1 bt322.2.1 (decide ((wrap64 ((wrap64 (bt322.1 + 1)) * (wrap64 (bt322.1 + 1)))) ≤ (wrap64 ((wrap64 (t315 * 4)) + t316)))))) else (laws_FnRoots.j0 k l0 (wrap64 ((wrap64 (t315 * 4)) + t316)) bt322.1 bt322.2.1 true))) else (laws_FnRoots.j0 k l0 (wrap64 ((wrap64 (t315 * 4)) + t316)) bt322.1 bt322.2.1 true)) else (laws_FnRoots.j0 k l0 (wrap64 ((wrap64 (t315 * 4)) + t316)) bt322.1 bt322.2.1 true)) else (laws_FnRoots.j0 k l0 (wrap64 ((wrap64 (t315 * 4)) + t316)) bt322.1 bt322.2.1 true)))))) = some r := by rw [if_neg (show ¬ (false = true) by decide)] at H; exact H
 clear H
 have H := H1
 clear H1
 replace H := Option.bind_eq_some_iff.mp H
 obtain ⟨t315, A40, H⟩ := H
 replace H : ((laws_a2At.f l0 1 4).bind fun t316 => ((impl_RootTerms.f k (wrap64 ((wrap64 (t315 * 4)) + t316))).bind fun bt317 => ((spec_RootTerms.f k (wrap64 ((wrap64 (t315 * 4)) + t316))).bind fun bt322 => (if bt317.2.2 = bt322.2.2 then (if bt317.2.2 = 0 then (if bt317.1 = bt322.1 then ((spec_A2Same.f k bt317.2.1 bt322.2.1).bind fun t327 => (if t327 = true then (if (wrap64 (bt322.1 * bt322.1)) > (wrap64 ((wrap64 (t315 * 4)) + t316)) then (laws_FnRoots.j0 k l0 (wrap64 ((wrap64 (t315 * 4)) + t316)) bt322.1 bt322.2.1 true) else (laws_FnRoots.j0 k l0 (wrap64 ((wrap64 (t315 * 4)) + t316)) bt322.1 bt322.2.1 (decide ((wrap64 ((wrap64 (bt322.1 + 1)) * (wrap64 (bt322.1 + 1)))) ≤ (wrap64 ((wrap64 (t315 * 4)) + t316)))))) else (laws_FnRoots.j0 k l0 (wrap64 ((wrap64 (t315 * 4)) + t316)) bt322.1 bt322.2.1 true))) else (laws_FnRoots.j0 k l0 (wrap64 ((wrap64 (t315 * 4)) + t316)) bt322.1 bt322.2.1 true)) else (laws_FnRoots.j0 k l0 (wrap64 ((wrap64 (t315 * 4)) + t316)) bt322.1 bt322.2.1 true)) else (laws_FnRoots.j0 k l0 (wrap64 ((wrap64 (t315 * 4)) + t316)) bt322.1 bt322.2.1 true))))) = some r := H
 have A4 := aM10_ A40
 clear A40
 replace H := Option.bind_eq_some_iff.mp H
 obtain ⟨t316, A50, H⟩ := H
 replace H : ((impl_RootTerms.f k (wrap64 ((wrap64 (t315 * 4)) + t316))).bind fun bt317 => ((spec_RootTerms.f k (wrap64 ((wrap64 (t315 * 4)) + t316))).bind fun bt322 => (if bt317.2.2 = bt322.2.2 then (if bt317.2.2 = 0 then (if bt317.1 = bt322.1 then ((spec_A2Same.f k bt317.2.1 bt322.2.1).bind fun t327 => (if t327 = true then (if (wrap64 (bt322.1 * bt322.1)) > (wrap64 ((wrap64 (t315 * 4)) + t316)) then (laws_FnRoots.j0 k l0 (wrap64 ((wrap64 (t315 * 4)) + t316)) bt322.1 bt322.2.1 true) else (laws_FnRoots.j0 k l0 (wrap64 ((wrap64 (t315 * 4)) + t316)) bt322.1 bt322.2.1 (decide ((wrap64 ((wrap64 (bt322.1 + 1)) * (wrap64 (bt322.1 + 1)))) ≤ (wrap64 ((wrap64 (t315 * 4)) + t316)))))) else (laws_FnRoots.j0 k l0 (wrap64 ((wrap64 (t315 * 4)) + t316)) bt322.1 bt322.2.1 true))) else (laws_FnRoots.j0 k l0 (wrap64 ((wrap64 (t315 * 4)) + t316)) bt322.1 bt322.2.1 true)) else (laws_FnRoots.j0 k l0 (wrap64 ((wrap64 (t315 * 4)) + t316)) bt322.1 bt322.2.1 true)) else (laws_FnRoots.j0 k l0 (wrap64 ((wrap64 (t315 * 4)) + t316)) bt322.1 bt322.2.1 true)))) = some r := H
 have A5 := aM10_ A50
 clear A50
 replace H := Option.bind_eq_some_iff.mp H
 obtain ⟨⟨t317, t318, t319⟩, A60, H⟩ := H
 replace H : ((spec_RootTerms.f k (wrap64 ((wrap64 (t315 * 4)) + t316))).bind fun bt322 => (if t319 = bt322.2.2 then (if t319 = 0 then (if t317 = bt322.1 then ((spec_A2Same.f k t318 bt322.2.1).bind fun t327 => (if t327 = true then (if (wrap64 (bt322.1 * bt322.1)) > (wrap64 ((wrap64 (t315 * 4)) + t316)) then (laws_FnRoots.j0 k l0 (wrap64 ((wrap64 (t315 * 4)) + t316)) bt322.1 bt322.2.1 true) else (laws_FnRoots.j0 k l0 (wrap64 ((wrap64 (t315 * 4)) + t316)) bt322.1 bt322.2.1 (decide ((wrap64 ((wrap64 (bt322.1 + 1)) * (wrap64 (bt322.1 + 1)))) ≤ (wrap64 ((wrap64 (t315 * 4)) + t316)))))) else (laws_FnRoots.j0 k l0 (wrap64 ((wrap64 (t315 * 4)) + t316)) bt322.1 bt322.2.1 true))) else (laws_FnRoots.j0 k l0 (wrap64 ((wrap64 (t315 * 4)) + t316)) bt322.1 bt322.2.1 true)) else (laws_FnRoots.j0 k l0 (wrap64 ((wrap64 (t315 * 4)) + t316)) bt322.1 bt322.2.1 true)) else (laws_FnRoots.j0 k l0 (wrap64 ((wrap64 (t315 * 4)) + t316)) bt322.1 bt322.2.1 true))) = some r := H
 have A6 := aM10_ A60
 clear A60
 replace H := Option.bind_eq_some_iff.mp H
 obtain ⟨⟨t322, t323, t324⟩, A70, H⟩ := H
 replace H : (if t319 = t324 then (if t319 = 0 then (if t317 = t322 then ((spec_A2Same.f k t318 t323).bind fun t327 => (if t327 = true then (if (wrap64 (t322 * t322)) > (wrap64 ((wrap64 (t315 * 4)) + t316)) then (laws_FnRoots.j0 k l0 (wrap64 ((wrap64 (t315 * 4)) + t316)) t322 t323 true) else (laws_FnRoots.j0 k l0 (wrap64 ((wrap64 (t315 * 4)) + t316)) t322 t323 (decide ((wrap64 ((wrap64 (t322 + 1)) * (wrap64 (t322 + 1)))) ≤ (wrap64 ((wrap64 (t315 * 4)) + t316)))))) else (laws_FnRoots.j0 k l0 (wrap64 ((wrap64 (t315 * 4)) + t316)) t322 t323 true))) else (laws_FnRoots.j0 k l0 (wrap64 ((wrap64 (t315 * 4)) + t316)) t322 t323 true)) else (laws_FnRoots.j0 k l0 (wrap64 ((wrap64 (t315 * 4)) + t316)) t322 t323 true)) else (laws_FnRoots.j0 k l0 (wrap64 ((wrap64 (t315 * 4)) + t316)) t322 t323 true)) = some r := H
 have A7 := aM10_ A70
 clear A70
 have HC8 := aM10_ H
 clear H
 go_enter Try.func10, Try.ntmps10
 go_upto_region 6 with (first | ((with_reducible refine gate_callee (f := 37) rfl ?_); refine goesL_ (some 38) rfl rfl Try.func37 (by kernel_rfl) rfl #[.slice A0 l0.length c0, .slice A0 l0.length c0] rfl q10x7_ ?_; (with_reducible refine (laws_a2Long.calls _ _ l0 _ _ l0 false _ ?side1 ?side2 ?side3 ?side4 A2.out).mono ?_); (case side1 => repeat (first | exact HR0.out | (with_reducible refine Kd.C_alloc ?_ _) | (with_reducible refine Kd.C_drewN ?_ _) | (with_reducible refine Kd.C_drew ?_))); (case side2 => exact HC0.out); (case side3 => repeat (first | exact HR0.out | (with_reducible refine Kd.C_alloc ?_ _) | (with_reducible refine Kd.C_drewN ?_ _) | (with_reducible refine Kd.C_drew ?_))); (case side4 => exact HC0.out); rintro e w' ⟨rfl, ⟨nd, rfl⟩⟩; refine ⟨_, rfl, ?_⟩) | ((with_reducible refine gate_callee (f := 38) rfl ?_); refine goesL_ (some 40) rfl rfl Try.func38 (by kernel_rfl) rfl #[.slice A0 l0.length c0, .int .i64 0, .int .i64 256] rfl q10x7_ ?_; (with_reducible refine (laws_a2At.calls _ _ l0 0 256 t315 _ ?side1 ?side2 A4.out).mono ?_); (case side1 => repeat (first | exact HR0.out | (with_reducible refine Kd.C_alloc ?_ _) | (with_reducible refine Kd.C_drewN ?_ _) | (with_reducible refine Kd.C_drew ?_))); (case side2 => exact HC0.out); rintro e w' ⟨rfl, ⟨nd, rfl⟩⟩; refine ⟨_, rfl, ?_⟩) | ((with_reducible refine gate_callee (f := 38) rfl ?_); refine goesL_ (some 43) rfl rfl Try.func38 (by kernel_rfl) rfl #[.slice A0 l0.length c0, .int .i64 1, .int .i64 4] rfl q10x7_ ?_; (with_reducible refine (laws_a2At.calls _ _ l0 1 4 t316 _ ?side1 ?side2 A5.out).mono ?_); (case side1 => repeat (first | exact HR0.out | (with_reducible refine Kd.C_alloc ?_ _) | (with_reducible refine Kd.C_drewN ?_ _) | (with_reducible refine Kd.C_drew ?_))); (case side2 => exact HC0.out); rintro e w' ⟨rfl, ⟨nd, rfl⟩⟩; refine ⟨_, rfl, ?_⟩) | ((with_reducible refine gate_callee (f := 39) rfl ?_); refine goesL_ (some 47) rfl rfl Try.func39 (by kernel_rfl) rfl #[.int .i64 (wrap64 ((wrap64 (t315 * 4)) + t316))] rfl q10x7_ ?_; (with_reducible refine (impl_RootTerms.calls k (wrap64 ((wrap64 (t315 * 4)) + t316)) t317 t318 t319 _ A6.out).mono ?_); rintro e w9 ⟨v320, rfl, ho0, hb⟩; refine ⟨_, rfl, ?_⟩; have n0_ := aM10_ (Kd.R_lower ho0 (below_size q10x19_)); have n1_ := aM10_ (bT10_ q10x19_ hb); clear HB; have HO321 := n0_; have HB := n1_; clear n0_ n1_; (try clear hb); (try clear hb2); (try clear hk); (try clear hi); (try clear ho0)) | ((with_reducible refine gate_callee (f := 40) rfl ?_); refine goesL_ (some 53) rfl rfl Try.func40 (by kernel_rfl) rfl #[.int .i64 (wrap64 ((wrap64 (t315 * 4)) + t316))] rfl q10x7_ ?_; (with_reducible refine (spec_RootTerms.calls k (wrap64 ((wrap64 (t315 * 4)) + t316)) t322 t323 t324 _ A7.out).mono ?_); rintro e w10 ⟨v325, rfl, ho0, hb⟩; refine ⟨_, rfl, ?_⟩; have n0_ := aM10_ (Kd.R_elder' (by (with_reducible repeat (first | apply Kd.R_alloc | apply Kd.R_drewN | apply Kd.R_drew)); exact HO321.out) (Kd.R_base ho0) hb); have n1_ := aM10_ (Kd.R_lower (Kd.R_new' ho0 (Kd.R_lt (by (with_reducible repeat (first | apply Kd.R_alloc | apply Kd.R_drewN | apply Kd.R_drew)); exact HO321.out))) (below_size q10x19_)); have n2_ := aM10_ (bT10_ q10x19_ hb); clear HO321 HB; have HO321 := n0_; have HO326 := n1_; have HB := n2_; clear n0_ n1_ n2_; (try clear hb); (try clear hb2); (try clear hk); (try clear hi); (try clear ho0)))
 (try simp only [Act.put, List.setIfInBounds_toArray, List.set_cons_zero, List.set_cons_succ])
 go_cut [90] (fun v90 wc => ∃ (kq : Nat) (x90_7 : Bool), v90 = .bool x90_7 ∧ Aside0 (laws_FnRoots.j0 kq l0 (wrap64 ((wrap64 (t315 * 4)) + t316)) t322 t323 x90_7 = some r) ∧ Aside0 (kq ≤ k) ∧ Aside0 (Kd.R (Kd.int .i64) 2 wc w.heap.size (fun _ => True) v325 t323) ∧ Aside0 (Below w.heap.size w wc))
 case first => as_aux_lemma =>
  have H := HC8.out
  clear HC8
  by_cases c11 : t319 = t324
  rotate_left
  ·rw [if_neg c11] at H
   have c11b0 : (t319 == t324) = false := beq_eq_false_iff_ne.mpr c11
   have c11b1 : (t319 != t324) = true := bne_iff_ne.mpr c11
   (first | rw [c11b0] | (simp only [i64_w, i32_w]; rw [c11b0]) | skip)
   exact (noj0_ HT.out H).elim
  rw [if_pos c11] at H
  have c11b0 : (t319 == t324) = true := beq_iff_eq.mpr c11
  have c11b1 : (t319 != t324) = false := bne_eq_false_iff_eq.mpr c11
  clear c11
  (first | rw [c11b0] | (simp only [i64_w, i32_w]; rw [c11b0]) | skip)
  by_cases c12 : t319 = 0
  rotate_left
  ·rw [if_neg c12] at H
   have c12b0 : (t319 == 0) = false := beq_eq_false_iff_ne.mpr c12
   have c12b1 : (t319 != 0) = true := bne_iff_ne.mpr c12
   exact (noj0_ HT.out H).elim
  rw [if_pos c12] at H
  have c12b0 : (t319 == 0) = true := beq_iff_eq.mpr c12
  have c12b1 : (t319 != 0) = false := bne_eq_false_iff_eq.mpr c12
  clear c12
  by_cases c13 : t317 = t322
  rotate_left
  ·rw [if_neg c13] at H
   have c13b0 : (t317 == t322) = false := beq_eq_false_iff_ne.mpr c13
   have c13b1 : (t317 != t322) = true := bne_iff_ne.mpr c13
   exact (noj0_ HT.out H).elim
  rw [if_pos c13] at H
  have c13b0 : (t317 == t322) = true := beq_iff_eq.mpr c13
  have c13b1 : (t317 != t322) = false := bne_eq_false_iff_eq.mpr c13
  clear c13
  replace H := Option.bind_eq_some_iff.mp H
  obtain ⟨t327, A140, H⟩ := H
  replace H : (if t327 = true then (if (wrap64 (t322 * t322)) > (wrap64 ((wrap64 (t315 * 4)) + t316)) then (laws_FnRoots.j0 k l0 (wrap64 ((wrap64 (t315 * 4)) + t316)) t322 t323 true) else (laws_FnRoots.j0 k l0 (wrap64 ((wrap64 (t315 * 4)) + t316)) t322 t323 (decide ((wrap64 ((wrap64 (t322 + 1)) * (wrap64 (t322 + 1)))) ≤ (wrap64 ((wrap64 (t315 * 4)) + t316)))))) else (laws_FnRoots.j0 k l0 (wrap64 ((wrap64 (t315 * 4)) + t316)) t322 t323 true)) = some r := H
  have A14 := aM10_ A140
  clear A140
  by_cases c15 : t327 = true
  rotate_left
  ·replace c15 := Bool.eq_false_iff.mpr c15
   subst c15
   have H1 : (laws_FnRoots.j0 k l0 (wrap64 ((wrap64 (t315 * 4)) + t316)) t322 t323 true) = some r := by rw [if_neg (show ¬ (false = true) by decide)] at H; exact H
   clear H
   have H := H1
   clear H1
   exact (noj0_ HT.out H).elim
  subst c15
  have H1 : (if (wrap64 (t322 * t322)) > (wrap64 ((wrap64 (t315 * 4)) + t316)) then (laws_FnRoots.j0 k l0 (wrap64 ((wrap64 (t315 * 4)) + t316)) t322 t323 true) else (laws_FnRoots.j0 k l0 (wrap64 ((wrap64 (t315 * 4)) + t316)) t322 t323 (decide ((wrap64 ((wrap64 (t322 + 1)) * (wrap64 (t322 + 1)))) ≤ (wrap64 ((wrap64 (t315 * 4)) + t316)))))) = some r := by rw [if_pos rfl] at H; exact H
  clear H
  have H := H1
  clear H1
  by_cases c16 : (wrap64 (t322 * t322)) > (wrap64 ((wrap64 (t315 * 4)) + t316))
  ·rw [if_pos c16] at H
   have c16b0 : decide ((wrap64 ((wrap64 (t315 * 4)) + t316)) < (wrap64 (t322 * t322))) = true := decide_eq_true c16
   clear c16
   exact (noj0_ HT.out H).elim
  rw [if_neg c16] at H
  have c16b0 : decide ((wrap64 ((wrap64 (t315 * 4)) + t316)) < (wrap64 (t322 * t322))) = false := decide_eq_false c16
  clear c16
  have H' := aM10_ H
  clear H
  obtain ⟨Ao19, co19, eo19⟩ := Kd.R_slice HO321.out
  subst eo19
  obtain ⟨Ao20, co20, eo20⟩ := Kd.R_slice HO326.out
  subst eo20
  go_wp2_with (first | (go_at_call 41; (with_reducible refine (spec_A2Same.calls k _ _ t318 _ _ t323 true _ ?side1 ?side2 ?side3 ?side4 A14.out).mono ?_); (case side1 => repeat (first | exact (Kd.R_reads' HO321.out).2.2 | (with_reducible refine Kd.C_alloc ?_ _) | (with_reducible refine Kd.C_drewN ?_ _) | (with_reducible refine Kd.C_drew ?_))); (case side2 => exact (Kd.R_reads' HO321.out).2.1); (case side3 => repeat (first | exact (Kd.R_reads' HO326.out).2.2 | (with_reducible refine Kd.C_alloc ?_ _) | (with_reducible refine Kd.C_drewN ?_ _) | (with_reducible refine Kd.C_drew ?_))); (case side4 => exact (Kd.R_reads' HO326.out).2.1); rintro e w' ⟨rfl, ⟨nd, rfl⟩⟩))
  go_meet
  case rel => exact ⟨_, (decide ((wrap64 ((wrap64 (t322 + 1)) * (wrap64 (t322 + 1)))) ≤ (wrap64 ((wrap64 (t315 * 4)) + t316)))), q10x35_, H', ⟨by first | omega | exact Nat.le_refl _⟩, ⟨by (with_reducible repeat (first | apply Kd.R_alloc | apply Kd.R_drewN | apply Kd.R_drew)); exact Kd.R_mono HO326.out (fun _ hk => trivial)⟩, ⟨by repeat (first | (with_reducible first | exact HB.out | apply bA10_ | apply bN10_ | apply bD10_) | exact HB.out)⟩⟩
 case rest =>
  clear HC8
  try clear c1
  try clear p2
  try clear c3
  try clear c4
  try clear p6
  try clear c10
  try clear c11
  try clear c11b0
  try clear c11b1
  try clear c12
  try clear c12b0
  try clear c12b1
  try clear c13
  try clear c13b0
  try clear c13b1
  try clear c15
  try clear c16
  try clear c16b0
  obtain ⟨kq, x90_7, rfl, HA, HJ7, HO_8, HB⟩ := hcut
  cases kq with
  | zero => exact absurd HA.out (by simp [laws_FnRoots.j0])
  | succ kj7 =>
   have H := HA.out
   clear HA
   simp only [laws_FnRoots.j0] at H
   by_cases c23 : x90_7 = true
   ·subst c23
    have H1 : (some false) = some r := by rw [if_pos rfl] at H; exact H
    clear H
    have H := H1
    clear H1
    exact (noF_ HT.out H).elim
   replace c23 := Bool.eq_false_iff.mpr c23
   subst c23
   have H1 : (if (t323.length : Int) = 0 then ((impl_UnitOf.f kj7 (wrap64 ((wrap64 (t315 * 4)) + t316))).bind fun bt328 => ((impl_RootTermAt.f kj7 (wrap64 ((wrap64 (t315 * 4)) + t316)) 1).bind fun bt333 => (if (wrap64 (t322 * t322)) = (wrap64 ((wrap64 (t315 * 4)) + t316)) then (if bt328.2.2 = 4 then (some (bt333.2 == 6)) else (some false)) else (some false)))) else (if 0 ≤ (wrap64 ((t323.length : Int) - 1)) then (if (wrap64 ((t323.length : Int) - 1)) < (t323.length : Int) then (if (rd t323 (wrap64 ((t323.length : Int) - 1))) = (wrap64 (2 * t322)) then (laws_FnRoots.l0 kj7 l0 (wrap64 ((wrap64 (t315 * 4)) + t316)) t323 (t323.length : Int) 0) else (some false)) else (none)) else (none))) = some r := by rw [if_neg (show ¬ (false = true) by decide)] at H; exact H
   clear H
   have H := H1
   clear H1
   by_cases c24 : (t323.length : Int) = 0
   ·rw [if_pos c24] at H
    have c24b0 : ((t323.length : Int) == 0) = true := beq_iff_eq.mpr c24
    have c24b1 : ((t323.length : Int) != 0) = false := bne_eq_false_iff_eq.mpr c24
    clear c24
    replace H := Option.bind_eq_some_iff.mp H
    obtain ⟨⟨t328, t329, t330⟩, A250, H⟩ := H
    replace H : ((impl_RootTermAt.f kj7 (wrap64 ((wrap64 (t315 * 4)) + t316)) 1).bind fun bt333 => (if (wrap64 (t322 * t322)) = (wrap64 ((wrap64 (t315 * 4)) + t316)) then (if t330 = 4 then (some (bt333.2 == 6)) else (some false)) else (some false))) = some r := H
    have A25 := aM10_ A250
    clear A250
    replace H := Option.bind_eq_some_iff.mp H
    obtain ⟨⟨t333, t334⟩, A260, H⟩ := H
    replace H : (if (wrap64 (t322 * t322)) = (wrap64 ((wrap64 (t315 * 4)) + t316)) then (if t330 = 4 then (some (t334 == 6)) else (some false)) else (some false)) = some r := H
    have A26 := aM10_ A260
    clear A260
    by_cases c27 : (wrap64 (t322 * t322)) = (wrap64 ((wrap64 (t315 * 4)) + t316))
    rotate_left
    ·rw [if_neg c27] at H
     have c27b0 : ((wrap64 (t322 * t322)) == (wrap64 ((wrap64 (t315 * 4)) + t316))) = false := beq_eq_false_iff_ne.mpr c27
     have c27b1 : ((wrap64 (t322 * t322)) != (wrap64 ((wrap64 (t315 * 4)) + t316))) = true := bne_iff_ne.mpr c27
     exact (noF_ HT.out H).elim
    rw [if_pos c27] at H
    have c27b0 : ((wrap64 (t322 * t322)) == (wrap64 ((wrap64 (t315 * 4)) + t316))) = true := beq_iff_eq.mpr c27
    have c27b1 : ((wrap64 (t322 * t322)) != (wrap64 ((wrap64 (t315 * 4)) + t316))) = false := bne_eq_false_iff_eq.mpr c27
    clear c27
    by_cases c28 : t330 = 4
    ·rw [if_pos c28] at H
     have c28b0 : (t330 == 4) = true := beq_iff_eq.mpr c28
     have c28b1 : (t330 != 4) = false := bne_eq_false_iff_eq.mpr c28
     clear c28
     obtain rfl := Option.some.inj H
     obtain ⟨Ao29, co29, eo29⟩ := Kd.R_slice HO_8.out
     subst eo29
     go_wp2_with (first | ((with_reducible refine gate_callee (f := 12) rfl ?_); refine goesL_ (some 97) rfl rfl Try.func12 (by kernel_rfl) rfl #[.int .i64 (wrap64 ((wrap64 (t315 * 4)) + t316))] rfl q10x7_ ?_; (with_reducible refine (impl_UnitOf.calls kj7 (wrap64 ((wrap64 (t315 * 4)) + t316)) t328 t329 t330 _ A25.out).mono ?_); rintro e w30 ⟨rfl, hb⟩; refine ⟨_, rfl, ?_⟩; have n0_ := aM10_ (Kd.R_below q10x27_ hb); have n1_ := aM10_ (bT10_ q10x19_ hb); clear HO_8 HB; have HO_8 := n0_; have HB := n1_; clear n0_ n1_; (try clear hb); (try clear hb2); (try clear hk); (try clear hi)) | ((with_reducible refine gate_dst (N := 11) rfl ?_); refine box_event ?hg (N := 11) ?hd (cs := #[.bool false, .int .u32 0, .int .u32 0, .int .u32 0, .int .u32 0, .int .u32 0, .int .u32 0]) (t := 25) ?hr ?_; (case hd => rfl); (case hg => rfl); (case hr => first | (go_simp; done) | (go_simp; rfl)); intro gb331 hg w31 hbox hb; have n0_ := aM10_ (Kd.R_below q10x27_ hb); have n1_ := aM10_ (bT10_ q10x19_ hb); have n2_ := aM10_ (hbox); have n3_ := aM10_ ((q10x55_ : w.heap.size ≤ gb331)); have n4_ := aM10_ ((q10x55_ : w.heap.size ≤ gb331)); clear HO_8 HB; have HO_8 := n0_; have HB := n1_; have BK331 := n2_; have GW331 := n3_; have GE331 := n4_; clear n0_ n1_ n2_ n3_ n4_; clear hb hbox hg) | ((with_reducible refine gate_dst (N := 12) rfl ?_); refine box_event ?hg (N := 12) ?hd (cs := #[.bool false, .int .u32 0, .int .u32 0, .int .u32 0, .int .u32 0, .int .u32 0, .int .u32 0]) (t := 25) ?hr ?_; (case hd => rfl); (case hg => rfl); (case hr => first | (go_simp; done) | (go_simp; rfl)); intro gb332 hg w32 hbox hb; have n0_ := aM10_ (Kd.R_below q10x27_ hb); have n1_ := kZ_ gb331 q10x30_ hb; have n2_ := aM10_ (bT10_ q10x28_ hb); have n3_ := aM10_ (hbox); have n4_ := aM10_ ((q10x65_ : w.heap.size ≤ gb332)); have n5_ := aM10_ ((q10x65_ : w.heap.size ≤ gb332)); have n6_ := aM10_ ((q10x44_ : gb331 ≠ gb332)); have n7_ := aM10_ ((q10x45_ : gb332 ≠ gb331)); clear HO_8 BK331 HB; have HO_8 := n0_; have BK331 := n1_; have HB := n2_; have BK332 := n3_; have GW332 := n4_; have GE332 := n5_; have NB331_332 := n6_; have NB332_331 := n7_; clear n0_ n1_ n2_ n3_ n4_ n5_ n6_ n7_; clear hb hbox hg; have hnb33 := NB331_332.out; have hnc33 := NB332_331.out; obtain ⟨hcz34_0, hcz34_1, hcz34_2, hcz34_3, hcz34_4, hcz34_5, hcz34_6⟩ := cells7_ BK331.out; obtain ⟨hfz34_0, hfz34_1, hfz34_2, hfz34_3, hfz34_4, hfz34_5, hfz34_6⟩ := frozen7_ BK331.out) | ((with_reducible refine gate_store (t := 25) (p := 11) rfl ?_); refine store_event (t := 25) (p := 11) (v := ?vo_w35) (w1 := (pS_ w32 gb331 t328)) ?hg ?ho ?hn ?hr ?_; (case ho => rfl); (case hg => rfl); (case hn => rfl); (case hr => first | ((try simp only [Act.put, List.setIfInBounds_toArray, List.set_cons_zero, List.set_cons_succ]); exact run_put7_ rfl (show _ = Value.pointer (some ⟨gb331, 0, none⟩) from by rfl) (show _ = Value.agg #[.bool t328.f0, .int .u32 t328.f1.f0, .int .u32 t328.f1.f1, .int .u32 t328.f1.f2, .int .u32 t328.f1.f3, .int .u32 t328.f1.f4, .int .u32 t328.f1.f5] from by rfl) BK331.out (by kernel_rfl) (by rfl)) | (go_simp; done) | (go_simp; rfl)); intro w35 hw; have n0_ : Aside0 (Kd.R (Kd.int .i64) 2 w35 w.heap.size (fun _ => True) (.slice Ao29 t323.length co29) t323) := ⟨q10x25_⟩; have n1_ : bW_ w35 gb331 t328 := ⟨q10x36_⟩; have n2_ : bZ_ w35 gb332 := ⟨q10x39_⟩; have n3_ : Aside0 (Below w.heap.size w w35) := ⟨(by rw [hw]; exact q10x24_)⟩; clear hw; clear HO_8; clear BK331; clear BK332; clear HB; have HO_8 := n0_; have BK331 := n1_; have BK332 := n2_; have HB := n3_; clear n0_ n1_ n2_ n3_; obtain ⟨hcz36_0, hcz36_1, hcz36_2, hcz36_3, hcz36_4, hcz36_5, hcz36_6⟩ := cells7_ BK332.out; obtain ⟨hfz36_0, hfz36_1, hfz36_2, hfz36_3, hfz36_4, hfz36_5, hfz36_6⟩ := frozen7_ BK332.out) | ((with_reducible refine gate_store (t := 25) (p := 12) rfl ?_); refine store_event (t := 25) (p := 12) (v := ?vo_w37) (w1 := (pS_ w35 gb332 t329)) ?hg ?ho ?hn ?hr ?_; (case ho => rfl); (case hg => rfl); (case hn => rfl); (case hr => first | ((try simp only [Act.put, List.setIfInBounds_toArray, List.set_cons_zero, List.set_cons_succ]); exact run_put7_ rfl (show _ = Value.pointer (some ⟨gb332, 0, none⟩) from by rfl) (show _ = Value.agg #[.bool t329.f0, .int .u32 t329.f1.f0, .int .u32 t329.f1.f1, .int .u32 t329.f1.f2, .int .u32 t329.f1.f3, .int .u32 t329.f1.f4, .int .u32 t329.f1.f5] from by rfl) BK332.out (by kernel_rfl) (by rfl)) | (go_simp; done) | (go_simp; rfl)); intro w37 hw; have n0_ : Aside0 (Kd.R (Kd.int .i64) 2 w37 w.heap.size (fun _ => True) (.slice Ao29 t323.length co29) t323) := ⟨q10x26_⟩; have n1_ : bW_ w37 gb331 t328 := ⟨q10x40_⟩; have n2_ : bW_ w37 gb332 t329 := ⟨q10x37_⟩; have n3_ : Aside0 (Below w.heap.size w w37) := ⟨(by rw [hw]; exact q10x24_)⟩; clear hw; clear HO_8; clear BK331; clear BK332; clear HB; have HO_8 := n0_; have BK331 := n1_; have BK332 := n2_; have HB := n3_; clear n0_ n1_ n2_ n3_) | ((with_reducible refine gate_callee (f := 42) rfl ?_); refine goesL_ (some 103) rfl rfl Try.func42 (by kernel_rfl) rfl #[.int .i64 (wrap64 ((wrap64 (t315 * 4)) + t316)), .int .i64 1] rfl q10x7_ ?_; (with_reducible refine (impl_RootTermAt.calls kj7 (wrap64 ((wrap64 (t315 * 4)) + t316)) 1 t333 t334 _ A26.out).mono ?_); rintro e w38 ⟨rfl, hb⟩; refine ⟨_, rfl, ?_⟩; have n0_ := aM10_ (Kd.R_below q10x27_ hb); have n1_ := kW_ gb331 t328 q10x30_ hb; have n2_ := kW_ gb332 t329 q10x62_ hb; have n3_ := aM10_ (bT10_ q10x24_ hb); clear HO_8 BK331 BK332 HB; have HO_8 := n0_; have BK331 := n1_; have BK332 := n2_; have HB := n3_; clear n0_ n1_ n2_ n3_; (try clear hb); (try clear hb2); (try clear hk); (try clear hi)))
     go_ret
     exact ⟨by first | rfl | (simp [errW_none, errW_some] <;> rfl) | (simp [*, errW_none, errW_some] <;> rfl), by repeat (first | (with_reducible first | exact HB.out | apply bA10_ | apply bN10_ | apply bD10_ | refine bS10_ ?_ GE331.out | refine bS10_ ?_ GE332.out) | exact HB.out)⟩
    rw [if_neg c28] at H
    have c28b0 : (t330 == 4) = false := beq_eq_false_iff_ne.mpr c28
    have c28b1 : (t330 != 4) = true := bne_iff_ne.mpr c28
    exact (noF_ HT.out H).elim
   rw [if_neg c24] at H
   have c24b0 : ((t323.length : Int) == 0) = false := beq_eq_false_iff_ne.mpr c24
   have c24b1 : ((t323.length : Int) != 0) = true := bne_iff_ne.mpr c24
   have c24b2 : ¬ (t323 = []) := fun h_ => c24 (by rw [h_]; rfl)
   obtain ⟨ji59, hji59⟩ : ∃ j_ : Int, (wrap64 ((t323.length : Int) - 1)) = j_ := ⟨_, rfl⟩
   replace H : (if 0 ≤ (ji59) then (if (ji59) < (t323.length : Int) then (if (rd t323 (ji59)) = (wrap64 (2 * t322)) then (laws_FnRoots.l0 kj7 l0 (wrap64 ((wrap64 (t315 * 4)) + t316)) t323 (t323.length : Int) 0) else (some false)) else (none)) else (none)) = some r := by first | (rw [hji59] at H; exact H) | (simp only [hji59] at H ⊢; exact H)
   have hji59w : (IntKind.i64.wrap ((t323.length : Int) - 1)) = ji59 := (i64_w _).trans hji59
   by_cases c60 : 0 ≤ (ji59)
   rotate_left
   ·rw [if_neg c60] at H
    exact absurd H (by simp)

   rw [if_pos c60] at H
   have c60b0 : decide (0 ≤ (ji59)) = true := decide_eq_true c60
   clear c60
   by_cases c61 : (ji59) < (t323.length : Int)
   rotate_left
   ·rw [if_neg c61] at H
    exact absurd H (by simp)
   rw [if_pos c61] at H
   have c61b0 : decide ((ji59) < (t323.length : Int)) = true := decide_eq_true c61
   clear c61
   by_cases c62 : (rd t323 (ji59)) = (wrap64 (2 * t322))
   rotate_left
   ·rw [if_neg c62] at H
    have c62b0 : ((rd t323 (ji59)) == (wrap64 (2 * t322))) = false := beq_eq_false_iff_ne.mpr c62
    have c62b1 : ((rd t323 (ji59)) != (wrap64 (2 * t322))) = true := bne_iff_ne.mpr c62
    exact (noF_ HT.out H).elim
   rw [if_pos c62] at H
   have c62b0 : ((rd t323 (ji59)) == (wrap64 (2 * t322))) = true := beq_iff_eq.mpr c62
   have c62b1 : ((rd t323 (ji59)) != (wrap64 (2 * t322))) = false := bne_eq_false_iff_eq.mpr c62
   clear c62
   have H' := aM10_ H
   clear H
   obtain ⟨Ao63, co63, eo63⟩ := Kd.R_slice HO_8.out
   subst eo63
   have p335 : 0 ≤ ((ji59) : Int) := of_decide_eq_true q10x41_
   have q335 : (ji59) < (t323.length : Int) := of_decide_eq_true q10x41_
   obtain ⟨ad335, e335, hx335_0⟩ := Kd.at_int (Kd.R_reads' HO_8.out).2.2 (ji59) p335 q335
   cases e335
   replace p335 := eq_true p335
   replace q335 := eq_true q335
   go_wp2
   go_loopg [16] kj7 (fun kq v16 w' => ∃ (x16_2 : Int), v16 = .int .i64 x16_2 ∧ Aside0 (laws_FnRoots.l0 kq l0 (wrap64 ((wrap64 (t315 * 4)) + t316)) t323 (t323.length : Int) x16_2 = some r) ∧ Aside0 (kq ≤ kj7) ∧ Aside0 (Kd.R (Kd.int .i64) 2 w' w.heap.size (fun _ => True) (.slice (some ad335) t323.length co63) t323) ∧ Aside0 (Below w.heap.size w w'))
   case atStart => exact ⟨(0), q10x35_, H', ⟨Nat.le_refl _⟩, ⟨by (with_reducible repeat (first | apply Kd.R_alloc | apply Kd.R_drewN | apply Kd.R_drew)); exact HO_8.out⟩, ⟨by repeat (first | (with_reducible first | exact HB.out | apply bA10_ | apply bN10_ | apply bD10_) | exact HB.out)⟩⟩
   case round =>
    clear H'
    try clear c1
    try clear c2
    try clear p2
    try clear c3
    try clear p3
    try clear q3
    try clear hx3
    try clear c4
    try clear c5
    try clear c6
    try clear p6
    try clear c10
    try clear c11
    try clear c11b0
    try clear c11b1
    try clear c12
    try clear c12b0
    try clear c12b1
    try clear c13
    try clear c13b0
    try clear c13b1
    try clear c15
    try clear c16
    try clear c16b0
    try clear c23
    try clear c24
    try clear c24b0
    try clear c24b1
    try clear c24b2
    try clear c27
    try clear c27b0
    try clear c27b1
    try clear c28
    try clear c28b0
    try clear c28b1
    try clear c33
    try clear p33
    try clear q33
    try clear hx33
    try clear c37
    try clear c38
    try clear c39
    try clear c40
    try clear c42
    try clear c43
    try clear c53
    try clear c60
    try clear c60b0
    try clear c61
    try clear c61b0
    try clear c62
    try clear c62b0
    try clear c62b1
    try clear hcz34_0 hcz34_1 hcz34_2 hcz34_3 hcz34_4 hcz34_5 hcz34_6
    try clear hcz36_0 hcz36_1 hcz36_2 hcz36_3 hcz36_4 hcz36_5 hcz36_6
    try clear hcz44_0 hcz44_1 hcz44_2 hcz44_3 hcz44_4 hcz44_5 hcz44_6
    try clear hcz46_0 hcz46_1 hcz46_2 hcz46_3 hcz46_4 hcz46_5 hcz46_6
    try clear hcz54_0 hcz54_1 hcz54_2 hcz54_3 hcz54_4 hcz54_5 hcz54_6
    try clear hcz56_0 hcz56_1 hcz56_2 hcz56_3 hcz56_4 hcz56_5 hcz56_6
    try clear hfz34_0 hfz34_1 hfz34_2 hfz34_3 hfz34_4 hfz34_5 hfz34_6
    try clear hfz36_0 hfz36_1 hfz36_2 hfz36_3 hfz36_4 hfz36_5 hfz36_6
    try clear hfz44_0 hfz44_1 hfz44_2 hfz44_3 hfz44_4 hfz44_5 hfz44_6
    try clear hfz46_0 hfz46_1 hfz46_2 hfz46_3 hfz46_4 hfz46_5 hfz46_6
    try clear hfz54_0 hfz54_1 hfz54_2 hfz54_3 hfz54_4 hfz54_5 hfz54_6
    try clear hfz56_0 hfz56_1 hfz56_2 hfz56_3 hfz56_4 hfz56_5 hfz56_6
    try clear hx335_0
    try clear p2
    try clear p335
    try clear p6
    try clear q335
    obtain ⟨x16_2, rfl, HA, HK2, HO_8, HB⟩ := hrel
    cases gk with
    | zero => exact absurd HA.out (by simp [laws_FnRoots.l0])
    | succ k2 =>
     have H := HA.out
     clear HA
     simp only [laws_FnRoots.l0] at H
     by_cases c64 : (wrap64 (x16_2 + 1)) < (t323.length : Int)
     ·rw [if_pos c64] at H
      have c64b0 : decide ((wrap64 (x16_2 + 1)) < (t323.length : Int)) = true := decide_eq_true c64
      clear c64
      by_cases c65 : 0 ≤ x16_2
      rotate_left
      ·rw [if_neg c65] at H
       exact absurd H (by simp)
      rw [if_pos c65] at H
      have c65b0 : decide (0 ≤ x16_2) = true := decide_eq_true c65
      clear c65
      by_cases c66 : x16_2 < (t323.length : Int)
      rotate_left
      ·rw [if_neg c66] at H
       exact absurd H (by simp)
      rw [if_pos c66] at H
      have c66b0 : decide (x16_2 < (t323.length : Int)) = true := decide_eq_true c66
      clear c66
      obtain ⟨ji67, hji67⟩ : ∃ j_ : Int, (wrap64 ((wrap64 ((t323.length : Int) - 2)) - x16_2)) = j_ := ⟨_, rfl⟩
      replace H : (if 0 ≤ (ji67) then (if (ji67) < (t323.length : Int) then (if (rd t323 x16_2) = (rd t323 (ji67)) then (laws_FnRoots.l0 k2 l0 (wrap64 ((wrap64 (t315 * 4)) + t316)) t323 (t323.length : Int) (wrap64 (x16_2 + 1))) else (some false)) else (none)) else (none)) = some r := by first | (rw [hji67] at H; exact H) | (simp only [hji67] at H ⊢; exact H)
      have hji67w : (IntKind.i64.wrap ((wrap64 ((t323.length : Int) - 2)) - x16_2)) = ji67 := (i64_w _).trans hji67
      by_cases c68 : 0 ≤ (ji67)
      rotate_left
      ·rw [if_neg c68] at H
       exact absurd H (by simp)
      rw [if_pos c68] at H
      have c68b0 : decide (0 ≤ (ji67)) = true := decide_eq_true c68
      clear c68
      by_cases c69 : (ji67) < (t323.length : Int)
      rotate_left
      ·rw [if_neg c69] at H
       exact absurd H (by simp)
      rw [if_pos c69] at H
      have c69b0 : decide ((ji67) < (t323.length : Int)) = true := decide_eq_true c69
      clear c69
      by_cases c70 : (rd t323 x16_2) = (rd t323 (ji67))
      ·rw [if_pos c70] at H
       have c70b0 : ((rd t323 x16_2) == (rd t323 (ji67))) = true := beq_iff_eq.mpr c70
       have c70b1 : ((rd t323 x16_2) != (rd t323 (ji67))) = false := bne_eq_false_iff_eq.mpr c70
       clear c70
       have H' := aM10_ H
       clear H
       try go_wp2
       have n0_ := aM10_ (Kd.R_drew HO_8.out)
       have n1_ := aM10_ (bD10_ HB.out)
       clear HO_8 HB
       have HO_8 := n0_
       have HB := n1_
       clear n0_ n1_
       have p336 : 0 ≤ (x16_2 : Int) := of_decide_eq_true q10x41_
       have q336 : x16_2 < (t323.length : Int) := of_decide_eq_true q10x41_
       obtain ⟨ad336, e336, hx336_0⟩ := Kd.at_int (Kd.R_reads' HO_8.out).2.2 x16_2 p336 q336
       obtain rfl : ad335 = ad336 := (by injection e336)
       replace p336 := eq_true p336
       replace q336 := eq_true q336
       have p337 : 0 ≤ ((ji67) : Int) := of_decide_eq_true q10x41_
       have q337 : (ji67) < (t323.length : Int) := of_decide_eq_true q10x41_
       obtain ⟨ad337, e337, hx337_0⟩ := Kd.at_int (Kd.R_reads' HO_8.out).2.2 (ji67) p337 q337
       obtain rfl : ad335 = ad337 := (by injection e337)
       replace p337 := eq_true p337
       replace q337 := eq_true q337
       refine start_ (n := 12) (S := fun w' => w'.cell? (ad335.add (x16_2).toNat) = some (.int .i64 (rd t323 x16_2)) ∧ w'.cell? (ad335.add ((ji67)).toNat) = some (.int .i64 (rd t323 (ji67)))) (ds := []) #[false, false, false, false, false, false, false, false, false, false, false, false] (by kernel_rfl) rfl rfl ⟨hx336_0, hx337_0⟩ (fun hHeld => ?_); refine with_tabW laws_FnRoots.tab18 laws_FnRoots.bits18 (fun HT_ HW_ => ?_)
       generalize wr.drew = w71 at HO_8 HB hx336_0 hx337_0 hHeld ⊢
       refine pure_ (i := 0) (N := some 133) (v := ?_) (a' := ?_) #[true, false, false, false, false, false, false, false, false, false, false, false] rfl rfl (any_of HT_.out (by kernel_rfl)) (fun _ _ _ h => h) (Or.inl ⟨by rfl, ?_⟩) ?_ ?_
       rotate_left
       ·exact q10x66_
       rotate_left
       ·exact q10x67_
       refine pure_ (i := 1) (N := some 134) (v := ?_) (a' := ?_) #[true, true, false, false, false, false, false, false, false, false, false, false] rfl rfl (any_of HT_.out (by kernel_rfl)) (fun _ _ _ h => h) (Or.inl ⟨by rfl, ?_⟩) ?_ ?_
       rotate_left
       ·exact q10x66_
       rotate_left
       ·exact q10x67_
       refine pure_ (i := 2) (N := some 135) (v := ?_) (a' := ?_) #[true, true, true, false, false, false, false, false, false, false, false, false] rfl rfl (any_of HT_.out (by kernel_rfl)) (fun _ _ _ h => h) (Or.inl ⟨by rfl, ?_⟩) ?_ ?_
       rotate_left
       ·exact q10x66_
       rotate_left
       ·exact q10x67_
       refine pure_ (i := 4) (N := some 137) (v := ?_) (a' := ?_) #[true, true, true, false, true, false, false, false, false, false, false, false] rfl rfl (any_of HT_.out (by kernel_rfl)) (fun _ _ _ h => h) (Or.inl ⟨by rfl, ?_⟩) ?_ ?_
       rotate_left
       ·exact q10x66_
       rotate_left
       ·exact q10x67_
       refine pure_ (i := 5) (N := some 138) (v := ?_) (a' := ?_) #[true, true, true, false, true, true, false, false, false, false, false, false] rfl rfl (any_of HT_.out (by kernel_rfl)) (fun _ _ _ h => h) (Or.inl ⟨by rfl, ?_⟩) ?_ ?_
       rotate_left
       ·exact q10x66_
       rotate_left
       ·exact q10x67_
       refine pure_ (i := 6) (N := some 139) (v := ?_) (a' := ?_) #[true, true, true, false, true, true, true, false, false, false, false, false] rfl rfl (any_of HT_.out (by kernel_rfl)) (fun _ _ _ h => h) (Or.inl ⟨by rfl, ?_⟩) ?_ ?_
       rotate_left
       ·exact q10x66_
       rotate_left
       ·exact q10x67_
       refine pure_ (i := 7) (N := some 140) (v := ?_) (a' := ?_) #[true, true, true, false, true, true, true, true, false, false, false, false] rfl rfl (any_of HT_.out (by kernel_rfl)) (fun _ _ _ h => h) (Or.inl ⟨by rfl, ?_⟩) ?_ ?_
       rotate_left
       ·exact q10x66_
       rotate_left
       ·exact q10x67_
       refine pure_ (i := 8) (N := some 141) (v := ?_) (a' := ?_) #[true, true, true, false, true, true, true, true, true, false, false, false] rfl rfl (any_of HT_.out (by kernel_rfl)) (fun _ _ _ h => h) (Or.inl ⟨by rfl, ?_⟩) ?_ ?_
       rotate_left
       ·exact q10x66_
       rotate_left
       ·exact q10x67_
       refine pure_ (i := 9) (N := some 142) (v := ?_) (a' := ?_) #[true, true, true, false, true, true, true, true, true, true, false, false] rfl rfl (any_of HT_.out (by kernel_rfl)) (fun _ _ _ h => h) (Or.inl ⟨by rfl, ?_⟩) ?_ ?_
       rotate_left
       ·exact q10x66_
       rotate_left
       ·exact q10x67_
       refine take_ (i := 3) (N := some 136) (v := ?_) (a' := ?_) #[true, true, true, true, true, true, true, true, true, true, false, false] rfl rfl (take_ofW HT_.out HW_.out (by kernel_rfl)) (fun _ _ _ h => h) (Or.inl ⟨by rfl, ?_⟩) hHeld ?_ ?_
       rotate_left
       ·rintro w' ⟨s0, s1⟩
        go_simp
        with_reducible rfl
       rotate_left
       ·exact q10x67_
       refine take_ (i := 10) (N := some 143) (v := ?_) (a' := ?_) #[true, true, true, true, true, true, true, true, true, true, true, false] rfl rfl (take_ofW HT_.out HW_.out (by kernel_rfl)) (fun _ _ _ h => h) (Or.inl ⟨by rfl, ?_⟩) hHeld ?_ ?_
       rotate_left
       ·rintro w' ⟨s0, s1⟩
        go_simp
        with_reducible rfl
       rotate_left
       ·exact q10x67_
       refine pure_ (i := 11) (N := some 144) (v := ?_) (a' := ?_) #[true, true, true, true, true, true, true, true, true, true, true, true] rfl rfl (any_of HT_.out (by kernel_rfl)) (fun _ _ _ h => h) (Or.inl ⟨by rfl, ?_⟩) ?_ ?_
       rotate_left
       ·exact q10x66_
       rotate_left
       ·exact q10x67_
       refine done_ (done_of HT_.out (by kernel_rfl)) ?_
       try go_wp2
       go_roundg k2
       case measure => have := HJ7.out; have := HK2.out; omega
       case rel => exact ⟨(wrap64 (x16_2 + 1)), q10x35_, H', ⟨by have := HJ7.out; have := HK2.out; omega⟩, ⟨by (with_reducible repeat (first | apply Kd.R_alloc | apply Kd.R_drewN | apply Kd.R_drew)); exact HO_8.out⟩, ⟨by repeat (first | (with_reducible first | exact HB.out | apply bA10_ | apply bN10_ | apply bD10_) | exact HB.out)⟩⟩
      rw [if_neg c70] at H
      have c70b0 : ((rd t323 x16_2) == (rd t323 (ji67))) = false := beq_eq_false_iff_ne.mpr c70
      have c70b1 : ((rd t323 x16_2) != (rd t323 (ji67))) = true := bne_iff_ne.mpr c70
      exact (noF_ HT.out H).elim
     rw [if_neg c64] at H
     have c64b0 : decide ((wrap64 (x16_2 + 1)) < (t323.length : Int)) = false := decide_eq_false c64
     clear c64
     replace H := Option.bind_eq_some_iff.mp H
     obtain ⟨t338, A730, H⟩ := H
     replace H : ((impl_RootTermAt.f k2 (wrap64 ((wrap64 (t315 * 4)) + t316)) t338).bind fun bt339 => ((spec_RootTermAt.f k2 (wrap64 ((wrap64 (t315 * 4)) + t316)) t338).bind fun bt341 => (if bt339.2 = bt341.2 then (if bt339.2 = 0 then (laws_FnRoots.j2 k2 (wrap64 ((wrap64 (t315 * 4)) + t316)) (bt339.1 != bt341.1)) else (laws_FnRoots.j2 k2 (wrap64 ((wrap64 (t315 * 4)) + t316)) true)) else (laws_FnRoots.j2 k2 (wrap64 ((wrap64 (t315 * 4)) + t316)) true)))) = some r := H
     have A73 := aM10_ A730
     clear A730
     replace H := Option.bind_eq_some_iff.mp H
     obtain ⟨⟨t339, t340⟩, A740, H⟩ := H
     replace H : ((spec_RootTermAt.f k2 (wrap64 ((wrap64 (t315 * 4)) + t316)) t338).bind fun bt341 => (if t340 = bt341.2 then (if t340 = 0 then (laws_FnRoots.j2 k2 (wrap64 ((wrap64 (t315 * 4)) + t316)) (t339 != bt341.1)) else (laws_FnRoots.j2 k2 (wrap64 ((wrap64 (t315 * 4)) + t316)) true)) else (laws_FnRoots.j2 k2 (wrap64 ((wrap64 (t315 * 4)) + t316)) true))) = some r := H
     have A74 := aM10_ A740
     clear A740
     replace H := Option.bind_eq_some_iff.mp H
     obtain ⟨⟨t341, t342⟩, A750, H⟩ := H
     replace H : (if t340 = t342 then (if t340 = 0 then (laws_FnRoots.j2 k2 (wrap64 ((wrap64 (t315 * 4)) + t316)) (t339 != t341)) else (laws_FnRoots.j2 k2 (wrap64 ((wrap64 (t315 * 4)) + t316)) true)) else (laws_FnRoots.j2 k2 (wrap64 ((wrap64 (t315 * 4)) + t316)) true)) = some r := H
     have A75 := aM10_ A750
     clear A750
     have HC76 := aM10_ H
     clear H
     go_upto_region 23 with (first | ((with_reducible refine gate_callee (f := 38) rfl ?_); refine goesL_ (some 146) rfl rfl Try.func38 (by kernel_rfl) rfl #[.slice A0 l0.length c0, .int .i64 2, .int .i64 200] rfl q10x7_ ?_; (with_reducible refine (laws_a2At.calls _ _ l0 2 200 t338 _ ?side1 ?side2 A73.out).mono ?_); (case side1 => repeat (first | exact (Kd.C_below HR0.out HB.out) | (with_reducible refine Kd.C_alloc ?_ _) | (with_reducible refine Kd.C_drewN ?_ _) | (with_reducible refine Kd.C_drew ?_))); (case side2 => exact HC0.out); rintro e w' ⟨rfl, ⟨nd, rfl⟩⟩; refine ⟨_, rfl, ?_⟩) | ((with_reducible refine gate_callee (f := 42) rfl ?_); refine goesL_ (some 150) rfl rfl Try.func42 (by kernel_rfl) rfl #[.int .i64 (wrap64 ((wrap64 (t315 * 4)) + t316)), .int .i64 t338] rfl q10x7_ ?_; (with_reducible refine (impl_RootTermAt.calls k2 (wrap64 ((wrap64 (t315 * 4)) + t316)) t338 t339 t340 _ A74.out).mono ?_); rintro e w77 ⟨rfl, hb⟩; refine ⟨_, rfl, ?_⟩; have n0_ := aM10_ (Kd.R_below q10x27_ hb); have n1_ := aM10_ (bT10_ q10x19_ hb); clear HO_8 HB; have HO_8 := n0_; have HB := n1_; clear n0_ n1_; (try clear hb); (try clear hb2); (try clear hk); (try clear hi)) | ((with_reducible refine gate_callee (f := 43) rfl ?_); refine goesL_ (some 156) rfl rfl Try.func43 (by kernel_rfl) rfl #[.int .i64 (wrap64 ((wrap64 (t315 * 4)) + t316)), .int .i64 t338] rfl q10x7_ ?_; (with_reducible refine (spec_RootTermAt.calls k2 (wrap64 ((wrap64 (t315 * 4)) + t316)) t338 t341 t342 _ A75.out).mono ?_); rintro e w78 ⟨rfl, hb⟩; refine ⟨_, rfl, ?_⟩; have n0_ := aM10_ (Kd.R_below q10x27_ hb); have n1_ := aM10_ (bT10_ q10x19_ hb); clear HO_8 HB; have HO_8 := n0_; have HB := n1_; clear n0_ n1_; (try clear hb); (try clear hb2); (try clear hk); (try clear hi)))
     (try simp only [Act.put, List.setIfInBounds_toArray, List.set_cons_zero, List.set_cons_succ])
     go_cut [170] (fun v170 wc => ∃ (kq : Nat) (x170_75 : Bool), v170 = .bool x170_75 ∧ Aside0 (laws_FnRoots.j2 kq (wrap64 ((wrap64 (t315 * 4)) + t316)) x170_75 = some r) ∧ Aside0 (kq ≤ k2) ∧ Aside0 (Below w.heap.size w wc))
     case first => as_aux_lemma =>
      have H := HC76.out
      clear HC76
      by_cases c79 : t340 = t342
      rotate_left
      ·rw [if_neg c79] at H
       have c79b0 : (t340 == t342) = false := beq_eq_false_iff_ne.mpr c79
       have c79b1 : (t340 != t342) = true := bne_iff_ne.mpr c79
       (first | rw [c79b0] | (simp only [i64_w, i32_w]; rw [c79b0]) | skip)
       exact (noj2_ HT.out H).elim
      rw [if_pos c79] at H
      have c79b0 : (t340 == t342) = true := beq_iff_eq.mpr c79
      have c79b1 : (t340 != t342) = false := bne_eq_false_iff_eq.mpr c79
      clear c79
      (first | rw [c79b0] | (simp only [i64_w, i32_w]; rw [c79b0]) | skip)
      by_cases c80 : t340 = 0
      ·rw [if_pos c80] at H
       have c80b0 : (t340 == 0) = true := beq_iff_eq.mpr c80
       have c80b1 : (t340 != 0) = false := bne_eq_false_iff_eq.mpr c80
       clear c80
       have H' := aM10_ H
       clear H
       go_wp2
       go_meet
       case rel => exact ⟨_, ((t339 != t341)), q10x35_, H', ⟨by have := HJ7.out; have := HK2.out; first | omega | exact Nat.le_refl _⟩, ⟨by repeat (first | (with_reducible first | exact HB.out | apply bA10_ | apply bN10_ | apply bD10_) | exact HB.out)⟩⟩
      rw [if_neg c80] at H
      have c80b0 : (t340 == 0) = false := beq_eq_false_iff_ne.mpr c80
      have c80b1 : (t340 != 0) = true := bne_iff_ne.mpr c80
      exact (noj2_ HT.out H).elim
     case rest =>
      clear HC76
      try clear c1
      try clear c2
      try clear p2
      try clear c3
      try clear p3
      try clear q3
      try clear hx3
      try clear c4
      try clear c5
      try clear c6
      try clear p6
      try clear c7
      try clear c8
      try clear c10
      try clear c11
      try clear c11b0
      try clear c11b1
      try clear c12
      try clear c12b0
      try clear c12b1
      try clear c13
      try clear c13b0
      try clear c13b1
      try clear c15
      try clear c16
      try clear c16b0
      try clear c23
      try clear c24
      try clear c24b0
      try clear c24b1
      try clear c24b2
      try clear c27
      try clear c27b0
      try clear c27b1
      try clear c28
      try clear c28b0
      try clear c28b1
      try clear c33
      try clear p33
      try clear q33
      try clear hx33
      try clear c37
      try clear c38
      try clear c39
      try clear c40
      try clear c42
      try clear c43
      try clear c53
      try clear c60
      try clear c60b0
      try clear c61
      try clear c61b0
      try clear c62
      try clear c62b0
      try clear c62b1
      try clear c64
      try clear c64b0
      try clear p64
      try clear c65
      try clear c65b0
      try clear c66
      try clear c66b0
      try clear c68
      try clear c68b0
      try clear c69
      try clear c69b0
      try clear c70
      try clear c70b0
      try clear c70b1
      try clear c79
      try clear c79b0
      try clear c79b1
      try clear c80
      try clear c80b0
      try clear c80b1
      try clear hcz34_0 hcz34_1 hcz34_2 hcz34_3 hcz34_4 hcz34_5 hcz34_6
      try clear hcz36_0 hcz36_1 hcz36_2 hcz36_3 hcz36_4 hcz36_5 hcz36_6
      try clear hcz44_0 hcz44_1 hcz44_2 hcz44_3 hcz44_4 hcz44_5 hcz44_6
      try clear hcz46_0 hcz46_1 hcz46_2 hcz46_3 hcz46_4 hcz46_5 hcz46_6
      try clear hcz54_0 hcz54_1 hcz54_2 hcz54_3 hcz54_4 hcz54_5 hcz54_6
      try clear hcz56_0 hcz56_1 hcz56_2 hcz56_3 hcz56_4 hcz56_5 hcz56_6
      try clear hfz34_0 hfz34_1 hfz34_2 hfz34_3 hfz34_4 hfz34_5 hfz34_6
      try clear hfz36_0 hfz36_1 hfz36_2 hfz36_3 hfz36_4 hfz36_5 hfz36_6
      try clear hfz44_0 hfz44_1 hfz44_2 hfz44_3 hfz44_4 hfz44_5 hfz44_6
      try clear hfz46_0 hfz46_1 hfz46_2 hfz46_3 hfz46_4 hfz46_5 hfz46_6
      try clear hfz54_0 hfz54_1 hfz54_2 hfz54_3 hfz54_4 hfz54_5 hfz54_6
      try clear hfz56_0 hfz56_1 hfz56_2 hfz56_3 hfz56_4 hfz56_5 hfz56_6
      try clear hx335_0
      try clear hx336_0
      try clear hx337_0
      try clear p2
      try clear p3
      try clear p33
      try clear p335
      try clear p336
      try clear p337
      try clear p6
      try clear q3
      try clear q33
      try clear q335
      try clear q336
      try clear q337
      obtain ⟨kq, x170_75, rfl, HA, HJ75, HB⟩ := hcut
      cases kq with
      | zero => exact absurd HA.out (by simp [laws_FnRoots.j2])
      | succ kj75 =>
       have H := HA.out
       clear HA
       simp only [laws_FnRoots.j2] at H
       by_cases c81 : x170_75 = true
       ·subst c81
        have H1 : (some false) = some r := by rw [if_pos rfl] at H; exact H
        clear H
        have H := H1
        clear H1
        exact (noF_ HT.out H).elim
       replace c81 := Bool.eq_false_iff.mpr c81
       subst c81
       have H1 : ((impl_UnitOf.f kj75 (wrap64 ((wrap64 (t315 * 4)) + t316))).bind fun bt343 => ((spec_UnitOf.f kj75 (wrap64 ((wrap64 (t315 * 4)) + t316))).bind fun bt348 => (if bt343.2.2 = bt348.2.2 then (if bt343.2.2 = 0 then (if (!(bt343.1.f0 == bt348.1.f0) || ((!(bt343.1.f1.f0 == bt348.1.f1.f0) || (!(bt343.1.f1.f1 == bt348.1.f1.f1) || (!(bt343.1.f1.f2 == bt348.1.f1.f2) || (!(bt343.1.f1.f3 == bt348.1.f1.f3) || (!(bt343.1.f1.f4 == bt348.1.f1.f4) || (!(bt343.1.f1.f5 == bt348.1.f1.f5))))))))) = true then (laws_FnRoots.j3 kj75 (wrap64 ((wrap64 (t315 * 4)) + t316)) bt343.2.2 true bt348.1 bt348.2.1) else (laws_FnRoots.j3 kj75 (wrap64 ((wrap64 (t315 * 4)) + t316)) bt343.2.2 (!(bt343.2.1.f0 == bt348.2.1.f0) || ((!(bt343.2.1.f1.f0 == bt348.2.1.f1.f0) || (!(bt343.2.1.f1.f1 == bt348.2.1.f1.f1) || (!(bt343.2.1.f1.f2 == bt348.2.1.f1.f2) || (!(bt343.2.1.f1.f3 == bt348.2.1.f1.f3) || (!(bt343.2.1.f1.f4 == bt348.2.1.f1.f4) || (!(bt343.2.1.f1.f5 == bt348.2.1.f1.f5))))))))) bt348.1 bt348.2.1)) else (laws_FnRoots.j3 kj75 (wrap64 ((wrap64 (t315 * 4)) + t316)) bt343.2.2 false bt348.1 bt348.2.1)) else (laws_FnRoots.j3 kj75 (wrap64 ((wrap64 (t315 * 4)) + t316)) bt343.2.2 true bt348.1 bt348.2.1)))) = some r := by rw [if_neg (show ¬ (false = true) by decide)] at H; exact H
       clear H
       have H := H1
       clear H1
       replace H := Option.bind_eq_some_iff.mp H
       obtain ⟨⟨t343, t344, t345⟩, A820, H⟩ := H
       replace H : ((spec_UnitOf.f kj75 (wrap64 ((wrap64 (t315 * 4)) + t316))).bind fun bt348 => (if t345 = bt348.2.2 then (if t345 = 0 then (if (!(t343.f0 == bt348.1.f0) || ((!(t343.f1.f0 == bt348.1.f1.f0) || (!(t343.f1.f1 == bt348.1.f1.f1) || (!(t343.f1.f2 == bt348.1.f1.f2) || (!(t343.f1.f3 == bt348.1.f1.f3) || (!(t343.f1.f4 == bt348.1.f1.f4) || (!(t343.f1.f5 == bt348.1.f1.f5))))))))) = true then (laws_FnRoots.j3 kj75 (wrap64 ((wrap64 (t315 * 4)) + t316)) t345 true bt348.1 bt348.2.1) else (laws_FnRoots.j3 kj75 (wrap64 ((wrap64 (t315 * 4)) + t316)) t345 (!(t344.f0 == bt348.2.1.f0) || ((!(t344.f1.f0 == bt348.2.1.f1.f0) || (!(t344.f1.f1 == bt348.2.1.f1.f1) || (!(t344.f1.f2 == bt348.2.1.f1.f2) || (!(t344.f1.f3 == bt348.2.1.f1.f3) || (!(t344.f1.f4 == bt348.2.1.f1.f4) || (!(t344.f1.f5 == bt348.2.1.f1.f5))))))))) bt348.1 bt348.2.1)) else (laws_FnRoots.j3 kj75 (wrap64 ((wrap64 (t315 * 4)) + t316)) t345 false bt348.1 bt348.2.1)) else (laws_FnRoots.j3 kj75 (wrap64 ((wrap64 (t315 * 4)) + t316)) t345 true bt348.1 bt348.2.1))) = some r := H
       have A82 := aM10_ A820
       clear A820
       replace H := Option.bind_eq_some_iff.mp H
       obtain ⟨⟨t348, t349, t350⟩, A830, H⟩ := H
       replace H : (if t345 = t350 then (if t345 = 0 then (if (!(t343.f0 == t348.f0) || ((!(t343.f1.f0 == t348.f1.f0) || (!(t343.f1.f1 == t348.f1.f1) || (!(t343.f1.f2 == t348.f1.f2) || (!(t343.f1.f3 == t348.f1.f3) || (!(t343.f1.f4 == t348.f1.f4) || (!(t343.f1.f5 == t348.f1.f5))))))))) = true then (laws_FnRoots.j3 kj75 (wrap64 ((wrap64 (t315 * 4)) + t316)) t345 true t348 t349) else (laws_FnRoots.j3 kj75 (wrap64 ((wrap64 (t315 * 4)) + t316)) t345 (!(t344.f0 == t349.f0) || ((!(t344.f1.f0 == t349.f1.f0) || (!(t344.f1.f1 == t349.f1.f1) || (!(t344.f1.f2 == t349.f1.f2) || (!(t344.f1.f3 == t349.f1.f3) || (!(t344.f1.f4 == t349.f1.f4) || (!(t344.f1.f5 == t349.f1.f5))))))))) t348 t349)) else (laws_FnRoots.j3 kj75 (wrap64 ((wrap64 (t315 * 4)) + t316)) t345 false t348 t349)) else (laws_FnRoots.j3 kj75 (wrap64 ((wrap64 (t315 * 4)) + t316)) t345 true t348 t349)) = some r := H
       have A83 := aM10_ A830
       clear A830
       have HC84 := aM10_ H
       clear H
       go_upto_region 27 with (first | ((with_reducible refine gate_callee (f := 12) rfl ?_); refine goesL_ (some 173) rfl rfl Try.func12 (by kernel_rfl) rfl #[.int .i64 (wrap64 ((wrap64 (t315 * 4)) + t316))] rfl q10x7_ ?_; (with_reducible refine (impl_UnitOf.calls kj75 (wrap64 ((wrap64 (t315 * 4)) + t316)) t343 t344 t345 _ A82.out).mono ?_); rintro e w85 ⟨rfl, hb⟩; refine ⟨_, rfl, ?_⟩; have n0_ := aM10_ (bT10_ q10x19_ hb); clear HB; have HB := n0_; clear n0_; (try clear hb); (try clear hb2); (try clear hk); (try clear hi)) | ((with_reducible refine gate_dst (N := 22) rfl ?_); refine box_event ?hg (N := 22) ?hd (cs := #[.bool false, .int .u32 0, .int .u32 0, .int .u32 0, .int .u32 0, .int .u32 0, .int .u32 0]) (t := 25) ?hr ?_; (case hd => rfl); (case hg => rfl); (case hr => first | (go_simp; done) | (go_simp; rfl)); intro gb346 hg w86 hbox hb; have n0_ := aM10_ (bT10_ q10x19_ hb); have n1_ := aM10_ (hbox); have n2_ := aM10_ ((q10x55_ : w.heap.size ≤ gb346)); have n3_ := aM10_ ((q10x55_ : w.heap.size ≤ gb346)); clear HB; have HB := n0_; have BK346 := n1_; have GW346 := n2_; have GE346 := n3_; clear n0_ n1_ n2_ n3_; clear hb hbox hg) | ((with_reducible refine gate_dst (N := 23) rfl ?_); refine box_event ?hg (N := 23) ?hd (cs := #[.bool false, .int .u32 0, .int .u32 0, .int .u32 0, .int .u32 0, .int .u32 0, .int .u32 0]) (t := 25) ?hr ?_; (case hd => rfl); (case hg => rfl); (case hr => first | (go_simp; done) | (go_simp; rfl)); intro gb347 hg w87 hbox hb; have n0_ := kZ_ gb346 q10x3_ hb; have n1_ := aM10_ (bT10_ q10x47_ hb); have n2_ := aM10_ (hbox); have n3_ := aM10_ ((by rw [hg]; exact (below_size q10x47_) : w.heap.size ≤ gb347)); have n4_ := aM10_ ((by rw [hg]; exact (below_size q10x47_) : w.heap.size ≤ gb347)); have n5_ := aM10_ ((by rw [hg]; exact Nat.ne_of_lt (lZ_ gb346 q10x3_) : gb346 ≠ gb347)); have n6_ := aM10_ ((by rw [hg]; exact Nat.ne_of_gt (lZ_ gb346 q10x3_) : gb347 ≠ gb346)); clear BK346 HB; have BK346 := n0_; have HB := n1_; have BK347 := n2_; have GW347 := n3_; have GE347 := n4_; have NB346_347 := n5_; have NB347_346 := n6_; clear n0_ n1_ n2_ n3_ n4_ n5_ n6_; clear hb hbox hg; have hnb88 := NB346_347.out; have hnc88 := NB347_346.out; obtain ⟨hcz89_0, hcz89_1, hcz89_2, hcz89_3, hcz89_4, hcz89_5, hcz89_6⟩ := cells7_ BK346.out; obtain ⟨hfz89_0, hfz89_1, hfz89_2, hfz89_3, hfz89_4, hfz89_5, hfz89_6⟩ := frozen7_ BK346.out) | ((with_reducible refine gate_store (t := 25) (p := 22) rfl ?_); refine store_event (t := 25) (p := 22) (v := ?vo_w90) (w1 := (pS_ w87 gb346 t343)) ?hg ?ho ?hn ?hr ?_; (case ho => rfl); (case hg => rfl); (case hn => rfl); (case hr => first | ((try simp only [Act.put, List.setIfInBounds_toArray, List.set_cons_zero, List.set_cons_succ]); exact run_put7_ rfl (show _ = Value.pointer (some ⟨gb346, 0, none⟩) from by rfl) (show _ = Value.agg #[.bool t343.f0, .int .u32 t343.f1.f0, .int .u32 t343.f1.f1, .int .u32 t343.f1.f2, .int .u32 t343.f1.f3, .int .u32 t343.f1.f4, .int .u32 t343.f1.f5] from by rfl) BK346.out (by kernel_rfl) (by rfl)) | (go_simp; done) | (go_simp; rfl)); intro w90 hw; have n0_ : bW_ w90 gb346 t343 := ⟨(by rw [hw]; exact (by (with_reducible repeat (first | refine kN10_ ?_ _ | refine kD10_ ?_ | refine kA10_ ?_ _)); refine puts7_ (.bool false) (.int .u32 0) (.int .u32 0) (.int .u32 0) (.int .u32 0) (.int .u32 0) (.int .u32 0) ?_; (with_reducible repeat (first | refine kN10_ ?_ _ | refine kD10_ ?_ | refine kA10_ ?_ _)); exact BK346.out))⟩; have n1_ : bZ_ w90 gb347 := ⟨(by rw [hw]; exact (by (with_reducible repeat (first | refine kN10_ ?_ _ | refine kD10_ ?_ | refine kA10_ ?_ _ | refine blk_far ?_ NB347_346.out _)); (with_reducible repeat (first | refine kN10_ ?_ _ | refine kD10_ ?_ | refine kA10_ ?_ _)); exact BK347.out))⟩; have n2_ : Aside0 (Below w.heap.size w w90) := ⟨(by rw [hw]; exact q10x32_)⟩; clear hw; clear BK346; clear BK347; clear HB; have BK346 := n0_; have BK347 := n1_; have HB := n2_; clear n0_ n1_ n2_; obtain ⟨hcz91_0, hcz91_1, hcz91_2, hcz91_3, hcz91_4, hcz91_5, hcz91_6⟩ := cells7_ BK347.out; obtain ⟨hfz91_0, hfz91_1, hfz91_2, hfz91_3, hfz91_4, hfz91_5, hfz91_6⟩ := frozen7_ BK347.out) | ((with_reducible refine gate_store (t := 25) (p := 23) rfl ?_); refine store_event (t := 25) (p := 23) (v := ?vo_w92) (w1 := (pS_ w90 gb347 t344)) ?hg ?ho ?hn ?hr ?_; (case ho => rfl); (case hg => rfl); (case hn => rfl); (case hr => first | ((try simp only [Act.put, List.setIfInBounds_toArray, List.set_cons_zero, List.set_cons_succ]); exact run_put7_ rfl (show _ = Value.pointer (some ⟨gb347, 0, none⟩) from by rfl) (show _ = Value.agg #[.bool t344.f0, .int .u32 t344.f1.f0, .int .u32 t344.f1.f1, .int .u32 t344.f1.f2, .int .u32 t344.f1.f3, .int .u32 t344.f1.f4, .int .u32 t344.f1.f5] from by rfl) BK347.out (by kernel_rfl) (by rfl)) | (go_simp; done) | (go_simp; rfl)); intro w92 hw; have n0_ : bW_ w92 gb346 t343 := ⟨(by rw [hw]; exact (by (with_reducible repeat (first | refine kN10_ ?_ _ | refine kD10_ ?_ | refine kA10_ ?_ _ | refine blk_far ?_ NB346_347.out _)); (with_reducible repeat (first | refine kN10_ ?_ _ | refine kD10_ ?_ | refine kA10_ ?_ _)); exact BK346.out))⟩; have n1_ : bW_ w92 gb347 t344 := ⟨(by rw [hw]; exact (by (with_reducible repeat (first | refine kN10_ ?_ _ | refine kD10_ ?_ | refine kA10_ ?_ _)); refine puts7_ (.bool false) (.int .u32 0) (.int .u32 0) (.int .u32 0) (.int .u32 0) (.int .u32 0) (.int .u32 0) ?_; (with_reducible repeat (first | refine kN10_ ?_ _ | refine kD10_ ?_ | refine kA10_ ?_ _)); exact BK347.out))⟩; have n2_ : Aside0 (Below w.heap.size w w92) := ⟨(by rw [hw]; exact q10x32_)⟩; clear hw; clear BK346; clear BK347; clear HB; have BK346 := n0_; have BK347 := n1_; have HB := n2_; clear n0_ n1_ n2_) | ((with_reducible refine gate_callee (f := 11) rfl ?_); refine goesL_ (some 179) rfl rfl Try.func11 (by kernel_rfl) rfl #[.int .i64 (wrap64 ((wrap64 (t315 * 4)) + t316))] rfl q10x7_ ?_; (with_reducible refine (spec_UnitOf.calls kj75 (wrap64 ((wrap64 (t315 * 4)) + t316)) t348 t349 t350 _ A83.out).mono ?_); rintro e w93 ⟨rfl, hb⟩; refine ⟨_, rfl, ?_⟩; have n0_ := kW_ gb346 t343 q10x3_ hb; have n1_ := kW_ gb347 t344 q10x4_ hb; have n2_ := aM10_ (bT10_ q10x32_ hb); clear BK346 BK347 HB; have BK346 := n0_; have BK347 := n1_; have HB := n2_; clear n0_ n1_ n2_; (try clear hb); (try clear hb2); (try clear hk); (try clear hi)) | ((with_reducible refine gate_dst (N := 25) rfl ?_); refine box_event ?hg (N := 25) ?hd (cs := #[.bool false, .int .u32 0, .int .u32 0, .int .u32 0, .int .u32 0, .int .u32 0, .int .u32 0]) (t := 25) ?hr ?_; (case hd => rfl); (case hg => rfl); (case hr => first | (go_simp; done) | (go_simp; rfl)); intro gb351 hg w94 hbox hb; have n0_ := kW_ gb346 t343 q10x3_ hb; have n1_ := kW_ gb347 t344 q10x4_ hb; have n2_ := aM10_ (bT10_ q10x32_ hb); have n3_ := aM10_ (hbox); have n4_ := aM10_ ((by rw [hg]; exact (below_size q10x32_) : w.heap.size ≤ gb351)); have n5_ := aM10_ ((by rw [hg]; exact (below_size q10x32_) : w.heap.size ≤ gb351)); have n6_ := aM10_ ((q10x10_ : gb346 ≠ gb351)); have n7_ := aM10_ ((q10x11_ : gb351 ≠ gb346)); have n8_ := aM10_ ((q10x12_ : gb347 ≠ gb351)); have n9_ := aM10_ ((q10x13_ : gb351 ≠ gb347)); clear BK346 BK347 HB; have BK346 := n0_; have BK347 := n1_; have HB := n2_; have BK351 := n3_; have GW351 := n4_; have GE351 := n5_; have NB346_351 := n6_; have NB351_346 := n7_; have NB347_351 := n8_; have NB351_347 := n9_; clear n0_ n1_ n2_ n3_ n4_ n5_ n6_ n7_ n8_ n9_; clear hb hbox hg) | ((with_reducible refine gate_dst (N := 26) rfl ?_); refine box_event ?hg (N := 26) ?hd (cs := #[.bool false, .int .u32 0, .int .u32 0, .int .u32 0, .int .u32 0, .int .u32 0, .int .u32 0]) (t := 25) ?hr ?_; (case hd => rfl); (case hg => rfl); (case hr => first | (go_simp; done) | (go_simp; rfl)); intro gb352 hg w95 hbox hb; have n0_ := kW_ gb346 t343 q10x3_ hb; have n1_ := kW_ gb347 t344 q10x4_ hb; have n2_ := kZ_ gb351 q10x5_ hb; have n3_ := aM10_ (bT10_ q10x42_ hb); have n4_ := aM10_ (hbox); have n5_ := aM10_ ((by rw [hg]; exact (below_size q10x42_) : w.heap.size ≤ gb352)); have n6_ := aM10_ ((by rw [hg]; exact (below_size q10x42_) : w.heap.size ≤ gb352)); have n7_ := aM10_ ((q10x10_ : gb346 ≠ gb352)); have n8_ := aM10_ ((q10x11_ : gb352 ≠ gb346)); have n9_ := aM10_ ((q10x12_ : gb347 ≠ gb352)); have n10_ := aM10_ ((q10x13_ : gb352 ≠ gb347)); have n11_ := aM10_ ((by rw [hg]; exact Nat.ne_of_lt (lZ_ gb351 q10x5_) : gb351 ≠ gb352)); have n12_ := aM10_ ((by rw [hg]; exact Nat.ne_of_gt (lZ_ gb351 q10x5_) : gb352 ≠ gb351)); clear BK346 BK347 BK351 HB; have BK346 := n0_; have BK347 := n1_; have BK351 := n2_; have HB := n3_; have BK352 := n4_; have GW352 := n5_; have GE352 := n6_; have NB346_352 := n7_; have NB352_346 := n8_; have NB347_352 := n9_; have NB352_347 := n10_; have NB351_352 := n11_; have NB352_351 := n12_; clear n0_ n1_ n2_ n3_ n4_ n5_ n6_ n7_ n8_ n9_ n10_ n11_ n12_; clear hb hbox hg; have hnb96 := NB351_346.out; have hnc96 := NB346_351.out; have hnb97 := NB351_347.out; have hnc97 := NB347_351.out; have hnb98 := NB351_352.out; have hnc98 := NB352_351.out; obtain ⟨hcz99_0, hcz99_1, hcz99_2, hcz99_3, hcz99_4, hcz99_5, hcz99_6⟩ := cells7_ BK351.out; obtain ⟨hfz99_0, hfz99_1, hfz99_2, hfz99_3, hfz99_4, hfz99_5, hfz99_6⟩ := frozen7_ BK351.out) | ((with_reducible refine gate_store (t := 25) (p := 25) rfl ?_); refine store_event (t := 25) (p := 25) (v := ?vo_w100) (w1 := (pS_ w95 gb351 t348)) ?hg ?ho ?hn ?hr ?_; (case ho => rfl); (case hg => rfl); (case hn => rfl); (case hr => first | ((try simp only [Act.put, List.setIfInBounds_toArray, List.set_cons_zero, List.set_cons_succ]); exact run_put7_ rfl (show _ = Value.pointer (some ⟨gb351, 0, none⟩) from by rfl) (show _ = Value.agg #[.bool t348.f0, .int .u32 t348.f1.f0, .int .u32 t348.f1.f1, .int .u32 t348.f1.f2, .int .u32 t348.f1.f3, .int .u32 t348.f1.f4, .int .u32 t348.f1.f5] from by rfl) BK351.out (by kernel_rfl) (by rfl)) | (go_simp; done) | (go_simp; rfl)); intro w100 hw; have n0_ : bW_ w100 gb346 t343 := ⟨(by rw [hw]; exact (by (with_reducible repeat (first | refine kN10_ ?_ _ | refine kD10_ ?_ | refine kA10_ ?_ _ | refine blk_far ?_ NB346_351.out _)); (with_reducible repeat (first | refine kN10_ ?_ _ | refine kD10_ ?_ | refine kA10_ ?_ _)); exact BK346.out))⟩; have n1_ : bW_ w100 gb347 t344 := ⟨(by rw [hw]; exact (by (with_reducible repeat (first | refine kN10_ ?_ _ | refine kD10_ ?_ | refine kA10_ ?_ _ | refine blk_far ?_ NB347_351.out _)); (with_reducible repeat (first | refine kN10_ ?_ _ | refine kD10_ ?_ | refine kA10_ ?_ _)); exact BK347.out))⟩; have n2_ : bW_ w100 gb351 t348 := ⟨(by rw [hw]; exact (by (with_reducible repeat (first | refine kN10_ ?_ _ | refine kD10_ ?_ | refine kA10_ ?_ _)); refine puts7_ (.bool false) (.int .u32 0) (.int .u32 0) (.int .u32 0) (.int .u32 0) (.int .u32 0) (.int .u32 0) ?_; (with_reducible repeat (first | refine kN10_ ?_ _ | refine kD10_ ?_ | refine kA10_ ?_ _)); exact BK351.out))⟩; have n3_ : bZ_ w100 gb352 := ⟨(by rw [hw]; exact (by (with_reducible repeat (first | refine kN10_ ?_ _ | refine kD10_ ?_ | refine kA10_ ?_ _ | refine blk_far ?_ NB352_351.out _)); (with_reducible repeat (first | refine kN10_ ?_ _ | refine kD10_ ?_ | refine kA10_ ?_ _)); exact BK352.out))⟩; have n4_ : Aside0 (Below w.heap.size w w100) := ⟨(by rw [hw]; exact q10x29_)⟩; clear hw; clear BK346; clear BK347; clear BK351; clear BK352; clear HB; have BK346 := n0_; have BK347 := n1_; have BK351 := n2_; have BK352 := n3_; have HB := n4_; clear n0_ n1_ n2_ n3_ n4_; have hnb101 := NB352_346.out; have hnc101 := NB346_352.out; have hnb102 := NB352_347.out; have hnc102 := NB347_352.out; obtain ⟨hcz103_0, hcz103_1, hcz103_2, hcz103_3, hcz103_4, hcz103_5, hcz103_6⟩ := cells7_ BK352.out; obtain ⟨hfz103_0, hfz103_1, hfz103_2, hfz103_3, hfz103_4, hfz103_5, hfz103_6⟩ := frozen7_ BK352.out) | ((with_reducible refine gate_store (t := 25) (p := 26) rfl ?_); refine store_event (t := 25) (p := 26) (v := ?vo_w104) (w1 := (pS_ w100 gb352 t349)) ?hg ?ho ?hn ?hr ?_; (case ho => rfl); (case hg => rfl); (case hn => rfl); (case hr => first | ((try simp only [Act.put, List.setIfInBounds_toArray, List.set_cons_zero, List.set_cons_succ]); exact run_put7_ rfl (show _ = Value.pointer (some ⟨gb352, 0, none⟩) from by rfl) (show _ = Value.agg #[.bool t349.f0, .int .u32 t349.f1.f0, .int .u32 t349.f1.f1, .int .u32 t349.f1.f2, .int .u32 t349.f1.f3, .int .u32 t349.f1.f4, .int .u32 t349.f1.f5] from by rfl) BK352.out (by kernel_rfl) (by rfl)) | (go_simp; done) | (go_simp; rfl)); intro w104 hw; have n0_ : bW_ w104 gb346 t343 := ⟨(by rw [hw]; exact (by (with_reducible repeat (first | refine kN10_ ?_ _ | refine kD10_ ?_ | refine kA10_ ?_ _ | refine blk_far ?_ NB346_352.out _)); (with_reducible repeat (first | refine kN10_ ?_ _ | refine kD10_ ?_ | refine kA10_ ?_ _)); exact BK346.out))⟩; have n1_ : bW_ w104 gb347 t344 := ⟨(by rw [hw]; exact (by (with_reducible repeat (first | refine kN10_ ?_ _ | refine kD10_ ?_ | refine kA10_ ?_ _ | refine blk_far ?_ NB347_352.out _)); (with_reducible repeat (first | refine kN10_ ?_ _ | refine kD10_ ?_ | refine kA10_ ?_ _)); exact BK347.out))⟩; have n2_ : bW_ w104 gb351 t348 := ⟨(by rw [hw]; exact (by (with_reducible repeat (first | refine kN10_ ?_ _ | refine kD10_ ?_ | refine kA10_ ?_ _ | refine blk_far ?_ NB351_352.out _)); (with_reducible repeat (first | refine kN10_ ?_ _ | refine kD10_ ?_ | refine kA10_ ?_ _)); exact BK351.out))⟩; have n3_ : bW_ w104 gb352 t349 := ⟨(by rw [hw]; exact (by (with_reducible repeat (first | refine kN10_ ?_ _ | refine kD10_ ?_ | refine kA10_ ?_ _)); refine puts7_ (.bool false) (.int .u32 0) (.int .u32 0) (.int .u32 0) (.int .u32 0) (.int .u32 0) (.int .u32 0) ?_; (with_reducible repeat (first | refine kN10_ ?_ _ | refine kD10_ ?_ | refine kA10_ ?_ _)); exact BK352.out))⟩; have n4_ : Aside0 (Below w.heap.size w w104) := ⟨(by rw [hw]; exact q10x29_)⟩; clear hw; clear BK346; clear BK347; clear BK351; clear BK352; clear HB; have BK346 := n0_; have BK347 := n1_; have BK351 := n2_; have BK352 := n3_; have HB := n4_; clear n0_ n1_ n2_ n3_ n4_))
       (try simp only [Act.put, List.setIfInBounds_toArray, List.set_cons_zero, List.set_cons_succ])
       go_cut [199] (fun v199 wc => ∃ (kq : Nat) (x199_83 : Bool), v199 = .bool x199_83 ∧ Aside0 (laws_FnRoots.j3 kq (wrap64 ((wrap64 (t315 * 4)) + t316)) t345 x199_83 t348 t349 = some r) ∧ Aside0 (kq ≤ kj75) ∧ bW_ wc gb346 t343 ∧ bW_ wc gb347 t344 ∧ bW_ wc gb351 t348 ∧ bW_ wc gb352 t349 ∧ Aside0 (Below w.heap.size w wc))
       case first => as_aux_lemma =>
        have H := HC84.out
        clear HC84
        by_cases c105 : t345 = t350
        rotate_left
        ·rw [if_neg c105] at H
         have c105b0 : (t345 == t350) = false := beq_eq_false_iff_ne.mpr c105
         have c105b1 : (t345 != t350) = true := bne_iff_ne.mpr c105
         (first | rw [c105b0] | (simp only [i64_w, i32_w]; rw [c105b0]) | skip)
         exact (noj3_ HT.out H).elim
        rw [if_pos c105] at H
        have c105b0 : (t345 == t350) = true := beq_iff_eq.mpr c105
        have c105b1 : (t345 != t350) = false := bne_eq_false_iff_eq.mpr c105
        clear c105
        (first | rw [c105b0] | (simp only [i64_w, i32_w]; rw [c105b0]) | skip)
        by_cases c106 : t345 = 0
        rotate_left
        ·rw [if_neg c106] at H
         have c106b0 : (t345 == 0) = false := beq_eq_false_iff_ne.mpr c106
         have c106b1 : (t345 != 0) = true := bne_iff_ne.mpr c106
         have H' := aM10_ H
         clear H
         go_wp2
         go_meet
         case rel => exact ⟨_, (false), q10x35_, H', ⟨by have := HJ7.out; have := HK2.out; have := HJ75.out; first | omega | exact Nat.le_refl _⟩, ⟨by (with_reducible repeat (first | refine kN10_ ?_ _ | refine kD10_ ?_ | refine kA10_ ?_ _)); exact BK346.out⟩, ⟨by (with_reducible repeat (first | refine kN10_ ?_ _ | refine kD10_ ?_ | refine kA10_ ?_ _)); exact BK347.out⟩, ⟨by (with_reducible repeat (first | refine kN10_ ?_ _ | refine kD10_ ?_ | refine kA10_ ?_ _)); exact BK351.out⟩, ⟨by (with_reducible repeat (first | refine kN10_ ?_ _ | refine kD10_ ?_ | refine kA10_ ?_ _)); exact BK352.out⟩, ⟨by repeat (first | (with_reducible first | exact HB.out | apply bA10_ | apply bN10_ | apply bD10_ | refine bS10_ ?_ GE346.out | refine bS10_ ?_ GE347.out | refine bS10_ ?_ GE351.out | refine bS10_ ?_ GE352.out) | exact HB.out)⟩⟩
        rw [if_pos c106] at H
        have c106b0 : (t345 == 0) = true := beq_iff_eq.mpr c106
        have c106b1 : (t345 != 0) = false := bne_eq_false_iff_eq.mpr c106
        clear c106
        by_cases c107 : (!(t343.f0 == t348.f0) || ((!(t343.f1.f0 == t348.f1.f0) || (!(t343.f1.f1 == t348.f1.f1) || (!(t343.f1.f2 == t348.f1.f2) || (!(t343.f1.f3 == t348.f1.f3) || (!(t343.f1.f4 == t348.f1.f4) || (!(t343.f1.f5 == t348.f1.f5))))))))) = true
        ·rw [if_pos c107] at H
         have c107b0 : (!(t343.f0 == t348.f0) || ((!(t343.f1.f0 == t348.f1.f0) || (!(t343.f1.f1 == t348.f1.f1) || (!(t343.f1.f2 == t348.f1.f2) || (!(t343.f1.f3 == t348.f1.f3) || (!(t343.f1.f4 == t348.f1.f4) || (!(t343.f1.f5 == t348.f1.f5))))))))) = true := c107
         clear c107
         exact (noj3_ HT.out H).elim
        rw [if_neg c107] at H
        have c107b0 : (!(t343.f0 == t348.f0) || ((!(t343.f1.f0 == t348.f1.f0) || (!(t343.f1.f1 == t348.f1.f1) || (!(t343.f1.f2 == t348.f1.f2) || (!(t343.f1.f3 == t348.f1.f3) || (!(t343.f1.f4 == t348.f1.f4) || (!(t343.f1.f5 == t348.f1.f5))))))))) = false := by simpa using c107
        clear c107
        have H' := aM10_ H
        clear H
        have hnb115 := NB346_347.out
        have hnc115 := NB347_346.out
        have hnb116 := NB346_351.out
        have hnc116 := NB351_346.out
        have hnb117 := NB346_352.out
        have hnc117 := NB352_346.out
        obtain ⟨hcz118_0, hcz118_1, hcz118_2, hcz118_3, hcz118_4, hcz118_5, hcz118_6⟩ := cells7_ BK346.out
        obtain ⟨hfz118_0, hfz118_1, hfz118_2, hfz118_3, hfz118_4, hfz118_5, hfz118_6⟩ := frozen7_ BK346.out
        have hnb119 := NB351_347.out
        have hnc119 := NB347_351.out
        have hnb120 := NB351_352.out
        have hnc120 := NB352_351.out
        obtain ⟨hcz121_0, hcz121_1, hcz121_2, hcz121_3, hcz121_4, hcz121_5, hcz121_6⟩ := cells7_ BK351.out
        obtain ⟨hfz121_0, hfz121_1, hfz121_2, hfz121_3, hfz121_4, hfz121_5, hfz121_6⟩ := frozen7_ BK351.out
        have hnb122 := NB347_352.out
        have hnc122 := NB352_347.out
        obtain ⟨hcz123_0, hcz123_1, hcz123_2, hcz123_3, hcz123_4, hcz123_5, hcz123_6⟩ := cells7_ BK347.out
        obtain ⟨hfz123_0, hfz123_1, hfz123_2, hfz123_3, hfz123_4, hfz123_5, hfz123_6⟩ := frozen7_ BK347.out
        obtain ⟨hcz124_0, hcz124_1, hcz124_2, hcz124_3, hcz124_4, hcz124_5, hcz124_6⟩ := cells7_ BK352.out
        obtain ⟨hfz124_0, hfz124_1, hfz124_2, hfz124_3, hfz124_4, hfz124_5, hfz124_6⟩ := frozen7_ BK352.out
        go_wp2
        go_meet
        case rel => exact ⟨_, ((!(t344.f0 == t349.f0) || ((!(t344.f1.f0 == t349.f1.f0) || (!(t344.f1.f1 == t349.f1.f1) || (!(t344.f1.f2 == t349.f1.f2) || (!(t344.f1.f3 == t349.f1.f3) || (!(t344.f1.f4 == t349.f1.f4) || (!(t344.f1.f5 == t349.f1.f5)))))))))), q10x35_, H', ⟨by have := HJ7.out; have := HK2.out; have := HJ75.out; first | omega | exact Nat.le_refl _⟩, ⟨by (with_reducible repeat (first | refine kN10_ ?_ _ | refine kD10_ ?_ | refine kA10_ ?_ _)); exact BK346.out⟩, ⟨by (with_reducible repeat (first | refine kN10_ ?_ _ | refine kD10_ ?_ | refine kA10_ ?_ _)); exact BK347.out⟩, ⟨by (with_reducible repeat (first | refine kN10_ ?_ _ | refine kD10_ ?_ | refine kA10_ ?_ _)); exact BK351.out⟩, ⟨by (with_reducible repeat (first | refine kN10_ ?_ _ | refine kD10_ ?_ | refine kA10_ ?_ _)); exact BK352.out⟩, ⟨by repeat (first | (with_reducible first | exact HB.out | apply bA10_ | apply bN10_ | apply bD10_ | refine bS10_ ?_ GE346.out | refine bS10_ ?_ GE347.out | refine bS10_ ?_ GE351.out | refine bS10_ ?_ GE352.out) | exact HB.out)⟩⟩
       case rest =>
        clear HC84
        try clear c1
        try clear c2
        try clear p2
        try clear c3
        try clear p3
        try clear q3
        try clear hx3
        try clear c4
        try clear c5
        try clear c6
        try clear p6
        try clear c7
        try clear c8
        try clear c9
        try clear c10
        try clear c11
        try clear c11b0
        try clear c11b1
        try clear c12
        try clear c12b0
        try clear c12b1
        try clear c13
        try clear c13b0
        try clear c13b1
        try clear c15
        try clear c16
        try clear c16b0
        try clear c23
        try clear c24
        try clear c24b0
        try clear c24b1
        try clear c24b2
        try clear c27
        try clear c27b0
        try clear c27b1
        try clear c28
        try clear c28b0
        try clear c28b1
        try clear c33
        try clear p33
        try clear q33
        try clear hx33
        try clear c37
        try clear c38
        try clear c39
        try clear c40
        try clear c42
        try clear c43
        try clear c53
        try clear c60
        try clear c60b0
        try clear c61
        try clear c61b0
        try clear c62
        try clear c62b0
        try clear c62b1
        try clear c64
        try clear c64b0
        try clear p64
        try clear c65
        try clear c65b0
        try clear c66
        try clear c66b0
        try clear c68
        try clear c68b0
        try clear c69
        try clear c69b0
        try clear c70
        try clear c70b0
        try clear c70b1
        try clear c79
        try clear c79b0
        try clear c79b1
        try clear c80
        try clear c80b0
        try clear c80b1
        try clear c81
        try clear c88
        try clear c96
        try clear c97
        try clear c98
        try clear c101
        try clear c102
        try clear c105
        try clear c105b0
        try clear c105b1
        try clear c106
        try clear c106b0
        try clear c106b1
        try clear c107
        try clear c107b0
        try clear c108
        try clear c109
        try clear c110
        try clear c112
        try clear c113
        try clear c115
        try clear c116
        try clear c117
        try clear c119
        try clear c120
        try clear c122
        try clear hcz103_0 hcz103_1 hcz103_2 hcz103_3 hcz103_4 hcz103_5 hcz103_6
        try clear hcz111_0 hcz111_1 hcz111_2 hcz111_3 hcz111_4 hcz111_5 hcz111_6
        try clear hcz114_0 hcz114_1 hcz114_2 hcz114_3 hcz114_4 hcz114_5 hcz114_6
        try clear hcz118_0 hcz118_1 hcz118_2 hcz118_3 hcz118_4 hcz118_5 hcz118_6
        try clear hcz121_0 hcz121_1 hcz121_2 hcz121_3 hcz121_4 hcz121_5 hcz121_6
        try clear hcz123_0 hcz123_1 hcz123_2 hcz123_3 hcz123_4 hcz123_5 hcz123_6
        try clear hcz124_0 hcz124_1 hcz124_2 hcz124_3 hcz124_4 hcz124_5 hcz124_6
        try clear hcz34_0 hcz34_1 hcz34_2 hcz34_3 hcz34_4 hcz34_5 hcz34_6
        try clear hcz36_0 hcz36_1 hcz36_2 hcz36_3 hcz36_4 hcz36_5 hcz36_6
        try clear hcz44_0 hcz44_1 hcz44_2 hcz44_3 hcz44_4 hcz44_5 hcz44_6
        try clear hcz46_0 hcz46_1 hcz46_2 hcz46_3 hcz46_4 hcz46_5 hcz46_6
        try clear hcz54_0 hcz54_1 hcz54_2 hcz54_3 hcz54_4 hcz54_5 hcz54_6
        try clear hcz56_0 hcz56_1 hcz56_2 hcz56_3 hcz56_4 hcz56_5 hcz56_6
        try clear hcz89_0 hcz89_1 hcz89_2 hcz89_3 hcz89_4 hcz89_5 hcz89_6
        try clear hcz91_0 hcz91_1 hcz91_2 hcz91_3 hcz91_4 hcz91_5 hcz91_6
        try clear hcz99_0 hcz99_1 hcz99_2 hcz99_3 hcz99_4 hcz99_5 hcz99_6
        try clear hfz103_0 hfz103_1 hfz103_2 hfz103_3 hfz103_4 hfz103_5 hfz103_6
        try clear hfz111_0 hfz111_1 hfz111_2 hfz111_3 hfz111_4 hfz111_5 hfz111_6
        try clear hfz114_0 hfz114_1 hfz114_2 hfz114_3 hfz114_4 hfz114_5 hfz114_6
        try clear hfz118_0 hfz118_1 hfz118_2 hfz118_3 hfz118_4 hfz118_5 hfz118_6
        try clear hfz121_0 hfz121_1 hfz121_2 hfz121_3 hfz121_4 hfz121_5 hfz121_6
        try clear hfz123_0 hfz123_1 hfz123_2 hfz123_3 hfz123_4 hfz123_5 hfz123_6
        try clear hfz124_0 hfz124_1 hfz124_2 hfz124_3 hfz124_4 hfz124_5 hfz124_6
        try clear hfz34_0 hfz34_1 hfz34_2 hfz34_3 hfz34_4 hfz34_5 hfz34_6
        try clear hfz36_0 hfz36_1 hfz36_2 hfz36_3 hfz36_4 hfz36_5 hfz36_6
        try clear hfz44_0 hfz44_1 hfz44_2 hfz44_3 hfz44_4 hfz44_5 hfz44_6
        try clear hfz46_0 hfz46_1 hfz46_2 hfz46_3 hfz46_4 hfz46_5 hfz46_6
        try clear hfz54_0 hfz54_1 hfz54_2 hfz54_3 hfz54_4 hfz54_5 hfz54_6
        try clear hfz56_0 hfz56_1 hfz56_2 hfz56_3 hfz56_4 hfz56_5 hfz56_6
        try clear hfz89_0 hfz89_1 hfz89_2 hfz89_3 hfz89_4 hfz89_5 hfz89_6
        try clear hfz91_0 hfz91_1 hfz91_2 hfz91_3 hfz91_4 hfz91_5 hfz91_6
        try clear hfz99_0 hfz99_1 hfz99_2 hfz99_3 hfz99_4 hfz99_5 hfz99_6
        try clear hx335_0
        try clear hx336_0
        try clear hx337_0
        try clear p2
        try clear p3
        try clear p33
        try clear p335
        try clear p336
        try clear p337
        try clear p6
        try clear p64
        try clear q3
        try clear q33
        try clear q335
        try clear q336
        try clear q337
        obtain ⟨kq, x199_83, rfl, HA, HJ83, BK346, BK347, BK351, BK352, HB⟩ := hcut
        cases kq with
        | zero => exact absurd HA.out (by simp [laws_FnRoots.j3])
        | succ kj83 =>
         have H := HA.out
         clear HA
         simp only [laws_FnRoots.j3] at H
         by_cases c125 : x199_83 = true
         ·subst c125
          have H1 : (some false) = some r := by rw [if_pos rfl] at H; exact H
          clear H
          have H := H1
          clear H1
          exact (noF_ HT.out H).elim
         replace c125 := Bool.eq_false_iff.mpr c125
         subst c125
         have H1 : (if t345 = 0 then ((spec_MulWides.f kj83 t348 t348).bind fun bt353 => ((spec_MulWides.f kj83 t349 t349).bind fun bt356 => (if bt353.2 = 0 then (laws_FnRoots.j4 kj83 (wrap64 ((wrap64 (t315 * 4)) + t316)) bt353.2 bt356.2 (bt356.2 != 0) bt353.1 bt356.1) else (laws_FnRoots.j4 kj83 (wrap64 ((wrap64 (t315 * 4)) + t316)) bt353.2 bt356.2 true bt353.1 bt356.1)))) else (some (t345 == 3))) = some r := by rw [if_neg (show ¬ (false = true) by decide)] at H; exact H
         clear H
         have H := H1
         clear H1
         by_cases c126 : t345 = 0
         rotate_left
         ·rw [if_neg c126] at H
          have c126b0 : (t345 == 0) = false := beq_eq_false_iff_ne.mpr c126
          have c126b1 : (t345 != 0) = true := bne_iff_ne.mpr c126
          obtain rfl := Option.some.inj H
          go_wp2
          go_ret
          exact ⟨by first | rfl | (simp [errW_none, errW_some] <;> rfl) | (simp only [← hji59]; first | rfl | (simp [errW_none, errW_some] <;> rfl)) | (simp [*, errW_none, errW_some] <;> rfl), by repeat (first | (with_reducible first | exact HB.out | apply bA10_ | apply bN10_ | apply bD10_ | refine bS10_ ?_ GE346.out | refine bS10_ ?_ GE347.out | refine bS10_ ?_ GE351.out | refine bS10_ ?_ GE352.out) | exact HB.out)⟩
         rw [if_pos c126] at H
         have c126b0 : (t345 == 0) = true := beq_iff_eq.mpr c126
         have c126b1 : (t345 != 0) = false := bne_eq_false_iff_eq.mpr c126
         clear c126
         replace H := Option.bind_eq_some_iff.mp H
         obtain ⟨⟨t353, t354⟩, A1270, H⟩ := H
         replace H : ((spec_MulWides.f kj83 t349 t349).bind fun bt356 => (if t354 = 0 then (laws_FnRoots.j4 kj83 (wrap64 ((wrap64 (t315 * 4)) + t316)) t354 bt356.2 (bt356.2 != 0) t353 bt356.1) else (laws_FnRoots.j4 kj83 (wrap64 ((wrap64 (t315 * 4)) + t316)) t354 bt356.2 true t353 bt356.1))) = some r := H
         have A127 := aM10_ A1270
         clear A1270
         replace H := Option.bind_eq_some_iff.mp H
         obtain ⟨⟨t356, t357⟩, A1280, H⟩ := H
         replace H : (if t354 = 0 then (laws_FnRoots.j4 kj83 (wrap64 ((wrap64 (t315 * 4)) + t316)) t354 t357 (t357 != 0) t353 t356) else (laws_FnRoots.j4 kj83 (wrap64 ((wrap64 (t315 * 4)) + t316)) t354 t357 true t353 t356)) = some r := H
         have A128 := aM10_ A1280
         clear A1280
         have HC129 := aM10_ H
         clear H
         have hnb130 := NB351_346.out
         have hnc130 := NB346_351.out
         have hnb131 := NB351_347.out
         have hnc131 := NB347_351.out
         have hnb132 := NB351_352.out
         have hnc132 := NB352_351.out
         obtain ⟨hcz133_0, hcz133_1, hcz133_2, hcz133_3, hcz133_4, hcz133_5, hcz133_6⟩ := cells7_ BK351.out
         obtain ⟨hfz133_0, hfz133_1, hfz133_2, hfz133_3, hfz133_4, hfz133_5, hfz133_6⟩ := frozen7_ BK351.out
         go_upto_region 33 with (first | ((with_reducible refine gate_callee (f := 44) rfl ?_); refine goesL_ (some 207) rfl rfl Try.func44 (by kernel_rfl) rfl #[.agg #[.bool t348.f0, .int .u32 t348.f1.f0, .int .u32 t348.f1.f1, .int .u32 t348.f1.f2, .int .u32 t348.f1.f3, .int .u32 t348.f1.f4, .int .u32 t348.f1.f5], .agg #[.bool t348.f0, .int .u32 t348.f1.f0, .int .u32 t348.f1.f1, .int .u32 t348.f1.f2, .int .u32 t348.f1.f3, .int .u32 t348.f1.f4, .int .u32 t348.f1.f5]] rfl q10x7_ ?_; (with_reducible refine (spec_MulWides.calls kj83 t348 t348 t353 t354 _ A127.out).mono ?_); rintro e w134 ⟨rfl, hb⟩; refine ⟨_, rfl, ?_⟩; have n0_ := kW_ gb346 t343 q10x3_ hb; have n1_ := kW_ gb347 t344 q10x4_ hb; have n2_ := kW_ gb351 t348 q10x5_ hb; have n3_ := kW_ gb352 t349 q10x6_ hb; have n4_ := aM10_ (bT10_ q10x29_ hb); clear BK346 BK347 BK351 BK352 HB; have BK346 := n0_; have BK347 := n1_; have BK351 := n2_; have BK352 := n3_; have HB := n4_; clear n0_ n1_ n2_ n3_ n4_; (try clear hb); (try clear hb2); (try clear hk); (try clear hi)) | ((with_reducible refine gate_dst (N := 28) rfl ?_); refine box_event ?hg (N := 28) ?hd (cs := #[.bool false, .int .u32 0, .int .u32 0, .int .u32 0, .int .u32 0, .int .u32 0, .int .u32 0]) (t := 25) ?hr ?_; (case hd => rfl); (case hg => rfl); (case hr => first | (go_simp; done) | (go_simp; rfl)); intro gb355 hg w135 hbox hb; have n0_ := kW_ gb346 t343 q10x3_ hb; have n1_ := kW_ gb347 t344 q10x4_ hb; have n2_ := kW_ gb351 t348 q10x5_ hb; have n3_ := kW_ gb352 t349 q10x6_ hb; have n4_ := aM10_ (bT10_ q10x29_ hb); have n5_ := aM10_ (hbox); have n6_ := aM10_ ((by rw [hg]; exact (below_size q10x29_) : w.heap.size ≤ gb355)); have n7_ := aM10_ ((by rw [hg]; exact (below_size q10x29_) : w.heap.size ≤ gb355)); have n8_ := aM10_ ((q10x10_ : gb346 ≠ gb355)); have n9_ := aM10_ ((q10x11_ : gb355 ≠ gb346)); have n10_ := aM10_ ((q10x12_ : gb347 ≠ gb355)); have n11_ := aM10_ ((q10x13_ : gb355 ≠ gb347)); have n12_ := aM10_ ((q10x15_ : gb351 ≠ gb355)); have n13_ := aM10_ ((q10x16_ : gb355 ≠ gb351)); have n14_ := aM10_ ((q10x17_ : gb352 ≠ gb355)); have n15_ := aM10_ ((q10x18_ : gb355 ≠ gb352)); clear BK346 BK347 BK351 BK352 HB; have BK346 := n0_; have BK347 := n1_; have BK351 := n2_; have BK352 := n3_; have HB := n4_; have BK355 := n5_; have GW355 := n6_; have GE355 := n7_; have NB346_355 := n8_; have NB355_346 := n9_; have NB347_355 := n10_; have NB355_347 := n11_; have NB351_355 := n12_; have NB355_351 := n13_; have NB352_355 := n14_; have NB355_352 := n15_; clear n0_ n1_ n2_ n3_ n4_ n5_ n6_ n7_ n8_ n9_ n10_ n11_ n12_ n13_ n14_ n15_; clear hb hbox hg; have hnb136 := NB355_346.out; have hnc136 := NB346_355.out; have hnb137 := NB355_347.out; have hnc137 := NB347_355.out; have hnb138 := NB355_351.out; have hnc138 := NB351_355.out; have hnb139 := NB355_352.out; have hnc139 := NB352_355.out; obtain ⟨hcz140_0, hcz140_1, hcz140_2, hcz140_3, hcz140_4, hcz140_5, hcz140_6⟩ := cells7_ BK355.out; obtain ⟨hfz140_0, hfz140_1, hfz140_2, hfz140_3, hfz140_4, hfz140_5, hfz140_6⟩ := frozen7_ BK355.out) | ((with_reducible refine gate_store (t := 25) (p := 28) rfl ?_); refine store_event (t := 25) (p := 28) (v := ?vo_w141) (w1 := (pS_ w135 gb355 t353)) ?hg ?ho ?hn ?hr ?_; (case ho => rfl); (case hg => rfl); (case hn => rfl); (case hr => first | ((try simp only [Act.put, List.setIfInBounds_toArray, List.set_cons_zero, List.set_cons_succ]); exact run_put7_ rfl (show _ = Value.pointer (some ⟨gb355, 0, none⟩) from by rfl) (show _ = Value.agg #[.bool t353.f0, .int .u32 t353.f1.f0, .int .u32 t353.f1.f1, .int .u32 t353.f1.f2, .int .u32 t353.f1.f3, .int .u32 t353.f1.f4, .int .u32 t353.f1.f5] from by rfl) BK355.out (by kernel_rfl) (by rfl)) | (go_simp; done) | (go_simp; rfl)); intro w141 hw; have n0_ : bW_ w141 gb346 t343 := ⟨(by rw [hw]; exact (by (with_reducible repeat (first | refine kN10_ ?_ _ | refine kD10_ ?_ | refine kA10_ ?_ _ | refine blk_far ?_ NB346_355.out _)); (with_reducible repeat (first | refine kN10_ ?_ _ | refine kD10_ ?_ | refine kA10_ ?_ _)); exact BK346.out))⟩; have n1_ : bW_ w141 gb347 t344 := ⟨(by rw [hw]; exact (by (with_reducible repeat (first | refine kN10_ ?_ _ | refine kD10_ ?_ | refine kA10_ ?_ _ | refine blk_far ?_ NB347_355.out _)); (with_reducible repeat (first | refine kN10_ ?_ _ | refine kD10_ ?_ | refine kA10_ ?_ _)); exact BK347.out))⟩; have n2_ : bW_ w141 gb351 t348 := ⟨(by rw [hw]; exact (by (with_reducible repeat (first | refine kN10_ ?_ _ | refine kD10_ ?_ | refine kA10_ ?_ _ | refine blk_far ?_ NB351_355.out _)); (with_reducible repeat (first | refine kN10_ ?_ _ | refine kD10_ ?_ | refine kA10_ ?_ _)); exact BK351.out))⟩; have n3_ : bW_ w141 gb352 t349 := ⟨(by rw [hw]; exact (by (with_reducible repeat (first | refine kN10_ ?_ _ | refine kD10_ ?_ | refine kA10_ ?_ _ | refine blk_far ?_ NB352_355.out _)); (with_reducible repeat (first | refine kN10_ ?_ _ | refine kD10_ ?_ | refine kA10_ ?_ _)); exact BK352.out))⟩; have n4_ : bW_ w141 gb355 t353 := ⟨(by rw [hw]; exact (by (with_reducible repeat (first | refine kN10_ ?_ _ | refine kD10_ ?_ | refine kA10_ ?_ _)); refine puts7_ (.bool false) (.int .u32 0) (.int .u32 0) (.int .u32 0) (.int .u32 0) (.int .u32 0) (.int .u32 0) ?_; (with_reducible repeat (first | refine kN10_ ?_ _ | refine kD10_ ?_ | refine kA10_ ?_ _)); exact BK355.out))⟩; have n5_ : Aside0 (Below w.heap.size w w141) := ⟨(by rw [hw]; exact q10x31_)⟩; clear hw; clear BK346; clear BK347; clear BK351; clear BK352; clear BK355; clear HB; have BK346 := n0_; have BK347 := n1_; have BK351 := n2_; have BK352 := n3_; have BK355 := n4_; have HB := n5_; clear n0_ n1_ n2_ n3_ n4_ n5_; have hnb142 := NB352_346.out; have hnc142 := NB346_352.out; have hnb143 := NB352_347.out; have hnc143 := NB347_352.out; obtain ⟨hcz144_0, hcz144_1, hcz144_2, hcz144_3, hcz144_4, hcz144_5, hcz144_6⟩ := cells7_ BK352.out; obtain ⟨hfz144_0, hfz144_1, hfz144_2, hfz144_3, hfz144_4, hfz144_5, hfz144_6⟩ := frozen7_ BK352.out) | ((with_reducible refine gate_callee (f := 44) rfl ?_); refine goesL_ (some 213) rfl rfl Try.func44 (by kernel_rfl) rfl #[.agg #[.bool t349.f0, .int .u32 t349.f1.f0, .int .u32 t349.f1.f1, .int .u32 t349.f1.f2, .int .u32 t349.f1.f3, .int .u32 t349.f1.f4, .int .u32 t349.f1.f5], .agg #[.bool t349.f0, .int .u32 t349.f1.f0, .int .u32 t349.f1.f1, .int .u32 t349.f1.f2, .int .u32 t349.f1.f3, .int .u32 t349.f1.f4, .int .u32 t349.f1.f5]] rfl q10x7_ ?_; (with_reducible refine (spec_MulWides.calls kj83 t349 t349 t356 t357 _ A128.out).mono ?_); rintro e w145 ⟨rfl, hb⟩; refine ⟨_, rfl, ?_⟩; have n0_ := kW_ gb346 t343 q10x3_ hb; have n1_ := kW_ gb347 t344 q10x4_ hb; have n2_ := kW_ gb351 t348 q10x5_ hb; have n3_ := kW_ gb352 t349 q10x6_ hb; have n4_ := kW_ gb355 t353 q10x8_ hb; have n5_ := aM10_ (bT10_ q10x31_ hb); clear BK346 BK347 BK351 BK352 BK355 HB; have BK346 := n0_; have BK347 := n1_; have BK351 := n2_; have BK352 := n3_; have BK355 := n4_; have HB := n5_; clear n0_ n1_ n2_ n3_ n4_ n5_; (try clear hb); (try clear hb2); (try clear hk); (try clear hi)) | ((with_reducible refine gate_dst (N := 30) rfl ?_); refine box_event ?hg (N := 30) ?hd (cs := #[.bool false, .int .u32 0, .int .u32 0, .int .u32 0, .int .u32 0, .int .u32 0, .int .u32 0]) (t := 25) ?hr ?_; (case hd => rfl); (case hg => rfl); (case hr => first | (go_simp; done) | (go_simp; rfl)); intro gb358 hg w146 hbox hb; have n0_ := kW_ gb346 t343 q10x3_ hb; have n1_ := kW_ gb347 t344 q10x4_ hb; have n2_ := kW_ gb351 t348 q10x5_ hb; have n3_ := kW_ gb352 t349 q10x6_ hb; have n4_ := kW_ gb355 t353 q10x8_ hb; have n5_ := aM10_ (bT10_ q10x31_ hb); have n6_ := aM10_ (hbox); have n7_ := aM10_ ((by rw [hg]; exact (below_size q10x31_) : w.heap.size ≤ gb358)); have n8_ := aM10_ ((by rw [hg]; exact (below_size q10x31_) : w.heap.size ≤ gb358)); have n9_ := aM10_ ((q10x10_ : gb346 ≠ gb358)); have n10_ := aM10_ ((q10x11_ : gb358 ≠ gb346)); have n11_ := aM10_ ((q10x12_ : gb347 ≠ gb358)); have n12_ := aM10_ ((q10x13_ : gb358 ≠ gb347)); have n13_ := aM10_ ((q10x15_ : gb351 ≠ gb358)); have n14_ := aM10_ ((q10x16_ : gb358 ≠ gb351)); have n15_ := aM10_ ((q10x17_ : gb352 ≠ gb358)); have n16_ := aM10_ ((q10x18_ : gb358 ≠ gb352)); have n17_ := aM10_ ((q10x20_ : gb355 ≠ gb358)); have n18_ := aM10_ ((q10x21_ : gb358 ≠ gb355)); clear BK346 BK347 BK351 BK352 BK355 HB; have BK346 := n0_; have BK347 := n1_; have BK351 := n2_; have BK352 := n3_; have BK355 := n4_; have HB := n5_; have BK358 := n6_; have GW358 := n7_; have GE358 := n8_; have NB346_358 := n9_; have NB358_346 := n10_; have NB347_358 := n11_; have NB358_347 := n12_; have NB351_358 := n13_; have NB358_351 := n14_; have NB352_358 := n15_; have NB358_352 := n16_; have NB355_358 := n17_; have NB358_355 := n18_; clear n0_ n1_ n2_ n3_ n4_ n5_ n6_ n7_ n8_ n9_ n10_ n11_ n12_ n13_ n14_ n15_ n16_ n17_ n18_; clear hb hbox hg; have hnb147 := NB358_346.out; have hnc147 := NB346_358.out; have hnb148 := NB358_347.out; have hnc148 := NB347_358.out; have hnb149 := NB358_351.out; have hnc149 := NB351_358.out; have hnb150 := NB358_352.out; have hnc150 := NB352_358.out; have hnb151 := NB358_355.out; have hnc151 := NB355_358.out; obtain ⟨hcz152_0, hcz152_1, hcz152_2, hcz152_3, hcz152_4, hcz152_5, hcz152_6⟩ := cells7_ BK358.out; obtain ⟨hfz152_0, hfz152_1, hfz152_2, hfz152_3, hfz152_4, hfz152_5, hfz152_6⟩ := frozen7_ BK358.out) | ((with_reducible refine gate_store (t := 25) (p := 30) rfl ?_); refine store_event (t := 25) (p := 30) (v := ?vo_w153) (w1 := (pS_ w146 gb358 t356)) ?hg ?ho ?hn ?hr ?_; (case ho => rfl); (case hg => rfl); (case hn => rfl); (case hr => first | ((try simp only [Act.put, List.setIfInBounds_toArray, List.set_cons_zero, List.set_cons_succ]); exact run_put7_ rfl (show _ = Value.pointer (some ⟨gb358, 0, none⟩) from by rfl) (show _ = Value.agg #[.bool t356.f0, .int .u32 t356.f1.f0, .int .u32 t356.f1.f1, .int .u32 t356.f1.f2, .int .u32 t356.f1.f3, .int .u32 t356.f1.f4, .int .u32 t356.f1.f5] from by rfl) BK358.out (by kernel_rfl) (by rfl)) | (go_simp; done) | (go_simp; rfl)); intro w153 hw; have n0_ : bW_ w153 gb346 t343 := ⟨(by rw [hw]; exact (by (with_reducible repeat (first | refine kN10_ ?_ _ | refine kD10_ ?_ | refine kA10_ ?_ _ | refine blk_far ?_ NB346_358.out _)); (with_reducible repeat (first | refine kN10_ ?_ _ | refine kD10_ ?_ | refine kA10_ ?_ _)); exact BK346.out))⟩; have n1_ : bW_ w153 gb347 t344 := ⟨(by rw [hw]; exact (by (with_reducible repeat (first | refine kN10_ ?_ _ | refine kD10_ ?_ | refine kA10_ ?_ _ | refine blk_far ?_ NB347_358.out _)); (with_reducible repeat (first | refine kN10_ ?_ _ | refine kD10_ ?_ | refine kA10_ ?_ _)); exact BK347.out))⟩; have n2_ : bW_ w153 gb351 t348 := ⟨(by rw [hw]; exact (by (with_reducible repeat (first | refine kN10_ ?_ _ | refine kD10_ ?_ | refine kA10_ ?_ _ | refine blk_far ?_ NB351_358.out _)); (with_reducible repeat (first | refine kN10_ ?_ _ | refine kD10_ ?_ | refine kA10_ ?_ _)); exact BK351.out))⟩; have n3_ : bW_ w153 gb352 t349 := ⟨(by rw [hw]; exact (by (with_reducible repeat (first | refine kN10_ ?_ _ | refine kD10_ ?_ | refine kA10_ ?_ _ | refine blk_far ?_ NB352_358.out _)); (with_reducible repeat (first | refine kN10_ ?_ _ | refine kD10_ ?_ | refine kA10_ ?_ _)); exact BK352.out))⟩; have n4_ : bW_ w153 gb355 t353 := ⟨(by rw [hw]; exact (by (with_reducible repeat (first | refine kN10_ ?_ _ | refine kD10_ ?_ | refine kA10_ ?_ _ | refine blk_far ?_ NB355_358.out _)); (with_reducible repeat (first | refine kN10_ ?_ _ | refine kD10_ ?_ | refine kA10_ ?_ _)); exact BK355.out))⟩; have n5_ : bW_ w153 gb358 t356 := ⟨(by rw [hw]; exact (by (with_reducible repeat (first | refine kN10_ ?_ _ | refine kD10_ ?_ | refine kA10_ ?_ _)); refine puts7_ (.bool false) (.int .u32 0) (.int .u32 0) (.int .u32 0) (.int .u32 0) (.int .u32 0) (.int .u32 0) ?_; (with_reducible repeat (first | refine kN10_ ?_ _ | refine kD10_ ?_ | refine kA10_ ?_ _)); exact BK358.out))⟩; have n6_ : Aside0 (Below w.heap.size w w153) := ⟨(by rw [hw]; exact q10x1_)⟩; clear hw; clear BK346; clear BK347; clear BK351; clear BK352; clear BK355; clear BK358; clear HB; have BK346 := n0_; have BK347 := n1_; have BK351 := n2_; have BK352 := n3_; have BK355 := n4_; have BK358 := n5_; have HB := n6_; clear n0_ n1_ n2_ n3_ n4_ n5_ n6_))
         (try simp only [Act.put, List.setIfInBounds_toArray, List.set_cons_zero, List.set_cons_succ])
         go_cut [221] (fun v221 wc => ∃ (kq : Nat) (x221_128 : Bool), v221 = .bool x221_128 ∧ Aside0 (laws_FnRoots.j4 kq (wrap64 ((wrap64 (t315 * 4)) + t316)) t354 t357 x221_128 t353 t356 = some r) ∧ Aside0 (kq ≤ kj83) ∧ bW_ wc gb346 t343 ∧ bW_ wc gb347 t344 ∧ bW_ wc gb351 t348 ∧ bW_ wc gb352 t349 ∧ bW_ wc gb355 t353 ∧ bW_ wc gb358 t356 ∧ Aside0 (Below w.heap.size w wc))
         case first => as_aux_lemma =>
          have H := HC129.out
          clear HC129
          by_cases c154 : t354 = 0
          ·rw [if_pos c154] at H
           have c154b0 : (t354 == 0) = true := beq_iff_eq.mpr c154
           have c154b1 : (t354 != 0) = false := bne_eq_false_iff_eq.mpr c154
           clear c154
           (first | rw [c154b0] | (simp only [i64_w, i32_w]; rw [c154b0]) | skip)
           have H' := aM10_ H
           clear H
           go_wp2
           go_meet
           case rel => exact ⟨_, ((t357 != 0)), q10x35_, H', ⟨by have := HJ7.out; have := HK2.out; have := HJ75.out; have := HJ83.out; first | omega | exact Nat.le_refl _⟩, ⟨by (with_reducible repeat (first | refine kN10_ ?_ _ | refine kD10_ ?_ | refine kA10_ ?_ _)); exact BK346.out⟩, ⟨by (with_reducible repeat (first | refine kN10_ ?_ _ | refine kD10_ ?_ | refine kA10_ ?_ _)); exact BK347.out⟩, ⟨by (with_reducible repeat (first | refine kN10_ ?_ _ | refine kD10_ ?_ | refine kA10_ ?_ _)); exact BK351.out⟩, ⟨by (with_reducible repeat (first | refine kN10_ ?_ _ | refine kD10_ ?_ | refine kA10_ ?_ _)); exact BK352.out⟩, ⟨by (with_reducible repeat (first | refine kN10_ ?_ _ | refine kD10_ ?_ | refine kA10_ ?_ _)); exact BK355.out⟩, ⟨by (with_reducible repeat (first | refine kN10_ ?_ _ | refine kD10_ ?_ | refine kA10_ ?_ _)); exact BK358.out⟩, ⟨by repeat (first | (with_reducible first | exact HB.out | apply bA10_ | apply bN10_ | apply bD10_ | refine bS10_ ?_ GE346.out | refine bS10_ ?_ GE347.out | refine bS10_ ?_ GE351.out | refine bS10_ ?_ GE352.out | refine bS10_ ?_ GE355.out | refine bS10_ ?_ GE358.out) | exact HB.out)⟩⟩
          rw [if_neg c154] at H
          have c154b0 : (t354 == 0) = false := beq_eq_false_iff_ne.mpr c154
          have c154b1 : (t354 != 0) = true := bne_iff_ne.mpr c154
          (first | rw [c154b0] | (simp only [i64_w, i32_w]; rw [c154b0]) | skip)
          have H' := aM10_ H
          clear H
          go_wp2
          go_meet
          case rel => exact ⟨_, (true), q10x35_, H', ⟨by have := HJ7.out; have := HK2.out; have := HJ75.out; have := HJ83.out; first | omega | exact Nat.le_refl _⟩, ⟨by (with_reducible repeat (first | refine kN10_ ?_ _ | refine kD10_ ?_ | refine kA10_ ?_ _)); exact BK346.out⟩, ⟨by (with_reducible repeat (first | refine kN10_ ?_ _ | refine kD10_ ?_ | refine kA10_ ?_ _)); exact BK347.out⟩, ⟨by (with_reducible repeat (first | refine kN10_ ?_ _ | refine kD10_ ?_ | refine kA10_ ?_ _)); exact BK351.out⟩, ⟨by (with_reducible repeat (first | refine kN10_ ?_ _ | refine kD10_ ?_ | refine kA10_ ?_ _)); exact BK352.out⟩, ⟨by (with_reducible repeat (first | refine kN10_ ?_ _ | refine kD10_ ?_ | refine kA10_ ?_ _)); exact BK355.out⟩, ⟨by (with_reducible repeat (first | refine kN10_ ?_ _ | refine kD10_ ?_ | refine kA10_ ?_ _)); exact BK358.out⟩, ⟨by repeat (first | (with_reducible first | exact HB.out | apply bA10_ | apply bN10_ | apply bD10_ | refine bS10_ ?_ GE346.out | refine bS10_ ?_ GE347.out | refine bS10_ ?_ GE351.out | refine bS10_ ?_ GE352.out | refine bS10_ ?_ GE355.out | refine bS10_ ?_ GE358.out) | exact HB.out)⟩⟩
         case rest =>
          clear HC129
          try clear c1
          try clear c2
          try clear p2
          try clear c3
          try clear p3
          try clear q3
          try clear hx3
          try clear c4
          try clear c5
          try clear c6
          try clear p6
          try clear c7
          try clear c8
          try clear c9
          try clear c10
          try clear c11
          try clear c11b0
          try clear c11b1
          try clear c12
          try clear c12b0
          try clear c12b1
          try clear c13
          try clear c13b0
          try clear c13b1
          try clear c14
          try clear c15
          try clear c16
          try clear c16b0
          try clear c23
          try clear c24
          try clear c24b0
          try clear c24b1
          try clear c24b2
          try clear c27
          try clear c27b0
          try clear c27b1
          try clear c28
          try clear c28b0
          try clear c28b1
          try clear c33
          try clear p33
          try clear q33
          try clear hx33
          try clear c37
          try clear c38
          try clear c39
          try clear c40
          try clear c42
          try clear c43
          try clear c44
          try clear c53
          try clear c60
          try clear c60b0
          try clear c61
          try clear c61b0
          try clear c62
          try clear c62b0
          try clear c62b1
          try clear c64
          try clear c64b0
          try clear p64
          try clear c65
          try clear c65b0
          try clear c66
          try clear c66b0
          try clear c68
          try clear c68b0
          try clear c69
          try clear c69b0
          try clear c70
          try clear c70b0
          try clear c70b1
          try clear c79
          try clear c79b0
          try clear c79b1
          try clear c80
          try clear c80b0
          try clear c80b1
          try clear c81
          try clear c88
          try clear c96
          try clear c97
          try clear c98
          try clear c101
          try clear c102
          try clear c105
          try clear c105b0
          try clear c105b1
          try clear c106
          try clear c106b0
          try clear c106b1
          try clear c107
          try clear c107b0
          try clear c108
          try clear c109
          try clear c110
          try clear c112
          try clear c113
          try clear c115
          try clear c116
          try clear c117
          try clear c119
          try clear c120
          try clear c122
          try clear c125
          try clear c126
          try clear c126b0
          try clear c126b1
          try clear c130
          try clear c131
          try clear c132
          try clear c136
          try clear c137
          try clear c138
          try clear c139
          try clear c142
          try clear c143
          try clear c147
          try clear c148
          try clear c149
          try clear c150
          try clear c151
          try clear c154
          try clear c154b0
          try clear c154b1
          try clear hcz103_0 hcz103_1 hcz103_2 hcz103_3 hcz103_4 hcz103_5 hcz103_6
          try clear hcz111_0 hcz111_1 hcz111_2 hcz111_3 hcz111_4 hcz111_5 hcz111_6
          try clear hcz114_0 hcz114_1 hcz114_2 hcz114_3 hcz114_4 hcz114_5 hcz114_6
          try clear hcz118_0 hcz118_1 hcz118_2 hcz118_3 hcz118_4 hcz118_5 hcz118_6
          try clear hcz121_0 hcz121_1 hcz121_2 hcz121_3 hcz121_4 hcz121_5 hcz121_6
          try clear hcz123_0 hcz123_1 hcz123_2 hcz123_3 hcz123_4 hcz123_5 hcz123_6
          try clear hcz124_0 hcz124_1 hcz124_2 hcz124_3 hcz124_4 hcz124_5 hcz124_6
          try clear hcz133_0 hcz133_1 hcz133_2 hcz133_3 hcz133_4 hcz133_5 hcz133_6
          try clear hcz140_0 hcz140_1 hcz140_2 hcz140_3 hcz140_4 hcz140_5 hcz140_6
          try clear hcz144_0 hcz144_1 hcz144_2 hcz144_3 hcz144_4 hcz144_5 hcz144_6
          try clear hcz152_0 hcz152_1 hcz152_2 hcz152_3 hcz152_4 hcz152_5 hcz152_6
          try clear hcz34_0 hcz34_1 hcz34_2 hcz34_3 hcz34_4 hcz34_5 hcz34_6
          try clear hcz36_0 hcz36_1 hcz36_2 hcz36_3 hcz36_4 hcz36_5 hcz36_6
          try clear hcz44_0 hcz44_1 hcz44_2 hcz44_3 hcz44_4 hcz44_5 hcz44_6
          try clear hcz46_0 hcz46_1 hcz46_2 hcz46_3 hcz46_4 hcz46_5 hcz46_6
          try clear hcz54_0 hcz54_1 hcz54_2 hcz54_3 hcz54_4 hcz54_5 hcz54_6
          try clear hcz56_0 hcz56_1 hcz56_2 hcz56_3 hcz56_4 hcz56_5 hcz56_6
          try clear hcz89_0 hcz89_1 hcz89_2 hcz89_3 hcz89_4 hcz89_5 hcz89_6
          try clear hcz91_0 hcz91_1 hcz91_2 hcz91_3 hcz91_4 hcz91_5 hcz91_6
          try clear hcz99_0 hcz99_1 hcz99_2 hcz99_3 hcz99_4 hcz99_5 hcz99_6
          try clear hfz103_0 hfz103_1 hfz103_2 hfz103_3 hfz103_4 hfz103_5 hfz103_6
          try clear hfz111_0 hfz111_1 hfz111_2 hfz111_3 hfz111_4 hfz111_5 hfz111_6
          try clear hfz114_0 hfz114_1 hfz114_2 hfz114_3 hfz114_4 hfz114_5 hfz114_6
          try clear hfz118_0 hfz118_1 hfz118_2 hfz118_3 hfz118_4 hfz118_5 hfz118_6
          try clear hfz121_0 hfz121_1 hfz121_2 hfz121_3 hfz121_4 hfz121_5 hfz121_6
          try clear hfz123_0 hfz123_1 hfz123_2 hfz123_3 hfz123_4 hfz123_5 hfz123_6
          try clear hfz124_0 hfz124_1 hfz124_2 hfz124_3 hfz124_4 hfz124_5 hfz124_6
          try clear hfz133_0 hfz133_1 hfz133_2 hfz133_3 hfz133_4 hfz133_5 hfz133_6
          try clear hfz140_0 hfz140_1 hfz140_2 hfz140_3 hfz140_4 hfz140_5 hfz140_6
          try clear hfz144_0 hfz144_1 hfz144_2 hfz144_3 hfz144_4 hfz144_5 hfz144_6
          try clear hfz152_0 hfz152_1 hfz152_2 hfz152_3 hfz152_4 hfz152_5 hfz152_6
          try clear hfz34_0 hfz34_1 hfz34_2 hfz34_3 hfz34_4 hfz34_5 hfz34_6
          try clear hfz36_0 hfz36_1 hfz36_2 hfz36_3 hfz36_4 hfz36_5 hfz36_6
          try clear hfz44_0 hfz44_1 hfz44_2 hfz44_3 hfz44_4 hfz44_5 hfz44_6
          try clear hfz46_0 hfz46_1 hfz46_2 hfz46_3 hfz46_4 hfz46_5 hfz46_6
          try clear hfz54_0 hfz54_1 hfz54_2 hfz54_3 hfz54_4 hfz54_5 hfz54_6
          try clear hfz56_0 hfz56_1 hfz56_2 hfz56_3 hfz56_4 hfz56_5 hfz56_6
          try clear hfz89_0 hfz89_1 hfz89_2 hfz89_3 hfz89_4 hfz89_5 hfz89_6
          try clear hfz91_0 hfz91_1 hfz91_2 hfz91_3 hfz91_4 hfz91_5 hfz91_6
          try clear hfz99_0 hfz99_1 hfz99_2 hfz99_3 hfz99_4 hfz99_5 hfz99_6
          try clear hx335_0
          try clear hx336_0
          try clear hx337_0
          try clear p2
          try clear p3
          try clear p33
          try clear p335
          try clear p336
          try clear p337
          try clear p6
          try clear p64
          try clear q3
          try clear q33
          try clear q335
          try clear q336
          try clear q337
          obtain ⟨kq, x221_128, rfl, HA, HJ128, BK346, BK347, BK351, BK352, BK355, BK358, HB⟩ := hcut
          cases kq with
          | zero => exact absurd HA.out (by simp [laws_FnRoots.j4])
          | succ kj128 =>
           have H := HA.out
           clear HA
           simp only [laws_FnRoots.j4] at H
           by_cases c155 : x221_128 = true
           ·subst c155
            have H1 : (if t354 = 3 then (some true) else (some (t357 == 3))) = some r := by rw [if_pos rfl] at H; exact H
            clear H
            have H := H1
            clear H1
            by_cases c156 : t354 = 3
            ·rw [if_pos c156] at H
             have c156b0 : (t354 == 3) = true := beq_iff_eq.mpr c156
             have c156b1 : (t354 != 3) = false := bne_eq_false_iff_eq.mpr c156
             clear c156
             obtain rfl := Option.some.inj H
             go_wp2
             go_ret
             exact ⟨by first | rfl | (simp [errW_none, errW_some] <;> rfl) | (simp only [← hji59]; first | rfl | (simp [errW_none, errW_some] <;> rfl)) | (simp [*, errW_none, errW_some] <;> rfl), by repeat (first | (with_reducible first | exact HB.out | apply bA10_ | apply bN10_ | apply bD10_ | refine bS10_ ?_ GE346.out | refine bS10_ ?_ GE347.out | refine bS10_ ?_ GE351.out | refine bS10_ ?_ GE352.out | refine bS10_ ?_ GE355.out | refine bS10_ ?_ GE358.out) | exact HB.out)⟩
            rw [if_neg c156] at H
            have c156b0 : (t354 == 3) = false := beq_eq_false_iff_ne.mpr c156
            have c156b1 : (t354 != 3) = true := bne_iff_ne.mpr c156
            obtain rfl := Option.some.inj H
            go_wp2
            go_ret
            exact ⟨by first | rfl | (simp [errW_none, errW_some] <;> rfl) | (simp only [← hji59]; first | rfl | (simp [errW_none, errW_some] <;> rfl)) | (simp [*, errW_none, errW_some] <;> rfl), by repeat (first | (with_reducible first | exact HB.out | apply bA10_ | apply bN10_ | apply bD10_ | refine bS10_ ?_ GE346.out | refine bS10_ ?_ GE347.out | refine bS10_ ?_ GE351.out | refine bS10_ ?_ GE352.out | refine bS10_ ?_ GE355.out | refine bS10_ ?_ GE358.out) | exact HB.out)⟩
           replace c155 := Bool.eq_false_iff.mpr c155
           subst c155
           have H1 : ((spec_WideOf.f (wrap64 ((wrap64 (t315 * 4)) + t316))).bind fun t359 => ((spec_MulWides.f kj128 t359 t356).bind fun bt360 => (if bt360.2 = 0 then ((spec_SubWides.f kj128 t353 bt360.1).bind fun bt363 => (if bt363.2 = 0 then ((spec_WideOf.f 1).bind fun t366 => (some (bt363.1.f0 == t366.f0 && ((bt363.1.f1.f0 == t366.f1.f0 && (bt363.1.f1.f1 == t366.f1.f1 && (bt363.1.f1.f2 == t366.f1.f2 && (bt363.1.f1.f3 == t366.f1.f3 && (bt363.1.f1.f4 == t366.f1.f4 && (bt363.1.f1.f5 == t366.f1.f5)))))))))) else (some false))) else (some (bt360.2 == 3))))) = some r := by rw [if_neg (show ¬ (false = true) by decide)] at H; exact H
           clear H
           have H := H1
           clear H1
           replace H := Option.bind_eq_some_iff.mp H
           obtain ⟨t359, A1570, H⟩ := H
           replace H : ((spec_MulWides.f kj128 t359 t356).bind fun bt360 => (if bt360.2 = 0 then ((spec_SubWides.f kj128 t353 bt360.1).bind fun bt363 => (if bt363.2 = 0 then ((spec_WideOf.f 1).bind fun t366 => (some (bt363.1.f0 == t366.f0 && ((bt363.1.f1.f0 == t366.f1.f0 && (bt363.1.f1.f1 == t366.f1.f1 && (bt363.1.f1.f2 == t366.f1.f2 && (bt363.1.f1.f3 == t366.f1.f3 && (bt363.1.f1.f4 == t366.f1.f4 && (bt363.1.f1.f5 == t366.f1.f5)))))))))) else (some false))) else (some (bt360.2 == 3)))) = some r := H
           have A157 := aM10_ A1570
           clear A1570
           replace H := Option.bind_eq_some_iff.mp H
           obtain ⟨⟨t360, t361⟩, A1580, H⟩ := H
           replace H : (if t361 = 0 then ((spec_SubWides.f kj128 t353 t360).bind fun bt363 => (if bt363.2 = 0 then ((spec_WideOf.f 1).bind fun t366 => (some (bt363.1.f0 == t366.f0 && ((bt363.1.f1.f0 == t366.f1.f0 && (bt363.1.f1.f1 == t366.f1.f1 && (bt363.1.f1.f2 == t366.f1.f2 && (bt363.1.f1.f3 == t366.f1.f3 && (bt363.1.f1.f4 == t366.f1.f4 && (bt363.1.f1.f5 == t366.f1.f5)))))))))) else (some false))) else (some (t361 == 3))) = some r := H
           have A158 := aM10_ A1580
           clear A1580
           try go_wp2
           have n0_ := aM10_ (kD10_ BK346.out)
           have n1_ := aM10_ (kD10_ BK347.out)
           have n2_ := aM10_ (kD10_ BK351.out)
           have n3_ := aM10_ (kD10_ BK352.out)
           have n4_ := aM10_ (kD10_ BK355.out)
           have n5_ := aM10_ (kD10_ BK358.out)
           have n6_ := aM10_ (bD10_ HB.out)
           clear BK346 BK347 BK351 BK352 BK355 BK358 HB
           have BK346 := n0_
           have BK347 := n1_
           have BK351 := n2_
           have BK352 := n3_
           have BK355 := n4_
           have BK358 := n5_
           have HB := n6_
           clear n0_ n1_ n2_ n3_ n4_ n5_ n6_
           refine start_ (n := 10) (S := fun w' => w'.cell? ⟨gb358, 0, none⟩ = some (.bool t356.f0) ∧ w'.cell? ⟨gb358, 1, none⟩ = some (.int .u32 t356.f1.f0) ∧ w'.cell? ⟨gb358, 2, none⟩ = some (.int .u32 t356.f1.f1) ∧ w'.cell? ⟨gb358, 3, none⟩ = some (.int .u32 t356.f1.f2) ∧ w'.cell? ⟨gb358, 4, none⟩ = some (.int .u32 t356.f1.f3) ∧ w'.cell? ⟨gb358, 5, none⟩ = some (.int .u32 t356.f1.f4) ∧ w'.cell? ⟨gb358, 6, none⟩ = some (.int .u32 t356.f1.f5)) (ds := []) #[false, false, false, false, false, false, false, false, false, false] (by kernel_rfl) rfl rfl ⟨(kC10_ BK358.out 0).trans rfl, (kC10_ BK358.out 1).trans rfl, (kC10_ BK358.out 2).trans rfl, (kC10_ BK358.out 3).trans rfl, (kC10_ BK358.out 4).trans rfl, (kC10_ BK358.out 5).trans rfl, (kC10_ BK358.out 6).trans rfl⟩ (fun hHeld => ?_); refine with_tabW laws_FnRoots.tab35 laws_FnRoots.bits35 (fun HT_ HW_ => ?_)
           generalize wc.drew = w163 at BK346 BK347 BK351 BK352 BK355 BK358 HB hHeld ⊢
           refine pure_ (i := 0) (N := some 229) (v := ?_) (a' := ?_) #[true, false, false, false, false, false, false, false, false, false] rfl rfl (any_of HT_.out (by kernel_rfl)) (fun _ _ _ h => h) (Or.inl ⟨by rfl, ?_⟩) ?_ ?_
           rotate_left
           ·exact q10x66_
           rotate_left
           ·exact q10x67_
           refine take_ (i := 2) (N := some 231) (v := ?_) (a' := ?_) #[true, false, true, false, false, false, false, false, false, false] rfl rfl (take_ofW HT_.out HW_.out (by kernel_rfl)) (fun _ _ _ h => h) (Or.inl ⟨by rfl, ?_⟩) hHeld ?_ ?_
           rotate_left
           ·exact q10x68_
           rotate_left
           ·exact q10x67_
           refine join_ (σ := Nat) 2 #[true, true, true, true, true, true, true, true, false, false] (fun s_ => [(230, .agg #[.bool t359.f0, .int .u32 t359.f1.f0, .int .u32 t359.f1.f1, .int .u32 t359.f1.f2, .int .u32 t359.f1.f3, .int .u32 t359.f1.f4, .int .u32 t359.f1.f5]), (232, .tuple #[.agg #[.bool t360.f0, .int .u32 t360.f1.f0, .int .u32 t360.f1.f1, .int .u32 t360.f1.f2, .int .u32 t360.f1.f3, .int .u32 t360.f1.f4, .int .u32 t360.f1.f5], .int .i64 t361]), (32, .pointer (some ⟨s_, 0, none⟩)), (228, .tuple #[.agg #[.bool t360.f0, .int .u32 t360.f1.f0, .int .u32 t360.f1.f1, .int .u32 t360.f1.f2, .int .u32 t360.f1.f3, .int .u32 t360.f1.f4, .int .u32 t360.f1.f5], .int .i64 t361]), (233, .agg #[.bool t360.f0, .int .u32 t360.f1.f0, .int .u32 t360.f1.f1, .int .u32 t360.f1.f2, .int .u32 t360.f1.f3, .int .u32 t360.f1.f4, .int .u32 t360.f1.f5]), (234, .int .i64 t361)]) (fun s_ w' => (w'.cell? ⟨gb358, 0, none⟩ = some (.bool t356.f0) ∧ w'.cell? ⟨gb358, 1, none⟩ = some (.int .u32 t356.f1.f0) ∧ w'.cell? ⟨gb358, 2, none⟩ = some (.int .u32 t356.f1.f1) ∧ w'.cell? ⟨gb358, 3, none⟩ = some (.int .u32 t356.f1.f2) ∧ w'.cell? ⟨gb358, 4, none⟩ = some (.int .u32 t356.f1.f3) ∧ w'.cell? ⟨gb358, 5, none⟩ = some (.int .u32 t356.f1.f4) ∧ w'.cell? ⟨gb358, 6, none⟩ = some (.int .u32 t356.f1.f5)) ∧ (w'.heap[gb346]? = some (.cells #[.bool t343.f0, .int .u32 t343.f1.f0, .int .u32 t343.f1.f1, .int .u32 t343.f1.f2, .int .u32 t343.f1.f3, .int .u32 t343.f1.f4, .int .u32 t343.f1.f5] 25 (0, 0))) ∧ (w'.heap[gb347]? = some (.cells #[.bool t344.f0, .int .u32 t344.f1.f0, .int .u32 t344.f1.f1, .int .u32 t344.f1.f2, .int .u32 t344.f1.f3, .int .u32 t344.f1.f4, .int .u32 t344.f1.f5] 25 (0, 0))) ∧ (w'.heap[gb351]? = some (.cells #[.bool t348.f0, .int .u32 t348.f1.f0, .int .u32 t348.f1.f1, .int .u32 t348.f1.f2, .int .u32 t348.f1.f3, .int .u32 t348.f1.f4, .int .u32 t348.f1.f5] 25 (0, 0))) ∧ (w'.heap[gb352]? = some (.cells #[.bool t349.f0, .int .u32 t349.f1.f0, .int .u32 t349.f1.f1, .int .u32 t349.f1.f2, .int .u32 t349.f1.f3, .int .u32 t349.f1.f4, .int .u32 t349.f1.f5] 25 (0, 0))) ∧ (w'.heap[gb355]? = some (.cells #[.bool t353.f0, .int .u32 t353.f1.f0, .int .u32 t353.f1.f1, .int .u32 t353.f1.f2, .int .u32 t353.f1.f3, .int .u32 t353.f1.f4, .int .u32 t353.f1.f5] 25 (0, 0))) ∧ (w'.heap[gb358]? = some (.cells #[.bool t356.f0, .int .u32 t356.f1.f0, .int .u32 t356.f1.f1, .int .u32 t356.f1.f2, .int .u32 t356.f1.f3, .int .u32 t356.f1.f4, .int .u32 t356.f1.f5] 25 (0, 0))) ∧ (w'.heap[s_]? = some (.cells #[.bool false, .int .u32 0, .int .u32 0, .int .u32 0, .int .u32 0, .int .u32 0, .int .u32 0] 25 (0, 0))) ∧ (w.heap.size ≤ s_) ∧ (w.heap.size ≤ s_) ∧ (gb346 ≠ s_) ∧ (s_ ≠ gb346) ∧ (gb347 ≠ s_) ∧ (s_ ≠ gb347) ∧ (gb351 ≠ s_) ∧ (s_ ≠ gb351) ∧ (gb352 ≠ s_) ∧ (s_ ≠ gb352) ∧ (gb355 ≠ s_) ∧ (s_ ≠ gb355) ∧ (gb358 ≠ s_) ∧ (s_ ≠ gb358) ∧ (Below w.heap.size w w')) ?_ ?_
           rotate_left
           ·intro hCont
            refine two_ (i := 1) (j := 7) (Ni := some 230) (Nj := some 32) #[true, true, true, false, false, false, false, false, false, false] #[true, false, true, false, false, false, false, true, false, false] rfl rfl rfl rfl (two_of HT_.out (by kernel_rfl)) (by decide) (by decide) (fun K hK => ?_) (fun K hK => ?_)
            rotate_left
            ·skip
             refine box_step ?hg (N := 32) ?hd (cs := #[.bool false, .int .u32 0, .int .u32 0, .int .u32 0, .int .u32 0, .int .u32 0, .int .u32 0]) (t := 25) ?hr ?_; (case hd => rfl); (case hg => rfl); (case hr => first | (go_simp; done) | (go_simp; rfl))
             intro gb362 hg w164 hbox hb
             have n0_ := kW_ gb346 t343 q10x3_ hb
             have n1_ := kW_ gb347 t344 q10x4_ hb
             have n2_ := kW_ gb351 t348 q10x5_ hb
             have n3_ := kW_ gb352 t349 q10x6_ hb
             have n4_ := kW_ gb355 t353 q10x8_ hb
             have n5_ := kW_ gb358 t356 q10x9_ hb
             have n6_ := aM10_ (bT10_ q10x1_ hb)
             have n7_ := aM10_ (hbox)
             have n8_ := aM10_ ((q10x38_ : w.heap.size ≤ gb362))
             have n9_ := aM10_ ((q10x38_ : w.heap.size ≤ gb362))
             have n10_ := aM10_ ((q10x10_ : gb346 ≠ gb362))
             have n11_ := aM10_ ((q10x11_ : gb362 ≠ gb346))
             have n12_ := aM10_ ((q10x12_ : gb347 ≠ gb362))
             have n13_ := aM10_ ((q10x13_ : gb362 ≠ gb347))
             have n14_ := aM10_ ((q10x15_ : gb351 ≠ gb362))
             have n15_ := aM10_ ((q10x16_ : gb362 ≠ gb351))
             have n16_ := aM10_ ((q10x17_ : gb352 ≠ gb362))
             have n17_ := aM10_ ((q10x18_ : gb362 ≠ gb352))
             have n18_ := aM10_ ((q10x20_ : gb355 ≠ gb362))
             have n19_ := aM10_ ((q10x21_ : gb362 ≠ gb355))
             have n20_ := aM10_ ((q10x22_ : gb358 ≠ gb362))
             have n21_ := aM10_ ((q10x23_ : gb362 ≠ gb358))
             clear BK346 BK347 BK351 BK352 BK355 BK358 HB
             have BK346 := n0_
             have BK347 := n1_
             have BK351 := n2_
             have BK352 := n3_
             have BK355 := n4_
             have BK358 := n5_
             have HB := n6_
             have BK362 := n7_
             have GW362 := n8_
             have GE362 := n9_
             have NB346_362 := n10_
             have NB362_346 := n11_
             have NB347_362 := n12_
             have NB362_347 := n13_
             have NB351_362 := n14_
             have NB362_351 := n15_
             have NB352_362 := n16_
             have NB362_352 := n17_
             have NB355_362 := n18_
             have NB362_355 := n19_
             have NB358_362 := n20_
             have NB362_358 := n21_
             clear n0_ n1_ n2_ n3_ n4_ n5_ n6_ n7_ n8_ n9_ n10_ n11_ n12_ n13_ n14_ n15_ n16_ n17_ n18_ n19_ n20_ n21_ hb hbox hg
             refine hK.out _ _ ⟨(kC10_ BK358.out 0).trans rfl, (kC10_ BK358.out 1).trans rfl, (kC10_ BK358.out 2).trans rfl, (kC10_ BK358.out 3).trans rfl, (kC10_ BK358.out 4).trans rfl, (kC10_ BK358.out 5).trans rfl, (kC10_ BK358.out 6).trans rfl⟩ (fun hHeld => ?_)
             clear hK K
             refine norm_ (a' := ?_) ?_ ?_
             rotate_left
             ·exact q10x69_
             refine one_ (i := 1) (N := some 230) #[true, true, true, false, false, false, false, true, false, false] rfl rfl (one_of HT_.out (by kernel_rfl)) (by decide) (fun K hK => ?_)
             refine goes_ Try.func45 (by kernel_rfl) rfl #[.int .i64 (wrap64 ((wrap64 (t315 * 4)) + t316))] (by rfl) rfl rfl q10x7_ ?_
             with_reducible refine (spec_WideOf.calls (wrap64 ((wrap64 (t315 * 4)) + t316)) t359 _ A157.out).mono ?_
             rintro e w165 ⟨rfl, hb⟩
             refine ⟨_, rfl, ?_⟩
             have n0_ := kW_ gb346 t343 q10x3_ hb
             have n1_ := kW_ gb347 t344 q10x4_ hb
             have n2_ := kW_ gb351 t348 q10x5_ hb
             have n3_ := kW_ gb352 t349 q10x6_ hb
             have n4_ := kW_ gb355 t353 q10x8_ hb
             have n5_ := kW_ gb358 t356 q10x9_ hb
             have n6_ := kZ_ gb362 q10x14_ hb
             have n7_ := aM10_ (bT10_ q10x2_ hb)
             clear BK346 BK347 BK351 BK352 BK355 BK358 BK362 HB
             have BK346 := n0_
             have BK347 := n1_
             have BK351 := n2_
             have BK352 := n3_
             have BK355 := n4_
             have BK358 := n5_
             have BK362 := n6_
             have HB := n7_
             clear n0_ n1_ n2_ n3_ n4_ n5_ n6_ n7_
             (try clear hb)
             (try clear hb2)
             (try clear hk)
             (try clear hi)
             refine hK.out _ _ ⟨(kC10_ BK358.out 0).trans rfl, (kC10_ BK358.out 1).trans rfl, (kC10_ BK358.out 2).trans rfl, (kC10_ BK358.out 3).trans rfl, (kC10_ BK358.out 4).trans rfl, (kC10_ BK358.out 5).trans rfl, (kC10_ BK358.out 6).trans rfl⟩ (fun hHeld => ?_)
             clear hK K
             refine norm_ (a' := ?_) ?_ ?_
             rotate_left
             ·exact q10x70_
             refine one_ (i := 3) (N := some 232) #[true, true, true, true, false, false, false, true, false, false] rfl rfl (one_of HT_.out (by kernel_rfl)) (by decide) (fun K hK => ?_)
             refine goes_ Try.func44 (by kernel_rfl) rfl #[.agg #[.bool t359.f0, .int .u32 t359.f1.f0, .int .u32 t359.f1.f1, .int .u32 t359.f1.f2, .int .u32 t359.f1.f3, .int .u32 t359.f1.f4, .int .u32 t359.f1.f5], .agg #[.bool t356.f0, .int .u32 t356.f1.f0, .int .u32 t356.f1.f1, .int .u32 t356.f1.f2, .int .u32 t356.f1.f3, .int .u32 t356.f1.f4, .int .u32 t356.f1.f5]] (by rfl) rfl rfl q10x7_ ?_
             with_reducible refine (spec_MulWides.calls kj128 t359 t356 t360 t361 _ A158.out).mono ?_
             rintro e w166 ⟨rfl, hb⟩
             refine ⟨_, rfl, ?_⟩
             have n0_ := kW_ gb346 t343 q10x3_ hb
             have n1_ := kW_ gb347 t344 q10x4_ hb
             have n2_ := kW_ gb351 t348 q10x5_ hb
             have n3_ := kW_ gb352 t349 q10x6_ hb
             have n4_ := kW_ gb355 t353 q10x8_ hb
             have n5_ := kW_ gb358 t356 q10x9_ hb
             have n6_ := kZ_ gb362 q10x14_ hb
             have n7_ := aM10_ (bT10_ q10x2_ hb)
             clear BK346 BK347 BK351 BK352 BK355 BK358 BK362 HB
             have BK346 := n0_
             have BK347 := n1_
             have BK351 := n2_
             have BK352 := n3_
             have BK355 := n4_
             have BK358 := n5_
             have BK362 := n6_
             have HB := n7_
             clear n0_ n1_ n2_ n3_ n4_ n5_ n6_ n7_
             (try clear hb)
             (try clear hb2)
             (try clear hk)
             (try clear hi)
             refine hK.out _ _ ⟨(kC10_ BK358.out 0).trans rfl, (kC10_ BK358.out 1).trans rfl, (kC10_ BK358.out 2).trans rfl, (kC10_ BK358.out 3).trans rfl, (kC10_ BK358.out 4).trans rfl, (kC10_ BK358.out 5).trans rfl, (kC10_ BK358.out 6).trans rfl⟩ (fun hHeld => ?_)
             clear hK K
             refine norm_ (a' := ?_) ?_ ?_
             rotate_left
             ·exact q10x71_
             refine pure_ (i := 4) (N := some 228) (v := ?_) (a' := ?_) #[true, true, true, true, true, false, false, true, false, false] rfl rfl (any_of HT_.out (by kernel_rfl)) (fun _ _ _ h => h) (Or.inl ⟨by rfl, ?_⟩) ?_ ?_
             rotate_left
             ·exact q10x66_
             rotate_left
             ·exact q10x67_
             refine pure_ (i := 5) (N := some 233) (v := ?_) (a' := ?_) #[true, true, true, true, true, true, false, true, false, false] rfl rfl (any_of HT_.out (by kernel_rfl)) (fun _ _ _ h => h) (Or.inl ⟨by rfl, ?_⟩) ?_ ?_
             rotate_left
             ·exact q10x66_
             rotate_left
             ·exact q10x67_
             refine pure_ (i := 6) (N := some 234) (v := ?_) (a' := ?_) #[true, true, true, true, true, true, true, true, false, false] rfl rfl (any_of HT_.out (by kernel_rfl)) (fun _ _ _ h => h) (Or.inl ⟨by rfl, ?_⟩) ?_ ?_
             rotate_left
             ·exact q10x66_
             rotate_left
             ·exact q10x67_
             exact norm_ q10x34_ (hCont (gb362) _ ⟨hHeld, q10x3_, q10x4_, q10x5_, q10x6_, q10x8_, q10x9_, q10x14_, GW362.out, GE362.out, NB346_362.out, NB362_346.out, NB347_362.out, NB362_347.out, NB351_362.out, NB362_351.out, NB352_362.out, NB362_352.out, NB355_362.out, NB362_355.out, NB358_362.out, NB362_358.out, q10x2_⟩)
            skip
            refine goes_ Try.func45 (by kernel_rfl) rfl #[.int .i64 (wrap64 ((wrap64 (t315 * 4)) + t316))] (by rfl) rfl rfl q10x7_ ?_
            with_reducible refine (spec_WideOf.calls (wrap64 ((wrap64 (t315 * 4)) + t316)) t359 _ A157.out).mono ?_
            rintro e w164 ⟨rfl, hb⟩
            refine ⟨_, rfl, ?_⟩
            have n0_ := kW_ gb346 t343 q10x3_ hb
            have n1_ := kW_ gb347 t344 q10x4_ hb
            have n2_ := kW_ gb351 t348 q10x5_ hb
            have n3_ := kW_ gb352 t349 q10x6_ hb
            have n4_ := kW_ gb355 t353 q10x8_ hb
            have n5_ := kW_ gb358 t356 q10x9_ hb
            have n6_ := aM10_ (bT10_ q10x1_ hb)
            clear BK346 BK347 BK351 BK352 BK355 BK358 HB
            have BK346 := n0_
            have BK347 := n1_
            have BK351 := n2_
            have BK352 := n3_
            have BK355 := n4_
            have BK358 := n5_
            have HB := n6_
            clear n0_ n1_ n2_ n3_ n4_ n5_ n6_
            (try clear hb)
            (try clear hb2)
            (try clear hk)
            (try clear hi)
            refine hK.out _ _ ⟨(kC10_ BK358.out 0).trans rfl, (kC10_ BK358.out 1).trans rfl, (kC10_ BK358.out 2).trans rfl, (kC10_ BK358.out 3).trans rfl, (kC10_ BK358.out 4).trans rfl, (kC10_ BK358.out 5).trans rfl, (kC10_ BK358.out 6).trans rfl⟩ (fun hHeld => ?_)
            clear hK K
            refine norm_ (a' := ?_) ?_ ?_
            rotate_left
            ·exact q10x70_
            refine two_ (i := 3) (j := 7) (Ni := some 232) (Nj := some 32) #[true, true, true, true, false, false, false, false, false, false] #[true, true, true, false, false, false, false, true, false, false] rfl rfl rfl rfl (two_of HT_.out (by kernel_rfl)) (by decide) (by decide) (fun K hK => ?_) (fun K hK => ?_)
            ·skip
             refine goes_ Try.func44 (by kernel_rfl) rfl #[.agg #[.bool t359.f0, .int .u32 t359.f1.f0, .int .u32 t359.f1.f1, .int .u32 t359.f1.f2, .int .u32 t359.f1.f3, .int .u32 t359.f1.f4, .int .u32 t359.f1.f5], .agg #[.bool t356.f0, .int .u32 t356.f1.f0, .int .u32 t356.f1.f1, .int .u32 t356.f1.f2, .int .u32 t356.f1.f3, .int .u32 t356.f1.f4, .int .u32 t356.f1.f5]] (by rfl) rfl rfl q10x7_ ?_
             with_reducible refine (spec_MulWides.calls kj128 t359 t356 t360 t361 _ A158.out).mono ?_
             rintro e w165 ⟨rfl, hb⟩
             refine ⟨_, rfl, ?_⟩
             have n0_ := kW_ gb346 t343 q10x3_ hb
             have n1_ := kW_ gb347 t344 q10x4_ hb
             have n2_ := kW_ gb351 t348 q10x5_ hb
             have n3_ := kW_ gb352 t349 q10x6_ hb
             have n4_ := kW_ gb355 t353 q10x8_ hb
             have n5_ := kW_ gb358 t356 q10x9_ hb
             have n6_ := aM10_ (bT10_ q10x1_ hb)
             clear BK346 BK347 BK351 BK352 BK355 BK358 HB
             have BK346 := n0_
             have BK347 := n1_
             have BK351 := n2_
             have BK352 := n3_
             have BK355 := n4_
             have BK358 := n5_
             have HB := n6_
             clear n0_ n1_ n2_ n3_ n4_ n5_ n6_
             (try clear hb)
             (try clear hb2)
             (try clear hk)
             (try clear hi)
             refine hK.out _ _ ⟨(kC10_ BK358.out 0).trans rfl, (kC10_ BK358.out 1).trans rfl, (kC10_ BK358.out 2).trans rfl, (kC10_ BK358.out 3).trans rfl, (kC10_ BK358.out 4).trans rfl, (kC10_ BK358.out 5).trans rfl, (kC10_ BK358.out 6).trans rfl⟩ (fun hHeld => ?_)
             clear hK K
             refine norm_ (a' := ?_) ?_ ?_
             rotate_left
             ·exact q10x71_
             refine pure_ (i := 4) (N := some 228) (v := ?_) (a' := ?_) #[true, true, true, true, true, false, false, false, false, false] rfl rfl (any_of HT_.out (by kernel_rfl)) (fun _ _ _ h => h) (Or.inl ⟨by rfl, ?_⟩) ?_ ?_
             rotate_left
             ·exact q10x66_
             rotate_left
             ·exact q10x67_
             refine pure_ (i := 5) (N := some 233) (v := ?_) (a' := ?_) #[true, true, true, true, true, true, false, false, false, false] rfl rfl (any_of HT_.out (by kernel_rfl)) (fun _ _ _ h => h) (Or.inl ⟨by rfl, ?_⟩) ?_ ?_
             rotate_left
             ·exact q10x66_
             rotate_left
             ·exact q10x67_
             refine pure_ (i := 6) (N := some 234) (v := ?_) (a' := ?_) #[true, true, true, true, true, true, true, false, false, false] rfl rfl (any_of HT_.out (by kernel_rfl)) (fun _ _ _ h => h) (Or.inl ⟨by rfl, ?_⟩) ?_ ?_
             rotate_left
             ·exact q10x66_
             rotate_left
             ·exact q10x67_
             refine one_ (i := 7) (N := some 32) #[true, true, true, true, true, true, true, true, false, false] rfl rfl (one_of HT_.out (by kernel_rfl)) (by decide) (fun K hK => ?_)
             refine box_step ?hg (N := 32) ?hd (cs := #[.bool false, .int .u32 0, .int .u32 0, .int .u32 0, .int .u32 0, .int .u32 0, .int .u32 0]) (t := 25) ?hr ?_; (case hd => rfl); (case hg => rfl); (case hr => first | (go_simp; done) | (go_simp; rfl))
             intro gb362 hg w166 hbox hb
             have n0_ := kW_ gb346 t343 q10x3_ hb
             have n1_ := kW_ gb347 t344 q10x4_ hb
             have n2_ := kW_ gb351 t348 q10x5_ hb
             have n3_ := kW_ gb352 t349 q10x6_ hb
             have n4_ := kW_ gb355 t353 q10x8_ hb
             have n5_ := kW_ gb358 t356 q10x9_ hb
             have n6_ := aM10_ (bT10_ q10x1_ hb)
             have n7_ := aM10_ (hbox)
             have n8_ := aM10_ ((q10x38_ : w.heap.size ≤ gb362))
             have n9_ := aM10_ ((q10x38_ : w.heap.size ≤ gb362))
             have n10_ := aM10_ ((q10x10_ : gb346 ≠ gb362))
             have n11_ := aM10_ ((q10x11_ : gb362 ≠ gb346))
             have n12_ := aM10_ ((q10x12_ : gb347 ≠ gb362))
             have n13_ := aM10_ ((q10x13_ : gb362 ≠ gb347))
             have n14_ := aM10_ ((q10x15_ : gb351 ≠ gb362))
             have n15_ := aM10_ ((q10x16_ : gb362 ≠ gb351))
             have n16_ := aM10_ ((q10x17_ : gb352 ≠ gb362))
             have n17_ := aM10_ ((q10x18_ : gb362 ≠ gb352))
             have n18_ := aM10_ ((q10x20_ : gb355 ≠ gb362))
             have n19_ := aM10_ ((q10x21_ : gb362 ≠ gb355))
             have n20_ := aM10_ ((q10x22_ : gb358 ≠ gb362))
             have n21_ := aM10_ ((q10x23_ : gb362 ≠ gb358))
             clear BK346 BK347 BK351 BK352 BK355 BK358 HB
             have BK346 := n0_
             have BK347 := n1_
             have BK351 := n2_
             have BK352 := n3_
             have BK355 := n4_
             have BK358 := n5_
             have HB := n6_
             have BK362 := n7_
             have GW362 := n8_
             have GE362 := n9_
             have NB346_362 := n10_
             have NB362_346 := n11_
             have NB347_362 := n12_
             have NB362_347 := n13_
             have NB351_362 := n14_
             have NB362_351 := n15_
             have NB352_362 := n16_
             have NB362_352 := n17_
             have NB355_362 := n18_
             have NB362_355 := n19_
             have NB358_362 := n20_
             have NB362_358 := n21_
             clear n0_ n1_ n2_ n3_ n4_ n5_ n6_ n7_ n8_ n9_ n10_ n11_ n12_ n13_ n14_ n15_ n16_ n17_ n18_ n19_ n20_ n21_ hb hbox hg
             refine hK.out _ _ ⟨(kC10_ BK358.out 0).trans rfl, (kC10_ BK358.out 1).trans rfl, (kC10_ BK358.out 2).trans rfl, (kC10_ BK358.out 3).trans rfl, (kC10_ BK358.out 4).trans rfl, (kC10_ BK358.out 5).trans rfl, (kC10_ BK358.out 6).trans rfl⟩ (fun hHeld => ?_)
             clear hK K
             refine norm_ (a' := ?_) ?_ ?_
             rotate_left
             ·exact q10x69_
             exact norm_ q10x34_ (hCont (gb362) _ ⟨hHeld, q10x3_, q10x4_, q10x5_, q10x6_, q10x8_, q10x9_, q10x14_, GW362.out, GE362.out, NB346_362.out, NB362_346.out, NB347_362.out, NB362_347.out, NB351_362.out, NB362_351.out, NB352_362.out, NB362_352.out, NB355_362.out, NB362_355.out, NB358_362.out, NB362_358.out, q10x2_⟩)
            skip
            refine box_step ?hg (N := 32) ?hd (cs := #[.bool false, .int .u32 0, .int .u32 0, .int .u32 0, .int .u32 0, .int .u32 0, .int .u32 0]) (t := 25) ?hr ?_; (case hd => rfl); (case hg => rfl); (case hr => first | (go_simp; done) | (go_simp; rfl))
            intro gb362 hg w165 hbox hb
            have n0_ := kW_ gb346 t343 q10x3_ hb
            have n1_ := kW_ gb347 t344 q10x4_ hb
            have n2_ := kW_ gb351 t348 q10x5_ hb
            have n3_ := kW_ gb352 t349 q10x6_ hb
            have n4_ := kW_ gb355 t353 q10x8_ hb
            have n5_ := kW_ gb358 t356 q10x9_ hb
            have n6_ := aM10_ (bT10_ q10x1_ hb)
            have n7_ := aM10_ (hbox)
            have n8_ := aM10_ ((q10x38_ : w.heap.size ≤ gb362))
            have n9_ := aM10_ ((q10x38_ : w.heap.size ≤ gb362))
            have n10_ := aM10_ ((q10x10_ : gb346 ≠ gb362))
            have n11_ := aM10_ ((q10x11_ : gb362 ≠ gb346))
            have n12_ := aM10_ ((q10x12_ : gb347 ≠ gb362))
            have n13_ := aM10_ ((q10x13_ : gb362 ≠ gb347))
            have n14_ := aM10_ ((q10x15_ : gb351 ≠ gb362))
            have n15_ := aM10_ ((q10x16_ : gb362 ≠ gb351))
            have n16_ := aM10_ ((q10x17_ : gb352 ≠ gb362))
            have n17_ := aM10_ ((q10x18_ : gb362 ≠ gb352))
            have n18_ := aM10_ ((q10x20_ : gb355 ≠ gb362))
            have n19_ := aM10_ ((q10x21_ : gb362 ≠ gb355))
            have n20_ := aM10_ ((q10x22_ : gb358 ≠ gb362))
            have n21_ := aM10_ ((q10x23_ : gb362 ≠ gb358))
            clear BK346 BK347 BK351 BK352 BK355 BK358 HB
            have BK346 := n0_
            have BK347 := n1_
            have BK351 := n2_
            have BK352 := n3_
            have BK355 := n4_
            have BK358 := n5_
            have HB := n6_
            have BK362 := n7_
            have GW362 := n8_
            have GE362 := n9_
            have NB346_362 := n10_
            have NB362_346 := n11_
            have NB347_362 := n12_
            have NB362_347 := n13_
            have NB351_362 := n14_
            have NB362_351 := n15_
            have NB352_362 := n16_
            have NB362_352 := n17_
            have NB355_362 := n18_
            have NB362_355 := n19_
            have NB358_362 := n20_
            have NB362_358 := n21_
            clear n0_ n1_ n2_ n3_ n4_ n5_ n6_ n7_ n8_ n9_ n10_ n11_ n12_ n13_ n14_ n15_ n16_ n17_ n18_ n19_ n20_ n21_ hb hbox hg
            refine hK.out _ _ ⟨(kC10_ BK358.out 0).trans rfl, (kC10_ BK358.out 1).trans rfl, (kC10_ BK358.out 2).trans rfl, (kC10_ BK358.out 3).trans rfl, (kC10_ BK358.out 4).trans rfl, (kC10_ BK358.out 5).trans rfl, (kC10_ BK358.out 6).trans rfl⟩ (fun hHeld => ?_)
            clear hK K
            refine norm_ (a' := ?_) ?_ ?_
            rotate_left
            ·exact q10x69_
            refine one_ (i := 3) (N := some 232) #[true, true, true, true, false, false, false, true, false, false] rfl rfl (one_of HT_.out (by kernel_rfl)) (by decide) (fun K hK => ?_)
            refine goes_ Try.func44 (by kernel_rfl) rfl #[.agg #[.bool t359.f0, .int .u32 t359.f1.f0, .int .u32 t359.f1.f1, .int .u32 t359.f1.f2, .int .u32 t359.f1.f3, .int .u32 t359.f1.f4, .int .u32 t359.f1.f5], .agg #[.bool t356.f0, .int .u32 t356.f1.f0, .int .u32 t356.f1.f1, .int .u32 t356.f1.f2, .int .u32 t356.f1.f3, .int .u32 t356.f1.f4, .int .u32 t356.f1.f5]] (by rfl) rfl rfl q10x7_ ?_
            with_reducible refine (spec_MulWides.calls kj128 t359 t356 t360 t361 _ A158.out).mono ?_
            rintro e w166 ⟨rfl, hb⟩
            refine ⟨_, rfl, ?_⟩
            have n0_ := kW_ gb346 t343 q10x3_ hb
            have n1_ := kW_ gb347 t344 q10x4_ hb
            have n2_ := kW_ gb351 t348 q10x5_ hb
            have n3_ := kW_ gb352 t349 q10x6_ hb
            have n4_ := kW_ gb355 t353 q10x8_ hb
            have n5_ := kW_ gb358 t356 q10x9_ hb
            have n6_ := kZ_ gb362 q10x14_ hb
            have n7_ := aM10_ (bT10_ q10x2_ hb)
            clear BK346 BK347 BK351 BK352 BK355 BK358 BK362 HB
            have BK346 := n0_
            have BK347 := n1_
            have BK351 := n2_
            have BK352 := n3_
            have BK355 := n4_
            have BK358 := n5_
            have BK362 := n6_
            have HB := n7_
            clear n0_ n1_ n2_ n3_ n4_ n5_ n6_ n7_
            (try clear hb)
            (try clear hb2)
            (try clear hk)
            (try clear hi)
            refine hK.out _ _ ⟨(kC10_ BK358.out 0).trans rfl, (kC10_ BK358.out 1).trans rfl, (kC10_ BK358.out 2).trans rfl, (kC10_ BK358.out 3).trans rfl, (kC10_ BK358.out 4).trans rfl, (kC10_ BK358.out 5).trans rfl, (kC10_ BK358.out 6).trans rfl⟩ (fun hHeld => ?_)
            clear hK K
            refine norm_ (a' := ?_) ?_ ?_
            rotate_left
            ·exact q10x71_
            refine pure_ (i := 4) (N := some 228) (v := ?_) (a' := ?_) #[true, true, true, true, true, false, false, true, false, false] rfl rfl (any_of HT_.out (by kernel_rfl)) (fun _ _ _ h => h) (Or.inl ⟨by rfl, ?_⟩) ?_ ?_
            rotate_left
            ·exact q10x66_
            rotate_left
            ·exact q10x67_
            refine pure_ (i := 5) (N := some 233) (v := ?_) (a' := ?_) #[true, true, true, true, true, true, false, true, false, false] rfl rfl (any_of HT_.out (by kernel_rfl)) (fun _ _ _ h => h) (Or.inl ⟨by rfl, ?_⟩) ?_ ?_
            rotate_left
            ·exact q10x66_
            rotate_left
            ·exact q10x67_
            refine pure_ (i := 6) (N := some 234) (v := ?_) (a' := ?_) #[true, true, true, true, true, true, true, true, false, false] rfl rfl (any_of HT_.out (by kernel_rfl)) (fun _ _ _ h => h) (Or.inl ⟨by rfl, ?_⟩) ?_ ?_
            rotate_left
            ·exact q10x66_
            rotate_left
            ·exact q10x67_
            exact norm_ q10x34_ (hCont (gb362) _ ⟨hHeld, q10x3_, q10x4_, q10x5_, q10x6_, q10x8_, q10x9_, q10x14_, GW362.out, GE362.out, NB346_362.out, NB362_346.out, NB347_362.out, NB362_347.out, NB351_362.out, NB362_351.out, NB352_362.out, NB362_352.out, NB355_362.out, NB362_355.out, NB358_362.out, NB362_358.out, q10x2_⟩)
           rintro gb362 w167 ⟨hS_, h0_, h1_, h2_, h3_, h4_, h5_, h6_, h7_, h8_, h9_, h10_, h11_, h12_, h13_, h14_, h15_, h16_, h17_, h18_, h19_, h20_, h21_⟩
           have n0_ : bW_ w167 gb346 t343 := ⟨h0_⟩
           have n1_ : bW_ w167 gb347 t344 := ⟨h1_⟩
           have n2_ : bW_ w167 gb351 t348 := ⟨h2_⟩
           have n3_ : bW_ w167 gb352 t349 := ⟨h3_⟩
           have n4_ : bW_ w167 gb355 t353 := ⟨h4_⟩
           have n5_ : bW_ w167 gb358 t356 := ⟨h5_⟩
           have n6_ : bZ_ w167 gb362 := ⟨h6_⟩
           have n7_ : Aside0 (w.heap.size ≤ gb362) := ⟨h7_⟩
           have n8_ : Aside0 (w.heap.size ≤ gb362) := ⟨h8_⟩
           have n9_ : Aside0 (gb346 ≠ gb362) := ⟨h9_⟩
           have n10_ : Aside0 (gb362 ≠ gb346) := ⟨h10_⟩
           have n11_ : Aside0 (gb347 ≠ gb362) := ⟨h11_⟩
           have n12_ : Aside0 (gb362 ≠ gb347) := ⟨h12_⟩
           have n13_ : Aside0 (gb351 ≠ gb362) := ⟨h13_⟩
           have n14_ : Aside0 (gb362 ≠ gb351) := ⟨h14_⟩
           have n15_ : Aside0 (gb352 ≠ gb362) := ⟨h15_⟩
           have n16_ : Aside0 (gb362 ≠ gb352) := ⟨h16_⟩
           have n17_ : Aside0 (gb355 ≠ gb362) := ⟨h17_⟩
           have n18_ : Aside0 (gb362 ≠ gb355) := ⟨h18_⟩
           have n19_ : Aside0 (gb358 ≠ gb362) := ⟨h19_⟩
           have n20_ : Aside0 (gb362 ≠ gb358) := ⟨h20_⟩
           have n21_ : Aside0 (Below w.heap.size w w167) := ⟨h21_⟩
           clear BK346 BK347 BK351 BK352 BK355 BK358 HB h0_ h1_ h2_ h3_ h4_ h5_ h6_ h7_ h8_ h9_ h10_ h11_ h12_ h13_ h14_ h15_ h16_ h17_ h18_ h19_ h20_ h21_
           have BK346 := n0_
           have BK347 := n1_
           have BK351 := n2_
           have BK352 := n3_
           have BK355 := n4_
           have BK358 := n5_
           have BK362 := n6_
           have GW362 := n7_
           have GE362 := n8_
           have NB346_362 := n9_
           have NB362_346 := n10_
           have NB347_362 := n11_
           have NB362_347 := n12_
           have NB351_362 := n13_
           have NB362_351 := n14_
           have NB352_362 := n15_
           have NB362_352 := n16_
           have NB355_362 := n17_
           have NB362_355 := n18_
           have NB358_362 := n19_
           have NB362_358 := n20_
           have HB := n21_
           clear n0_ n1_ n2_ n3_ n4_ n5_ n6_ n7_ n8_ n9_ n10_ n11_ n12_ n13_ n14_ n15_ n16_ n17_ n18_ n19_ n20_ n21_
           have hHeld : w167.cell? ⟨gb358, 0, none⟩ = some (.bool t356.f0) ∧ w167.cell? ⟨gb358, 1, none⟩ = some (.int .u32 t356.f1.f0) ∧ w167.cell? ⟨gb358, 2, none⟩ = some (.int .u32 t356.f1.f1) ∧ w167.cell? ⟨gb358, 3, none⟩ = some (.int .u32 t356.f1.f2) ∧ w167.cell? ⟨gb358, 4, none⟩ = some (.int .u32 t356.f1.f3) ∧ w167.cell? ⟨gb358, 5, none⟩ = some (.int .u32 t356.f1.f4) ∧ w167.cell? ⟨gb358, 6, none⟩ = some (.int .u32 t356.f1.f5) := hS_
           refine norm_ (a' := ?_) ?_ ?_
           rotate_left
           ·exact q10x72_
           refine one_store_ (i := 8) (w1 := (pS_ w167 gb362 t360)) #[true, true, true, true, true, true, true, true, true, false] rfl rfl (by kernel_rfl) (by decide) (by rfl) (run_put7_ rfl (show _ = Value.pointer (some ⟨gb362, 0, none⟩) from by rfl) (show _ = Value.agg #[.bool t360.f0, .int .u32 t360.f1.f0, .int .u32 t360.f1.f1, .int .u32 t360.f1.f2, .int .u32 t360.f1.f3, .int .u32 t360.f1.f4, .int .u32 t360.f1.f5] from by rfl) q10x14_ (by kernel_rfl) (by rfl)) ⟨((far7_ (g := gb362) NB358_362.out).trans (hHeld.1)), ((far7_ (g := gb362) NB358_362.out).trans (hHeld.2.1)), ((far7_ (g := gb362) NB358_362.out).trans (hHeld.2.2.1)), ((far7_ (g := gb362) NB358_362.out).trans (hHeld.2.2.2.1)), ((far7_ (g := gb362) NB358_362.out).trans (hHeld.2.2.2.2.1)), ((far7_ (g := gb362) NB358_362.out).trans (hHeld.2.2.2.2.2.1)), ((far7_ (g := gb362) NB358_362.out).trans (hHeld.2.2.2.2.2.2))⟩ (fun hHeld => ?_)
           refine pure_ (i := 9) (N := some 33) (v := ?_) (a' := ?_) #[true, true, true, true, true, true, true, true, true, true] rfl rfl (any_of HT_.out (by kernel_rfl)) (fun _ _ _ h => h) (Or.inl ⟨by rfl, ?_⟩) ?_ ?_
           rotate_left
           ·exact q10x66_
           rotate_left
           ·exact q10x67_
           refine done_ (done_of HT_.out (by kernel_rfl)) ?_
           by_cases c159 : t361 = 0
           rotate_left
           ·rw [if_neg c159] at H
            have c159b0 : (t361 == 0) = false := beq_eq_false_iff_ne.mpr c159
            have c159b1 : (t361 != 0) = true := bne_iff_ne.mpr c159
            obtain rfl := Option.some.inj H
            try go_wp2
            go_ret
            exact ⟨by first | rfl | (simp [errW_none, errW_some] <;> rfl) | (simp only [← hji59]; first | rfl | (simp [errW_none, errW_some] <;> rfl)) | (simp [*, errW_none, errW_some] <;> rfl), by repeat (first | (with_reducible first | exact HB.out | apply bA10_ | apply bN10_ | apply bD10_ | refine bS10_ ?_ GE346.out | refine bS10_ ?_ GE347.out | refine bS10_ ?_ GE351.out | refine bS10_ ?_ GE352.out | refine bS10_ ?_ GE355.out | refine bS10_ ?_ GE358.out | refine bS10_ ?_ GE362.out) | exact HB.out)⟩
           rw [if_pos c159] at H
           have c159b0 : (t361 == 0) = true := beq_iff_eq.mpr c159
           have c159b1 : (t361 != 0) = false := bne_eq_false_iff_eq.mpr c159
           clear c159
           replace H := Option.bind_eq_some_iff.mp H
           obtain ⟨⟨t363, t364⟩, A1600, H⟩ := H
           replace H : (if t364 = 0 then ((spec_WideOf.f 1).bind fun t366 => (some (t363.f0 == t366.f0 && ((t363.f1.f0 == t366.f1.f0 && (t363.f1.f1 == t366.f1.f1 && (t363.f1.f2 == t366.f1.f2 && (t363.f1.f3 == t366.f1.f3 && (t363.f1.f4 == t366.f1.f4 && (t363.f1.f5 == t366.f1.f5)))))))))) else (some false)) = some r := H
           have A160 := aM10_ A1600
           clear A1600
           by_cases c161 : t364 = 0
           rotate_left
           ·rw [if_neg c161] at H
            have c161b0 : (t364 == 0) = false := beq_eq_false_iff_ne.mpr c161
            have c161b1 : (t364 != 0) = true := bne_iff_ne.mpr c161
            exact (noF_ HT.out H).elim
           rw [if_pos c161] at H
           have c161b0 : (t364 == 0) = true := beq_iff_eq.mpr c161
           have c161b1 : (t364 != 0) = false := bne_eq_false_iff_eq.mpr c161
           clear c161
           replace H := Option.bind_eq_some_iff.mp H
           obtain ⟨t366, A1620, H⟩ := H
           replace H : (some (t363.f0 == t366.f0 && ((t363.f1.f0 == t366.f1.f0 && (t363.f1.f1 == t366.f1.f1 && (t363.f1.f2 == t366.f1.f2 && (t363.f1.f3 == t366.f1.f3 && (t363.f1.f4 == t366.f1.f4 && (t363.f1.f5 == t366.f1.f5))))))))) = some r := H
           have A162 := aM10_ A1620
           clear A1620
           obtain rfl := Option.some.inj H
           have hnb175 := NB355_346.out
           have hnc175 := NB346_355.out
           have hnb176 := NB355_347.out
           have hnc176 := NB347_355.out
           have hnb177 := NB355_351.out
           have hnc177 := NB351_355.out
           have hnb178 := NB355_352.out
           have hnc178 := NB352_355.out
           have hnb179 := NB355_358.out
           have hnc179 := NB358_355.out
           have hnb180 := NB355_362.out
           have hnc180 := NB362_355.out
           obtain ⟨hcz181_0, hcz181_1, hcz181_2, hcz181_3, hcz181_4, hcz181_5, hcz181_6⟩ := cells7_ BK355.out
           obtain ⟨hfz181_0, hfz181_1, hfz181_2, hfz181_3, hfz181_4, hfz181_5, hfz181_6⟩ := frozen7_ BK355.out
           have hnb182 := NB362_346.out
           have hnc182 := NB346_362.out
           have hnb183 := NB362_347.out
           have hnc183 := NB347_362.out
           have hnb184 := NB362_351.out
           have hnc184 := NB351_362.out
           have hnb185 := NB362_352.out
           have hnc185 := NB352_362.out
           have hnb186 := NB362_358.out
           have hnc186 := NB358_362.out
           obtain ⟨hcz187_0, hcz187_1, hcz187_2, hcz187_3, hcz187_4, hcz187_5, hcz187_6⟩ := cells7_ BK362.out
           obtain ⟨hfz187_0, hfz187_1, hfz187_2, hfz187_3, hfz187_4, hfz187_5, hfz187_6⟩ := frozen7_ BK362.out
           try go_wp2_with (first | ((with_reducible refine gate_callee (f := 46) rfl ?_); refine goesL_ (some 242) rfl rfl Try.func46 (by kernel_rfl) rfl #[.agg #[.bool t353.f0, .int .u32 t353.f1.f0, .int .u32 t353.f1.f1, .int .u32 t353.f1.f2, .int .u32 t353.f1.f3, .int .u32 t353.f1.f4, .int .u32 t353.f1.f5], .agg #[.bool t360.f0, .int .u32 t360.f1.f0, .int .u32 t360.f1.f1, .int .u32 t360.f1.f2, .int .u32 t360.f1.f3, .int .u32 t360.f1.f4, .int .u32 t360.f1.f5]] rfl q10x7_ ?_; (with_reducible refine (spec_SubWides.calls kj128 t353 t360 t363 t364 _ A160.out).mono ?_); rintro e w188 ⟨rfl, hb⟩; refine ⟨_, rfl, ?_⟩; have n0_ := kW_ gb346 t343 q10x56_ hb; have n1_ := kW_ gb347 t344 q10x57_ hb; have n2_ := kW_ gb351 t348 q10x58_ hb; have n3_ := kW_ gb352 t349 q10x59_ hb; have n4_ := kW_ gb355 t353 q10x60_ hb; have n5_ := kW_ gb358 t356 q10x61_ hb; have n6_ := kW_ gb362 t360 q10x46_ hb; have n7_ := aM10_ (bT10_ q10x2_ hb); clear BK346 BK347 BK351 BK352 BK355 BK358 BK362 HB; have BK346 := n0_; have BK347 := n1_; have BK351 := n2_; have BK352 := n3_; have BK355 := n4_; have BK358 := n5_; have BK362 := n6_; have HB := n7_; clear n0_ n1_ n2_ n3_ n4_ n5_ n6_ n7_; (try clear hb); (try clear hb2); (try clear hk); (try clear hi)) | ((with_reducible refine gate_dst (N := 34) rfl ?_); refine box_event ?hg (N := 34) ?hd (cs := #[.bool false, .int .u32 0, .int .u32 0, .int .u32 0, .int .u32 0, .int .u32 0, .int .u32 0]) (t := 25) ?hr ?_; (case hd => rfl); (case hg => rfl); (case hr => first | (go_simp; done) | (go_simp; rfl)); intro gb365 hg w189 hbox hb; have n0_ := kW_ gb346 t343 q10x3_ hb; have n1_ := kW_ gb347 t344 q10x4_ hb; have n2_ := kW_ gb351 t348 q10x5_ hb; have n3_ := kW_ gb352 t349 q10x6_ hb; have n4_ := kW_ gb355 t353 q10x8_ hb; have n5_ := kW_ gb358 t356 q10x9_ hb; have n6_ := kW_ gb362 t360 q10x14_ hb; have n7_ := aM10_ (bT10_ q10x2_ hb); have n8_ := aM10_ (hbox); have n9_ := aM10_ ((by rw [hg]; exact (below_size q10x2_) : w.heap.size ≤ gb365)); have n10_ := aM10_ ((by rw [hg]; exact (below_size q10x2_) : w.heap.size ≤ gb365)); have n11_ := aM10_ ((q10x10_ : gb346 ≠ gb365)); have n12_ := aM10_ ((q10x11_ : gb365 ≠ gb346)); have n13_ := aM10_ ((q10x12_ : gb347 ≠ gb365)); have n14_ := aM10_ ((q10x13_ : gb365 ≠ gb347)); have n15_ := aM10_ ((q10x15_ : gb351 ≠ gb365)); have n16_ := aM10_ ((q10x16_ : gb365 ≠ gb351)); have n17_ := aM10_ ((q10x17_ : gb352 ≠ gb365)); have n18_ := aM10_ ((q10x18_ : gb365 ≠ gb352)); have n19_ := aM10_ ((q10x20_ : gb355 ≠ gb365)); have n20_ := aM10_ ((q10x21_ : gb365 ≠ gb355)); have n21_ := aM10_ ((q10x22_ : gb358 ≠ gb365)); have n22_ := aM10_ ((q10x23_ : gb365 ≠ gb358)); have n23_ := aM10_ ((q10x63_ : gb362 ≠ gb365)); have n24_ := aM10_ ((q10x64_ : gb365 ≠ gb362)); clear BK346 BK347 BK351 BK352 BK355 BK358 BK362 HB; have BK346 := n0_; have BK347 := n1_; have BK351 := n2_; have BK352 := n3_; have BK355 := n4_; have BK358 := n5_; have BK362 := n6_; have HB := n7_; have BK365 := n8_; have GW365 := n9_; have GE365 := n10_; have NB346_365 := n11_; have NB365_346 := n12_; have NB347_365 := n13_; have NB365_347 := n14_; have NB351_365 := n15_; have NB365_351 := n16_; have NB352_365 := n17_; have NB365_352 := n18_; have NB355_365 := n19_; have NB365_355 := n20_; have NB358_365 := n21_; have NB365_358 := n22_; have NB362_365 := n23_; have NB365_362 := n24_; clear n0_ n1_ n2_ n3_ n4_ n5_ n6_ n7_ n8_ n9_ n10_ n11_ n12_ n13_ n14_ n15_ n16_ n17_ n18_ n19_ n20_ n21_ n22_ n23_ n24_; clear hb hbox hg; have hnb190 := NB365_346.out; have hnc190 := NB346_365.out; have hnb191 := NB365_347.out; have hnc191 := NB347_365.out; have hnb192 := NB365_351.out; have hnc192 := NB351_365.out; have hnb193 := NB365_352.out; have hnc193 := NB352_365.out; have hnb194 := NB365_355.out; have hnc194 := NB355_365.out; have hnb195 := NB365_358.out; have hnc195 := NB358_365.out; have hnb196 := NB365_362.out; have hnc196 := NB362_365.out; obtain ⟨hcz197_0, hcz197_1, hcz197_2, hcz197_3, hcz197_4, hcz197_5, hcz197_6⟩ := cells7_ BK365.out; obtain ⟨hfz197_0, hfz197_1, hfz197_2, hfz197_3, hfz197_4, hfz197_5, hfz197_6⟩ := frozen7_ BK365.out) | ((with_reducible refine gate_store (t := 25) (p := 34) rfl ?_); refine store_event (t := 25) (p := 34) (v := ?vo_w198) (w1 := (pS_ w189 gb365 t363)) ?hg ?ho ?hn ?hr ?_; (case ho => rfl); (case hg => rfl); (case hn => rfl); (case hr => first | ((try simp only [Act.put, List.setIfInBounds_toArray, List.set_cons_zero, List.set_cons_succ]); exact run_put7_ rfl (show _ = Value.pointer (some ⟨gb365, 0, none⟩) from by rfl) (show _ = Value.agg #[.bool t363.f0, .int .u32 t363.f1.f0, .int .u32 t363.f1.f1, .int .u32 t363.f1.f2, .int .u32 t363.f1.f3, .int .u32 t363.f1.f4, .int .u32 t363.f1.f5] from by rfl) BK365.out (by kernel_rfl) (by rfl)) | (go_simp; done) | (go_simp; rfl)); intro w198 hw; have n0_ : bW_ w198 gb346 t343 := ⟨q10x48_⟩; have n1_ : bW_ w198 gb347 t344 := ⟨q10x49_⟩; have n2_ : bW_ w198 gb351 t348 := ⟨q10x50_⟩; have n3_ : bW_ w198 gb352 t349 := ⟨q10x51_⟩; have n4_ : bW_ w198 gb355 t353 := ⟨q10x52_⟩; have n5_ : bW_ w198 gb358 t356 := ⟨q10x53_⟩; have n6_ : bW_ w198 gb362 t360 := ⟨q10x54_⟩; have n7_ : bW_ w198 gb365 t363 := ⟨q10x43_⟩; have n8_ : Aside0 (Below w.heap.size w w198) := ⟨(by rw [hw]; exact q10x33_)⟩; clear hw; clear BK346; clear BK347; clear BK351; clear BK352; clear BK355; clear BK358; clear BK362; clear BK365; clear HB; have BK346 := n0_; have BK347 := n1_; have BK351 := n2_; have BK352 := n3_; have BK355 := n4_; have BK358 := n5_; have BK362 := n6_; have BK365 := n7_; have HB := n8_; clear n0_ n1_ n2_ n3_ n4_ n5_ n6_ n7_ n8_))
           have n0_ := aM10_ (kD10_ BK346.out)
           have n1_ := aM10_ (kD10_ BK347.out)
           have n2_ := aM10_ (kD10_ BK351.out)
           have n3_ := aM10_ (kD10_ BK352.out)
           have n4_ := aM10_ (kD10_ BK355.out)
           have n5_ := aM10_ (kD10_ BK358.out)
           have n6_ := aM10_ (kD10_ BK362.out)
           have n7_ := aM10_ (kD10_ BK365.out)
           have n8_ := aM10_ (bD10_ HB.out)
           clear BK346 BK347 BK351 BK352 BK355 BK358 BK362 BK365 HB
           have BK346 := n0_
           have BK347 := n1_
           have BK351 := n2_
           have BK352 := n3_
           have BK355 := n4_
           have BK358 := n5_
           have BK362 := n6_
           have BK365 := n7_
           have HB := n8_
           clear n0_ n1_ n2_ n3_ n4_ n5_ n6_ n7_ n8_
           refine start_ (n := 8) (S := fun w' => w'.cell? ⟨gb365, 0, none⟩ = some (.bool t363.f0) ∧ w'.cell? ⟨gb365, 1, none⟩ = some (.int .u32 t363.f1.f0) ∧ w'.cell? ⟨gb365, 2, none⟩ = some (.int .u32 t363.f1.f1) ∧ w'.cell? ⟨gb365, 3, none⟩ = some (.int .u32 t363.f1.f2) ∧ w'.cell? ⟨gb365, 4, none⟩ = some (.int .u32 t363.f1.f3) ∧ w'.cell? ⟨gb365, 5, none⟩ = some (.int .u32 t363.f1.f4) ∧ w'.cell? ⟨gb365, 6, none⟩ = some (.int .u32 t363.f1.f5)) (ds := []) #[false, false, false, false, false, false, false, false] (by kernel_rfl) rfl rfl ⟨(kC10_ BK365.out 0).trans rfl, (kC10_ BK365.out 1).trans rfl, (kC10_ BK365.out 2).trans rfl, (kC10_ BK365.out 3).trans rfl, (kC10_ BK365.out 4).trans rfl, (kC10_ BK365.out 5).trans rfl, (kC10_ BK365.out 6).trans rfl⟩ (fun hHeld => ?_); refine with_tabW laws_FnRoots.tab39 laws_FnRoots.bits39 (fun HT_ HW_ => ?_)
           generalize w198.drew = w199 at BK346 BK347 BK351 BK352 BK355 BK358 BK362 BK365 HB hHeld ⊢
           refine pure_ (i := 0) (N := some 245) (v := ?_) (a' := ?_) #[true, false, false, false, false, false, false, false] rfl rfl (any_of HT_.out (by kernel_rfl)) (fun _ _ _ h => h) (Or.inl ⟨by rfl, ?_⟩) ?_ ?_
           rotate_left
           ·exact q10x66_
           rotate_left
           ·exact q10x67_
           refine pure_ (i := 1) (N := some 246) (v := ?_) (a' := ?_) #[true, true, false, false, false, false, false, false] rfl rfl (any_of HT_.out (by kernel_rfl)) (fun _ _ _ h => h) (Or.inl ⟨by rfl, ?_⟩) ?_ ?_
           rotate_left
           ·exact q10x66_
           rotate_left
           ·exact q10x67_
           refine pure_ (i := 2) (N := some 247) (v := ?_) (a' := ?_) #[true, true, true, false, false, false, false, false] rfl rfl (any_of HT_.out (by kernel_rfl)) (fun _ _ _ h => h) (Or.inl ⟨by rfl, ?_⟩) ?_ ?_
           rotate_left
           ·exact q10x66_
           rotate_left
           ·exact q10x67_
           refine take_ (i := 3) (N := some 248) (v := ?_) (a' := ?_) #[true, true, true, true, false, false, false, false] rfl rfl (take_ofW HT_.out HW_.out (by kernel_rfl)) (fun _ _ _ h => h) (Or.inl ⟨by rfl, ?_⟩) hHeld ?_ ?_
           rotate_left
           ·exact q10x68_
           rotate_left
           ·exact q10x67_
           refine one_ (i := 4) (N := some 249) #[true, true, true, true, true, false, false, false] rfl rfl (one_of HT_.out (by kernel_rfl)) (by decide) (fun K hK => ?_)
           refine goes_ Try.func45 (by kernel_rfl) rfl #[.int .i64 1] (by rfl) rfl rfl q10x7_ ?_
           with_reducible refine (spec_WideOf.calls 1 t366 _ A162.out).mono ?_
           rintro e w200 ⟨rfl, hb⟩
           refine ⟨_, rfl, ?_⟩
           have n0_ := kW_ gb346 t343 q10x3_ hb
           have n1_ := kW_ gb347 t344 q10x4_ hb
           have n2_ := kW_ gb351 t348 q10x5_ hb
           have n3_ := kW_ gb352 t349 q10x6_ hb
           have n4_ := kW_ gb355 t353 q10x8_ hb
           have n5_ := kW_ gb358 t356 q10x9_ hb
           have n6_ := kW_ gb362 t360 q10x14_ hb
           have n7_ := aM10_ (kB10_ (g := gb365) (o := .cells #[.bool t363.f0, .int .u32 t363.f1.f0, .int .u32 t363.f1.f1, .int .u32 t363.f1.f2, .int .u32 t363.f1.f3, .int .u32 t363.f1.f4, .int .u32 t363.f1.f5] 25 (0, 0)) (by (with_reducible repeat (first | refine kN10_ ?_ _ | refine kD10_ ?_ | refine kA10_ ?_ _)); exact BK365.out) hb)
           have n8_ := aM10_ (bT10_ q10x33_ hb)
           clear BK346 BK347 BK351 BK352 BK355 BK358 BK362 BK365 HB
           have BK346 := n0_
           have BK347 := n1_
           have BK351 := n2_
           have BK352 := n3_
           have BK355 := n4_
           have BK358 := n5_
           have BK362 := n6_
           have BK365 := n7_
           have HB := n8_
           clear n0_ n1_ n2_ n3_ n4_ n5_ n6_ n7_ n8_
           (try clear hb)
           (try clear hb2)
           (try clear hk)
           (try clear hi)
           refine hK.out _ _ ⟨(kC10_ BK365.out 0).trans rfl, (kC10_ BK365.out 1).trans rfl, (kC10_ BK365.out 2).trans rfl, (kC10_ BK365.out 3).trans rfl, (kC10_ BK365.out 4).trans rfl, (kC10_ BK365.out 5).trans rfl, (kC10_ BK365.out 6).trans rfl⟩ (fun hHeld => ?_)
           clear hK K
           refine norm_ (a' := ?_) ?_ ?_
           rotate_left
           ·show Act.put _ (some 249) _ = _
            simp only [Act.put, List.setIfInBounds_toArray, List.set_cons_zero, List.set_cons_succ, i64_w, i32_w]
            rfl
           refine pure_ (i := 5) (N := some 250) (v := ?_) (a' := ?_) #[true, true, true, true, true, true, false, false] rfl rfl (any_of HT_.out (by kernel_rfl)) (fun _ _ _ h => h) (Or.inl ⟨by rfl, ?_⟩) ?_ ?_
           rotate_left
           ·exact q10x66_
           rotate_left
           ·exact q10x67_
           refine pure_ (i := 6) (N := some 251) (v := ?_) (a' := ?_) #[true, true, true, true, true, true, true, false] rfl rfl (any_of HT_.out (by kernel_rfl)) (fun _ _ _ h => h) (Or.inl ⟨by rfl, ?_⟩) ?_ ?_
           rotate_left
           ·exact q10x66_
           rotate_left
           ·exact q10x67_
           refine pure_ (i := 7) (N := some 2) (v := ?_) (a' := ?_) #[true, true, true, true, true, true, true, true] rfl rfl (any_of HT_.out (by kernel_rfl)) (fun _ _ _ h => h) (Or.inl ⟨by rfl, ?_⟩) ?_ ?_
           rotate_left
           ·exact q10x66_
           rotate_left
           ·exact q10x67_
           refine done_ (done_of HT_.out (by kernel_rfl)) ?_
           try go_wp2
           go_ret
           exact ⟨by first | rfl | (simp [errW_none, errW_some] <;> rfl) | (simp only [← hji59]; first | rfl | (simp [errW_none, errW_some] <;> rfl)) | (simp [*, errW_none, errW_some] <;> rfl), by repeat (first | (with_reducible first | exact HB.out | apply bA10_ | apply bN10_ | apply bD10_ | refine bS10_ ?_ GE346.out | refine bS10_ ?_ GE347.out | refine bS10_ ?_ GE351.out | refine bS10_ ?_ GE352.out | refine bS10_ ?_ GE355.out | refine bS10_ ?_ GE358.out | refine bS10_ ?_ GE362.out | refine bS10_ ?_ GE365.out) | exact HB.out)⟩
/-! ### the law's arguments -/
/-- THE ONE PURE STATEMENT of laws_FnRoots. -/
def laws_FnRoots.Pure : Prop := ∀ (x0 : List Int), (x0.length * 1 ≤ 140737488351232 ∧ ∀ z_ ∈ x0, 0 ≤ z_ ∧ z_ ≤ 255) → ∃ k, laws_FnRoots.f k x0 = some true
theorem laws_FnRoots.walk (P_ : laws_FnRoots.Pure) (w : World) (A0 : Option Addr) (c0 : Nat) (x0 : List Int) (hr0 : Kd.C (Kd.int .u8) w A0 x0.length x0) (hc0 : x0.length ≤ c0) (hw0 : x0.length * 1 ≤ 140737488351232 ∧ ∀ z_ ∈ x0, 0 ≤ z_ ∧ z_ ≤ 255) :
  Calls Try.prog 10 #[.slice A0 x0.length c0] w fun e w' => e = .returned (.bool true) ∧ Below w.heap.size w w' := by
 obtain ⟨k, h⟩ := P_ x0 hw0
 refine (laws_FnRoots.calls k _ _ x0 true w hr0 hc0 rfl h).mono ?_
 rintro e w' ⟨rfl, hd⟩
 exact ⟨rfl, hd⟩

end Go.Proofs.Ytbomadebdekjjaa.MFnRoots
