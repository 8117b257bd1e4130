/- Functions of the program as Lean functions, and the proof that the code comes to what they say. Written by a program of this session (myprint.py). -/
import Derived.Test.YtbomadebdekjjaaMFnExactValueAtx0
import Derived.Test.YtbomadebdekjjaaMFnExactValueAtx2
import Derived.Test.YtbomadebdekjjaaMFnExactValueAtx4
namespace Go.Proofs.Ytbomadebdekjjaa.MFnExactValueAt
open Go.RowKit Go.Proofs.Ytbomadebdekjjaa.MOpen Go.Proofs.YtbomadebdekjjaaW.PrintWords Go.Proofs.YtbomadebdekjjaaW.PrintLast Go.Proofs.YtbomadebdekjjaaW.PrintMore
attribute [local go_sem] max2_int min2_int max_two min_two max_three min_three max_four min_four   -- for this text's walks alone
set_option linter.unusedVariables false
set_option linter.unusedSimpArgs false

attribute [local go_sem high] eqA111
set_option linter.defProp false

theorem q116x1_ {P : Prop} (h : P := by repeat (first | (with_reducible first | exact HB.out | apply below_alloc | apply pw_below_drewN | apply below_drew1 | refine below_set ?_ GE229.out) | exact HB.out)) : P := h
theorem q116x2_ {P : Prop} (h : P := by repeat (first | (with_reducible first | exact HB.out | apply below_alloc | apply pw_below_drewN | apply below_drew1) | exact HB.out)) : P := h
theorem q116x3_ {P : Prop} (h : P := by (with_reducible repeat (first | refine blk_drewN ?_ _ | refine blk_drew ?_ | refine blk_alloc ?_ _)); exact BK229.out) : P := h
theorem q116x4_ {P : Prop} (h : P := by (with_reducible repeat (first | refine blk_drewN ?_ _ | refine blk_drew ?_ | refine blk_alloc ?_ _)); refine puts7_ (.bool false) (.int .u32 0) (.int .u32 0) (.int .u32 0) (.int .u32 0) (.int .u32 0) (.int .u32 0) ?_; (with_reducible repeat (first | refine blk_drewN ?_ _ | refine blk_drew ?_ | refine blk_alloc ?_ _)); exact BK230.out) : P := h
theorem q116x5_ {P : Prop} (h : P := by rw [hg]; exact Nat.ne_of_lt (blk_lt (g := gb229) (o := .cells #[.int .u32 a1.f0, .int .u32 a1.f1, .int .u32 a1.f2, .int .u32 a1.f3, .int .u32 a1.f4, .int .u32 a1.f5] 111 (0, 0)) q116x3_)) : P := h
theorem q116x6_ {P : Prop} (h : P := by rw [hg]; exact Nat.ne_of_gt (blk_lt (g := gb229) (o := .cells #[.int .u32 a1.f0, .int .u32 a1.f1, .int .u32 a1.f2, .int .u32 a1.f3, .int .u32 a1.f4, .int .u32 a1.f5] 111 (0, 0)) q116x3_)) : P := h
theorem q116x7_ {P : Prop} (h : P := by intro w'; go_simp; with_reducible rfl) : P := h
theorem q116x8_ {P : Prop} (h : P := by simp only [Act.put, List.setIfInBounds_toArray, List.set_cons_zero, List.set_cons_succ, i64_w, i32_w]; rfl) : P := h
/-! ### impl_wide: function 116 -/
def impl_wide.f (a0 : Bool) (a1 : S23) : Option (S24) := (mun a1).bind fun m => some ⟨a0 && !(Wide.zN m), wlm m⟩
theorem impl_wide.calls (a0 : Bool) (a1 : S23) (r : S24) (w : World) (h : impl_wide.f a0 a1 = some r) :
  Calls Try.prog 116 #[.bool a0, .agg #[.int .u32 a1.f0, .int .u32 a1.f1, .int .u32 a1.f2, .int .u32 a1.f3, .int .u32 a1.f4, .int .u32 a1.f5]] w fun e w' => e = .returned (.agg #[.bool r.f0, .int .u32 r.f1.f0, .int .u32 r.f1.f1, .int .u32 r.f1.f2, .int .u32 r.f1.f3, .int .u32 r.f1.f4, .int .u32 r.f1.f5]) ∧ Below w.heap.size w w' := by
 obtain ⟨m, hm, e⟩ := Option.bind_eq_some_iff.mp h
 obtain ⟨rfl, hx⟩ := mun_some hm
 obtain rfl := Option.some.inj e
 exact Wide.iWide w a0 m hx





set_option linter.defProp false
def kA89_ := @blk_alloc
def kN89_ := @blk_drewN
def kD89_ := @blk_drew
def bS89_ := @below_set
def aM89_ := @Aside0.mk
def kB89_ := @blk_below
def kC89_ := @blk_cell
theorem q89x1_ {P : Prop} (h : P := by (with_reducible repeat (first | refine kN89_ ?_ _ | refine kD89_ ?_ | refine kA89_ ?_ _)); exact BK249.out) : P := h
theorem q89x2_ {P : Prop} (h : P := by repeat (first | (with_reducible first | exact HK.out | apply KeepBut.set_ | apply keep_drewN | apply keep_drew | apply keep_alloc | refine keep_far ?_ GW249.out _ | refine keep_far ?_ GW250.out _ | refine keep_far ?_ GW251.out _) | exact HK.out)) : P := h
theorem q89x3_ {P : Prop} (h : P := by repeat (first | (with_reducible first | exact HB.out | apply below_alloc | apply pw_below_drewN | apply below_drew1 | refine bS89_ ?_ (IsS79.ge HI0.out) | refine bS89_ ?_ GE249.out | refine bS89_ ?_ GE250.out | refine bS89_ ?_ GE251.out) | exact HB.out)) : P := h
theorem q89x4_ {P : Prop} (h : P := by (with_reducible repeat (first | refine kN89_ ?_ _ | refine kD89_ ?_ | refine kA89_ ?_ _)); exact BK250.out) : P := h
theorem q89x5_ {P : Prop} (h : P := by repeat (first | (with_reducible first | exact HI0.out | apply IsS79.alloc | apply IsS79.drewN | apply IsS79.drew | apply IsS79.set_0 | refine IsS79.far ?_ NB0_249.out _ | refine IsS79.far ?_ NB0_250.out _ | refine IsS79.far ?_ NB0_251.out _) | exact HI0.out)) : P := h
theorem q89x6_ {P : Prop} (h : P := by repeat (first | (with_reducible first | exact HK.out | apply KeepBut.set_ | apply keep_drewN | apply keep_drew | apply keep_alloc | refine keep_far ?_ GW249.out _ | refine keep_far ?_ GW250.out _) | exact HK.out)) : P := h
theorem q89x7_ {P : Prop} (h : P := by (with_reducible repeat (first | refine kN89_ ?_ _ | refine kD89_ ?_ | refine kA89_ ?_ _)); exact BK251.out) : P := h
theorem q89x8_ {P : Prop} (h : P := by repeat (first | (with_reducible first | exact HK.out | apply KeepBut.set_ | apply keep_drewN | apply keep_drew | apply keep_alloc | refine keep_far ?_ GW249.out _) | exact HK.out)) : P := h
theorem q89x9_ {P : Prop} (h : P := by rw [hg]; exact Nat.ne_of_lt (blk_lt (g := gb249) (o := .cells #[.bool a1.f0, .int .u32 a1.f1.f0, .int .u32 a1.f1.f1, .int .u32 a1.f1.f2, .int .u32 a1.f1.f3, .int .u32 a1.f1.f4, .int .u32 a1.f1.f5] 25 (0, 0)) q89x1_)) : P := h
theorem q89x10_ {P : Prop} (h : P := by rw [hg]; exact Nat.ne_of_gt (blk_lt (g := gb249) (o := .cells #[.bool a1.f0, .int .u32 a1.f1.f0, .int .u32 a1.f1.f1, .int .u32 a1.f1.f2, .int .u32 a1.f1.f3, .int .u32 a1.f1.f4, .int .u32 a1.f1.f5] 25 (0, 0)) q89x1_)) : P := h
theorem q89x11_ {P : Prop} (h : P := by (try simp only [List.map_toArray, List.map_cons, List.map_nil]); first | done | rfl | (simp only [List.length_drop, List.length_take]; rfl) | (simp only [List.drop_one]; done) | (simp only [List.drop_one]; rfl)) : P := h
theorem q89x12_ {P : Prop} (h : P := by repeat (first | (with_reducible first | exact HK.out | apply KeepBut.set_ | apply keep_drewN | apply keep_drew | apply keep_alloc) | exact HK.out)) : P := h
theorem q89x13_ {P : Prop} (h : P := by repeat (first | (with_reducible first | exact HB.out | apply below_alloc | apply pw_below_drewN | apply below_drew1 | refine bS89_ ?_ (IsS79.ge HI0.out) | refine bS89_ ?_ GE249.out | refine bS89_ ?_ GE250.out | refine bS89_ ?_ GE251.out | refine bS89_ ?_ GE254.out) | exact HB.out)) : P := h
theorem q89x14_ {P : Prop} (h : P := by repeat (first | (with_reducible first | exact HK.out | apply KeepBut.set_ | apply keep_drewN | apply keep_drew | apply keep_alloc | refine keep_far ?_ GW249.out _ | refine keep_far ?_ GW250.out _ | refine keep_far ?_ GW251.out _ | refine keep_far ?_ GW254.out _) | exact HK.out)) : P := h
theorem q89x15_ {P : Prop} (h : P := by rw [hg]; exact Nat.ne_of_lt (blk_lt (g := gb250) (o := .cells #[.bool a2.f0, .int .u32 a2.f1.f0, .int .u32 a2.f1.f1, .int .u32 a2.f1.f2, .int .u32 a2.f1.f3, .int .u32 a2.f1.f4, .int .u32 a2.f1.f5] 25 (0, 0)) q89x4_)) : P := h
theorem q89x16_ {P : Prop} (h : P := by rw [hg]; exact Nat.ne_of_gt (blk_lt (g := gb250) (o := .cells #[.bool a2.f0, .int .u32 a2.f1.f0, .int .u32 a2.f1.f1, .int .u32 a2.f1.f2, .int .u32 a2.f1.f3, .int .u32 a2.f1.f4, .int .u32 a2.f1.f5] 25 (0, 0)) q89x4_)) : P := h
theorem q89x17_ {P : Prop} (h : P := by (with_reducible repeat (first | refine kN89_ ?_ _ | refine kD89_ ?_ | refine kA89_ ?_ _)); refine puts7_ (.bool false) (.int .u32 0) (.int .u32 0) (.int .u32 0) (.int .u32 0) (.int .u32 0) (.int .u32 0) ?_; (with_reducible repeat (first | refine kN89_ ?_ _ | refine kD89_ ?_ | refine kA89_ ?_ _)); exact BK251.out) : P := h
theorem q89x18_ {P : Prop} (h : P := by rw [hw]; exact (by repeat (first | (with_reducible first | exact HI0.out | apply IsS79.alloc | apply IsS79.drewN | apply IsS79.drew | apply IsS79.set_0 | refine IsS79.far ?_ NB0_249.out _ | refine IsS79.far ?_ NB0_250.out _ | refine IsS79.far ?_ NB0_251.out _ | refine IsS79.far ?_ NB0_254.out _) | exact HI0.out))) : P := h
theorem q89x19_ {P : Prop} (h : P := by repeat (first | (with_reducible first | exact HB.out | apply below_alloc | apply pw_below_drewN | apply below_drew1 | refine bS89_ ?_ (IsS79.ge HI0.out) | refine bS89_ ?_ GE249.out | refine bS89_ ?_ GE250.out) | exact HB.out)) : P := h
theorem q89x20_ {P : Prop} (h : P := by repeat (first | (with_reducible first | exact HI0.out | apply IsS79.alloc | apply IsS79.drewN | apply IsS79.drew | apply IsS79.set_0 | refine IsS79.far ?_ NB0_249.out _ | refine IsS79.far ?_ NB0_250.out _) | exact HI0.out)) : P := h
theorem q89x21_ {P : Prop} (h : P := by repeat (first | (with_reducible first | exact HB.out | apply below_alloc | apply pw_below_drewN | apply below_drew1 | refine bS89_ ?_ (IsS79.ge HI0.out) | refine bS89_ ?_ GE249.out) | exact HB.out)) : P := h
theorem q89x22_ {P : Prop} (h : P := by repeat (first | (with_reducible first | exact HI0.out | apply IsS79.alloc | apply IsS79.drewN | apply IsS79.drew | apply IsS79.set_0 | refine IsS79.far ?_ NB0_249.out _) | exact HI0.out)) : P := h
theorem q89x23_ {P : Prop} (h : P := by repeat (first | (with_reducible first | exact HB.out | apply below_alloc | apply pw_below_drewN | apply below_drew1 | refine bS89_ ?_ (IsS79.ge HI0.out)) | exact HB.out)) : P := h
theorem q89x24_ {P : Prop} (h : P := by rw [hg]; exact (keep_size (w := w) (g := g) (row := none) q89x12_)) : P := h
theorem q89x25_ {P : Prop} (h : P := by rw [hg]; exact (keep_size (w := w) (g := g) (row := none) q89x8_)) : P := h
theorem q89x26_ {P : Prop} (h : P := by rw [hg]; exact (keep_size (w := w) (g := g) (row := none) q89x6_)) : P := h
theorem q89x27_ {P : Prop} (h : P := by repeat (first | (with_reducible first | exact HI0.out | apply IsS79.alloc | apply IsS79.drewN | apply IsS79.drew | apply IsS79.set_0) | exact HI0.out)) : P := h
theorem q89x28_ {P : Prop} (h : P := by rw [hw]; exact (by (with_reducible repeat (first | refine kN89_ ?_ _ | refine kD89_ ?_ | refine kA89_ ?_ _)); refine puts6_ (.int .u32 0) (.int .u32 0) (.int .u32 0) (.int .u32 0) (.int .u32 0) (.int .u32 0) ?_; (with_reducible repeat (first | refine kN89_ ?_ _ | refine kD89_ ?_ | refine kA89_ ?_ _)); exact BK254.out)) : P := h
theorem q89x29_ {P : Prop} (h : P := by rw [hg]; exact Nat.ne_of_lt (IsS79.lt (show IsS79 w0 _ g s0_0 from by repeat (first | (with_reducible first | exact HI0.out | apply IsS79.alloc | apply IsS79.drewN | apply IsS79.drew | apply IsS79.set_0 | refine IsS79.far ?_ NB0_249.out _ | refine IsS79.far ?_ NB0_250.out _) | exact HI0.out)))) : P := h
theorem q89x30_ {P : Prop} (h : P := by rw [hg]; exact Nat.ne_of_gt (IsS79.lt (show IsS79 w0 _ g s0_0 from by repeat (first | (with_reducible first | exact HI0.out | apply IsS79.alloc | apply IsS79.drewN | apply IsS79.drew | apply IsS79.set_0 | refine IsS79.far ?_ NB0_249.out _ | refine IsS79.far ?_ NB0_250.out _) | exact HI0.out)))) : P := h
theorem q89x31_ {P : Prop} (h : P := by rw [hw]; exact (by (with_reducible repeat (first | refine kN89_ ?_ _ | refine kD89_ ?_ | refine kA89_ ?_ _ | refine blk_far ?_ NB249_254.out _)); (with_reducible repeat (first | refine kN89_ ?_ _ | refine kD89_ ?_ | refine kA89_ ?_ _)); exact BK249.out)) : P := h
theorem q89x32_ {P : Prop} (h : P := by rw [hw]; exact (by (with_reducible repeat (first | refine kN89_ ?_ _ | refine kD89_ ?_ | refine kA89_ ?_ _ | refine blk_far ?_ NB250_254.out _)); (with_reducible repeat (first | refine kN89_ ?_ _ | refine kD89_ ?_ | refine kA89_ ?_ _)); exact BK250.out)) : P := h
theorem q89x33_ {P : Prop} (h : P := by rw [hw]; exact (by (with_reducible repeat (first | refine kN89_ ?_ _ | refine kD89_ ?_ | refine kA89_ ?_ _ | refine blk_far ?_ NB251_254.out _)); (with_reducible repeat (first | refine kN89_ ?_ _ | refine kD89_ ?_ | refine kA89_ ?_ _)); exact BK251.out)) : P := h
theorem q89x34_ {P : Prop} (h : P := by rw [hw]; exact (by (with_reducible repeat (first | refine kN89_ ?_ _ | refine kD89_ ?_ | refine kA89_ ?_ _ | refine blk_far ?_ NB249_251.out _)); (with_reducible repeat (first | refine kN89_ ?_ _ | refine kD89_ ?_ | refine kA89_ ?_ _)); exact BK249.out)) : P := h
theorem q89x35_ {P : Prop} (h : P := by rw [hw]; exact (by (with_reducible repeat (first | refine kN89_ ?_ _ | refine kD89_ ?_ | refine kA89_ ?_ _ | refine blk_far ?_ NB250_251.out _)); (with_reducible repeat (first | refine kN89_ ?_ _ | refine kD89_ ?_ | refine kA89_ ?_ _)); exact BK250.out)) : P := h
theorem q89x36_ {P : Prop} (h : P := by rw [hw]; exact (by (with_reducible repeat (first | refine kN89_ ?_ _ | refine kD89_ ?_ | refine kA89_ ?_ _ | refine blk_far ?_ NB254_251.out _)); (with_reducible repeat (first | refine kN89_ ?_ _ | refine kD89_ ?_ | refine kA89_ ?_ _)); exact BK254.out)) : P := h
theorem q89x37_ {P : Prop} (h : P := by rw [hg]; exact Nat.ne_of_lt (IsS79.lt (show IsS79 w0 _ g s0_0 from by repeat (first | (with_reducible first | exact HI0.out | apply IsS79.alloc | apply IsS79.drewN | apply IsS79.drew | apply IsS79.set_0 | refine IsS79.far ?_ NB0_249.out _) | exact HI0.out)))) : P := h
theorem q89x38_ {P : Prop} (h : P := by rw [hg]; exact Nat.ne_of_gt (IsS79.lt (show IsS79 w0 _ g s0_0 from by repeat (first | (with_reducible first | exact HI0.out | apply IsS79.alloc | apply IsS79.drewN | apply IsS79.drew | apply IsS79.set_0 | refine IsS79.far ?_ NB0_249.out _) | exact HI0.out)))) : P := h
theorem q89x39_ {P : Prop} (h : P := by (with_reducible repeat (first | refine kN89_ ?_ _ | refine kD89_ ?_ | refine kA89_ ?_ _ | refine blk_far ?_ NB249_0.out _)); (with_reducible repeat (first | refine kN89_ ?_ _ | refine kD89_ ?_ | refine kA89_ ?_ _)); exact BK249.out) : P := h
theorem q89x40_ {P : Prop} (h : P := by (with_reducible repeat (first | refine kN89_ ?_ _ | refine kD89_ ?_ | refine kA89_ ?_ _ | refine blk_far ?_ NB250_0.out _)); (with_reducible repeat (first | refine kN89_ ?_ _ | refine kD89_ ?_ | refine kA89_ ?_ _)); exact BK250.out) : P := h
theorem q89x41_ {P : Prop} (h : P := by (with_reducible repeat (first | refine kN89_ ?_ _ | refine kD89_ ?_ | refine kA89_ ?_ _ | refine blk_far ?_ NB251_0.out _)); (with_reducible repeat (first | refine kN89_ ?_ _ | refine kD89_ ?_ | refine kA89_ ?_ _)); exact BK251.out) : P := h
theorem q89x42_ {P : Prop} (h : P := by (with_reducible repeat (first | refine kN89_ ?_ _ | refine kD89_ ?_ | refine kA89_ ?_ _ | refine blk_far ?_ NB254_0.out _)); (with_reducible repeat (first | refine kN89_ ?_ _ | refine kD89_ ?_ | refine kA89_ ?_ _)); exact BK254.out) : P := h
theorem q89x43_ {P : Prop} (h : P := by rw [hg]; exact Nat.ne_of_lt (IsS79.lt (show IsS79 w0 _ g s0_0 from by repeat (first | (with_reducible first | exact HI0.out | apply IsS79.alloc | apply IsS79.drewN | apply IsS79.drew | apply IsS79.set_0) | exact HI0.out)))) : P := h
theorem q89x44_ {P : Prop} (h : P := by rw [hg]; exact Nat.ne_of_gt (IsS79.lt (show IsS79 w0 _ g s0_0 from by repeat (first | (with_reducible first | exact HI0.out | apply IsS79.alloc | apply IsS79.drewN | apply IsS79.drew | apply IsS79.set_0) | exact HI0.out)))) : P := h
theorem q89x45_ {P : Prop} (h : P := by rw [hg]; exact (keep_size (w := w) (g := g) (row := none) q89x2_)) : P := h
theorem q89x46_ {P : Prop} (h : P := by rw [hg]; exact Nat.ne_of_lt (blk_lt (g := gb251) (o := .cells #[.bool false, .int .u32 0, .int .u32 0, .int .u32 0, .int .u32 0, .int .u32 0, .int .u32 0] 25 (0, 0)) q89x7_)) : P := h
theorem q89x47_ {P : Prop} (h : P := by rw [hg]; exact Nat.ne_of_gt (blk_lt (g := gb251) (o := .cells #[.bool false, .int .u32 0, .int .u32 0, .int .u32 0, .int .u32 0, .int .u32 0, .int .u32 0] 25 (0, 0)) q89x7_)) : P := h
theorem q89x48_ {P : Prop} (h : P := by simp only [Act.put, List.setIfInBounds_toArray, List.set_cons_zero, List.set_cons_succ, i64_w, i32_w]; rfl) : P := h
theorem q89x49_ {P : Prop} (h : P := by rintro w' ⟨s0, s1, s2, s3, s4, s5, s6, s7, s8, s9, s10, s11, s12, s13⟩; go_simp; with_reducible rfl) : P := h
/-- A state of type 79 at block g of W; what its slices lead to came in by w0. -/
def IsS79 (w0 W : World) (g : Nat) (f0 : Bool) : Prop := W.heap[g]? = some (.cells #[.bool f0] 79 (0, 0)) ∧ w0.heap.size ≤ g
theorem IsS79.grown {w0 W : World} {g : Nat} {f0 : Bool} {W1 : World} {row : Option Nat} (h : IsS79 w0 W g f0) (hw : W.grownBy W1 row) (hne : some g ≠ row) : IsS79 w0 W1 g f0 := by
 obtain ⟨hb, hg⟩ := h
 exact ⟨blk_grown hb hw hne, hg⟩
theorem IsS79.own_neN {w0 W : World} {g : Nat} {f0 : Bool} {α : Type} {d : Kd α} {e : Nat} {base : Nat} {ok : Nat → Prop} {v : Value} {xs : List α} (h : IsS79 w0 W g f0) (ho : Kd.N d e W base ok v xs) (ht : e ≠ 79) : some g ≠ v.ownBlock := by
 obtain ⟨hb, hg⟩ := h
 exact Kd.N_ne ho hb ht
theorem IsS79.fresh {w0 W : World} {g : Nat} {f0 : Bool} (h : IsS79 w0 W g f0) : ∀ k, W.heap.size ≤ k → k ≠ g := by
 obtain ⟨hb, hg⟩ := h
 exact Kd.freshB hb
theorem IsS79.kept {w0 W : World} {g : Nat} {f0 : Bool} {W1 : World} {S : Nat → Prop} (h : IsS79 w0 W g f0) (hk : Kept W W1 S) (hne : ¬ S g) : IsS79 w0 W1 g f0 := by
 obtain ⟨hb, hg⟩ := h
 exact ⟨blk_kept hb hk hne, hg⟩
theorem IsS79.below {w0 W : World} {g : Nat} {f0 : Bool} {W1 : World} (h : IsS79 w0 W g f0) (hw : Below W.heap.size W W1) : IsS79 w0 W1 g f0 := h.grown (grown_of_below hw none) (by simp)
theorem IsS79.alloc {w0 W : World} {g : Nat} {f0 : Bool} (h : IsS79 w0 W g f0) (o : Obj) : IsS79 w0 (W.alloc o) g f0 := h.below (below_alloc (Below.refl _ _) o)
theorem IsS79.drewN {w0 W : World} {g : Nat} {f0 : Bool} (h : IsS79 w0 W g f0) (m : Nat) : IsS79 w0 (W.drewN m) g f0 := h
theorem IsS79.drew {w0 W : World} {g : Nat} {f0 : Bool} (h : IsS79 w0 W g f0) : IsS79 w0 W.drew g f0 := h
theorem IsS79.at_ {w0 W : World} {g : Nat} {f0 : Bool} {w' : World} {m : Nat} (hq : W.drewN m = w') (h : IsS79 w0 W g f0) : IsS79 w0 w' g f0 := by subst hq; exact IsS79.drewN h m
theorem IsS79.apart {w0 W : World} {g : Nat} {f0 : Bool} {α : Type} {d : Kd α} {e : Nat} {base : Nat} {ok : Nat → Prop} {v : Value} {xs : List α} (h : IsS79 w0 W g f0) (ho : d.R e W base ok v xs) (ht : ∀ q, q ∈ e :: d.E → q ≠ 79) : d.R e W base (fun k => ok k ∧ k ≠ g) v xs := by
 obtain ⟨hb, hg⟩ := h
 exact Kd.R_types ho hb ht
theorem IsS79.own_ne {w0 W : World} {g : Nat} {f0 : Bool} {α : Type} {d : Kd α} {e : Nat} {base : Nat} {ok : Nat → Prop} {v : Value} {xs : List α} (h : IsS79 w0 W g f0) (ho : d.R e W base ok v xs) (ht : e ≠ 79) : some g ≠ v.ownBlock := by
 obtain ⟨hb, hg⟩ := h
 exact Kd.R_ne ho hb ht
theorem IsS79.apartQ {w0 W : World} {g : Nat} {f0 : Bool} {α : Type} {d : Kd α} {e : Nat} {base : Nat} {ok : Nat → Prop} {v : Value} {xs : List α} (h : IsS79 w0 W g f0) (ho : d.Q e W base ok v xs) (ht : ∀ q, q ∈ e :: d.E → q ≠ 79) : d.Q e W base (fun k => ok k ∧ k ≠ g) v xs := by
 obtain ⟨hb, hg⟩ := h
 exact Kd.Q_types ho hb ht
theorem IsS79.own_neQ {w0 W : World} {g : Nat} {f0 : Bool} {α : Type} {d : Kd α} {e : Nat} {base : Nat} {ok : Nat → Prop} {v : Value} {xs : List α} (h : IsS79 w0 W g f0) (ho : d.Q e W base ok v xs) (ht : e ≠ 79) : some g ≠ v.ownBlock := by
 obtain ⟨hb, hg⟩ := h
 exact Kd.Q_ne ho hb ht
theorem IsS79.apartS {w0 W : World} {g : Nat} {f0 : Bool} {α : Type} {d : Kd α} {e : Nat} {base : Nat} {ok : Nat → Prop} {v : Value} {xs : List α} (h : IsS79 w0 W g f0) (ho : d.S e W base ok v xs) (ht : ∀ q, q ∈ e :: d.E → q ≠ 79) : d.S e W base (fun k => ok k ∧ k ≠ g) v xs := by
 obtain ⟨hb, hg⟩ := h
 exact Kd.S_types ho hb ht
theorem IsS79.own_neS {w0 W : World} {g : Nat} {f0 : Bool} {α : Type} {d : Kd α} {e : Nat} {base : Nat} {ok : Nat → Prop} {v : Value} {xs : List α} (h : IsS79 w0 W g f0) (ho : d.S e W base ok v xs) (ht : e ≠ 79) : some g ≠ v.ownBlock := by
 obtain ⟨hb, hg⟩ := h
 exact Kd.S_ne ho hb ht
theorem IsS79.lt {w0 W : World} {g : Nat} {f0 : Bool} (h : IsS79 w0 W g f0) : g < W.heap.size := by
 obtain ⟨hb, hg⟩ := h
 exact blk_lt hb
theorem IsS79.ge {w0 W : World} {g : Nat} {f0 : Bool} (h : IsS79 w0 W g f0) : w0.heap.size ≤ g := by
 obtain ⟨hb, hg⟩ := h
 exact hg
theorem IsS79.ne_blk {w0 W : World} {g : Nat} {f0 : Bool} {a : Nat} {cs : Array Value} {t : TypeId} {fr : Nat × Nat} (h : IsS79 w0 W g f0) (hb2 : W.heap[a]? = some (.cells cs t fr)) (ht : t ≠ 79) : g ≠ a := by
 obtain ⟨hb, hg⟩ := h
 rintro rfl
 rw [hb] at hb2
 injection hb2 with hb2
 injection hb2 with _ ht2
 exact ht ht2.symm
theorem IsS79.far {w0 W : World} {g : Nat} {f0 : Bool} {p : Addr} (h : IsS79 w0 W g f0) (hne : g ≠ p.block) (u : Value) : IsS79 w0 (W.setCell p u) g f0 := by
 obtain ⟨hb, hg⟩ := h
 exact ⟨blk_far hb hne u, hg⟩
theorem cellS79_0 {W : World} {g : Nat} {f0 : Bool} (h : W.heap[g]? = some (.cells #[.bool f0] 79 (0, 0))) : W.cell? ⟨g, 0, none⟩ = some (.bool f0) := (kC89_ h 0).trans rfl
theorem IsS79.set_0 {w0 W : World} {g : Nat} {f0 : Bool} (h : IsS79 w0 W g f0) (x : Bool) : IsS79 w0 (W.setCell ⟨g, 0, none⟩ (.bool x)) g x := by
 obtain ⟨hb, hg⟩ := h
 exact ⟨by simpa using blk_set hb 0 (.bool x), hg⟩
theorem IsS79.new (w0 W : World) (f0 : Bool) (hB : Below w0.heap.size w0 W) : IsS79 w0 (W.alloc (.cells #[.bool f0] 79)) W.heap.size f0 := ⟨by simpa using heap_alloc_new W _, hB.size⟩

/-! ### impl_calc_add: function 89 -/
def impl_calc_add.f (k : Nat) (s0_0 : Bool) (a1 : S24) (a2 : S24) : Option (S24 × Bool) := (wun a1).bind fun x => (wun a2).bind fun y => some (wenc (Wide.addZ x y), s0_0 || Wide.ovM (x + y).natAbs)
theorem impl_calc_add.mono : ∀ a0 a1 a2 k, LeO (impl_calc_add.f k a0 a1 a2) (impl_calc_add.f (k + 1) a0 a1 a2) := by
 intros
 exact LeO.refl _
theorem impl_calc_add.calls (k : Nat) (g : Nat) (s0_0 : Bool) (a1 : S24) (a2 : S24) (r1 : S24) (r2 : Bool) (w0 w : World) (hI : IsS79 w0 w g s0_0) (hB : Below w0.heap.size w0 w) (h : impl_calc_add.f k s0_0 a1 a2 = some (r1, r2)) :
  Calls Try.prog 89 #[.pointer (some ⟨g, 0, none⟩), .agg #[.bool a1.f0, .int .u32 a1.f1.f0, .int .u32 a1.f1.f1, .int .u32 a1.f1.f2, .int .u32 a1.f1.f3, .int .u32 a1.f1.f4, .int .u32 a1.f1.f5], .agg #[.bool a2.f0, .int .u32 a2.f1.f0, .int .u32 a2.f1.f1, .int .u32 a2.f1.f2, .int .u32 a2.f1.f3, .int .u32 a2.f1.f4, .int .u32 a2.f1.f5]] w fun e w' => e = .returned (.agg #[.bool r1.f0, .int .u32 r1.f1.f0, .int .u32 r1.f1.f1, .int .u32 r1.f1.f2, .int .u32 r1.f1.f3, .int .u32 r1.f1.f4, .int .u32 r1.f1.f5]) ∧ IsS79 w0 w' g r2 ∧ Below w0.heap.size w0 w' ∧ KeepBut w w' g none := by
 obtain ⟨x, y, rfl, rfl, hx, hy, e⟩ := wun2 h
 obtain ⟨rfl, rfl⟩ := Prod.mk.inj (Option.some.inj e)
 refine (Wide.iAddV w g s0_0 x y hx hy hI.1).mono ?_
 rintro e w' ⟨rfl, hb⟩
 have hi := IsS79.set_0 hI (s0_0 || Wide.ovM (x + y).natAbs)
 have hs : (w.setCell ⟨g, 0, none⟩ (.bool (s0_0 || Wide.ovM (x + y).natAbs))).heap.size = w.heap.size := Wide.setCell_size _ _ _
 have hb' : Below (w.setCell ⟨g, 0, none⟩ (.bool (s0_0 || Wide.ovM (x + y).natAbs))).heap.size (w.setCell ⟨g, 0, none⟩ (.bool (s0_0 || Wide.ovM (x + y).natAbs))) w' := by rw [hs]; exact hb
 exact ⟨rfl, IsS79.below hi hb', below_then (hB.setCell (IsS79.ge hI) _) (by rw [hs]; exact hB.size) hb', ((KeepBut.refl w g none).set_ 0 _).trans (KeepBut.of_below hb' g none) (.inl rfl)⟩



set_option linter.defProp false
def aM90_ := @Aside0.mk
theorem q90x1_ {P : Prop} (h : P := by (with_reducible repeat (first | refine blk_drewN ?_ _ | refine blk_drew ?_ | refine blk_alloc ?_ _)); exact BK272.out) : P := h
theorem q90x2_ {P : Prop} (h : P := by repeat (first | (with_reducible first | exact HK.out | apply KeepBut.set_ | apply keep_drewN | apply keep_drew | apply keep_alloc | refine keep_far ?_ GW272.out _ | refine keep_far ?_ GW273.out _ | refine keep_far ?_ GW274.out _) | exact HK.out)) : P := h
theorem q90x3_ {P : Prop} (h : P := by (with_reducible repeat (first | refine blk_drewN ?_ _ | refine blk_drew ?_ | refine blk_alloc ?_ _)); exact BK273.out) : P := h
theorem q90x4_ {P : Prop} (h : P := by repeat (first | (with_reducible first | exact HB.out | apply below_alloc | apply pw_below_drewN | apply below_drew1 | refine below_set ?_ (IsS79.ge HI0.out) | refine below_set ?_ GE272.out | refine below_set ?_ GE273.out | refine below_set ?_ GE274.out | refine below_set ?_ GE277.out) | exact HB.out)) : P := h
theorem q90x5_ {P : Prop} (h : P := by repeat (first | (with_reducible first | exact HK.out | apply KeepBut.set_ | apply keep_drewN | apply keep_drew | apply keep_alloc | refine keep_far ?_ GW272.out _ | refine keep_far ?_ GW273.out _ | refine keep_far ?_ GW274.out _ | refine keep_far ?_ GW277.out _) | exact HK.out)) : P := h
theorem q90x6_ {P : Prop} (h : P := by rw [hg]; exact Nat.ne_of_lt (blk_lt (g := gb272) (o := .cells #[.bool a1.f0, .int .u32 a1.f1.f0, .int .u32 a1.f1.f1, .int .u32 a1.f1.f2, .int .u32 a1.f1.f3, .int .u32 a1.f1.f4, .int .u32 a1.f1.f5] 25 (0, 0)) q90x1_)) : P := h
theorem q90x7_ {P : Prop} (h : P := by rw [hg]; exact Nat.ne_of_gt (blk_lt (g := gb272) (o := .cells #[.bool a1.f0, .int .u32 a1.f1.f0, .int .u32 a1.f1.f1, .int .u32 a1.f1.f2, .int .u32 a1.f1.f3, .int .u32 a1.f1.f4, .int .u32 a1.f1.f5] 25 (0, 0)) q90x1_)) : P := h
theorem q90x8_ {P : Prop} (h : P := by repeat (first | (with_reducible first | exact HK.out | apply KeepBut.set_ | apply keep_drewN | apply keep_drew | apply keep_alloc | refine keep_far ?_ GW272.out _ | refine keep_far ?_ GW273.out _) | exact HK.out)) : P := h
theorem q90x9_ {P : Prop} (h : P := by (with_reducible repeat (first | refine blk_drewN ?_ _ | refine blk_drew ?_ | refine blk_alloc ?_ _)); exact BK274.out) : P := h
theorem q90x10_ {P : Prop} (h : P := by rw [hw]; exact (by repeat (first | (with_reducible first | exact HI0.out | apply IsS79.alloc | apply IsS79.drewN | apply IsS79.drew | apply IsS79.set_0 | refine IsS79.far ?_ NB0_272.out _ | refine IsS79.far ?_ NB0_273.out _ | refine IsS79.far ?_ NB0_274.out _ | refine IsS79.far ?_ NB0_277.out _) | exact HI0.out))) : P := h
theorem q90x11_ {P : Prop} (h : P := by repeat (first | (with_reducible first | exact HK.out | apply KeepBut.set_ | apply keep_drewN | apply keep_drew | apply keep_alloc | refine keep_far ?_ GW272.out _) | exact HK.out)) : P := h
theorem q90x12_ {P : Prop} (h : P := by repeat (first | (with_reducible first | exact HB.out | apply below_alloc | apply pw_below_drewN | apply below_drew1 | refine below_set ?_ (IsS79.ge HI0.out) | refine below_set ?_ GE272.out | refine below_set ?_ GE273.out | refine below_set ?_ GE274.out) | exact HB.out)) : P := h
theorem q90x13_ {P : Prop} (h : P := by repeat (first | (with_reducible first | exact HI0.out | apply IsS79.alloc | apply IsS79.drewN | apply IsS79.drew | apply IsS79.set_0 | refine IsS79.far ?_ NB0_272.out _ | refine IsS79.far ?_ NB0_273.out _ | refine IsS79.far ?_ NB0_274.out _) | exact HI0.out)) : P := h
theorem q90x14_ {P : Prop} (h : P := by repeat (first | (with_reducible first | exact HK.out | apply KeepBut.set_ | apply keep_drewN | apply keep_drew | apply keep_alloc) | exact HK.out)) : P := h
theorem q90x15_ {P : Prop} (h : P := by rw [hg]; exact Nat.ne_of_lt (blk_lt (g := gb273) (o := .cells #[.bool a2.f0, .int .u32 a2.f1.f0, .int .u32 a2.f1.f1, .int .u32 a2.f1.f2, .int .u32 a2.f1.f3, .int .u32 a2.f1.f4, .int .u32 a2.f1.f5] 25 (0, 0)) q90x3_)) : P := h
theorem q90x16_ {P : Prop} (h : P := by rw [hg]; exact Nat.ne_of_gt (blk_lt (g := gb273) (o := .cells #[.bool a2.f0, .int .u32 a2.f1.f0, .int .u32 a2.f1.f1, .int .u32 a2.f1.f2, .int .u32 a2.f1.f3, .int .u32 a2.f1.f4, .int .u32 a2.f1.f5] 25 (0, 0)) q90x3_)) : P := h
theorem q90x17_ {P : Prop} (h : P := by (try simp only [List.map_toArray, List.map_cons, List.map_nil]); first | done | rfl | (simp only [List.length_drop, List.length_take]; rfl) | (simp only [List.drop_one]; done) | (simp only [List.drop_one]; rfl)) : P := h
theorem q90x18_ {P : Prop} (h : P := by rw [hw]; exact (by (with_reducible repeat (first | refine blk_drewN ?_ _ | refine blk_drew ?_ | refine blk_alloc ?_ _)); refine puts7_ (.bool false) (.int .u32 0) (.int .u32 0) (.int .u32 0) (.int .u32 0) (.int .u32 0) (.int .u32 0) ?_; (with_reducible repeat (first | refine blk_drewN ?_ _ | refine blk_drew ?_ | refine blk_alloc ?_ _)); exact BK274.out)) : P := h
theorem q90x19_ {P : Prop} (h : P := by rw [hw]; exact (by (with_reducible repeat (first | refine blk_drewN ?_ _ | refine blk_drew ?_ | refine blk_alloc ?_ _)); refine puts6_ (.int .u32 0) (.int .u32 0) (.int .u32 0) (.int .u32 0) (.int .u32 0) (.int .u32 0) ?_; (with_reducible repeat (first | refine blk_drewN ?_ _ | refine blk_drew ?_ | refine blk_alloc ?_ _)); exact BK277.out)) : P := h
theorem q90x20_ {P : Prop} (h : P := by rw [hw]; exact (by (with_reducible repeat (first | refine blk_drewN ?_ _ | refine blk_drew ?_ | refine blk_alloc ?_ _ | refine blk_far ?_ NB272_277.out _)); (with_reducible repeat (first | refine blk_drewN ?_ _ | refine blk_drew ?_ | refine blk_alloc ?_ _)); exact BK272.out)) : P := h
theorem q90x21_ {P : Prop} (h : P := by rw [hw]; exact (by (with_reducible repeat (first | refine blk_drewN ?_ _ | refine blk_drew ?_ | refine blk_alloc ?_ _ | refine blk_far ?_ NB273_277.out _)); (with_reducible repeat (first | refine blk_drewN ?_ _ | refine blk_drew ?_ | refine blk_alloc ?_ _)); exact BK273.out)) : P := h
theorem q90x22_ {P : Prop} (h : P := by rw [hw]; exact (by (with_reducible repeat (first | refine blk_drewN ?_ _ | refine blk_drew ?_ | refine blk_alloc ?_ _ | refine blk_far ?_ NB274_277.out _)); (with_reducible repeat (first | refine blk_drewN ?_ _ | refine blk_drew ?_ | refine blk_alloc ?_ _)); exact BK274.out)) : P := h
theorem q90x23_ {P : Prop} (h : P := by rw [hw]; exact (by (with_reducible repeat (first | refine blk_drewN ?_ _ | refine blk_drew ?_ | refine blk_alloc ?_ _ | refine blk_far ?_ NB272_274.out _)); (with_reducible repeat (first | refine blk_drewN ?_ _ | refine blk_drew ?_ | refine blk_alloc ?_ _)); exact BK272.out)) : P := h
theorem q90x24_ {P : Prop} (h : P := by rw [hw]; exact (by (with_reducible repeat (first | refine blk_drewN ?_ _ | refine blk_drew ?_ | refine blk_alloc ?_ _ | refine blk_far ?_ NB273_274.out _)); (with_reducible repeat (first | refine blk_drewN ?_ _ | refine blk_drew ?_ | refine blk_alloc ?_ _)); exact BK273.out)) : P := h
theorem q90x25_ {P : Prop} (h : P := by rw [hw]; exact (by (with_reducible repeat (first | refine blk_drewN ?_ _ | refine blk_drew ?_ | refine blk_alloc ?_ _ | refine blk_far ?_ NB277_274.out _)); (with_reducible repeat (first | refine blk_drewN ?_ _ | refine blk_drew ?_ | refine blk_alloc ?_ _)); exact BK277.out)) : P := h
theorem q90x26_ {P : Prop} (h : P := by (with_reducible repeat (first | refine blk_drewN ?_ _ | refine blk_drew ?_ | refine blk_alloc ?_ _ | refine blk_far ?_ NB272_0.out _)); (with_reducible repeat (first | refine blk_drewN ?_ _ | refine blk_drew ?_ | refine blk_alloc ?_ _)); exact BK272.out) : P := h
theorem q90x27_ {P : Prop} (h : P := by (with_reducible repeat (first | refine blk_drewN ?_ _ | refine blk_drew ?_ | refine blk_alloc ?_ _ | refine blk_far ?_ NB273_0.out _)); (with_reducible repeat (first | refine blk_drewN ?_ _ | refine blk_drew ?_ | refine blk_alloc ?_ _)); exact BK273.out) : P := h
theorem q90x28_ {P : Prop} (h : P := by (with_reducible repeat (first | refine blk_drewN ?_ _ | refine blk_drew ?_ | refine blk_alloc ?_ _ | refine blk_far ?_ NB274_0.out _)); (with_reducible repeat (first | refine blk_drewN ?_ _ | refine blk_drew ?_ | refine blk_alloc ?_ _)); exact BK274.out) : P := h
theorem q90x29_ {P : Prop} (h : P := by (with_reducible repeat (first | refine blk_drewN ?_ _ | refine blk_drew ?_ | refine blk_alloc ?_ _ | refine blk_far ?_ NB277_0.out _)); (with_reducible repeat (first | refine blk_drewN ?_ _ | refine blk_drew ?_ | refine blk_alloc ?_ _)); exact BK277.out) : P := h
theorem q90x30_ {P : Prop} (h : P := by repeat (first | (with_reducible first | exact HB.out | apply below_alloc | apply pw_below_drewN | apply below_drew1 | refine below_set ?_ (IsS79.ge HI0.out) | refine below_set ?_ GE272.out | refine below_set ?_ GE273.out) | exact HB.out)) : P := h
theorem q90x31_ {P : Prop} (h : P := by repeat (first | (with_reducible first | exact HI0.out | apply IsS79.alloc | apply IsS79.drewN | apply IsS79.drew | apply IsS79.set_0 | refine IsS79.far ?_ NB0_272.out _ | refine IsS79.far ?_ NB0_273.out _) | exact HI0.out)) : P := h
theorem q90x32_ {P : Prop} (h : P := by repeat (first | (with_reducible first | exact HB.out | apply below_alloc | apply pw_below_drewN | apply below_drew1 | refine below_set ?_ (IsS79.ge HI0.out) | refine below_set ?_ GE272.out) | exact HB.out)) : P := h
theorem q90x33_ {P : Prop} (h : P := by rw [hg]; exact (keep_size (w := w) (g := g) (row := none) q90x14_)) : P := h
theorem q90x34_ {P : Prop} (h : P := by rw [hg]; exact (keep_size (w := w) (g := g) (row := none) q90x11_)) : P := h
theorem q90x35_ {P : Prop} (h : P := by rw [hg]; exact (keep_size (w := w) (g := g) (row := none) q90x8_)) : P := h
theorem q90x36_ {P : Prop} (h : P := by rw [hg]; exact (keep_size (w := w) (g := g) (row := none) q90x2_)) : P := h
theorem q90x37_ {P : Prop} (h : P := by repeat (first | (with_reducible first | exact HI0.out | apply IsS79.alloc | apply IsS79.drewN | apply IsS79.drew | apply IsS79.set_0 | refine IsS79.far ?_ NB0_272.out _) | exact HI0.out)) : P := h
theorem q90x38_ {P : Prop} (h : P := by rw [hg]; exact Nat.ne_of_lt (blk_lt (g := gb274) (o := .cells #[.bool false, .int .u32 0, .int .u32 0, .int .u32 0, .int .u32 0, .int .u32 0, .int .u32 0] 25 (0, 0)) q90x9_)) : P := h
theorem q90x39_ {P : Prop} (h : P := by rw [hg]; exact Nat.ne_of_gt (blk_lt (g := gb274) (o := .cells #[.bool false, .int .u32 0, .int .u32 0, .int .u32 0, .int .u32 0, .int .u32 0, .int .u32 0] 25 (0, 0)) q90x9_)) : P := h
theorem q90x40_ {P : Prop} (h : P := by repeat (first | (with_reducible first | exact HB.out | apply below_alloc | apply pw_below_drewN | apply below_drew1 | refine below_set ?_ (IsS79.ge HI0.out)) | exact HB.out)) : P := h
/-! ### impl_calc_mul: function 90 -/
def impl_calc_mul.f (k : Nat) (s0_0 : Bool) (a1 : S24) (a2 : S24) : Option (S24 × Bool) := (wun a1).bind fun x => (wun a2).bind fun y => some (wenc (Wide.fitZ (x * y)), s0_0 || Wide.ovM (x * y).natAbs)
theorem impl_calc_mul.mono : ∀ a0 a1 a2 k, LeO (impl_calc_mul.f k a0 a1 a2) (impl_calc_mul.f (k + 1) a0 a1 a2) := by
 intros
 exact LeO.refl _
theorem impl_calc_mul.calls (k : Nat) (g : Nat) (s0_0 : Bool) (a1 : S24) (a2 : S24) (r1 : S24) (r2 : Bool) (w0 w : World) (hI : IsS79 w0 w g s0_0) (hB : Below w0.heap.size w0 w) (h : impl_calc_mul.f k s0_0 a1 a2 = some (r1, r2)) :
  Calls Try.prog 90 #[.pointer (some ⟨g, 0, none⟩), .agg #[.bool a1.f0, .int .u32 a1.f1.f0, .int .u32 a1.f1.f1, .int .u32 a1.f1.f2, .int .u32 a1.f1.f3, .int .u32 a1.f1.f4, .int .u32 a1.f1.f5], .agg #[.bool a2.f0, .int .u32 a2.f1.f0, .int .u32 a2.f1.f1, .int .u32 a2.f1.f2, .int .u32 a2.f1.f3, .int .u32 a2.f1.f4, .int .u32 a2.f1.f5]] w fun e w' => e = .returned (.agg #[.bool r1.f0, .int .u32 r1.f1.f0, .int .u32 r1.f1.f1, .int .u32 r1.f1.f2, .int .u32 r1.f1.f3, .int .u32 r1.f1.f4, .int .u32 r1.f1.f5]) ∧ IsS79 w0 w' g r2 ∧ Below w0.heap.size w0 w' ∧ KeepBut w w' g none := by
 obtain ⟨x, y, rfl, rfl, hx, hy, e⟩ := wun2 h
 obtain ⟨rfl, rfl⟩ := Prod.mk.inj (Option.some.inj e)
 refine (Wide.iMulV w g s0_0 x y hx hy hI.1).mono ?_
 rintro e w' ⟨rfl, hb⟩
 have hi := IsS79.set_0 hI (s0_0 || Wide.ovM (x * y).natAbs)
 have hs : (w.setCell ⟨g, 0, none⟩ (.bool (s0_0 || Wide.ovM (x * y).natAbs))).heap.size = w.heap.size := Wide.setCell_size _ _ _
 have hb' : Below (w.setCell ⟨g, 0, none⟩ (.bool (s0_0 || Wide.ovM (x * y).natAbs))).heap.size (w.setCell ⟨g, 0, none⟩ (.bool (s0_0 || Wide.ovM (x * y).natAbs))) w' := by rw [hs]; exact hb
 exact ⟨rfl, IsS79.below hi hb', below_then (hB.setCell (IsS79.ge hI) _) (by rw [hs]; exact hB.size) hb', ((KeepBut.refl w g none).set_ 0 _).trans (KeepBut.of_below hb' g none) (.inl rfl)⟩


/-! ### impl_size_up: function 101, by hand -/
def impl_size_up.f (a0 : S23) (a1 : Int) : Option (S23) := (mun a0).bind fun m => if 0 ≤ a1 ∧ a1 < 192 then some (wlm (m * 2 ^ a1.toNat)) else none
theorem impl_size_up.calls (a0 : S23) (a1 : Int) (r : S23) (w : World) (h : impl_size_up.f a0 a1 = some r) :
    Calls Try.prog 101 #[.agg #[.int .u32 a0.f0, .int .u32 a0.f1, .int .u32 a0.f2, .int .u32 a0.f3, .int .u32 a0.f4, .int .u32 a0.f5], .int .i64 a1] w fun e w' => e = .returned (.agg #[.int .u32 r.f0, .int .u32 r.f1, .int .u32 r.f2, .int .u32 r.f3, .int .u32 r.f4, .int .u32 r.f5]) ∧ Below w.heap.size w w' := by
  unfold impl_size_up.f at h
  obtain ⟨m, hm, h2⟩ := Option.bind_eq_some_iff.mp h
  clear h
  obtain ⟨rfl, hx⟩ := mun_some hm
  have h := h2
  clear h2
  split at h
  · rename_i c
    obtain rfl := Option.some.inj h
    obtain ⟨b, rfl⟩ : ∃ b : Nat, a1 = (b : Int) := ⟨a1.toNat, by omega⟩
    exact Wide.iUp w m b hx (by omega)
  · exact absurd h (by simp)

set_option linter.defProp false

theorem q130x1_ {P : Prop} (h : P := by first | (with_reducible assumption) | assumption) : P := h
/-! ### bits_Len32: function 130 -/
def bits_Len32.f (a0 : Int) : Option (Int) := if a0 ≥ 65536 then (if (a0 / 65536) ≥ 256 then (if 0 ≤ (((a0 / 65536) / 256) % 256) then (if (((a0 / 65536) / 256) % 256) < 256 then (some (wrap64 ((16 + 8) + (wrap64 (bt (⟨#[0, 1, 2, 2, 3, 3, 3, 3, 4, 4, 4, 4, 4, 4, 4, 4, 5, 5, 5, 5, 5, 5, 5, 5, 5, 5, 5, 5, 5, 5, 5, 5, 6, 6, 6, 6, 6, 6, 6, 6, 6, 6, 6, 6, 6, 6, 6, 6, 6, 6, 6, 6, 6, 6, 6, 6, 6, 6, 6, 6, 6, 6, 6, 6, 7, 7, 7, 7, 7, 7, 7, 7, 7, 7, 7, 7, 7, 7, 7, 7, 7, 7, 7, 7, 7, 7, 7, 7, 7, 7, 7, 7, 7, 7, 7, 7, 7, 7, 7, 7, 7, 7, 7, 7, 7, 7, 7, 7, 7, 7, 7, 7, 7, 7, 7, 7, 7, 7, 7, 7, 7, 7, 7, 7, 7, 7, 7, 7, 8, 8, 8, 8, 8, 8, 8, 8, 8, 8, 8, 8, 8, 8, 8, 8, 8, 8, 8, 8, 8, 8, 8, 8, 8, 8, 8, 8, 8, 8, 8, 8, 8, 8, 8, 8, 8, 8, 8, 8, 8, 8, 8, 8, 8, 8, 8, 8, 8, 8, 8, 8, 8, 8, 8, 8, 8, 8, 8, 8, 8, 8, 8, 8, 8, 8, 8, 8, 8, 8, 8, 8, 8, 8, 8, 8, 8, 8, 8, 8, 8, 8, 8, 8, 8, 8, 8, 8, 8, 8, 8, 8, 8, 8, 8, 8, 8, 8, 8, 8, 8, 8, 8, 8, 8, 8, 8, 8, 8, 8, 8, 8, 8, 8, 8, 8, 8, 8, 8, 8, 8, 8, 8, 8, 8, 8, 8, 8]⟩ : ByteArray) (((a0 / 65536) / 256) % 256)))))) else (none)) else (none)) else (if 0 ≤ ((a0 / 65536) % 256) then (if ((a0 / 65536) % 256) < 256 then (some (wrap64 (16 + (wrap64 (bt (⟨#[0, 1, 2, 2, 3, 3, 3, 3, 4, 4, 4, 4, 4, 4, 4, 4, 5, 5, 5, 5, 5, 5, 5, 5, 5, 5, 5, 5, 5, 5, 5, 5, 6, 6, 6, 6, 6, 6, 6, 6, 6, 6, 6, 6, 6, 6, 6, 6, 6, 6, 6, 6, 6, 6, 6, 6, 6, 6, 6, 6, 6, 6, 6, 6, 7, 7, 7, 7, 7, 7, 7, 7, 7, 7, 7, 7, 7, 7, 7, 7, 7, 7, 7, 7, 7, 7, 7, 7, 7, 7, 7, 7, 7, 7, 7, 7, 7, 7, 7, 7, 7, 7, 7, 7, 7, 7, 7, 7, 7, 7, 7, 7, 7, 7, 7, 7, 7, 7, 7, 7, 7, 7, 7, 7, 7, 7, 7, 7, 8, 8, 8, 8, 8, 8, 8, 8, 8, 8, 8, 8, 8, 8, 8, 8, 8, 8, 8, 8, 8, 8, 8, 8, 8, 8, 8, 8, 8, 8, 8, 8, 8, 8, 8, 8, 8, 8, 8, 8, 8, 8, 8, 8, 8, 8, 8, 8, 8, 8, 8, 8, 8, 8, 8, 8, 8, 8, 8, 8, 8, 8, 8, 8, 8, 8, 8, 8, 8, 8, 8, 8, 8, 8, 8, 8, 8, 8, 8, 8, 8, 8, 8, 8, 8, 8, 8, 8, 8, 8, 8, 8, 8, 8, 8, 8, 8, 8, 8, 8, 8, 8, 8, 8, 8, 8, 8, 8, 8, 8, 8, 8, 8, 8, 8, 8, 8, 8, 8, 8, 8, 8, 8, 8, 8, 8, 8, 8]⟩ : ByteArray) ((a0 / 65536) % 256)))))) else (none)) else (none))) else (if a0 ≥ 256 then (if 0 ≤ ((a0 / 256) % 256) then (if ((a0 / 256) % 256) < 256 then (some (wrap64 ((0 + 8) + (wrap64 (bt (⟨#[0, 1, 2, 2, 3, 3, 3, 3, 4, 4, 4, 4, 4, 4, 4, 4, 5, 5, 5, 5, 5, 5, 5, 5, 5, 5, 5, 5, 5, 5, 5, 5, 6, 6, 6, 6, 6, 6, 6, 6, 6, 6, 6, 6, 6, 6, 6, 6, 6, 6, 6, 6, 6, 6, 6, 6, 6, 6, 6, 6, 6, 6, 6, 6, 7, 7, 7, 7, 7, 7, 7, 7, 7, 7, 7, 7, 7, 7, 7, 7, 7, 7, 7, 7, 7, 7, 7, 7, 7, 7, 7, 7, 7, 7, 7, 7, 7, 7, 7, 7, 7, 7, 7, 7, 7, 7, 7, 7, 7, 7, 7, 7, 7, 7, 7, 7, 7, 7, 7, 7, 7, 7, 7, 7, 7, 7, 7, 7, 8, 8, 8, 8, 8, 8, 8, 8, 8, 8, 8, 8, 8, 8, 8, 8, 8, 8, 8, 8, 8, 8, 8, 8, 8, 8, 8, 8, 8, 8, 8, 8, 8, 8, 8, 8, 8, 8, 8, 8, 8, 8, 8, 8, 8, 8, 8, 8, 8, 8, 8, 8, 8, 8, 8, 8, 8, 8, 8, 8, 8, 8, 8, 8, 8, 8, 8, 8, 8, 8, 8, 8, 8, 8, 8, 8, 8, 8, 8, 8, 8, 8, 8, 8, 8, 8, 8, 8, 8, 8, 8, 8, 8, 8, 8, 8, 8, 8, 8, 8, 8, 8, 8, 8, 8, 8, 8, 8, 8, 8, 8, 8, 8, 8, 8, 8, 8, 8, 8, 8, 8, 8, 8, 8, 8, 8, 8, 8]⟩ : ByteArray) ((a0 / 256) % 256)))))) else (none)) else (none)) else (if 0 ≤ ((a0) % 256) then (if ((a0) % 256) < 256 then (some (wrap64 (0 + (wrap64 (bt (⟨#[0, 1, 2, 2, 3, 3, 3, 3, 4, 4, 4, 4, 4, 4, 4, 4, 5, 5, 5, 5, 5, 5, 5, 5, 5, 5, 5, 5, 5, 5, 5, 5, 6, 6, 6, 6, 6, 6, 6, 6, 6, 6, 6, 6, 6, 6, 6, 6, 6, 6, 6, 6, 6, 6, 6, 6, 6, 6, 6, 6, 6, 6, 6, 6, 7, 7, 7, 7, 7, 7, 7, 7, 7, 7, 7, 7, 7, 7, 7, 7, 7, 7, 7, 7, 7, 7, 7, 7, 7, 7, 7, 7, 7, 7, 7, 7, 7, 7, 7, 7, 7, 7, 7, 7, 7, 7, 7, 7, 7, 7, 7, 7, 7, 7, 7, 7, 7, 7, 7, 7, 7, 7, 7, 7, 7, 7, 7, 7, 8, 8, 8, 8, 8, 8, 8, 8, 8, 8, 8, 8, 8, 8, 8, 8, 8, 8, 8, 8, 8, 8, 8, 8, 8, 8, 8, 8, 8, 8, 8, 8, 8, 8, 8, 8, 8, 8, 8, 8, 8, 8, 8, 8, 8, 8, 8, 8, 8, 8, 8, 8, 8, 8, 8, 8, 8, 8, 8, 8, 8, 8, 8, 8, 8, 8, 8, 8, 8, 8, 8, 8, 8, 8, 8, 8, 8, 8, 8, 8, 8, 8, 8, 8, 8, 8, 8, 8, 8, 8, 8, 8, 8, 8, 8, 8, 8, 8, 8, 8, 8, 8, 8, 8, 8, 8, 8, 8, 8, 8, 8, 8, 8, 8, 8, 8, 8, 8, 8, 8, 8, 8, 8, 8, 8, 8, 8, 8]⟩ : ByteArray) ((a0) % 256)))))) else (none)) else (none)))
set_option maxHeartbeats 8000000 in
set_option maxRecDepth 100000 in
theorem bits_Len32.calls (a0 : Int) (r : Int) (w : World) (h : bits_Len32.f a0 = some r) :
  Calls Try.prog 130 #[.int .u32 a0] w fun e w' => e = .returned (.int .i64 r) ∧ Drawn0 w w' := by
 have H : (if a0 ≥ 65536 then (if (a0 / 65536) ≥ 256 then (if 0 ≤ (((a0 / 65536) / 256) % 256) then (if (((a0 / 65536) / 256) % 256) < 256 then (some (wrap64 ((16 + 8) + (wrap64 (bt (⟨#[0, 1, 2, 2, 3, 3, 3, 3, 4, 4, 4, 4, 4, 4, 4, 4, 5, 5, 5, 5, 5, 5, 5, 5, 5, 5, 5, 5, 5, 5, 5, 5, 6, 6, 6, 6, 6, 6, 6, 6, 6, 6, 6, 6, 6, 6, 6, 6, 6, 6, 6, 6, 6, 6, 6, 6, 6, 6, 6, 6, 6, 6, 6, 6, 7, 7, 7, 7, 7, 7, 7, 7, 7, 7, 7, 7, 7, 7, 7, 7, 7, 7, 7, 7, 7, 7, 7, 7, 7, 7, 7, 7, 7, 7, 7, 7, 7, 7, 7, 7, 7, 7, 7, 7, 7, 7, 7, 7, 7, 7, 7, 7, 7, 7, 7, 7, 7, 7, 7, 7, 7, 7, 7, 7, 7, 7, 7, 7, 8, 8, 8, 8, 8, 8, 8, 8, 8, 8, 8, 8, 8, 8, 8, 8, 8, 8, 8, 8, 8, 8, 8, 8, 8, 8, 8, 8, 8, 8, 8, 8, 8, 8, 8, 8, 8, 8, 8, 8, 8, 8, 8, 8, 8, 8, 8, 8, 8, 8, 8, 8, 8, 8, 8, 8, 8, 8, 8, 8, 8, 8, 8, 8, 8, 8, 8, 8, 8, 8, 8, 8, 8, 8, 8, 8, 8, 8, 8, 8, 8, 8, 8, 8, 8, 8, 8, 8, 8, 8, 8, 8, 8, 8, 8, 8, 8, 8, 8, 8, 8, 8, 8, 8, 8, 8, 8, 8, 8, 8, 8, 8, 8, 8, 8, 8, 8, 8, 8, 8, 8, 8, 8, 8, 8, 8, 8, 8]⟩ : ByteArray) (((a0 / 65536) / 256) % 256)))))) else (none)) else (none)) else (if 0 ≤ ((a0 / 65536) % 256) then (if ((a0 / 65536) % 256) < 256 then (some (wrap64 (16 + (wrap64 (bt (⟨#[0, 1, 2, 2, 3, 3, 3, 3, 4, 4, 4, 4, 4, 4, 4, 4, 5, 5, 5, 5, 5, 5, 5, 5, 5, 5, 5, 5, 5, 5, 5, 5, 6, 6, 6, 6, 6, 6, 6, 6, 6, 6, 6, 6, 6, 6, 6, 6, 6, 6, 6, 6, 6, 6, 6, 6, 6, 6, 6, 6, 6, 6, 6, 6, 7, 7, 7, 7, 7, 7, 7, 7, 7, 7, 7, 7, 7, 7, 7, 7, 7, 7, 7, 7, 7, 7, 7, 7, 7, 7, 7, 7, 7, 7, 7, 7, 7, 7, 7, 7, 7, 7, 7, 7, 7, 7, 7, 7, 7, 7, 7, 7, 7, 7, 7, 7, 7, 7, 7, 7, 7, 7, 7, 7, 7, 7, 7, 7, 8, 8, 8, 8, 8, 8, 8, 8, 8, 8, 8, 8, 8, 8, 8, 8, 8, 8, 8, 8, 8, 8, 8, 8, 8, 8, 8, 8, 8, 8, 8, 8, 8, 8, 8, 8, 8, 8, 8, 8, 8, 8, 8, 8, 8, 8, 8, 8, 8, 8, 8, 8, 8, 8, 8, 8, 8, 8, 8, 8, 8, 8, 8, 8, 8, 8, 8, 8, 8, 8, 8, 8, 8, 8, 8, 8, 8, 8, 8, 8, 8, 8, 8, 8, 8, 8, 8, 8, 8, 8, 8, 8, 8, 8, 8, 8, 8, 8, 8, 8, 8, 8, 8, 8, 8, 8, 8, 8, 8, 8, 8, 8, 8, 8, 8, 8, 8, 8, 8, 8, 8, 8, 8, 8, 8, 8, 8, 8]⟩ : ByteArray) ((a0 / 65536) % 256)))))) else (none)) else (none))) else (if a0 ≥ 256 then (if 0 ≤ ((a0 / 256) % 256) then (if ((a0 / 256) % 256) < 256 then (some (wrap64 ((0 + 8) + (wrap64 (bt (⟨#[0, 1, 2, 2, 3, 3, 3, 3, 4, 4, 4, 4, 4, 4, 4, 4, 5, 5, 5, 5, 5, 5, 5, 5, 5, 5, 5, 5, 5, 5, 5, 5, 6, 6, 6, 6, 6, 6, 6, 6, 6, 6, 6, 6, 6, 6, 6, 6, 6, 6, 6, 6, 6, 6, 6, 6, 6, 6, 6, 6, 6, 6, 6, 6, 7, 7, 7, 7, 7, 7, 7, 7, 7, 7, 7, 7, 7, 7, 7, 7, 7, 7, 7, 7, 7, 7, 7, 7, 7, 7, 7, 7, 7, 7, 7, 7, 7, 7, 7, 7, 7, 7, 7, 7, 7, 7, 7, 7, 7, 7, 7, 7, 7, 7, 7, 7, 7, 7, 7, 7, 7, 7, 7, 7, 7, 7, 7, 7, 8, 8, 8, 8, 8, 8, 8, 8, 8, 8, 8, 8, 8, 8, 8, 8, 8, 8, 8, 8, 8, 8, 8, 8, 8, 8, 8, 8, 8, 8, 8, 8, 8, 8, 8, 8, 8, 8, 8, 8, 8, 8, 8, 8, 8, 8, 8, 8, 8, 8, 8, 8, 8, 8, 8, 8, 8, 8, 8, 8, 8, 8, 8, 8, 8, 8, 8, 8, 8, 8, 8, 8, 8, 8, 8, 8, 8, 8, 8, 8, 8, 8, 8, 8, 8, 8, 8, 8, 8, 8, 8, 8, 8, 8, 8, 8, 8, 8, 8, 8, 8, 8, 8, 8, 8, 8, 8, 8, 8, 8, 8, 8, 8, 8, 8, 8, 8, 8, 8, 8, 8, 8, 8, 8, 8, 8, 8, 8]⟩ : ByteArray) ((a0 / 256) % 256)))))) else (none)) else (none)) else (if 0 ≤ ((a0) % 256) then (if ((a0) % 256) < 256 then (some (wrap64 (0 + (wrap64 (bt (⟨#[0, 1, 2, 2, 3, 3, 3, 3, 4, 4, 4, 4, 4, 4, 4, 4, 5, 5, 5, 5, 5, 5, 5, 5, 5, 5, 5, 5, 5, 5, 5, 5, 6, 6, 6, 6, 6, 6, 6, 6, 6, 6, 6, 6, 6, 6, 6, 6, 6, 6, 6, 6, 6, 6, 6, 6, 6, 6, 6, 6, 6, 6, 6, 6, 7, 7, 7, 7, 7, 7, 7, 7, 7, 7, 7, 7, 7, 7, 7, 7, 7, 7, 7, 7, 7, 7, 7, 7, 7, 7, 7, 7, 7, 7, 7, 7, 7, 7, 7, 7, 7, 7, 7, 7, 7, 7, 7, 7, 7, 7, 7, 7, 7, 7, 7, 7, 7, 7, 7, 7, 7, 7, 7, 7, 7, 7, 7, 7, 8, 8, 8, 8, 8, 8, 8, 8, 8, 8, 8, 8, 8, 8, 8, 8, 8, 8, 8, 8, 8, 8, 8, 8, 8, 8, 8, 8, 8, 8, 8, 8, 8, 8, 8, 8, 8, 8, 8, 8, 8, 8, 8, 8, 8, 8, 8, 8, 8, 8, 8, 8, 8, 8, 8, 8, 8, 8, 8, 8, 8, 8, 8, 8, 8, 8, 8, 8, 8, 8, 8, 8, 8, 8, 8, 8, 8, 8, 8, 8, 8, 8, 8, 8, 8, 8, 8, 8, 8, 8, 8, 8, 8, 8, 8, 8, 8, 8, 8, 8, 8, 8, 8, 8, 8, 8, 8, 8, 8, 8, 8, 8, 8, 8, 8, 8, 8, 8, 8, 8, 8, 8, 8, 8, 8, 8, 8, 8]⟩ : ByteArray) ((a0) % 256)))))) else (none)) else (none)))) = some r := h
 clear h
 by_cases c2 : a0 ≥ 65536
 ·rw [if_pos c2] at H
  have c2b0 : decide (65536 ≤ a0) = true := decide_eq_true c2
  clear c2
  by_cases c3 : (a0 / 65536) ≥ 256
  ·rw [if_pos c3] at H
   have c3b0 : decide (256 ≤ (a0 / 65536)) = true := decide_eq_true c3
   clear c3
   obtain ⟨ji4, hji4⟩ : ∃ j_ : Int, (((a0 / 65536) / 256) % 256) = j_ := ⟨_, rfl⟩
   replace H : (if 0 ≤ (ji4) then (if (ji4) < 256 then (some (wrap64 ((16 + 8) + (wrap64 (bt (⟨#[0, 1, 2, 2, 3, 3, 3, 3, 4, 4, 4, 4, 4, 4, 4, 4, 5, 5, 5, 5, 5, 5, 5, 5, 5, 5, 5, 5, 5, 5, 5, 5, 6, 6, 6, 6, 6, 6, 6, 6, 6, 6, 6, 6, 6, 6, 6, 6, 6, 6, 6, 6, 6, 6, 6, 6, 6, 6, 6, 6, 6, 6, 6, 6, 7, 7, 7, 7, 7, 7, 7, 7, 7, 7, 7, 7, 7, 7, 7, 7, 7, 7, 7, 7, 7, 7, 7, 7, 7, 7, 7, 7, 7, 7, 7, 7, 7, 7, 7, 7, 7, 7, 7, 7, 7, 7, 7, 7, 7, 7, 7, 7, 7, 7, 7, 7, 7, 7, 7, 7, 7, 7, 7, 7, 7, 7, 7, 7, 8, 8, 8, 8, 8, 8, 8, 8, 8, 8, 8, 8, 8, 8, 8, 8, 8, 8, 8, 8, 8, 8, 8, 8, 8, 8, 8, 8, 8, 8, 8, 8, 8, 8, 8, 8, 8, 8, 8, 8, 8, 8, 8, 8, 8, 8, 8, 8, 8, 8, 8, 8, 8, 8, 8, 8, 8, 8, 8, 8, 8, 8, 8, 8, 8, 8, 8, 8, 8, 8, 8, 8, 8, 8, 8, 8, 8, 8, 8, 8, 8, 8, 8, 8, 8, 8, 8, 8, 8, 8, 8, 8, 8, 8, 8, 8, 8, 8, 8, 8, 8, 8, 8, 8, 8, 8, 8, 8, 8, 8, 8, 8, 8, 8, 8, 8, 8, 8, 8, 8, 8, 8, 8, 8, 8, 8, 8, 8]⟩ : ByteArray) (ji4)))))) else (none)) else (none)) = some r := by first | (rw [hji4] at H; exact H) | (simp only [hji4] at H ⊢; exact H)
   by_cases c5 : 0 ≤ (ji4)
   rotate_left
   ·rw [if_neg c5] at H
    exact absurd H (by simp)
   rw [if_pos c5] at H
   have c5b0 : decide (0 ≤ (ji4)) = true := decide_eq_true c5
   clear c5
   by_cases c6 : (ji4) < 256
   rotate_left
   ·rw [if_neg c6] at H
    exact absurd H (by simp)
   rw [if_pos c6] at H
   have c6b0 : decide ((ji4) < 256) = true := decide_eq_true c6
   clear c6
   obtain rfl := Option.some.inj H
   have p7 : 0 ≤ ((ji4) : Int) := of_decide_eq_true q130x1_
   have q7 : (ji4) < (256 : Int) := of_decide_eq_true q130x1_
   have hx7 := bt_at (⟨#[0, 1, 2, 2, 3, 3, 3, 3, 4, 4, 4, 4, 4, 4, 4, 4, 5, 5, 5, 5, 5, 5, 5, 5, 5, 5, 5, 5, 5, 5, 5, 5, 6, 6, 6, 6, 6, 6, 6, 6, 6, 6, 6, 6, 6, 6, 6, 6, 6, 6, 6, 6, 6, 6, 6, 6, 6, 6, 6, 6, 6, 6, 6, 6, 7, 7, 7, 7, 7, 7, 7, 7, 7, 7, 7, 7, 7, 7, 7, 7, 7, 7, 7, 7, 7, 7, 7, 7, 7, 7, 7, 7, 7, 7, 7, 7, 7, 7, 7, 7, 7, 7, 7, 7, 7, 7, 7, 7, 7, 7, 7, 7, 7, 7, 7, 7, 7, 7, 7, 7, 7, 7, 7, 7, 7, 7, 7, 7, 8, 8, 8, 8, 8, 8, 8, 8, 8, 8, 8, 8, 8, 8, 8, 8, 8, 8, 8, 8, 8, 8, 8, 8, 8, 8, 8, 8, 8, 8, 8, 8, 8, 8, 8, 8, 8, 8, 8, 8, 8, 8, 8, 8, 8, 8, 8, 8, 8, 8, 8, 8, 8, 8, 8, 8, 8, 8, 8, 8, 8, 8, 8, 8, 8, 8, 8, 8, 8, 8, 8, 8, 8, 8, 8, 8, 8, 8, 8, 8, 8, 8, 8, 8, 8, 8, 8, 8, 8, 8, 8, 8, 8, 8, 8, 8, 8, 8, 8, 8, 8, 8, 8, 8, 8, 8, 8, 8, 8, 8, 8, 8, 8, 8, 8, 8, 8, 8, 8, 8, 8, 8, 8, 8, 8, 8, 8, 8]⟩ : ByteArray) (ji4)
   replace p7 := eq_true p7
   replace q7 := eq_true q7
   go_enter Try.func130, Try.ntmps130
   go_wp2
   go_ret
   exact ⟨by first | rfl | (simp; done) | (simp only [← hji4] <;> (first | rfl | simp)) | (simp [*]; done), by repeat (first | exact Drawn0.refl _ | apply Drawn0.step)⟩
  rw [if_neg c3] at H
  have c3b0 : decide (256 ≤ (a0 / 65536)) = false := decide_eq_false c3
  clear c3
  obtain ⟨ji8, hji8⟩ : ∃ j_ : Int, ((a0 / 65536) % 256) = j_ := ⟨_, rfl⟩
  replace H : (if 0 ≤ (ji8) then (if (ji8) < 256 then (some (wrap64 (16 + (wrap64 (bt (⟨#[0, 1, 2, 2, 3, 3, 3, 3, 4, 4, 4, 4, 4, 4, 4, 4, 5, 5, 5, 5, 5, 5, 5, 5, 5, 5, 5, 5, 5, 5, 5, 5, 6, 6, 6, 6, 6, 6, 6, 6, 6, 6, 6, 6, 6, 6, 6, 6, 6, 6, 6, 6, 6, 6, 6, 6, 6, 6, 6, 6, 6, 6, 6, 6, 7, 7, 7, 7, 7, 7, 7, 7, 7, 7, 7, 7, 7, 7, 7, 7, 7, 7, 7, 7, 7, 7, 7, 7, 7, 7, 7, 7, 7, 7, 7, 7, 7, 7, 7, 7, 7, 7, 7, 7, 7, 7, 7, 7, 7, 7, 7, 7, 7, 7, 7, 7, 7, 7, 7, 7, 7, 7, 7, 7, 7, 7, 7, 7, 8, 8, 8, 8, 8, 8, 8, 8, 8, 8, 8, 8, 8, 8, 8, 8, 8, 8, 8, 8, 8, 8, 8, 8, 8, 8, 8, 8, 8, 8, 8, 8, 8, 8, 8, 8, 8, 8, 8, 8, 8, 8, 8, 8, 8, 8, 8, 8, 8, 8, 8, 8, 8, 8, 8, 8, 8, 8, 8, 8, 8, 8, 8, 8, 8, 8, 8, 8, 8, 8, 8, 8, 8, 8, 8, 8, 8, 8, 8, 8, 8, 8, 8, 8, 8, 8, 8, 8, 8, 8, 8, 8, 8, 8, 8, 8, 8, 8, 8, 8, 8, 8, 8, 8, 8, 8, 8, 8, 8, 8, 8, 8, 8, 8, 8, 8, 8, 8, 8, 8, 8, 8, 8, 8, 8, 8, 8, 8]⟩ : ByteArray) (ji8)))))) else (none)) else (none)) = some r := by first | (rw [hji8] at H; exact H) | (simp only [hji8] at H ⊢; exact H)
  by_cases c9 : 0 ≤ (ji8)
  rotate_left
  ·rw [if_neg c9] at H
   exact absurd H (by simp)
  rw [if_pos c9] at H
  have c9b0 : decide (0 ≤ (ji8)) = true := decide_eq_true c9
  clear c9
  by_cases c10 : (ji8) < 256
  rotate_left
  ·rw [if_neg c10] at H
   exact absurd H (by simp)
  rw [if_pos c10] at H
  have c10b0 : decide ((ji8) < 256) = true := decide_eq_true c10
  clear c10
  obtain rfl := Option.some.inj H
  have p11 : 0 ≤ ((ji8) : Int) := of_decide_eq_true q130x1_
  have q11 : (ji8) < (256 : Int) := of_decide_eq_true q130x1_
  have hx11 := bt_at (⟨#[0, 1, 2, 2, 3, 3, 3, 3, 4, 4, 4, 4, 4, 4, 4, 4, 5, 5, 5, 5, 5, 5, 5, 5, 5, 5, 5, 5, 5, 5, 5, 5, 6, 6, 6, 6, 6, 6, 6, 6, 6, 6, 6, 6, 6, 6, 6, 6, 6, 6, 6, 6, 6, 6, 6, 6, 6, 6, 6, 6, 6, 6, 6, 6, 7, 7, 7, 7, 7, 7, 7, 7, 7, 7, 7, 7, 7, 7, 7, 7, 7, 7, 7, 7, 7, 7, 7, 7, 7, 7, 7, 7, 7, 7, 7, 7, 7, 7, 7, 7, 7, 7, 7, 7, 7, 7, 7, 7, 7, 7, 7, 7, 7, 7, 7, 7, 7, 7, 7, 7, 7, 7, 7, 7, 7, 7, 7, 7, 8, 8, 8, 8, 8, 8, 8, 8, 8, 8, 8, 8, 8, 8, 8, 8, 8, 8, 8, 8, 8, 8, 8, 8, 8, 8, 8, 8, 8, 8, 8, 8, 8, 8, 8, 8, 8, 8, 8, 8, 8, 8, 8, 8, 8, 8, 8, 8, 8, 8, 8, 8, 8, 8, 8, 8, 8, 8, 8, 8, 8, 8, 8, 8, 8, 8, 8, 8, 8, 8, 8, 8, 8, 8, 8, 8, 8, 8, 8, 8, 8, 8, 8, 8, 8, 8, 8, 8, 8, 8, 8, 8, 8, 8, 8, 8, 8, 8, 8, 8, 8, 8, 8, 8, 8, 8, 8, 8, 8, 8, 8, 8, 8, 8, 8, 8, 8, 8, 8, 8, 8, 8, 8, 8, 8, 8, 8, 8]⟩ : ByteArray) (ji8)
  replace p11 := eq_true p11
  replace q11 := eq_true q11
  go_enter Try.func130, Try.ntmps130
  go_wp2
  go_ret
  exact ⟨by first | rfl | (simp; done) | (simp only [← hji8] <;> (first | rfl | simp)) | (simp [*]; done), by repeat (first | exact Drawn0.refl _ | apply Drawn0.step)⟩
 rw [if_neg c2] at H
 have c2b0 : decide (65536 ≤ a0) = false := decide_eq_false c2
 clear c2
 by_cases c12 : a0 ≥ 256
 ·rw [if_pos c12] at H
  have c12b0 : decide (256 ≤ a0) = true := decide_eq_true c12
  clear c12
  obtain ⟨ji13, hji13⟩ : ∃ j_ : Int, ((a0 / 256) % 256) = j_ := ⟨_, rfl⟩
  replace H : (if 0 ≤ (ji13) then (if (ji13) < 256 then (some (wrap64 ((0 + 8) + (wrap64 (bt (⟨#[0, 1, 2, 2, 3, 3, 3, 3, 4, 4, 4, 4, 4, 4, 4, 4, 5, 5, 5, 5, 5, 5, 5, 5, 5, 5, 5, 5, 5, 5, 5, 5, 6, 6, 6, 6, 6, 6, 6, 6, 6, 6, 6, 6, 6, 6, 6, 6, 6, 6, 6, 6, 6, 6, 6, 6, 6, 6, 6, 6, 6, 6, 6, 6, 7, 7, 7, 7, 7, 7, 7, 7, 7, 7, 7, 7, 7, 7, 7, 7, 7, 7, 7, 7, 7, 7, 7, 7, 7, 7, 7, 7, 7, 7, 7, 7, 7, 7, 7, 7, 7, 7, 7, 7, 7, 7, 7, 7, 7, 7, 7, 7, 7, 7, 7, 7, 7, 7, 7, 7, 7, 7, 7, 7, 7, 7, 7, 7, 8, 8, 8, 8, 8, 8, 8, 8, 8, 8, 8, 8, 8, 8, 8, 8, 8, 8, 8, 8, 8, 8, 8, 8, 8, 8, 8, 8, 8, 8, 8, 8, 8, 8, 8, 8, 8, 8, 8, 8, 8, 8, 8, 8, 8, 8, 8, 8, 8, 8, 8, 8, 8, 8, 8, 8, 8, 8, 8, 8, 8, 8, 8, 8, 8, 8, 8, 8, 8, 8, 8, 8, 8, 8, 8, 8, 8, 8, 8, 8, 8, 8, 8, 8, 8, 8, 8, 8, 8, 8, 8, 8, 8, 8, 8, 8, 8, 8, 8, 8, 8, 8, 8, 8, 8, 8, 8, 8, 8, 8, 8, 8, 8, 8, 8, 8, 8, 8, 8, 8, 8, 8, 8, 8, 8, 8, 8, 8]⟩ : ByteArray) (ji13)))))) else (none)) else (none)) = some r := by first | (rw [hji13] at H; exact H) | (simp only [hji13] at H ⊢; exact H)
  by_cases c14 : 0 ≤ (ji13)
  rotate_left
  ·rw [if_neg c14] at H
   exact absurd H (by simp)
  rw [if_pos c14] at H
  have c14b0 : decide (0 ≤ (ji13)) = true := decide_eq_true c14
  clear c14
  by_cases c15 : (ji13) < 256
  rotate_left
  ·rw [if_neg c15] at H
   exact absurd H (by simp)
  rw [if_pos c15] at H
  have c15b0 : decide ((ji13) < 256) = true := decide_eq_true c15
  clear c15
  obtain rfl := Option.some.inj H
  have p16 : 0 ≤ ((ji13) : Int) := of_decide_eq_true q130x1_
  have q16 : (ji13) < (256 : Int) := of_decide_eq_true q130x1_
  have hx16 := bt_at (⟨#[0, 1, 2, 2, 3, 3, 3, 3, 4, 4, 4, 4, 4, 4, 4, 4, 5, 5, 5, 5, 5, 5, 5, 5, 5, 5, 5, 5, 5, 5, 5, 5, 6, 6, 6, 6, 6, 6, 6, 6, 6, 6, 6, 6, 6, 6, 6, 6, 6, 6, 6, 6, 6, 6, 6, 6, 6, 6, 6, 6, 6, 6, 6, 6, 7, 7, 7, 7, 7, 7, 7, 7, 7, 7, 7, 7, 7, 7, 7, 7, 7, 7, 7, 7, 7, 7, 7, 7, 7, 7, 7, 7, 7, 7, 7, 7, 7, 7, 7, 7, 7, 7, 7, 7, 7, 7, 7, 7, 7, 7, 7, 7, 7, 7, 7, 7, 7, 7, 7, 7, 7, 7, 7, 7, 7, 7, 7, 7, 8, 8, 8, 8, 8, 8, 8, 8, 8, 8, 8, 8, 8, 8, 8, 8, 8, 8, 8, 8, 8, 8, 8, 8, 8, 8, 8, 8, 8, 8, 8, 8, 8, 8, 8, 8, 8, 8, 8, 8, 8, 8, 8, 8, 8, 8, 8, 8, 8, 8, 8, 8, 8, 8, 8, 8, 8, 8, 8, 8, 8, 8, 8, 8, 8, 8, 8, 8, 8, 8, 8, 8, 8, 8, 8, 8, 8, 8, 8, 8, 8, 8, 8, 8, 8, 8, 8, 8, 8, 8, 8, 8, 8, 8, 8, 8, 8, 8, 8, 8, 8, 8, 8, 8, 8, 8, 8, 8, 8, 8, 8, 8, 8, 8, 8, 8, 8, 8, 8, 8, 8, 8, 8, 8, 8, 8, 8, 8]⟩ : ByteArray) (ji13)
  replace p16 := eq_true p16
  replace q16 := eq_true q16
  go_enter Try.func130, Try.ntmps130
  go_wp2
  go_ret
  exact ⟨by first | rfl | (simp; done) | (simp only [← hji13] <;> (first | rfl | simp)) | (simp [*]; done), by repeat (first | exact Drawn0.refl _ | apply Drawn0.step)⟩
 rw [if_neg c12] at H
 have c12b0 : decide (256 ≤ a0) = false := decide_eq_false c12
 clear c12
 obtain ⟨ji17, hji17⟩ : ∃ j_ : Int, ((a0) % 256) = j_ := ⟨_, rfl⟩
 replace H : (if 0 ≤ (ji17) then (if (ji17) < 256 then (some (wrap64 (0 + (wrap64 (bt (⟨#[0, 1, 2, 2, 3, 3, 3, 3, 4, 4, 4, 4, 4, 4, 4, 4, 5, 5, 5, 5, 5, 5, 5, 5, 5, 5, 5, 5, 5, 5, 5, 5, 6, 6, 6, 6, 6, 6, 6, 6, 6, 6, 6, 6, 6, 6, 6, 6, 6, 6, 6, 6, 6, 6, 6, 6, 6, 6, 6, 6, 6, 6, 6, 6, 7, 7, 7, 7, 7, 7, 7, 7, 7, 7, 7, 7, 7, 7, 7, 7, 7, 7, 7, 7, 7, 7, 7, 7, 7, 7, 7, 7, 7, 7, 7, 7, 7, 7, 7, 7, 7, 7, 7, 7, 7, 7, 7, 7, 7, 7, 7, 7, 7, 7, 7, 7, 7, 7, 7, 7, 7, 7, 7, 7, 7, 7, 7, 7, 8, 8, 8, 8, 8, 8, 8, 8, 8, 8, 8, 8, 8, 8, 8, 8, 8, 8, 8, 8, 8, 8, 8, 8, 8, 8, 8, 8, 8, 8, 8, 8, 8, 8, 8, 8, 8, 8, 8, 8, 8, 8, 8, 8, 8, 8, 8, 8, 8, 8, 8, 8, 8, 8, 8, 8, 8, 8, 8, 8, 8, 8, 8, 8, 8, 8, 8, 8, 8, 8, 8, 8, 8, 8, 8, 8, 8, 8, 8, 8, 8, 8, 8, 8, 8, 8, 8, 8, 8, 8, 8, 8, 8, 8, 8, 8, 8, 8, 8, 8, 8, 8, 8, 8, 8, 8, 8, 8, 8, 8, 8, 8, 8, 8, 8, 8, 8, 8, 8, 8, 8, 8, 8, 8, 8, 8, 8, 8]⟩ : ByteArray) (ji17)))))) else (none)) else (none)) = some r := by first | (rw [hji17] at H; exact H) | (simp only [hji17] at H ⊢; exact H)
 by_cases c18 : 0 ≤ (ji17)
 rotate_left
 ·rw [if_neg c18] at H
  exact absurd H (by simp)

 rw [if_pos c18] at H
 have c18b0 : decide (0 ≤ (ji17)) = true := decide_eq_true c18
 clear c18
 by_cases c19 : (ji17) < 256
 rotate_left
 ·rw [if_neg c19] at H
  exact absurd H (by simp)
 rw [if_pos c19] at H
 have c19b0 : decide ((ji17) < 256) = true := decide_eq_true c19
 clear c19
 obtain rfl := Option.some.inj H
 have p20 : 0 ≤ ((ji17) : Int) := of_decide_eq_true q130x1_
 have q20 : (ji17) < (256 : Int) := of_decide_eq_true q130x1_
 have hx20 := bt_at (⟨#[0, 1, 2, 2, 3, 3, 3, 3, 4, 4, 4, 4, 4, 4, 4, 4, 5, 5, 5, 5, 5, 5, 5, 5, 5, 5, 5, 5, 5, 5, 5, 5, 6, 6, 6, 6, 6, 6, 6, 6, 6, 6, 6, 6, 6, 6, 6, 6, 6, 6, 6, 6, 6, 6, 6, 6, 6, 6, 6, 6, 6, 6, 6, 6, 7, 7, 7, 7, 7, 7, 7, 7, 7, 7, 7, 7, 7, 7, 7, 7, 7, 7, 7, 7, 7, 7, 7, 7, 7, 7, 7, 7, 7, 7, 7, 7, 7, 7, 7, 7, 7, 7, 7, 7, 7, 7, 7, 7, 7, 7, 7, 7, 7, 7, 7, 7, 7, 7, 7, 7, 7, 7, 7, 7, 7, 7, 7, 7, 8, 8, 8, 8, 8, 8, 8, 8, 8, 8, 8, 8, 8, 8, 8, 8, 8, 8, 8, 8, 8, 8, 8, 8, 8, 8, 8, 8, 8, 8, 8, 8, 8, 8, 8, 8, 8, 8, 8, 8, 8, 8, 8, 8, 8, 8, 8, 8, 8, 8, 8, 8, 8, 8, 8, 8, 8, 8, 8, 8, 8, 8, 8, 8, 8, 8, 8, 8, 8, 8, 8, 8, 8, 8, 8, 8, 8, 8, 8, 8, 8, 8, 8, 8, 8, 8, 8, 8, 8, 8, 8, 8, 8, 8, 8, 8, 8, 8, 8, 8, 8, 8, 8, 8, 8, 8, 8, 8, 8, 8, 8, 8, 8, 8, 8, 8, 8, 8, 8, 8, 8, 8, 8, 8, 8, 8, 8, 8]⟩ : ByteArray) (ji17)
 replace p20 := eq_true p20
 replace q20 := eq_true q20
 go_enter Try.func130, Try.ntmps130
 go_wp2
 go_ret
 exact ⟨by first | rfl | (simp; done) | (simp only [← hji17] <;> (first | rfl | simp)) | (simp [*]; done), by repeat (first | exact Drawn0.refl _ | apply Drawn0.step)⟩
/-! ### impl_size_bits: function 121 -/
def impl_size_bits.l0 : Nat → Int → S23 → Option (Int)
  | 0, _, _ => none
  | k + 1, x3, x281000 => if x3 ≥ 0 then (if 0 ≤ x3 then (if x3 < 6 then (if (rd [x281000.f0, x281000.f1, x281000.f2, x281000.f3, x281000.f4, x281000.f5] x3) = 0 then (impl_size_bits.l0 k (wrap64 (x3 - 1)) x281000) else ((bits_Len32.f (rd [x281000.f0, x281000.f1, x281000.f2, x281000.f3, x281000.f4, x281000.f5] x3)).bind fun t283 => (some (wrap64 ((wrap64 (32 * x3)) + t283))))) else (none)) else (none)) else (some 0)
def impl_size_bits.f (k : Nat) (a0 : S23) : Option (Int) := impl_size_bits.l0 k 5 a0
theorem impl_size_bits.mono_l : ∀ k, (∀ y0 y1, LeO (impl_size_bits.l0 k y0 y1) (impl_size_bits.l0 (k + 1) y0 y1))
  | 0 => fun _ _ r h => by simp [impl_size_bits.l0] at h
  | k + 1 => by
    have ih0 := impl_size_bits.mono_l k
    · intro y0 y1
      unfold impl_size_bits.l0
      repeat' first
      | (with_reducible exact ih0 _ _)
      | (with_reducible exact LeO.refl _)
      | (with_reducible exact LeO.none _)
      | (with_reducible refine LeO.ite ?_ ?_)
      | (with_reducible refine LeO.bind ?_ (fun _ => ?_))
      | exact ih0 _ _
      | exact LeO.none _
      | refine LeO.ite ?_ ?_
      | refine LeO.bind ?_ (fun _ => ?_)
theorem impl_size_bits.mono : ∀ a0 k, LeO (impl_size_bits.f k a0) (impl_size_bits.f (k + 1) a0) := by
  intro a0 k
  have ih0 := impl_size_bits.mono_l k
  unfold impl_size_bits.f
  repeat' first
      | (with_reducible exact ih0 _ _)
      | (with_reducible exact LeO.refl _)
      | (with_reducible exact LeO.none _)
      | (with_reducible refine LeO.ite ?_ ?_)
      | (with_reducible refine LeO.bind ?_ (fun _ => ?_))
      | exact ih0 _ _
      | exact LeO.none _
      | refine LeO.ite ?_ ?_
      | refine LeO.bind ?_ (fun _ => ?_)
set_option maxHeartbeats 8000000 in
set_option maxRecDepth 100000 in
theorem impl_size_bits.calls (k : Nat) (a0 : S23) (r : Int) (w : World) (h : impl_size_bits.f k a0 = some r) :
    Calls Try.prog 121 #[.agg #[.int .u32 a0.f0, .int .u32 a0.f1, .int .u32 a0.f2, .int .u32 a0.f3, .int .u32 a0.f4, .int .u32 a0.f5]] w fun e w' => e = .returned (.int .i64 r) ∧ Below w.heap.size w w' := by
  have hu111 := Try.underlying111
  have HB := Aside0.mk (Below.refl w.heap.size w)
  have H : (impl_size_bits.l0 k 5 a0) = some r := h
  clear h
  have H' := Aside0.mk H
  clear H
  go_enter Try.func121, Try.ntmps121
  go_wp2_with (first | ((with_reducible refine gate_dst (N := 1) rfl ?_); refine box_event ?hg (N := 1) ?hd (cs := #[.int .u32 a0.f0, .int .u32 a0.f1, .int .u32 a0.f2, .int .u32 a0.f3, .int .u32 a0.f4, .int .u32 a0.f5]) (t := 111) ?hr ?_; (case hd => rfl); (case hg => rfl); (case hr => first | (go_simp; done) | (go_simp; rfl)); intro gb280 hg w2 hbox hb; have n0_ := Aside0.mk (below_step (by repeat (first | (with_reducible first | exact HB.out | apply below_alloc | apply pw_below_drewN | apply below_drew1) | exact HB.out)) hb); have n1_ := Aside0.mk (hbox); have n2_ := Aside0.mk ((by rw [hg]; exact (below_size (by repeat (first | (with_reducible first | exact HB.out | apply below_alloc | apply pw_below_drewN | apply below_drew1) | exact HB.out))) : w.heap.size ≤ gb280)); have n3_ := Aside0.mk ((by rw [hg]; exact (below_size (by repeat (first | (with_reducible first | exact HB.out | apply below_alloc | apply pw_below_drewN | apply below_drew1) | exact HB.out))) : w.heap.size ≤ gb280)); clear HB; have HB := n0_; have BK280 := n1_; have GW280 := n2_; have GE280 := n3_; clear n0_ n1_ n2_ n3_; clear hb hbox hg))
  go_loopg [3] k (fun kq v3 w' => ∃ (x3_1 : Int), v3 = .int .i64 x3_1 ∧ Aside0 (impl_size_bits.l0 kq x3_1 a0 = some r) ∧ Aside0 (kq ≤ k) ∧ Aside0 (w'.heap[gb280]? = some (.cells #[.int .u32 a0.f0, .int .u32 a0.f1, .int .u32 a0.f2, .int .u32 a0.f3, .int .u32 a0.f4, .int .u32 a0.f5] 111 (0, 0))) ∧ Aside0 (Below w.heap.size w w'))
  case atStart => exact ⟨(5), (by first | rfl | (simp; done) | (simp [*]; done)), H', ⟨Nat.le_refl _⟩, ⟨by (with_reducible repeat (first | refine blk_drewN ?_ _ | refine blk_drew ?_ | refine blk_alloc ?_ _)); exact BK280.out⟩, ⟨by repeat (first | (with_reducible first | exact HB.out | apply below_alloc | apply pw_below_drewN | apply below_drew1 | refine below_set ?_ GE280.out) | exact HB.out)⟩⟩
  case round =>
    clear H'
    try clear c1
    try clear p2
    obtain ⟨x3_1, rfl, HA, HK1, BK280, HB⟩ := hrel
    cases gk with
    | zero => exact absurd HA.out (by simp [impl_size_bits.l0])
    | succ k1 =>
      have H := HA.out
      clear HA
      simp only [impl_size_bits.l0] at H
      by_cases c3 : x3_1 ≥ 0
      · rw [if_pos c3] at H
        have c3b0 : decide (0 ≤ x3_1) = true := decide_eq_true c3
        clear c3
        have c4 : 0 ≤ x3_1 := of_decide_eq_true c3b0
        rw [if_pos c4] at H
        clear c4
        by_cases c5 : x3_1 < 6
        · rw [if_pos c5] at H
          have c5b0 : decide (x3_1 < 6) = true := decide_eq_true c5
          clear c5
          by_cases c6 : (rd [a0.f0, a0.f1, a0.f2, a0.f3, a0.f4, a0.f5] x3_1) = 0
          · rw [if_pos c6] at H
            have c6b0 : ((rd [a0.f0, a0.f1, a0.f2, a0.f3, a0.f4, a0.f5] x3_1) == 0) = true := beq_iff_eq.mpr c6
            have c6b1 : ((rd [a0.f0, a0.f1, a0.f2, a0.f3, a0.f4, a0.f5] x3_1) != 0) = false := bne_eq_false_iff_eq.mpr c6
            clear c6
            have H' := Aside0.mk H
            clear H
            obtain ⟨hcz7_0, hcz7_1, hcz7_2, hcz7_3, hcz7_4, hcz7_5⟩ := cells6_ (show wr.heap[gb280]? = some (.cells #[.int .u32 a0.f0, .int .u32 a0.f1, .int .u32 a0.f2, .int .u32 a0.f3, .int .u32 a0.f4, .int .u32 a0.f5] 111 (0, 0)) from BK280.out)
            obtain ⟨hfz7_0, hfz7_1, hfz7_2, hfz7_3, hfz7_4, hfz7_5⟩ := frozen6_ BK280.out
            have HP281 := Aside0.mk (show 0 ≤ (x3_1 : Int) ∧ (x3_1 : Int) < 6 from ⟨of_decide_eq_true (by first | (with_reducible assumption) | assumption), of_decide_eq_true (by first | (with_reducible assumption) | assumption)⟩)
            have hx281_0 : wr.cell? ⟨gb280, (x3_1 : Int).toNat, none⟩ = some (.int .u32 (rd [a0.f0, a0.f1, a0.f2, a0.f3, a0.f4, a0.f5] x3_1)) := (by (rcases (show x3_1 = 0 ∨ x3_1 = 1 ∨ x3_1 = 2 ∨ x3_1 = 3 ∨ x3_1 = 4 ∨ x3_1 = 5 from (by have h_ := HP281.out; omega)) with rfl | rfl | rfl | rfl | rfl | rfl <;> first | exact (blk_cell BK280.out 0).trans rfl | exact (blk_cell BK280.out 1).trans rfl | exact (blk_cell BK280.out 2).trans rfl | exact (blk_cell BK280.out 3).trans rfl | exact (blk_cell BK280.out 4).trans rfl | exact (blk_cell BK280.out 5).trans rfl))
            have hx281_1 : wr.cell? ((⟨gb280, 0, none⟩ : Addr).add (x3_1 : Int).toNat) = some (.int .u32 (rd [a0.f0, a0.f1, a0.f2, a0.f3, a0.f4, a0.f5] x3_1)) := (congrArg _ (add_plain _ _)).trans hx281_0
            have hpz281 := eq_true HP281.out.1
            have hpy281 := eq_true HP281.out.2
            go_wp2
            go_roundg k1
            case measure => have := HK1.out; omega
            case rel => exact ⟨(wrap64 (x3_1 - 1)), (by first | rfl | (simp; done) | (simp [*]; done)), H', ⟨by have := HK1.out; omega⟩, ⟨by (with_reducible repeat (first | refine blk_drewN ?_ _ | refine blk_drew ?_ | refine blk_alloc ?_ _)); exact BK280.out⟩, ⟨by repeat (first | (with_reducible first | exact HB.out | apply below_alloc | apply pw_below_drewN | apply below_drew1 | refine below_set ?_ GE280.out) | exact HB.out)⟩⟩
          · rw [if_neg c6] at H
            have c6b0 : ((rd [a0.f0, a0.f1, a0.f2, a0.f3, a0.f4, a0.f5] x3_1) == 0) = false := beq_eq_false_iff_ne.mpr c6
            have c6b1 : ((rd [a0.f0, a0.f1, a0.f2, a0.f3, a0.f4, a0.f5] x3_1) != 0) = true := bne_iff_ne.mpr c6
            replace H := Option.bind_eq_some_iff.mp H
            obtain ⟨t283, A80, H⟩ := H
            replace H : (some (wrap64 ((wrap64 (32 * x3_1)) + t283))) = some r := H
            have A8 := Aside0.mk A80
            clear A80
            obtain rfl := Option.some.inj H
            obtain ⟨hcz9_0, hcz9_1, hcz9_2, hcz9_3, hcz9_4, hcz9_5⟩ := cells6_ (show wr.heap[gb280]? = some (.cells #[.int .u32 a0.f0, .int .u32 a0.f1, .int .u32 a0.f2, .int .u32 a0.f3, .int .u32 a0.f4, .int .u32 a0.f5] 111 (0, 0)) from BK280.out)
            obtain ⟨hfz9_0, hfz9_1, hfz9_2, hfz9_3, hfz9_4, hfz9_5⟩ := frozen6_ BK280.out
            have HP281 := Aside0.mk (show 0 ≤ (x3_1 : Int) ∧ (x3_1 : Int) < 6 from ⟨of_decide_eq_true (by first | (with_reducible assumption) | assumption), of_decide_eq_true (by first | (with_reducible assumption) | assumption)⟩)
            have hx281_0 : wr.cell? ⟨gb280, (x3_1 : Int).toNat, none⟩ = some (.int .u32 (rd [a0.f0, a0.f1, a0.f2, a0.f3, a0.f4, a0.f5] x3_1)) := (by (rcases (show x3_1 = 0 ∨ x3_1 = 1 ∨ x3_1 = 2 ∨ x3_1 = 3 ∨ x3_1 = 4 ∨ x3_1 = 5 from (by have h_ := HP281.out; omega)) with rfl | rfl | rfl | rfl | rfl | rfl <;> first | exact (blk_cell BK280.out 0).trans rfl | exact (blk_cell BK280.out 1).trans rfl | exact (blk_cell BK280.out 2).trans rfl | exact (blk_cell BK280.out 3).trans rfl | exact (blk_cell BK280.out 4).trans rfl | exact (blk_cell BK280.out 5).trans rfl))
            have hx281_1 : wr.cell? ((⟨gb280, 0, none⟩ : Addr).add (x3_1 : Int).toNat) = some (.int .u32 (rd [a0.f0, a0.f1, a0.f2, a0.f3, a0.f4, a0.f5] x3_1)) := (congrArg _ (add_plain _ _)).trans hx281_0
            have hpz281 := eq_true HP281.out.1
            have hpy281 := eq_true HP281.out.2
            have HP282 := Aside0.mk (show 0 ≤ (x3_1 : Int) ∧ (x3_1 : Int) < 6 from ⟨of_decide_eq_true (by first | (with_reducible assumption) | assumption), of_decide_eq_true (by first | (with_reducible assumption) | assumption)⟩)
            have hx282_0 : wr.cell? ⟨gb280, (x3_1 : Int).toNat, none⟩ = some (.int .u32 (rd [a0.f0, a0.f1, a0.f2, a0.f3, a0.f4, a0.f5] x3_1)) := (by (rcases (show x3_1 = 0 ∨ x3_1 = 1 ∨ x3_1 = 2 ∨ x3_1 = 3 ∨ x3_1 = 4 ∨ x3_1 = 5 from (by have h_ := HP282.out; omega)) with rfl | rfl | rfl | rfl | rfl | rfl <;> first | exact (blk_cell BK280.out 0).trans rfl | exact (blk_cell BK280.out 1).trans rfl | exact (blk_cell BK280.out 2).trans rfl | exact (blk_cell BK280.out 3).trans rfl | exact (blk_cell BK280.out 4).trans rfl | exact (blk_cell BK280.out 5).trans rfl))
            have hx282_1 : wr.cell? ((⟨gb280, 0, none⟩ : Addr).add (x3_1 : Int).toNat) = some (.int .u32 (rd [a0.f0, a0.f1, a0.f2, a0.f3, a0.f4, a0.f5] x3_1)) := (congrArg _ (add_plain _ _)).trans hx282_0
            have hpz282 := eq_true HP282.out.1
            have hpy282 := eq_true HP282.out.2
            go_wp2_with (first | ((with_reducible refine gate_callee (f := 130) rfl ?_); refine goesL_ (some 17) rfl rfl Try.func130 (by kernel_rfl) rfl #[.int .u32 (rd [a0.f0, a0.f1, a0.f2, a0.f3, a0.f4, a0.f5] x3_1)] rfl (by (try simp only [List.map_toArray, List.map_cons, List.map_nil]); first | done | rfl | (simp only [List.length_drop, List.length_take]; rfl) | (simp only [List.drop_one]; done) | (simp only [List.drop_one]; rfl)) ?_; (with_reducible refine (bits_Len32.calls (rd [a0.f0, a0.f1, a0.f2, a0.f3, a0.f4, a0.f5] x3_1) t283 _ A8.out).mono ?_); rintro e w' ⟨rfl, ⟨nd, rfl⟩⟩; refine ⟨_, rfl, ?_⟩))
            go_ret
            exact ⟨by first | rfl | (simp [errW_none, errW_some] <;> rfl) | (simp [*, errW_none, errW_some] <;> rfl), by repeat (first | (with_reducible first | exact HB.out | apply below_alloc | apply pw_below_drewN | apply below_drew1 | refine below_set ?_ GE280.out) | exact HB.out)⟩
        · rw [if_neg c5] at H
          exact absurd H (by simp)
      · rw [if_neg c3] at H
        have c3b0 : decide (0 ≤ x3_1) = false := decide_eq_false c3
        clear c3
        obtain rfl := Option.some.inj H
        go_wp2
        go_ret
        exact ⟨by first | rfl | (simp [errW_none, errW_some] <;> rfl) | (simp [*, errW_none, errW_some] <;> rfl), by repeat (first | (with_reducible first | exact HB.out | apply below_alloc | apply pw_below_drewN | apply below_drew1 | refine below_set ?_ GE280.out) | exact HB.out)⟩

set_option linter.defProp false
def aM95_ := @Aside0.mk
theorem q95x1_ {P : Prop} (h : P := by (with_reducible repeat (first | refine blk_drewN ?_ _ | refine blk_drew ?_ | refine blk_alloc ?_ _)); exact BK284.out) : P := h
theorem q95x2_ {P : Prop} (h : P := by repeat (first | (with_reducible first | exact HB.out | apply below_alloc | apply pw_below_drewN | apply below_drew1 | refine below_set ?_ (IsS79.ge HI0.out) | refine below_set ?_ GE284.out | refine below_set ?_ GE285.out) | exact HB.out)) : P := h
theorem q95x3_ {P : Prop} (h : P := by repeat (first | (with_reducible first | exact HI0.out | apply IsS79.alloc | apply IsS79.drewN | apply IsS79.drew | apply IsS79.set_0 | refine IsS79.far ?_ NB0_284.out _ | refine IsS79.far ?_ NB0_285.out _) | exact HI0.out)) : P := h
theorem q95x4_ {P : Prop} (h : P := by repeat (first | (with_reducible first | exact HK.out | apply KeepBut.set_ | apply keep_drewN | apply keep_drew | apply keep_alloc | refine keep_far ?_ GW284.out _ | refine keep_far ?_ GW285.out _) | exact HK.out)) : P := h
theorem q95x5_ {P : Prop} (h : P := by repeat (first | (with_reducible first | exact HK.out | apply KeepBut.set_ | apply keep_drewN | apply keep_drew | apply keep_alloc | refine keep_far ?_ GW284.out _) | exact HK.out)) : P := h
theorem q95x6_ {P : Prop} (h : P := by (with_reducible repeat (first | refine blk_drewN ?_ _ | refine blk_drew ?_ | refine blk_alloc ?_ _)); exact BK285.out) : P := h
theorem q95x7_ {P : Prop} (h : P := by repeat (first | (with_reducible first | exact HK.out | apply KeepBut.set_ | apply keep_drewN | apply keep_drew | apply keep_alloc) | exact HK.out)) : P := h
theorem q95x8_ {P : Prop} (h : P := by (try simp only [List.map_toArray, List.map_cons, List.map_nil]); first | done | rfl | (simp only [List.length_drop, List.length_take]; rfl) | (simp only [List.drop_one]; done) | (simp only [List.drop_one]; rfl)) : P := h
theorem q95x9_ {P : Prop} (h : P := by simp only [Act.put, List.setIfInBounds_toArray, List.set_cons_zero, List.set_cons_succ, i64_w, i32_w]; rfl) : P := h
/-! ### impl_calc_up: function 95 -/
def impl_calc_up.j0 : Nat → Int → Bool → Bool → S24 → Option (S24 × Bool)
 | 0, _, _, _, _ => none
 | k + 1, x2, x16, x1000, x285000 => if x16 = true then (some ((⟨false, (⟨0, 0, 0, 0, 0, 0⟩ : S23)⟩ : S24), true)) else ((impl_size_up.f x285000.f1 x2).bind fun t287 => ((impl_wide.f x285000.f0 t287).bind fun t288 => (some (t288, x1000))))
def impl_calc_up.f (k : Nat) (s0_0 : Bool) (a1 : S24) (a2 : Int) : Option (S24 × Bool) := if a2 > 191 then (impl_calc_up.j0 k a2 true s0_0 a1) else ((impl_size_bits.f k a1.f1).bind fun t286 => (impl_calc_up.j0 k a2 (decide ((wrap64 (t286 + a2)) > 192)) s0_0 a1))
theorem impl_calc_up.mono_l : ∀ k, (∀ y0 y1 y2 y3, LeO (impl_calc_up.j0 k y0 y1 y2 y3) (impl_calc_up.j0 (k + 1) y0 y1 y2 y3))
 | 0 => fun _ _ _ _ r h => by simp [impl_calc_up.j0] at h
 | k + 1 => by
  have ih0 := impl_calc_up.mono_l k
  intro y0 y1 y2 y3
  unfold impl_calc_up.j0
  repeat' first
  | (with_reducible exact ih0 _ _ _ _)
  | (with_reducible exact impl_size_bits.mono _ _)
  | (with_reducible exact LeO.refl _)
  | (with_reducible exact LeO.none _)
  | (with_reducible refine LeO.ite ?_ ?_)
  | (with_reducible refine LeO.bind ?_ (fun _ => ?_))
  | exact ih0 _ _ _ _
  | exact impl_size_bits.mono _ _
  | exact LeO.none _
  | refine LeO.ite ?_ ?_
  | refine LeO.bind ?_ (fun _ => ?_)
theorem impl_calc_up.mono : ∀ a0 a1 a2 k, LeO (impl_calc_up.f k a0 a1 a2) (impl_calc_up.f (k + 1) a0 a1 a2) := by
 intro a0 a1 a2 k
 have ih0 := impl_calc_up.mono_l k
 unfold impl_calc_up.f
 repeat' first
   | (with_reducible exact ih0 _ _ _ _)
   | (with_reducible exact impl_size_bits.mono _ _)
   | (with_reducible exact LeO.refl _)
   | (with_reducible exact LeO.none _)
   | (with_reducible refine LeO.ite ?_ ?_)
   | (with_reducible refine LeO.bind ?_ (fun _ => ?_))
   | exact ih0 _ _ _ _
   | exact impl_size_bits.mono _ _
   | exact LeO.none _
   | refine LeO.ite ?_ ?_
   | refine LeO.bind ?_ (fun _ => ?_)
def impl_calc_up.T4 : Bool × List (List Nat × List Nat) := (true, [([], []), ([0], [0]), ([], []), ([2], [2]), ([], []), ([3, 4], [3, 4]), ([1, 5, 5], [1, 5]), ([6, 6, 0, 1, 2, 3, 4, 5, 6], [6])])
def impl_calc_up.B4 : List Nat := [0, 1, 0, 4, 0, 28, 63, 127]
theorem impl_calc_up.tab4 : rtab .any (opsOf Try.f95 4) = impl_calc_up.T4 := by kernel_rfl
theorem impl_calc_up.bits4 : waitsOk impl_calc_up.T4.2 impl_calc_up.B4 = true := by kernel_rfl
set_option maxHeartbeats 8000000 in
set_option maxRecDepth 100000 in
theorem impl_calc_up.calls (k : Nat) (g : Nat) (s0_0 : Bool) (a1 : S24) (a2 : Int) (r1 : S24) (r2 : Bool) (w0 w : World) (hI : IsS79 w0 w g s0_0) (hB : Below w0.heap.size w0 w) (h : impl_calc_up.f k s0_0 a1 a2 = some (r1, r2)) :
  Calls Try.prog 95 #[.pointer (some ⟨g, 0, none⟩), .agg #[.bool a1.f0, .int .u32 a1.f1.f0, .int .u32 a1.f1.f1, .int .u32 a1.f1.f2, .int .u32 a1.f1.f3, .int .u32 a1.f1.f4, .int .u32 a1.f1.f5], .int .i64 a2] w fun e w' => e = .returned (.agg #[.bool r1.f0, .int .u32 r1.f1.f0, .int .u32 r1.f1.f1, .int .u32 r1.f1.f2, .int .u32 r1.f1.f3, .int .u32 r1.f1.f4, .int .u32 r1.f1.f5]) ∧ IsS79 w0 w' g r2 ∧ Below w0.heap.size w0 w' ∧ KeepBut w w' g none := by
 have hu25 := Try.underlying25
 have hu23 := Try.underlying23
 have HI0 := aM95_ hI
 have HK := aM95_ (KeepBut.refl w g none)
 have HL := aM95_ hB.size
 clear hI
 have HW0 := aM95_ hB.size
 have HB := aM95_ hB
 clear hB
 have H : (if a2 > 191 then (impl_calc_up.j0 k a2 true s0_0 a1) else ((impl_size_bits.f k a1.f1).bind fun t286 => (impl_calc_up.j0 k a2 (decide ((wrap64 (t286 + a2)) > 192)) s0_0 a1))) = some (r1, r2) := h
 clear h
 have HC4 := aM95_ H
 clear H
 go_enter Try.func95, Try.ntmps95
 go_upto_region 1 with (first | ((with_reducible refine gate_dst (N := 4) rfl ?_); refine box_event ?hg (N := 4) ?hd (cs := #[.bool a1.f0, .int .u32 a1.f1.f0, .int .u32 a1.f1.f1, .int .u32 a1.f1.f2, .int .u32 a1.f1.f3, .int .u32 a1.f1.f4, .int .u32 a1.f1.f5]) (t := 25) ?hr ?_; (case hd => rfl); (case hg => rfl); (case hr => first | (go_simp; done) | (go_simp; rfl)); intro gb284 hg w5 hbox hb; have n0_ := aM95_ (IsS79.below (by repeat (first | (with_reducible first | exact HI0.out | apply IsS79.alloc | apply IsS79.drewN | apply IsS79.drew | apply IsS79.set_0) | exact HI0.out)) hb); have n1_ := aM95_ (KeepBut.trans q95x7_ (KeepBut.of_below hb g none) (.inl rfl)); have n2_ := aM95_ (below_step (by repeat (first | (with_reducible first | exact HB.out | apply below_alloc | apply pw_below_drewN | apply below_drew1 | refine below_set ?_ (IsS79.ge HI0.out)) | exact HB.out)) hb); have n3_ := aM95_ (hbox); have n4_ := aM95_ ((by rw [hg]; exact (keep_size (w := w) (g := g) (row := none) q95x7_) : w.heap.size ≤ gb284)); have n5_ := aM95_ ((Nat.le_trans HW0.out (by rw [hg]; exact (keep_size (w := w) (g := g) (row := none) q95x7_) : w.heap.size ≤ gb284) : w0.heap.size ≤ gb284)); have n6_ := aM95_ ((by rw [hg]; exact Nat.ne_of_lt (IsS79.lt (show IsS79 w0 _ g s0_0 from by repeat (first | (with_reducible first | exact HI0.out | apply IsS79.alloc | apply IsS79.drewN | apply IsS79.drew | apply IsS79.set_0) | exact HI0.out))) : g ≠ gb284)); have n7_ := aM95_ ((by rw [hg]; exact Nat.ne_of_gt (IsS79.lt (show IsS79 w0 _ g s0_0 from by repeat (first | (with_reducible first | exact HI0.out | apply IsS79.alloc | apply IsS79.drewN | apply IsS79.drew | apply IsS79.set_0) | exact HI0.out))) : gb284 ≠ g)); clear HI0 HK HB; have HI0 := n0_; have HK := n1_; have HB := n2_; have BK284 := n3_; have GW284 := n4_; have GE284 := n5_; have NB0_284 := n6_; have NB284_0 := n7_; clear n0_ n1_ n2_ n3_ n4_ n5_ n6_ n7_; clear hb hbox hg) | ((with_reducible refine gate_dst (N := 6) rfl ?_); refine box_event ?hg (N := 6) ?hd (cs := #[.bool false, .int .u32 0, .int .u32 0, .int .u32 0, .int .u32 0, .int .u32 0, .int .u32 0]) (t := 25) ?hr ?_; (case hd => rfl); (case hg => rfl); (case hr => first | (go_simp; done) | (go_simp; rfl)); intro gb285 hg w6 hbox hb; have n0_ := aM95_ (IsS79.below (by repeat (first | (with_reducible first | exact HI0.out | apply IsS79.alloc | apply IsS79.drewN | apply IsS79.drew | apply IsS79.set_0 | refine IsS79.far ?_ NB0_284.out _) | exact HI0.out)) hb); have n1_ := aM95_ (blk_below (g := gb284) (o := .cells #[.bool a1.f0, .int .u32 a1.f1.f0, .int .u32 a1.f1.f1, .int .u32 a1.f1.f2, .int .u32 a1.f1.f3, .int .u32 a1.f1.f4, .int .u32 a1.f1.f5] 25 (0, 0)) q95x1_ hb); have n2_ := aM95_ (KeepBut.trans q95x5_ (KeepBut.of_below hb g none) (.inl rfl)); have n3_ := aM95_ (below_step (by repeat (first | (with_reducible first | exact HB.out | apply below_alloc | apply pw_below_drewN | apply below_drew1 | refine below_set ?_ (IsS79.ge HI0.out) | refine below_set ?_ GE284.out) | exact HB.out)) hb); have n4_ := aM95_ (hbox); have n5_ := aM95_ ((by rw [hg]; exact (keep_size (w := w) (g := g) (row := none) q95x5_) : w.heap.size ≤ gb285)); have n6_ := aM95_ ((Nat.le_trans HW0.out (by rw [hg]; exact (keep_size (w := w) (g := g) (row := none) q95x5_) : w.heap.size ≤ gb285) : w0.heap.size ≤ gb285)); have n7_ := aM95_ ((by rw [hg]; exact Nat.ne_of_lt (blk_lt (g := gb284) (o := .cells #[.bool a1.f0, .int .u32 a1.f1.f0, .int .u32 a1.f1.f1, .int .u32 a1.f1.f2, .int .u32 a1.f1.f3, .int .u32 a1.f1.f4, .int .u32 a1.f1.f5] 25 (0, 0)) q95x1_) : gb284 ≠ gb285)); have n8_ := aM95_ ((by rw [hg]; exact Nat.ne_of_gt (blk_lt (g := gb284) (o := .cells #[.bool a1.f0, .int .u32 a1.f1.f0, .int .u32 a1.f1.f1, .int .u32 a1.f1.f2, .int .u32 a1.f1.f3, .int .u32 a1.f1.f4, .int .u32 a1.f1.f5] 25 (0, 0)) q95x1_) : gb285 ≠ gb284)); have n9_ := aM95_ ((by rw [hg]; exact Nat.ne_of_lt (IsS79.lt (show IsS79 w0 _ g s0_0 from by repeat (first | (with_reducible first | exact HI0.out | apply IsS79.alloc | apply IsS79.drewN | apply IsS79.drew | apply IsS79.set_0 | refine IsS79.far ?_ NB0_284.out _) | exact HI0.out))) : g ≠ gb285)); have n10_ := aM95_ ((by rw [hg]; exact Nat.ne_of_gt (IsS79.lt (show IsS79 w0 _ g s0_0 from by repeat (first | (with_reducible first | exact HI0.out | apply IsS79.alloc | apply IsS79.drewN | apply IsS79.drew | apply IsS79.set_0 | refine IsS79.far ?_ NB0_284.out _) | exact HI0.out))) : gb285 ≠ g)); clear HI0 BK284 HK HB; have HI0 := n0_; have BK284 := n1_; have HK := n2_; have HB := n3_; have BK285 := n4_; have GW285 := n5_; have GE285 := n6_; have NB284_285 := n7_; have NB285_284 := n8_; have NB0_285 := n9_; have NB285_0 := n10_; clear n0_ n1_ n2_ n3_ n4_ n5_ n6_ n7_ n8_ n9_ n10_; clear hb hbox hg))
 (try simp only [Act.put, List.setIfInBounds_toArray, List.set_cons_zero, List.set_cons_succ])
 go_cut [16] (fun v16 wc => ∃ (kq : Nat) (x16_3 : Bool), v16 = .bool x16_3 ∧ Aside0 (impl_calc_up.j0 kq a2 x16_3 s0_0 a1 = some (r1, r2)) ∧ Aside0 (kq ≤ k) ∧ Aside0 (wc.heap[gb284]? = some (.cells #[.bool a1.f0, .int .u32 a1.f1.f0, .int .u32 a1.f1.f1, .int .u32 a1.f1.f2, .int .u32 a1.f1.f3, .int .u32 a1.f1.f4, .int .u32 a1.f1.f5] 25 (0, 0))) ∧ Aside0 (wc.heap[gb285]? = some (.cells #[.bool false, .int .u32 0, .int .u32 0, .int .u32 0, .int .u32 0, .int .u32 0, .int .u32 0] 25 (0, 0))) ∧ Aside0 (IsS79 w0 wc g s0_0) ∧ Aside0 (KeepBut w wc g none) ∧ Aside0 (Below w0.heap.size w0 wc))
 case first =>
  have H := HC4.out
  clear HC4
  by_cases c7 : a2 > 191
  ·rw [if_pos c7] at H
   have c7b0 : decide (191 < a2) = true := decide_eq_true c7
   clear c7
   (first | rw [c7b0] | (simp only [i64_w, i32_w]; rw [c7b0]) | skip)
   have H' := aM95_ H
   clear H
   go_wp2
   go_meet
   case rel => exact ⟨_, (true), (by first | rfl | (simp; done) | (simp [*]; done)), H', ⟨by first | omega | exact Nat.le_refl _⟩, ⟨by (with_reducible repeat (first | refine blk_drewN ?_ _ | refine blk_drew ?_ | refine blk_alloc ?_ _)); exact BK284.out⟩, ⟨by (with_reducible repeat (first | refine blk_drewN ?_ _ | refine blk_drew ?_ | refine blk_alloc ?_ _)); exact BK285.out⟩, ⟨by repeat (first | (with_reducible first | exact HI0.out | apply IsS79.alloc | apply IsS79.drewN | apply IsS79.drew | apply IsS79.set_0 | refine IsS79.far ?_ NB0_284.out _ | refine IsS79.far ?_ NB0_285.out _) | exact HI0.out)⟩, ⟨by repeat (first | (with_reducible first | exact HK.out | apply KeepBut.set_ | apply keep_drewN | apply keep_drew | apply keep_alloc | refine keep_far ?_ GW284.out _ | refine keep_far ?_ GW285.out _) | exact HK.out)⟩, ⟨by repeat (first | (with_reducible first | exact HB.out | apply below_alloc | apply pw_below_drewN | apply below_drew1 | refine below_set ?_ (IsS79.ge HI0.out) | refine below_set ?_ GE284.out | refine below_set ?_ GE285.out) | exact HB.out)⟩⟩
  rw [if_neg c7] at H
  have c7b0 : decide (191 < a2) = false := decide_eq_false c7
  clear c7
  (first | rw [c7b0] | (simp only [i64_w, i32_w]; rw [c7b0]) | skip)
  replace H := Option.bind_eq_some_iff.mp H
  obtain ⟨t286, A80, H⟩ := H
  replace H : (impl_calc_up.j0 k a2 (decide ((wrap64 (t286 + a2)) > 192)) s0_0 a1) = some (r1, r2) := H
  have A8 := aM95_ A80
  clear A80
  have H' := aM95_ H
  clear H
  have hnb9 := NB284_285.out
  have hnc9 := NB285_284.out
  have hnb10 := NB284_0.out
  have hnc10 := NB0_284.out
  obtain ⟨hcz11_0, hcz11_1, hcz11_2, hcz11_3, hcz11_4, hcz11_5, hcz11_6⟩ := cells7_ (show w6.heap[gb284]? = some (.cells #[.bool a1.f0, .int .u32 a1.f1.f0, .int .u32 a1.f1.f1, .int .u32 a1.f1.f2, .int .u32 a1.f1.f3, .int .u32 a1.f1.f4, .int .u32 a1.f1.f5] 25 (0, 0)) from BK284.out)
  obtain ⟨hfz11_0, hfz11_1, hfz11_2, hfz11_3, hfz11_4, hfz11_5, hfz11_6⟩ := frozen7_ BK284.out
  go_wp2_with (first | (go_at_call 121; (with_reducible refine (impl_size_bits.calls k a1.f1 t286 _ A8.out).mono ?_); rintro e w12 ⟨rfl, hb⟩; have n0_ := aM95_ (IsS79.below q95x3_ hb); have n1_ := aM95_ (blk_below (g := gb284) (o := .cells #[.bool a1.f0, .int .u32 a1.f1.f0, .int .u32 a1.f1.f1, .int .u32 a1.f1.f2, .int .u32 a1.f1.f3, .int .u32 a1.f1.f4, .int .u32 a1.f1.f5] 25 (0, 0)) q95x1_ hb); have n2_ := aM95_ (blk_below (g := gb285) (o := .cells #[.bool false, .int .u32 0, .int .u32 0, .int .u32 0, .int .u32 0, .int .u32 0, .int .u32 0] 25 (0, 0)) q95x6_ hb); have n3_ := aM95_ (KeepBut.trans q95x4_ (KeepBut.of_below hb g none) (.inl rfl)); have n4_ := aM95_ (below_step q95x2_ hb); clear HI0 BK284 BK285 HK HB; have HI0 := n0_; have BK284 := n1_; have BK285 := n2_; have HK := n3_; have HB := n4_; clear n0_ n1_ n2_ n3_ n4_; (try clear hb); (try clear hb2); (try clear hk); (try clear hi)))
  go_meet
  case rel => exact ⟨_, (decide ((wrap64 (t286 + a2)) > 192)), (by first | rfl | (simp; done) | (simp [*]; done)), H', ⟨by first | omega | exact Nat.le_refl _⟩, ⟨by (with_reducible repeat (first | refine blk_drewN ?_ _ | refine blk_drew ?_ | refine blk_alloc ?_ _)); exact BK284.out⟩, ⟨by (with_reducible repeat (first | refine blk_drewN ?_ _ | refine blk_drew ?_ | refine blk_alloc ?_ _)); exact BK285.out⟩, ⟨by repeat (first | (with_reducible first | exact HI0.out | apply IsS79.alloc | apply IsS79.drewN | apply IsS79.drew | apply IsS79.set_0 | refine IsS79.far ?_ NB0_284.out _ | refine IsS79.far ?_ NB0_285.out _) | exact HI0.out)⟩, ⟨by repeat (first | (with_reducible first | exact HK.out | apply KeepBut.set_ | apply keep_drewN | apply keep_drew | apply keep_alloc | refine keep_far ?_ GW284.out _ | refine keep_far ?_ GW285.out _) | exact HK.out)⟩, ⟨by repeat (first | (with_reducible first | exact HB.out | apply below_alloc | apply pw_below_drewN | apply below_drew1 | refine below_set ?_ (IsS79.ge HI0.out) | refine below_set ?_ GE284.out | refine below_set ?_ GE285.out) | exact HB.out)⟩⟩
 case rest =>
  clear HC4
  try clear c1
  try clear p2
  try clear p6
  try clear c7
  try clear c7b0
  try clear c9
  try clear c10
  try clear hcz11_0 hcz11_1 hcz11_2 hcz11_3 hcz11_4 hcz11_5 hcz11_6
  try clear hfz11_0 hfz11_1 hfz11_2 hfz11_3 hfz11_4 hfz11_5 hfz11_6
  obtain ⟨kq, x16_3, rfl, HA, HJ3, BK284, BK285, HI0, HK, HB⟩ := hcut
  cases kq with
  | zero => exact absurd HA.out (by simp [impl_calc_up.j0])
  | succ kj3 =>
   have H := HA.out
   clear HA
   simp only [impl_calc_up.j0] at H
   by_cases c13 : x16_3 = true
   ·subst c13
    have H1 : (some ((⟨false, (⟨0, 0, 0, 0, 0, 0⟩ : S23)⟩ : S24), true)) = some (r1, r2) := by rw [if_pos rfl] at H; exact H
    clear H
    have H := H1
    clear H1
    simp only [Option.some.injEq, Prod.mk.injEq] at H
    obtain ⟨rfl, rfl⟩ := H
    obtain ⟨HGz14, hgz14⟩ := HI0.out
    have hcz14_0 := cellS79_0 HGz14
    have hfz14_0 := blk_frozen HGz14 0
    clear HGz14 hgz14
    have hnb15 := NB285_284.out
    have hnc15 := NB284_285.out
    have hnb16 := NB285_0.out
    have hnc16 := NB0_285.out
    obtain ⟨hcz17_0, hcz17_1, hcz17_2, hcz17_3, hcz17_4, hcz17_5, hcz17_6⟩ := cells7_ (show wc.heap[gb285]? = some (.cells #[.bool false, .int .u32 0, .int .u32 0, .int .u32 0, .int .u32 0, .int .u32 0, .int .u32 0] 25 (0, 0)) from BK285.out)
    obtain ⟨hfz17_0, hfz17_1, hfz17_2, hfz17_3, hfz17_4, hfz17_5, hfz17_6⟩ := frozen7_ BK285.out
    go_wp2
    refine bodyPost_ret (results_cell_row rfl _ _ gb285 25 #[.bool false, .int .u32 0, .int .u32 0, .int .u32 0, .int .u32 0, .int .u32 0, .int .u32 0] (0, 0) _ rfl (by (with_reducible repeat (first | refine blk_drewN ?_ _ | refine blk_drew ?_ | refine blk_alloc ?_ _)); refine puts7_ (.bool false) (.int .u32 0) (.int .u32 0) (.int .u32 0) (.int .u32 0) (.int .u32 0) (.int .u32 0) ?_; (with_reducible repeat (first | refine blk_drewN ?_ _ | refine blk_drew ?_ | refine blk_alloc ?_ _ | refine blk_far ?_ NB285_0.out _)); (with_reducible repeat (first | refine blk_drewN ?_ _ | refine blk_drew ?_ | refine blk_alloc ?_ _)); exact BK285.out) Try.underlying25 rfl (by kernel_rfl)) rfl ?_
    exact ⟨by first | rfl | (simp [errW_none, errW_some] <;> rfl) | (simp [*, errW_none, errW_some] <;> rfl), by repeat (first | (with_reducible first | exact HI0.out | apply IsS79.alloc | apply IsS79.drewN | apply IsS79.drew | apply IsS79.set_0 | refine IsS79.far ?_ NB0_284.out _ | refine IsS79.far ?_ NB0_285.out _) | exact HI0.out), by repeat (first | (with_reducible first | exact HB.out | apply below_alloc | apply pw_below_drewN | apply below_drew1 | refine below_set ?_ (IsS79.ge HI0.out) | refine below_set ?_ GE284.out | refine below_set ?_ GE285.out) | exact HB.out), by repeat (first | (with_reducible first | exact HK.out | apply KeepBut.set_ | apply keep_drewN | apply keep_drew | apply keep_alloc | refine keep_far ?_ GW284.out _ | refine keep_far ?_ GW285.out _) | exact HK.out)⟩
   replace c13 := Bool.eq_false_iff.mpr c13
   subst c13
   have H1 : ((impl_size_up.f a1.f1 a2).bind fun t287 => ((impl_wide.f a1.f0 t287).bind fun t288 => (some (t288, s0_0)))) = some (r1, r2) := by rw [if_neg (show ¬ (false = true) by decide)] at H; exact H
   clear H
   have H := H1
   clear H1
   replace H := Option.bind_eq_some_iff.mp H
   obtain ⟨t287, A180, H⟩ := H
   replace H : ((impl_wide.f a1.f0 t287).bind fun t288 => (some (t288, s0_0))) = some (r1, r2) := H
   have A18 := aM95_ A180
   clear A180
   replace H := Option.bind_eq_some_iff.mp H
   obtain ⟨t288, A190, H⟩ := H
   replace H : (some (t288, s0_0)) = some (r1, r2) := H
   have A19 := aM95_ A190
   clear A190
   simp only [Option.some.injEq, Prod.mk.injEq] at H
   obtain ⟨rfl, rfl⟩ := H
   try go_wp2
   have n0_ := aM95_ (blk_drew BK284.out)
   have n1_ := aM95_ (blk_drew BK285.out)
   have n2_ := aM95_ (IsS79.drew HI0.out)
   have n3_ := aM95_ (keep_drew HK.out)
   have n4_ := aM95_ (below_drew1 HB.out)
   clear BK284 BK285 HI0 HK HB
   have BK284 := n0_
   have BK285 := n1_
   have HI0 := n2_
   have HK := n3_
   have HB := n4_
   clear n0_ n1_ n2_ n3_ n4_
   refine start_ (n := 8) (S := fun w' => w'.cell? ⟨gb284, 0, none⟩ = some (.bool a1.f0) ∧ w'.cell? ⟨gb284, 1, none⟩ = some (.int .u32 a1.f1.f0) ∧ w'.cell? ⟨gb284, 2, none⟩ = some (.int .u32 a1.f1.f1) ∧ w'.cell? ⟨gb284, 3, none⟩ = some (.int .u32 a1.f1.f2) ∧ w'.cell? ⟨gb284, 4, none⟩ = some (.int .u32 a1.f1.f3) ∧ w'.cell? ⟨gb284, 5, none⟩ = some (.int .u32 a1.f1.f4) ∧ w'.cell? ⟨gb284, 6, none⟩ = some (.int .u32 a1.f1.f5)) (ds := []) #[false, false, false, false, false, false, false, false] (by kernel_rfl) rfl rfl ⟨(blk_cell BK284.out 0).trans rfl, (blk_cell BK284.out 1).trans rfl, (blk_cell BK284.out 2).trans rfl, (blk_cell BK284.out 3).trans rfl, (blk_cell BK284.out 4).trans rfl, (blk_cell BK284.out 5).trans rfl, (blk_cell BK284.out 6).trans rfl⟩ (fun hHeld => ?_); refine with_tabW impl_calc_up.tab4 impl_calc_up.bits4 (fun HT_ HW_ => ?_)
   generalize wc.drew = w20 at BK284 BK285 HI0 HK HB hHeld ⊢
   refine pure_ (i := 0) (N := some 21) (v := ?_) (a' := ?_) #[true, false, false, false, false, false, false, false] rfl rfl (any_of HT_.out (by kernel_rfl)) (fun _ _ _ h => h) (Or.inl ⟨by rfl, ?_⟩) ?_ ?_
   rotate_left
   ·intro w'
    go_simp
    with_reducible rfl
   rotate_left
   ·exact q95x9_
   refine pure_ (i := 2) (N := some 23) (v := ?_) (a' := ?_) #[true, false, true, false, false, false, false, false] rfl rfl (any_of HT_.out (by kernel_rfl)) (fun _ _ _ h => h) (Or.inl ⟨by rfl, ?_⟩) ?_ ?_
   rotate_left
   ·intro w'
    go_simp
    with_reducible rfl
   rotate_left
   ·exact q95x9_
   refine pure_ (i := 4) (N := some 25) (v := ?_) (a' := ?_) #[true, false, true, false, true, false, false, false] rfl rfl (any_of HT_.out (by kernel_rfl)) (fun _ _ _ h => h) (Or.inl ⟨by rfl, ?_⟩) ?_ ?_
   rotate_left
   ·intro w'
    go_simp
    with_reducible rfl
   rotate_left
   ·exact q95x9_
   refine take_ (i := 1) (N := some 22) (v := ?_) (a' := ?_) #[true, true, true, false, true, false, false, false] rfl rfl (take_ofW HT_.out HW_.out (by kernel_rfl)) (fun _ _ _ h => h) (Or.inl ⟨by rfl, ?_⟩) hHeld ?_ ?_
   rotate_left
   ·rintro w' ⟨s0, s1, s2, s3, s4, s5, s6⟩
    go_simp
    with_reducible rfl
   rotate_left
   ·exact q95x9_
   refine take_ (i := 3) (N := some 24) (v := ?_) (a' := ?_) #[true, true, true, true, true, false, false, false] rfl rfl (take_ofW HT_.out HW_.out (by kernel_rfl)) (fun _ _ _ h => h) (Or.inl ⟨by rfl, ?_⟩) hHeld ?_ ?_
   rotate_left
   ·rintro w' ⟨s0, s1, s2, s3, s4, s5, s6⟩
    go_simp
    with_reducible rfl
   rotate_left
   ·exact q95x9_
   refine one_ (i := 5) (N := some 26) #[true, true, true, true, true, true, false, false] rfl rfl (one_of HT_.out (by kernel_rfl)) (by decide) (fun K hK => ?_)
   refine goes_ Try.func101 (by kernel_rfl) rfl #[.agg #[.int .u32 a1.f1.f0, .int .u32 a1.f1.f1, .int .u32 a1.f1.f2, .int .u32 a1.f1.f3, .int .u32 a1.f1.f4, .int .u32 a1.f1.f5], .int .i64 a2] (by rfl) rfl rfl q95x8_ ?_
   with_reducible refine (impl_size_up.calls a1.f1 a2 t287 _ A18.out).mono ?_
   rintro e w21 ⟨rfl, hb⟩
   refine ⟨_, rfl, ?_⟩
   have n0_ := aM95_ (blk_below (g := gb284) (o := .cells #[.bool a1.f0, .int .u32 a1.f1.f0, .int .u32 a1.f1.f1, .int .u32 a1.f1.f2, .int .u32 a1.f1.f3, .int .u32 a1.f1.f4, .int .u32 a1.f1.f5] 25 (0, 0)) q95x1_ hb)
   have n1_ := aM95_ (blk_below (g := gb285) (o := .cells #[.bool false, .int .u32 0, .int .u32 0, .int .u32 0, .int .u32 0, .int .u32 0, .int .u32 0] 25 (0, 0)) q95x6_ hb)
   have n2_ := aM95_ (IsS79.below q95x3_ hb)
   have n3_ := aM95_ (KeepBut.trans q95x4_ (KeepBut.of_below hb g none) (.inl rfl))
   have n4_ := aM95_ (below_step q95x2_ hb)
   clear BK284 BK285 HI0 HK HB
   have BK284 := n0_
   have BK285 := n1_
   have HI0 := n2_
   have HK := n3_
   have HB := n4_
   clear n0_ n1_ n2_ n3_ n4_
   (try clear hb)
   (try clear hb2)
   (try clear hk)
   (try clear hi)
   refine hK.out _ _ ⟨(blk_cell BK284.out 0).trans rfl, (blk_cell BK284.out 1).trans rfl, (blk_cell BK284.out 2).trans rfl, (blk_cell BK284.out 3).trans rfl, (blk_cell BK284.out 4).trans rfl, (blk_cell BK284.out 5).trans rfl, (blk_cell BK284.out 6).trans rfl⟩ (fun hHeld => ?_)
   clear hK K
   refine norm_ (a' := ?_) ?_ ?_
   rotate_left
   ·show Act.put _ (some 26) _ = _
    simp only [Act.put, List.setIfInBounds_toArray, List.set_cons_zero, List.set_cons_succ, i64_w, i32_w]
    rfl
   refine one_ (i := 6) (N := some 27) #[true, true, true, true, true, true, true, false] rfl rfl (one_of HT_.out (by kernel_rfl)) (by decide) (fun K hK => ?_)
   refine goes_ Try.func116 (by kernel_rfl) rfl #[.bool a1.f0, .agg #[.int .u32 t287.f0, .int .u32 t287.f1, .int .u32 t287.f2, .int .u32 t287.f3, .int .u32 t287.f4, .int .u32 t287.f5]] (by rfl) rfl rfl q95x8_ ?_
   with_reducible refine (impl_wide.calls a1.f0 t287 t288 _ A19.out).mono ?_
   rintro e w22 ⟨rfl, hb⟩
   refine ⟨_, rfl, ?_⟩
   have n0_ := aM95_ (blk_below (g := gb284) (o := .cells #[.bool a1.f0, .int .u32 a1.f1.f0, .int .u32 a1.f1.f1, .int .u32 a1.f1.f2, .int .u32 a1.f1.f3, .int .u32 a1.f1.f4, .int .u32 a1.f1.f5] 25 (0, 0)) q95x1_ hb)
   have n1_ := aM95_ (blk_below (g := gb285) (o := .cells #[.bool false, .int .u32 0, .int .u32 0, .int .u32 0, .int .u32 0, .int .u32 0, .int .u32 0] 25 (0, 0)) q95x6_ hb)
   have n2_ := aM95_ (IsS79.below q95x3_ hb)
   have n3_ := aM95_ (KeepBut.trans q95x4_ (KeepBut.of_below hb g none) (.inl rfl))
   have n4_ := aM95_ (below_step q95x2_ hb)
   clear BK284 BK285 HI0 HK HB
   have BK284 := n0_
   have BK285 := n1_
   have HI0 := n2_
   have HK := n3_
   have HB := n4_
   clear n0_ n1_ n2_ n3_ n4_
   (try clear hb)
   (try clear hb2)
   (try clear hk)
   (try clear hi)
   refine hK.out _ _ ⟨(blk_cell BK284.out 0).trans rfl, (blk_cell BK284.out 1).trans rfl, (blk_cell BK284.out 2).trans rfl, (blk_cell BK284.out 3).trans rfl, (blk_cell BK284.out 4).trans rfl, (blk_cell BK284.out 5).trans rfl, (blk_cell BK284.out 6).trans rfl⟩ (fun hHeld => ?_)
   clear hK K
   refine norm_ (a' := ?_) ?_ ?_
   rotate_left
   ·show Act.put _ (some 27) _ = _
    simp only [Act.put, List.setIfInBounds_toArray, List.set_cons_zero, List.set_cons_succ, i64_w, i32_w]
    rfl
   refine one_store_ (i := 7) (w1 := (World.setCell (World.setCell (World.setCell (World.setCell (World.setCell (World.setCell (World.setCell w22 ⟨gb285, 0, none⟩ (.bool t288.f0)) ⟨gb285, 1, none⟩ (.int .u32 t288.f1.f0)) ⟨gb285, 2, none⟩ (.int .u32 t288.f1.f1)) ⟨gb285, 3, none⟩ (.int .u32 t288.f1.f2)) ⟨gb285, 4, none⟩ (.int .u32 t288.f1.f3)) ⟨gb285, 5, none⟩ (.int .u32 t288.f1.f4)) ⟨gb285, 6, none⟩ (.int .u32 t288.f1.f5))) #[true, true, true, true, true, true, true, true] rfl rfl (by kernel_rfl) (by decide) (by rfl) (run_put7_ rfl (show _ = Value.pointer (some ⟨gb285, 0, none⟩) from by rfl) (show _ = Value.agg #[.bool t288.f0, .int .u32 t288.f1.f0, .int .u32 t288.f1.f1, .int .u32 t288.f1.f2, .int .u32 t288.f1.f3, .int .u32 t288.f1.f4, .int .u32 t288.f1.f5] from by rfl) q95x6_ (by kernel_rfl) (by rfl)) ⟨((far7_ (g := gb285) NB284_285.out).trans (hHeld.1)), ((far7_ (g := gb285) NB284_285.out).trans (hHeld.2.1)), ((far7_ (g := gb285) NB284_285.out).trans (hHeld.2.2.1)), ((far7_ (g := gb285) NB284_285.out).trans (hHeld.2.2.2.1)), ((far7_ (g := gb285) NB284_285.out).trans (hHeld.2.2.2.2.1)), ((far7_ (g := gb285) NB284_285.out).trans (hHeld.2.2.2.2.2.1)), ((far7_ (g := gb285) NB284_285.out).trans (hHeld.2.2.2.2.2.2))⟩ (fun hHeld => ?_)
   refine done_ (done_of HT_.out (by kernel_rfl)) ?_
   try go_wp2
   refine bodyPost_ret (results_cell_row rfl _ _ gb285 25 #[.bool t288.f0, .int .u32 t288.f1.f0, .int .u32 t288.f1.f1, .int .u32 t288.f1.f2, .int .u32 t288.f1.f3, .int .u32 t288.f1.f4, .int .u32 t288.f1.f5] (0, 0) _ rfl (by (with_reducible repeat (first | refine blk_drewN ?_ _ | refine blk_drew ?_ | refine blk_alloc ?_ _)); refine puts7_ (.bool false) (.int .u32 0) (.int .u32 0) (.int .u32 0) (.int .u32 0) (.int .u32 0) (.int .u32 0) ?_; (with_reducible repeat (first | refine blk_drewN ?_ _ | refine blk_drew ?_ | refine blk_alloc ?_ _)); exact BK285.out) Try.underlying25 rfl (by kernel_rfl)) rfl ?_
   exact ⟨by first | rfl | (simp [errW_none, errW_some] <;> rfl) | (simp [*, errW_none, errW_some] <;> rfl), by repeat (first | (with_reducible first | exact HI0.out | apply IsS79.alloc | apply IsS79.drewN | apply IsS79.drew | apply IsS79.set_0 | refine IsS79.far ?_ NB0_284.out _ | refine IsS79.far ?_ NB0_285.out _) | exact HI0.out), by repeat (first | (with_reducible first | exact HB.out | apply below_alloc | apply pw_below_drewN | apply below_drew1 | refine below_set ?_ (IsS79.ge HI0.out) | refine below_set ?_ GE284.out | refine below_set ?_ GE285.out) | exact HB.out), by repeat (first | (with_reducible first | exact HK.out | apply KeepBut.set_ | apply keep_drewN | apply keep_drew | apply keep_alloc | refine keep_far ?_ GW284.out _ | refine keep_far ?_ GW285.out _) | exact HK.out)⟩

end Go.Proofs.Ytbomadebdekjjaa.MFnExactValueAt
