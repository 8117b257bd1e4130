/- Functions of the program as Lean functions, and the proof that the code comes to what they say. Written by a program of this session (myprint.py). -/
import Derived.Test.YtbomadebdekjjaaMFnExactSeriesTermsx0
import Derived.Test.YtbomadebdekjjaaMFnExactSeriesTermsx4
import Derived.Test.YtbomadebdekjjaaMFnExactSeriesTermsx5
namespace Go.Proofs.Ytbomadebdekjjaa.MFnExactSeriesTerms
open Go.RowKit Go.Proofs.Ytbomadebdekjjaa.MOpen Go.Proofs.YtbomadebdekjjaaW.PrintWords Go.Proofs.YtbomadebdekjjaaW.PrintLast Go.Proofs.YtbomadebdekjjaaW.PrintMore
attribute [local go_sem] max2_int min2_int max_two min_two max_three min_three max_four min_four   -- for this text's walks alone
set_option linter.unusedVariables false
set_option linter.unusedSimpArgs false

set_option linter.defProp false
def kA64_ := @blk_alloc
def kN64_ := @blk_drewN
def kD64_ := @blk_drew
def bS64_ := @below_set
def aM64_ := @Aside0.mk
def kB64_ := @blk_below
def bT64_ := @below_step
def kC64_ := @blk_cell
theorem q64x1_ {P : Prop} (h : P := by (with_reducible repeat (first | refine kN64_ ?_ _ | refine kD64_ ?_ | refine kA64_ ?_ _)); exact BK184.out) : P := h
theorem q64x2_ {P : Prop} (h : P := by (with_reducible repeat (first | refine kN64_ ?_ _ | refine kD64_ ?_ | refine kA64_ ?_ _)); exact BK180.out) : P := h
theorem q64x3_ {P : Prop} (h : P := by (with_reducible repeat (first | refine kN64_ ?_ _ | refine kD64_ ?_ | refine kA64_ ?_ _)); exact BK185.out) : P := h
theorem q64x4_ {P : Prop} (h : P := by repeat (first | (with_reducible first | exact HB.out | apply below_alloc | apply pw_below_drewN | apply below_drew1 | refine bS64_ ?_ GE180.out | refine bS64_ ?_ GE184.out | refine bS64_ ?_ GE185.out | refine bS64_ ?_ GE190.out | refine bS64_ ?_ GE191.out) | exact HB.out)) : P := h
theorem q64x5_ {P : Prop} (h : P := by repeat (first | (with_reducible first | exact HB.out | apply below_alloc | apply pw_below_drewN | apply below_drew1 | refine bS64_ ?_ GE180.out | refine bS64_ ?_ GE184.out | refine bS64_ ?_ GE185.out) | exact HB.out)) : P := h
theorem q64x6_ {P : Prop} (h : P := by (with_reducible repeat (first | refine kN64_ ?_ _ | refine kD64_ ?_ | refine kA64_ ?_ _)); exact BK190.out) : P := h
theorem q64x7_ {P : Prop} (h : P := by (with_reducible repeat (first | refine kN64_ ?_ _ | refine kD64_ ?_ | refine kA64_ ?_ _)); exact BK191.out) : P := h
theorem q64x8_ {P : Prop} (h : P := by (try simp only [List.map_toArray, List.map_cons, List.map_nil]); first | done | rfl | (simp only [List.length_drop, List.length_take]; rfl) | (simp only [List.drop_one]; done) | (simp only [List.drop_one]; rfl)) : P := h
theorem q64x9_ {P : Prop} (h : P := by first | (simp only [putAll, Act.put, List.setIfInBounds_toArray, List.set_cons_zero, List.set_cons_succ]; done) | (simp only [putAll, Act.put, List.setIfInBounds_toArray, List.set_cons_zero, List.set_cons_succ]; rfl)) : P := h
theorem q64x10_ {P : Prop} (h : P := by repeat (first | (with_reducible first | exact HB.out | apply below_alloc | apply pw_below_drewN | apply below_drew1 | refine bS64_ ?_ GE180.out | refine bS64_ ?_ GE184.out | refine bS64_ ?_ GE185.out | refine bS64_ ?_ GE190.out) | exact HB.out)) : P := h
theorem q64x11_ {P : Prop} (h : P := by repeat (first | (with_reducible first | exact HB.out | apply below_alloc | apply pw_below_drewN | apply below_drew1 | refine bS64_ ?_ GE180.out | refine bS64_ ?_ GE184.out | refine bS64_ ?_ GE185.out | refine bS64_ ?_ GE191.out) | exact HB.out)) : P := h
theorem q64x12_ {P : Prop} (h : P := by rw [hg]; exact Nat.ne_of_lt (blk_lt (g := gb184) (o := .cells #[.bool x185000_1.f0, .int .u32 x185000_1.f1.f0, .int .u32 x185000_1.f1.f1, .int .u32 x185000_1.f1.f2, .int .u32 x185000_1.f1.f3, .int .u32 x185000_1.f1.f4, .int .u32 x185000_1.f1.f5] 25 (0, 0)) q64x1_)) : P := h
theorem q64x13_ {P : Prop} (h : P := by rw [hg]; exact Nat.ne_of_gt (blk_lt (g := gb184) (o := .cells #[.bool x185000_1.f0, .int .u32 x185000_1.f1.f0, .int .u32 x185000_1.f1.f1, .int .u32 x185000_1.f1.f2, .int .u32 x185000_1.f1.f3, .int .u32 x185000_1.f1.f4, .int .u32 x185000_1.f1.f5] 25 (0, 0)) q64x1_)) : P := h
theorem q64x14_ {P : Prop} (h : P := by rw [hg]; exact Nat.ne_of_lt (blk_lt (g := gb185) (o := .cells #[.bool x186000_1.f0, .int .u32 x186000_1.f1.f0, .int .u32 x186000_1.f1.f1, .int .u32 x186000_1.f1.f2, .int .u32 x186000_1.f1.f3, .int .u32 x186000_1.f1.f4, .int .u32 x186000_1.f1.f5] 25 (0, 0)) q64x3_)) : P := h
theorem q64x15_ {P : Prop} (h : P := by rw [hg]; exact Nat.ne_of_gt (blk_lt (g := gb185) (o := .cells #[.bool x186000_1.f0, .int .u32 x186000_1.f1.f0, .int .u32 x186000_1.f1.f1, .int .u32 x186000_1.f1.f2, .int .u32 x186000_1.f1.f3, .int .u32 x186000_1.f1.f4, .int .u32 x186000_1.f1.f5] 25 (0, 0)) q64x3_)) : P := h
theorem q64x16_ {P : Prop} (h : P := by rw [hg]; exact Nat.ne_of_lt (blk_lt (g := gb180) (o := .cells #[.bool false, .int .u32 0, .int .u32 0, .int .u32 0, .int .u32 0, .int .u32 0, .int .u32 0] 25 (0, 0)) q64x2_)) : P := h
theorem q64x17_ {P : Prop} (h : P := by rw [hg]; exact Nat.ne_of_gt (blk_lt (g := gb180) (o := .cells #[.bool false, .int .u32 0, .int .u32 0, .int .u32 0, .int .u32 0, .int .u32 0, .int .u32 0] 25 (0, 0)) q64x2_)) : P := h
theorem q64x18_ {P : Prop} (h : P := by repeat (first | (with_reducible first | exact HB.out | apply below_alloc | apply pw_below_drewN | apply below_drew1 | refine bS64_ ?_ GE180.out | refine bS64_ ?_ GE184.out | refine bS64_ ?_ GE185.out | refine bS64_ ?_ GE190.out | refine bS64_ ?_ GE191.out | refine bS64_ ?_ GE198.out) | exact HB.out)) : P := h
theorem q64x19_ {P : Prop} (h : P := by (with_reducible repeat (first | refine kN64_ ?_ _ | refine kD64_ ?_ | refine kA64_ ?_ _)); exact BK198.out) : P := h
theorem q64x20_ {P : Prop} (h : P := by repeat (first | (with_reducible first | exact HB.out | apply below_alloc | apply pw_below_drewN | apply below_drew1 | refine bS64_ ?_ GE180.out) | exact HB.out)) : P := h
theorem q64x21_ {P : Prop} (h : P := by repeat (first | (with_reducible first | exact HB.out | apply below_alloc | apply pw_below_drewN | apply below_drew1 | refine bS64_ ?_ GE180.out | refine bS64_ ?_ GE184.out) | exact HB.out)) : P := h
theorem q64x22_ {P : Prop} (h : P := by repeat (first | (with_reducible first | exact HB.out | apply below_alloc | apply pw_below_drewN | apply below_drew1 | refine bS64_ ?_ GE180.out | refine bS64_ ?_ GE184.out | refine bS64_ ?_ GE185.out | refine bS64_ ?_ GE191.out | refine bS64_ ?_ GE190.out) | exact HB.out)) : P := h
theorem q64x23_ {P : Prop} (h : P := by rw [hg]; exact Nat.ne_of_lt (blk_lt (g := gb190) (o := .cells #[.bool x191000_50.f0, .int .u32 x191000_50.f1.f0, .int .u32 x191000_50.f1.f1, .int .u32 x191000_50.f1.f2, .int .u32 x191000_50.f1.f3, .int .u32 x191000_50.f1.f4, .int .u32 x191000_50.f1.f5] 25 (0, 0)) q64x6_)) : P := h
theorem q64x24_ {P : Prop} (h : P := by rw [hg]; exact Nat.ne_of_gt (blk_lt (g := gb190) (o := .cells #[.bool x191000_50.f0, .int .u32 x191000_50.f1.f0, .int .u32 x191000_50.f1.f1, .int .u32 x191000_50.f1.f2, .int .u32 x191000_50.f1.f3, .int .u32 x191000_50.f1.f4, .int .u32 x191000_50.f1.f5] 25 (0, 0)) q64x6_)) : P := h
theorem q64x25_ {P : Prop} (h : P := by rw [hg]; exact Nat.ne_of_lt (blk_lt (g := gb185) (o := .cells #[.bool t193.f0, .int .u32 t193.f1.f0, .int .u32 t193.f1.f1, .int .u32 t193.f1.f2, .int .u32 t193.f1.f3, .int .u32 t193.f1.f4, .int .u32 t193.f1.f5] 25 (0, 0)) q64x3_)) : P := h
theorem q64x26_ {P : Prop} (h : P := by rw [hg]; exact Nat.ne_of_gt (blk_lt (g := gb185) (o := .cells #[.bool t193.f0, .int .u32 t193.f1.f0, .int .u32 t193.f1.f1, .int .u32 t193.f1.f2, .int .u32 t193.f1.f3, .int .u32 t193.f1.f4, .int .u32 t193.f1.f5] 25 (0, 0)) q64x3_)) : P := h
theorem q64x27_ {P : Prop} (h : P := by rw [hg]; exact Nat.ne_of_lt (blk_lt (g := gb191) (o := .cells #[.bool t189.f0, .int .u32 t189.f1.f0, .int .u32 t189.f1.f1, .int .u32 t189.f1.f2, .int .u32 t189.f1.f3, .int .u32 t189.f1.f4, .int .u32 t189.f1.f5] 25 (0, 0)) q64x7_)) : P := h
theorem q64x28_ {P : Prop} (h : P := by rw [hg]; exact Nat.ne_of_gt (blk_lt (g := gb191) (o := .cells #[.bool t189.f0, .int .u32 t189.f1.f0, .int .u32 t189.f1.f1, .int .u32 t189.f1.f2, .int .u32 t189.f1.f3, .int .u32 t189.f1.f4, .int .u32 t189.f1.f5] 25 (0, 0)) q64x7_)) : P := h
theorem q64x29_ {P : Prop} (h : P := by rw [hg]; exact (below_size q64x5_)) : P := h
theorem q64x30_ {P : Prop} (h : P := by rw [hg]; exact Nat.ne_of_lt (blk_lt (g := gb190) (o := .cells #[.bool false, .int .u32 0, .int .u32 0, .int .u32 0, .int .u32 0, .int .u32 0, .int .u32 0] 25 (0, 0)) q64x6_)) : P := h
theorem q64x31_ {P : Prop} (h : P := by rw [hg]; exact Nat.ne_of_gt (blk_lt (g := gb190) (o := .cells #[.bool false, .int .u32 0, .int .u32 0, .int .u32 0, .int .u32 0, .int .u32 0, .int .u32 0] 25 (0, 0)) q64x6_)) : P := h
theorem q64x32_ {P : Prop} (h : P := by rw [hg]; exact Nat.ne_of_lt (blk_lt (g := gb191) (o := .cells #[.bool false, .int .u32 0, .int .u32 0, .int .u32 0, .int .u32 0, .int .u32 0, .int .u32 0] 25 (0, 0)) q64x7_)) : P := h
theorem q64x33_ {P : Prop} (h : P := by rw [hg]; exact Nat.ne_of_gt (blk_lt (g := gb191) (o := .cells #[.bool false, .int .u32 0, .int .u32 0, .int .u32 0, .int .u32 0, .int .u32 0, .int .u32 0] 25 (0, 0)) q64x7_)) : P := h
theorem q64x34_ {P : Prop} (h : P := by rw [hw]; exact (by (with_reducible repeat (first | refine kN64_ ?_ _ | refine kD64_ ?_ | refine kA64_ ?_ _ | refine blk_far ?_ NB180_185.out _)); (with_reducible repeat (first | refine kN64_ ?_ _ | refine kD64_ ?_ | refine kA64_ ?_ _)); exact BK180.out)) : P := h
theorem q64x35_ {P : Prop} (h : P := by rw [hw]; exact (by (with_reducible repeat (first | refine kN64_ ?_ _ | refine kD64_ ?_ | refine kA64_ ?_ _ | refine blk_far ?_ NB184_185.out _)); (with_reducible repeat (first | refine kN64_ ?_ _ | refine kD64_ ?_ | refine kA64_ ?_ _)); exact BK184.out)) : P := h
theorem q64x36_ {P : Prop} (h : P := by repeat (first | (with_reducible first | exact HB.out | apply below_alloc | apply pw_below_drewN | apply below_drew1) | exact HB.out)) : P := h
theorem q64x37_ {P : Prop} (h : P := by (with_reducible repeat (first | refine kN64_ ?_ _ | refine kD64_ ?_ | refine kA64_ ?_ _ | refine blk_far ?_ NB191_190.out _)); (with_reducible repeat (first | refine kN64_ ?_ _ | refine kD64_ ?_ | refine kA64_ ?_ _)); exact BK191.out) : P := h
theorem q64x38_ {P : Prop} (h : P := by simp only [putAll, Act.put, List.setIfInBounds_toArray, List.set_cons_zero, List.set_cons_succ]) : P := h
theorem q64x39_ {P : Prop} (h : P := by rw [hg]; exact (below_size q64x10_)) : P := h
theorem q64x40_ {P : Prop} (h : P := by rw [hg]; exact (below_size q64x11_)) : P := h
theorem q64x41_ {P : Prop} (h : P := by rw [hg]; exact (below_size q64x4_)) : P := h
theorem q64x42_ {P : Prop} (h : P := by intro w'; go_simp; with_reducible rfl) : P := h
theorem q64x43_ {P : Prop} (h : P := by simp only [Act.put, List.setIfInBounds_toArray, List.set_cons_zero, List.set_cons_succ, i64_w, i32_w]; rfl) : P := h
theorem q64x44_ {P : Prop} (h : P := by rintro w' ⟨s0, s1, s2, s3, s4, s5, s6, s7, s8, s9, s10, s11⟩; go_simp; with_reducible rfl) : P := h
theorem q64x45_ {P : Prop} (h : P := by simp only [putAll, Act.put, List.setIfInBounds_toArray, List.set_cons_zero, List.set_cons_succ]; rfl) : P := h
theorem q64x46_ {P : Prop} (h : P := by show Act.put _ (some 11) _ = _; simp only [Act.put, List.setIfInBounds_toArray, List.set_cons_zero, List.set_cons_succ, i64_w, i32_w]; rfl) : P := h
theorem q64x47_ {P : Prop} (h : P := by show Act.put _ (some 10) _ = _; simp only [Act.put, List.setIfInBounds_toArray, List.set_cons_zero, List.set_cons_succ, i64_w, i32_w]; rfl) : P := h
theorem q64x48_ {P : Prop} (h : P := by show Act.put _ (some 38) _ = _; simp only [Act.put, List.setIfInBounds_toArray, List.set_cons_zero, List.set_cons_succ, i64_w, i32_w]; rfl) : P := h
theorem q64x49_ {P : Prop} (h : P := by show Act.put _ (some 37) _ = _; simp only [Act.put, List.setIfInBounds_toArray, List.set_cons_zero, List.set_cons_succ, i64_w, i32_w]; rfl) : P := h
theorem q64x50_ {P : Prop} (h : P := by show Act.put _ (some 12) _ = _; simp only [Act.put, List.setIfInBounds_toArray, List.set_cons_zero, List.set_cons_succ, i64_w, i32_w]; rfl) : P := h
theorem q64x51_ {P : Prop} (h : P := by show Act.put _ (some 65) _ = _; simp only [Act.put, List.setIfInBounds_toArray, List.set_cons_zero, List.set_cons_succ, i64_w, i32_w]; rfl) : P := h
/-! ### spec_l05Sum: function 64 -/
mutual
def spec_l05Sum.l0 : Nat → Int → S40 → S24 → S24 → Option (S24 × Int)
 | 0, _, _, _, _ => none
 | k + 1, x9, x1000, x185000, x186000 => (spec_l01Sign.f x185000).bind fun t186 => (if t186 = 0 then (some (x186000, x9)) else ((spec_l01Of.f (wrap64 (x1000.f2 + (wrap64 (x1000.f3 * x9))))).bind fun t187 => ((spec_l01Div.f x185000 t187).bind fun bt188 => (if x1000.f4 = true then (spec_l05Sum.j1 k x9 ((Int.tmod x9 2) == 1) x1000 x185000 x186000 bt188.1) else (spec_l05Sum.j1 k x9 false x1000 x185000 x186000 bt188.1)))))
def spec_l05Sum.j1 : Nat → Int → Bool → S40 → S24 → S24 → S24 → Option (S24 × Int)
 | 0, _, _, _, _, _, _ => none
 | k + 1, x9, x49, x1000, x185000, x186000, x191000 => if x49 = true then ((spec_l01Neg.f x191000).bind fun t192 => (spec_l05Sum.j2 k x9 x1000 x185000 x186000 t192)) else (spec_l05Sum.j2 k x9 x1000 x185000 x186000 x191000)
def spec_l05Sum.j2 : Nat → Int → S40 → S24 → S24 → S24 → Option (S24 × Int)
 | 0, _, _, _, _, _ => none
 | k + 1, x9, x1000, x185000, x186000, x191000 => (spec_l01Add.f k x186000 x191000).bind fun bt193 => ((spec_l01Of.f x1000.f0).bind fun t195 => ((spec_l01Mul.f k x185000 t195).bind fun bt196 => ((spec_l01Of.f x1000.f1).bind fun t199 => ((spec_l01Div.f bt196.1 t199).bind fun bt200 => (spec_l05Sum.l0 k (wrap64 (x9 + 1)) x1000 bt200.1 bt193.1)))))
end
def spec_l05Sum.f (k : Nat) (a0 : S40) (a1 : Int) : Option (S24 × Int) := (spec_l01Of.f 1).bind fun t181 => ((spec_l01Up.f k t181 (wrap64 (a1 + 10))).bind fun bt182 => (spec_l05Sum.l0 k 0 a0 bt182.1 (⟨false, (⟨0, 0, 0, 0, 0, 0⟩ : S23)⟩ : S24)))
theorem spec_l05Sum.mono_l : ∀ k, (∀ y0 y1 y2 y3, LeO (spec_l05Sum.l0 k y0 y1 y2 y3) (spec_l05Sum.l0 (k + 1) y0 y1 y2 y3)) ∧ (∀ y0 y1 y2 y3 y4 y5, LeO (spec_l05Sum.j1 k y0 y1 y2 y3 y4 y5) (spec_l05Sum.j1 (k + 1) y0 y1 y2 y3 y4 y5)) ∧ (∀ y0 y1 y2 y3 y4, LeO (spec_l05Sum.j2 k y0 y1 y2 y3 y4) (spec_l05Sum.j2 (k + 1) y0 y1 y2 y3 y4))
 | 0 => ⟨fun _ _ _ _ r h => by simp [spec_l05Sum.l0] at h, fun _ _ _ _ _ _ r h => by simp [spec_l05Sum.j1] at h, fun _ _ _ _ _ r h => by simp [spec_l05Sum.j2] at h⟩
 | k + 1 => by
  obtain ⟨ih0, ih1, ih2⟩ := spec_l05Sum.mono_l k
  refine ⟨?_, ?_, ?_⟩
  ·intro y0 y1 y2 y3
   unfold spec_l05Sum.l0
   repeat' first
   | (with_reducible exact ih0 _ _ _ _)
   | (with_reducible exact ih1 _ _ _ _ _ _)
   | (with_reducible exact ih2 _ _ _ _ _)
   | (with_reducible exact spec_l01Add.mono _ _ _)
   | (with_reducible exact spec_l01Mul.mono _ _ _)
   | (with_reducible exact spec_l01Up.mono _ _ _)
   | (with_reducible exact LeO.refl _)
   | (with_reducible exact LeO.none _)
   | (with_reducible refine LeO.ite ?_ ?_)
   | (with_reducible refine LeO.bind ?_ (fun _ => ?_))
   | exact ih0 _ _ _ _
   | exact ih1 _ _ _ _ _ _
   | exact ih2 _ _ _ _ _
   | exact spec_l01Add.mono _ _ _
   | exact spec_l01Mul.mono _ _ _
   | exact spec_l01Up.mono _ _ _
   | exact LeO.none _
   | refine LeO.ite ?_ ?_
   | refine LeO.bind ?_ (fun _ => ?_)
  ·intro y0 y1 y2 y3 y4 y5
   unfold spec_l05Sum.j1
   repeat' first
   | (with_reducible exact ih0 _ _ _ _)
   | (with_reducible exact ih1 _ _ _ _ _ _)
   | (with_reducible exact ih2 _ _ _ _ _)
   | (with_reducible exact spec_l01Add.mono _ _ _)
   | (with_reducible exact spec_l01Mul.mono _ _ _)
   | (with_reducible exact spec_l01Up.mono _ _ _)
   | (with_reducible exact LeO.refl _)
   | (with_reducible exact LeO.none _)
   | (with_reducible refine LeO.ite ?_ ?_)
   | (with_reducible refine LeO.bind ?_ (fun _ => ?_))
   | exact ih0 _ _ _ _
   | exact ih1 _ _ _ _ _ _
   | exact ih2 _ _ _ _ _
   | exact spec_l01Add.mono _ _ _
   | exact spec_l01Mul.mono _ _ _
   | exact spec_l01Up.mono _ _ _
   | exact LeO.none _
   | refine LeO.ite ?_ ?_
   | refine LeO.bind ?_ (fun _ => ?_)
  intro y0 y1 y2 y3 y4
  unfold spec_l05Sum.j2
  repeat' first
  | (with_reducible exact ih0 _ _ _ _)
  | (with_reducible exact ih1 _ _ _ _ _ _)
  | (with_reducible exact ih2 _ _ _ _ _)
  | (with_reducible exact spec_l01Add.mono _ _ _)
  | (with_reducible exact spec_l01Mul.mono _ _ _)
  | (with_reducible exact spec_l01Up.mono _ _ _)
  | (with_reducible exact LeO.refl _)
  | (with_reducible exact LeO.none _)
  | (with_reducible refine LeO.ite ?_ ?_)
  | (with_reducible refine LeO.bind ?_ (fun _ => ?_))
  | exact ih0 _ _ _ _
  | exact ih1 _ _ _ _ _ _
  | exact ih2 _ _ _ _ _
  | exact spec_l01Add.mono _ _ _
  | exact spec_l01Mul.mono _ _ _
  | exact spec_l01Up.mono _ _ _
  | exact LeO.none _
  | refine LeO.ite ?_ ?_
  | refine LeO.bind ?_ (fun _ => ?_)
theorem spec_l05Sum.mono : ∀ a0 a1 k, LeO (spec_l05Sum.f k a0 a1) (spec_l05Sum.f (k + 1) a0 a1) := by
 intro a0 a1 k
 obtain ⟨ih0, ih1, ih2⟩ := spec_l05Sum.mono_l k
 unfold spec_l05Sum.f
 repeat' first
   | (with_reducible exact ih0 _ _ _ _)
   | (with_reducible exact ih1 _ _ _ _ _ _)
   | (with_reducible exact ih2 _ _ _ _ _)
   | (with_reducible exact spec_l01Add.mono _ _ _)
   | (with_reducible exact spec_l01Mul.mono _ _ _)
   | (with_reducible exact spec_l01Up.mono _ _ _)
   | (with_reducible exact LeO.refl _)
   | (with_reducible exact LeO.none _)
   | (with_reducible refine LeO.ite ?_ ?_)
   | (with_reducible refine LeO.bind ?_ (fun _ => ?_))
   | exact ih0 _ _ _ _
   | exact ih1 _ _ _ _ _ _
   | exact ih2 _ _ _ _ _
   | exact spec_l01Add.mono _ _ _
   | exact spec_l01Mul.mono _ _ _
   | exact spec_l01Up.mono _ _ _
   | exact LeO.none _
   | refine LeO.ite ?_ ?_
   | refine LeO.bind ?_ (fun _ => ?_)
def spec_l05Sum.T5 : Bool × List (List Nat × List Nat) := (true, [([], []), ([], []), ([1], [1]), ([2], [2]), ([3], [3]), ([], []), ([5], [5]), ([6], [6]), ([7], [7]), ([], []), ([8, 9], [8, 9]), ([4, 10], [4, 10]), ([11], [11]), ([0, 12, 12], [0, 12]), ([13], [13]), ([14], [14]), ([14], [14]), ([], []), ([], []), ([17, 15, 13, 0, 1, 2, 3, 4, 5, 6, 7, 8, 9, 10, 11, 12, 13, 14, 15, 17, 18], [15, 17]), ([18, 16, 19, 0, 1, 2, 3, 4, 5, 6, 7, 8, 9, 10, 11, 12, 13, 14, 15, 16, 17, 18, 19], [16, 18])])
def spec_l05Sum.B5 : List Nat := [0, 0, 2, 6, 14, 0, 32, 96, 224, 0, 992, 2046, 4094, 8191, 16383, 32767, 32767, 0, 0, 458751, 1048575]
theorem spec_l05Sum.tab5 : rtab .any (opsOf Try.f64 5) = spec_l05Sum.T5 := by kernel_rfl
theorem spec_l05Sum.bits5 : waitsOk spec_l05Sum.T5.2 spec_l05Sum.B5 = true := by kernel_rfl
def spec_l05Sum.T9 : Bool × List (List Nat × List Nat) := (true, [([], []), ([], []), ([1], [1]), ([2], [2]), ([3], [3]), ([4], [4]), ([0, 5, 5], [0, 5]), ([6], [6]), ([7], [7]), ([7], [7]), ([], []), ([10, 8, 6, 0, 1, 2, 3, 4, 5, 6, 7, 8, 10], [8, 10]), ([9, 11, 0, 1, 2, 3, 4, 5, 6, 7, 8, 9, 10, 11], [9])])
def spec_l05Sum.B9 : List Nat := [0, 0, 2, 6, 14, 30, 63, 127, 255, 255, 0, 1535, 4095]
theorem spec_l05Sum.tab9 : rtab .any (opsOf Try.f64 9) = spec_l05Sum.T9 := by kernel_rfl
theorem spec_l05Sum.bits9 : waitsOk spec_l05Sum.T9.2 spec_l05Sum.B9 = true := by kernel_rfl
def spec_l05Sum.T10 : Bool × List (List Nat × List Nat) := (true, [([], []), ([], []), ([1], [1]), ([2], [2]), ([3], [3]), ([4], [4]), ([0, 5, 5], [0, 5]), ([6], [6]), ([7], [7]), ([7], [7]), ([8, 6, 0, 1, 2, 3, 4, 5, 6, 7, 8], [8])])
def spec_l05Sum.B10 : List Nat := [0, 0, 2, 6, 14, 30, 63, 127, 255, 255, 511]
theorem spec_l05Sum.tab10 : rtab .any (opsOf Try.f64 10) = spec_l05Sum.T10 := by kernel_rfl
theorem spec_l05Sum.bits10 : waitsOk spec_l05Sum.T10.2 spec_l05Sum.B10 = true := by kernel_rfl
set_option maxHeartbeats 8000000 in
set_option maxRecDepth 100000 in
theorem spec_l05Sum.calls (k : Nat) (B0_ O0_ : Nat) (a0 : S40) (a1 : Int) (r1 : S24) (r2 : Int) (w : World) (hq0_ : w.cell? ⟨B0_, O0_, none⟩ = some (.int .i64 a0.f0) ∧ w.cell? ⟨B0_, O0_ + 1, none⟩ = some (.int .i64 a0.f1) ∧ w.cell? ⟨B0_, O0_ + 2, none⟩ = some (.int .i64 a0.f2) ∧ w.cell? ⟨B0_, O0_ + 3, none⟩ = some (.int .i64 a0.f3) ∧ w.cell? ⟨B0_, O0_ + 4, none⟩ = some (.bool a0.f4)) (h : spec_l05Sum.f k a0 a1 = some (r1, r2)) :
  Calls Try.prog 64 #[.pointer (some ⟨B0_, O0_, none⟩), .int .i64 a1] w fun e w' => e = .returned (.tuple #[.agg #[.bool r1.f0, .int .u32 r1.f1.f0, .int .u32 r1.f1.f1, .int .u32 r1.f1.f2, .int .u32 r1.f1.f3, .int .u32 r1.f1.f4, .int .u32 r1.f1.f5], .int .i64 r2]) ∧ Below w.heap.size w w' := by
  have hu25 := Try.underlying25
  have hu44 := Try.underlying44
  have HQ := Aside0.mk hq0_
  unfold spec_l05Sum.f at h
  obtain ⟨t1, m1, h⟩ := Option.bind_eq_some_iff.mp h
  obtain ⟨⟨t2, e2⟩, m2, h⟩ := Option.bind_eq_some_iff.mp h
  have M1 := Aside0.mk m1
  have M2 := Aside0.mk m2
  have H := Aside0.mk h
  clear hq0_ h m1 m2
  have HO := Aside0.mk (Wide.OB.start w)
  go_enter Try.func64, Try.ntmps64
  go_wp2_with (first | ((with_reducible refine gate_dst (N := 4) rfl ?_); refine box_event ?hg (N := 4) ?hd (cs := #[.bool false, .int .u32 0, .int .u32 0, .int .u32 0, .int .u32 0, .int .u32 0, .int .u32 0]) (t := 25) ?hr ?_; (case hd => rfl); (case hg => rfl); (case hr => first | (go_simp; done) | (go_simp; rfl)); intro g1 hg w1 hbox hb; replace HO := Aside0.mk (HO.out.box hg hbox hb); clear hg hbox hb) | (go_at_call 83; (with_reducible refine (spec_l01Of.calls 1 t1 _ M1.out).mono ?_); rintro e w2 ⟨rfl, hb⟩; replace HO := Aside0.mk (HO.out.below hb); clear hb) | (go_at_call 97; (with_reducible refine (spec_l01Up.calls k t1 _ t2 e2 _ M2.out).mono ?_); rintro e w3 ⟨rfl, hb⟩; replace HO := Aside0.mk (HO.out.below hb); clear hb) | ((with_reducible refine gate_dst (N := 6) rfl ?_); refine box_event ?hg (N := 6) ?hd (cs := #[.bool false, .int .u32 0, .int .u32 0, .int .u32 0, .int .u32 0, .int .u32 0, .int .u32 0]) (t := 25) ?hr ?_; (case hd => rfl); (case hg => rfl); (case hr => first | (go_simp; done) | (go_simp; rfl)); intro g2 hg w4 hbox hb; replace HO := Aside0.mk (HO.out.box hg hbox hb); clear hg hbox hb) | ((with_reducible refine gate_store (t := 25) (p := 6) rfl ?_); refine store_event (t := 25) (p := 6) (v := ?vo_1) (w1 := (World.setCell (World.setCell (World.setCell (World.setCell (World.setCell (World.setCell (World.setCell w4 ⟨g2, 0, none⟩ (.bool t2.f0)) ⟨g2, 1, none⟩ (.int .u32 t2.f1.f0)) ⟨g2, 2, none⟩ (.int .u32 t2.f1.f1)) ⟨g2, 3, none⟩ (.int .u32 t2.f1.f2)) ⟨g2, 4, none⟩ (.int .u32 t2.f1.f3)) ⟨g2, 5, none⟩ (.int .u32 t2.f1.f4)) ⟨g2, 6, none⟩ (.int .u32 t2.f1.f5))) ?hg ?ho ?hn ?hr ?_; (case ho => rfl); (case hg => rfl); (case hn => rfl); (case hr => (try simp only [Act.put, List.setIfInBounds_toArray, List.set_cons_zero, List.set_cons_succ]); exact run_put7_ rfl (show _ = Value.pointer (some ⟨g2, 0, none⟩) from by rfl) (show _ = Value.agg #[.bool t2.f0, .int .u32 t2.f1.f0, .int .u32 t2.f1.f1, .int .u32 t2.f1.f2, .int .u32 t2.f1.f3, .int .u32 t2.f1.f4, .int .u32 t2.f1.f5] from by rfl) (HO.out.at 0 rfl) (by kernel_rfl) (by rfl)); intro w5 hw; replace HO := Aside0.mk (HO.out.put7 0 rfl hw rfl); clear hw) | ((with_reducible refine gate_dst (N := 8) rfl ?_); refine box_event ?hg (N := 8) ?hd (cs := #[.bool false, .int .u32 0, .int .u32 0, .int .u32 0, .int .u32 0, .int .u32 0, .int .u32 0]) (t := 25) ?hr ?_; (case hd => rfl); (case hg => rfl); (case hr => first | (go_simp; done) | (go_simp; rfl)); intro g3 hg w6 hbox hb; replace HO := Aside0.mk (HO.out.box hg hbox hb); clear hg hbox hb) | ((with_reducible refine gate_store (t := 25) (p := 8) rfl ?_); refine store_event (t := 25) (p := 8) (v := ?vo_2) (w1 := (World.setCell (World.setCell (World.setCell (World.setCell (World.setCell (World.setCell (World.setCell w6 ⟨g3, 0, none⟩ (.bool false)) ⟨g3, 1, none⟩ (.int .u32 0)) ⟨g3, 2, none⟩ (.int .u32 0)) ⟨g3, 3, none⟩ (.int .u32 0)) ⟨g3, 4, none⟩ (.int .u32 0)) ⟨g3, 5, none⟩ (.int .u32 0)) ⟨g3, 6, none⟩ (.int .u32 0))) ?hg ?ho ?hn ?hr ?_; (case ho => rfl); (case hg => rfl); (case hn => rfl); (case hr => (try simp only [Act.put, List.setIfInBounds_toArray, List.set_cons_zero, List.set_cons_succ]); exact run_put7_ rfl (show _ = Value.pointer (some ⟨g3, 0, none⟩) from by rfl) (show _ = Value.agg #[.bool false, .int .u32 0, .int .u32 0, .int .u32 0, .int .u32 0, .int .u32 0, .int .u32 0] from by rfl) (HO.out.at 0 rfl) (by kernel_rfl) (by rfl)); intro w7 hw; replace HO := Aside0.mk (HO.out.put7 0 rfl hw rfl); clear hw))
  go_loopg [9] k (fun kq v9 w' => ∃ (c : Int) (u sm : S24), v9 = .int .i64 c ∧ Aside0 (spec_l05Sum.l0 kq c a0 u sm = some (r1, r2)) ∧ Aside0 (kq ≤ k) ∧ Aside0 (Wide.OB w.heap.size w w' [(g3, #[.bool sm.f0, .int .u32 sm.f1.f0, .int .u32 sm.f1.f1, .int .u32 sm.f1.f2, .int .u32 sm.f1.f3, .int .u32 sm.f1.f4, .int .u32 sm.f1.f5], 25), (g2, #[.bool u.f0, .int .u32 u.f1.f0, .int .u32 u.f1.f1, .int .u32 u.f1.f2, .int .u32 u.f1.f3, .int .u32 u.f1.f4, .int .u32 u.f1.f5], 25), (g1, #[.bool false, .int .u32 0, .int .u32 0, .int .u32 0, .int .u32 0, .int .u32 0, .int .u32 0], 25)]))
  case atStart => exact ⟨_, _, _, rfl, H, ⟨Nat.le_refl _⟩, HO⟩
  case round =>
    clear HO H M1 M2
    obtain ⟨c, u, sm, rfl, H, HK, HO⟩ := hrel
    cases gk with
    | zero => exact absurd H.out (by simp [spec_l05Sum.l0])
    | succ k2 =>
    have h := H.out
    clear H
    rw [spec_l05Sum.l0] at h
    obtain ⟨t1, m1, h⟩ := Option.bind_eq_some_iff.mp h
    have M1 := Aside0.mk m1
    clear m1
    by_cases z1 : t1 = 0
    · rw [if_pos z1] at h
      obtain ⟨rfl, rfl⟩ := Prod.mk.inj (Option.some.inj h)
      have x1 : (t1 == 0) = true := by rw [z1]; rfl
      have y1 : (t1 = 0) = True := eq_true z1
      obtain ⟨hm0, hm1, hm2, hm3, hm4, hm5, hm6⟩ := cells7_ (HO.out.at 0 rfl)
      go_wp2_with (first | (go_at_call 98; (with_reducible refine (spec_l01Sign.calls g2 0 u t1 _ (cells7_ (HO.out.at 1 rfl)) M1.out).mono ?_); rintro e ws ⟨rfl, ⟨nd, rfl⟩⟩; replace HO := Aside0.mk (HO.out.drewN nd)) | ((with_reducible refine gate_store (t := 25) (p := 4) rfl ?_); refine store_event (t := 25) (p := 4) (v := ?vo_3) (w1 := (World.setCell (World.setCell (World.setCell (World.setCell (World.setCell (World.setCell (World.setCell (wr.drewN nd) ⟨g1, 0, none⟩ (.bool sm.f0)) ⟨g1, 1, none⟩ (.int .u32 sm.f1.f0)) ⟨g1, 2, none⟩ (.int .u32 sm.f1.f1)) ⟨g1, 3, none⟩ (.int .u32 sm.f1.f2)) ⟨g1, 4, none⟩ (.int .u32 sm.f1.f3)) ⟨g1, 5, none⟩ (.int .u32 sm.f1.f4)) ⟨g1, 6, none⟩ (.int .u32 sm.f1.f5))) ?hg ?ho ?hn ?hr ?_; (case ho => rfl); (case hg => rfl); (case hn => rfl); (case hr => (try simp only [Act.put, List.setIfInBounds_toArray, List.set_cons_zero, List.set_cons_succ]); exact run_put7_ rfl (show _ = Value.pointer (some ⟨g1, 0, none⟩) from by rfl) (show _ = Value.agg #[.bool sm.f0, .int .u32 sm.f1.f0, .int .u32 sm.f1.f1, .int .u32 sm.f1.f2, .int .u32 sm.f1.f3, .int .u32 sm.f1.f4, .int .u32 sm.f1.f5] from by rfl) (HO.out.at 2 rfl) (by kernel_rfl) (by rfl)); intro w9 hw; replace HO := Aside0.mk (HO.out.put7 2 rfl hw rfl); clear hw))
      refine bodyPost_ret (results_ct rfl _ _ g1 25 #[.bool sm.f0, .int .u32 sm.f1.f0, .int .u32 sm.f1.f1, .int .u32 sm.f1.f2, .int .u32 sm.f1.f3, .int .u32 sm.f1.f4, .int .u32 sm.f1.f5] (0, 0) _ rfl (HO.out.at 2 rfl) Try.underlying25 rfl (by kernel_rfl)) rfl ?_
      exact ⟨rfl, HO.out.bel⟩
    rw [if_neg z1] at h
    have x1 : (t1 == 0) = false := by simpa using z1
    have y1 : (t1 = 0) = False := eq_false z1
    obtain ⟨t2, m2, h⟩ := Option.bind_eq_some_iff.mp h
    obtain ⟨⟨t3, t4⟩, m3, h⟩ := Option.bind_eq_some_iff.mp h
    have M2 := Aside0.mk m2
    have M3 := Aside0.mk m3
    replace h : (if a0.f4 = true then spec_l05Sum.j1 k2 c ((Int.tmod c 2) == 1) a0 u sm t3 else spec_l05Sum.j1 k2 c false a0 u sm t3) = some (r1, r2) := h
    clear m2 m3
    go_wp2_with (first | (go_at_call 98; (with_reducible refine (spec_l01Sign.calls g2 0 u t1 _ (cells7_ (HO.out.at 1 rfl)) M1.out).mono ?_); rintro e ws ⟨rfl, ⟨nd, rfl⟩⟩; replace HO := Aside0.mk (HO.out.drewN nd)))
    replace HO := Aside0.mk HO.out.drew
    refine start_ (n := 21) (S := fun w' => w'.cell? ⟨g2, 0, none⟩ = some (.bool u.f0) ∧ w'.cell? ⟨g2, 1, none⟩ = some (.int .u32 u.f1.f0) ∧ w'.cell? ⟨g2, 2, none⟩ = some (.int .u32 u.f1.f1) ∧ w'.cell? ⟨g2, 3, none⟩ = some (.int .u32 u.f1.f2) ∧ w'.cell? ⟨g2, 4, none⟩ = some (.int .u32 u.f1.f3) ∧ w'.cell? ⟨g2, 5, none⟩ = some (.int .u32 u.f1.f4) ∧ w'.cell? ⟨g2, 6, none⟩ = some (.int .u32 u.f1.f5) ∧ w'.cell? ⟨B0_, O0_, none⟩ = some (.int .i64 a0.f0) ∧ w'.cell? ⟨B0_, O0_ + 1, none⟩ = some (.int .i64 a0.f1) ∧ w'.cell? ⟨B0_, O0_ + 2, none⟩ = some (.int .i64 a0.f2) ∧ w'.cell? ⟨B0_, O0_ + 3, none⟩ = some (.int .i64 a0.f3) ∧ w'.cell? ⟨B0_, O0_ + 4, none⟩ = some (.bool a0.f4)) (ds := [20]) #[false, false, false, false, false, false, false, false, false, false, false, false, false, false, false, false, false, false, false, false, false] (by kernel_rfl) rfl rfl ⟨HO.out.cell 1 rfl 0 rfl, HO.out.cell 1 rfl 1 rfl, HO.out.cell 1 rfl 2 rfl, HO.out.cell 1 rfl 3 rfl, HO.out.cell 1 rfl 4 rfl, HO.out.cell 1 rfl 5 rfl, HO.out.cell 1 rfl 6 rfl, (HO.out.bel.cell (World.block_lt_of_cell? w _ (HQ.out.1))).trans (HQ.out.1), (HO.out.bel.cell (World.block_lt_of_cell? w _ (HQ.out.2.1))).trans (HQ.out.2.1), (HO.out.bel.cell (World.block_lt_of_cell? w _ (HQ.out.2.2.1))).trans (HQ.out.2.2.1), (HO.out.bel.cell (World.block_lt_of_cell? w _ (HQ.out.2.2.2.1))).trans (HQ.out.2.2.2.1), (HO.out.bel.cell (World.block_lt_of_cell? w _ (HQ.out.2.2.2.2))).trans (HQ.out.2.2.2.2)⟩ (fun hHeld => ?_)
    refine pure_ (i := 1) (N := some 26) (v := ?_) (a' := ?_) #[false, true, false, false, false, false, false, false, false, false, false, false, false, false, false, false, false, false, false, false, false] rfl rfl (by kernel_rfl) (fun _ _ _ h => h) (Or.inl ⟨by rfl, ?_⟩) ?_ ?_
    rotate_left
    · intro w'
      go_simp
      with_reducible rfl
    rotate_left
    · simp only [Act.put, List.setIfInBounds_toArray, List.set_cons_zero, List.set_cons_succ, i64_w, i32_w]
      rfl
    refine pure_ (i := 2) (N := some 27) (v := ?_) (a' := ?_) #[false, true, true, false, false, false, false, false, false, false, false, false, false, false, false, false, false, false, false, false, false] rfl rfl (by kernel_rfl) (fun _ _ _ h => h) (Or.inl ⟨by rfl, ?_⟩) ?_ ?_
    rotate_left
    · intro w'
      go_simp
      with_reducible rfl
    rotate_left
    · simp only [Act.put, List.setIfInBounds_toArray, List.set_cons_zero, List.set_cons_succ, i64_w, i32_w]
      rfl
    refine pure_ (i := 3) (N := some 28) (v := ?_) (a' := ?_) #[false, true, true, true, false, false, false, false, false, false, false, false, false, false, false, false, false, false, false, false, false] rfl rfl (by kernel_rfl) (fun _ _ _ h => h) (Or.inl ⟨by rfl, ?_⟩) ?_ ?_
    rotate_left
    · intro w'
      go_simp
      with_reducible rfl
    rotate_left
    · simp only [Act.put, List.setIfInBounds_toArray, List.set_cons_zero, List.set_cons_succ, i64_w, i32_w]
      rfl
    refine pure_ (i := 5) (N := some 30) (v := ?_) (a' := ?_) #[false, true, true, true, false, true, false, false, false, false, false, false, false, false, false, false, false, false, false, false, false] rfl rfl (by kernel_rfl) (fun _ _ _ h => h) (Or.inl ⟨by rfl, ?_⟩) ?_ ?_
    rotate_left
    · intro w'
      go_simp
      with_reducible rfl
    rotate_left
    · simp only [Act.put, List.setIfInBounds_toArray, List.set_cons_zero, List.set_cons_succ, i64_w, i32_w]
      rfl
    refine pure_ (i := 6) (N := some 31) (v := ?_) (a' := ?_) #[false, true, true, true, false, true, true, false, false, false, false, false, false, false, false, false, false, false, false, false, false] rfl rfl (by kernel_rfl) (fun _ _ _ h => h) (Or.inl ⟨by rfl, ?_⟩) ?_ ?_
    rotate_left
    · intro w'
      go_simp
      with_reducible rfl
    rotate_left
    · simp only [Act.put, List.setIfInBounds_toArray, List.set_cons_zero, List.set_cons_succ, i64_w, i32_w]
      rfl
    refine pure_ (i := 7) (N := some 32) (v := ?_) (a' := ?_) #[false, true, true, true, false, true, true, true, false, false, false, false, false, false, false, false, false, false, false, false, false] rfl rfl (by kernel_rfl) (fun _ _ _ h => h) (Or.inl ⟨by rfl, ?_⟩) ?_ ?_
    rotate_left
    · intro w'
      go_simp
      with_reducible rfl
    rotate_left
    · simp only [Act.put, List.setIfInBounds_toArray, List.set_cons_zero, List.set_cons_succ, i64_w, i32_w]
      rfl
    refine pure_ (i := 9) (N := some 34) (v := ?_) (a' := ?_) #[false, true, true, true, false, true, true, true, false, true, false, false, false, false, false, false, false, false, false, false, false] rfl rfl (by kernel_rfl) (fun _ _ _ h => h) (Or.inl ⟨by rfl, ?_⟩) ?_ ?_
    rotate_left
    · intro w'
      go_simp
      with_reducible rfl
    rotate_left
    · simp only [Act.put, List.setIfInBounds_toArray, List.set_cons_zero, List.set_cons_succ, i64_w, i32_w]
      rfl
    refine take_ (i := 0) (N := some 25) (v := ?_) (a' := ?_) #[true, true, true, true, false, true, true, true, false, true, false, false, false, false, false, false, false, false, false, false, false] rfl rfl (by kernel_rfl) (fun _ _ _ h => h) (Or.inl ⟨by rfl, ?_⟩) hHeld ?_ ?_
    rotate_left
    · rintro w' ⟨s0, s1, s2, s3, s4, s5, s6, s7, s8, s9, s10, s11⟩
      go_simp
      with_reducible rfl
    rotate_left
    · simp only [Act.put, List.setIfInBounds_toArray, List.set_cons_zero, List.set_cons_succ, i64_w, i32_w]
      rfl
    refine take_ (i := 4) (N := some 29) (v := ?_) (a' := ?_) #[true, true, true, true, true, true, true, true, false, true, false, false, false, false, false, false, false, false, false, false, false] rfl rfl (by kernel_rfl) (fun _ _ _ h => h) (Or.inl ⟨by rfl, ?_⟩) hHeld ?_ ?_
    rotate_left
    · rintro w' ⟨s0, s1, s2, s3, s4, s5, s6, s7, s8, s9, s10, s11⟩
      go_simp
      with_reducible rfl
    rotate_left
    · simp only [Act.put, List.setIfInBounds_toArray, List.set_cons_zero, List.set_cons_succ, i64_w, i32_w]
      rfl
    refine take_ (i := 8) (N := some 33) (v := ?_) (a' := ?_) #[true, true, true, true, true, true, true, true, true, true, false, false, false, false, false, false, false, false, false, false, false] rfl rfl (by kernel_rfl) (fun _ _ _ h => h) (Or.inl ⟨by rfl, ?_⟩) hHeld ?_ ?_
    rotate_left
    · rintro w' ⟨s0, s1, s2, s3, s4, s5, s6, s7, s8, s9, s10, s11⟩
      go_simp
      with_reducible rfl
    rotate_left
    · simp only [Act.put, List.setIfInBounds_toArray, List.set_cons_zero, List.set_cons_succ, i64_w, i32_w]
      rfl
    refine pure_ (i := 10) (N := some 35) (v := ?_) (a' := ?_) #[true, true, true, true, true, true, true, true, true, true, true, false, false, false, false, false, false, false, false, false, false] rfl rfl (by kernel_rfl) (fun _ _ _ h => h) (Or.inl ⟨by rfl, ?_⟩) ?_ ?_
    rotate_left
    · intro w'
      go_simp
      with_reducible rfl
    rotate_left
    · simp only [Act.put, List.setIfInBounds_toArray, List.set_cons_zero, List.set_cons_succ, i64_w, i32_w]
      rfl
    refine pure_ (i := 11) (N := some 36) (v := ?_) (a' := ?_) #[true, true, true, true, true, true, true, true, true, true, true, true, false, false, false, false, false, false, false, false, false] rfl rfl (by kernel_rfl) (fun _ _ _ h => h) (Or.inl ⟨by rfl, ?_⟩) ?_ ?_
    rotate_left
    · intro w'
      go_simp
      with_reducible rfl
    rotate_left
    · simp only [Act.put, List.setIfInBounds_toArray, List.set_cons_zero, List.set_cons_succ, i64_w, i32_w]
      rfl
    refine join_ (σ := Nat × Nat) 2 #[true, true, true, true, true, true, true, true, true, true, true, true, true, true, true, true, true, true, true, false, false] (fun s_ => [(37, .agg #[.bool t2.f0, .int .u32 t2.f1.f0, .int .u32 t2.f1.f1, .int .u32 t2.f1.f2, .int .u32 t2.f1.f3, .int .u32 t2.f1.f4, .int .u32 t2.f1.f5]), (38, .tuple #[.agg #[.bool t3.f0, .int .u32 t3.f1.f0, .int .u32 t3.f1.f1, .int .u32 t3.f1.f2, .int .u32 t3.f1.f3, .int .u32 t3.f1.f4, .int .u32 t3.f1.f5], .agg #[.bool t4.f0, .int .u32 t4.f1.f0, .int .u32 t4.f1.f1, .int .u32 t4.f1.f2, .int .u32 t4.f1.f3, .int .u32 t4.f1.f4, .int .u32 t4.f1.f5]]), (24, .tuple #[.agg #[.bool t3.f0, .int .u32 t3.f1.f0, .int .u32 t3.f1.f1, .int .u32 t3.f1.f2, .int .u32 t3.f1.f3, .int .u32 t3.f1.f4, .int .u32 t3.f1.f5], .agg #[.bool t4.f0, .int .u32 t4.f1.f0, .int .u32 t4.f1.f1, .int .u32 t4.f1.f2, .int .u32 t4.f1.f3, .int .u32 t4.f1.f4, .int .u32 t4.f1.f5]]), (39, .agg #[.bool t3.f0, .int .u32 t3.f1.f0, .int .u32 t3.f1.f1, .int .u32 t3.f1.f2, .int .u32 t3.f1.f3, .int .u32 t3.f1.f4, .int .u32 t3.f1.f5]), (40, .agg #[.bool t4.f0, .int .u32 t4.f1.f0, .int .u32 t4.f1.f1, .int .u32 t4.f1.f2, .int .u32 t4.f1.f3, .int .u32 t4.f1.f4, .int .u32 t4.f1.f5]), (10, Value.pointer (some ⟨s_.1, 0, none⟩)), (11, Value.pointer (some ⟨s_.2, 0, none⟩))]) (fun s_ w' => (w'.cell? ⟨g2, 0, none⟩ = some (.bool u.f0) ∧ w'.cell? ⟨g2, 1, none⟩ = some (.int .u32 u.f1.f0) ∧ w'.cell? ⟨g2, 2, none⟩ = some (.int .u32 u.f1.f1) ∧ w'.cell? ⟨g2, 3, none⟩ = some (.int .u32 u.f1.f2) ∧ w'.cell? ⟨g2, 4, none⟩ = some (.int .u32 u.f1.f3) ∧ w'.cell? ⟨g2, 5, none⟩ = some (.int .u32 u.f1.f4) ∧ w'.cell? ⟨g2, 6, none⟩ = some (.int .u32 u.f1.f5) ∧ w'.cell? ⟨B0_, O0_, none⟩ = some (.int .i64 a0.f0) ∧ w'.cell? ⟨B0_, O0_ + 1, none⟩ = some (.int .i64 a0.f1) ∧ w'.cell? ⟨B0_, O0_ + 2, none⟩ = some (.int .i64 a0.f2) ∧ w'.cell? ⟨B0_, O0_ + 3, none⟩ = some (.int .i64 a0.f3) ∧ w'.cell? ⟨B0_, O0_ + 4, none⟩ = some (.bool a0.f4)) ∧ Wide.OB w.heap.size w w' [(s_.2, #[.bool false, .int .u32 0, .int .u32 0, .int .u32 0, .int .u32 0, .int .u32 0, .int .u32 0], 25), (s_.1, #[.bool false, .int .u32 0, .int .u32 0, .int .u32 0, .int .u32 0, .int .u32 0, .int .u32 0], 25), (g3, #[.bool sm.f0, .int .u32 sm.f1.f0, .int .u32 sm.f1.f1, .int .u32 sm.f1.f2, .int .u32 sm.f1.f3, .int .u32 sm.f1.f4, .int .u32 sm.f1.f5], 25), (g2, #[.bool u.f0, .int .u32 u.f1.f0, .int .u32 u.f1.f1, .int .u32 u.f1.f2, .int .u32 u.f1.f3, .int .u32 u.f1.f4, .int .u32 u.f1.f5], 25), (g1, #[.bool false, .int .u32 0, .int .u32 0, .int .u32 0, .int .u32 0, .int .u32 0, .int .u32 0], 25)]) ?_ ?_
    rotate_left
    · intro hJ12_13_17_18
      refine join_ (σ := Nat) 3 #[true, true, true, true, true, true, true, true, true, true, true, true, true, true, true, true, true, true, false, false, false] (fun s_ => [(37, .agg #[.bool t2.f0, .int .u32 t2.f1.f0, .int .u32 t2.f1.f1, .int .u32 t2.f1.f2, .int .u32 t2.f1.f3, .int .u32 t2.f1.f4, .int .u32 t2.f1.f5]), (38, .tuple #[.agg #[.bool t3.f0, .int .u32 t3.f1.f0, .int .u32 t3.f1.f1, .int .u32 t3.f1.f2, .int .u32 t3.f1.f3, .int .u32 t3.f1.f4, .int .u32 t3.f1.f5], .agg #[.bool t4.f0, .int .u32 t4.f1.f0, .int .u32 t4.f1.f1, .int .u32 t4.f1.f2, .int .u32 t4.f1.f3, .int .u32 t4.f1.f4, .int .u32 t4.f1.f5]]), (24, .tuple #[.agg #[.bool t3.f0, .int .u32 t3.f1.f0, .int .u32 t3.f1.f1, .int .u32 t3.f1.f2, .int .u32 t3.f1.f3, .int .u32 t3.f1.f4, .int .u32 t3.f1.f5], .agg #[.bool t4.f0, .int .u32 t4.f1.f0, .int .u32 t4.f1.f1, .int .u32 t4.f1.f2, .int .u32 t4.f1.f3, .int .u32 t4.f1.f4, .int .u32 t4.f1.f5]]), (39, .agg #[.bool t3.f0, .int .u32 t3.f1.f0, .int .u32 t3.f1.f1, .int .u32 t3.f1.f2, .int .u32 t3.f1.f3, .int .u32 t3.f1.f4, .int .u32 t3.f1.f5]), (40, .agg #[.bool t4.f0, .int .u32 t4.f1.f0, .int .u32 t4.f1.f1, .int .u32 t4.f1.f2, .int .u32 t4.f1.f3, .int .u32 t4.f1.f4, .int .u32 t4.f1.f5]), (10, Value.pointer (some ⟨s_, 0, none⟩))]) (fun s_ w' => (w'.cell? ⟨g2, 0, none⟩ = some (.bool u.f0) ∧ w'.cell? ⟨g2, 1, none⟩ = some (.int .u32 u.f1.f0) ∧ w'.cell? ⟨g2, 2, none⟩ = some (.int .u32 u.f1.f1) ∧ w'.cell? ⟨g2, 3, none⟩ = some (.int .u32 u.f1.f2) ∧ w'.cell? ⟨g2, 4, none⟩ = some (.int .u32 u.f1.f3) ∧ w'.cell? ⟨g2, 5, none⟩ = some (.int .u32 u.f1.f4) ∧ w'.cell? ⟨g2, 6, none⟩ = some (.int .u32 u.f1.f5) ∧ w'.cell? ⟨B0_, O0_, none⟩ = some (.int .i64 a0.f0) ∧ w'.cell? ⟨B0_, O0_ + 1, none⟩ = some (.int .i64 a0.f1) ∧ w'.cell? ⟨B0_, O0_ + 2, none⟩ = some (.int .i64 a0.f2) ∧ w'.cell? ⟨B0_, O0_ + 3, none⟩ = some (.int .i64 a0.f3) ∧ w'.cell? ⟨B0_, O0_ + 4, none⟩ = some (.bool a0.f4)) ∧ Wide.OB w.heap.size w w' [(s_, #[.bool false, .int .u32 0, .int .u32 0, .int .u32 0, .int .u32 0, .int .u32 0, .int .u32 0], 25), (g3, #[.bool sm.f0, .int .u32 sm.f1.f0, .int .u32 sm.f1.f1, .int .u32 sm.f1.f2, .int .u32 sm.f1.f3, .int .u32 sm.f1.f4, .int .u32 sm.f1.f5], 25), (g2, #[.bool u.f0, .int .u32 u.f1.f0, .int .u32 u.f1.f1, .int .u32 u.f1.f2, .int .u32 u.f1.f3, .int .u32 u.f1.f4, .int .u32 u.f1.f5], 25), (g1, #[.bool false, .int .u32 0, .int .u32 0, .int .u32 0, .int .u32 0, .int .u32 0, .int .u32 0], 25)]) ?_ ?_
      rotate_left
      · intro hJ12_13_17
        refine join_ (σ := Nat) 3 #[true, true, true, true, true, true, true, true, true, true, true, true, true, true, true, true, true, false, true, false, false] (fun s_ => [(37, .agg #[.bool t2.f0, .int .u32 t2.f1.f0, .int .u32 t2.f1.f1, .int .u32 t2.f1.f2, .int .u32 t2.f1.f3, .int .u32 t2.f1.f4, .int .u32 t2.f1.f5]), (38, .tuple #[.agg #[.bool t3.f0, .int .u32 t3.f1.f0, .int .u32 t3.f1.f1, .int .u32 t3.f1.f2, .int .u32 t3.f1.f3, .int .u32 t3.f1.f4, .int .u32 t3.f1.f5], .agg #[.bool t4.f0, .int .u32 t4.f1.f0, .int .u32 t4.f1.f1, .int .u32 t4.f1.f2, .int .u32 t4.f1.f3, .int .u32 t4.f1.f4, .int .u32 t4.f1.f5]]), (24, .tuple #[.agg #[.bool t3.f0, .int .u32 t3.f1.f0, .int .u32 t3.f1.f1, .int .u32 t3.f1.f2, .int .u32 t3.f1.f3, .int .u32 t3.f1.f4, .int .u32 t3.f1.f5], .agg #[.bool t4.f0, .int .u32 t4.f1.f0, .int .u32 t4.f1.f1, .int .u32 t4.f1.f2, .int .u32 t4.f1.f3, .int .u32 t4.f1.f4, .int .u32 t4.f1.f5]]), (39, .agg #[.bool t3.f0, .int .u32 t3.f1.f0, .int .u32 t3.f1.f1, .int .u32 t3.f1.f2, .int .u32 t3.f1.f3, .int .u32 t3.f1.f4, .int .u32 t3.f1.f5]), (40, .agg #[.bool t4.f0, .int .u32 t4.f1.f0, .int .u32 t4.f1.f1, .int .u32 t4.f1.f2, .int .u32 t4.f1.f3, .int .u32 t4.f1.f4, .int .u32 t4.f1.f5]), (11, Value.pointer (some ⟨s_, 0, none⟩))]) (fun s_ w' => (w'.cell? ⟨g2, 0, none⟩ = some (.bool u.f0) ∧ w'.cell? ⟨g2, 1, none⟩ = some (.int .u32 u.f1.f0) ∧ w'.cell? ⟨g2, 2, none⟩ = some (.int .u32 u.f1.f1) ∧ w'.cell? ⟨g2, 3, none⟩ = some (.int .u32 u.f1.f2) ∧ w'.cell? ⟨g2, 4, none⟩ = some (.int .u32 u.f1.f3) ∧ w'.cell? ⟨g2, 5, none⟩ = some (.int .u32 u.f1.f4) ∧ w'.cell? ⟨g2, 6, none⟩ = some (.int .u32 u.f1.f5) ∧ w'.cell? ⟨B0_, O0_, none⟩ = some (.int .i64 a0.f0) ∧ w'.cell? ⟨B0_, O0_ + 1, none⟩ = some (.int .i64 a0.f1) ∧ w'.cell? ⟨B0_, O0_ + 2, none⟩ = some (.int .i64 a0.f2) ∧ w'.cell? ⟨B0_, O0_ + 3, none⟩ = some (.int .i64 a0.f3) ∧ w'.cell? ⟨B0_, O0_ + 4, none⟩ = some (.bool a0.f4)) ∧ Wide.OB w.heap.size w w' [(s_, #[.bool false, .int .u32 0, .int .u32 0, .int .u32 0, .int .u32 0, .int .u32 0, .int .u32 0], 25), (g3, #[.bool sm.f0, .int .u32 sm.f1.f0, .int .u32 sm.f1.f1, .int .u32 sm.f1.f2, .int .u32 sm.f1.f3, .int .u32 sm.f1.f4, .int .u32 sm.f1.f5], 25), (g2, #[.bool u.f0, .int .u32 u.f1.f0, .int .u32 u.f1.f1, .int .u32 u.f1.f2, .int .u32 u.f1.f3, .int .u32 u.f1.f4, .int .u32 u.f1.f5], 25), (g1, #[.bool false, .int .u32 0, .int .u32 0, .int .u32 0, .int .u32 0, .int .u32 0, .int .u32 0], 25)]) ?_ ?_
        rotate_left
        · intro hJ12_13_18
          refine join_ (σ := Nat × Nat) 6 #[true, true, true, true, true, true, true, true, true, true, true, true, true, false, false, false, false, true, true, false, false] (fun s_ => [(37, .agg #[.bool t2.f0, .int .u32 t2.f1.f0, .int .u32 t2.f1.f1, .int .u32 t2.f1.f2, .int .u32 t2.f1.f3, .int .u32 t2.f1.f4, .int .u32 t2.f1.f5]), (10, Value.pointer (some ⟨s_.1, 0, none⟩)), (11, Value.pointer (some ⟨s_.2, 0, none⟩))]) (fun s_ w' => (w'.cell? ⟨g2, 0, none⟩ = some (.bool u.f0) ∧ w'.cell? ⟨g2, 1, none⟩ = some (.int .u32 u.f1.f0) ∧ w'.cell? ⟨g2, 2, none⟩ = some (.int .u32 u.f1.f1) ∧ w'.cell? ⟨g2, 3, none⟩ = some (.int .u32 u.f1.f2) ∧ w'.cell? ⟨g2, 4, none⟩ = some (.int .u32 u.f1.f3) ∧ w'.cell? ⟨g2, 5, none⟩ = some (.int .u32 u.f1.f4) ∧ w'.cell? ⟨g2, 6, none⟩ = some (.int .u32 u.f1.f5) ∧ w'.cell? ⟨B0_, O0_, none⟩ = some (.int .i64 a0.f0) ∧ w'.cell? ⟨B0_, O0_ + 1, none⟩ = some (.int .i64 a0.f1) ∧ w'.cell? ⟨B0_, O0_ + 2, none⟩ = some (.int .i64 a0.f2) ∧ w'.cell? ⟨B0_, O0_ + 3, none⟩ = some (.int .i64 a0.f3) ∧ w'.cell? ⟨B0_, O0_ + 4, none⟩ = some (.bool a0.f4)) ∧ Wide.OB w.heap.size w w' [(s_.2, #[.bool false, .int .u32 0, .int .u32 0, .int .u32 0, .int .u32 0, .int .u32 0, .int .u32 0], 25), (s_.1, #[.bool false, .int .u32 0, .int .u32 0, .int .u32 0, .int .u32 0, .int .u32 0, .int .u32 0], 25), (g3, #[.bool sm.f0, .int .u32 sm.f1.f0, .int .u32 sm.f1.f1, .int .u32 sm.f1.f2, .int .u32 sm.f1.f3, .int .u32 sm.f1.f4, .int .u32 sm.f1.f5], 25), (g2, #[.bool u.f0, .int .u32 u.f1.f0, .int .u32 u.f1.f1, .int .u32 u.f1.f2, .int .u32 u.f1.f3, .int .u32 u.f1.f4, .int .u32 u.f1.f5], 25), (g1, #[.bool false, .int .u32 0, .int .u32 0, .int .u32 0, .int .u32 0, .int .u32 0, .int .u32 0], 25)]) ?_ ?_
          rotate_left
          · intro hJ12_17_18
            refine join_ (σ := Unit) 4 #[true, true, true, true, true, true, true, true, true, true, true, true, true, true, true, true, true, false, false, false, false] (fun s_ => [(37, .agg #[.bool t2.f0, .int .u32 t2.f1.f0, .int .u32 t2.f1.f1, .int .u32 t2.f1.f2, .int .u32 t2.f1.f3, .int .u32 t2.f1.f4, .int .u32 t2.f1.f5]), (38, .tuple #[.agg #[.bool t3.f0, .int .u32 t3.f1.f0, .int .u32 t3.f1.f1, .int .u32 t3.f1.f2, .int .u32 t3.f1.f3, .int .u32 t3.f1.f4, .int .u32 t3.f1.f5], .agg #[.bool t4.f0, .int .u32 t4.f1.f0, .int .u32 t4.f1.f1, .int .u32 t4.f1.f2, .int .u32 t4.f1.f3, .int .u32 t4.f1.f4, .int .u32 t4.f1.f5]]), (24, .tuple #[.agg #[.bool t3.f0, .int .u32 t3.f1.f0, .int .u32 t3.f1.f1, .int .u32 t3.f1.f2, .int .u32 t3.f1.f3, .int .u32 t3.f1.f4, .int .u32 t3.f1.f5], .agg #[.bool t4.f0, .int .u32 t4.f1.f0, .int .u32 t4.f1.f1, .int .u32 t4.f1.f2, .int .u32 t4.f1.f3, .int .u32 t4.f1.f4, .int .u32 t4.f1.f5]]), (39, .agg #[.bool t3.f0, .int .u32 t3.f1.f0, .int .u32 t3.f1.f1, .int .u32 t3.f1.f2, .int .u32 t3.f1.f3, .int .u32 t3.f1.f4, .int .u32 t3.f1.f5]), (40, .agg #[.bool t4.f0, .int .u32 t4.f1.f0, .int .u32 t4.f1.f1, .int .u32 t4.f1.f2, .int .u32 t4.f1.f3, .int .u32 t4.f1.f4, .int .u32 t4.f1.f5])]) (fun s_ w' => (w'.cell? ⟨g2, 0, none⟩ = some (.bool u.f0) ∧ w'.cell? ⟨g2, 1, none⟩ = some (.int .u32 u.f1.f0) ∧ w'.cell? ⟨g2, 2, none⟩ = some (.int .u32 u.f1.f1) ∧ w'.cell? ⟨g2, 3, none⟩ = some (.int .u32 u.f1.f2) ∧ w'.cell? ⟨g2, 4, none⟩ = some (.int .u32 u.f1.f3) ∧ w'.cell? ⟨g2, 5, none⟩ = some (.int .u32 u.f1.f4) ∧ w'.cell? ⟨g2, 6, none⟩ = some (.int .u32 u.f1.f5) ∧ w'.cell? ⟨B0_, O0_, none⟩ = some (.int .i64 a0.f0) ∧ w'.cell? ⟨B0_, O0_ + 1, none⟩ = some (.int .i64 a0.f1) ∧ w'.cell? ⟨B0_, O0_ + 2, none⟩ = some (.int .i64 a0.f2) ∧ w'.cell? ⟨B0_, O0_ + 3, none⟩ = some (.int .i64 a0.f3) ∧ w'.cell? ⟨B0_, O0_ + 4, none⟩ = some (.bool a0.f4)) ∧ Wide.OB w.heap.size w w' [(g3, #[.bool sm.f0, .int .u32 sm.f1.f0, .int .u32 sm.f1.f1, .int .u32 sm.f1.f2, .int .u32 sm.f1.f3, .int .u32 sm.f1.f4, .int .u32 sm.f1.f5], 25), (g2, #[.bool u.f0, .int .u32 u.f1.f0, .int .u32 u.f1.f1, .int .u32 u.f1.f2, .int .u32 u.f1.f3, .int .u32 u.f1.f4, .int .u32 u.f1.f5], 25), (g1, #[.bool false, .int .u32 0, .int .u32 0, .int .u32 0, .int .u32 0, .int .u32 0, .int .u32 0], 25)]) ?_ ?_
            rotate_left
            · intro hJ12_13
              refine join_ (σ := Nat) 7 #[true, true, true, true, true, true, true, true, true, true, true, true, true, false, false, false, false, true, false, false, false] (fun s_ => [(37, .agg #[.bool t2.f0, .int .u32 t2.f1.f0, .int .u32 t2.f1.f1, .int .u32 t2.f1.f2, .int .u32 t2.f1.f3, .int .u32 t2.f1.f4, .int .u32 t2.f1.f5]), (10, Value.pointer (some ⟨s_, 0, none⟩))]) (fun s_ w' => (w'.cell? ⟨g2, 0, none⟩ = some (.bool u.f0) ∧ w'.cell? ⟨g2, 1, none⟩ = some (.int .u32 u.f1.f0) ∧ w'.cell? ⟨g2, 2, none⟩ = some (.int .u32 u.f1.f1) ∧ w'.cell? ⟨g2, 3, none⟩ = some (.int .u32 u.f1.f2) ∧ w'.cell? ⟨g2, 4, none⟩ = some (.int .u32 u.f1.f3) ∧ w'.cell? ⟨g2, 5, none⟩ = some (.int .u32 u.f1.f4) ∧ w'.cell? ⟨g2, 6, none⟩ = some (.int .u32 u.f1.f5) ∧ w'.cell? ⟨B0_, O0_, none⟩ = some (.int .i64 a0.f0) ∧ w'.cell? ⟨B0_, O0_ + 1, none⟩ = some (.int .i64 a0.f1) ∧ w'.cell? ⟨B0_, O0_ + 2, none⟩ = some (.int .i64 a0.f2) ∧ w'.cell? ⟨B0_, O0_ + 3, none⟩ = some (.int .i64 a0.f3) ∧ w'.cell? ⟨B0_, O0_ + 4, none⟩ = some (.bool a0.f4)) ∧ Wide.OB w.heap.size w w' [(s_, #[.bool false, .int .u32 0, .int .u32 0, .int .u32 0, .int .u32 0, .int .u32 0, .int .u32 0], 25), (g3, #[.bool sm.f0, .int .u32 sm.f1.f0, .int .u32 sm.f1.f1, .int .u32 sm.f1.f2, .int .u32 sm.f1.f3, .int .u32 sm.f1.f4, .int .u32 sm.f1.f5], 25), (g2, #[.bool u.f0, .int .u32 u.f1.f0, .int .u32 u.f1.f1, .int .u32 u.f1.f2, .int .u32 u.f1.f3, .int .u32 u.f1.f4, .int .u32 u.f1.f5], 25), (g1, #[.bool false, .int .u32 0, .int .u32 0, .int .u32 0, .int .u32 0, .int .u32 0, .int .u32 0], 25)]) ?_ ?_
              rotate_left
              · intro hJ12_17
                refine join_ (σ := Nat) 7 #[true, true, true, true, true, true, true, true, true, true, true, true, true, false, false, false, false, false, true, false, false] (fun s_ => [(37, .agg #[.bool t2.f0, .int .u32 t2.f1.f0, .int .u32 t2.f1.f1, .int .u32 t2.f1.f2, .int .u32 t2.f1.f3, .int .u32 t2.f1.f4, .int .u32 t2.f1.f5]), (11, Value.pointer (some ⟨s_, 0, none⟩))]) (fun s_ w' => (w'.cell? ⟨g2, 0, none⟩ = some (.bool u.f0) ∧ w'.cell? ⟨g2, 1, none⟩ = some (.int .u32 u.f1.f0) ∧ w'.cell? ⟨g2, 2, none⟩ = some (.int .u32 u.f1.f1) ∧ w'.cell? ⟨g2, 3, none⟩ = some (.int .u32 u.f1.f2) ∧ w'.cell? ⟨g2, 4, none⟩ = some (.int .u32 u.f1.f3) ∧ w'.cell? ⟨g2, 5, none⟩ = some (.int .u32 u.f1.f4) ∧ w'.cell? ⟨g2, 6, none⟩ = some (.int .u32 u.f1.f5) ∧ w'.cell? ⟨B0_, O0_, none⟩ = some (.int .i64 a0.f0) ∧ w'.cell? ⟨B0_, O0_ + 1, none⟩ = some (.int .i64 a0.f1) ∧ w'.cell? ⟨B0_, O0_ + 2, none⟩ = some (.int .i64 a0.f2) ∧ w'.cell? ⟨B0_, O0_ + 3, none⟩ = some (.int .i64 a0.f3) ∧ w'.cell? ⟨B0_, O0_ + 4, none⟩ = some (.bool a0.f4)) ∧ Wide.OB w.heap.size w w' [(s_, #[.bool false, .int .u32 0, .int .u32 0, .int .u32 0, .int .u32 0, .int .u32 0, .int .u32 0], 25), (g3, #[.bool sm.f0, .int .u32 sm.f1.f0, .int .u32 sm.f1.f1, .int .u32 sm.f1.f2, .int .u32 sm.f1.f3, .int .u32 sm.f1.f4, .int .u32 sm.f1.f5], 25), (g2, #[.bool u.f0, .int .u32 u.f1.f0, .int .u32 u.f1.f1, .int .u32 u.f1.f2, .int .u32 u.f1.f3, .int .u32 u.f1.f4, .int .u32 u.f1.f5], 25), (g1, #[.bool false, .int .u32 0, .int .u32 0, .int .u32 0, .int .u32 0, .int .u32 0, .int .u32 0], 25)]) ?_ ?_
                rotate_left
                · intro hJ12_18
                  refine join_ (σ := Nat × Nat) 7 #[true, true, true, true, true, true, true, true, true, true, true, true, false, false, false, false, false, true, true, false, false] (fun s_ => [(10, Value.pointer (some ⟨s_.1, 0, none⟩)), (11, Value.pointer (some ⟨s_.2, 0, none⟩))]) (fun s_ w' => (w'.cell? ⟨g2, 0, none⟩ = some (.bool u.f0) ∧ w'.cell? ⟨g2, 1, none⟩ = some (.int .u32 u.f1.f0) ∧ w'.cell? ⟨g2, 2, none⟩ = some (.int .u32 u.f1.f1) ∧ w'.cell? ⟨g2, 3, none⟩ = some (.int .u32 u.f1.f2) ∧ w'.cell? ⟨g2, 4, none⟩ = some (.int .u32 u.f1.f3) ∧ w'.cell? ⟨g2, 5, none⟩ = some (.int .u32 u.f1.f4) ∧ w'.cell? ⟨g2, 6, none⟩ = some (.int .u32 u.f1.f5) ∧ w'.cell? ⟨B0_, O0_, none⟩ = some (.int .i64 a0.f0) ∧ w'.cell? ⟨B0_, O0_ + 1, none⟩ = some (.int .i64 a0.f1) ∧ w'.cell? ⟨B0_, O0_ + 2, none⟩ = some (.int .i64 a0.f2) ∧ w'.cell? ⟨B0_, O0_ + 3, none⟩ = some (.int .i64 a0.f3) ∧ w'.cell? ⟨B0_, O0_ + 4, none⟩ = some (.bool a0.f4)) ∧ Wide.OB w.heap.size w w' [(s_.2, #[.bool false, .int .u32 0, .int .u32 0, .int .u32 0, .int .u32 0, .int .u32 0, .int .u32 0], 25), (s_.1, #[.bool false, .int .u32 0, .int .u32 0, .int .u32 0, .int .u32 0, .int .u32 0, .int .u32 0], 25), (g3, #[.bool sm.f0, .int .u32 sm.f1.f0, .int .u32 sm.f1.f1, .int .u32 sm.f1.f2, .int .u32 sm.f1.f3, .int .u32 sm.f1.f4, .int .u32 sm.f1.f5], 25), (g2, #[.bool u.f0, .int .u32 u.f1.f0, .int .u32 u.f1.f1, .int .u32 u.f1.f2, .int .u32 u.f1.f3, .int .u32 u.f1.f4, .int .u32 u.f1.f5], 25), (g1, #[.bool false, .int .u32 0, .int .u32 0, .int .u32 0, .int .u32 0, .int .u32 0, .int .u32 0], 25)]) ?_ ?_
                  rotate_left
                  · intro hJ17_18
                    refine join_ (σ := Unit) 8 #[true, true, true, true, true, true, true, true, true, true, true, true, true, false, false, false, false, false, false, false, false] (fun s_ => [(37, .agg #[.bool t2.f0, .int .u32 t2.f1.f0, .int .u32 t2.f1.f1, .int .u32 t2.f1.f2, .int .u32 t2.f1.f3, .int .u32 t2.f1.f4, .int .u32 t2.f1.f5])]) (fun s_ w' => (w'.cell? ⟨g2, 0, none⟩ = some (.bool u.f0) ∧ w'.cell? ⟨g2, 1, none⟩ = some (.int .u32 u.f1.f0) ∧ w'.cell? ⟨g2, 2, none⟩ = some (.int .u32 u.f1.f1) ∧ w'.cell? ⟨g2, 3, none⟩ = some (.int .u32 u.f1.f2) ∧ w'.cell? ⟨g2, 4, none⟩ = some (.int .u32 u.f1.f3) ∧ w'.cell? ⟨g2, 5, none⟩ = some (.int .u32 u.f1.f4) ∧ w'.cell? ⟨g2, 6, none⟩ = some (.int .u32 u.f1.f5) ∧ w'.cell? ⟨B0_, O0_, none⟩ = some (.int .i64 a0.f0) ∧ w'.cell? ⟨B0_, O0_ + 1, none⟩ = some (.int .i64 a0.f1) ∧ w'.cell? ⟨B0_, O0_ + 2, none⟩ = some (.int .i64 a0.f2) ∧ w'.cell? ⟨B0_, O0_ + 3, none⟩ = some (.int .i64 a0.f3) ∧ w'.cell? ⟨B0_, O0_ + 4, none⟩ = some (.bool a0.f4)) ∧ Wide.OB w.heap.size w w' [(g3, #[.bool sm.f0, .int .u32 sm.f1.f0, .int .u32 sm.f1.f1, .int .u32 sm.f1.f2, .int .u32 sm.f1.f3, .int .u32 sm.f1.f4, .int .u32 sm.f1.f5], 25), (g2, #[.bool u.f0, .int .u32 u.f1.f0, .int .u32 u.f1.f1, .int .u32 u.f1.f2, .int .u32 u.f1.f3, .int .u32 u.f1.f4, .int .u32 u.f1.f5], 25), (g1, #[.bool false, .int .u32 0, .int .u32 0, .int .u32 0, .int .u32 0, .int .u32 0, .int .u32 0], 25)]) ?_ ?_
                    rotate_left
                    · intro hJ12
                      refine join_ (σ := Nat) 8 #[true, true, true, true, true, true, true, true, true, true, true, true, false, false, false, false, false, true, false, false, false] (fun s_ => [(10, Value.pointer (some ⟨s_, 0, none⟩))]) (fun s_ w' => (w'.cell? ⟨g2, 0, none⟩ = some (.bool u.f0) ∧ w'.cell? ⟨g2, 1, none⟩ = some (.int .u32 u.f1.f0) ∧ w'.cell? ⟨g2, 2, none⟩ = some (.int .u32 u.f1.f1) ∧ w'.cell? ⟨g2, 3, none⟩ = some (.int .u32 u.f1.f2) ∧ w'.cell? ⟨g2, 4, none⟩ = some (.int .u32 u.f1.f3) ∧ w'.cell? ⟨g2, 5, none⟩ = some (.int .u32 u.f1.f4) ∧ w'.cell? ⟨g2, 6, none⟩ = some (.int .u32 u.f1.f5) ∧ w'.cell? ⟨B0_, O0_, none⟩ = some (.int .i64 a0.f0) ∧ w'.cell? ⟨B0_, O0_ + 1, none⟩ = some (.int .i64 a0.f1) ∧ w'.cell? ⟨B0_, O0_ + 2, none⟩ = some (.int .i64 a0.f2) ∧ w'.cell? ⟨B0_, O0_ + 3, none⟩ = some (.int .i64 a0.f3) ∧ w'.cell? ⟨B0_, O0_ + 4, none⟩ = some (.bool a0.f4)) ∧ Wide.OB w.heap.size w w' [(s_, #[.bool false, .int .u32 0, .int .u32 0, .int .u32 0, .int .u32 0, .int .u32 0, .int .u32 0], 25), (g3, #[.bool sm.f0, .int .u32 sm.f1.f0, .int .u32 sm.f1.f1, .int .u32 sm.f1.f2, .int .u32 sm.f1.f3, .int .u32 sm.f1.f4, .int .u32 sm.f1.f5], 25), (g2, #[.bool u.f0, .int .u32 u.f1.f0, .int .u32 u.f1.f1, .int .u32 u.f1.f2, .int .u32 u.f1.f3, .int .u32 u.f1.f4, .int .u32 u.f1.f5], 25), (g1, #[.bool false, .int .u32 0, .int .u32 0, .int .u32 0, .int .u32 0, .int .u32 0, .int .u32 0], 25)]) ?_ ?_
                      rotate_left
                      · intro hJ17
                        refine join_ (σ := Nat) 8 #[true, true, true, true, true, true, true, true, true, true, true, true, false, false, false, false, false, false, true, false, false] (fun s_ => [(11, Value.pointer (some ⟨s_, 0, none⟩))]) (fun s_ w' => (w'.cell? ⟨g2, 0, none⟩ = some (.bool u.f0) ∧ w'.cell? ⟨g2, 1, none⟩ = some (.int .u32 u.f1.f0) ∧ w'.cell? ⟨g2, 2, none⟩ = some (.int .u32 u.f1.f1) ∧ w'.cell? ⟨g2, 3, none⟩ = some (.int .u32 u.f1.f2) ∧ w'.cell? ⟨g2, 4, none⟩ = some (.int .u32 u.f1.f3) ∧ w'.cell? ⟨g2, 5, none⟩ = some (.int .u32 u.f1.f4) ∧ w'.cell? ⟨g2, 6, none⟩ = some (.int .u32 u.f1.f5) ∧ w'.cell? ⟨B0_, O0_, none⟩ = some (.int .i64 a0.f0) ∧ w'.cell? ⟨B0_, O0_ + 1, none⟩ = some (.int .i64 a0.f1) ∧ w'.cell? ⟨B0_, O0_ + 2, none⟩ = some (.int .i64 a0.f2) ∧ w'.cell? ⟨B0_, O0_ + 3, none⟩ = some (.int .i64 a0.f3) ∧ w'.cell? ⟨B0_, O0_ + 4, none⟩ = some (.bool a0.f4)) ∧ Wide.OB w.heap.size w w' [(s_, #[.bool false, .int .u32 0, .int .u32 0, .int .u32 0, .int .u32 0, .int .u32 0, .int .u32 0], 25), (g3, #[.bool sm.f0, .int .u32 sm.f1.f0, .int .u32 sm.f1.f1, .int .u32 sm.f1.f2, .int .u32 sm.f1.f3, .int .u32 sm.f1.f4, .int .u32 sm.f1.f5], 25), (g2, #[.bool u.f0, .int .u32 u.f1.f0, .int .u32 u.f1.f1, .int .u32 u.f1.f2, .int .u32 u.f1.f3, .int .u32 u.f1.f4, .int .u32 u.f1.f5], 25), (g1, #[.bool false, .int .u32 0, .int .u32 0, .int .u32 0, .int .u32 0, .int .u32 0, .int .u32 0], 25)]) ?_ ?_
                        rotate_left
                        · intro hJ18
                          refine three_ (i := 12) (j := 17) (k := 18) (Ni := some 37) (Nj := some 10) (Nk := some 11) #[true, true, true, true, true, true, true, true, true, true, true, true, true, false, false, false, false, false, false, false, false] #[true, true, true, true, true, true, true, true, true, true, true, true, false, false, false, false, false, true, false, false, false] #[true, true, true, true, true, true, true, true, true, true, true, true, false, false, false, false, false, false, true, false, false] rfl rfl rfl rfl rfl rfl (by kernel_rfl) (by decide) (by decide) (by decide) (fun K hK => ?_) (fun K hK => ?_) (fun K hK => ?_)
                          · skip
                            refine goes_ Try.func83 (by kernel_rfl) rfl #[.int .i64 (wrap64 (a0.f2 + wrap64 (a0.f3 * c)))] (by rfl) rfl rfl (by simp only [List.map_toArray, List.map_cons, List.map_nil]; rfl) ?_
                            with_reducible refine (spec_l01Of.calls _ t2 _ M2.out).mono ?_
                            rintro e wc ⟨rfl, hb⟩
                            refine ⟨_, rfl, ?_⟩
                            replace HO := Aside0.mk (HO.out.below hb)
                            clear hb
                            refine hK.out _ _ ⟨HO.out.cell 1 rfl 0 rfl, HO.out.cell 1 rfl 1 rfl, HO.out.cell 1 rfl 2 rfl, HO.out.cell 1 rfl 3 rfl, HO.out.cell 1 rfl 4 rfl, HO.out.cell 1 rfl 5 rfl, HO.out.cell 1 rfl 6 rfl, (HO.out.bel.cell (World.block_lt_of_cell? w _ (HQ.out.1))).trans (HQ.out.1), (HO.out.bel.cell (World.block_lt_of_cell? w _ (HQ.out.2.1))).trans (HQ.out.2.1), (HO.out.bel.cell (World.block_lt_of_cell? w _ (HQ.out.2.2.1))).trans (HQ.out.2.2.1), (HO.out.bel.cell (World.block_lt_of_cell? w _ (HQ.out.2.2.2.1))).trans (HQ.out.2.2.2.1), (HO.out.bel.cell (World.block_lt_of_cell? w _ (HQ.out.2.2.2.2))).trans (HQ.out.2.2.2.2)⟩ (fun hHeld => ?_)
                            clear hK K
                            refine norm_ (a' := ?_) ?_ ?_
                            rotate_left
                            · show Act.put _ (some 37) _ = _
                              simp only [Act.put, List.setIfInBounds_toArray, List.set_cons_zero, List.set_cons_succ, i64_w, i32_w]
                              rfl
                            exact norm_ (by first | (simp only [putAll, Act.put, List.setIfInBounds_toArray, List.set_cons_zero, List.set_cons_succ]; done) | (simp only [putAll, Act.put, List.setIfInBounds_toArray, List.set_cons_zero, List.set_cons_succ]; rfl)) (hJ12 () _ ⟨hHeld, HO.out⟩)
                          · skip
                            refine box_step ?hg (N := 10) ?hd (cs := #[.bool false, .int .u32 0, .int .u32 0, .int .u32 0, .int .u32 0, .int .u32 0, .int .u32 0]) (t := 25) ?hr ?_; (case hd => rfl); (case hg => rfl); (case hr => first | (go_simp; done) | (go_simp; rfl))
                            intro g4 hg wn hbox hb
                            replace HO := Aside0.mk (HO.out.box hg hbox hb)
                            clear hg hbox hb
                            refine hK.out _ _ ⟨HO.out.cell 2 rfl 0 rfl, HO.out.cell 2 rfl 1 rfl, HO.out.cell 2 rfl 2 rfl, HO.out.cell 2 rfl 3 rfl, HO.out.cell 2 rfl 4 rfl, HO.out.cell 2 rfl 5 rfl, HO.out.cell 2 rfl 6 rfl, (HO.out.bel.cell (World.block_lt_of_cell? w _ (HQ.out.1))).trans (HQ.out.1), (HO.out.bel.cell (World.block_lt_of_cell? w _ (HQ.out.2.1))).trans (HQ.out.2.1), (HO.out.bel.cell (World.block_lt_of_cell? w _ (HQ.out.2.2.1))).trans (HQ.out.2.2.1), (HO.out.bel.cell (World.block_lt_of_cell? w _ (HQ.out.2.2.2.1))).trans (HQ.out.2.2.2.1), (HO.out.bel.cell (World.block_lt_of_cell? w _ (HQ.out.2.2.2.2))).trans (HQ.out.2.2.2.2)⟩ (fun hHeld => ?_)
                            clear hK K
                            refine norm_ (a' := ?_) ?_ ?_
                            rotate_left
                            · show Act.put _ (some 10) _ = _
                              simp only [Act.put, List.setIfInBounds_toArray, List.set_cons_zero, List.set_cons_succ, i64_w, i32_w]
                              rfl
                            exact norm_ (by first | (simp only [putAll, Act.put, List.setIfInBounds_toArray, List.set_cons_zero, List.set_cons_succ]; done) | (simp only [putAll, Act.put, List.setIfInBounds_toArray, List.set_cons_zero, List.set_cons_succ]; rfl)) (hJ17 g4 _ ⟨hHeld, HO.out⟩)
                          · skip
                            refine box_step ?hg (N := 11) ?hd (cs := #[.bool false, .int .u32 0, .int .u32 0, .int .u32 0, .int .u32 0, .int .u32 0, .int .u32 0]) (t := 25) ?hr ?_; (case hd => rfl); (case hg => rfl); (case hr => first | (go_simp; done) | (go_simp; rfl))
                            intro g5 hg wn hbox hb
                            replace HO := Aside0.mk (HO.out.box hg hbox hb)
                            clear hg hbox hb
                            refine hK.out _ _ ⟨HO.out.cell 2 rfl 0 rfl, HO.out.cell 2 rfl 1 rfl, HO.out.cell 2 rfl 2 rfl, HO.out.cell 2 rfl 3 rfl, HO.out.cell 2 rfl 4 rfl, HO.out.cell 2 rfl 5 rfl, HO.out.cell 2 rfl 6 rfl, (HO.out.bel.cell (World.block_lt_of_cell? w _ (HQ.out.1))).trans (HQ.out.1), (HO.out.bel.cell (World.block_lt_of_cell? w _ (HQ.out.2.1))).trans (HQ.out.2.1), (HO.out.bel.cell (World.block_lt_of_cell? w _ (HQ.out.2.2.1))).trans (HQ.out.2.2.1), (HO.out.bel.cell (World.block_lt_of_cell? w _ (HQ.out.2.2.2.1))).trans (HQ.out.2.2.2.1), (HO.out.bel.cell (World.block_lt_of_cell? w _ (HQ.out.2.2.2.2))).trans (HQ.out.2.2.2.2)⟩ (fun hHeld => ?_)
                            clear hK K
                            refine norm_ (a' := ?_) ?_ ?_
                            rotate_left
                            · show Act.put _ (some 11) _ = _
                              simp only [Act.put, List.setIfInBounds_toArray, List.set_cons_zero, List.set_cons_succ, i64_w, i32_w]
                              rfl
                            exact norm_ (by first | (simp only [putAll, Act.put, List.setIfInBounds_toArray, List.set_cons_zero, List.set_cons_succ]; done) | (simp only [putAll, Act.put, List.setIfInBounds_toArray, List.set_cons_zero, List.set_cons_succ]; rfl)) (hJ18 g5 _ ⟨hHeld, HO.out⟩)
                        · skip
                          rintro g5 wj ⟨hHeld, hO_⟩
                          replace HO := Aside0.mk hO_
                          clear hO_
                          refine norm_ (a' := ?_) ?_ ?_
                          rotate_left
                          · simp only [putAll, Act.put, List.setIfInBounds_toArray, List.set_cons_zero, List.set_cons_succ]
                            rfl
                          refine two_ (i := 12) (j := 17) (Ni := some 37) (Nj := some 10) #[true, true, true, true, true, true, true, true, true, true, true, true, true, false, false, false, false, false, true, false, false] #[true, true, true, true, true, true, true, true, true, true, true, true, false, false, false, false, false, true, true, false, false] rfl rfl rfl rfl (by kernel_rfl) (by decide) (by decide) (fun K hK => ?_) (fun K hK => ?_)
                          · skip
                            refine goes_ Try.func83 (by kernel_rfl) rfl #[.int .i64 (wrap64 (a0.f2 + wrap64 (a0.f3 * c)))] (by rfl) rfl rfl (by simp only [List.map_toArray, List.map_cons, List.map_nil]; rfl) ?_
                            with_reducible refine (spec_l01Of.calls _ t2 _ M2.out).mono ?_
                            rintro e wc ⟨rfl, hb⟩
                            refine ⟨_, rfl, ?_⟩
                            replace HO := Aside0.mk (HO.out.below hb)
                            clear hb
                            refine hK.out _ _ ⟨HO.out.cell 2 rfl 0 rfl, HO.out.cell 2 rfl 1 rfl, HO.out.cell 2 rfl 2 rfl, HO.out.cell 2 rfl 3 rfl, HO.out.cell 2 rfl 4 rfl, HO.out.cell 2 rfl 5 rfl, HO.out.cell 2 rfl 6 rfl, (HO.out.bel.cell (World.block_lt_of_cell? w _ (HQ.out.1))).trans (HQ.out.1), (HO.out.bel.cell (World.block_lt_of_cell? w _ (HQ.out.2.1))).trans (HQ.out.2.1), (HO.out.bel.cell (World.block_lt_of_cell? w _ (HQ.out.2.2.1))).trans (HQ.out.2.2.1), (HO.out.bel.cell (World.block_lt_of_cell? w _ (HQ.out.2.2.2.1))).trans (HQ.out.2.2.2.1), (HO.out.bel.cell (World.block_lt_of_cell? w _ (HQ.out.2.2.2.2))).trans (HQ.out.2.2.2.2)⟩ (fun hHeld => ?_)
                            clear hK K
                            refine norm_ (a' := ?_) ?_ ?_
                            rotate_left
                            · show Act.put _ (some 37) _ = _
                              simp only [Act.put, List.setIfInBounds_toArray, List.set_cons_zero, List.set_cons_succ, i64_w, i32_w]
                              rfl
                            exact norm_ (by first | (simp only [putAll, Act.put, List.setIfInBounds_toArray, List.set_cons_zero, List.set_cons_succ]; done) | (simp only [putAll, Act.put, List.setIfInBounds_toArray, List.set_cons_zero, List.set_cons_succ]; rfl)) (hJ12_18 g5 _ ⟨hHeld, HO.out⟩)
                          · skip
                            refine box_step ?hg (N := 10) ?hd (cs := #[.bool false, .int .u32 0, .int .u32 0, .int .u32 0, .int .u32 0, .int .u32 0, .int .u32 0]) (t := 25) ?hr ?_; (case hd => rfl); (case hg => rfl); (case hr => first | (go_simp; done) | (go_simp; rfl))
                            intro g4 hg wn hbox hb
                            replace HO := Aside0.mk (HO.out.box hg hbox hb)
                            replace HO := Aside0.mk HO.out.swap
                            clear hg hbox hb
                            refine hK.out _ _ ⟨HO.out.cell 3 rfl 0 rfl, HO.out.cell 3 rfl 1 rfl, HO.out.cell 3 rfl 2 rfl, HO.out.cell 3 rfl 3 rfl, HO.out.cell 3 rfl 4 rfl, HO.out.cell 3 rfl 5 rfl, HO.out.cell 3 rfl 6 rfl, (HO.out.bel.cell (World.block_lt_of_cell? w _ (HQ.out.1))).trans (HQ.out.1), (HO.out.bel.cell (World.block_lt_of_cell? w _ (HQ.out.2.1))).trans (HQ.out.2.1), (HO.out.bel.cell (World.block_lt_of_cell? w _ (HQ.out.2.2.1))).trans (HQ.out.2.2.1), (HO.out.bel.cell (World.block_lt_of_cell? w _ (HQ.out.2.2.2.1))).trans (HQ.out.2.2.2.1), (HO.out.bel.cell (World.block_lt_of_cell? w _ (HQ.out.2.2.2.2))).trans (HQ.out.2.2.2.2)⟩ (fun hHeld => ?_)
                            clear hK K
                            refine norm_ (a' := ?_) ?_ ?_
                            rotate_left
                            · show Act.put _ (some 10) _ = _
                              simp only [Act.put, List.setIfInBounds_toArray, List.set_cons_zero, List.set_cons_succ, i64_w, i32_w]
                              rfl
                            exact norm_ (by first | (simp only [putAll, Act.put, List.setIfInBounds_toArray, List.set_cons_zero, List.set_cons_succ]; done) | (simp only [putAll, Act.put, List.setIfInBounds_toArray, List.set_cons_zero, List.set_cons_succ]; rfl)) (hJ17_18 (g4, g5) _ ⟨hHeld, HO.out⟩)
                      · skip
                        rintro g4 wj ⟨hHeld, hO_⟩
                        replace HO := Aside0.mk hO_
                        clear hO_
                        refine norm_ (a' := ?_) ?_ ?_
                        rotate_left
                        · simp only [putAll, Act.put, List.setIfInBounds_toArray, List.set_cons_zero, List.set_cons_succ]
                          rfl
                        refine two_ (i := 12) (j := 18) (Ni := some 37) (Nj := some 11) #[true, true, true, true, true, true, true, true, true, true, true, true, true, false, false, false, false, true, false, false, false] #[true, true, true, true, true, true, true, true, true, true, true, true, false, false, false, false, false, true, true, false, false] rfl rfl rfl rfl (by kernel_rfl) (by decide) (by decide) (fun K hK => ?_) (fun K hK => ?_)
                        · skip
                          refine goes_ Try.func83 (by kernel_rfl) rfl #[.int .i64 (wrap64 (a0.f2 + wrap64 (a0.f3 * c)))] (by rfl) rfl rfl (by simp only [List.map_toArray, List.map_cons, List.map_nil]; rfl) ?_
                          with_reducible refine (spec_l01Of.calls _ t2 _ M2.out).mono ?_
                          rintro e wc ⟨rfl, hb⟩
                          refine ⟨_, rfl, ?_⟩
                          replace HO := Aside0.mk (HO.out.below hb)
                          clear hb
                          refine hK.out _ _ ⟨HO.out.cell 2 rfl 0 rfl, HO.out.cell 2 rfl 1 rfl, HO.out.cell 2 rfl 2 rfl, HO.out.cell 2 rfl 3 rfl, HO.out.cell 2 rfl 4 rfl, HO.out.cell 2 rfl 5 rfl, HO.out.cell 2 rfl 6 rfl, (HO.out.bel.cell (World.block_lt_of_cell? w _ (HQ.out.1))).trans (HQ.out.1), (HO.out.bel.cell (World.block_lt_of_cell? w _ (HQ.out.2.1))).trans (HQ.out.2.1), (HO.out.bel.cell (World.block_lt_of_cell? w _ (HQ.out.2.2.1))).trans (HQ.out.2.2.1), (HO.out.bel.cell (World.block_lt_of_cell? w _ (HQ.out.2.2.2.1))).trans (HQ.out.2.2.2.1), (HO.out.bel.cell (World.block_lt_of_cell? w _ (HQ.out.2.2.2.2))).trans (HQ.out.2.2.2.2)⟩ (fun hHeld => ?_)
                          clear hK K
                          refine norm_ (a' := ?_) ?_ ?_
                          rotate_left
                          · show Act.put _ (some 37) _ = _
                            simp only [Act.put, List.setIfInBounds_toArray, List.set_cons_zero, List.set_cons_succ, i64_w, i32_w]
                            rfl
                          exact norm_ (by first | (simp only [putAll, Act.put, List.setIfInBounds_toArray, List.set_cons_zero, List.set_cons_succ]; done) | (simp only [putAll, Act.put, List.setIfInBounds_toArray, List.set_cons_zero, List.set_cons_succ]; rfl)) (hJ12_17 g4 _ ⟨hHeld, HO.out⟩)
                        · skip
                          refine box_step ?hg (N := 11) ?hd (cs := #[.bool false, .int .u32 0, .int .u32 0, .int .u32 0, .int .u32 0, .int .u32 0, .int .u32 0]) (t := 25) ?hr ?_; (case hd => rfl); (case hg => rfl); (case hr => first | (go_simp; done) | (go_simp; rfl))
                          intro g5 hg wn hbox hb
                          replace HO := Aside0.mk (HO.out.box hg hbox hb)
                          clear hg hbox hb
                          refine hK.out _ _ ⟨HO.out.cell 3 rfl 0 rfl, HO.out.cell 3 rfl 1 rfl, HO.out.cell 3 rfl 2 rfl, HO.out.cell 3 rfl 3 rfl, HO.out.cell 3 rfl 4 rfl, HO.out.cell 3 rfl 5 rfl, HO.out.cell 3 rfl 6 rfl, (HO.out.bel.cell (World.block_lt_of_cell? w _ (HQ.out.1))).trans (HQ.out.1), (HO.out.bel.cell (World.block_lt_of_cell? w _ (HQ.out.2.1))).trans (HQ.out.2.1), (HO.out.bel.cell (World.block_lt_of_cell? w _ (HQ.out.2.2.1))).trans (HQ.out.2.2.1), (HO.out.bel.cell (World.block_lt_of_cell? w _ (HQ.out.2.2.2.1))).trans (HQ.out.2.2.2.1), (HO.out.bel.cell (World.block_lt_of_cell? w _ (HQ.out.2.2.2.2))).trans (HQ.out.2.2.2.2)⟩ (fun hHeld => ?_)
                          clear hK K
                          refine norm_ (a' := ?_) ?_ ?_
                          rotate_left
                          · show Act.put _ (some 11) _ = _
                            simp only [Act.put, List.setIfInBounds_toArray, List.set_cons_zero, List.set_cons_succ, i64_w, i32_w]
                            rfl
                          exact norm_ (by first | (simp only [putAll, Act.put, List.setIfInBounds_toArray, List.set_cons_zero, List.set_cons_succ]; done) | (simp only [putAll, Act.put, List.setIfInBounds_toArray, List.set_cons_zero, List.set_cons_succ]; rfl)) (hJ17_18 (g4, g5) _ ⟨hHeld, HO.out⟩)
                    · skip
                      rintro _u wj ⟨hHeld, hO_⟩
                      replace HO := Aside0.mk hO_
                      clear hO_
                      refine norm_ (a' := ?_) ?_ ?_
                      rotate_left
                      · simp only [putAll, Act.put, List.setIfInBounds_toArray, List.set_cons_zero, List.set_cons_succ]
                        rfl
                      refine three_ (i := 13) (j := 17) (k := 18) (Ni := some 38) (Nj := some 10) (Nk := some 11) #[true, true, true, true, true, true, true, true, true, true, true, true, true, true, false, false, false, false, false, false, false] #[true, true, true, true, true, true, true, true, true, true, true, true, true, false, false, false, false, true, false, false, false] #[true, true, true, true, true, true, true, true, true, true, true, true, true, false, false, false, false, false, true, false, false] rfl rfl rfl rfl rfl rfl (by kernel_rfl) (by decide) (by decide) (by decide) (fun K hK => ?_) (fun K hK => ?_) (fun K hK => ?_)
                      · skip
                        refine goes_ Try.func99 (by kernel_rfl) rfl #[.agg #[.bool u.f0, .int .u32 u.f1.f0, .int .u32 u.f1.f1, .int .u32 u.f1.f2, .int .u32 u.f1.f3, .int .u32 u.f1.f4, .int .u32 u.f1.f5], .agg #[.bool t2.f0, .int .u32 t2.f1.f0, .int .u32 t2.f1.f1, .int .u32 t2.f1.f2, .int .u32 t2.f1.f3, .int .u32 t2.f1.f4, .int .u32 t2.f1.f5]] (by rfl) rfl rfl (by simp only [List.map_toArray, List.map_cons, List.map_nil]; rfl) ?_
                        with_reducible refine (spec_l01Div.calls u t2 t3 t4 _ M3.out).mono ?_
                        rintro e wc ⟨rfl, hb⟩
                        refine ⟨_, rfl, ?_⟩
                        replace HO := Aside0.mk (HO.out.below hb)
                        clear hb
                        refine hK.out _ _ ⟨HO.out.cell 1 rfl 0 rfl, HO.out.cell 1 rfl 1 rfl, HO.out.cell 1 rfl 2 rfl, HO.out.cell 1 rfl 3 rfl, HO.out.cell 1 rfl 4 rfl, HO.out.cell 1 rfl 5 rfl, HO.out.cell 1 rfl 6 rfl, (HO.out.bel.cell (World.block_lt_of_cell? w _ (HQ.out.1))).trans (HQ.out.1), (HO.out.bel.cell (World.block_lt_of_cell? w _ (HQ.out.2.1))).trans (HQ.out.2.1), (HO.out.bel.cell (World.block_lt_of_cell? w _ (HQ.out.2.2.1))).trans (HQ.out.2.2.1), (HO.out.bel.cell (World.block_lt_of_cell? w _ (HQ.out.2.2.2.1))).trans (HQ.out.2.2.2.1), (HO.out.bel.cell (World.block_lt_of_cell? w _ (HQ.out.2.2.2.2))).trans (HQ.out.2.2.2.2)⟩ (fun hHeld => ?_)
                        clear hK K
                        refine norm_ (a' := ?_) ?_ ?_
                        rotate_left
                        · show Act.put _ (some 38) _ = _
                          simp only [Act.put, List.setIfInBounds_toArray, List.set_cons_zero, List.set_cons_succ, i64_w, i32_w]
                          rfl
                        refine pure_ (i := 14) (N := some 24) (v := ?_) (a' := ?_) #[true, true, true, true, true, true, true, true, true, true, true, true, true, true, true, false, false, false, false, false, false] rfl rfl (by kernel_rfl) (fun _ _ _ h => h) (Or.inl ⟨by rfl, ?_⟩) ?_ ?_
                        rotate_left
                        · intro w'
                          go_simp
                          with_reducible rfl
                        rotate_left
                        · simp only [Act.put, List.setIfInBounds_toArray, List.set_cons_zero, List.set_cons_succ, i64_w, i32_w]
                          rfl
                        refine pure_ (i := 15) (N := some 39) (v := ?_) (a' := ?_) #[true, true, true, true, true, true, true, true, true, true, true, true, true, true, true, true, false, false, false, false, false] rfl rfl (by kernel_rfl) (fun _ _ _ h => h) (Or.inl ⟨by rfl, ?_⟩) ?_ ?_
                        rotate_left
                        · intro w'
                          go_simp
                          with_reducible rfl
                        rotate_left
                        · simp only [Act.put, List.setIfInBounds_toArray, List.set_cons_zero, List.set_cons_succ, i64_w, i32_w]
                          rfl
                        refine pure_ (i := 16) (N := some 40) (v := ?_) (a' := ?_) #[true, true, true, true, true, true, true, true, true, true, true, true, true, true, true, true, true, false, false, false, false] rfl rfl (by kernel_rfl) (fun _ _ _ h => h) (Or.inl ⟨by rfl, ?_⟩) ?_ ?_
                        rotate_left
                        · intro w'
                          go_simp
                          with_reducible rfl
                        rotate_left
                        · simp only [Act.put, List.setIfInBounds_toArray, List.set_cons_zero, List.set_cons_succ, i64_w, i32_w]
                          rfl
                        exact norm_ (by first | (simp only [putAll, Act.put, List.setIfInBounds_toArray, List.set_cons_zero, List.set_cons_succ]; done) | (simp only [putAll, Act.put, List.setIfInBounds_toArray, List.set_cons_zero, List.set_cons_succ]; rfl)) (hJ12_13 () _ ⟨hHeld, HO.out⟩)
                      · skip
                        refine box_step ?hg (N := 10) ?hd (cs := #[.bool false, .int .u32 0, .int .u32 0, .int .u32 0, .int .u32 0, .int .u32 0, .int .u32 0]) (t := 25) ?hr ?_; (case hd => rfl); (case hg => rfl); (case hr => first | (go_simp; done) | (go_simp; rfl))
                        intro g4 hg wn hbox hb
                        replace HO := Aside0.mk (HO.out.box hg hbox hb)
                        clear hg hbox hb
                        refine hK.out _ _ ⟨HO.out.cell 2 rfl 0 rfl, HO.out.cell 2 rfl 1 rfl, HO.out.cell 2 rfl 2 rfl, HO.out.cell 2 rfl 3 rfl, HO.out.cell 2 rfl 4 rfl, HO.out.cell 2 rfl 5 rfl, HO.out.cell 2 rfl 6 rfl, (HO.out.bel.cell (World.block_lt_of_cell? w _ (HQ.out.1))).trans (HQ.out.1), (HO.out.bel.cell (World.block_lt_of_cell? w _ (HQ.out.2.1))).trans (HQ.out.2.1), (HO.out.bel.cell (World.block_lt_of_cell? w _ (HQ.out.2.2.1))).trans (HQ.out.2.2.1), (HO.out.bel.cell (World.block_lt_of_cell? w _ (HQ.out.2.2.2.1))).trans (HQ.out.2.2.2.1), (HO.out.bel.cell (World.block_lt_of_cell? w _ (HQ.out.2.2.2.2))).trans (HQ.out.2.2.2.2)⟩ (fun hHeld => ?_)
                        clear hK K
                        refine norm_ (a' := ?_) ?_ ?_
                        rotate_left
                        · show Act.put _ (some 10) _ = _
                          simp only [Act.put, List.setIfInBounds_toArray, List.set_cons_zero, List.set_cons_succ, i64_w, i32_w]
                          rfl
                        exact norm_ (by first | (simp only [putAll, Act.put, List.setIfInBounds_toArray, List.set_cons_zero, List.set_cons_succ]; done) | (simp only [putAll, Act.put, List.setIfInBounds_toArray, List.set_cons_zero, List.set_cons_succ]; rfl)) (hJ12_17 g4 _ ⟨hHeld, HO.out⟩)
                      · skip
                        refine box_step ?hg (N := 11) ?hd (cs := #[.bool false, .int .u32 0, .int .u32 0, .int .u32 0, .int .u32 0, .int .u32 0, .int .u32 0]) (t := 25) ?hr ?_; (case hd => rfl); (case hg => rfl); (case hr => first | (go_simp; done) | (go_simp; rfl))
                        intro g5 hg wn hbox hb
                        replace HO := Aside0.mk (HO.out.box hg hbox hb)
                        clear hg hbox hb
                        refine hK.out _ _ ⟨HO.out.cell 2 rfl 0 rfl, HO.out.cell 2 rfl 1 rfl, HO.out.cell 2 rfl 2 rfl, HO.out.cell 2 rfl 3 rfl, HO.out.cell 2 rfl 4 rfl, HO.out.cell 2 rfl 5 rfl, HO.out.cell 2 rfl 6 rfl, (HO.out.bel.cell (World.block_lt_of_cell? w _ (HQ.out.1))).trans (HQ.out.1), (HO.out.bel.cell (World.block_lt_of_cell? w _ (HQ.out.2.1))).trans (HQ.out.2.1), (HO.out.bel.cell (World.block_lt_of_cell? w _ (HQ.out.2.2.1))).trans (HQ.out.2.2.1), (HO.out.bel.cell (World.block_lt_of_cell? w _ (HQ.out.2.2.2.1))).trans (HQ.out.2.2.2.1), (HO.out.bel.cell (World.block_lt_of_cell? w _ (HQ.out.2.2.2.2))).trans (HQ.out.2.2.2.2)⟩ (fun hHeld => ?_)
                        clear hK K
                        refine norm_ (a' := ?_) ?_ ?_
                        rotate_left
                        · show Act.put _ (some 11) _ = _
                          simp only [Act.put, List.setIfInBounds_toArray, List.set_cons_zero, List.set_cons_succ, i64_w, i32_w]
                          rfl
                        exact norm_ (by first | (simp only [putAll, Act.put, List.setIfInBounds_toArray, List.set_cons_zero, List.set_cons_succ]; done) | (simp only [putAll, Act.put, List.setIfInBounds_toArray, List.set_cons_zero, List.set_cons_succ]; rfl)) (hJ12_18 g5 _ ⟨hHeld, HO.out⟩)
                  · skip
                    rintro ⟨g4, g5⟩ wj ⟨hHeld, hO_⟩
                    replace HO := Aside0.mk hO_
                    clear hO_
                    refine norm_ (a' := ?_) ?_ ?_
                    rotate_left
                    · simp only [putAll, Act.put, List.setIfInBounds_toArray, List.set_cons_zero, List.set_cons_succ]
                      rfl
                    refine one_ (i := 12) (N := some 37) #[true, true, true, true, true, true, true, true, true, true, true, true, true, false, false, false, false, true, true, false, false] rfl rfl (by kernel_rfl) (by decide) (fun K hK => ?_)
                    refine goes_ Try.func83 (by kernel_rfl) rfl #[.int .i64 (wrap64 (a0.f2 + wrap64 (a0.f3 * c)))] (by rfl) rfl rfl (by simp only [List.map_toArray, List.map_cons, List.map_nil]; rfl) ?_
                    with_reducible refine (spec_l01Of.calls _ t2 _ M2.out).mono ?_
                    rintro e wc ⟨rfl, hb⟩
                    refine ⟨_, rfl, ?_⟩
                    replace HO := Aside0.mk (HO.out.below hb)
                    clear hb
                    refine hK.out _ _ ⟨HO.out.cell 3 rfl 0 rfl, HO.out.cell 3 rfl 1 rfl, HO.out.cell 3 rfl 2 rfl, HO.out.cell 3 rfl 3 rfl, HO.out.cell 3 rfl 4 rfl, HO.out.cell 3 rfl 5 rfl, HO.out.cell 3 rfl 6 rfl, (HO.out.bel.cell (World.block_lt_of_cell? w _ (HQ.out.1))).trans (HQ.out.1), (HO.out.bel.cell (World.block_lt_of_cell? w _ (HQ.out.2.1))).trans (HQ.out.2.1), (HO.out.bel.cell (World.block_lt_of_cell? w _ (HQ.out.2.2.1))).trans (HQ.out.2.2.1), (HO.out.bel.cell (World.block_lt_of_cell? w _ (HQ.out.2.2.2.1))).trans (HQ.out.2.2.2.1), (HO.out.bel.cell (World.block_lt_of_cell? w _ (HQ.out.2.2.2.2))).trans (HQ.out.2.2.2.2)⟩ (fun hHeld => ?_)
                    clear hK K
                    refine norm_ (a' := ?_) ?_ ?_
                    rotate_left
                    · show Act.put _ (some 37) _ = _
                      simp only [Act.put, List.setIfInBounds_toArray, List.set_cons_zero, List.set_cons_succ, i64_w, i32_w]
                      rfl
                    exact norm_ (by first | (simp only [putAll, Act.put, List.setIfInBounds_toArray, List.set_cons_zero, List.set_cons_succ]; done) | (simp only [putAll, Act.put, List.setIfInBounds_toArray, List.set_cons_zero, List.set_cons_succ]; rfl)) (hJ12_17_18 (g4, g5) _ ⟨hHeld, HO.out⟩)
                · skip
                  rintro g5 wj ⟨hHeld, hO_⟩
                  replace HO := Aside0.mk hO_
                  clear hO_
                  refine norm_ (a' := ?_) ?_ ?_
                  rotate_left
                  · simp only [putAll, Act.put, List.setIfInBounds_toArray, List.set_cons_zero, List.set_cons_succ]
                    rfl
                  refine two_ (i := 13) (j := 17) (Ni := some 38) (Nj := some 10) #[true, true, true, true, true, true, true, true, true, true, true, true, true, true, false, false, false, false, true, false, false] #[true, true, true, true, true, true, true, true, true, true, true, true, true, false, false, false, false, true, true, false, false] rfl rfl rfl rfl (by kernel_rfl) (by decide) (by decide) (fun K hK => ?_) (fun K hK => ?_)
                  · skip
                    refine goes_ Try.func99 (by kernel_rfl) rfl #[.agg #[.bool u.f0, .int .u32 u.f1.f0, .int .u32 u.f1.f1, .int .u32 u.f1.f2, .int .u32 u.f1.f3, .int .u32 u.f1.f4, .int .u32 u.f1.f5], .agg #[.bool t2.f0, .int .u32 t2.f1.f0, .int .u32 t2.f1.f1, .int .u32 t2.f1.f2, .int .u32 t2.f1.f3, .int .u32 t2.f1.f4, .int .u32 t2.f1.f5]] (by rfl) rfl rfl (by simp only [List.map_toArray, List.map_cons, List.map_nil]; rfl) ?_
                    with_reducible refine (spec_l01Div.calls u t2 t3 t4 _ M3.out).mono ?_
                    rintro e wc ⟨rfl, hb⟩
                    refine ⟨_, rfl, ?_⟩
                    replace HO := Aside0.mk (HO.out.below hb)
                    clear hb
                    refine hK.out _ _ ⟨HO.out.cell 2 rfl 0 rfl, HO.out.cell 2 rfl 1 rfl, HO.out.cell 2 rfl 2 rfl, HO.out.cell 2 rfl 3 rfl, HO.out.cell 2 rfl 4 rfl, HO.out.cell 2 rfl 5 rfl, HO.out.cell 2 rfl 6 rfl, (HO.out.bel.cell (World.block_lt_of_cell? w _ (HQ.out.1))).trans (HQ.out.1), (HO.out.bel.cell (World.block_lt_of_cell? w _ (HQ.out.2.1))).trans (HQ.out.2.1), (HO.out.bel.cell (World.block_lt_of_cell? w _ (HQ.out.2.2.1))).trans (HQ.out.2.2.1), (HO.out.bel.cell (World.block_lt_of_cell? w _ (HQ.out.2.2.2.1))).trans (HQ.out.2.2.2.1), (HO.out.bel.cell (World.block_lt_of_cell? w _ (HQ.out.2.2.2.2))).trans (HQ.out.2.2.2.2)⟩ (fun hHeld => ?_)
                    clear hK K
                    refine norm_ (a' := ?_) ?_ ?_
                    rotate_left
                    · show Act.put _ (some 38) _ = _
                      simp only [Act.put, List.setIfInBounds_toArray, List.set_cons_zero, List.set_cons_succ, i64_w, i32_w]
                      rfl
                    refine pure_ (i := 14) (N := some 24) (v := ?_) (a' := ?_) #[true, true, true, true, true, true, true, true, true, true, true, true, true, true, true, false, false, false, true, false, false] rfl rfl (by kernel_rfl) (fun _ _ _ h => h) (Or.inl ⟨by rfl, ?_⟩) ?_ ?_
                    rotate_left
                    · intro w'
                      go_simp
                      with_reducible rfl
                    rotate_left
                    · simp only [Act.put, List.setIfInBounds_toArray, List.set_cons_zero, List.set_cons_succ, i64_w, i32_w]
                      rfl
                    refine pure_ (i := 15) (N := some 39) (v := ?_) (a' := ?_) #[true, true, true, true, true, true, true, true, true, true, true, true, true, true, true, true, false, false, true, false, false] rfl rfl (by kernel_rfl) (fun _ _ _ h => h) (Or.inl ⟨by rfl, ?_⟩) ?_ ?_
                    rotate_left
                    · intro w'
                      go_simp
                      with_reducible rfl
                    rotate_left
                    · simp only [Act.put, List.setIfInBounds_toArray, List.set_cons_zero, List.set_cons_succ, i64_w, i32_w]
                      rfl
                    refine pure_ (i := 16) (N := some 40) (v := ?_) (a' := ?_) #[true, true, true, true, true, true, true, true, true, true, true, true, true, true, true, true, true, false, true, false, false] rfl rfl (by kernel_rfl) (fun _ _ _ h => h) (Or.inl ⟨by rfl, ?_⟩) ?_ ?_
                    rotate_left
                    · intro w'
                      go_simp
                      with_reducible rfl
                    rotate_left
                    · simp only [Act.put, List.setIfInBounds_toArray, List.set_cons_zero, List.set_cons_succ, i64_w, i32_w]
                      rfl
                    exact norm_ (by first | (simp only [putAll, Act.put, List.setIfInBounds_toArray, List.set_cons_zero, List.set_cons_succ]; done) | (simp only [putAll, Act.put, List.setIfInBounds_toArray, List.set_cons_zero, List.set_cons_succ]; rfl)) (hJ12_13_18 g5 _ ⟨hHeld, HO.out⟩)
                  · skip
                    refine box_step ?hg (N := 10) ?hd (cs := #[.bool false, .int .u32 0, .int .u32 0, .int .u32 0, .int .u32 0, .int .u32 0, .int .u32 0]) (t := 25) ?hr ?_; (case hd => rfl); (case hg => rfl); (case hr => first | (go_simp; done) | (go_simp; rfl))
                    intro g4 hg wn hbox hb
                    replace HO := Aside0.mk (HO.out.box hg hbox hb)
                    replace HO := Aside0.mk HO.out.swap
                    clear hg hbox hb
                    refine hK.out _ _ ⟨HO.out.cell 3 rfl 0 rfl, HO.out.cell 3 rfl 1 rfl, HO.out.cell 3 rfl 2 rfl, HO.out.cell 3 rfl 3 rfl, HO.out.cell 3 rfl 4 rfl, HO.out.cell 3 rfl 5 rfl, HO.out.cell 3 rfl 6 rfl, (HO.out.bel.cell (World.block_lt_of_cell? w _ (HQ.out.1))).trans (HQ.out.1), (HO.out.bel.cell (World.block_lt_of_cell? w _ (HQ.out.2.1))).trans (HQ.out.2.1), (HO.out.bel.cell (World.block_lt_of_cell? w _ (HQ.out.2.2.1))).trans (HQ.out.2.2.1), (HO.out.bel.cell (World.block_lt_of_cell? w _ (HQ.out.2.2.2.1))).trans (HQ.out.2.2.2.1), (HO.out.bel.cell (World.block_lt_of_cell? w _ (HQ.out.2.2.2.2))).trans (HQ.out.2.2.2.2)⟩ (fun hHeld => ?_)
                    clear hK K
                    refine norm_ (a' := ?_) ?_ ?_
                    rotate_left
                    · show Act.put _ (some 10) _ = _
                      simp only [Act.put, List.setIfInBounds_toArray, List.set_cons_zero, List.set_cons_succ, i64_w, i32_w]
                      rfl
                    exact norm_ (by first | (simp only [putAll, Act.put, List.setIfInBounds_toArray, List.set_cons_zero, List.set_cons_succ]; done) | (simp only [putAll, Act.put, List.setIfInBounds_toArray, List.set_cons_zero, List.set_cons_succ]; rfl)) (hJ12_17_18 (g4, g5) _ ⟨hHeld, HO.out⟩)
              · skip
                rintro g4 wj ⟨hHeld, hO_⟩
                replace HO := Aside0.mk hO_
                clear hO_
                refine norm_ (a' := ?_) ?_ ?_
                rotate_left
                · simp only [putAll, Act.put, List.setIfInBounds_toArray, List.set_cons_zero, List.set_cons_succ]
                  rfl
                refine two_ (i := 13) (j := 18) (Ni := some 38) (Nj := some 11) #[true, true, true, true, true, true, true, true, true, true, true, true, true, true, false, false, false, true, false, false, false] #[true, true, true, true, true, true, true, true, true, true, true, true, true, false, false, false, false, true, true, false, false] rfl rfl rfl rfl (by kernel_rfl) (by decide) (by decide) (fun K hK => ?_) (fun K hK => ?_)
                · skip
                  refine goes_ Try.func99 (by kernel_rfl) rfl #[.agg #[.bool u.f0, .int .u32 u.f1.f0, .int .u32 u.f1.f1, .int .u32 u.f1.f2, .int .u32 u.f1.f3, .int .u32 u.f1.f4, .int .u32 u.f1.f5], .agg #[.bool t2.f0, .int .u32 t2.f1.f0, .int .u32 t2.f1.f1, .int .u32 t2.f1.f2, .int .u32 t2.f1.f3, .int .u32 t2.f1.f4, .int .u32 t2.f1.f5]] (by rfl) rfl rfl (by simp only [List.map_toArray, List.map_cons, List.map_nil]; rfl) ?_
                  with_reducible refine (spec_l01Div.calls u t2 t3 t4 _ M3.out).mono ?_
                  rintro e wc ⟨rfl, hb⟩
                  refine ⟨_, rfl, ?_⟩
                  replace HO := Aside0.mk (HO.out.below hb)
                  clear hb
                  refine hK.out _ _ ⟨HO.out.cell 2 rfl 0 rfl, HO.out.cell 2 rfl 1 rfl, HO.out.cell 2 rfl 2 rfl, HO.out.cell 2 rfl 3 rfl, HO.out.cell 2 rfl 4 rfl, HO.out.cell 2 rfl 5 rfl, HO.out.cell 2 rfl 6 rfl, (HO.out.bel.cell (World.block_lt_of_cell? w _ (HQ.out.1))).trans (HQ.out.1), (HO.out.bel.cell (World.block_lt_of_cell? w _ (HQ.out.2.1))).trans (HQ.out.2.1), (HO.out.bel.cell (World.block_lt_of_cell? w _ (HQ.out.2.2.1))).trans (HQ.out.2.2.1), (HO.out.bel.cell (World.block_lt_of_cell? w _ (HQ.out.2.2.2.1))).trans (HQ.out.2.2.2.1), (HO.out.bel.cell (World.block_lt_of_cell? w _ (HQ.out.2.2.2.2))).trans (HQ.out.2.2.2.2)⟩ (fun hHeld => ?_)
                  clear hK K
                  refine norm_ (a' := ?_) ?_ ?_
                  rotate_left
                  · show Act.put _ (some 38) _ = _
                    simp only [Act.put, List.setIfInBounds_toArray, List.set_cons_zero, List.set_cons_succ, i64_w, i32_w]
                    rfl
                  refine pure_ (i := 14) (N := some 24) (v := ?_) (a' := ?_) #[true, true, true, true, true, true, true, true, true, true, true, true, true, true, true, false, false, true, false, false, false] rfl rfl (by kernel_rfl) (fun _ _ _ h => h) (Or.inl ⟨by rfl, ?_⟩) ?_ ?_
                  rotate_left
                  · intro w'
                    go_simp
                    with_reducible rfl
                  rotate_left
                  · simp only [Act.put, List.setIfInBounds_toArray, List.set_cons_zero, List.set_cons_succ, i64_w, i32_w]
                    rfl
                  refine pure_ (i := 15) (N := some 39) (v := ?_) (a' := ?_) #[true, true, true, true, true, true, true, true, true, true, true, true, true, true, true, true, false, true, false, false, false] rfl rfl (by kernel_rfl) (fun _ _ _ h => h) (Or.inl ⟨by rfl, ?_⟩) ?_ ?_
                  rotate_left
                  · intro w'
                    go_simp
                    with_reducible rfl
                  rotate_left
                  · simp only [Act.put, List.setIfInBounds_toArray, List.set_cons_zero, List.set_cons_succ, i64_w, i32_w]
                    rfl
                  refine pure_ (i := 16) (N := some 40) (v := ?_) (a' := ?_) #[true, true, true, true, true, true, true, true, true, true, true, true, true, true, true, true, true, true, false, false, false] rfl rfl (by kernel_rfl) (fun _ _ _ h => h) (Or.inl ⟨by rfl, ?_⟩) ?_ ?_
                  rotate_left
                  · intro w'
                    go_simp
                    with_reducible rfl
                  rotate_left
                  · simp only [Act.put, List.setIfInBounds_toArray, List.set_cons_zero, List.set_cons_succ, i64_w, i32_w]
                    rfl
                  exact norm_ (by first | (simp only [putAll, Act.put, List.setIfInBounds_toArray, List.set_cons_zero, List.set_cons_succ]; done) | (simp only [putAll, Act.put, List.setIfInBounds_toArray, List.set_cons_zero, List.set_cons_succ]; rfl)) (hJ12_13_17 g4 _ ⟨hHeld, HO.out⟩)
                · skip
                  refine box_step ?hg (N := 11) ?hd (cs := #[.bool false, .int .u32 0, .int .u32 0, .int .u32 0, .int .u32 0, .int .u32 0, .int .u32 0]) (t := 25) ?hr ?_; (case hd => rfl); (case hg => rfl); (case hr => first | (go_simp; done) | (go_simp; rfl))
                  intro g5 hg wn hbox hb
                  replace HO := Aside0.mk (HO.out.box hg hbox hb)
                  clear hg hbox hb
                  refine hK.out _ _ ⟨HO.out.cell 3 rfl 0 rfl, HO.out.cell 3 rfl 1 rfl, HO.out.cell 3 rfl 2 rfl, HO.out.cell 3 rfl 3 rfl, HO.out.cell 3 rfl 4 rfl, HO.out.cell 3 rfl 5 rfl, HO.out.cell 3 rfl 6 rfl, (HO.out.bel.cell (World.block_lt_of_cell? w _ (HQ.out.1))).trans (HQ.out.1), (HO.out.bel.cell (World.block_lt_of_cell? w _ (HQ.out.2.1))).trans (HQ.out.2.1), (HO.out.bel.cell (World.block_lt_of_cell? w _ (HQ.out.2.2.1))).trans (HQ.out.2.2.1), (HO.out.bel.cell (World.block_lt_of_cell? w _ (HQ.out.2.2.2.1))).trans (HQ.out.2.2.2.1), (HO.out.bel.cell (World.block_lt_of_cell? w _ (HQ.out.2.2.2.2))).trans (HQ.out.2.2.2.2)⟩ (fun hHeld => ?_)
                  clear hK K
                  refine norm_ (a' := ?_) ?_ ?_
                  rotate_left
                  · show Act.put _ (some 11) _ = _
                    simp only [Act.put, List.setIfInBounds_toArray, List.set_cons_zero, List.set_cons_succ, i64_w, i32_w]
                    rfl
                  exact norm_ (by first | (simp only [putAll, Act.put, List.setIfInBounds_toArray, List.set_cons_zero, List.set_cons_succ]; done) | (simp only [putAll, Act.put, List.setIfInBounds_toArray, List.set_cons_zero, List.set_cons_succ]; rfl)) (hJ12_17_18 (g4, g5) _ ⟨hHeld, HO.out⟩)
            · skip
              rintro _u wj ⟨hHeld, hO_⟩
              replace HO := Aside0.mk hO_
              clear hO_
              refine norm_ (a' := ?_) ?_ ?_
              rotate_left
              · simp only [putAll, Act.put, List.setIfInBounds_toArray, List.set_cons_zero, List.set_cons_succ]
                rfl
              refine two_ (i := 17) (j := 18) (Ni := some 10) (Nj := some 11) #[true, true, true, true, true, true, true, true, true, true, true, true, true, true, true, true, true, true, false, false, false] #[true, true, true, true, true, true, true, true, true, true, true, true, true, true, true, true, true, false, true, false, false] rfl rfl rfl rfl (by kernel_rfl) (by decide) (by decide) (fun K hK => ?_) (fun K hK => ?_)
              · skip
                refine box_step ?hg (N := 10) ?hd (cs := #[.bool false, .int .u32 0, .int .u32 0, .int .u32 0, .int .u32 0, .int .u32 0, .int .u32 0]) (t := 25) ?hr ?_; (case hd => rfl); (case hg => rfl); (case hr => first | (go_simp; done) | (go_simp; rfl))
                intro g4 hg wn hbox hb
                replace HO := Aside0.mk (HO.out.box hg hbox hb)
                clear hg hbox hb
                refine hK.out _ _ ⟨HO.out.cell 2 rfl 0 rfl, HO.out.cell 2 rfl 1 rfl, HO.out.cell 2 rfl 2 rfl, HO.out.cell 2 rfl 3 rfl, HO.out.cell 2 rfl 4 rfl, HO.out.cell 2 rfl 5 rfl, HO.out.cell 2 rfl 6 rfl, (HO.out.bel.cell (World.block_lt_of_cell? w _ (HQ.out.1))).trans (HQ.out.1), (HO.out.bel.cell (World.block_lt_of_cell? w _ (HQ.out.2.1))).trans (HQ.out.2.1), (HO.out.bel.cell (World.block_lt_of_cell? w _ (HQ.out.2.2.1))).trans (HQ.out.2.2.1), (HO.out.bel.cell (World.block_lt_of_cell? w _ (HQ.out.2.2.2.1))).trans (HQ.out.2.2.2.1), (HO.out.bel.cell (World.block_lt_of_cell? w _ (HQ.out.2.2.2.2))).trans (HQ.out.2.2.2.2)⟩ (fun hHeld => ?_)
                clear hK K
                refine norm_ (a' := ?_) ?_ ?_
                rotate_left
                · show Act.put _ (some 10) _ = _
                  simp only [Act.put, List.setIfInBounds_toArray, List.set_cons_zero, List.set_cons_succ, i64_w, i32_w]
                  rfl
                exact norm_ (by first | (simp only [putAll, Act.put, List.setIfInBounds_toArray, List.set_cons_zero, List.set_cons_succ]; done) | (simp only [putAll, Act.put, List.setIfInBounds_toArray, List.set_cons_zero, List.set_cons_succ]; rfl)) (hJ12_13_17 g4 _ ⟨hHeld, HO.out⟩)
              · skip
                refine box_step ?hg (N := 11) ?hd (cs := #[.bool false, .int .u32 0, .int .u32 0, .int .u32 0, .int .u32 0, .int .u32 0, .int .u32 0]) (t := 25) ?hr ?_; (case hd => rfl); (case hg => rfl); (case hr => first | (go_simp; done) | (go_simp; rfl))
                intro g5 hg wn hbox hb
                replace HO := Aside0.mk (HO.out.box hg hbox hb)
                clear hg hbox hb
                refine hK.out _ _ ⟨HO.out.cell 2 rfl 0 rfl, HO.out.cell 2 rfl 1 rfl, HO.out.cell 2 rfl 2 rfl, HO.out.cell 2 rfl 3 rfl, HO.out.cell 2 rfl 4 rfl, HO.out.cell 2 rfl 5 rfl, HO.out.cell 2 rfl 6 rfl, (HO.out.bel.cell (World.block_lt_of_cell? w _ (HQ.out.1))).trans (HQ.out.1), (HO.out.bel.cell (World.block_lt_of_cell? w _ (HQ.out.2.1))).trans (HQ.out.2.1), (HO.out.bel.cell (World.block_lt_of_cell? w _ (HQ.out.2.2.1))).trans (HQ.out.2.2.1), (HO.out.bel.cell (World.block_lt_of_cell? w _ (HQ.out.2.2.2.1))).trans (HQ.out.2.2.2.1), (HO.out.bel.cell (World.block_lt_of_cell? w _ (HQ.out.2.2.2.2))).trans (HQ.out.2.2.2.2)⟩ (fun hHeld => ?_)
                clear hK K
                refine norm_ (a' := ?_) ?_ ?_
                rotate_left
                · show Act.put _ (some 11) _ = _
                  simp only [Act.put, List.setIfInBounds_toArray, List.set_cons_zero, List.set_cons_succ, i64_w, i32_w]
                  rfl
                exact norm_ (by first | (simp only [putAll, Act.put, List.setIfInBounds_toArray, List.set_cons_zero, List.set_cons_succ]; done) | (simp only [putAll, Act.put, List.setIfInBounds_toArray, List.set_cons_zero, List.set_cons_succ]; rfl)) (hJ12_13_18 g5 _ ⟨hHeld, HO.out⟩)
          · skip
            rintro ⟨g4, g5⟩ wj ⟨hHeld, hO_⟩
            replace HO := Aside0.mk hO_
            clear hO_
            refine norm_ (a' := ?_) ?_ ?_
            rotate_left
            · simp only [putAll, Act.put, List.setIfInBounds_toArray, List.set_cons_zero, List.set_cons_succ]
              rfl
            refine one_ (i := 13) (N := some 38) #[true, true, true, true, true, true, true, true, true, true, true, true, true, true, false, false, false, true, true, false, false] rfl rfl (by kernel_rfl) (by decide) (fun K hK => ?_)
            refine goes_ Try.func99 (by kernel_rfl) rfl #[.agg #[.bool u.f0, .int .u32 u.f1.f0, .int .u32 u.f1.f1, .int .u32 u.f1.f2, .int .u32 u.f1.f3, .int .u32 u.f1.f4, .int .u32 u.f1.f5], .agg #[.bool t2.f0, .int .u32 t2.f1.f0, .int .u32 t2.f1.f1, .int .u32 t2.f1.f2, .int .u32 t2.f1.f3, .int .u32 t2.f1.f4, .int .u32 t2.f1.f5]] (by rfl) rfl rfl (by simp only [List.map_toArray, List.map_cons, List.map_nil]; rfl) ?_
            with_reducible refine (spec_l01Div.calls u t2 t3 t4 _ M3.out).mono ?_
            rintro e wc ⟨rfl, hb⟩
            refine ⟨_, rfl, ?_⟩
            replace HO := Aside0.mk (HO.out.below hb)
            clear hb
            refine hK.out _ _ ⟨HO.out.cell 3 rfl 0 rfl, HO.out.cell 3 rfl 1 rfl, HO.out.cell 3 rfl 2 rfl, HO.out.cell 3 rfl 3 rfl, HO.out.cell 3 rfl 4 rfl, HO.out.cell 3 rfl 5 rfl, HO.out.cell 3 rfl 6 rfl, (HO.out.bel.cell (World.block_lt_of_cell? w _ (HQ.out.1))).trans (HQ.out.1), (HO.out.bel.cell (World.block_lt_of_cell? w _ (HQ.out.2.1))).trans (HQ.out.2.1), (HO.out.bel.cell (World.block_lt_of_cell? w _ (HQ.out.2.2.1))).trans (HQ.out.2.2.1), (HO.out.bel.cell (World.block_lt_of_cell? w _ (HQ.out.2.2.2.1))).trans (HQ.out.2.2.2.1), (HO.out.bel.cell (World.block_lt_of_cell? w _ (HQ.out.2.2.2.2))).trans (HQ.out.2.2.2.2)⟩ (fun hHeld => ?_)
            clear hK K
            refine norm_ (a' := ?_) ?_ ?_
            rotate_left
            · show Act.put _ (some 38) _ = _
              simp only [Act.put, List.setIfInBounds_toArray, List.set_cons_zero, List.set_cons_succ, i64_w, i32_w]
              rfl
            refine pure_ (i := 14) (N := some 24) (v := ?_) (a' := ?_) #[true, true, true, true, true, true, true, true, true, true, true, true, true, true, true, false, false, true, true, false, false] rfl rfl (by kernel_rfl) (fun _ _ _ h => h) (Or.inl ⟨by rfl, ?_⟩) ?_ ?_
            rotate_left
            · intro w'
              go_simp
              with_reducible rfl
            rotate_left
            · simp only [Act.put, List.setIfInBounds_toArray, List.set_cons_zero, List.set_cons_succ, i64_w, i32_w]
              rfl
            refine pure_ (i := 15) (N := some 39) (v := ?_) (a' := ?_) #[true, true, true, true, true, true, true, true, true, true, true, true, true, true, true, true, false, true, true, false, false] rfl rfl (by kernel_rfl) (fun _ _ _ h => h) (Or.inl ⟨by rfl, ?_⟩) ?_ ?_
            rotate_left
            · intro w'
              go_simp
              with_reducible rfl
            rotate_left
            · simp only [Act.put, List.setIfInBounds_toArray, List.set_cons_zero, List.set_cons_succ, i64_w, i32_w]
              rfl
            refine pure_ (i := 16) (N := some 40) (v := ?_) (a' := ?_) #[true, true, true, true, true, true, true, true, true, true, true, true, true, true, true, true, true, true, true, false, false] rfl rfl (by kernel_rfl) (fun _ _ _ h => h) (Or.inl ⟨by rfl, ?_⟩) ?_ ?_
            rotate_left
            · intro w'
              go_simp
              with_reducible rfl
            rotate_left
            · simp only [Act.put, List.setIfInBounds_toArray, List.set_cons_zero, List.set_cons_succ, i64_w, i32_w]
              rfl
            exact norm_ (by first | (simp only [putAll, Act.put, List.setIfInBounds_toArray, List.set_cons_zero, List.set_cons_succ]; done) | (simp only [putAll, Act.put, List.setIfInBounds_toArray, List.set_cons_zero, List.set_cons_succ]; rfl)) (hJ12_13_17_18 (g4, g5) _ ⟨hHeld, HO.out⟩)
        · skip
          rintro g5 wj ⟨hHeld, hO_⟩
          replace HO := Aside0.mk hO_
          clear hO_
          refine norm_ (a' := ?_) ?_ ?_
          rotate_left
          · simp only [putAll, Act.put, List.setIfInBounds_toArray, List.set_cons_zero, List.set_cons_succ]
            rfl
          refine one_ (i := 17) (N := some 10) #[true, true, true, true, true, true, true, true, true, true, true, true, true, true, true, true, true, true, true, false, false] rfl rfl (by kernel_rfl) (by decide) (fun K hK => ?_)
          refine box_step ?hg (N := 10) ?hd (cs := #[.bool false, .int .u32 0, .int .u32 0, .int .u32 0, .int .u32 0, .int .u32 0, .int .u32 0]) (t := 25) ?hr ?_; (case hd => rfl); (case hg => rfl); (case hr => first | (go_simp; done) | (go_simp; rfl))
          intro g4 hg wn hbox hb
          replace HO := Aside0.mk (HO.out.box hg hbox hb)
          replace HO := Aside0.mk HO.out.swap
          clear hg hbox hb
          refine hK.out _ _ ⟨HO.out.cell 3 rfl 0 rfl, HO.out.cell 3 rfl 1 rfl, HO.out.cell 3 rfl 2 rfl, HO.out.cell 3 rfl 3 rfl, HO.out.cell 3 rfl 4 rfl, HO.out.cell 3 rfl 5 rfl, HO.out.cell 3 rfl 6 rfl, (HO.out.bel.cell (World.block_lt_of_cell? w _ (HQ.out.1))).trans (HQ.out.1), (HO.out.bel.cell (World.block_lt_of_cell? w _ (HQ.out.2.1))).trans (HQ.out.2.1), (HO.out.bel.cell (World.block_lt_of_cell? w _ (HQ.out.2.2.1))).trans (HQ.out.2.2.1), (HO.out.bel.cell (World.block_lt_of_cell? w _ (HQ.out.2.2.2.1))).trans (HQ.out.2.2.2.1), (HO.out.bel.cell (World.block_lt_of_cell? w _ (HQ.out.2.2.2.2))).trans (HQ.out.2.2.2.2)⟩ (fun hHeld => ?_)
          clear hK K
          refine norm_ (a' := ?_) ?_ ?_
          rotate_left
          · show Act.put _ (some 10) _ = _
            simp only [Act.put, List.setIfInBounds_toArray, List.set_cons_zero, List.set_cons_succ, i64_w, i32_w]
            rfl
          exact norm_ (by first | (simp only [putAll, Act.put, List.setIfInBounds_toArray, List.set_cons_zero, List.set_cons_succ]; done) | (simp only [putAll, Act.put, List.setIfInBounds_toArray, List.set_cons_zero, List.set_cons_succ]; rfl)) (hJ12_13_17_18 (g4, g5) _ ⟨hHeld, HO.out⟩)
      · skip
        rintro g4 wj ⟨hHeld, hO_⟩
        replace HO := Aside0.mk hO_
        clear hO_
        refine norm_ (a' := ?_) ?_ ?_
        rotate_left
        · simp only [putAll, Act.put, List.setIfInBounds_toArray, List.set_cons_zero, List.set_cons_succ]
          rfl
        refine one_ (i := 18) (N := some 11) #[true, true, true, true, true, true, true, true, true, true, true, true, true, true, true, true, true, true, true, false, false] rfl rfl (by kernel_rfl) (by decide) (fun K hK => ?_)
        refine box_step ?hg (N := 11) ?hd (cs := #[.bool false, .int .u32 0, .int .u32 0, .int .u32 0, .int .u32 0, .int .u32 0, .int .u32 0]) (t := 25) ?hr ?_; (case hd => rfl); (case hg => rfl); (case hr => first | (go_simp; done) | (go_simp; rfl))
        intro g5 hg wn hbox hb
        replace HO := Aside0.mk (HO.out.box hg hbox hb)
        clear hg hbox hb
        refine hK.out _ _ ⟨HO.out.cell 3 rfl 0 rfl, HO.out.cell 3 rfl 1 rfl, HO.out.cell 3 rfl 2 rfl, HO.out.cell 3 rfl 3 rfl, HO.out.cell 3 rfl 4 rfl, HO.out.cell 3 rfl 5 rfl, HO.out.cell 3 rfl 6 rfl, (HO.out.bel.cell (World.block_lt_of_cell? w _ (HQ.out.1))).trans (HQ.out.1), (HO.out.bel.cell (World.block_lt_of_cell? w _ (HQ.out.2.1))).trans (HQ.out.2.1), (HO.out.bel.cell (World.block_lt_of_cell? w _ (HQ.out.2.2.1))).trans (HQ.out.2.2.1), (HO.out.bel.cell (World.block_lt_of_cell? w _ (HQ.out.2.2.2.1))).trans (HQ.out.2.2.2.1), (HO.out.bel.cell (World.block_lt_of_cell? w _ (HQ.out.2.2.2.2))).trans (HQ.out.2.2.2.2)⟩ (fun hHeld => ?_)
        clear hK K
        refine norm_ (a' := ?_) ?_ ?_
        rotate_left
        · show Act.put _ (some 11) _ = _
          simp only [Act.put, List.setIfInBounds_toArray, List.set_cons_zero, List.set_cons_succ, i64_w, i32_w]
          rfl
        exact norm_ (by first | (simp only [putAll, Act.put, List.setIfInBounds_toArray, List.set_cons_zero, List.set_cons_succ]; done) | (simp only [putAll, Act.put, List.setIfInBounds_toArray, List.set_cons_zero, List.set_cons_succ]; rfl)) (hJ12_13_17_18 (g4, g5) _ ⟨hHeld, HO.out⟩)
    rintro ⟨g4, g5⟩ wj ⟨hHeld, hO_⟩
    replace HO := Aside0.mk hO_
    clear hO_
    refine norm_ (a' := ?_) ?_ ?_
    rotate_left
    · simp only [putAll, Act.put, List.setIfInBounds_toArray, List.set_cons_zero, List.set_cons_succ]
      rfl
    have HO2 := Aside0.mk (HO.out.put7 1 rfl (rfl : (World.setCell (World.setCell (World.setCell (World.setCell (World.setCell (World.setCell (World.setCell wj ⟨g4, 0, none⟩ (.bool t3.f0)) ⟨g4, 1, none⟩ (.int .u32 t3.f1.f0)) ⟨g4, 2, none⟩ (.int .u32 t3.f1.f1)) ⟨g4, 3, none⟩ (.int .u32 t3.f1.f2)) ⟨g4, 4, none⟩ (.int .u32 t3.f1.f3)) ⟨g4, 5, none⟩ (.int .u32 t3.f1.f4)) ⟨g4, 6, none⟩ (.int .u32 t3.f1.f5)) = _) rfl)
    refine one_store_ (i := 19) (w1 := (World.setCell (World.setCell (World.setCell (World.setCell (World.setCell (World.setCell (World.setCell wj ⟨g4, 0, none⟩ (.bool t3.f0)) ⟨g4, 1, none⟩ (.int .u32 t3.f1.f0)) ⟨g4, 2, none⟩ (.int .u32 t3.f1.f1)) ⟨g4, 3, none⟩ (.int .u32 t3.f1.f2)) ⟨g4, 4, none⟩ (.int .u32 t3.f1.f3)) ⟨g4, 5, none⟩ (.int .u32 t3.f1.f4)) ⟨g4, 6, none⟩ (.int .u32 t3.f1.f5))) #[true, true, true, true, true, true, true, true, true, true, true, true, true, true, true, true, true, true, true, true, false] rfl rfl (by kernel_rfl) (by decide) (by rfl) (run_put7_ rfl (show _ = Value.pointer (some ⟨g4, 0, none⟩) from by rfl) (show _ = Value.agg #[.bool t3.f0, .int .u32 t3.f1.f0, .int .u32 t3.f1.f1, .int .u32 t3.f1.f2, .int .u32 t3.f1.f3, .int .u32 t3.f1.f4, .int .u32 t3.f1.f5] from by rfl) (HO.out.at 1 rfl) (by kernel_rfl) (by rfl)) ⟨HO2.out.cell 3 rfl 0 rfl, HO2.out.cell 3 rfl 1 rfl, HO2.out.cell 3 rfl 2 rfl, HO2.out.cell 3 rfl 3 rfl, HO2.out.cell 3 rfl 4 rfl, HO2.out.cell 3 rfl 5 rfl, HO2.out.cell 3 rfl 6 rfl, (HO2.out.bel.cell (World.block_lt_of_cell? w _ (HQ.out.1))).trans (HQ.out.1), (HO2.out.bel.cell (World.block_lt_of_cell? w _ (HQ.out.2.1))).trans (HQ.out.2.1), (HO2.out.bel.cell (World.block_lt_of_cell? w _ (HQ.out.2.2.1))).trans (HQ.out.2.2.1), (HO2.out.bel.cell (World.block_lt_of_cell? w _ (HQ.out.2.2.2.1))).trans (HQ.out.2.2.2.1), (HO2.out.bel.cell (World.block_lt_of_cell? w _ (HQ.out.2.2.2.2))).trans (HQ.out.2.2.2.2)⟩ (fun hHeld => ?_)
    refine last_store_ (i := 20) (w1 := (World.setCell (World.setCell (World.setCell (World.setCell (World.setCell (World.setCell (World.setCell (World.setCell (World.setCell (World.setCell (World.setCell (World.setCell (World.setCell (World.setCell wj ⟨g4, 0, none⟩ (.bool t3.f0)) ⟨g4, 1, none⟩ (.int .u32 t3.f1.f0)) ⟨g4, 2, none⟩ (.int .u32 t3.f1.f1)) ⟨g4, 3, none⟩ (.int .u32 t3.f1.f2)) ⟨g4, 4, none⟩ (.int .u32 t3.f1.f3)) ⟨g4, 5, none⟩ (.int .u32 t3.f1.f4)) ⟨g4, 6, none⟩ (.int .u32 t3.f1.f5)) ⟨g5, 0, none⟩ (.bool t4.f0)) ⟨g5, 1, none⟩ (.int .u32 t4.f1.f0)) ⟨g5, 2, none⟩ (.int .u32 t4.f1.f1)) ⟨g5, 3, none⟩ (.int .u32 t4.f1.f2)) ⟨g5, 4, none⟩ (.int .u32 t4.f1.f3)) ⟨g5, 5, none⟩ (.int .u32 t4.f1.f4)) ⟨g5, 6, none⟩ (.int .u32 t4.f1.f5))) #[true, true, true, true, true, true, true, true, true, true, true, true, true, true, true, true, true, true, true, true, true] rfl rfl (by kernel_rfl) (by decide) (by rfl) (run_put7_ rfl (show _ = Value.pointer (some ⟨g5, 0, none⟩) from by rfl) (show _ = Value.agg #[.bool t4.f0, .int .u32 t4.f1.f0, .int .u32 t4.f1.f1, .int .u32 t4.f1.f2, .int .u32 t4.f1.f3, .int .u32 t4.f1.f4, .int .u32 t4.f1.f5] from by rfl) (HO2.out.at 0 rfl) (by kernel_rfl) (by rfl)) ?_
    refine done_ (by kernel_rfl) ?_
    generalize hw_ : (World.setCell (World.setCell (World.setCell (World.setCell (World.setCell (World.setCell (World.setCell (World.setCell (World.setCell (World.setCell (World.setCell (World.setCell (World.setCell (World.setCell wj ⟨g4, 0, none⟩ (.bool t3.f0)) ⟨g4, 1, none⟩ (.int .u32 t3.f1.f0)) ⟨g4, 2, none⟩ (.int .u32 t3.f1.f1)) ⟨g4, 3, none⟩ (.int .u32 t3.f1.f2)) ⟨g4, 4, none⟩ (.int .u32 t3.f1.f3)) ⟨g4, 5, none⟩ (.int .u32 t3.f1.f4)) ⟨g4, 6, none⟩ (.int .u32 t3.f1.f5)) ⟨g5, 0, none⟩ (.bool t4.f0)) ⟨g5, 1, none⟩ (.int .u32 t4.f1.f0)) ⟨g5, 2, none⟩ (.int .u32 t4.f1.f1)) ⟨g5, 3, none⟩ (.int .u32 t4.f1.f2)) ⟨g5, 4, none⟩ (.int .u32 t4.f1.f3)) ⟨g5, 5, none⟩ (.int .u32 t4.f1.f4)) ⟨g5, 6, none⟩ (.int .u32 t4.f1.f5)) = w5
    replace HO := Aside0.mk (HO2.out.put7 0 rfl hw_.symm rfl)
    clear hw_
    have x_0 := (HO.out.bel.cell (World.block_lt_of_cell? w _ (HQ.out.1))).trans (HQ.out.1); have x_1 := (HO.out.bel.cell (World.block_lt_of_cell? w _ (HQ.out.2.1))).trans (HQ.out.2.1); have x_2 := (HO.out.bel.cell (World.block_lt_of_cell? w _ (HQ.out.2.2.1))).trans (HQ.out.2.2.1); have x_3 := (HO.out.bel.cell (World.block_lt_of_cell? w _ (HQ.out.2.2.2.1))).trans (HQ.out.2.2.2.1); have x_4 := (HO.out.bel.cell (World.block_lt_of_cell? w _ (HQ.out.2.2.2.2))).trans (HQ.out.2.2.2.2)
    cases hf : a0.f4 with
    | false =>
      rw [hf, if_neg (by decide)] at h
      obtain ⟨k3, rfl⟩ : ∃ q, k2 = q + 1 := by
        cases k2 with
        | zero => exact absurd h (by simp [spec_l05Sum.j1])
        | succ q => exact ⟨q, rfl⟩
      rw [spec_l05Sum.j1] at h
      rw [if_neg (by decide)] at h
      obtain ⟨k4, rfl⟩ : ∃ q, k3 = q + 1 := by
        cases k3 with
        | zero => exact absurd h (by simp [spec_l05Sum.j2])
        | succ q => exact ⟨q, rfl⟩
      rw [spec_l05Sum.j2] at h
      obtain ⟨⟨t7, e7⟩, m7, h⟩ := Option.bind_eq_some_iff.mp h
      obtain ⟨t8, m8, h⟩ := Option.bind_eq_some_iff.mp h
      obtain ⟨⟨t9, e9⟩, m9, h⟩ := Option.bind_eq_some_iff.mp h
      obtain ⟨t10, m10, h⟩ := Option.bind_eq_some_iff.mp h
      obtain ⟨⟨t11, t12⟩, m11, h⟩ := Option.bind_eq_some_iff.mp h
      have M7 := Aside0.mk m7
      have M8 := Aside0.mk m8
      have M9 := Aside0.mk m9
      have M10 := Aside0.mk m10
      have M11 := Aside0.mk m11
      have H := Aside0.mk h
      clear h m7 m8 m9 m10 m11
      obtain ⟨hp0, hp1, hp2, hp3, hp4, hp5, hp6⟩ := cells7_ (HO.out.at 2 rfl)
      obtain ⟨hq0, hq1, hq2, hq3, hq4, hq5, hq6⟩ := cells7_ (HO.out.at 1 rfl)
      go_wp2_with (first | (go_at_call 84; (with_reducible refine (spec_l01Add.calls k4 sm t3 t7 e7 _ M7.out).mono ?_); rintro e w8 ⟨rfl, hb⟩; replace HO := Aside0.mk (HO.out.below hb); clear hb) | ((with_reducible refine gate_store (t := 25) (p := 8) rfl ?_); refine store_event (t := 25) (p := 8) (v := ?vo_4) (w1 := (World.setCell (World.setCell (World.setCell (World.setCell (World.setCell (World.setCell (World.setCell w8 ⟨g3, 0, none⟩ (.bool t7.f0)) ⟨g3, 1, none⟩ (.int .u32 t7.f1.f0)) ⟨g3, 2, none⟩ (.int .u32 t7.f1.f1)) ⟨g3, 3, none⟩ (.int .u32 t7.f1.f2)) ⟨g3, 4, none⟩ (.int .u32 t7.f1.f3)) ⟨g3, 5, none⟩ (.int .u32 t7.f1.f4)) ⟨g3, 6, none⟩ (.int .u32 t7.f1.f5))) ?hg ?ho ?hn ?hr ?_; (case ho => rfl); (case hg => rfl); (case hn => rfl); (case hr => (try simp only [Act.put, List.setIfInBounds_toArray, List.set_cons_zero, List.set_cons_succ]); exact run_put7_ rfl (show _ = Value.pointer (some ⟨g3, 0, none⟩) from by rfl) (show _ = Value.agg #[.bool t7.f0, .int .u32 t7.f1.f0, .int .u32 t7.f1.f1, .int .u32 t7.f1.f2, .int .u32 t7.f1.f3, .int .u32 t7.f1.f4, .int .u32 t7.f1.f5] from by rfl) (HO.out.at 2 rfl) (by kernel_rfl) (by rfl)); intro w9 hw; replace HO := Aside0.mk (HO.out.put7 2 rfl hw rfl); clear hw))
      replace HO := Aside0.mk HO.out.drew
      refine start_ (n := 13) (S := fun w' => w'.cell? ⟨g2, 0, none⟩ = some (.bool u.f0) ∧ w'.cell? ⟨g2, 1, none⟩ = some (.int .u32 u.f1.f0) ∧ w'.cell? ⟨g2, 2, none⟩ = some (.int .u32 u.f1.f1) ∧ w'.cell? ⟨g2, 3, none⟩ = some (.int .u32 u.f1.f2) ∧ w'.cell? ⟨g2, 4, none⟩ = some (.int .u32 u.f1.f3) ∧ w'.cell? ⟨g2, 5, none⟩ = some (.int .u32 u.f1.f4) ∧ w'.cell? ⟨g2, 6, none⟩ = some (.int .u32 u.f1.f5) ∧ w'.cell? ⟨B0_, O0_, none⟩ = some (.int .i64 a0.f0) ∧ w'.cell? ⟨B0_, O0_ + 1, none⟩ = some (.int .i64 a0.f1) ∧ w'.cell? ⟨B0_, O0_ + 2, none⟩ = some (.int .i64 a0.f2) ∧ w'.cell? ⟨B0_, O0_ + 3, none⟩ = some (.int .i64 a0.f3) ∧ w'.cell? ⟨B0_, O0_ + 4, none⟩ = some (.bool a0.f4)) (ds := [11]) #[false, false, false, false, false, false, false, false, false, false, false, false, false] (by kernel_rfl) rfl rfl ⟨HO.out.cell 3 rfl 0 rfl, HO.out.cell 3 rfl 1 rfl, HO.out.cell 3 rfl 2 rfl, HO.out.cell 3 rfl 3 rfl, HO.out.cell 3 rfl 4 rfl, HO.out.cell 3 rfl 5 rfl, HO.out.cell 3 rfl 6 rfl, (HO.out.bel.cell (World.block_lt_of_cell? w _ (HQ.out.1))).trans (HQ.out.1), (HO.out.bel.cell (World.block_lt_of_cell? w _ (HQ.out.2.1))).trans (HQ.out.2.1), (HO.out.bel.cell (World.block_lt_of_cell? w _ (HQ.out.2.2.1))).trans (HQ.out.2.2.1), (HO.out.bel.cell (World.block_lt_of_cell? w _ (HQ.out.2.2.2.1))).trans (HQ.out.2.2.2.1), (HO.out.bel.cell (World.block_lt_of_cell? w _ (HQ.out.2.2.2.2))).trans (HQ.out.2.2.2.2)⟩ (fun hHeld => ?_)
      refine pure_ (i := 1) (N := some 60) (v := ?_) (a' := ?_) #[false, true, false, false, false, false, false, false, false, false, false, false, false] rfl rfl (by kernel_rfl) (fun _ _ _ h => h) (Or.inl ⟨by rfl, ?_⟩) ?_ ?_
      rotate_left
      · intro w'
        go_simp
        with_reducible rfl
      rotate_left
      · simp only [Act.put, List.setIfInBounds_toArray, List.set_cons_zero, List.set_cons_succ, i64_w, i32_w]
        rfl
      refine pure_ (i := 2) (N := some 61) (v := ?_) (a' := ?_) #[false, true, true, false, false, false, false, false, false, false, false, false, false] rfl rfl (by kernel_rfl) (fun _ _ _ h => h) (Or.inl ⟨by rfl, ?_⟩) ?_ ?_
      rotate_left
      · intro w'
        go_simp
        with_reducible rfl
      rotate_left
      · simp only [Act.put, List.setIfInBounds_toArray, List.set_cons_zero, List.set_cons_succ, i64_w, i32_w]
        rfl
      refine pure_ (i := 3) (N := some 62) (v := ?_) (a' := ?_) #[false, true, true, true, false, false, false, false, false, false, false, false, false] rfl rfl (by kernel_rfl) (fun _ _ _ h => h) (Or.inl ⟨by rfl, ?_⟩) ?_ ?_
      rotate_left
      · intro w'
        go_simp
        with_reducible rfl
      rotate_left
      · simp only [Act.put, List.setIfInBounds_toArray, List.set_cons_zero, List.set_cons_succ, i64_w, i32_w]
        rfl
      refine take_ (i := 0) (N := some 59) (v := ?_) (a' := ?_) #[true, true, true, true, false, false, false, false, false, false, false, false, false] rfl rfl (by kernel_rfl) (fun _ _ _ h => h) (Or.inl ⟨by rfl, ?_⟩) hHeld ?_ ?_
      rotate_left
      · rintro w' ⟨s0, s1, s2, s3, s4, s5, s6, s7, s8, s9, s10, s11⟩
        go_simp
        with_reducible rfl
      rotate_left
      · simp only [Act.put, List.setIfInBounds_toArray, List.set_cons_zero, List.set_cons_succ, i64_w, i32_w]
        rfl
      refine take_ (i := 4) (N := some 63) (v := ?_) (a' := ?_) #[true, true, true, true, true, false, false, false, false, false, false, false, false] rfl rfl (by kernel_rfl) (fun _ _ _ h => h) (Or.inl ⟨by rfl, ?_⟩) hHeld ?_ ?_
      rotate_left
      · rintro w' ⟨s0, s1, s2, s3, s4, s5, s6, s7, s8, s9, s10, s11⟩
        go_simp
        with_reducible rfl
      rotate_left
      · simp only [Act.put, List.setIfInBounds_toArray, List.set_cons_zero, List.set_cons_succ, i64_w, i32_w]
        rfl
      refine join_ (σ := Nat) 2 #[true, true, true, true, true, true, true, true, true, true, true, false, false] (fun s_ => [(64, .agg #[.bool t8.f0, .int .u32 t8.f1.f0, .int .u32 t8.f1.f1, .int .u32 t8.f1.f2, .int .u32 t8.f1.f3, .int .u32 t8.f1.f4, .int .u32 t8.f1.f5]), (65, .tuple #[.agg #[.bool t9.f0, .int .u32 t9.f1.f0, .int .u32 t9.f1.f1, .int .u32 t9.f1.f2, .int .u32 t9.f1.f3, .int .u32 t9.f1.f4, .int .u32 t9.f1.f5], .int .i64 e9]), (58, .tuple #[.agg #[.bool t9.f0, .int .u32 t9.f1.f0, .int .u32 t9.f1.f1, .int .u32 t9.f1.f2, .int .u32 t9.f1.f3, .int .u32 t9.f1.f4, .int .u32 t9.f1.f5], .int .i64 e9]), (66, .agg #[.bool t9.f0, .int .u32 t9.f1.f0, .int .u32 t9.f1.f1, .int .u32 t9.f1.f2, .int .u32 t9.f1.f3, .int .u32 t9.f1.f4, .int .u32 t9.f1.f5]), (67, .int .i64 e9), (12, Value.pointer (some ⟨s_, 0, none⟩))]) (fun s_ w' => (w'.cell? ⟨g2, 0, none⟩ = some (.bool u.f0) ∧ w'.cell? ⟨g2, 1, none⟩ = some (.int .u32 u.f1.f0) ∧ w'.cell? ⟨g2, 2, none⟩ = some (.int .u32 u.f1.f1) ∧ w'.cell? ⟨g2, 3, none⟩ = some (.int .u32 u.f1.f2) ∧ w'.cell? ⟨g2, 4, none⟩ = some (.int .u32 u.f1.f3) ∧ w'.cell? ⟨g2, 5, none⟩ = some (.int .u32 u.f1.f4) ∧ w'.cell? ⟨g2, 6, none⟩ = some (.int .u32 u.f1.f5) ∧ w'.cell? ⟨B0_, O0_, none⟩ = some (.int .i64 a0.f0) ∧ w'.cell? ⟨B0_, O0_ + 1, none⟩ = some (.int .i64 a0.f1) ∧ w'.cell? ⟨B0_, O0_ + 2, none⟩ = some (.int .i64 a0.f2) ∧ w'.cell? ⟨B0_, O0_ + 3, none⟩ = some (.int .i64 a0.f3) ∧ w'.cell? ⟨B0_, O0_ + 4, none⟩ = some (.bool a0.f4)) ∧ Wide.OB w.heap.size w w' [(s_, #[.bool false, .int .u32 0, .int .u32 0, .int .u32 0, .int .u32 0, .int .u32 0, .int .u32 0], 25), (g5, #[.bool t4.f0, .int .u32 t4.f1.f0, .int .u32 t4.f1.f1, .int .u32 t4.f1.f2, .int .u32 t4.f1.f3, .int .u32 t4.f1.f4, .int .u32 t4.f1.f5], 25), (g4, #[.bool t3.f0, .int .u32 t3.f1.f0, .int .u32 t3.f1.f1, .int .u32 t3.f1.f2, .int .u32 t3.f1.f3, .int .u32 t3.f1.f4, .int .u32 t3.f1.f5], 25), (g3, #[.bool t7.f0, .int .u32 t7.f1.f0, .int .u32 t7.f1.f1, .int .u32 t7.f1.f2, .int .u32 t7.f1.f3, .int .u32 t7.f1.f4, .int .u32 t7.f1.f5], 25), (g2, #[.bool u.f0, .int .u32 u.f1.f0, .int .u32 u.f1.f1, .int .u32 u.f1.f2, .int .u32 u.f1.f3, .int .u32 u.f1.f4, .int .u32 u.f1.f5], 25), (g1, #[.bool false, .int .u32 0, .int .u32 0, .int .u32 0, .int .u32 0, .int .u32 0, .int .u32 0], 25)]) ?_ ?_
      rotate_left
      · intro hJ5_6_10
        refine join_ (σ := Unit) 3 #[true, true, true, true, true, true, true, true, true, true, false, false, false] (fun s_ => [(64, .agg #[.bool t8.f0, .int .u32 t8.f1.f0, .int .u32 t8.f1.f1, .int .u32 t8.f1.f2, .int .u32 t8.f1.f3, .int .u32 t8.f1.f4, .int .u32 t8.f1.f5]), (65, .tuple #[.agg #[.bool t9.f0, .int .u32 t9.f1.f0, .int .u32 t9.f1.f1, .int .u32 t9.f1.f2, .int .u32 t9.f1.f3, .int .u32 t9.f1.f4, .int .u32 t9.f1.f5], .int .i64 e9]), (58, .tuple #[.agg #[.bool t9.f0, .int .u32 t9.f1.f0, .int .u32 t9.f1.f1, .int .u32 t9.f1.f2, .int .u32 t9.f1.f3, .int .u32 t9.f1.f4, .int .u32 t9.f1.f5], .int .i64 e9]), (66, .agg #[.bool t9.f0, .int .u32 t9.f1.f0, .int .u32 t9.f1.f1, .int .u32 t9.f1.f2, .int .u32 t9.f1.f3, .int .u32 t9.f1.f4, .int .u32 t9.f1.f5]), (67, .int .i64 e9)]) (fun s_ w' => (w'.cell? ⟨g2, 0, none⟩ = some (.bool u.f0) ∧ w'.cell? ⟨g2, 1, none⟩ = some (.int .u32 u.f1.f0) ∧ w'.cell? ⟨g2, 2, none⟩ = some (.int .u32 u.f1.f1) ∧ w'.cell? ⟨g2, 3, none⟩ = some (.int .u32 u.f1.f2) ∧ w'.cell? ⟨g2, 4, none⟩ = some (.int .u32 u.f1.f3) ∧ w'.cell? ⟨g2, 5, none⟩ = some (.int .u32 u.f1.f4) ∧ w'.cell? ⟨g2, 6, none⟩ = some (.int .u32 u.f1.f5) ∧ w'.cell? ⟨B0_, O0_, none⟩ = some (.int .i64 a0.f0) ∧ w'.cell? ⟨B0_, O0_ + 1, none⟩ = some (.int .i64 a0.f1) ∧ w'.cell? ⟨B0_, O0_ + 2, none⟩ = some (.int .i64 a0.f2) ∧ w'.cell? ⟨B0_, O0_ + 3, none⟩ = some (.int .i64 a0.f3) ∧ w'.cell? ⟨B0_, O0_ + 4, none⟩ = some (.bool a0.f4)) ∧ Wide.OB w.heap.size w w' [(g5, #[.bool t4.f0, .int .u32 t4.f1.f0, .int .u32 t4.f1.f1, .int .u32 t4.f1.f2, .int .u32 t4.f1.f3, .int .u32 t4.f1.f4, .int .u32 t4.f1.f5], 25), (g4, #[.bool t3.f0, .int .u32 t3.f1.f0, .int .u32 t3.f1.f1, .int .u32 t3.f1.f2, .int .u32 t3.f1.f3, .int .u32 t3.f1.f4, .int .u32 t3.f1.f5], 25), (g3, #[.bool t7.f0, .int .u32 t7.f1.f0, .int .u32 t7.f1.f1, .int .u32 t7.f1.f2, .int .u32 t7.f1.f3, .int .u32 t7.f1.f4, .int .u32 t7.f1.f5], 25), (g2, #[.bool u.f0, .int .u32 u.f1.f0, .int .u32 u.f1.f1, .int .u32 u.f1.f2, .int .u32 u.f1.f3, .int .u32 u.f1.f4, .int .u32 u.f1.f5], 25), (g1, #[.bool false, .int .u32 0, .int .u32 0, .int .u32 0, .int .u32 0, .int .u32 0, .int .u32 0], 25)]) ?_ ?_
        rotate_left
        · intro hJ5_6
          refine join_ (σ := Nat) 6 #[true, true, true, true, true, true, false, false, false, false, true, false, false] (fun s_ => [(64, .agg #[.bool t8.f0, .int .u32 t8.f1.f0, .int .u32 t8.f1.f1, .int .u32 t8.f1.f2, .int .u32 t8.f1.f3, .int .u32 t8.f1.f4, .int .u32 t8.f1.f5]), (12, Value.pointer (some ⟨s_, 0, none⟩))]) (fun s_ w' => (w'.cell? ⟨g2, 0, none⟩ = some (.bool u.f0) ∧ w'.cell? ⟨g2, 1, none⟩ = some (.int .u32 u.f1.f0) ∧ w'.cell? ⟨g2, 2, none⟩ = some (.int .u32 u.f1.f1) ∧ w'.cell? ⟨g2, 3, none⟩ = some (.int .u32 u.f1.f2) ∧ w'.cell? ⟨g2, 4, none⟩ = some (.int .u32 u.f1.f3) ∧ w'.cell? ⟨g2, 5, none⟩ = some (.int .u32 u.f1.f4) ∧ w'.cell? ⟨g2, 6, none⟩ = some (.int .u32 u.f1.f5) ∧ w'.cell? ⟨B0_, O0_, none⟩ = some (.int .i64 a0.f0) ∧ w'.cell? ⟨B0_, O0_ + 1, none⟩ = some (.int .i64 a0.f1) ∧ w'.cell? ⟨B0_, O0_ + 2, none⟩ = some (.int .i64 a0.f2) ∧ w'.cell? ⟨B0_, O0_ + 3, none⟩ = some (.int .i64 a0.f3) ∧ w'.cell? ⟨B0_, O0_ + 4, none⟩ = some (.bool a0.f4)) ∧ Wide.OB w.heap.size w w' [(s_, #[.bool false, .int .u32 0, .int .u32 0, .int .u32 0, .int .u32 0, .int .u32 0, .int .u32 0], 25), (g5, #[.bool t4.f0, .int .u32 t4.f1.f0, .int .u32 t4.f1.f1, .int .u32 t4.f1.f2, .int .u32 t4.f1.f3, .int .u32 t4.f1.f4, .int .u32 t4.f1.f5], 25), (g4, #[.bool t3.f0, .int .u32 t3.f1.f0, .int .u32 t3.f1.f1, .int .u32 t3.f1.f2, .int .u32 t3.f1.f3, .int .u32 t3.f1.f4, .int .u32 t3.f1.f5], 25), (g3, #[.bool t7.f0, .int .u32 t7.f1.f0, .int .u32 t7.f1.f1, .int .u32 t7.f1.f2, .int .u32 t7.f1.f3, .int .u32 t7.f1.f4, .int .u32 t7.f1.f5], 25), (g2, #[.bool u.f0, .int .u32 u.f1.f0, .int .u32 u.f1.f1, .int .u32 u.f1.f2, .int .u32 u.f1.f3, .int .u32 u.f1.f4, .int .u32 u.f1.f5], 25), (g1, #[.bool false, .int .u32 0, .int .u32 0, .int .u32 0, .int .u32 0, .int .u32 0, .int .u32 0], 25)]) ?_ ?_
          rotate_left
          · intro hJ5_10
            refine join_ (σ := Unit) 7 #[true, true, true, true, true, true, false, false, false, false, false, false, false] (fun s_ => [(64, .agg #[.bool t8.f0, .int .u32 t8.f1.f0, .int .u32 t8.f1.f1, .int .u32 t8.f1.f2, .int .u32 t8.f1.f3, .int .u32 t8.f1.f4, .int .u32 t8.f1.f5])]) (fun s_ w' => (w'.cell? ⟨g2, 0, none⟩ = some (.bool u.f0) ∧ w'.cell? ⟨g2, 1, none⟩ = some (.int .u32 u.f1.f0) ∧ w'.cell? ⟨g2, 2, none⟩ = some (.int .u32 u.f1.f1) ∧ w'.cell? ⟨g2, 3, none⟩ = some (.int .u32 u.f1.f2) ∧ w'.cell? ⟨g2, 4, none⟩ = some (.int .u32 u.f1.f3) ∧ w'.cell? ⟨g2, 5, none⟩ = some (.int .u32 u.f1.f4) ∧ w'.cell? ⟨g2, 6, none⟩ = some (.int .u32 u.f1.f5) ∧ w'.cell? ⟨B0_, O0_, none⟩ = some (.int .i64 a0.f0) ∧ w'.cell? ⟨B0_, O0_ + 1, none⟩ = some (.int .i64 a0.f1) ∧ w'.cell? ⟨B0_, O0_ + 2, none⟩ = some (.int .i64 a0.f2) ∧ w'.cell? ⟨B0_, O0_ + 3, none⟩ = some (.int .i64 a0.f3) ∧ w'.cell? ⟨B0_, O0_ + 4, none⟩ = some (.bool a0.f4)) ∧ Wide.OB w.heap.size w w' [(g5, #[.bool t4.f0, .int .u32 t4.f1.f0, .int .u32 t4.f1.f1, .int .u32 t4.f1.f2, .int .u32 t4.f1.f3, .int .u32 t4.f1.f4, .int .u32 t4.f1.f5], 25), (g4, #[.bool t3.f0, .int .u32 t3.f1.f0, .int .u32 t3.f1.f1, .int .u32 t3.f1.f2, .int .u32 t3.f1.f3, .int .u32 t3.f1.f4, .int .u32 t3.f1.f5], 25), (g3, #[.bool t7.f0, .int .u32 t7.f1.f0, .int .u32 t7.f1.f1, .int .u32 t7.f1.f2, .int .u32 t7.f1.f3, .int .u32 t7.f1.f4, .int .u32 t7.f1.f5], 25), (g2, #[.bool u.f0, .int .u32 u.f1.f0, .int .u32 u.f1.f1, .int .u32 u.f1.f2, .int .u32 u.f1.f3, .int .u32 u.f1.f4, .int .u32 u.f1.f5], 25), (g1, #[.bool false, .int .u32 0, .int .u32 0, .int .u32 0, .int .u32 0, .int .u32 0, .int .u32 0], 25)]) ?_ ?_
            rotate_left
            · intro hJ5
              refine join_ (σ := Nat) 7 #[true, true, true, true, true, false, false, false, false, false, true, false, false] (fun s_ => [(12, Value.pointer (some ⟨s_, 0, none⟩))]) (fun s_ w' => (w'.cell? ⟨g2, 0, none⟩ = some (.bool u.f0) ∧ w'.cell? ⟨g2, 1, none⟩ = some (.int .u32 u.f1.f0) ∧ w'.cell? ⟨g2, 2, none⟩ = some (.int .u32 u.f1.f1) ∧ w'.cell? ⟨g2, 3, none⟩ = some (.int .u32 u.f1.f2) ∧ w'.cell? ⟨g2, 4, none⟩ = some (.int .u32 u.f1.f3) ∧ w'.cell? ⟨g2, 5, none⟩ = some (.int .u32 u.f1.f4) ∧ w'.cell? ⟨g2, 6, none⟩ = some (.int .u32 u.f1.f5) ∧ w'.cell? ⟨B0_, O0_, none⟩ = some (.int .i64 a0.f0) ∧ w'.cell? ⟨B0_, O0_ + 1, none⟩ = some (.int .i64 a0.f1) ∧ w'.cell? ⟨B0_, O0_ + 2, none⟩ = some (.int .i64 a0.f2) ∧ w'.cell? ⟨B0_, O0_ + 3, none⟩ = some (.int .i64 a0.f3) ∧ w'.cell? ⟨B0_, O0_ + 4, none⟩ = some (.bool a0.f4)) ∧ Wide.OB w.heap.size w w' [(s_, #[.bool false, .int .u32 0, .int .u32 0, .int .u32 0, .int .u32 0, .int .u32 0, .int .u32 0], 25), (g5, #[.bool t4.f0, .int .u32 t4.f1.f0, .int .u32 t4.f1.f1, .int .u32 t4.f1.f2, .int .u32 t4.f1.f3, .int .u32 t4.f1.f4, .int .u32 t4.f1.f5], 25), (g4, #[.bool t3.f0, .int .u32 t3.f1.f0, .int .u32 t3.f1.f1, .int .u32 t3.f1.f2, .int .u32 t3.f1.f3, .int .u32 t3.f1.f4, .int .u32 t3.f1.f5], 25), (g3, #[.bool t7.f0, .int .u32 t7.f1.f0, .int .u32 t7.f1.f1, .int .u32 t7.f1.f2, .int .u32 t7.f1.f3, .int .u32 t7.f1.f4, .int .u32 t7.f1.f5], 25), (g2, #[.bool u.f0, .int .u32 u.f1.f0, .int .u32 u.f1.f1, .int .u32 u.f1.f2, .int .u32 u.f1.f3, .int .u32 u.f1.f4, .int .u32 u.f1.f5], 25), (g1, #[.bool false, .int .u32 0, .int .u32 0, .int .u32 0, .int .u32 0, .int .u32 0, .int .u32 0], 25)]) ?_ ?_
              rotate_left
              · intro hJ10
                refine two_ (i := 5) (j := 10) (Ni := some 64) (Nj := some 12) #[true, true, true, true, true, true, false, false, false, false, false, false, false] #[true, true, true, true, true, false, false, false, false, false, true, false, false] rfl rfl rfl rfl (by kernel_rfl) (by decide) (by decide) (fun K hK => ?_) (fun K hK => ?_)
                · skip
                  refine goes_ Try.func83 (by kernel_rfl) rfl #[.int .i64 a0.f0] (by rfl) rfl rfl (by simp only [List.map_toArray, List.map_cons, List.map_nil]; rfl) ?_
                  with_reducible refine (spec_l01Of.calls _ t8 _ M8.out).mono ?_
                  rintro e wc ⟨rfl, hb⟩
                  refine ⟨_, rfl, ?_⟩
                  replace HO := Aside0.mk (HO.out.below hb)
                  clear hb
                  refine hK.out _ _ ⟨HO.out.cell 3 rfl 0 rfl, HO.out.cell 3 rfl 1 rfl, HO.out.cell 3 rfl 2 rfl, HO.out.cell 3 rfl 3 rfl, HO.out.cell 3 rfl 4 rfl, HO.out.cell 3 rfl 5 rfl, HO.out.cell 3 rfl 6 rfl, (HO.out.bel.cell (World.block_lt_of_cell? w _ (HQ.out.1))).trans (HQ.out.1), (HO.out.bel.cell (World.block_lt_of_cell? w _ (HQ.out.2.1))).trans (HQ.out.2.1), (HO.out.bel.cell (World.block_lt_of_cell? w _ (HQ.out.2.2.1))).trans (HQ.out.2.2.1), (HO.out.bel.cell (World.block_lt_of_cell? w _ (HQ.out.2.2.2.1))).trans (HQ.out.2.2.2.1), (HO.out.bel.cell (World.block_lt_of_cell? w _ (HQ.out.2.2.2.2))).trans (HQ.out.2.2.2.2)⟩ (fun hHeld => ?_)
                  clear hK K
                  refine norm_ (a' := ?_) ?_ ?_
                  rotate_left
                  · show Act.put _ (some 64) _ = _
                    simp only [Act.put, List.setIfInBounds_toArray, List.set_cons_zero, List.set_cons_succ, i64_w, i32_w]
                    rfl
                  exact norm_ (by first | (simp only [putAll, Act.put, List.setIfInBounds_toArray, List.set_cons_zero, List.set_cons_succ]; done) | (simp only [putAll, Act.put, List.setIfInBounds_toArray, List.set_cons_zero, List.set_cons_succ]; rfl)) (hJ5 () _ ⟨hHeld, HO.out⟩)
                · skip
                  refine box_step ?hg (N := 12) ?hd (cs := #[.bool false, .int .u32 0, .int .u32 0, .int .u32 0, .int .u32 0, .int .u32 0, .int .u32 0]) (t := 25) ?hr ?_; (case hd => rfl); (case hg => rfl); (case hr => first | (go_simp; done) | (go_simp; rfl))
                  intro g6 hg wn hbox hb
                  replace HO := Aside0.mk (HO.out.box hg hbox hb)
                  clear hg hbox hb
                  refine hK.out _ _ ⟨HO.out.cell 4 rfl 0 rfl, HO.out.cell 4 rfl 1 rfl, HO.out.cell 4 rfl 2 rfl, HO.out.cell 4 rfl 3 rfl, HO.out.cell 4 rfl 4 rfl, HO.out.cell 4 rfl 5 rfl, HO.out.cell 4 rfl 6 rfl, (HO.out.bel.cell (World.block_lt_of_cell? w _ (HQ.out.1))).trans (HQ.out.1), (HO.out.bel.cell (World.block_lt_of_cell? w _ (HQ.out.2.1))).trans (HQ.out.2.1), (HO.out.bel.cell (World.block_lt_of_cell? w _ (HQ.out.2.2.1))).trans (HQ.out.2.2.1), (HO.out.bel.cell (World.block_lt_of_cell? w _ (HQ.out.2.2.2.1))).trans (HQ.out.2.2.2.1), (HO.out.bel.cell (World.block_lt_of_cell? w _ (HQ.out.2.2.2.2))).trans (HQ.out.2.2.2.2)⟩ (fun hHeld => ?_)
                  clear hK K
                  refine norm_ (a' := ?_) ?_ ?_
                  rotate_left
                  · show Act.put _ (some 12) _ = _
                    simp only [Act.put, List.setIfInBounds_toArray, List.set_cons_zero, List.set_cons_succ, i64_w, i32_w]
                    rfl
                  exact norm_ (by first | (simp only [putAll, Act.put, List.setIfInBounds_toArray, List.set_cons_zero, List.set_cons_succ]; done) | (simp only [putAll, Act.put, List.setIfInBounds_toArray, List.set_cons_zero, List.set_cons_succ]; rfl)) (hJ10 g6 _ ⟨hHeld, HO.out⟩)
              · skip
                rintro g6 wj ⟨hHeld, hO_⟩
                replace HO := Aside0.mk hO_
                clear hO_
                refine norm_ (a' := ?_) ?_ ?_
                rotate_left
                · simp only [putAll, Act.put, List.setIfInBounds_toArray, List.set_cons_zero, List.set_cons_succ]
                  rfl
                refine one_ (i := 5) (N := some 64) #[true, true, true, true, true, true, false, false, false, false, true, false, false] rfl rfl (by kernel_rfl) (by decide) (fun K hK => ?_)
                refine goes_ Try.func83 (by kernel_rfl) rfl #[.int .i64 a0.f0] (by rfl) rfl rfl (by simp only [List.map_toArray, List.map_cons, List.map_nil]; rfl) ?_
                with_reducible refine (spec_l01Of.calls _ t8 _ M8.out).mono ?_
                rintro e wc ⟨rfl, hb⟩
                refine ⟨_, rfl, ?_⟩
                replace HO := Aside0.mk (HO.out.below hb)
                clear hb
                refine hK.out _ _ ⟨HO.out.cell 4 rfl 0 rfl, HO.out.cell 4 rfl 1 rfl, HO.out.cell 4 rfl 2 rfl, HO.out.cell 4 rfl 3 rfl, HO.out.cell 4 rfl 4 rfl, HO.out.cell 4 rfl 5 rfl, HO.out.cell 4 rfl 6 rfl, (HO.out.bel.cell (World.block_lt_of_cell? w _ (HQ.out.1))).trans (HQ.out.1), (HO.out.bel.cell (World.block_lt_of_cell? w _ (HQ.out.2.1))).trans (HQ.out.2.1), (HO.out.bel.cell (World.block_lt_of_cell? w _ (HQ.out.2.2.1))).trans (HQ.out.2.2.1), (HO.out.bel.cell (World.block_lt_of_cell? w _ (HQ.out.2.2.2.1))).trans (HQ.out.2.2.2.1), (HO.out.bel.cell (World.block_lt_of_cell? w _ (HQ.out.2.2.2.2))).trans (HQ.out.2.2.2.2)⟩ (fun hHeld => ?_)
                clear hK K
                refine norm_ (a' := ?_) ?_ ?_
                rotate_left
                · show Act.put _ (some 64) _ = _
                  simp only [Act.put, List.setIfInBounds_toArray, List.set_cons_zero, List.set_cons_succ, i64_w, i32_w]
                  rfl
                exact norm_ (by first | (simp only [putAll, Act.put, List.setIfInBounds_toArray, List.set_cons_zero, List.set_cons_succ]; done) | (simp only [putAll, Act.put, List.setIfInBounds_toArray, List.set_cons_zero, List.set_cons_succ]; rfl)) (hJ5_10 g6 _ ⟨hHeld, HO.out⟩)
            · skip
              rintro _u wj ⟨hHeld, hO_⟩
              replace HO := Aside0.mk hO_
              clear hO_
              refine norm_ (a' := ?_) ?_ ?_
              rotate_left
              · simp only [putAll, Act.put, List.setIfInBounds_toArray, List.set_cons_zero, List.set_cons_succ]
                rfl
              refine two_ (i := 6) (j := 10) (Ni := some 65) (Nj := some 12) #[true, true, true, true, true, true, true, false, false, false, false, false, false] #[true, true, true, true, true, true, false, false, false, false, true, false, false] rfl rfl rfl rfl (by kernel_rfl) (by decide) (by decide) (fun K hK => ?_) (fun K hK => ?_)
              · skip
                refine goes_ Try.func82 (by kernel_rfl) rfl #[.agg #[.bool u.f0, .int .u32 u.f1.f0, .int .u32 u.f1.f1, .int .u32 u.f1.f2, .int .u32 u.f1.f3, .int .u32 u.f1.f4, .int .u32 u.f1.f5], .agg #[.bool t8.f0, .int .u32 t8.f1.f0, .int .u32 t8.f1.f1, .int .u32 t8.f1.f2, .int .u32 t8.f1.f3, .int .u32 t8.f1.f4, .int .u32 t8.f1.f5]] (by rfl) rfl rfl (by simp only [List.map_toArray, List.map_cons, List.map_nil]; rfl) ?_
                with_reducible refine (spec_l01Mul.calls k4 u t8 t9 e9 _ M9.out).mono ?_
                rintro e wc ⟨rfl, hb⟩
                refine ⟨_, rfl, ?_⟩
                replace HO := Aside0.mk (HO.out.below hb)
                clear hb
                refine hK.out _ _ ⟨HO.out.cell 3 rfl 0 rfl, HO.out.cell 3 rfl 1 rfl, HO.out.cell 3 rfl 2 rfl, HO.out.cell 3 rfl 3 rfl, HO.out.cell 3 rfl 4 rfl, HO.out.cell 3 rfl 5 rfl, HO.out.cell 3 rfl 6 rfl, (HO.out.bel.cell (World.block_lt_of_cell? w _ (HQ.out.1))).trans (HQ.out.1), (HO.out.bel.cell (World.block_lt_of_cell? w _ (HQ.out.2.1))).trans (HQ.out.2.1), (HO.out.bel.cell (World.block_lt_of_cell? w _ (HQ.out.2.2.1))).trans (HQ.out.2.2.1), (HO.out.bel.cell (World.block_lt_of_cell? w _ (HQ.out.2.2.2.1))).trans (HQ.out.2.2.2.1), (HO.out.bel.cell (World.block_lt_of_cell? w _ (HQ.out.2.2.2.2))).trans (HQ.out.2.2.2.2)⟩ (fun hHeld => ?_)
                clear hK K
                refine norm_ (a' := ?_) ?_ ?_
                rotate_left
                · show Act.put _ (some 65) _ = _
                  simp only [Act.put, List.setIfInBounds_toArray, List.set_cons_zero, List.set_cons_succ, i64_w, i32_w]
                  rfl
                refine pure_ (i := 7) (N := some 58) (v := ?_) (a' := ?_) #[true, true, true, true, true, true, true, true, false, false, false, false, false] rfl rfl (by kernel_rfl) (fun _ _ _ h => h) (Or.inl ⟨by rfl, ?_⟩) ?_ ?_
                rotate_left
                · intro w'
                  go_simp
                  with_reducible rfl
                rotate_left
                · simp only [Act.put, List.setIfInBounds_toArray, List.set_cons_zero, List.set_cons_succ, i64_w, i32_w]
                  rfl
                refine pure_ (i := 8) (N := some 66) (v := ?_) (a' := ?_) #[true, true, true, true, true, true, true, true, true, false, false, false, false] rfl rfl (by kernel_rfl) (fun _ _ _ h => h) (Or.inl ⟨by rfl, ?_⟩) ?_ ?_
                rotate_left
                · intro w'
                  go_simp
                  with_reducible rfl
                rotate_left
                · simp only [Act.put, List.setIfInBounds_toArray, List.set_cons_zero, List.set_cons_succ, i64_w, i32_w]
                  rfl
                refine pure_ (i := 9) (N := some 67) (v := ?_) (a' := ?_) #[true, true, true, true, true, true, true, true, true, true, false, false, false] rfl rfl (by kernel_rfl) (fun _ _ _ h => h) (Or.inl ⟨by rfl, ?_⟩) ?_ ?_
                rotate_left
                · intro w'
                  go_simp
                  with_reducible rfl
                rotate_left
                · simp only [Act.put, List.setIfInBounds_toArray, List.set_cons_zero, List.set_cons_succ, i64_w, i32_w]
                  rfl
                exact norm_ (by first | (simp only [putAll, Act.put, List.setIfInBounds_toArray, List.set_cons_zero, List.set_cons_succ]; done) | (simp only [putAll, Act.put, List.setIfInBounds_toArray, List.set_cons_zero, List.set_cons_succ]; rfl)) (hJ5_6 () _ ⟨hHeld, HO.out⟩)
              · skip
                refine box_step ?hg (N := 12) ?hd (cs := #[.bool false, .int .u32 0, .int .u32 0, .int .u32 0, .int .u32 0, .int .u32 0, .int .u32 0]) (t := 25) ?hr ?_; (case hd => rfl); (case hg => rfl); (case hr => first | (go_simp; done) | (go_simp; rfl))
                intro g6 hg wn hbox hb
                replace HO := Aside0.mk (HO.out.box hg hbox hb)
                clear hg hbox hb
                refine hK.out _ _ ⟨HO.out.cell 4 rfl 0 rfl, HO.out.cell 4 rfl 1 rfl, HO.out.cell 4 rfl 2 rfl, HO.out.cell 4 rfl 3 rfl, HO.out.cell 4 rfl 4 rfl, HO.out.cell 4 rfl 5 rfl, HO.out.cell 4 rfl 6 rfl, (HO.out.bel.cell (World.block_lt_of_cell? w _ (HQ.out.1))).trans (HQ.out.1), (HO.out.bel.cell (World.block_lt_of_cell? w _ (HQ.out.2.1))).trans (HQ.out.2.1), (HO.out.bel.cell (World.block_lt_of_cell? w _ (HQ.out.2.2.1))).trans (HQ.out.2.2.1), (HO.out.bel.cell (World.block_lt_of_cell? w _ (HQ.out.2.2.2.1))).trans (HQ.out.2.2.2.1), (HO.out.bel.cell (World.block_lt_of_cell? w _ (HQ.out.2.2.2.2))).trans (HQ.out.2.2.2.2)⟩ (fun hHeld => ?_)
                clear hK K
                refine norm_ (a' := ?_) ?_ ?_
                rotate_left
                · show Act.put _ (some 12) _ = _
                  simp only [Act.put, List.setIfInBounds_toArray, List.set_cons_zero, List.set_cons_succ, i64_w, i32_w]
                  rfl
                exact norm_ (by first | (simp only [putAll, Act.put, List.setIfInBounds_toArray, List.set_cons_zero, List.set_cons_succ]; done) | (simp only [putAll, Act.put, List.setIfInBounds_toArray, List.set_cons_zero, List.set_cons_succ]; rfl)) (hJ5_10 g6 _ ⟨hHeld, HO.out⟩)
          · skip
            rintro g6 wj ⟨hHeld, hO_⟩
            replace HO := Aside0.mk hO_
            clear hO_
            refine norm_ (a' := ?_) ?_ ?_
            rotate_left
            · simp only [putAll, Act.put, List.setIfInBounds_toArray, List.set_cons_zero, List.set_cons_succ]
              rfl
            refine one_ (i := 6) (N := some 65) #[true, true, true, true, true, true, true, false, false, false, true, false, false] rfl rfl (by kernel_rfl) (by decide) (fun K hK => ?_)
            refine goes_ Try.func82 (by kernel_rfl) rfl #[.agg #[.bool u.f0, .int .u32 u.f1.f0, .int .u32 u.f1.f1, .int .u32 u.f1.f2, .int .u32 u.f1.f3, .int .u32 u.f1.f4, .int .u32 u.f1.f5], .agg #[.bool t8.f0, .int .u32 t8.f1.f0, .int .u32 t8.f1.f1, .int .u32 t8.f1.f2, .int .u32 t8.f1.f3, .int .u32 t8.f1.f4, .int .u32 t8.f1.f5]] (by rfl) rfl rfl (by simp only [List.map_toArray, List.map_cons, List.map_nil]; rfl) ?_
            with_reducible refine (spec_l01Mul.calls k4 u t8 t9 e9 _ M9.out).mono ?_
            rintro e wc ⟨rfl, hb⟩
            refine ⟨_, rfl, ?_⟩
            replace HO := Aside0.mk (HO.out.below hb)
            clear hb
            refine hK.out _ _ ⟨HO.out.cell 4 rfl 0 rfl, HO.out.cell 4 rfl 1 rfl, HO.out.cell 4 rfl 2 rfl, HO.out.cell 4 rfl 3 rfl, HO.out.cell 4 rfl 4 rfl, HO.out.cell 4 rfl 5 rfl, HO.out.cell 4 rfl 6 rfl, (HO.out.bel.cell (World.block_lt_of_cell? w _ (HQ.out.1))).trans (HQ.out.1), (HO.out.bel.cell (World.block_lt_of_cell? w _ (HQ.out.2.1))).trans (HQ.out.2.1), (HO.out.bel.cell (World.block_lt_of_cell? w _ (HQ.out.2.2.1))).trans (HQ.out.2.2.1), (HO.out.bel.cell (World.block_lt_of_cell? w _ (HQ.out.2.2.2.1))).trans (HQ.out.2.2.2.1), (HO.out.bel.cell (World.block_lt_of_cell? w _ (HQ.out.2.2.2.2))).trans (HQ.out.2.2.2.2)⟩ (fun hHeld => ?_)
            clear hK K
            refine norm_ (a' := ?_) ?_ ?_
            rotate_left
            · show Act.put _ (some 65) _ = _
              simp only [Act.put, List.setIfInBounds_toArray, List.set_cons_zero, List.set_cons_succ, i64_w, i32_w]
              rfl
            refine pure_ (i := 7) (N := some 58) (v := ?_) (a' := ?_) #[true, true, true, true, true, true, true, true, false, false, true, false, false] rfl rfl (by kernel_rfl) (fun _ _ _ h => h) (Or.inl ⟨by rfl, ?_⟩) ?_ ?_
            rotate_left
            · intro w'
              go_simp
              with_reducible rfl
            rotate_left
            · simp only [Act.put, List.setIfInBounds_toArray, List.set_cons_zero, List.set_cons_succ, i64_w, i32_w]
              rfl
            refine pure_ (i := 8) (N := some 66) (v := ?_) (a' := ?_) #[true, true, true, true, true, true, true, true, true, false, true, false, false] rfl rfl (by kernel_rfl) (fun _ _ _ h => h) (Or.inl ⟨by rfl, ?_⟩) ?_ ?_
            rotate_left
            · intro w'
              go_simp
              with_reducible rfl
            rotate_left
            · simp only [Act.put, List.setIfInBounds_toArray, List.set_cons_zero, List.set_cons_succ, i64_w, i32_w]
              rfl
            refine pure_ (i := 9) (N := some 67) (v := ?_) (a' := ?_) #[true, true, true, true, true, true, true, true, true, true, true, false, false] rfl rfl (by kernel_rfl) (fun _ _ _ h => h) (Or.inl ⟨by rfl, ?_⟩) ?_ ?_
            rotate_left
            · intro w'
              go_simp
              with_reducible rfl
            rotate_left
            · simp only [Act.put, List.setIfInBounds_toArray, List.set_cons_zero, List.set_cons_succ, i64_w, i32_w]
              rfl
            exact norm_ (by first | (simp only [putAll, Act.put, List.setIfInBounds_toArray, List.set_cons_zero, List.set_cons_succ]; done) | (simp only [putAll, Act.put, List.setIfInBounds_toArray, List.set_cons_zero, List.set_cons_succ]; rfl)) (hJ5_6_10 g6 _ ⟨hHeld, HO.out⟩)
        · skip
          rintro _u wj ⟨hHeld, hO_⟩
          replace HO := Aside0.mk hO_
          clear hO_
          refine norm_ (a' := ?_) ?_ ?_
          rotate_left
          · simp only [putAll, Act.put, List.setIfInBounds_toArray, List.set_cons_zero, List.set_cons_succ]
            rfl
          refine one_ (i := 10) (N := some 12) #[true, true, true, true, true, true, true, true, true, true, true, false, false] rfl rfl (by kernel_rfl) (by decide) (fun K hK => ?_)
          refine box_step ?hg (N := 12) ?hd (cs := #[.bool false, .int .u32 0, .int .u32 0, .int .u32 0, .int .u32 0, .int .u32 0, .int .u32 0]) (t := 25) ?hr ?_; (case hd => rfl); (case hg => rfl); (case hr => first | (go_simp; done) | (go_simp; rfl))
          intro g6 hg wn hbox hb
          replace HO := Aside0.mk (HO.out.box hg hbox hb)
          clear hg hbox hb
          refine hK.out _ _ ⟨HO.out.cell 4 rfl 0 rfl, HO.out.cell 4 rfl 1 rfl, HO.out.cell 4 rfl 2 rfl, HO.out.cell 4 rfl 3 rfl, HO.out.cell 4 rfl 4 rfl, HO.out.cell 4 rfl 5 rfl, HO.out.cell 4 rfl 6 rfl, (HO.out.bel.cell (World.block_lt_of_cell? w _ (HQ.out.1))).trans (HQ.out.1), (HO.out.bel.cell (World.block_lt_of_cell? w _ (HQ.out.2.1))).trans (HQ.out.2.1), (HO.out.bel.cell (World.block_lt_of_cell? w _ (HQ.out.2.2.1))).trans (HQ.out.2.2.1), (HO.out.bel.cell (World.block_lt_of_cell? w _ (HQ.out.2.2.2.1))).trans (HQ.out.2.2.2.1), (HO.out.bel.cell (World.block_lt_of_cell? w _ (HQ.out.2.2.2.2))).trans (HQ.out.2.2.2.2)⟩ (fun hHeld => ?_)
          clear hK K
          refine norm_ (a' := ?_) ?_ ?_
          rotate_left
          · show Act.put _ (some 12) _ = _
            simp only [Act.put, List.setIfInBounds_toArray, List.set_cons_zero, List.set_cons_succ, i64_w, i32_w]
            rfl
          exact norm_ (by first | (simp only [putAll, Act.put, List.setIfInBounds_toArray, List.set_cons_zero, List.set_cons_succ]; done) | (simp only [putAll, Act.put, List.setIfInBounds_toArray, List.set_cons_zero, List.set_cons_succ]; rfl)) (hJ5_6_10 g6 _ ⟨hHeld, HO.out⟩)
      rintro g6 wj ⟨hHeld, hO_⟩
      replace HO := Aside0.mk hO_
      clear hO_
      refine norm_ (a' := ?_) ?_ ?_
      rotate_left
      · simp only [putAll, Act.put, List.setIfInBounds_toArray, List.set_cons_zero, List.set_cons_succ]
        rfl
      refine last_store_ (i := 11) (w1 := (World.setCell (World.setCell (World.setCell (World.setCell (World.setCell (World.setCell (World.setCell wj ⟨g6, 0, none⟩ (.bool t9.f0)) ⟨g6, 1, none⟩ (.int .u32 t9.f1.f0)) ⟨g6, 2, none⟩ (.int .u32 t9.f1.f1)) ⟨g6, 3, none⟩ (.int .u32 t9.f1.f2)) ⟨g6, 4, none⟩ (.int .u32 t9.f1.f3)) ⟨g6, 5, none⟩ (.int .u32 t9.f1.f4)) ⟨g6, 6, none⟩ (.int .u32 t9.f1.f5))) #[true, true, true, true, true, true, true, true, true, true, true, true, false] rfl rfl (by kernel_rfl) (by decide) (by rfl) (run_put7_ rfl (show _ = Value.pointer (some ⟨g6, 0, none⟩) from by rfl) (show _ = Value.agg #[.bool t9.f0, .int .u32 t9.f1.f0, .int .u32 t9.f1.f1, .int .u32 t9.f1.f2, .int .u32 t9.f1.f3, .int .u32 t9.f1.f4, .int .u32 t9.f1.f5] from by rfl) (HO.out.at 0 rfl) (by kernel_rfl) (by rfl)) ?_
      refine pure_ (i := 12) (N := some 13) (v := ?_) (a' := ?_) #[true, true, true, true, true, true, true, true, true, true, true, true, true] rfl rfl (by kernel_rfl) (fun _ _ _ h => h) (Or.inl ⟨by rfl, ?_⟩) ?_ ?_
      rotate_left
      · intro w'
        go_simp
        with_reducible rfl
      rotate_left
      · simp only [Act.put, List.setIfInBounds_toArray, List.set_cons_zero, List.set_cons_succ, i64_w, i32_w]
        rfl
      refine done_ (by kernel_rfl) ?_
      generalize hw_ : (World.setCell (World.setCell (World.setCell (World.setCell (World.setCell (World.setCell (World.setCell wj ⟨g6, 0, none⟩ (.bool t9.f0)) ⟨g6, 1, none⟩ (.int .u32 t9.f1.f0)) ⟨g6, 2, none⟩ (.int .u32 t9.f1.f1)) ⟨g6, 3, none⟩ (.int .u32 t9.f1.f2)) ⟨g6, 4, none⟩ (.int .u32 t9.f1.f3)) ⟨g6, 5, none⟩ (.int .u32 t9.f1.f4)) ⟨g6, 6, none⟩ (.int .u32 t9.f1.f5)) = wk
      replace HO := Aside0.mk (HO.out.put7 0 rfl hw_.symm rfl)
      clear hw_
      go_wp2
      replace HO := Aside0.mk HO.out.drew
      refine start_ (n := 11) (S := fun w' => w'.cell? ⟨g6, 0, none⟩ = some (.bool t9.f0) ∧ w'.cell? ⟨g6, 1, none⟩ = some (.int .u32 t9.f1.f0) ∧ w'.cell? ⟨g6, 2, none⟩ = some (.int .u32 t9.f1.f1) ∧ w'.cell? ⟨g6, 3, none⟩ = some (.int .u32 t9.f1.f2) ∧ w'.cell? ⟨g6, 4, none⟩ = some (.int .u32 t9.f1.f3) ∧ w'.cell? ⟨g6, 5, none⟩ = some (.int .u32 t9.f1.f4) ∧ w'.cell? ⟨g6, 6, none⟩ = some (.int .u32 t9.f1.f5) ∧ w'.cell? ⟨B0_, O0_, none⟩ = some (.int .i64 a0.f0) ∧ w'.cell? ⟨B0_, O0_ + 1, none⟩ = some (.int .i64 a0.f1) ∧ w'.cell? ⟨B0_, O0_ + 2, none⟩ = some (.int .i64 a0.f2) ∧ w'.cell? ⟨B0_, O0_ + 3, none⟩ = some (.int .i64 a0.f3) ∧ w'.cell? ⟨B0_, O0_ + 4, none⟩ = some (.bool a0.f4)) (ds := [10]) #[false, false, false, false, false, false, false, false, false, false, false] (by kernel_rfl) rfl rfl ⟨HO.out.cell 0 rfl 0 rfl, HO.out.cell 0 rfl 1 rfl, HO.out.cell 0 rfl 2 rfl, HO.out.cell 0 rfl 3 rfl, HO.out.cell 0 rfl 4 rfl, HO.out.cell 0 rfl 5 rfl, HO.out.cell 0 rfl 6 rfl, (HO.out.bel.cell (World.block_lt_of_cell? w _ (HQ.out.1))).trans (HQ.out.1), (HO.out.bel.cell (World.block_lt_of_cell? w _ (HQ.out.2.1))).trans (HQ.out.2.1), (HO.out.bel.cell (World.block_lt_of_cell? w _ (HQ.out.2.2.1))).trans (HQ.out.2.2.1), (HO.out.bel.cell (World.block_lt_of_cell? w _ (HQ.out.2.2.2.1))).trans (HQ.out.2.2.2.1), (HO.out.bel.cell (World.block_lt_of_cell? w _ (HQ.out.2.2.2.2))).trans (HQ.out.2.2.2.2)⟩ (fun hHeld => ?_)
      refine pure_ (i := 1) (N := some 70) (v := ?_) (a' := ?_) #[false, true, false, false, false, false, false, false, false, false, false] rfl rfl (by kernel_rfl) (fun _ _ _ h => h) (Or.inl ⟨by rfl, ?_⟩) ?_ ?_
      rotate_left
      · intro w'
        go_simp
        with_reducible rfl
      rotate_left
      · simp only [Act.put, List.setIfInBounds_toArray, List.set_cons_zero, List.set_cons_succ, i64_w, i32_w]
        rfl
      refine pure_ (i := 2) (N := some 71) (v := ?_) (a' := ?_) #[false, true, true, false, false, false, false, false, false, false, false] rfl rfl (by kernel_rfl) (fun _ _ _ h => h) (Or.inl ⟨by rfl, ?_⟩) ?_ ?_
      rotate_left
      · intro w'
        go_simp
        with_reducible rfl
      rotate_left
      · simp only [Act.put, List.setIfInBounds_toArray, List.set_cons_zero, List.set_cons_succ, i64_w, i32_w]
        rfl
      refine pure_ (i := 3) (N := some 72) (v := ?_) (a' := ?_) #[false, true, true, true, false, false, false, false, false, false, false] rfl rfl (by kernel_rfl) (fun _ _ _ h => h) (Or.inl ⟨by rfl, ?_⟩) ?_ ?_
      rotate_left
      · intro w'
        go_simp
        with_reducible rfl
      rotate_left
      · simp only [Act.put, List.setIfInBounds_toArray, List.set_cons_zero, List.set_cons_succ, i64_w, i32_w]
        rfl
      refine take_ (i := 0) (N := some 69) (v := ?_) (a' := ?_) #[true, true, true, true, false, false, false, false, false, false, false] rfl rfl (by kernel_rfl) (fun _ _ _ h => h) (Or.inl ⟨by rfl, ?_⟩) hHeld ?_ ?_
      rotate_left
      · rintro w' ⟨s0, s1, s2, s3, s4, s5, s6, s7, s8, s9, s10, s11⟩
        go_simp
        with_reducible rfl
      rotate_left
      · simp only [Act.put, List.setIfInBounds_toArray, List.set_cons_zero, List.set_cons_succ, i64_w, i32_w]
        rfl
      refine take_ (i := 4) (N := some 73) (v := ?_) (a' := ?_) #[true, true, true, true, true, false, false, false, false, false, false] rfl rfl (by kernel_rfl) (fun _ _ _ h => h) (Or.inl ⟨by rfl, ?_⟩) hHeld ?_ ?_
      rotate_left
      · rintro w' ⟨s0, s1, s2, s3, s4, s5, s6, s7, s8, s9, s10, s11⟩
        go_simp
        with_reducible rfl
      rotate_left
      · simp only [Act.put, List.setIfInBounds_toArray, List.set_cons_zero, List.set_cons_succ, i64_w, i32_w]
        rfl
      refine one_ (i := 5) (N := some 74) #[true, true, true, true, true, true, false, false, false, false, false] rfl rfl (by kernel_rfl) (by decide) (fun K hK => ?_)
      refine goes_ Try.func83 (by kernel_rfl) rfl #[.int .i64 a0.f1] (by rfl) rfl rfl (by simp only [List.map_toArray, List.map_cons, List.map_nil]; rfl) ?_
      with_reducible refine (spec_l01Of.calls _ t10 _ M10.out).mono ?_
      rintro e wd ⟨rfl, hb⟩
      refine ⟨_, rfl, ?_⟩
      replace HO := Aside0.mk (HO.out.below hb)
      clear hb
      refine hK.out _ _ ⟨HO.out.cell 0 rfl 0 rfl, HO.out.cell 0 rfl 1 rfl, HO.out.cell 0 rfl 2 rfl, HO.out.cell 0 rfl 3 rfl, HO.out.cell 0 rfl 4 rfl, HO.out.cell 0 rfl 5 rfl, HO.out.cell 0 rfl 6 rfl, (HO.out.bel.cell (World.block_lt_of_cell? w _ (HQ.out.1))).trans (HQ.out.1), (HO.out.bel.cell (World.block_lt_of_cell? w _ (HQ.out.2.1))).trans (HQ.out.2.1), (HO.out.bel.cell (World.block_lt_of_cell? w _ (HQ.out.2.2.1))).trans (HQ.out.2.2.1), (HO.out.bel.cell (World.block_lt_of_cell? w _ (HQ.out.2.2.2.1))).trans (HQ.out.2.2.2.1), (HO.out.bel.cell (World.block_lt_of_cell? w _ (HQ.out.2.2.2.2))).trans (HQ.out.2.2.2.2)⟩ (fun hHeld => ?_)
      clear hK K
      refine norm_ (a' := ?_) ?_ ?_
      rotate_left
      · show Act.put _ (some 74) _ = _
        simp only [Act.put, List.setIfInBounds_toArray, List.set_cons_zero, List.set_cons_succ, i64_w, i32_w]
        rfl
      refine one_ (i := 6) (N := some 75) #[true, true, true, true, true, true, true, false, false, false, false] rfl rfl (by kernel_rfl) (by decide) (fun K hK => ?_)
      refine goes_ Try.func99 (by kernel_rfl) rfl #[.agg #[.bool t9.f0, .int .u32 t9.f1.f0, .int .u32 t9.f1.f1, .int .u32 t9.f1.f2, .int .u32 t9.f1.f3, .int .u32 t9.f1.f4, .int .u32 t9.f1.f5], .agg #[.bool t10.f0, .int .u32 t10.f1.f0, .int .u32 t10.f1.f1, .int .u32 t10.f1.f2, .int .u32 t10.f1.f3, .int .u32 t10.f1.f4, .int .u32 t10.f1.f5]] (by rfl) rfl rfl (by simp only [List.map_toArray, List.map_cons, List.map_nil]; rfl) ?_
      with_reducible refine (spec_l01Div.calls t9 t10 t11 t12 _ M11.out).mono ?_
      rintro e wd ⟨rfl, hb⟩
      refine ⟨_, rfl, ?_⟩
      replace HO := Aside0.mk (HO.out.below hb)
      clear hb
      refine hK.out _ _ ⟨HO.out.cell 0 rfl 0 rfl, HO.out.cell 0 rfl 1 rfl, HO.out.cell 0 rfl 2 rfl, HO.out.cell 0 rfl 3 rfl, HO.out.cell 0 rfl 4 rfl, HO.out.cell 0 rfl 5 rfl, HO.out.cell 0 rfl 6 rfl, (HO.out.bel.cell (World.block_lt_of_cell? w _ (HQ.out.1))).trans (HQ.out.1), (HO.out.bel.cell (World.block_lt_of_cell? w _ (HQ.out.2.1))).trans (HQ.out.2.1), (HO.out.bel.cell (World.block_lt_of_cell? w _ (HQ.out.2.2.1))).trans (HQ.out.2.2.1), (HO.out.bel.cell (World.block_lt_of_cell? w _ (HQ.out.2.2.2.1))).trans (HQ.out.2.2.2.1), (HO.out.bel.cell (World.block_lt_of_cell? w _ (HQ.out.2.2.2.2))).trans (HQ.out.2.2.2.2)⟩ (fun hHeld => ?_)
      clear hK K
      refine norm_ (a' := ?_) ?_ ?_
      rotate_left
      · show Act.put _ (some 75) _ = _
        simp only [Act.put, List.setIfInBounds_toArray, List.set_cons_zero, List.set_cons_succ, i64_w, i32_w]
        rfl
      refine pure_ (i := 7) (N := some 68) (v := ?_) (a' := ?_) #[true, true, true, true, true, true, true, true, false, false, false] rfl rfl (by kernel_rfl) (fun _ _ _ h => h) (Or.inl ⟨by rfl, ?_⟩) ?_ ?_
      rotate_left
      · intro w'
        go_simp
        with_reducible rfl
      rotate_left
      · simp only [Act.put, List.setIfInBounds_toArray, List.set_cons_zero, List.set_cons_succ, i64_w, i32_w]
        rfl
      refine pure_ (i := 8) (N := some 76) (v := ?_) (a' := ?_) #[true, true, true, true, true, true, true, true, true, false, false] rfl rfl (by kernel_rfl) (fun _ _ _ h => h) (Or.inl ⟨by rfl, ?_⟩) ?_ ?_
      rotate_left
      · intro w'
        go_simp
        with_reducible rfl
      rotate_left
      · simp only [Act.put, List.setIfInBounds_toArray, List.set_cons_zero, List.set_cons_succ, i64_w, i32_w]
        rfl
      refine pure_ (i := 9) (N := some 77) (v := ?_) (a' := ?_) #[true, true, true, true, true, true, true, true, true, true, false] rfl rfl (by kernel_rfl) (fun _ _ _ h => h) (Or.inl ⟨by rfl, ?_⟩) ?_ ?_
      rotate_left
      · intro w'
        go_simp
        with_reducible rfl
      rotate_left
      · simp only [Act.put, List.setIfInBounds_toArray, List.set_cons_zero, List.set_cons_succ, i64_w, i32_w]
        rfl
      refine last_store_ (i := 10) (w1 := (World.setCell (World.setCell (World.setCell (World.setCell (World.setCell (World.setCell (World.setCell wd ⟨g2, 0, none⟩ (.bool t11.f0)) ⟨g2, 1, none⟩ (.int .u32 t11.f1.f0)) ⟨g2, 2, none⟩ (.int .u32 t11.f1.f1)) ⟨g2, 3, none⟩ (.int .u32 t11.f1.f2)) ⟨g2, 4, none⟩ (.int .u32 t11.f1.f3)) ⟨g2, 5, none⟩ (.int .u32 t11.f1.f4)) ⟨g2, 6, none⟩ (.int .u32 t11.f1.f5))) #[true, true, true, true, true, true, true, true, true, true, true] rfl rfl (by kernel_rfl) (by decide) (by rfl) (run_put7_ rfl (show _ = Value.pointer (some ⟨g2, 0, none⟩) from by rfl) (show _ = Value.agg #[.bool t11.f0, .int .u32 t11.f1.f0, .int .u32 t11.f1.f1, .int .u32 t11.f1.f2, .int .u32 t11.f1.f3, .int .u32 t11.f1.f4, .int .u32 t11.f1.f5] from by rfl) (HO.out.at 4 rfl) (by kernel_rfl) (by rfl)) ?_
      refine done_ (by kernel_rfl) ?_
      generalize hw_ : (World.setCell (World.setCell (World.setCell (World.setCell (World.setCell (World.setCell (World.setCell wd ⟨g2, 0, none⟩ (.bool t11.f0)) ⟨g2, 1, none⟩ (.int .u32 t11.f1.f0)) ⟨g2, 2, none⟩ (.int .u32 t11.f1.f1)) ⟨g2, 3, none⟩ (.int .u32 t11.f1.f2)) ⟨g2, 4, none⟩ (.int .u32 t11.f1.f3)) ⟨g2, 5, none⟩ (.int .u32 t11.f1.f4)) ⟨g2, 6, none⟩ (.int .u32 t11.f1.f5)) = wm
      replace HO := Aside0.mk (HO.out.put7 4 rfl hw_.symm rfl)
      clear hw_
      go_wp2
      go_roundg k4
      case measure => omega
      case rel => exact ⟨wrap64 (c + 1), t11, t7, rfl, H, ⟨by have := HK.out; omega⟩, ⟨HO.out.drop.drop.drop⟩⟩
    | true =>
      rw [hf, if_pos rfl] at h
      obtain ⟨k3, rfl⟩ : ∃ q, k2 = q + 1 := by
        cases k2 with
        | zero => exact absurd h (by simp [spec_l05Sum.j1])
        | succ q => exact ⟨q, rfl⟩
      rw [spec_l05Sum.j1] at h
      cases hm : (Int.tmod c 2 == 1) with
      | false =>
        rw [hm, if_neg (by decide)] at h
        obtain ⟨k4, rfl⟩ : ∃ q, k3 = q + 1 := by
          cases k3 with
          | zero => exact absurd h (by simp [spec_l05Sum.j2])
          | succ q => exact ⟨q, rfl⟩
        rw [spec_l05Sum.j2] at h
        obtain ⟨⟨t7, e7⟩, m7, h⟩ := Option.bind_eq_some_iff.mp h
        obtain ⟨t8, m8, h⟩ := Option.bind_eq_some_iff.mp h
        obtain ⟨⟨t9, e9⟩, m9, h⟩ := Option.bind_eq_some_iff.mp h
        obtain ⟨t10, m10, h⟩ := Option.bind_eq_some_iff.mp h
        obtain ⟨⟨t11, t12⟩, m11, h⟩ := Option.bind_eq_some_iff.mp h
        have M7 := Aside0.mk m7
        have M8 := Aside0.mk m8
        have M9 := Aside0.mk m9
        have M10 := Aside0.mk m10
        have M11 := Aside0.mk m11
        have H := Aside0.mk h
        clear h m7 m8 m9 m10 m11
        obtain ⟨hp0, hp1, hp2, hp3, hp4, hp5, hp6⟩ := cells7_ (HO.out.at 2 rfl)
        obtain ⟨hq0, hq1, hq2, hq3, hq4, hq5, hq6⟩ := cells7_ (HO.out.at 1 rfl)
        go_wp2_with (first | (go_at_call 84; (with_reducible refine (spec_l01Add.calls k4 sm t3 t7 e7 _ M7.out).mono ?_); rintro e w8 ⟨rfl, hb⟩; replace HO := Aside0.mk (HO.out.below hb); clear hb) | ((with_reducible refine gate_store (t := 25) (p := 8) rfl ?_); refine store_event (t := 25) (p := 8) (v := ?vo_5) (w1 := (World.setCell (World.setCell (World.setCell (World.setCell (World.setCell (World.setCell (World.setCell w8 ⟨g3, 0, none⟩ (.bool t7.f0)) ⟨g3, 1, none⟩ (.int .u32 t7.f1.f0)) ⟨g3, 2, none⟩ (.int .u32 t7.f1.f1)) ⟨g3, 3, none⟩ (.int .u32 t7.f1.f2)) ⟨g3, 4, none⟩ (.int .u32 t7.f1.f3)) ⟨g3, 5, none⟩ (.int .u32 t7.f1.f4)) ⟨g3, 6, none⟩ (.int .u32 t7.f1.f5))) ?hg ?ho ?hn ?hr ?_; (case ho => rfl); (case hg => rfl); (case hn => rfl); (case hr => (try simp only [Act.put, List.setIfInBounds_toArray, List.set_cons_zero, List.set_cons_succ]); exact run_put7_ rfl (show _ = Value.pointer (some ⟨g3, 0, none⟩) from by rfl) (show _ = Value.agg #[.bool t7.f0, .int .u32 t7.f1.f0, .int .u32 t7.f1.f1, .int .u32 t7.f1.f2, .int .u32 t7.f1.f3, .int .u32 t7.f1.f4, .int .u32 t7.f1.f5] from by rfl) (HO.out.at 2 rfl) (by kernel_rfl) (by rfl)); intro w9 hw; replace HO := Aside0.mk (HO.out.put7 2 rfl hw rfl); clear hw))
        replace HO := Aside0.mk HO.out.drew
        refine start_ (n := 13) (S := fun w' => w'.cell? ⟨g2, 0, none⟩ = some (.bool u.f0) ∧ w'.cell? ⟨g2, 1, none⟩ = some (.int .u32 u.f1.f0) ∧ w'.cell? ⟨g2, 2, none⟩ = some (.int .u32 u.f1.f1) ∧ w'.cell? ⟨g2, 3, none⟩ = some (.int .u32 u.f1.f2) ∧ w'.cell? ⟨g2, 4, none⟩ = some (.int .u32 u.f1.f3) ∧ w'.cell? ⟨g2, 5, none⟩ = some (.int .u32 u.f1.f4) ∧ w'.cell? ⟨g2, 6, none⟩ = some (.int .u32 u.f1.f5) ∧ w'.cell? ⟨B0_, O0_, none⟩ = some (.int .i64 a0.f0) ∧ w'.cell? ⟨B0_, O0_ + 1, none⟩ = some (.int .i64 a0.f1) ∧ w'.cell? ⟨B0_, O0_ + 2, none⟩ = some (.int .i64 a0.f2) ∧ w'.cell? ⟨B0_, O0_ + 3, none⟩ = some (.int .i64 a0.f3) ∧ w'.cell? ⟨B0_, O0_ + 4, none⟩ = some (.bool a0.f4)) (ds := [11]) #[false, false, false, false, false, false, false, false, false, false, false, false, false] (by kernel_rfl) rfl rfl ⟨HO.out.cell 3 rfl 0 rfl, HO.out.cell 3 rfl 1 rfl, HO.out.cell 3 rfl 2 rfl, HO.out.cell 3 rfl 3 rfl, HO.out.cell 3 rfl 4 rfl, HO.out.cell 3 rfl 5 rfl, HO.out.cell 3 rfl 6 rfl, (HO.out.bel.cell (World.block_lt_of_cell? w _ (HQ.out.1))).trans (HQ.out.1), (HO.out.bel.cell (World.block_lt_of_cell? w _ (HQ.out.2.1))).trans (HQ.out.2.1), (HO.out.bel.cell (World.block_lt_of_cell? w _ (HQ.out.2.2.1))).trans (HQ.out.2.2.1), (HO.out.bel.cell (World.block_lt_of_cell? w _ (HQ.out.2.2.2.1))).trans (HQ.out.2.2.2.1), (HO.out.bel.cell (World.block_lt_of_cell? w _ (HQ.out.2.2.2.2))).trans (HQ.out.2.2.2.2)⟩ (fun hHeld => ?_)
        refine pure_ (i := 1) (N := some 60) (v := ?_) (a' := ?_) #[false, true, false, false, false, false, false, false, false, false, false, false, false] rfl rfl (by kernel_rfl) (fun _ _ _ h => h) (Or.inl ⟨by rfl, ?_⟩) ?_ ?_
        rotate_left
        · intro w'
          go_simp
          with_reducible rfl
        rotate_left
        · simp only [Act.put, List.setIfInBounds_toArray, List.set_cons_zero, List.set_cons_succ, i64_w, i32_w]
          rfl
        refine pure_ (i := 2) (N := some 61) (v := ?_) (a' := ?_) #[false, true, true, false, false, false, false, false, false, false, false, false, false] rfl rfl (by kernel_rfl) (fun _ _ _ h => h) (Or.inl ⟨by rfl, ?_⟩) ?_ ?_
        rotate_left
        · intro w'
          go_simp
          with_reducible rfl
        rotate_left
        · simp only [Act.put, List.setIfInBounds_toArray, List.set_cons_zero, List.set_cons_succ, i64_w, i32_w]
          rfl
        refine pure_ (i := 3) (N := some 62) (v := ?_) (a' := ?_) #[false, true, true, true, false, false, false, false, false, false, false, false, false] rfl rfl (by kernel_rfl) (fun _ _ _ h => h) (Or.inl ⟨by rfl, ?_⟩) ?_ ?_
        rotate_left
        · intro w'
          go_simp
          with_reducible rfl
        rotate_left
        · simp only [Act.put, List.setIfInBounds_toArray, List.set_cons_zero, List.set_cons_succ, i64_w, i32_w]
          rfl
        refine take_ (i := 0) (N := some 59) (v := ?_) (a' := ?_) #[true, true, true, true, false, false, false, false, false, false, false, false, false] rfl rfl (by kernel_rfl) (fun _ _ _ h => h) (Or.inl ⟨by rfl, ?_⟩) hHeld ?_ ?_
        rotate_left
        · rintro w' ⟨s0, s1, s2, s3, s4, s5, s6, s7, s8, s9, s10, s11⟩
          go_simp
          with_reducible rfl
        rotate_left
        · simp only [Act.put, List.setIfInBounds_toArray, List.set_cons_zero, List.set_cons_succ, i64_w, i32_w]
          rfl
        refine take_ (i := 4) (N := some 63) (v := ?_) (a' := ?_) #[true, true, true, true, true, false, false, false, false, false, false, false, false] rfl rfl (by kernel_rfl) (fun _ _ _ h => h) (Or.inl ⟨by rfl, ?_⟩) hHeld ?_ ?_
        rotate_left
        · rintro w' ⟨s0, s1, s2, s3, s4, s5, s6, s7, s8, s9, s10, s11⟩
          go_simp
          with_reducible rfl
        rotate_left
        · simp only [Act.put, List.setIfInBounds_toArray, List.set_cons_zero, List.set_cons_succ, i64_w, i32_w]
          rfl
        refine join_ (σ := Nat) 2 #[true, true, true, true, true, true, true, true, true, true, true, false, false] (fun s_ => [(64, .agg #[.bool t8.f0, .int .u32 t8.f1.f0, .int .u32 t8.f1.f1, .int .u32 t8.f1.f2, .int .u32 t8.f1.f3, .int .u32 t8.f1.f4, .int .u32 t8.f1.f5]), (65, .tuple #[.agg #[.bool t9.f0, .int .u32 t9.f1.f0, .int .u32 t9.f1.f1, .int .u32 t9.f1.f2, .int .u32 t9.f1.f3, .int .u32 t9.f1.f4, .int .u32 t9.f1.f5], .int .i64 e9]), (58, .tuple #[.agg #[.bool t9.f0, .int .u32 t9.f1.f0, .int .u32 t9.f1.f1, .int .u32 t9.f1.f2, .int .u32 t9.f1.f3, .int .u32 t9.f1.f4, .int .u32 t9.f1.f5], .int .i64 e9]), (66, .agg #[.bool t9.f0, .int .u32 t9.f1.f0, .int .u32 t9.f1.f1, .int .u32 t9.f1.f2, .int .u32 t9.f1.f3, .int .u32 t9.f1.f4, .int .u32 t9.f1.f5]), (67, .int .i64 e9), (12, Value.pointer (some ⟨s_, 0, none⟩))]) (fun s_ w' => (w'.cell? ⟨g2, 0, none⟩ = some (.bool u.f0) ∧ w'.cell? ⟨g2, 1, none⟩ = some (.int .u32 u.f1.f0) ∧ w'.cell? ⟨g2, 2, none⟩ = some (.int .u32 u.f1.f1) ∧ w'.cell? ⟨g2, 3, none⟩ = some (.int .u32 u.f1.f2) ∧ w'.cell? ⟨g2, 4, none⟩ = some (.int .u32 u.f1.f3) ∧ w'.cell? ⟨g2, 5, none⟩ = some (.int .u32 u.f1.f4) ∧ w'.cell? ⟨g2, 6, none⟩ = some (.int .u32 u.f1.f5) ∧ w'.cell? ⟨B0_, O0_, none⟩ = some (.int .i64 a0.f0) ∧ w'.cell? ⟨B0_, O0_ + 1, none⟩ = some (.int .i64 a0.f1) ∧ w'.cell? ⟨B0_, O0_ + 2, none⟩ = some (.int .i64 a0.f2) ∧ w'.cell? ⟨B0_, O0_ + 3, none⟩ = some (.int .i64 a0.f3) ∧ w'.cell? ⟨B0_, O0_ + 4, none⟩ = some (.bool a0.f4)) ∧ Wide.OB w.heap.size w w' [(s_, #[.bool false, .int .u32 0, .int .u32 0, .int .u32 0, .int .u32 0, .int .u32 0, .int .u32 0], 25), (g5, #[.bool t4.f0, .int .u32 t4.f1.f0, .int .u32 t4.f1.f1, .int .u32 t4.f1.f2, .int .u32 t4.f1.f3, .int .u32 t4.f1.f4, .int .u32 t4.f1.f5], 25), (g4, #[.bool t3.f0, .int .u32 t3.f1.f0, .int .u32 t3.f1.f1, .int .u32 t3.f1.f2, .int .u32 t3.f1.f3, .int .u32 t3.f1.f4, .int .u32 t3.f1.f5], 25), (g3, #[.bool t7.f0, .int .u32 t7.f1.f0, .int .u32 t7.f1.f1, .int .u32 t7.f1.f2, .int .u32 t7.f1.f3, .int .u32 t7.f1.f4, .int .u32 t7.f1.f5], 25), (g2, #[.bool u.f0, .int .u32 u.f1.f0, .int .u32 u.f1.f1, .int .u32 u.f1.f2, .int .u32 u.f1.f3, .int .u32 u.f1.f4, .int .u32 u.f1.f5], 25), (g1, #[.bool false, .int .u32 0, .int .u32 0, .int .u32 0, .int .u32 0, .int .u32 0, .int .u32 0], 25)]) ?_ ?_
        rotate_left
        · intro hJ5_6_10
          refine join_ (σ := Unit) 3 #[true, true, true, true, true, true, true, true, true, true, false, false, false] (fun s_ => [(64, .agg #[.bool t8.f0, .int .u32 t8.f1.f0, .int .u32 t8.f1.f1, .int .u32 t8.f1.f2, .int .u32 t8.f1.f3, .int .u32 t8.f1.f4, .int .u32 t8.f1.f5]), (65, .tuple #[.agg #[.bool t9.f0, .int .u32 t9.f1.f0, .int .u32 t9.f1.f1, .int .u32 t9.f1.f2, .int .u32 t9.f1.f3, .int .u32 t9.f1.f4, .int .u32 t9.f1.f5], .int .i64 e9]), (58, .tuple #[.agg #[.bool t9.f0, .int .u32 t9.f1.f0, .int .u32 t9.f1.f1, .int .u32 t9.f1.f2, .int .u32 t9.f1.f3, .int .u32 t9.f1.f4, .int .u32 t9.f1.f5], .int .i64 e9]), (66, .agg #[.bool t9.f0, .int .u32 t9.f1.f0, .int .u32 t9.f1.f1, .int .u32 t9.f1.f2, .int .u32 t9.f1.f3, .int .u32 t9.f1.f4, .int .u32 t9.f1.f5]), (67, .int .i64 e9)]) (fun s_ w' => (w'.cell? ⟨g2, 0, none⟩ = some (.bool u.f0) ∧ w'.cell? ⟨g2, 1, none⟩ = some (.int .u32 u.f1.f0) ∧ w'.cell? ⟨g2, 2, none⟩ = some (.int .u32 u.f1.f1) ∧ w'.cell? ⟨g2, 3, none⟩ = some (.int .u32 u.f1.f2) ∧ w'.cell? ⟨g2, 4, none⟩ = some (.int .u32 u.f1.f3) ∧ w'.cell? ⟨g2, 5, none⟩ = some (.int .u32 u.f1.f4) ∧ w'.cell? ⟨g2, 6, none⟩ = some (.int .u32 u.f1.f5) ∧ w'.cell? ⟨B0_, O0_, none⟩ = some (.int .i64 a0.f0) ∧ w'.cell? ⟨B0_, O0_ + 1, none⟩ = some (.int .i64 a0.f1) ∧ w'.cell? ⟨B0_, O0_ + 2, none⟩ = some (.int .i64 a0.f2) ∧ w'.cell? ⟨B0_, O0_ + 3, none⟩ = some (.int .i64 a0.f3) ∧ w'.cell? ⟨B0_, O0_ + 4, none⟩ = some (.bool a0.f4)) ∧ Wide.OB w.heap.size w w' [(g5, #[.bool t4.f0, .int .u32 t4.f1.f0, .int .u32 t4.f1.f1, .int .u32 t4.f1.f2, .int .u32 t4.f1.f3, .int .u32 t4.f1.f4, .int .u32 t4.f1.f5], 25), (g4, #[.bool t3.f0, .int .u32 t3.f1.f0, .int .u32 t3.f1.f1, .int .u32 t3.f1.f2, .int .u32 t3.f1.f3, .int .u32 t3.f1.f4, .int .u32 t3.f1.f5], 25), (g3, #[.bool t7.f0, .int .u32 t7.f1.f0, .int .u32 t7.f1.f1, .int .u32 t7.f1.f2, .int .u32 t7.f1.f3, .int .u32 t7.f1.f4, .int .u32 t7.f1.f5], 25), (g2, #[.bool u.f0, .int .u32 u.f1.f0, .int .u32 u.f1.f1, .int .u32 u.f1.f2, .int .u32 u.f1.f3, .int .u32 u.f1.f4, .int .u32 u.f1.f5], 25), (g1, #[.bool false, .int .u32 0, .int .u32 0, .int .u32 0, .int .u32 0, .int .u32 0, .int .u32 0], 25)]) ?_ ?_
          rotate_left
          · intro hJ5_6
            refine join_ (σ := Nat) 6 #[true, true, true, true, true, true, false, false, false, false, true, false, false] (fun s_ => [(64, .agg #[.bool t8.f0, .int .u32 t8.f1.f0, .int .u32 t8.f1.f1, .int .u32 t8.f1.f2, .int .u32 t8.f1.f3, .int .u32 t8.f1.f4, .int .u32 t8.f1.f5]), (12, Value.pointer (some ⟨s_, 0, none⟩))]) (fun s_ w' => (w'.cell? ⟨g2, 0, none⟩ = some (.bool u.f0) ∧ w'.cell? ⟨g2, 1, none⟩ = some (.int .u32 u.f1.f0) ∧ w'.cell? ⟨g2, 2, none⟩ = some (.int .u32 u.f1.f1) ∧ w'.cell? ⟨g2, 3, none⟩ = some (.int .u32 u.f1.f2) ∧ w'.cell? ⟨g2, 4, none⟩ = some (.int .u32 u.f1.f3) ∧ w'.cell? ⟨g2, 5, none⟩ = some (.int .u32 u.f1.f4) ∧ w'.cell? ⟨g2, 6, none⟩ = some (.int .u32 u.f1.f5) ∧ w'.cell? ⟨B0_, O0_, none⟩ = some (.int .i64 a0.f0) ∧ w'.cell? ⟨B0_, O0_ + 1, none⟩ = some (.int .i64 a0.f1) ∧ w'.cell? ⟨B0_, O0_ + 2, none⟩ = some (.int .i64 a0.f2) ∧ w'.cell? ⟨B0_, O0_ + 3, none⟩ = some (.int .i64 a0.f3) ∧ w'.cell? ⟨B0_, O0_ + 4, none⟩ = some (.bool a0.f4)) ∧ Wide.OB w.heap.size w w' [(s_, #[.bool false, .int .u32 0, .int .u32 0, .int .u32 0, .int .u32 0, .int .u32 0, .int .u32 0], 25), (g5, #[.bool t4.f0, .int .u32 t4.f1.f0, .int .u32 t4.f1.f1, .int .u32 t4.f1.f2, .int .u32 t4.f1.f3, .int .u32 t4.f1.f4, .int .u32 t4.f1.f5], 25), (g4, #[.bool t3.f0, .int .u32 t3.f1.f0, .int .u32 t3.f1.f1, .int .u32 t3.f1.f2, .int .u32 t3.f1.f3, .int .u32 t3.f1.f4, .int .u32 t3.f1.f5], 25), (g3, #[.bool t7.f0, .int .u32 t7.f1.f0, .int .u32 t7.f1.f1, .int .u32 t7.f1.f2, .int .u32 t7.f1.f3, .int .u32 t7.f1.f4, .int .u32 t7.f1.f5], 25), (g2, #[.bool u.f0, .int .u32 u.f1.f0, .int .u32 u.f1.f1, .int .u32 u.f1.f2, .int .u32 u.f1.f3, .int .u32 u.f1.f4, .int .u32 u.f1.f5], 25), (g1, #[.bool false, .int .u32 0, .int .u32 0, .int .u32 0, .int .u32 0, .int .u32 0, .int .u32 0], 25)]) ?_ ?_
            rotate_left
            · intro hJ5_10
              refine join_ (σ := Unit) 7 #[true, true, true, true, true, true, false, false, false, false, false, false, false] (fun s_ => [(64, .agg #[.bool t8.f0, .int .u32 t8.f1.f0, .int .u32 t8.f1.f1, .int .u32 t8.f1.f2, .int .u32 t8.f1.f3, .int .u32 t8.f1.f4, .int .u32 t8.f1.f5])]) (fun s_ w' => (w'.cell? ⟨g2, 0, none⟩ = some (.bool u.f0) ∧ w'.cell? ⟨g2, 1, none⟩ = some (.int .u32 u.f1.f0) ∧ w'.cell? ⟨g2, 2, none⟩ = some (.int .u32 u.f1.f1) ∧ w'.cell? ⟨g2, 3, none⟩ = some (.int .u32 u.f1.f2) ∧ w'.cell? ⟨g2, 4, none⟩ = some (.int .u32 u.f1.f3) ∧ w'.cell? ⟨g2, 5, none⟩ = some (.int .u32 u.f1.f4) ∧ w'.cell? ⟨g2, 6, none⟩ = some (.int .u32 u.f1.f5) ∧ w'.cell? ⟨B0_, O0_, none⟩ = some (.int .i64 a0.f0) ∧ w'.cell? ⟨B0_, O0_ + 1, none⟩ = some (.int .i64 a0.f1) ∧ w'.cell? ⟨B0_, O0_ + 2, none⟩ = some (.int .i64 a0.f2) ∧ w'.cell? ⟨B0_, O0_ + 3, none⟩ = some (.int .i64 a0.f3) ∧ w'.cell? ⟨B0_, O0_ + 4, none⟩ = some (.bool a0.f4)) ∧ Wide.OB w.heap.size w w' [(g5, #[.bool t4.f0, .int .u32 t4.f1.f0, .int .u32 t4.f1.f1, .int .u32 t4.f1.f2, .int .u32 t4.f1.f3, .int .u32 t4.f1.f4, .int .u32 t4.f1.f5], 25), (g4, #[.bool t3.f0, .int .u32 t3.f1.f0, .int .u32 t3.f1.f1, .int .u32 t3.f1.f2, .int .u32 t3.f1.f3, .int .u32 t3.f1.f4, .int .u32 t3.f1.f5], 25), (g3, #[.bool t7.f0, .int .u32 t7.f1.f0, .int .u32 t7.f1.f1, .int .u32 t7.f1.f2, .int .u32 t7.f1.f3, .int .u32 t7.f1.f4, .int .u32 t7.f1.f5], 25), (g2, #[.bool u.f0, .int .u32 u.f1.f0, .int .u32 u.f1.f1, .int .u32 u.f1.f2, .int .u32 u.f1.f3, .int .u32 u.f1.f4, .int .u32 u.f1.f5], 25), (g1, #[.bool false, .int .u32 0, .int .u32 0, .int .u32 0, .int .u32 0, .int .u32 0, .int .u32 0], 25)]) ?_ ?_
              rotate_left
              · intro hJ5
                refine join_ (σ := Nat) 7 #[true, true, true, true, true, false, false, false, false, false, true, false, false] (fun s_ => [(12, Value.pointer (some ⟨s_, 0, none⟩))]) (fun s_ w' => (w'.cell? ⟨g2, 0, none⟩ = some (.bool u.f0) ∧ w'.cell? ⟨g2, 1, none⟩ = some (.int .u32 u.f1.f0) ∧ w'.cell? ⟨g2, 2, none⟩ = some (.int .u32 u.f1.f1) ∧ w'.cell? ⟨g2, 3, none⟩ = some (.int .u32 u.f1.f2) ∧ w'.cell? ⟨g2, 4, none⟩ = some (.int .u32 u.f1.f3) ∧ w'.cell? ⟨g2, 5, none⟩ = some (.int .u32 u.f1.f4) ∧ w'.cell? ⟨g2, 6, none⟩ = some (.int .u32 u.f1.f5) ∧ w'.cell? ⟨B0_, O0_, none⟩ = some (.int .i64 a0.f0) ∧ w'.cell? ⟨B0_, O0_ + 1, none⟩ = some (.int .i64 a0.f1) ∧ w'.cell? ⟨B0_, O0_ + 2, none⟩ = some (.int .i64 a0.f2) ∧ w'.cell? ⟨B0_, O0_ + 3, none⟩ = some (.int .i64 a0.f3) ∧ w'.cell? ⟨B0_, O0_ + 4, none⟩ = some (.bool a0.f4)) ∧ Wide.OB w.heap.size w w' [(s_, #[.bool false, .int .u32 0, .int .u32 0, .int .u32 0, .int .u32 0, .int .u32 0, .int .u32 0], 25), (g5, #[.bool t4.f0, .int .u32 t4.f1.f0, .int .u32 t4.f1.f1, .int .u32 t4.f1.f2, .int .u32 t4.f1.f3, .int .u32 t4.f1.f4, .int .u32 t4.f1.f5], 25), (g4, #[.bool t3.f0, .int .u32 t3.f1.f0, .int .u32 t3.f1.f1, .int .u32 t3.f1.f2, .int .u32 t3.f1.f3, .int .u32 t3.f1.f4, .int .u32 t3.f1.f5], 25), (g3, #[.bool t7.f0, .int .u32 t7.f1.f0, .int .u32 t7.f1.f1, .int .u32 t7.f1.f2, .int .u32 t7.f1.f3, .int .u32 t7.f1.f4, .int .u32 t7.f1.f5], 25), (g2, #[.bool u.f0, .int .u32 u.f1.f0, .int .u32 u.f1.f1, .int .u32 u.f1.f2, .int .u32 u.f1.f3, .int .u32 u.f1.f4, .int .u32 u.f1.f5], 25), (g1, #[.bool false, .int .u32 0, .int .u32 0, .int .u32 0, .int .u32 0, .int .u32 0, .int .u32 0], 25)]) ?_ ?_
                rotate_left
                · intro hJ10
                  refine two_ (i := 5) (j := 10) (Ni := some 64) (Nj := some 12) #[true, true, true, true, true, true, false, false, false, false, false, false, false] #[true, true, true, true, true, false, false, false, false, false, true, false, false] rfl rfl rfl rfl (by kernel_rfl) (by decide) (by decide) (fun K hK => ?_) (fun K hK => ?_)
                  · skip
                    refine goes_ Try.func83 (by kernel_rfl) rfl #[.int .i64 a0.f0] (by rfl) rfl rfl (by simp only [List.map_toArray, List.map_cons, List.map_nil]; rfl) ?_
                    with_reducible refine (spec_l01Of.calls _ t8 _ M8.out).mono ?_
                    rintro e wc ⟨rfl, hb⟩
                    refine ⟨_, rfl, ?_⟩
                    replace HO := Aside0.mk (HO.out.below hb)
                    clear hb
                    refine hK.out _ _ ⟨HO.out.cell 3 rfl 0 rfl, HO.out.cell 3 rfl 1 rfl, HO.out.cell 3 rfl 2 rfl, HO.out.cell 3 rfl 3 rfl, HO.out.cell 3 rfl 4 rfl, HO.out.cell 3 rfl 5 rfl, HO.out.cell 3 rfl 6 rfl, (HO.out.bel.cell (World.block_lt_of_cell? w _ (HQ.out.1))).trans (HQ.out.1), (HO.out.bel.cell (World.block_lt_of_cell? w _ (HQ.out.2.1))).trans (HQ.out.2.1), (HO.out.bel.cell (World.block_lt_of_cell? w _ (HQ.out.2.2.1))).trans (HQ.out.2.2.1), (HO.out.bel.cell (World.block_lt_of_cell? w _ (HQ.out.2.2.2.1))).trans (HQ.out.2.2.2.1), (HO.out.bel.cell (World.block_lt_of_cell? w _ (HQ.out.2.2.2.2))).trans (HQ.out.2.2.2.2)⟩ (fun hHeld => ?_)
                    clear hK K
                    refine norm_ (a' := ?_) ?_ ?_
                    rotate_left
                    · show Act.put _ (some 64) _ = _
                      simp only [Act.put, List.setIfInBounds_toArray, List.set_cons_zero, List.set_cons_succ, i64_w, i32_w]
                      rfl
                    exact norm_ (by first | (simp only [putAll, Act.put, List.setIfInBounds_toArray, List.set_cons_zero, List.set_cons_succ]; done) | (simp only [putAll, Act.put, List.setIfInBounds_toArray, List.set_cons_zero, List.set_cons_succ]; rfl)) (hJ5 () _ ⟨hHeld, HO.out⟩)
                  · skip
                    refine box_step ?hg (N := 12) ?hd (cs := #[.bool false, .int .u32 0, .int .u32 0, .int .u32 0, .int .u32 0, .int .u32 0, .int .u32 0]) (t := 25) ?hr ?_; (case hd => rfl); (case hg => rfl); (case hr => first | (go_simp; done) | (go_simp; rfl))
                    intro g6 hg wn hbox hb
                    replace HO := Aside0.mk (HO.out.box hg hbox hb)
                    clear hg hbox hb
                    refine hK.out _ _ ⟨HO.out.cell 4 rfl 0 rfl, HO.out.cell 4 rfl 1 rfl, HO.out.cell 4 rfl 2 rfl, HO.out.cell 4 rfl 3 rfl, HO.out.cell 4 rfl 4 rfl, HO.out.cell 4 rfl 5 rfl, HO.out.cell 4 rfl 6 rfl, (HO.out.bel.cell (World.block_lt_of_cell? w _ (HQ.out.1))).trans (HQ.out.1), (HO.out.bel.cell (World.block_lt_of_cell? w _ (HQ.out.2.1))).trans (HQ.out.2.1), (HO.out.bel.cell (World.block_lt_of_cell? w _ (HQ.out.2.2.1))).trans (HQ.out.2.2.1), (HO.out.bel.cell (World.block_lt_of_cell? w _ (HQ.out.2.2.2.1))).trans (HQ.out.2.2.2.1), (HO.out.bel.cell (World.block_lt_of_cell? w _ (HQ.out.2.2.2.2))).trans (HQ.out.2.2.2.2)⟩ (fun hHeld => ?_)
                    clear hK K
                    refine norm_ (a' := ?_) ?_ ?_
                    rotate_left
                    · show Act.put _ (some 12) _ = _
                      simp only [Act.put, List.setIfInBounds_toArray, List.set_cons_zero, List.set_cons_succ, i64_w, i32_w]
                      rfl
                    exact norm_ (by first | (simp only [putAll, Act.put, List.setIfInBounds_toArray, List.set_cons_zero, List.set_cons_succ]; done) | (simp only [putAll, Act.put, List.setIfInBounds_toArray, List.set_cons_zero, List.set_cons_succ]; rfl)) (hJ10 g6 _ ⟨hHeld, HO.out⟩)
                · skip
                  rintro g6 wj ⟨hHeld, hO_⟩
                  replace HO := Aside0.mk hO_
                  clear hO_
                  refine norm_ (a' := ?_) ?_ ?_
                  rotate_left
                  · simp only [putAll, Act.put, List.setIfInBounds_toArray, List.set_cons_zero, List.set_cons_succ]
                    rfl
                  refine one_ (i := 5) (N := some 64) #[true, true, true, true, true, true, false, false, false, false, true, false, false] rfl rfl (by kernel_rfl) (by decide) (fun K hK => ?_)
                  refine goes_ Try.func83 (by kernel_rfl) rfl #[.int .i64 a0.f0] (by rfl) rfl rfl (by simp only [List.map_toArray, List.map_cons, List.map_nil]; rfl) ?_
                  with_reducible refine (spec_l01Of.calls _ t8 _ M8.out).mono ?_
                  rintro e wc ⟨rfl, hb⟩
                  refine ⟨_, rfl, ?_⟩
                  replace HO := Aside0.mk (HO.out.below hb)
                  clear hb
                  refine hK.out _ _ ⟨HO.out.cell 4 rfl 0 rfl, HO.out.cell 4 rfl 1 rfl, HO.out.cell 4 rfl 2 rfl, HO.out.cell 4 rfl 3 rfl, HO.out.cell 4 rfl 4 rfl, HO.out.cell 4 rfl 5 rfl, HO.out.cell 4 rfl 6 rfl, (HO.out.bel.cell (World.block_lt_of_cell? w _ (HQ.out.1))).trans (HQ.out.1), (HO.out.bel.cell (World.block_lt_of_cell? w _ (HQ.out.2.1))).trans (HQ.out.2.1), (HO.out.bel.cell (World.block_lt_of_cell? w _ (HQ.out.2.2.1))).trans (HQ.out.2.2.1), (HO.out.bel.cell (World.block_lt_of_cell? w _ (HQ.out.2.2.2.1))).trans (HQ.out.2.2.2.1), (HO.out.bel.cell (World.block_lt_of_cell? w _ (HQ.out.2.2.2.2))).trans (HQ.out.2.2.2.2)⟩ (fun hHeld => ?_)
                  clear hK K
                  refine norm_ (a' := ?_) ?_ ?_
                  rotate_left
                  · show Act.put _ (some 64) _ = _
                    simp only [Act.put, List.setIfInBounds_toArray, List.set_cons_zero, List.set_cons_succ, i64_w, i32_w]
                    rfl
                  exact norm_ (by first | (simp only [putAll, Act.put, List.setIfInBounds_toArray, List.set_cons_zero, List.set_cons_succ]; done) | (simp only [putAll, Act.put, List.setIfInBounds_toArray, List.set_cons_zero, List.set_cons_succ]; rfl)) (hJ5_10 g6 _ ⟨hHeld, HO.out⟩)
              · skip
                rintro _u wj ⟨hHeld, hO_⟩
                replace HO := Aside0.mk hO_
                clear hO_
                refine norm_ (a' := ?_) ?_ ?_
                rotate_left
                · simp only [putAll, Act.put, List.setIfInBounds_toArray, List.set_cons_zero, List.set_cons_succ]
                  rfl
                refine two_ (i := 6) (j := 10) (Ni := some 65) (Nj := some 12) #[true, true, true, true, true, true, true, false, false, false, false, false, false] #[true, true, true, true, true, true, false, false, false, false, true, false, false] rfl rfl rfl rfl (by kernel_rfl) (by decide) (by decide) (fun K hK => ?_) (fun K hK => ?_)
                · skip
                  refine goes_ Try.func82 (by kernel_rfl) rfl #[.agg #[.bool u.f0, .int .u32 u.f1.f0, .int .u32 u.f1.f1, .int .u32 u.f1.f2, .int .u32 u.f1.f3, .int .u32 u.f1.f4, .int .u32 u.f1.f5], .agg #[.bool t8.f0, .int .u32 t8.f1.f0, .int .u32 t8.f1.f1, .int .u32 t8.f1.f2, .int .u32 t8.f1.f3, .int .u32 t8.f1.f4, .int .u32 t8.f1.f5]] (by rfl) rfl rfl (by simp only [List.map_toArray, List.map_cons, List.map_nil]; rfl) ?_
                  with_reducible refine (spec_l01Mul.calls k4 u t8 t9 e9 _ M9.out).mono ?_
                  rintro e wc ⟨rfl, hb⟩
                  refine ⟨_, rfl, ?_⟩
                  replace HO := Aside0.mk (HO.out.below hb)
                  clear hb
                  refine hK.out _ _ ⟨HO.out.cell 3 rfl 0 rfl, HO.out.cell 3 rfl 1 rfl, HO.out.cell 3 rfl 2 rfl, HO.out.cell 3 rfl 3 rfl, HO.out.cell 3 rfl 4 rfl, HO.out.cell 3 rfl 5 rfl, HO.out.cell 3 rfl 6 rfl, (HO.out.bel.cell (World.block_lt_of_cell? w _ (HQ.out.1))).trans (HQ.out.1), (HO.out.bel.cell (World.block_lt_of_cell? w _ (HQ.out.2.1))).trans (HQ.out.2.1), (HO.out.bel.cell (World.block_lt_of_cell? w _ (HQ.out.2.2.1))).trans (HQ.out.2.2.1), (HO.out.bel.cell (World.block_lt_of_cell? w _ (HQ.out.2.2.2.1))).trans (HQ.out.2.2.2.1), (HO.out.bel.cell (World.block_lt_of_cell? w _ (HQ.out.2.2.2.2))).trans (HQ.out.2.2.2.2)⟩ (fun hHeld => ?_)
                  clear hK K
                  refine norm_ (a' := ?_) ?_ ?_
                  rotate_left
                  · show Act.put _ (some 65) _ = _
                    simp only [Act.put, List.setIfInBounds_toArray, List.set_cons_zero, List.set_cons_succ, i64_w, i32_w]
                    rfl
                  refine pure_ (i := 7) (N := some 58) (v := ?_) (a' := ?_) #[true, true, true, true, true, true, true, true, false, false, false, false, false] rfl rfl (by kernel_rfl) (fun _ _ _ h => h) (Or.inl ⟨by rfl, ?_⟩) ?_ ?_
                  rotate_left
                  · intro w'
                    go_simp
                    with_reducible rfl
                  rotate_left
                  · simp only [Act.put, List.setIfInBounds_toArray, List.set_cons_zero, List.set_cons_succ, i64_w, i32_w]
                    rfl
                  refine pure_ (i := 8) (N := some 66) (v := ?_) (a' := ?_) #[true, true, true, true, true, true, true, true, true, false, false, false, false] rfl rfl (by kernel_rfl) (fun _ _ _ h => h) (Or.inl ⟨by rfl, ?_⟩) ?_ ?_
                  rotate_left
                  · intro w'
                    go_simp
                    with_reducible rfl
                  rotate_left
                  · simp only [Act.put, List.setIfInBounds_toArray, List.set_cons_zero, List.set_cons_succ, i64_w, i32_w]
                    rfl
                  refine pure_ (i := 9) (N := some 67) (v := ?_) (a' := ?_) #[true, true, true, true, true, true, true, true, true, true, false, false, false] rfl rfl (by kernel_rfl) (fun _ _ _ h => h) (Or.inl ⟨by rfl, ?_⟩) ?_ ?_
                  rotate_left
                  · intro w'
                    go_simp
                    with_reducible rfl
                  rotate_left
                  · simp only [Act.put, List.setIfInBounds_toArray, List.set_cons_zero, List.set_cons_succ, i64_w, i32_w]
                    rfl
                  exact norm_ (by first | (simp only [putAll, Act.put, List.setIfInBounds_toArray, List.set_cons_zero, List.set_cons_succ]; done) | (simp only [putAll, Act.put, List.setIfInBounds_toArray, List.set_cons_zero, List.set_cons_succ]; rfl)) (hJ5_6 () _ ⟨hHeld, HO.out⟩)
                · skip
                  refine box_step ?hg (N := 12) ?hd (cs := #[.bool false, .int .u32 0, .int .u32 0, .int .u32 0, .int .u32 0, .int .u32 0, .int .u32 0]) (t := 25) ?hr ?_; (case hd => rfl); (case hg => rfl); (case hr => first | (go_simp; done) | (go_simp; rfl))
                  intro g6 hg wn hbox hb
                  replace HO := Aside0.mk (HO.out.box hg hbox hb)
                  clear hg hbox hb
                  refine hK.out _ _ ⟨HO.out.cell 4 rfl 0 rfl, HO.out.cell 4 rfl 1 rfl, HO.out.cell 4 rfl 2 rfl, HO.out.cell 4 rfl 3 rfl, HO.out.cell 4 rfl 4 rfl, HO.out.cell 4 rfl 5 rfl, HO.out.cell 4 rfl 6 rfl, (HO.out.bel.cell (World.block_lt_of_cell? w _ (HQ.out.1))).trans (HQ.out.1), (HO.out.bel.cell (World.block_lt_of_cell? w _ (HQ.out.2.1))).trans (HQ.out.2.1), (HO.out.bel.cell (World.block_lt_of_cell? w _ (HQ.out.2.2.1))).trans (HQ.out.2.2.1), (HO.out.bel.cell (World.block_lt_of_cell? w _ (HQ.out.2.2.2.1))).trans (HQ.out.2.2.2.1), (HO.out.bel.cell (World.block_lt_of_cell? w _ (HQ.out.2.2.2.2))).trans (HQ.out.2.2.2.2)⟩ (fun hHeld => ?_)
                  clear hK K
                  refine norm_ (a' := ?_) ?_ ?_
                  rotate_left
                  · show Act.put _ (some 12) _ = _
                    simp only [Act.put, List.setIfInBounds_toArray, List.set_cons_zero, List.set_cons_succ, i64_w, i32_w]
                    rfl
                  exact norm_ (by first | (simp only [putAll, Act.put, List.setIfInBounds_toArray, List.set_cons_zero, List.set_cons_succ]; done) | (simp only [putAll, Act.put, List.setIfInBounds_toArray, List.set_cons_zero, List.set_cons_succ]; rfl)) (hJ5_10 g6 _ ⟨hHeld, HO.out⟩)
            · skip
              rintro g6 wj ⟨hHeld, hO_⟩
              replace HO := Aside0.mk hO_
              clear hO_
              refine norm_ (a' := ?_) ?_ ?_
              rotate_left
              · simp only [putAll, Act.put, List.setIfInBounds_toArray, List.set_cons_zero, List.set_cons_succ]
                rfl
              refine one_ (i := 6) (N := some 65) #[true, true, true, true, true, true, true, false, false, false, true, false, false] rfl rfl (by kernel_rfl) (by decide) (fun K hK => ?_)
              refine goes_ Try.func82 (by kernel_rfl) rfl #[.agg #[.bool u.f0, .int .u32 u.f1.f0, .int .u32 u.f1.f1, .int .u32 u.f1.f2, .int .u32 u.f1.f3, .int .u32 u.f1.f4, .int .u32 u.f1.f5], .agg #[.bool t8.f0, .int .u32 t8.f1.f0, .int .u32 t8.f1.f1, .int .u32 t8.f1.f2, .int .u32 t8.f1.f3, .int .u32 t8.f1.f4, .int .u32 t8.f1.f5]] (by rfl) rfl rfl (by simp only [List.map_toArray, List.map_cons, List.map_nil]; rfl) ?_
              with_reducible refine (spec_l01Mul.calls k4 u t8 t9 e9 _ M9.out).mono ?_
              rintro e wc ⟨rfl, hb⟩
              refine ⟨_, rfl, ?_⟩
              replace HO := Aside0.mk (HO.out.below hb)
              clear hb
              refine hK.out _ _ ⟨HO.out.cell 4 rfl 0 rfl, HO.out.cell 4 rfl 1 rfl, HO.out.cell 4 rfl 2 rfl, HO.out.cell 4 rfl 3 rfl, HO.out.cell 4 rfl 4 rfl, HO.out.cell 4 rfl 5 rfl, HO.out.cell 4 rfl 6 rfl, (HO.out.bel.cell (World.block_lt_of_cell? w _ (HQ.out.1))).trans (HQ.out.1), (HO.out.bel.cell (World.block_lt_of_cell? w _ (HQ.out.2.1))).trans (HQ.out.2.1), (HO.out.bel.cell (World.block_lt_of_cell? w _ (HQ.out.2.2.1))).trans (HQ.out.2.2.1), (HO.out.bel.cell (World.block_lt_of_cell? w _ (HQ.out.2.2.2.1))).trans (HQ.out.2.2.2.1), (HO.out.bel.cell (World.block_lt_of_cell? w _ (HQ.out.2.2.2.2))).trans (HQ.out.2.2.2.2)⟩ (fun hHeld => ?_)
              clear hK K
              refine norm_ (a' := ?_) ?_ ?_
              rotate_left
              · show Act.put _ (some 65) _ = _
                simp only [Act.put, List.setIfInBounds_toArray, List.set_cons_zero, List.set_cons_succ, i64_w, i32_w]
                rfl
              refine pure_ (i := 7) (N := some 58) (v := ?_) (a' := ?_) #[true, true, true, true, true, true, true, true, false, false, true, false, false] rfl rfl (by kernel_rfl) (fun _ _ _ h => h) (Or.inl ⟨by rfl, ?_⟩) ?_ ?_
              rotate_left
              · intro w'
                go_simp
                with_reducible rfl
              rotate_left
              · simp only [Act.put, List.setIfInBounds_toArray, List.set_cons_zero, List.set_cons_succ, i64_w, i32_w]
                rfl
              refine pure_ (i := 8) (N := some 66) (v := ?_) (a' := ?_) #[true, true, true, true, true, true, true, true, true, false, true, false, false] rfl rfl (by kernel_rfl) (fun _ _ _ h => h) (Or.inl ⟨by rfl, ?_⟩) ?_ ?_
              rotate_left
              · intro w'
                go_simp
                with_reducible rfl
              rotate_left
              · simp only [Act.put, List.setIfInBounds_toArray, List.set_cons_zero, List.set_cons_succ, i64_w, i32_w]
                rfl
              refine pure_ (i := 9) (N := some 67) (v := ?_) (a' := ?_) #[true, true, true, true, true, true, true, true, true, true, true, false, false] rfl rfl (by kernel_rfl) (fun _ _ _ h => h) (Or.inl ⟨by rfl, ?_⟩) ?_ ?_
              rotate_left
              · intro w'
                go_simp
                with_reducible rfl
              rotate_left
              · simp only [Act.put, List.setIfInBounds_toArray, List.set_cons_zero, List.set_cons_succ, i64_w, i32_w]
                rfl
              exact norm_ (by first | (simp only [putAll, Act.put, List.setIfInBounds_toArray, List.set_cons_zero, List.set_cons_succ]; done) | (simp only [putAll, Act.put, List.setIfInBounds_toArray, List.set_cons_zero, List.set_cons_succ]; rfl)) (hJ5_6_10 g6 _ ⟨hHeld, HO.out⟩)
          · skip
            rintro _u wj ⟨hHeld, hO_⟩
            replace HO := Aside0.mk hO_
            clear hO_
            refine norm_ (a' := ?_) ?_ ?_
            rotate_left
            · simp only [putAll, Act.put, List.setIfInBounds_toArray, List.set_cons_zero, List.set_cons_succ]
              rfl
            refine one_ (i := 10) (N := some 12) #[true, true, true, true, true, true, true, true, true, true, true, false, false] rfl rfl (by kernel_rfl) (by decide) (fun K hK => ?_)
            refine box_step ?hg (N := 12) ?hd (cs := #[.bool false, .int .u32 0, .int .u32 0, .int .u32 0, .int .u32 0, .int .u32 0, .int .u32 0]) (t := 25) ?hr ?_; (case hd => rfl); (case hg => rfl); (case hr => first | (go_simp; done) | (go_simp; rfl))
            intro g6 hg wn hbox hb
            replace HO := Aside0.mk (HO.out.box hg hbox hb)
            clear hg hbox hb
            refine hK.out _ _ ⟨HO.out.cell 4 rfl 0 rfl, HO.out.cell 4 rfl 1 rfl, HO.out.cell 4 rfl 2 rfl, HO.out.cell 4 rfl 3 rfl, HO.out.cell 4 rfl 4 rfl, HO.out.cell 4 rfl 5 rfl, HO.out.cell 4 rfl 6 rfl, (HO.out.bel.cell (World.block_lt_of_cell? w _ (HQ.out.1))).trans (HQ.out.1), (HO.out.bel.cell (World.block_lt_of_cell? w _ (HQ.out.2.1))).trans (HQ.out.2.1), (HO.out.bel.cell (World.block_lt_of_cell? w _ (HQ.out.2.2.1))).trans (HQ.out.2.2.1), (HO.out.bel.cell (World.block_lt_of_cell? w _ (HQ.out.2.2.2.1))).trans (HQ.out.2.2.2.1), (HO.out.bel.cell (World.block_lt_of_cell? w _ (HQ.out.2.2.2.2))).trans (HQ.out.2.2.2.2)⟩ (fun hHeld => ?_)
            clear hK K
            refine norm_ (a' := ?_) ?_ ?_
            rotate_left
            · show Act.put _ (some 12) _ = _
              simp only [Act.put, List.setIfInBounds_toArray, List.set_cons_zero, List.set_cons_succ, i64_w, i32_w]
              rfl
            exact norm_ (by first | (simp only [putAll, Act.put, List.setIfInBounds_toArray, List.set_cons_zero, List.set_cons_succ]; done) | (simp only [putAll, Act.put, List.setIfInBounds_toArray, List.set_cons_zero, List.set_cons_succ]; rfl)) (hJ5_6_10 g6 _ ⟨hHeld, HO.out⟩)
        rintro g6 wj ⟨hHeld, hO_⟩
        replace HO := Aside0.mk hO_
        clear hO_
        refine norm_ (a' := ?_) ?_ ?_
        rotate_left
        · simp only [putAll, Act.put, List.setIfInBounds_toArray, List.set_cons_zero, List.set_cons_succ]
          rfl
        refine last_store_ (i := 11) (w1 := (World.setCell (World.setCell (World.setCell (World.setCell (World.setCell (World.setCell (World.setCell wj ⟨g6, 0, none⟩ (.bool t9.f0)) ⟨g6, 1, none⟩ (.int .u32 t9.f1.f0)) ⟨g6, 2, none⟩ (.int .u32 t9.f1.f1)) ⟨g6, 3, none⟩ (.int .u32 t9.f1.f2)) ⟨g6, 4, none⟩ (.int .u32 t9.f1.f3)) ⟨g6, 5, none⟩ (.int .u32 t9.f1.f4)) ⟨g6, 6, none⟩ (.int .u32 t9.f1.f5))) #[true, true, true, true, true, true, true, true, true, true, true, true, false] rfl rfl (by kernel_rfl) (by decide) (by rfl) (run_put7_ rfl (show _ = Value.pointer (some ⟨g6, 0, none⟩) from by rfl) (show _ = Value.agg #[.bool t9.f0, .int .u32 t9.f1.f0, .int .u32 t9.f1.f1, .int .u32 t9.f1.f2, .int .u32 t9.f1.f3, .int .u32 t9.f1.f4, .int .u32 t9.f1.f5] from by rfl) (HO.out.at 0 rfl) (by kernel_rfl) (by rfl)) ?_
        refine pure_ (i := 12) (N := some 13) (v := ?_) (a' := ?_) #[true, true, true, true, true, true, true, true, true, true, true, true, true] rfl rfl (by kernel_rfl) (fun _ _ _ h => h) (Or.inl ⟨by rfl, ?_⟩) ?_ ?_
        rotate_left
        · intro w'
          go_simp
          with_reducible rfl
        rotate_left
        · simp only [Act.put, List.setIfInBounds_toArray, List.set_cons_zero, List.set_cons_succ, i64_w, i32_w]
          rfl
        refine done_ (by kernel_rfl) ?_
        generalize hw_ : (World.setCell (World.setCell (World.setCell (World.setCell (World.setCell (World.setCell (World.setCell wj ⟨g6, 0, none⟩ (.bool t9.f0)) ⟨g6, 1, none⟩ (.int .u32 t9.f1.f0)) ⟨g6, 2, none⟩ (.int .u32 t9.f1.f1)) ⟨g6, 3, none⟩ (.int .u32 t9.f1.f2)) ⟨g6, 4, none⟩ (.int .u32 t9.f1.f3)) ⟨g6, 5, none⟩ (.int .u32 t9.f1.f4)) ⟨g6, 6, none⟩ (.int .u32 t9.f1.f5)) = wk
        replace HO := Aside0.mk (HO.out.put7 0 rfl hw_.symm rfl)
        clear hw_
        go_wp2
        replace HO := Aside0.mk HO.out.drew
        refine start_ (n := 11) (S := fun w' => w'.cell? ⟨g6, 0, none⟩ = some (.bool t9.f0) ∧ w'.cell? ⟨g6, 1, none⟩ = some (.int .u32 t9.f1.f0) ∧ w'.cell? ⟨g6, 2, none⟩ = some (.int .u32 t9.f1.f1) ∧ w'.cell? ⟨g6, 3, none⟩ = some (.int .u32 t9.f1.f2) ∧ w'.cell? ⟨g6, 4, none⟩ = some (.int .u32 t9.f1.f3) ∧ w'.cell? ⟨g6, 5, none⟩ = some (.int .u32 t9.f1.f4) ∧ w'.cell? ⟨g6, 6, none⟩ = some (.int .u32 t9.f1.f5) ∧ w'.cell? ⟨B0_, O0_, none⟩ = some (.int .i64 a0.f0) ∧ w'.cell? ⟨B0_, O0_ + 1, none⟩ = some (.int .i64 a0.f1) ∧ w'.cell? ⟨B0_, O0_ + 2, none⟩ = some (.int .i64 a0.f2) ∧ w'.cell? ⟨B0_, O0_ + 3, none⟩ = some (.int .i64 a0.f3) ∧ w'.cell? ⟨B0_, O0_ + 4, none⟩ = some (.bool a0.f4)) (ds := [10]) #[false, false, false, false, false, false, false, false, false, false, false] (by kernel_rfl) rfl rfl ⟨HO.out.cell 0 rfl 0 rfl, HO.out.cell 0 rfl 1 rfl, HO.out.cell 0 rfl 2 rfl, HO.out.cell 0 rfl 3 rfl, HO.out.cell 0 rfl 4 rfl, HO.out.cell 0 rfl 5 rfl, HO.out.cell 0 rfl 6 rfl, (HO.out.bel.cell (World.block_lt_of_cell? w _ (HQ.out.1))).trans (HQ.out.1), (HO.out.bel.cell (World.block_lt_of_cell? w _ (HQ.out.2.1))).trans (HQ.out.2.1), (HO.out.bel.cell (World.block_lt_of_cell? w _ (HQ.out.2.2.1))).trans (HQ.out.2.2.1), (HO.out.bel.cell (World.block_lt_of_cell? w _ (HQ.out.2.2.2.1))).trans (HQ.out.2.2.2.1), (HO.out.bel.cell (World.block_lt_of_cell? w _ (HQ.out.2.2.2.2))).trans (HQ.out.2.2.2.2)⟩ (fun hHeld => ?_)
        refine pure_ (i := 1) (N := some 70) (v := ?_) (a' := ?_) #[false, true, false, false, false, false, false, false, false, false, false] rfl rfl (by kernel_rfl) (fun _ _ _ h => h) (Or.inl ⟨by rfl, ?_⟩) ?_ ?_
        rotate_left
        · intro w'
          go_simp
          with_reducible rfl
        rotate_left
        · simp only [Act.put, List.setIfInBounds_toArray, List.set_cons_zero, List.set_cons_succ, i64_w, i32_w]
          rfl
        refine pure_ (i := 2) (N := some 71) (v := ?_) (a' := ?_) #[false, true, true, false, false, false, false, false, false, false, false] rfl rfl (by kernel_rfl) (fun _ _ _ h => h) (Or.inl ⟨by rfl, ?_⟩) ?_ ?_
        rotate_left
        · intro w'
          go_simp
          with_reducible rfl
        rotate_left
        · simp only [Act.put, List.setIfInBounds_toArray, List.set_cons_zero, List.set_cons_succ, i64_w, i32_w]
          rfl
        refine pure_ (i := 3) (N := some 72) (v := ?_) (a' := ?_) #[false, true, true, true, false, false, false, false, false, false, false] rfl rfl (by kernel_rfl) (fun _ _ _ h => h) (Or.inl ⟨by rfl, ?_⟩) ?_ ?_
        rotate_left
        · intro w'
          go_simp
          with_reducible rfl
        rotate_left
        · simp only [Act.put, List.setIfInBounds_toArray, List.set_cons_zero, List.set_cons_succ, i64_w, i32_w]
          rfl
        refine take_ (i := 0) (N := some 69) (v := ?_) (a' := ?_) #[true, true, true, true, false, false, false, false, false, false, false] rfl rfl (by kernel_rfl) (fun _ _ _ h => h) (Or.inl ⟨by rfl, ?_⟩) hHeld ?_ ?_
        rotate_left
        · rintro w' ⟨s0, s1, s2, s3, s4, s5, s6, s7, s8, s9, s10, s11⟩
          go_simp
          with_reducible rfl
        rotate_left
        · simp only [Act.put, List.setIfInBounds_toArray, List.set_cons_zero, List.set_cons_succ, i64_w, i32_w]
          rfl
        refine take_ (i := 4) (N := some 73) (v := ?_) (a' := ?_) #[true, true, true, true, true, false, false, false, false, false, false] rfl rfl (by kernel_rfl) (fun _ _ _ h => h) (Or.inl ⟨by rfl, ?_⟩) hHeld ?_ ?_
        rotate_left
        · rintro w' ⟨s0, s1, s2, s3, s4, s5, s6, s7, s8, s9, s10, s11⟩
          go_simp
          with_reducible rfl
        rotate_left
        · simp only [Act.put, List.setIfInBounds_toArray, List.set_cons_zero, List.set_cons_succ, i64_w, i32_w]
          rfl
        refine one_ (i := 5) (N := some 74) #[true, true, true, true, true, true, false, false, false, false, false] rfl rfl (by kernel_rfl) (by decide) (fun K hK => ?_)
        refine goes_ Try.func83 (by kernel_rfl) rfl #[.int .i64 a0.f1] (by rfl) rfl rfl (by simp only [List.map_toArray, List.map_cons, List.map_nil]; rfl) ?_
        with_reducible refine (spec_l01Of.calls _ t10 _ M10.out).mono ?_
        rintro e wd ⟨rfl, hb⟩
        refine ⟨_, rfl, ?_⟩
        replace HO := Aside0.mk (HO.out.below hb)
        clear hb
        refine hK.out _ _ ⟨HO.out.cell 0 rfl 0 rfl, HO.out.cell 0 rfl 1 rfl, HO.out.cell 0 rfl 2 rfl, HO.out.cell 0 rfl 3 rfl, HO.out.cell 0 rfl 4 rfl, HO.out.cell 0 rfl 5 rfl, HO.out.cell 0 rfl 6 rfl, (HO.out.bel.cell (World.block_lt_of_cell? w _ (HQ.out.1))).trans (HQ.out.1), (HO.out.bel.cell (World.block_lt_of_cell? w _ (HQ.out.2.1))).trans (HQ.out.2.1), (HO.out.bel.cell (World.block_lt_of_cell? w _ (HQ.out.2.2.1))).trans (HQ.out.2.2.1), (HO.out.bel.cell (World.block_lt_of_cell? w _ (HQ.out.2.2.2.1))).trans (HQ.out.2.2.2.1), (HO.out.bel.cell (World.block_lt_of_cell? w _ (HQ.out.2.2.2.2))).trans (HQ.out.2.2.2.2)⟩ (fun hHeld => ?_)
        clear hK K
        refine norm_ (a' := ?_) ?_ ?_
        rotate_left
        · show Act.put _ (some 74) _ = _
          simp only [Act.put, List.setIfInBounds_toArray, List.set_cons_zero, List.set_cons_succ, i64_w, i32_w]
          rfl
        refine one_ (i := 6) (N := some 75) #[true, true, true, true, true, true, true, false, false, false, false] rfl rfl (by kernel_rfl) (by decide) (fun K hK => ?_)
        refine goes_ Try.func99 (by kernel_rfl) rfl #[.agg #[.bool t9.f0, .int .u32 t9.f1.f0, .int .u32 t9.f1.f1, .int .u32 t9.f1.f2, .int .u32 t9.f1.f3, .int .u32 t9.f1.f4, .int .u32 t9.f1.f5], .agg #[.bool t10.f0, .int .u32 t10.f1.f0, .int .u32 t10.f1.f1, .int .u32 t10.f1.f2, .int .u32 t10.f1.f3, .int .u32 t10.f1.f4, .int .u32 t10.f1.f5]] (by rfl) rfl rfl (by simp only [List.map_toArray, List.map_cons, List.map_nil]; rfl) ?_
        with_reducible refine (spec_l01Div.calls t9 t10 t11 t12 _ M11.out).mono ?_
        rintro e wd ⟨rfl, hb⟩
        refine ⟨_, rfl, ?_⟩
        replace HO := Aside0.mk (HO.out.below hb)
        clear hb
        refine hK.out _ _ ⟨HO.out.cell 0 rfl 0 rfl, HO.out.cell 0 rfl 1 rfl, HO.out.cell 0 rfl 2 rfl, HO.out.cell 0 rfl 3 rfl, HO.out.cell 0 rfl 4 rfl, HO.out.cell 0 rfl 5 rfl, HO.out.cell 0 rfl 6 rfl, (HO.out.bel.cell (World.block_lt_of_cell? w _ (HQ.out.1))).trans (HQ.out.1), (HO.out.bel.cell (World.block_lt_of_cell? w _ (HQ.out.2.1))).trans (HQ.out.2.1), (HO.out.bel.cell (World.block_lt_of_cell? w _ (HQ.out.2.2.1))).trans (HQ.out.2.2.1), (HO.out.bel.cell (World.block_lt_of_cell? w _ (HQ.out.2.2.2.1))).trans (HQ.out.2.2.2.1), (HO.out.bel.cell (World.block_lt_of_cell? w _ (HQ.out.2.2.2.2))).trans (HQ.out.2.2.2.2)⟩ (fun hHeld => ?_)
        clear hK K
        refine norm_ (a' := ?_) ?_ ?_
        rotate_left
        · show Act.put _ (some 75) _ = _
          simp only [Act.put, List.setIfInBounds_toArray, List.set_cons_zero, List.set_cons_succ, i64_w, i32_w]
          rfl
        refine pure_ (i := 7) (N := some 68) (v := ?_) (a' := ?_) #[true, true, true, true, true, true, true, true, false, false, false] rfl rfl (by kernel_rfl) (fun _ _ _ h => h) (Or.inl ⟨by rfl, ?_⟩) ?_ ?_
        rotate_left
        · intro w'
          go_simp
          with_reducible rfl
        rotate_left
        · simp only [Act.put, List.setIfInBounds_toArray, List.set_cons_zero, List.set_cons_succ, i64_w, i32_w]
          rfl
        refine pure_ (i := 8) (N := some 76) (v := ?_) (a' := ?_) #[true, true, true, true, true, true, true, true, true, false, false] rfl rfl (by kernel_rfl) (fun _ _ _ h => h) (Or.inl ⟨by rfl, ?_⟩) ?_ ?_
        rotate_left
        · intro w'
          go_simp
          with_reducible rfl
        rotate_left
        · simp only [Act.put, List.setIfInBounds_toArray, List.set_cons_zero, List.set_cons_succ, i64_w, i32_w]
          rfl
        refine pure_ (i := 9) (N := some 77) (v := ?_) (a' := ?_) #[true, true, true, true, true, true, true, true, true, true, false] rfl rfl (by kernel_rfl) (fun _ _ _ h => h) (Or.inl ⟨by rfl, ?_⟩) ?_ ?_
        rotate_left
        · intro w'
          go_simp
          with_reducible rfl
        rotate_left
        · simp only [Act.put, List.setIfInBounds_toArray, List.set_cons_zero, List.set_cons_succ, i64_w, i32_w]
          rfl
        refine last_store_ (i := 10) (w1 := (World.setCell (World.setCell (World.setCell (World.setCell (World.setCell (World.setCell (World.setCell wd ⟨g2, 0, none⟩ (.bool t11.f0)) ⟨g2, 1, none⟩ (.int .u32 t11.f1.f0)) ⟨g2, 2, none⟩ (.int .u32 t11.f1.f1)) ⟨g2, 3, none⟩ (.int .u32 t11.f1.f2)) ⟨g2, 4, none⟩ (.int .u32 t11.f1.f3)) ⟨g2, 5, none⟩ (.int .u32 t11.f1.f4)) ⟨g2, 6, none⟩ (.int .u32 t11.f1.f5))) #[true, true, true, true, true, true, true, true, true, true, true] rfl rfl (by kernel_rfl) (by decide) (by rfl) (run_put7_ rfl (show _ = Value.pointer (some ⟨g2, 0, none⟩) from by rfl) (show _ = Value.agg #[.bool t11.f0, .int .u32 t11.f1.f0, .int .u32 t11.f1.f1, .int .u32 t11.f1.f2, .int .u32 t11.f1.f3, .int .u32 t11.f1.f4, .int .u32 t11.f1.f5] from by rfl) (HO.out.at 4 rfl) (by kernel_rfl) (by rfl)) ?_
        refine done_ (by kernel_rfl) ?_
        generalize hw_ : (World.setCell (World.setCell (World.setCell (World.setCell (World.setCell (World.setCell (World.setCell wd ⟨g2, 0, none⟩ (.bool t11.f0)) ⟨g2, 1, none⟩ (.int .u32 t11.f1.f0)) ⟨g2, 2, none⟩ (.int .u32 t11.f1.f1)) ⟨g2, 3, none⟩ (.int .u32 t11.f1.f2)) ⟨g2, 4, none⟩ (.int .u32 t11.f1.f3)) ⟨g2, 5, none⟩ (.int .u32 t11.f1.f4)) ⟨g2, 6, none⟩ (.int .u32 t11.f1.f5)) = wm
        replace HO := Aside0.mk (HO.out.put7 4 rfl hw_.symm rfl)
        clear hw_
        go_wp2
        go_roundg k4
        case measure => omega
        case rel => exact ⟨wrap64 (c + 1), t11, t7, rfl, H, ⟨by have := HK.out; omega⟩, ⟨HO.out.drop.drop.drop⟩⟩
      | true =>
        rw [hm, if_pos rfl] at h
        obtain ⟨t6, m6, h⟩ := Option.bind_eq_some_iff.mp h
        have M6 := Aside0.mk m6
        clear m6
        obtain ⟨k4, rfl⟩ : ∃ q, k3 = q + 1 := by
          cases k3 with
          | zero => exact absurd h (by simp [spec_l05Sum.j2])
          | succ q => exact ⟨q, rfl⟩
        rw [spec_l05Sum.j2] at h
        obtain ⟨⟨t7, e7⟩, m7, h⟩ := Option.bind_eq_some_iff.mp h
        obtain ⟨t8, m8, h⟩ := Option.bind_eq_some_iff.mp h
        obtain ⟨⟨t9, e9⟩, m9, h⟩ := Option.bind_eq_some_iff.mp h
        obtain ⟨t10, m10, h⟩ := Option.bind_eq_some_iff.mp h
        obtain ⟨⟨t11, t12⟩, m11, h⟩ := Option.bind_eq_some_iff.mp h
        have M7 := Aside0.mk m7
        have M8 := Aside0.mk m8
        have M9 := Aside0.mk m9
        have M10 := Aside0.mk m10
        have M11 := Aside0.mk m11
        have H := Aside0.mk h
        clear h m7 m8 m9 m10 m11
        obtain ⟨hm0, hm1, hm2, hm3, hm4, hm5, hm6⟩ := cells7_ (HO.out.at 1 rfl)
        go_wp2_with (first | (go_at_call 85; (with_reducible refine (spec_l01Neg.calls t3 t6 _ M6.out).mono ?_); rintro e wa ⟨rfl, hb⟩; replace HO := Aside0.mk (HO.out.below hb); clear hb; clear hm0 hm1 hm2 hm3 hm4 hm5 hm6) | ((with_reducible refine gate_store (t := 25) (p := 10) rfl ?_); refine store_event (t := 25) (p := 10) (v := ?vo_8) (w1 := (World.setCell (World.setCell (World.setCell (World.setCell (World.setCell (World.setCell (World.setCell wa ⟨g4, 0, none⟩ (.bool t6.f0)) ⟨g4, 1, none⟩ (.int .u32 t6.f1.f0)) ⟨g4, 2, none⟩ (.int .u32 t6.f1.f1)) ⟨g4, 3, none⟩ (.int .u32 t6.f1.f2)) ⟨g4, 4, none⟩ (.int .u32 t6.f1.f3)) ⟨g4, 5, none⟩ (.int .u32 t6.f1.f4)) ⟨g4, 6, none⟩ (.int .u32 t6.f1.f5))) ?hg ?ho ?hn ?hr ?_; (case ho => rfl); (case hg => rfl); (case hn => rfl); (case hr => (try simp only [Act.put, List.setIfInBounds_toArray, List.set_cons_zero, List.set_cons_succ]); exact run_put7_ rfl (show _ = Value.pointer (some ⟨g4, 0, none⟩) from by rfl) (show _ = Value.agg #[.bool t6.f0, .int .u32 t6.f1.f0, .int .u32 t6.f1.f1, .int .u32 t6.f1.f2, .int .u32 t6.f1.f3, .int .u32 t6.f1.f4, .int .u32 t6.f1.f5] from by rfl) (HO.out.at 1 rfl) (by kernel_rfl) (by rfl)); intro wb hw; replace HO := Aside0.mk (HO.out.put7 1 rfl hw rfl); clear hw; obtain ⟨hp0, hp1, hp2, hp3, hp4, hp5, hp6⟩ := cells7_ (HO.out.at 2 rfl); obtain ⟨hq0, hq1, hq2, hq3, hq4, hq5, hq6⟩ := cells7_ (HO.out.at 1 rfl)) | (go_at_call 84; (with_reducible refine (spec_l01Add.calls k4 sm t6 t7 e7 _ M7.out).mono ?_); rintro e w8 ⟨rfl, hb⟩; replace HO := Aside0.mk (HO.out.below hb); clear hb) | ((with_reducible refine gate_store (t := 25) (p := 8) rfl ?_); refine store_event (t := 25) (p := 8) (v := ?vo_7) (w1 := (World.setCell (World.setCell (World.setCell (World.setCell (World.setCell (World.setCell (World.setCell w8 ⟨g3, 0, none⟩ (.bool t7.f0)) ⟨g3, 1, none⟩ (.int .u32 t7.f1.f0)) ⟨g3, 2, none⟩ (.int .u32 t7.f1.f1)) ⟨g3, 3, none⟩ (.int .u32 t7.f1.f2)) ⟨g3, 4, none⟩ (.int .u32 t7.f1.f3)) ⟨g3, 5, none⟩ (.int .u32 t7.f1.f4)) ⟨g3, 6, none⟩ (.int .u32 t7.f1.f5))) ?hg ?ho ?hn ?hr ?_; (case ho => rfl); (case hg => rfl); (case hn => rfl); (case hr => (try simp only [Act.put, List.setIfInBounds_toArray, List.set_cons_zero, List.set_cons_succ]); exact run_put7_ rfl (show _ = Value.pointer (some ⟨g3, 0, none⟩) from by rfl) (show _ = Value.agg #[.bool t7.f0, .int .u32 t7.f1.f0, .int .u32 t7.f1.f1, .int .u32 t7.f1.f2, .int .u32 t7.f1.f3, .int .u32 t7.f1.f4, .int .u32 t7.f1.f5] from by rfl) (HO.out.at 2 rfl) (by kernel_rfl) (by rfl)); intro w9 hw; replace HO := Aside0.mk (HO.out.put7 2 rfl hw rfl); clear hw))
        replace HO := Aside0.mk HO.out.drew
        refine start_ (n := 13) (S := fun w' => w'.cell? ⟨g2, 0, none⟩ = some (.bool u.f0) ∧ w'.cell? ⟨g2, 1, none⟩ = some (.int .u32 u.f1.f0) ∧ w'.cell? ⟨g2, 2, none⟩ = some (.int .u32 u.f1.f1) ∧ w'.cell? ⟨g2, 3, none⟩ = some (.int .u32 u.f1.f2) ∧ w'.cell? ⟨g2, 4, none⟩ = some (.int .u32 u.f1.f3) ∧ w'.cell? ⟨g2, 5, none⟩ = some (.int .u32 u.f1.f4) ∧ w'.cell? ⟨g2, 6, none⟩ = some (.int .u32 u.f1.f5) ∧ w'.cell? ⟨B0_, O0_, none⟩ = some (.int .i64 a0.f0) ∧ w'.cell? ⟨B0_, O0_ + 1, none⟩ = some (.int .i64 a0.f1) ∧ w'.cell? ⟨B0_, O0_ + 2, none⟩ = some (.int .i64 a0.f2) ∧ w'.cell? ⟨B0_, O0_ + 3, none⟩ = some (.int .i64 a0.f3) ∧ w'.cell? ⟨B0_, O0_ + 4, none⟩ = some (.bool a0.f4)) (ds := [11]) #[false, false, false, false, false, false, false, false, false, false, false, false, false] (by kernel_rfl) rfl rfl ⟨HO.out.cell 3 rfl 0 rfl, HO.out.cell 3 rfl 1 rfl, HO.out.cell 3 rfl 2 rfl, HO.out.cell 3 rfl 3 rfl, HO.out.cell 3 rfl 4 rfl, HO.out.cell 3 rfl 5 rfl, HO.out.cell 3 rfl 6 rfl, (HO.out.bel.cell (World.block_lt_of_cell? w _ (HQ.out.1))).trans (HQ.out.1), (HO.out.bel.cell (World.block_lt_of_cell? w _ (HQ.out.2.1))).trans (HQ.out.2.1), (HO.out.bel.cell (World.block_lt_of_cell? w _ (HQ.out.2.2.1))).trans (HQ.out.2.2.1), (HO.out.bel.cell (World.block_lt_of_cell? w _ (HQ.out.2.2.2.1))).trans (HQ.out.2.2.2.1), (HO.out.bel.cell (World.block_lt_of_cell? w _ (HQ.out.2.2.2.2))).trans (HQ.out.2.2.2.2)⟩ (fun hHeld => ?_)
        refine pure_ (i := 1) (N := some 60) (v := ?_) (a' := ?_) #[false, true, false, false, false, false, false, false, false, false, false, false, false] rfl rfl (by kernel_rfl) (fun _ _ _ h => h) (Or.inl ⟨by rfl, ?_⟩) ?_ ?_
        rotate_left
        · intro w'
          go_simp
          with_reducible rfl
        rotate_left
        · simp only [Act.put, List.setIfInBounds_toArray, List.set_cons_zero, List.set_cons_succ, i64_w, i32_w]
          rfl
        refine pure_ (i := 2) (N := some 61) (v := ?_) (a' := ?_) #[false, true, true, false, false, false, false, false, false, false, false, false, false] rfl rfl (by kernel_rfl) (fun _ _ _ h => h) (Or.inl ⟨by rfl, ?_⟩) ?_ ?_
        rotate_left
        · intro w'
          go_simp
          with_reducible rfl
        rotate_left
        · simp only [Act.put, List.setIfInBounds_toArray, List.set_cons_zero, List.set_cons_succ, i64_w, i32_w]
          rfl
        refine pure_ (i := 3) (N := some 62) (v := ?_) (a' := ?_) #[false, true, true, true, false, false, false, false, false, false, false, false, false] rfl rfl (by kernel_rfl) (fun _ _ _ h => h) (Or.inl ⟨by rfl, ?_⟩) ?_ ?_
        rotate_left
        · intro w'
          go_simp
          with_reducible rfl
        rotate_left
        · simp only [Act.put, List.setIfInBounds_toArray, List.set_cons_zero, List.set_cons_succ, i64_w, i32_w]
          rfl
        refine take_ (i := 0) (N := some 59) (v := ?_) (a' := ?_) #[true, true, true, true, false, false, false, false, false, false, false, false, false] rfl rfl (by kernel_rfl) (fun _ _ _ h => h) (Or.inl ⟨by rfl, ?_⟩) hHeld ?_ ?_
        rotate_left
        · rintro w' ⟨s0, s1, s2, s3, s4, s5, s6, s7, s8, s9, s10, s11⟩
          go_simp
          with_reducible rfl
        rotate_left
        · simp only [Act.put, List.setIfInBounds_toArray, List.set_cons_zero, List.set_cons_succ, i64_w, i32_w]
          rfl
        refine take_ (i := 4) (N := some 63) (v := ?_) (a' := ?_) #[true, true, true, true, true, false, false, false, false, false, false, false, false] rfl rfl (by kernel_rfl) (fun _ _ _ h => h) (Or.inl ⟨by rfl, ?_⟩) hHeld ?_ ?_
        rotate_left
        · rintro w' ⟨s0, s1, s2, s3, s4, s5, s6, s7, s8, s9, s10, s11⟩
          go_simp
          with_reducible rfl
        rotate_left
        · simp only [Act.put, List.setIfInBounds_toArray, List.set_cons_zero, List.set_cons_succ, i64_w, i32_w]
          rfl
        refine join_ (σ := Nat) 2 #[true, true, true, true, true, true, true, true, true, true, true, false, false] (fun s_ => [(64, .agg #[.bool t8.f0, .int .u32 t8.f1.f0, .int .u32 t8.f1.f1, .int .u32 t8.f1.f2, .int .u32 t8.f1.f3, .int .u32 t8.f1.f4, .int .u32 t8.f1.f5]), (65, .tuple #[.agg #[.bool t9.f0, .int .u32 t9.f1.f0, .int .u32 t9.f1.f1, .int .u32 t9.f1.f2, .int .u32 t9.f1.f3, .int .u32 t9.f1.f4, .int .u32 t9.f1.f5], .int .i64 e9]), (58, .tuple #[.agg #[.bool t9.f0, .int .u32 t9.f1.f0, .int .u32 t9.f1.f1, .int .u32 t9.f1.f2, .int .u32 t9.f1.f3, .int .u32 t9.f1.f4, .int .u32 t9.f1.f5], .int .i64 e9]), (66, .agg #[.bool t9.f0, .int .u32 t9.f1.f0, .int .u32 t9.f1.f1, .int .u32 t9.f1.f2, .int .u32 t9.f1.f3, .int .u32 t9.f1.f4, .int .u32 t9.f1.f5]), (67, .int .i64 e9), (12, Value.pointer (some ⟨s_, 0, none⟩))]) (fun s_ w' => (w'.cell? ⟨g2, 0, none⟩ = some (.bool u.f0) ∧ w'.cell? ⟨g2, 1, none⟩ = some (.int .u32 u.f1.f0) ∧ w'.cell? ⟨g2, 2, none⟩ = some (.int .u32 u.f1.f1) ∧ w'.cell? ⟨g2, 3, none⟩ = some (.int .u32 u.f1.f2) ∧ w'.cell? ⟨g2, 4, none⟩ = some (.int .u32 u.f1.f3) ∧ w'.cell? ⟨g2, 5, none⟩ = some (.int .u32 u.f1.f4) ∧ w'.cell? ⟨g2, 6, none⟩ = some (.int .u32 u.f1.f5) ∧ w'.cell? ⟨B0_, O0_, none⟩ = some (.int .i64 a0.f0) ∧ w'.cell? ⟨B0_, O0_ + 1, none⟩ = some (.int .i64 a0.f1) ∧ w'.cell? ⟨B0_, O0_ + 2, none⟩ = some (.int .i64 a0.f2) ∧ w'.cell? ⟨B0_, O0_ + 3, none⟩ = some (.int .i64 a0.f3) ∧ w'.cell? ⟨B0_, O0_ + 4, none⟩ = some (.bool a0.f4)) ∧ Wide.OB w.heap.size w w' [(s_, #[.bool false, .int .u32 0, .int .u32 0, .int .u32 0, .int .u32 0, .int .u32 0, .int .u32 0], 25), (g5, #[.bool t4.f0, .int .u32 t4.f1.f0, .int .u32 t4.f1.f1, .int .u32 t4.f1.f2, .int .u32 t4.f1.f3, .int .u32 t4.f1.f4, .int .u32 t4.f1.f5], 25), (g4, #[.bool t6.f0, .int .u32 t6.f1.f0, .int .u32 t6.f1.f1, .int .u32 t6.f1.f2, .int .u32 t6.f1.f3, .int .u32 t6.f1.f4, .int .u32 t6.f1.f5], 25), (g3, #[.bool t7.f0, .int .u32 t7.f1.f0, .int .u32 t7.f1.f1, .int .u32 t7.f1.f2, .int .u32 t7.f1.f3, .int .u32 t7.f1.f4, .int .u32 t7.f1.f5], 25), (g2, #[.bool u.f0, .int .u32 u.f1.f0, .int .u32 u.f1.f1, .int .u32 u.f1.f2, .int .u32 u.f1.f3, .int .u32 u.f1.f4, .int .u32 u.f1.f5], 25), (g1, #[.bool false, .int .u32 0, .int .u32 0, .int .u32 0, .int .u32 0, .int .u32 0, .int .u32 0], 25)]) ?_ ?_
        rotate_left
        · intro hJ5_6_10
          refine join_ (σ := Unit) 3 #[true, true, true, true, true, true, true, true, true, true, false, false, false] (fun s_ => [(64, .agg #[.bool t8.f0, .int .u32 t8.f1.f0, .int .u32 t8.f1.f1, .int .u32 t8.f1.f2, .int .u32 t8.f1.f3, .int .u32 t8.f1.f4, .int .u32 t8.f1.f5]), (65, .tuple #[.agg #[.bool t9.f0, .int .u32 t9.f1.f0, .int .u32 t9.f1.f1, .int .u32 t9.f1.f2, .int .u32 t9.f1.f3, .int .u32 t9.f1.f4, .int .u32 t9.f1.f5], .int .i64 e9]), (58, .tuple #[.agg #[.bool t9.f0, .int .u32 t9.f1.f0, .int .u32 t9.f1.f1, .int .u32 t9.f1.f2, .int .u32 t9.f1.f3, .int .u32 t9.f1.f4, .int .u32 t9.f1.f5], .int .i64 e9]), (66, .agg #[.bool t9.f0, .int .u32 t9.f1.f0, .int .u32 t9.f1.f1, .int .u32 t9.f1.f2, .int .u32 t9.f1.f3, .int .u32 t9.f1.f4, .int .u32 t9.f1.f5]), (67, .int .i64 e9)]) (fun s_ w' => (w'.cell? ⟨g2, 0, none⟩ = some (.bool u.f0) ∧ w'.cell? ⟨g2, 1, none⟩ = some (.int .u32 u.f1.f0) ∧ w'.cell? ⟨g2, 2, none⟩ = some (.int .u32 u.f1.f1) ∧ w'.cell? ⟨g2, 3, none⟩ = some (.int .u32 u.f1.f2) ∧ w'.cell? ⟨g2, 4, none⟩ = some (.int .u32 u.f1.f3) ∧ w'.cell? ⟨g2, 5, none⟩ = some (.int .u32 u.f1.f4) ∧ w'.cell? ⟨g2, 6, none⟩ = some (.int .u32 u.f1.f5) ∧ w'.cell? ⟨B0_, O0_, none⟩ = some (.int .i64 a0.f0) ∧ w'.cell? ⟨B0_, O0_ + 1, none⟩ = some (.int .i64 a0.f1) ∧ w'.cell? ⟨B0_, O0_ + 2, none⟩ = some (.int .i64 a0.f2) ∧ w'.cell? ⟨B0_, O0_ + 3, none⟩ = some (.int .i64 a0.f3) ∧ w'.cell? ⟨B0_, O0_ + 4, none⟩ = some (.bool a0.f4)) ∧ Wide.OB w.heap.size w w' [(g5, #[.bool t4.f0, .int .u32 t4.f1.f0, .int .u32 t4.f1.f1, .int .u32 t4.f1.f2, .int .u32 t4.f1.f3, .int .u32 t4.f1.f4, .int .u32 t4.f1.f5], 25), (g4, #[.bool t6.f0, .int .u32 t6.f1.f0, .int .u32 t6.f1.f1, .int .u32 t6.f1.f2, .int .u32 t6.f1.f3, .int .u32 t6.f1.f4, .int .u32 t6.f1.f5], 25), (g3, #[.bool t7.f0, .int .u32 t7.f1.f0, .int .u32 t7.f1.f1, .int .u32 t7.f1.f2, .int .u32 t7.f1.f3, .int .u32 t7.f1.f4, .int .u32 t7.f1.f5], 25), (g2, #[.bool u.f0, .int .u32 u.f1.f0, .int .u32 u.f1.f1, .int .u32 u.f1.f2, .int .u32 u.f1.f3, .int .u32 u.f1.f4, .int .u32 u.f1.f5], 25), (g1, #[.bool false, .int .u32 0, .int .u32 0, .int .u32 0, .int .u32 0, .int .u32 0, .int .u32 0], 25)]) ?_ ?_
          rotate_left
          · intro hJ5_6
            refine join_ (σ := Nat) 6 #[true, true, true, true, true, true, false, false, false, false, true, false, false] (fun s_ => [(64, .agg #[.bool t8.f0, .int .u32 t8.f1.f0, .int .u32 t8.f1.f1, .int .u32 t8.f1.f2, .int .u32 t8.f1.f3, .int .u32 t8.f1.f4, .int .u32 t8.f1.f5]), (12, Value.pointer (some ⟨s_, 0, none⟩))]) (fun s_ w' => (w'.cell? ⟨g2, 0, none⟩ = some (.bool u.f0) ∧ w'.cell? ⟨g2, 1, none⟩ = some (.int .u32 u.f1.f0) ∧ w'.cell? ⟨g2, 2, none⟩ = some (.int .u32 u.f1.f1) ∧ w'.cell? ⟨g2, 3, none⟩ = some (.int .u32 u.f1.f2) ∧ w'.cell? ⟨g2, 4, none⟩ = some (.int .u32 u.f1.f3) ∧ w'.cell? ⟨g2, 5, none⟩ = some (.int .u32 u.f1.f4) ∧ w'.cell? ⟨g2, 6, none⟩ = some (.int .u32 u.f1.f5) ∧ w'.cell? ⟨B0_, O0_, none⟩ = some (.int .i64 a0.f0) ∧ w'.cell? ⟨B0_, O0_ + 1, none⟩ = some (.int .i64 a0.f1) ∧ w'.cell? ⟨B0_, O0_ + 2, none⟩ = some (.int .i64 a0.f2) ∧ w'.cell? ⟨B0_, O0_ + 3, none⟩ = some (.int .i64 a0.f3) ∧ w'.cell? ⟨B0_, O0_ + 4, none⟩ = some (.bool a0.f4)) ∧ Wide.OB w.heap.size w w' [(s_, #[.bool false, .int .u32 0, .int .u32 0, .int .u32 0, .int .u32 0, .int .u32 0, .int .u32 0], 25), (g5, #[.bool t4.f0, .int .u32 t4.f1.f0, .int .u32 t4.f1.f1, .int .u32 t4.f1.f2, .int .u32 t4.f1.f3, .int .u32 t4.f1.f4, .int .u32 t4.f1.f5], 25), (g4, #[.bool t6.f0, .int .u32 t6.f1.f0, .int .u32 t6.f1.f1, .int .u32 t6.f1.f2, .int .u32 t6.f1.f3, .int .u32 t6.f1.f4, .int .u32 t6.f1.f5], 25), (g3, #[.bool t7.f0, .int .u32 t7.f1.f0, .int .u32 t7.f1.f1, .int .u32 t7.f1.f2, .int .u32 t7.f1.f3, .int .u32 t7.f1.f4, .int .u32 t7.f1.f5], 25), (g2, #[.bool u.f0, .int .u32 u.f1.f0, .int .u32 u.f1.f1, .int .u32 u.f1.f2, .int .u32 u.f1.f3, .int .u32 u.f1.f4, .int .u32 u.f1.f5], 25), (g1, #[.bool false, .int .u32 0, .int .u32 0, .int .u32 0, .int .u32 0, .int .u32 0, .int .u32 0], 25)]) ?_ ?_
            rotate_left
            · intro hJ5_10
              refine join_ (σ := Unit) 7 #[true, true, true, true, true, true, false, false, false, false, false, false, false] (fun s_ => [(64, .agg #[.bool t8.f0, .int .u32 t8.f1.f0, .int .u32 t8.f1.f1, .int .u32 t8.f1.f2, .int .u32 t8.f1.f3, .int .u32 t8.f1.f4, .int .u32 t8.f1.f5])]) (fun s_ w' => (w'.cell? ⟨g2, 0, none⟩ = some (.bool u.f0) ∧ w'.cell? ⟨g2, 1, none⟩ = some (.int .u32 u.f1.f0) ∧ w'.cell? ⟨g2, 2, none⟩ = some (.int .u32 u.f1.f1) ∧ w'.cell? ⟨g2, 3, none⟩ = some (.int .u32 u.f1.f2) ∧ w'.cell? ⟨g2, 4, none⟩ = some (.int .u32 u.f1.f3) ∧ w'.cell? ⟨g2, 5, none⟩ = some (.int .u32 u.f1.f4) ∧ w'.cell? ⟨g2, 6, none⟩ = some (.int .u32 u.f1.f5) ∧ w'.cell? ⟨B0_, O0_, none⟩ = some (.int .i64 a0.f0) ∧ w'.cell? ⟨B0_, O0_ + 1, none⟩ = some (.int .i64 a0.f1) ∧ w'.cell? ⟨B0_, O0_ + 2, none⟩ = some (.int .i64 a0.f2) ∧ w'.cell? ⟨B0_, O0_ + 3, none⟩ = some (.int .i64 a0.f3) ∧ w'.cell? ⟨B0_, O0_ + 4, none⟩ = some (.bool a0.f4)) ∧ Wide.OB w.heap.size w w' [(g5, #[.bool t4.f0, .int .u32 t4.f1.f0, .int .u32 t4.f1.f1, .int .u32 t4.f1.f2, .int .u32 t4.f1.f3, .int .u32 t4.f1.f4, .int .u32 t4.f1.f5], 25), (g4, #[.bool t6.f0, .int .u32 t6.f1.f0, .int .u32 t6.f1.f1, .int .u32 t6.f1.f2, .int .u32 t6.f1.f3, .int .u32 t6.f1.f4, .int .u32 t6.f1.f5], 25), (g3, #[.bool t7.f0, .int .u32 t7.f1.f0, .int .u32 t7.f1.f1, .int .u32 t7.f1.f2, .int .u32 t7.f1.f3, .int .u32 t7.f1.f4, .int .u32 t7.f1.f5], 25), (g2, #[.bool u.f0, .int .u32 u.f1.f0, .int .u32 u.f1.f1, .int .u32 u.f1.f2, .int .u32 u.f1.f3, .int .u32 u.f1.f4, .int .u32 u.f1.f5], 25), (g1, #[.bool false, .int .u32 0, .int .u32 0, .int .u32 0, .int .u32 0, .int .u32 0, .int .u32 0], 25)]) ?_ ?_
              rotate_left
              · intro hJ5
                refine join_ (σ := Nat) 7 #[true, true, true, true, true, false, false, false, false, false, true, false, false] (fun s_ => [(12, Value.pointer (some ⟨s_, 0, none⟩))]) (fun s_ w' => (w'.cell? ⟨g2, 0, none⟩ = some (.bool u.f0) ∧ w'.cell? ⟨g2, 1, none⟩ = some (.int .u32 u.f1.f0) ∧ w'.cell? ⟨g2, 2, none⟩ = some (.int .u32 u.f1.f1) ∧ w'.cell? ⟨g2, 3, none⟩ = some (.int .u32 u.f1.f2) ∧ w'.cell? ⟨g2, 4, none⟩ = some (.int .u32 u.f1.f3) ∧ w'.cell? ⟨g2, 5, none⟩ = some (.int .u32 u.f1.f4) ∧ w'.cell? ⟨g2, 6, none⟩ = some (.int .u32 u.f1.f5) ∧ w'.cell? ⟨B0_, O0_, none⟩ = some (.int .i64 a0.f0) ∧ w'.cell? ⟨B0_, O0_ + 1, none⟩ = some (.int .i64 a0.f1) ∧ w'.cell? ⟨B0_, O0_ + 2, none⟩ = some (.int .i64 a0.f2) ∧ w'.cell? ⟨B0_, O0_ + 3, none⟩ = some (.int .i64 a0.f3) ∧ w'.cell? ⟨B0_, O0_ + 4, none⟩ = some (.bool a0.f4)) ∧ Wide.OB w.heap.size w w' [(s_, #[.bool false, .int .u32 0, .int .u32 0, .int .u32 0, .int .u32 0, .int .u32 0, .int .u32 0], 25), (g5, #[.bool t4.f0, .int .u32 t4.f1.f0, .int .u32 t4.f1.f1, .int .u32 t4.f1.f2, .int .u32 t4.f1.f3, .int .u32 t4.f1.f4, .int .u32 t4.f1.f5], 25), (g4, #[.bool t6.f0, .int .u32 t6.f1.f0, .int .u32 t6.f1.f1, .int .u32 t6.f1.f2, .int .u32 t6.f1.f3, .int .u32 t6.f1.f4, .int .u32 t6.f1.f5], 25), (g3, #[.bool t7.f0, .int .u32 t7.f1.f0, .int .u32 t7.f1.f1, .int .u32 t7.f1.f2, .int .u32 t7.f1.f3, .int .u32 t7.f1.f4, .int .u32 t7.f1.f5], 25), (g2, #[.bool u.f0, .int .u32 u.f1.f0, .int .u32 u.f1.f1, .int .u32 u.f1.f2, .int .u32 u.f1.f3, .int .u32 u.f1.f4, .int .u32 u.f1.f5], 25), (g1, #[.bool false, .int .u32 0, .int .u32 0, .int .u32 0, .int .u32 0, .int .u32 0, .int .u32 0], 25)]) ?_ ?_
                rotate_left
                · intro hJ10
                  refine two_ (i := 5) (j := 10) (Ni := some 64) (Nj := some 12) #[true, true, true, true, true, true, false, false, false, false, false, false, false] #[true, true, true, true, true, false, false, false, false, false, true, false, false] rfl rfl rfl rfl (by kernel_rfl) (by decide) (by decide) (fun K hK => ?_) (fun K hK => ?_)
                  · skip
                    refine goes_ Try.func83 (by kernel_rfl) rfl #[.int .i64 a0.f0] (by rfl) rfl rfl (by simp only [List.map_toArray, List.map_cons, List.map_nil]; rfl) ?_
                    with_reducible refine (spec_l01Of.calls _ t8 _ M8.out).mono ?_
                    rintro e wc ⟨rfl, hb⟩
                    refine ⟨_, rfl, ?_⟩
                    replace HO := Aside0.mk (HO.out.below hb)
                    clear hb
                    refine hK.out _ _ ⟨HO.out.cell 3 rfl 0 rfl, HO.out.cell 3 rfl 1 rfl, HO.out.cell 3 rfl 2 rfl, HO.out.cell 3 rfl 3 rfl, HO.out.cell 3 rfl 4 rfl, HO.out.cell 3 rfl 5 rfl, HO.out.cell 3 rfl 6 rfl, (HO.out.bel.cell (World.block_lt_of_cell? w _ (HQ.out.1))).trans (HQ.out.1), (HO.out.bel.cell (World.block_lt_of_cell? w _ (HQ.out.2.1))).trans (HQ.out.2.1), (HO.out.bel.cell (World.block_lt_of_cell? w _ (HQ.out.2.2.1))).trans (HQ.out.2.2.1), (HO.out.bel.cell (World.block_lt_of_cell? w _ (HQ.out.2.2.2.1))).trans (HQ.out.2.2.2.1), (HO.out.bel.cell (World.block_lt_of_cell? w _ (HQ.out.2.2.2.2))).trans (HQ.out.2.2.2.2)⟩ (fun hHeld => ?_)
                    clear hK K
                    refine norm_ (a' := ?_) ?_ ?_
                    rotate_left
                    · show Act.put _ (some 64) _ = _
                      simp only [Act.put, List.setIfInBounds_toArray, List.set_cons_zero, List.set_cons_succ, i64_w, i32_w]
                      rfl
                    exact norm_ (by first | (simp only [putAll, Act.put, List.setIfInBounds_toArray, List.set_cons_zero, List.set_cons_succ]; done) | (simp only [putAll, Act.put, List.setIfInBounds_toArray, List.set_cons_zero, List.set_cons_succ]; rfl)) (hJ5 () _ ⟨hHeld, HO.out⟩)
                  · skip
                    refine box_step ?hg (N := 12) ?hd (cs := #[.bool false, .int .u32 0, .int .u32 0, .int .u32 0, .int .u32 0, .int .u32 0, .int .u32 0]) (t := 25) ?hr ?_; (case hd => rfl); (case hg => rfl); (case hr => first | (go_simp; done) | (go_simp; rfl))
                    intro g6 hg wn hbox hb
                    replace HO := Aside0.mk (HO.out.box hg hbox hb)
                    clear hg hbox hb
                    refine hK.out _ _ ⟨HO.out.cell 4 rfl 0 rfl, HO.out.cell 4 rfl 1 rfl, HO.out.cell 4 rfl 2 rfl, HO.out.cell 4 rfl 3 rfl, HO.out.cell 4 rfl 4 rfl, HO.out.cell 4 rfl 5 rfl, HO.out.cell 4 rfl 6 rfl, (HO.out.bel.cell (World.block_lt_of_cell? w _ (HQ.out.1))).trans (HQ.out.1), (HO.out.bel.cell (World.block_lt_of_cell? w _ (HQ.out.2.1))).trans (HQ.out.2.1), (HO.out.bel.cell (World.block_lt_of_cell? w _ (HQ.out.2.2.1))).trans (HQ.out.2.2.1), (HO.out.bel.cell (World.block_lt_of_cell? w _ (HQ.out.2.2.2.1))).trans (HQ.out.2.2.2.1), (HO.out.bel.cell (World.block_lt_of_cell? w _ (HQ.out.2.2.2.2))).trans (HQ.out.2.2.2.2)⟩ (fun hHeld => ?_)
                    clear hK K
                    refine norm_ (a' := ?_) ?_ ?_
                    rotate_left
                    · show Act.put _ (some 12) _ = _
                      simp only [Act.put, List.setIfInBounds_toArray, List.set_cons_zero, List.set_cons_succ, i64_w, i32_w]
                      rfl
                    exact norm_ (by first | (simp only [putAll, Act.put, List.setIfInBounds_toArray, List.set_cons_zero, List.set_cons_succ]; done) | (simp only [putAll, Act.put, List.setIfInBounds_toArray, List.set_cons_zero, List.set_cons_succ]; rfl)) (hJ10 g6 _ ⟨hHeld, HO.out⟩)
                · skip
                  rintro g6 wj ⟨hHeld, hO_⟩
                  replace HO := Aside0.mk hO_
                  clear hO_
                  refine norm_ (a' := ?_) ?_ ?_
                  rotate_left
                  · simp only [putAll, Act.put, List.setIfInBounds_toArray, List.set_cons_zero, List.set_cons_succ]
                    rfl
                  refine one_ (i := 5) (N := some 64) #[true, true, true, true, true, true, false, false, false, false, true, false, false] rfl rfl (by kernel_rfl) (by decide) (fun K hK => ?_)
                  refine goes_ Try.func83 (by kernel_rfl) rfl #[.int .i64 a0.f0] (by rfl) rfl rfl (by simp only [List.map_toArray, List.map_cons, List.map_nil]; rfl) ?_
                  with_reducible refine (spec_l01Of.calls _ t8 _ M8.out).mono ?_
                  rintro e wc ⟨rfl, hb⟩
                  refine ⟨_, rfl, ?_⟩
                  replace HO := Aside0.mk (HO.out.below hb)
                  clear hb
                  refine hK.out _ _ ⟨HO.out.cell 4 rfl 0 rfl, HO.out.cell 4 rfl 1 rfl, HO.out.cell 4 rfl 2 rfl, HO.out.cell 4 rfl 3 rfl, HO.out.cell 4 rfl 4 rfl, HO.out.cell 4 rfl 5 rfl, HO.out.cell 4 rfl 6 rfl, (HO.out.bel.cell (World.block_lt_of_cell? w _ (HQ.out.1))).trans (HQ.out.1), (HO.out.bel.cell (World.block_lt_of_cell? w _ (HQ.out.2.1))).trans (HQ.out.2.1), (HO.out.bel.cell (World.block_lt_of_cell? w _ (HQ.out.2.2.1))).trans (HQ.out.2.2.1), (HO.out.bel.cell (World.block_lt_of_cell? w _ (HQ.out.2.2.2.1))).trans (HQ.out.2.2.2.1), (HO.out.bel.cell (World.block_lt_of_cell? w _ (HQ.out.2.2.2.2))).trans (HQ.out.2.2.2.2)⟩ (fun hHeld => ?_)
                  clear hK K
                  refine norm_ (a' := ?_) ?_ ?_
                  rotate_left
                  · show Act.put _ (some 64) _ = _
                    simp only [Act.put, List.setIfInBounds_toArray, List.set_cons_zero, List.set_cons_succ, i64_w, i32_w]
                    rfl
                  exact norm_ (by first | (simp only [putAll, Act.put, List.setIfInBounds_toArray, List.set_cons_zero, List.set_cons_succ]; done) | (simp only [putAll, Act.put, List.setIfInBounds_toArray, List.set_cons_zero, List.set_cons_succ]; rfl)) (hJ5_10 g6 _ ⟨hHeld, HO.out⟩)
              · skip
                rintro _u wj ⟨hHeld, hO_⟩
                replace HO := Aside0.mk hO_
                clear hO_
                refine norm_ (a' := ?_) ?_ ?_
                rotate_left
                · simp only [putAll, Act.put, List.setIfInBounds_toArray, List.set_cons_zero, List.set_cons_succ]
                  rfl
                refine two_ (i := 6) (j := 10) (Ni := some 65) (Nj := some 12) #[true, true, true, true, true, true, true, false, false, false, false, false, false] #[true, true, true, true, true, true, false, false, false, false, true, false, false] rfl rfl rfl rfl (by kernel_rfl) (by decide) (by decide) (fun K hK => ?_) (fun K hK => ?_)
                · skip
                  refine goes_ Try.func82 (by kernel_rfl) rfl #[.agg #[.bool u.f0, .int .u32 u.f1.f0, .int .u32 u.f1.f1, .int .u32 u.f1.f2, .int .u32 u.f1.f3, .int .u32 u.f1.f4, .int .u32 u.f1.f5], .agg #[.bool t8.f0, .int .u32 t8.f1.f0, .int .u32 t8.f1.f1, .int .u32 t8.f1.f2, .int .u32 t8.f1.f3, .int .u32 t8.f1.f4, .int .u32 t8.f1.f5]] (by rfl) rfl rfl (by simp only [List.map_toArray, List.map_cons, List.map_nil]; rfl) ?_
                  with_reducible refine (spec_l01Mul.calls k4 u t8 t9 e9 _ M9.out).mono ?_
                  rintro e wc ⟨rfl, hb⟩
                  refine ⟨_, rfl, ?_⟩
                  replace HO := Aside0.mk (HO.out.below hb)
                  clear hb
                  refine hK.out _ _ ⟨HO.out.cell 3 rfl 0 rfl, HO.out.cell 3 rfl 1 rfl, HO.out.cell 3 rfl 2 rfl, HO.out.cell 3 rfl 3 rfl, HO.out.cell 3 rfl 4 rfl, HO.out.cell 3 rfl 5 rfl, HO.out.cell 3 rfl 6 rfl, (HO.out.bel.cell (World.block_lt_of_cell? w _ (HQ.out.1))).trans (HQ.out.1), (HO.out.bel.cell (World.block_lt_of_cell? w _ (HQ.out.2.1))).trans (HQ.out.2.1), (HO.out.bel.cell (World.block_lt_of_cell? w _ (HQ.out.2.2.1))).trans (HQ.out.2.2.1), (HO.out.bel.cell (World.block_lt_of_cell? w _ (HQ.out.2.2.2.1))).trans (HQ.out.2.2.2.1), (HO.out.bel.cell (World.block_lt_of_cell? w _ (HQ.out.2.2.2.2))).trans (HQ.out.2.2.2.2)⟩ (fun hHeld => ?_)
                  clear hK K
                  refine norm_ (a' := ?_) ?_ ?_
                  rotate_left
                  · show Act.put _ (some 65) _ = _
                    simp only [Act.put, List.setIfInBounds_toArray, List.set_cons_zero, List.set_cons_succ, i64_w, i32_w]
                    rfl
                  refine pure_ (i := 7) (N := some 58) (v := ?_) (a' := ?_) #[true, true, true, true, true, true, true, true, false, false, false, false, false] rfl rfl (by kernel_rfl) (fun _ _ _ h => h) (Or.inl ⟨by rfl, ?_⟩) ?_ ?_
                  rotate_left
                  · intro w'
                    go_simp
                    with_reducible rfl
                  rotate_left
                  · simp only [Act.put, List.setIfInBounds_toArray, List.set_cons_zero, List.set_cons_succ, i64_w, i32_w]
                    rfl
                  refine pure_ (i := 8) (N := some 66) (v := ?_) (a' := ?_) #[true, true, true, true, true, true, true, true, true, false, false, false, false] rfl rfl (by kernel_rfl) (fun _ _ _ h => h) (Or.inl ⟨by rfl, ?_⟩) ?_ ?_
                  rotate_left
                  · intro w'
                    go_simp
                    with_reducible rfl
                  rotate_left
                  · simp only [Act.put, List.setIfInBounds_toArray, List.set_cons_zero, List.set_cons_succ, i64_w, i32_w]
                    rfl
                  refine pure_ (i := 9) (N := some 67) (v := ?_) (a' := ?_) #[true, true, true, true, true, true, true, true, true, true, false, false, false] rfl rfl (by kernel_rfl) (fun _ _ _ h => h) (Or.inl ⟨by rfl, ?_⟩) ?_ ?_
                  rotate_left
                  · intro w'
                    go_simp
                    with_reducible rfl
                  rotate_left
                  · simp only [Act.put, List.setIfInBounds_toArray, List.set_cons_zero, List.set_cons_succ, i64_w, i32_w]
                    rfl
                  exact norm_ (by first | (simp only [putAll, Act.put, List.setIfInBounds_toArray, List.set_cons_zero, List.set_cons_succ]; done) | (simp only [putAll, Act.put, List.setIfInBounds_toArray, List.set_cons_zero, List.set_cons_succ]; rfl)) (hJ5_6 () _ ⟨hHeld, HO.out⟩)
                · skip
                  refine box_step ?hg (N := 12) ?hd (cs := #[.bool false, .int .u32 0, .int .u32 0, .int .u32 0, .int .u32 0, .int .u32 0, .int .u32 0]) (t := 25) ?hr ?_; (case hd => rfl); (case hg => rfl); (case hr => first | (go_simp; done) | (go_simp; rfl))
                  intro g6 hg wn hbox hb
                  replace HO := Aside0.mk (HO.out.box hg hbox hb)
                  clear hg hbox hb
                  refine hK.out _ _ ⟨HO.out.cell 4 rfl 0 rfl, HO.out.cell 4 rfl 1 rfl, HO.out.cell 4 rfl 2 rfl, HO.out.cell 4 rfl 3 rfl, HO.out.cell 4 rfl 4 rfl, HO.out.cell 4 rfl 5 rfl, HO.out.cell 4 rfl 6 rfl, (HO.out.bel.cell (World.block_lt_of_cell? w _ (HQ.out.1))).trans (HQ.out.1), (HO.out.bel.cell (World.block_lt_of_cell? w _ (HQ.out.2.1))).trans (HQ.out.2.1), (HO.out.bel.cell (World.block_lt_of_cell? w _ (HQ.out.2.2.1))).trans (HQ.out.2.2.1), (HO.out.bel.cell (World.block_lt_of_cell? w _ (HQ.out.2.2.2.1))).trans (HQ.out.2.2.2.1), (HO.out.bel.cell (World.block_lt_of_cell? w _ (HQ.out.2.2.2.2))).trans (HQ.out.2.2.2.2)⟩ (fun hHeld => ?_)
                  clear hK K
                  refine norm_ (a' := ?_) ?_ ?_
                  rotate_left
                  · show Act.put _ (some 12) _ = _
                    simp only [Act.put, List.setIfInBounds_toArray, List.set_cons_zero, List.set_cons_succ, i64_w, i32_w]
                    rfl
                  exact norm_ (by first | (simp only [putAll, Act.put, List.setIfInBounds_toArray, List.set_cons_zero, List.set_cons_succ]; done) | (simp only [putAll, Act.put, List.setIfInBounds_toArray, List.set_cons_zero, List.set_cons_succ]; rfl)) (hJ5_10 g6 _ ⟨hHeld, HO.out⟩)
            · skip
              rintro g6 wj ⟨hHeld, hO_⟩
              replace HO := Aside0.mk hO_
              clear hO_
              refine norm_ (a' := ?_) ?_ ?_
              rotate_left
              · simp only [putAll, Act.put, List.setIfInBounds_toArray, List.set_cons_zero, List.set_cons_succ]
                rfl
              refine one_ (i := 6) (N := some 65) #[true, true, true, true, true, true, true, false, false, false, true, false, false] rfl rfl (by kernel_rfl) (by decide) (fun K hK => ?_)
              refine goes_ Try.func82 (by kernel_rfl) rfl #[.agg #[.bool u.f0, .int .u32 u.f1.f0, .int .u32 u.f1.f1, .int .u32 u.f1.f2, .int .u32 u.f1.f3, .int .u32 u.f1.f4, .int .u32 u.f1.f5], .agg #[.bool t8.f0, .int .u32 t8.f1.f0, .int .u32 t8.f1.f1, .int .u32 t8.f1.f2, .int .u32 t8.f1.f3, .int .u32 t8.f1.f4, .int .u32 t8.f1.f5]] (by rfl) rfl rfl (by simp only [List.map_toArray, List.map_cons, List.map_nil]; rfl) ?_
              with_reducible refine (spec_l01Mul.calls k4 u t8 t9 e9 _ M9.out).mono ?_
              rintro e wc ⟨rfl, hb⟩
              refine ⟨_, rfl, ?_⟩
              replace HO := Aside0.mk (HO.out.below hb)
              clear hb
              refine hK.out _ _ ⟨HO.out.cell 4 rfl 0 rfl, HO.out.cell 4 rfl 1 rfl, HO.out.cell 4 rfl 2 rfl, HO.out.cell 4 rfl 3 rfl, HO.out.cell 4 rfl 4 rfl, HO.out.cell 4 rfl 5 rfl, HO.out.cell 4 rfl 6 rfl, (HO.out.bel.cell (World.block_lt_of_cell? w _ (HQ.out.1))).trans (HQ.out.1), (HO.out.bel.cell (World.block_lt_of_cell? w _ (HQ.out.2.1))).trans (HQ.out.2.1), (HO.out.bel.cell (World.block_lt_of_cell? w _ (HQ.out.2.2.1))).trans (HQ.out.2.2.1), (HO.out.bel.cell (World.block_lt_of_cell? w _ (HQ.out.2.2.2.1))).trans (HQ.out.2.2.2.1), (HO.out.bel.cell (World.block_lt_of_cell? w _ (HQ.out.2.2.2.2))).trans (HQ.out.2.2.2.2)⟩ (fun hHeld => ?_)
              clear hK K
              refine norm_ (a' := ?_) ?_ ?_
              rotate_left
              · show Act.put _ (some 65) _ = _
                simp only [Act.put, List.setIfInBounds_toArray, List.set_cons_zero, List.set_cons_succ, i64_w, i32_w]
                rfl
              refine pure_ (i := 7) (N := some 58) (v := ?_) (a' := ?_) #[true, true, true, true, true, true, true, true, false, false, true, false, false] rfl rfl (by kernel_rfl) (fun _ _ _ h => h) (Or.inl ⟨by rfl, ?_⟩) ?_ ?_
              rotate_left
              · intro w'
                go_simp
                with_reducible rfl
              rotate_left
              · simp only [Act.put, List.setIfInBounds_toArray, List.set_cons_zero, List.set_cons_succ, i64_w, i32_w]
                rfl
              refine pure_ (i := 8) (N := some 66) (v := ?_) (a' := ?_) #[true, true, true, true, true, true, true, true, true, false, true, false, false] rfl rfl (by kernel_rfl) (fun _ _ _ h => h) (Or.inl ⟨by rfl, ?_⟩) ?_ ?_
              rotate_left
              · intro w'
                go_simp
                with_reducible rfl
              rotate_left
              · simp only [Act.put, List.setIfInBounds_toArray, List.set_cons_zero, List.set_cons_succ, i64_w, i32_w]
                rfl
              refine pure_ (i := 9) (N := some 67) (v := ?_) (a' := ?_) #[true, true, true, true, true, true, true, true, true, true, true, false, false] rfl rfl (by kernel_rfl) (fun _ _ _ h => h) (Or.inl ⟨by rfl, ?_⟩) ?_ ?_
              rotate_left
              · intro w'
                go_simp
                with_reducible rfl
              rotate_left
              · simp only [Act.put, List.setIfInBounds_toArray, List.set_cons_zero, List.set_cons_succ, i64_w, i32_w]
                rfl
              exact norm_ (by first | (simp only [putAll, Act.put, List.setIfInBounds_toArray, List.set_cons_zero, List.set_cons_succ]; done) | (simp only [putAll, Act.put, List.setIfInBounds_toArray, List.set_cons_zero, List.set_cons_succ]; rfl)) (hJ5_6_10 g6 _ ⟨hHeld, HO.out⟩)
          · skip
            rintro _u wj ⟨hHeld, hO_⟩
            replace HO := Aside0.mk hO_
            clear hO_
            refine norm_ (a' := ?_) ?_ ?_
            rotate_left
            · simp only [putAll, Act.put, List.setIfInBounds_toArray, List.set_cons_zero, List.set_cons_succ]
              rfl
            refine one_ (i := 10) (N := some 12) #[true, true, true, true, true, true, true, true, true, true, true, false, false] rfl rfl (by kernel_rfl) (by decide) (fun K hK => ?_)
            refine box_step ?hg (N := 12) ?hd (cs := #[.bool false, .int .u32 0, .int .u32 0, .int .u32 0, .int .u32 0, .int .u32 0, .int .u32 0]) (t := 25) ?hr ?_; (case hd => rfl); (case hg => rfl); (case hr => first | (go_simp; done) | (go_simp; rfl))
            intro g6 hg wn hbox hb
            replace HO := Aside0.mk (HO.out.box hg hbox hb)
            clear hg hbox hb
            refine hK.out _ _ ⟨HO.out.cell 4 rfl 0 rfl, HO.out.cell 4 rfl 1 rfl, HO.out.cell 4 rfl 2 rfl, HO.out.cell 4 rfl 3 rfl, HO.out.cell 4 rfl 4 rfl, HO.out.cell 4 rfl 5 rfl, HO.out.cell 4 rfl 6 rfl, (HO.out.bel.cell (World.block_lt_of_cell? w _ (HQ.out.1))).trans (HQ.out.1), (HO.out.bel.cell (World.block_lt_of_cell? w _ (HQ.out.2.1))).trans (HQ.out.2.1), (HO.out.bel.cell (World.block_lt_of_cell? w _ (HQ.out.2.2.1))).trans (HQ.out.2.2.1), (HO.out.bel.cell (World.block_lt_of_cell? w _ (HQ.out.2.2.2.1))).trans (HQ.out.2.2.2.1), (HO.out.bel.cell (World.block_lt_of_cell? w _ (HQ.out.2.2.2.2))).trans (HQ.out.2.2.2.2)⟩ (fun hHeld => ?_)
            clear hK K
            refine norm_ (a' := ?_) ?_ ?_
            rotate_left
            · show Act.put _ (some 12) _ = _
              simp only [Act.put, List.setIfInBounds_toArray, List.set_cons_zero, List.set_cons_succ, i64_w, i32_w]
              rfl
            exact norm_ (by first | (simp only [putAll, Act.put, List.setIfInBounds_toArray, List.set_cons_zero, List.set_cons_succ]; done) | (simp only [putAll, Act.put, List.setIfInBounds_toArray, List.set_cons_zero, List.set_cons_succ]; rfl)) (hJ5_6_10 g6 _ ⟨hHeld, HO.out⟩)
        rintro g6 wj ⟨hHeld, hO_⟩
        replace HO := Aside0.mk hO_
        clear hO_
        refine norm_ (a' := ?_) ?_ ?_
        rotate_left
        · simp only [putAll, Act.put, List.setIfInBounds_toArray, List.set_cons_zero, List.set_cons_succ]
          rfl
        refine last_store_ (i := 11) (w1 := (World.setCell (World.setCell (World.setCell (World.setCell (World.setCell (World.setCell (World.setCell wj ⟨g6, 0, none⟩ (.bool t9.f0)) ⟨g6, 1, none⟩ (.int .u32 t9.f1.f0)) ⟨g6, 2, none⟩ (.int .u32 t9.f1.f1)) ⟨g6, 3, none⟩ (.int .u32 t9.f1.f2)) ⟨g6, 4, none⟩ (.int .u32 t9.f1.f3)) ⟨g6, 5, none⟩ (.int .u32 t9.f1.f4)) ⟨g6, 6, none⟩ (.int .u32 t9.f1.f5))) #[true, true, true, true, true, true, true, true, true, true, true, true, false] rfl rfl (by kernel_rfl) (by decide) (by rfl) (run_put7_ rfl (show _ = Value.pointer (some ⟨g6, 0, none⟩) from by rfl) (show _ = Value.agg #[.bool t9.f0, .int .u32 t9.f1.f0, .int .u32 t9.f1.f1, .int .u32 t9.f1.f2, .int .u32 t9.f1.f3, .int .u32 t9.f1.f4, .int .u32 t9.f1.f5] from by rfl) (HO.out.at 0 rfl) (by kernel_rfl) (by rfl)) ?_
        refine pure_ (i := 12) (N := some 13) (v := ?_) (a' := ?_) #[true, true, true, true, true, true, true, true, true, true, true, true, true] rfl rfl (by kernel_rfl) (fun _ _ _ h => h) (Or.inl ⟨by rfl, ?_⟩) ?_ ?_
        rotate_left
        · intro w'
          go_simp
          with_reducible rfl
        rotate_left
        · simp only [Act.put, List.setIfInBounds_toArray, List.set_cons_zero, List.set_cons_succ, i64_w, i32_w]
          rfl
        refine done_ (by kernel_rfl) ?_
        generalize hw_ : (World.setCell (World.setCell (World.setCell (World.setCell (World.setCell (World.setCell (World.setCell wj ⟨g6, 0, none⟩ (.bool t9.f0)) ⟨g6, 1, none⟩ (.int .u32 t9.f1.f0)) ⟨g6, 2, none⟩ (.int .u32 t9.f1.f1)) ⟨g6, 3, none⟩ (.int .u32 t9.f1.f2)) ⟨g6, 4, none⟩ (.int .u32 t9.f1.f3)) ⟨g6, 5, none⟩ (.int .u32 t9.f1.f4)) ⟨g6, 6, none⟩ (.int .u32 t9.f1.f5)) = wk
        replace HO := Aside0.mk (HO.out.put7 0 rfl hw_.symm rfl)
        clear hw_
        go_wp2
        replace HO := Aside0.mk HO.out.drew
        refine start_ (n := 11) (S := fun w' => w'.cell? ⟨g6, 0, none⟩ = some (.bool t9.f0) ∧ w'.cell? ⟨g6, 1, none⟩ = some (.int .u32 t9.f1.f0) ∧ w'.cell? ⟨g6, 2, none⟩ = some (.int .u32 t9.f1.f1) ∧ w'.cell? ⟨g6, 3, none⟩ = some (.int .u32 t9.f1.f2) ∧ w'.cell? ⟨g6, 4, none⟩ = some (.int .u32 t9.f1.f3) ∧ w'.cell? ⟨g6, 5, none⟩ = some (.int .u32 t9.f1.f4) ∧ w'.cell? ⟨g6, 6, none⟩ = some (.int .u32 t9.f1.f5) ∧ w'.cell? ⟨B0_, O0_, none⟩ = some (.int .i64 a0.f0) ∧ w'.cell? ⟨B0_, O0_ + 1, none⟩ = some (.int .i64 a0.f1) ∧ w'.cell? ⟨B0_, O0_ + 2, none⟩ = some (.int .i64 a0.f2) ∧ w'.cell? ⟨B0_, O0_ + 3, none⟩ = some (.int .i64 a0.f3) ∧ w'.cell? ⟨B0_, O0_ + 4, none⟩ = some (.bool a0.f4)) (ds := [10]) #[false, false, false, false, false, false, false, false, false, false, false] (by kernel_rfl) rfl rfl ⟨HO.out.cell 0 rfl 0 rfl, HO.out.cell 0 rfl 1 rfl, HO.out.cell 0 rfl 2 rfl, HO.out.cell 0 rfl 3 rfl, HO.out.cell 0 rfl 4 rfl, HO.out.cell 0 rfl 5 rfl, HO.out.cell 0 rfl 6 rfl, (HO.out.bel.cell (World.block_lt_of_cell? w _ (HQ.out.1))).trans (HQ.out.1), (HO.out.bel.cell (World.block_lt_of_cell? w _ (HQ.out.2.1))).trans (HQ.out.2.1), (HO.out.bel.cell (World.block_lt_of_cell? w _ (HQ.out.2.2.1))).trans (HQ.out.2.2.1), (HO.out.bel.cell (World.block_lt_of_cell? w _ (HQ.out.2.2.2.1))).trans (HQ.out.2.2.2.1), (HO.out.bel.cell (World.block_lt_of_cell? w _ (HQ.out.2.2.2.2))).trans (HQ.out.2.2.2.2)⟩ (fun hHeld => ?_)
        refine pure_ (i := 1) (N := some 70) (v := ?_) (a' := ?_) #[false, true, false, false, false, false, false, false, false, false, false] rfl rfl (by kernel_rfl) (fun _ _ _ h => h) (Or.inl ⟨by rfl, ?_⟩) ?_ ?_
        rotate_left
        · intro w'
          go_simp
          with_reducible rfl
        rotate_left
        · simp only [Act.put, List.setIfInBounds_toArray, List.set_cons_zero, List.set_cons_succ, i64_w, i32_w]
          rfl
        refine pure_ (i := 2) (N := some 71) (v := ?_) (a' := ?_) #[false, true, true, false, false, false, false, false, false, false, false] rfl rfl (by kernel_rfl) (fun _ _ _ h => h) (Or.inl ⟨by rfl, ?_⟩) ?_ ?_
        rotate_left
        · intro w'
          go_simp
          with_reducible rfl
        rotate_left
        · simp only [Act.put, List.setIfInBounds_toArray, List.set_cons_zero, List.set_cons_succ, i64_w, i32_w]
          rfl
        refine pure_ (i := 3) (N := some 72) (v := ?_) (a' := ?_) #[false, true, true, true, false, false, false, false, false, false, false] rfl rfl (by kernel_rfl) (fun _ _ _ h => h) (Or.inl ⟨by rfl, ?_⟩) ?_ ?_
        rotate_left
        · intro w'
          go_simp
          with_reducible rfl
        rotate_left
        · simp only [Act.put, List.setIfInBounds_toArray, List.set_cons_zero, List.set_cons_succ, i64_w, i32_w]
          rfl
        refine take_ (i := 0) (N := some 69) (v := ?_) (a' := ?_) #[true, true, true, true, false, false, false, false, false, false, false] rfl rfl (by kernel_rfl) (fun _ _ _ h => h) (Or.inl ⟨by rfl, ?_⟩) hHeld ?_ ?_
        rotate_left
        · rintro w' ⟨s0, s1, s2, s3, s4, s5, s6, s7, s8, s9, s10, s11⟩
          go_simp
          with_reducible rfl
        rotate_left
        · simp only [Act.put, List.setIfInBounds_toArray, List.set_cons_zero, List.set_cons_succ, i64_w, i32_w]
          rfl
        refine take_ (i := 4) (N := some 73) (v := ?_) (a' := ?_) #[true, true, true, true, true, false, false, false, false, false, false] rfl rfl (by kernel_rfl) (fun _ _ _ h => h) (Or.inl ⟨by rfl, ?_⟩) hHeld ?_ ?_
        rotate_left
        · rintro w' ⟨s0, s1, s2, s3, s4, s5, s6, s7, s8, s9, s10, s11⟩
          go_simp
          with_reducible rfl
        rotate_left
        · simp only [Act.put, List.setIfInBounds_toArray, List.set_cons_zero, List.set_cons_succ, i64_w, i32_w]
          rfl
        refine one_ (i := 5) (N := some 74) #[true, true, true, true, true, true, false, false, false, false, false] rfl rfl (by kernel_rfl) (by decide) (fun K hK => ?_)
        refine goes_ Try.func83 (by kernel_rfl) rfl #[.int .i64 a0.f1] (by rfl) rfl rfl (by simp only [List.map_toArray, List.map_cons, List.map_nil]; rfl) ?_
        with_reducible refine (spec_l01Of.calls _ t10 _ M10.out).mono ?_
        rintro e wd ⟨rfl, hb⟩
        refine ⟨_, rfl, ?_⟩
        replace HO := Aside0.mk (HO.out.below hb)
        clear hb
        refine hK.out _ _ ⟨HO.out.cell 0 rfl 0 rfl, HO.out.cell 0 rfl 1 rfl, HO.out.cell 0 rfl 2 rfl, HO.out.cell 0 rfl 3 rfl, HO.out.cell 0 rfl 4 rfl, HO.out.cell 0 rfl 5 rfl, HO.out.cell 0 rfl 6 rfl, (HO.out.bel.cell (World.block_lt_of_cell? w _ (HQ.out.1))).trans (HQ.out.1), (HO.out.bel.cell (World.block_lt_of_cell? w _ (HQ.out.2.1))).trans (HQ.out.2.1), (HO.out.bel.cell (World.block_lt_of_cell? w _ (HQ.out.2.2.1))).trans (HQ.out.2.2.1), (HO.out.bel.cell (World.block_lt_of_cell? w _ (HQ.out.2.2.2.1))).trans (HQ.out.2.2.2.1), (HO.out.bel.cell (World.block_lt_of_cell? w _ (HQ.out.2.2.2.2))).trans (HQ.out.2.2.2.2)⟩ (fun hHeld => ?_)
        clear hK K
        refine norm_ (a' := ?_) ?_ ?_
        rotate_left
        · show Act.put _ (some 74) _ = _
          simp only [Act.put, List.setIfInBounds_toArray, List.set_cons_zero, List.set_cons_succ, i64_w, i32_w]
          rfl
        refine one_ (i := 6) (N := some 75) #[true, true, true, true, true, true, true, false, false, false, false] rfl rfl (by kernel_rfl) (by decide) (fun K hK => ?_)
        refine goes_ Try.func99 (by kernel_rfl) rfl #[.agg #[.bool t9.f0, .int .u32 t9.f1.f0, .int .u32 t9.f1.f1, .int .u32 t9.f1.f2, .int .u32 t9.f1.f3, .int .u32 t9.f1.f4, .int .u32 t9.f1.f5], .agg #[.bool t10.f0, .int .u32 t10.f1.f0, .int .u32 t10.f1.f1, .int .u32 t10.f1.f2, .int .u32 t10.f1.f3, .int .u32 t10.f1.f4, .int .u32 t10.f1.f5]] (by rfl) rfl rfl (by simp only [List.map_toArray, List.map_cons, List.map_nil]; rfl) ?_
        with_reducible refine (spec_l01Div.calls t9 t10 t11 t12 _ M11.out).mono ?_
        rintro e wd ⟨rfl, hb⟩
        refine ⟨_, rfl, ?_⟩
        replace HO := Aside0.mk (HO.out.below hb)
        clear hb
        refine hK.out _ _ ⟨HO.out.cell 0 rfl 0 rfl, HO.out.cell 0 rfl 1 rfl, HO.out.cell 0 rfl 2 rfl, HO.out.cell 0 rfl 3 rfl, HO.out.cell 0 rfl 4 rfl, HO.out.cell 0 rfl 5 rfl, HO.out.cell 0 rfl 6 rfl, (HO.out.bel.cell (World.block_lt_of_cell? w _ (HQ.out.1))).trans (HQ.out.1), (HO.out.bel.cell (World.block_lt_of_cell? w _ (HQ.out.2.1))).trans (HQ.out.2.1), (HO.out.bel.cell (World.block_lt_of_cell? w _ (HQ.out.2.2.1))).trans (HQ.out.2.2.1), (HO.out.bel.cell (World.block_lt_of_cell? w _ (HQ.out.2.2.2.1))).trans (HQ.out.2.2.2.1), (HO.out.bel.cell (World.block_lt_of_cell? w _ (HQ.out.2.2.2.2))).trans (HQ.out.2.2.2.2)⟩ (fun hHeld => ?_)
        clear hK K
        refine norm_ (a' := ?_) ?_ ?_
        rotate_left
        · show Act.put _ (some 75) _ = _
          simp only [Act.put, List.setIfInBounds_toArray, List.set_cons_zero, List.set_cons_succ, i64_w, i32_w]
          rfl
        refine pure_ (i := 7) (N := some 68) (v := ?_) (a' := ?_) #[true, true, true, true, true, true, true, true, false, false, false] rfl rfl (by kernel_rfl) (fun _ _ _ h => h) (Or.inl ⟨by rfl, ?_⟩) ?_ ?_
        rotate_left
        · intro w'
          go_simp
          with_reducible rfl
        rotate_left
        · simp only [Act.put, List.setIfInBounds_toArray, List.set_cons_zero, List.set_cons_succ, i64_w, i32_w]
          rfl
        refine pure_ (i := 8) (N := some 76) (v := ?_) (a' := ?_) #[true, true, true, true, true, true, true, true, true, false, false] rfl rfl (by kernel_rfl) (fun _ _ _ h => h) (Or.inl ⟨by rfl, ?_⟩) ?_ ?_
        rotate_left
        · intro w'
          go_simp
          with_reducible rfl
        rotate_left
        · simp only [Act.put, List.setIfInBounds_toArray, List.set_cons_zero, List.set_cons_succ, i64_w, i32_w]
          rfl
        refine pure_ (i := 9) (N := some 77) (v := ?_) (a' := ?_) #[true, true, true, true, true, true, true, true, true, true, false] rfl rfl (by kernel_rfl) (fun _ _ _ h => h) (Or.inl ⟨by rfl, ?_⟩) ?_ ?_
        rotate_left
        · intro w'
          go_simp
          with_reducible rfl
        rotate_left
        · simp only [Act.put, List.setIfInBounds_toArray, List.set_cons_zero, List.set_cons_succ, i64_w, i32_w]
          rfl
        refine last_store_ (i := 10) (w1 := (World.setCell (World.setCell (World.setCell (World.setCell (World.setCell (World.setCell (World.setCell wd ⟨g2, 0, none⟩ (.bool t11.f0)) ⟨g2, 1, none⟩ (.int .u32 t11.f1.f0)) ⟨g2, 2, none⟩ (.int .u32 t11.f1.f1)) ⟨g2, 3, none⟩ (.int .u32 t11.f1.f2)) ⟨g2, 4, none⟩ (.int .u32 t11.f1.f3)) ⟨g2, 5, none⟩ (.int .u32 t11.f1.f4)) ⟨g2, 6, none⟩ (.int .u32 t11.f1.f5))) #[true, true, true, true, true, true, true, true, true, true, true] rfl rfl (by kernel_rfl) (by decide) (by rfl) (run_put7_ rfl (show _ = Value.pointer (some ⟨g2, 0, none⟩) from by rfl) (show _ = Value.agg #[.bool t11.f0, .int .u32 t11.f1.f0, .int .u32 t11.f1.f1, .int .u32 t11.f1.f2, .int .u32 t11.f1.f3, .int .u32 t11.f1.f4, .int .u32 t11.f1.f5] from by rfl) (HO.out.at 4 rfl) (by kernel_rfl) (by rfl)) ?_
        refine done_ (by kernel_rfl) ?_
        generalize hw_ : (World.setCell (World.setCell (World.setCell (World.setCell (World.setCell (World.setCell (World.setCell wd ⟨g2, 0, none⟩ (.bool t11.f0)) ⟨g2, 1, none⟩ (.int .u32 t11.f1.f0)) ⟨g2, 2, none⟩ (.int .u32 t11.f1.f1)) ⟨g2, 3, none⟩ (.int .u32 t11.f1.f2)) ⟨g2, 4, none⟩ (.int .u32 t11.f1.f3)) ⟨g2, 5, none⟩ (.int .u32 t11.f1.f4)) ⟨g2, 6, none⟩ (.int .u32 t11.f1.f5)) = wm
        replace HO := Aside0.mk (HO.out.put7 4 rfl hw_.symm rfl)
        clear hw_
        go_wp2
        go_roundg k4
        case measure => omega
        case rel => exact ⟨wrap64 (c + 1), t11, t7, rfl, H, ⟨by have := HK.out; omega⟩, ⟨HO.out.drop.drop.drop⟩⟩

end Go.Proofs.Ytbomadebdekjjaa.MFnExactSeriesTerms
