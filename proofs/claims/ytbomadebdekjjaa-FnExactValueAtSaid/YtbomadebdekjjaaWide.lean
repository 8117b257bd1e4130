/- Own text of this session: wide numbers by hand walks. -/
import Derived.Test.YtbomadebdekjjaaWide1
import Derived.Test.YtbomadebdekjjaaWide3
import Derived.Test.YtbomadebdekjjaaWide4
namespace Go.Proofs.Ytbomadebdekjjaa.Wide
open Go.RowKit Go.Proofs.Ytbomadebdekjjaa.MOpen Go.Proofs.YtbomadebdekjjaaW.PrintWords Go.Proofs.YtbomadebdekjjaaW.PrintLast Go.Proofs.YtbomadebdekjjaaW.PrintMore
attribute [local go_sem] max2_int min2_int max_two min_two max_three min_three max_four min_four
set_option linter.unusedVariables false
set_option linter.unusedSimpArgs false
theorem setCell_same {w : World} {g : Nat} {ov : Bool} (h : CB w g ov) : w.setCell ⟨g, 0, none⟩ (.bool ov) = w := by
  have e : (w.setCell ⟨g, 0, none⟩ (.bool ov)).heap = w.heap := by
    apply Array.ext_getElem?
    intro k
    by_cases c : k = g
    · subst c
      have := blk_set h 0 (.bool ov)
      rw [this, h]
      rfl
    · exact Below.heap_setCell _ _ _ _ c
  have : w.setCell ⟨g, 0, none⟩ (.bool ov) = { w with heap := (w.setCell ⟨g, 0, none⟩ (.bool ov)).heap } := rfl
  rw [this, e]
theorem W7_val {s : Bool} {m : Nat} {z : Int} (h : z = if s = true then -(m : Int) else (m : Int)) : Value.agg (W7 (s && !(zN m)) m) = WV z := by
  unfold WV
  have e1 : z.natAbs = m := by subst h; cases s <;> simp
  have e2 : (s && !(zN m)) = decide (z < 0) := by
    rw [h]
    cases s
    · simp
    · by_cases e : m = 0
      · subst e; simp [zN]
      · simp only [zN, e, decide_false, Bool.not_false, Bool.and_true, if_true]
        exact (decide_eq_true (by omega)).symm
  rw [e1, e2]
def fitZ (z : Int) : Int := if z.natAbs < 4294967296 ^ 6 then z else 0
theorem WV_zero : WV 0 = .agg #[.bool false, .int .u32 0, .int .u32 0, .int .u32 0, .int .u32 0, .int .u32 0, .int .u32 0] := by
  unfold WV W7
  simp [lb0]
theorem okP_iff {x y : Nat} (hx : x < 4294967296 ^ 6) (hy : y < 4294967296 ^ 6) : okP x y = decide (x + y < 4294967296 ^ 6) := by
  unfold okP cyP
  rw [Nat.mod_eq_of_lt hx, Nat.mod_eq_of_lt hy]
  by_cases e : x + y < 4294967296 ^ 6
  · rw [Nat.div_eq_of_lt e]; simp [e]
  · have : (x + y) / 4294967296 ^ 6 ≠ 0 := by
      intro h
      rcases Nat.div_eq_zero_iff.1 h with h | h
      · exact absurd h (by decide)
      · exact e h
    simp only [this, e]
theorem sign_mul (a b : Int) : a * b = if (!(decide (a < 0) == decide (b < 0))) = true then -((a.natAbs * b.natAbs : Nat) : Int) else ((a.natAbs * b.natAbs : Nat) : Int) := by
  rw [Int.natCast_mul]
  by_cases ha : a < 0 <;> by_cases hb : b < 0
  · obtain ⟨p, rfl⟩ : ∃ p : Nat, a = -(p : Int) := ⟨a.natAbs, by omega⟩
    obtain ⟨q, rfl⟩ : ∃ q : Nat, b = -(q : Int) := ⟨b.natAbs, by omega⟩
    simp [ha, hb, Int.neg_mul_neg]
    intro h; exact absurd (by constructor <;> intro _ <;> omega) h
  · obtain ⟨p, rfl⟩ : ∃ p : Nat, a = -(p : Int) := ⟨a.natAbs, by omega⟩
    obtain ⟨q, rfl⟩ : ∃ q : Nat, b = (q : Int) := ⟨b.natAbs, by omega⟩
    simp [ha, hb, Int.neg_mul]
    intro h; subst h; simp
  · obtain ⟨p, rfl⟩ : ∃ p : Nat, a = (p : Int) := ⟨a.natAbs, by omega⟩
    obtain ⟨q, rfl⟩ : ∃ q : Nat, b = -(q : Int) := ⟨b.natAbs, by omega⟩
    simp [ha, hb, Int.mul_neg]
    intro h; subst h; simp
  · obtain ⟨p, rfl⟩ : ∃ p : Nat, a = (p : Int) := ⟨a.natAbs, by omega⟩
    obtain ⟨q, rfl⟩ : ∃ q : Nat, b = (q : Int) := ⟨b.natAbs, by omega⟩
    simp [ha, hb]
theorem sOf (w : World) (n : Int) (hn : -9223372036854775808 ≤ n) (hn2 : n < 9223372036854775808) : Calls Try.prog 83 #[.int .i64 n] w fun e w' => e = .returned (WV n) ∧ Below w.heap.size w w' := by
  by_cases h : n < 0
  · exact sOfN w n hn hn2 h
  · exact sOfP w n hn hn2 h
theorem iOf (w : World) (n : Int) (hn : -9223372036854775808 ≤ n) (hn2 : n < 9223372036854775808) : Calls Try.prog 88 #[.int .i64 n] w fun e w' => e = .returned (WV n) ∧ Below w.heap.size w w' := by
  by_cases h : n < 0
  · exact iOfN w n hn hn2 h
  · exact iOfP w n hn hn2 h
theorem sMulV (w : World) (a b : Int) (ha : a.natAbs < 4294967296 ^ 6) (hb : b.natAbs < 4294967296 ^ 6) : Calls Try.prog 82 #[WV a, WV b] w fun e w' => e = .returned (.tuple #[WV (fitZ (a * b)), .int .i64 (fitC (a * b).natAbs)]) ∧ Below w.heap.size w w' := by
  have h := sMul w (decide (a < 0)) (decide (b < 0)) (!(decide (a < 0) == decide (b < 0))) (by simp) a.natAbs b.natAbs ha hb
  refine h.mono ?_
  rintro e w' ⟨rfl, hw⟩
  refine ⟨?_, hw⟩
  have key : Value.agg (mulA (!(decide (a < 0) == decide (b < 0))) (a.natAbs * b.natAbs)) = WV (fitZ (a * b)) := by
    unfold fitZ
    by_cases f : a.natAbs * b.natAbs < 4294967296 ^ 6
    · rw [(mulA_pos f).1, Int.natAbs_mul, if_pos f]
      exact W7_val (sign_mul a b)
    · rw [(mulA_neg f).1, Int.natAbs_mul, if_neg f, WV_zero]
  rw [key, Int.natAbs_mul]
theorem iMulV (w : World) (gc : Nat) (ov : Bool) (a b : Int) (ha : a.natAbs < 4294967296 ^ 6) (hb : b.natAbs < 4294967296 ^ 6) (hg : CB w gc ov) : Calls Try.prog 90 #[.pointer (some ⟨gc, 0, none⟩), WV a, WV b] w fun e w' => e = .returned (WV (fitZ (a * b))) ∧ Below w.heap.size (w.setCell ⟨gc, 0, none⟩ (.bool (ov || ovM (a * b).natAbs))) w' := by
  have hst : (decide (a < 0) == decide (b < 0)) = !(!(decide (a < 0) == decide (b < 0))) := by simp
  unfold fitZ
  by_cases f : a.natAbs * b.natAbs < 4294967296 ^ 6
  · rw [Int.natAbs_mul, if_pos f, (timA_pos f).2, Bool.or_false, ← W7_val (sign_mul a b)]
    cases ov
    · exact iMulFF w gc _ _ _ hst a.natAbs b.natAbs ha hb f hg
    · exact iMulTF w gc _ _ _ hst a.natAbs b.natAbs ha hb f hg
  · rw [Int.natAbs_mul, if_neg f, (timA_neg f).2, Bool.or_true, WV_zero]
    cases ov
    · exact iMulFT w gc _ _ _ hst a.natAbs b.natAbs ha hb f hg
    · exact iMulTT w gc _ _ _ hst a.natAbs b.natAbs ha hb f hg
def addZ (a b : Int) : Int := if (a + b).natAbs < 4294967296 ^ 6 then a + b else if a < 0 then -(((a.natAbs + b.natAbs) % 4294967296 ^ 6 : Nat) : Int) else (((a.natAbs + b.natAbs) % 4294967296 ^ 6 : Nat) : Int)
theorem same_abs {a b : Int} (h : (decide (a < 0) == decide (b < 0)) = true) : (a + b).natAbs = a.natAbs + b.natAbs ∧ (a + b = if decide (a < 0) = true then -((a.natAbs + b.natAbs : Nat) : Int) else ((a.natAbs + b.natAbs : Nat) : Int)) := by
  by_cases ha : a < 0 <;> by_cases hb : b < 0 <;> simp [ha, hb] at h ⊢ <;> omega
theorem diff_abs {a b : Int} (h : (decide (a < 0) == decide (b < 0)) = false) : (b.natAbs ≤ a.natAbs → a + b = if decide (a < 0) = true then -((a.natAbs - b.natAbs : Nat) : Int) else ((a.natAbs - b.natAbs : Nat) : Int)) ∧ (a.natAbs < b.natAbs → a + b = if decide (b < 0) = true then -((b.natAbs - a.natAbs : Nat) : Int) else ((b.natAbs - a.natAbs : Nat) : Int)) := by
  by_cases ha : a < 0 <;> by_cases hb : b < 0 <;> simp [ha, hb] at h ⊢ <;> constructor <;> intro h2 <;> omega
theorem diff_fits {a b : Int} (ha : a.natAbs < 4294967296 ^ 6) (hb : b.natAbs < 4294967296 ^ 6) (h : (decide (a < 0) == decide (b < 0)) = false) : (a + b).natAbs < 4294967296 ^ 6 := by
  have h1 := diff_abs h
  rcases Nat.lt_or_ge a.natAbs b.natAbs with l | l
  · rw [h1.2 l]; split <;> omega
  · rw [h1.1 l]; split <;> omega
theorem sAddV (w : World) (a b : Int) (ha : a.natAbs < 4294967296 ^ 6) (hb : b.natAbs < 4294967296 ^ 6) : Calls Try.prog 84 #[WV a, WV b] w fun e w' => e = .returned (.tuple #[WV (fitZ (a + b)), .int .i64 (fitC (a + b).natAbs)]) ∧ Below w.heap.size w w' := by
  unfold fitZ fitC
  cases h : (decide (a < 0) == decide (b < 0))
  · have f := diff_fits ha hb h
    rw [if_pos f, if_pos f]
    rcases Nat.lt_or_ge a.natAbs b.natAbs with l | l
    · rw [← W7_val ((diff_abs h).2 l)]
      exact sAddL w _ _ h a.natAbs b.natAbs ha hb l
    · rw [← W7_val ((diff_abs h).1 l)]
      exact sAddG w _ _ h a.natAbs b.natAbs ha hb l
  · rw [(same_abs h).1]
    by_cases f : a.natAbs + b.natAbs < 4294967296 ^ 6
    · rw [if_pos f, if_pos f, ← W7_val (same_abs h).2]
      exact sAddS w _ _ h a.natAbs b.natAbs ha hb (by rw [okP_iff ha hb]; exact decide_eq_true f) f
    · rw [if_neg f, if_neg f, WV_zero]
      exact sAddO w _ _ h a.natAbs b.natAbs ha hb (by rw [okP_iff ha hb]; exact decide_eq_false f)
theorem iAddV (w : World) (gc : Nat) (ov : Bool) (a b : Int) (ha : a.natAbs < 4294967296 ^ 6) (hb : b.natAbs < 4294967296 ^ 6) (hg : CB w gc ov) : Calls Try.prog 89 #[.pointer (some ⟨gc, 0, none⟩), WV a, WV b] w fun e w' => e = .returned (WV (addZ a b)) ∧ Below w.heap.size (w.setCell ⟨gc, 0, none⟩ (.bool (ov || ovM (a + b).natAbs))) w' := by
  cases h : (decide (a < 0) == decide (b < 0))
  · have f := diff_fits ha hb h
    rw [show addZ a b = a + b from if_pos f, (timA_pos f).2, Bool.or_false, setCell_same hg]
    rcases Nat.lt_or_ge a.natAbs b.natAbs with l | l
    · rw [← W7_val ((diff_abs h).2 l)]
      exact iAddL w gc _ _ h a.natAbs b.natAbs ha hb l
    · rw [← W7_val ((diff_abs h).1 l)]
      exact iAddG w gc _ _ h a.natAbs b.natAbs ha hb l
  · have e := same_abs h
    have hz : addZ a b = if decide (a < 0) = true then -(((a.natAbs + b.natAbs) % 4294967296 ^ 6 : Nat) : Int) else (((a.natAbs + b.natAbs) % 4294967296 ^ 6 : Nat) : Int) := by
      unfold addZ
      split
      · rename_i f
        rw [e.1] at f
        rw [Nat.mod_eq_of_lt f, ← e.2]
      · by_cases c : a < 0 <;> simp [c]
    rw [← W7_val hz, e.1]
    by_cases f : a.natAbs + b.natAbs < 4294967296 ^ 6
    · rw [(timA_pos f).2, Bool.or_false]
      have k : okP a.natAbs b.natAbs = true := by rw [okP_iff ha hb]; exact decide_eq_true f
      cases ov
      · exact iAddFF w gc _ _ h a.natAbs b.natAbs _ ha hb rfl k hg
      · exact iAddTF w gc _ _ h a.natAbs b.natAbs _ ha hb rfl k hg
    · rw [(timA_neg f).2, Bool.or_true]
      have k : okP a.natAbs b.natAbs = false := by rw [okP_iff ha hb]; exact decide_eq_false f
      cases ov
      · exact iAddFT w gc _ _ h a.natAbs b.natAbs _ ha hb rfl k hg
      · exact iAddTT w gc _ _ h a.natAbs b.natAbs _ ha hb rfl k hg
theorem OB.calc {b : Nat} {w0 w w1 : World} {g : Nat} {ov : Bool} {bl : List (Nat × Array Value × Nat)} (h : OB b w0 w bl) (i : Nat) (hi : bl[i]? = some (g, #[.bool ov], 79)) (ov' : Bool) (hb : Below w.heap.size (w.setCell ⟨g, 0, none⟩ (.bool ov')) w1) {bl' : List (Nat × Array Value × Nat)} (e : bl.set i (g, #[.bool ov'], 79) = bl') : OB b w0 w1 bl' := by
  have h1 := h.set i hi 0 (.bool ov') (bl' := bl') (by rw [← e]; rfl)
  exact h1.below (by rw [setCell_size]; exact hb)
theorem fitZ_lt (z : Int) : (fitZ z).natAbs < 4294967296 ^ 6 := by
  unfold fitZ
  split
  · assumption
  · decide
theorem addZ_lt (a b : Int) : (addZ a b).natAbs < 4294967296 ^ 6 := by
  unfold addZ
  split
  · assumption
  · have := Nat.mod_lt (a.natAbs + b.natAbs) (bpos 6)
    split <;> omega
theorem abs_small {z : Int} (h1 : -9223372036854775808 ≤ z) (h2 : z < 9223372036854775808) : z.natAbs < 4294967296 ^ 6 := small6 (by omega)
theorem OB.drop {b : Nat} {w0 w : World} {p : Nat × Array Value × Nat} {bl : List (Nat × Array Value × Nat)} (h : OB b w0 w (p :: bl)) : OB b w0 w bl := ⟨fun q hq => h.m q (List.mem_cons_of_mem _ hq), (List.pairwise_cons.1 h.nd).2, h.bel, h.sz⟩
end Go.Proofs.Ytbomadebdekjjaa.Wide
