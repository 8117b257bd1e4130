/- Functions of the program as Lean functions, and the proof that the code comes to what they say. Written by a program of this session (myprint.py). -/
import Derived.Test.YtbomadebdekjjaaMFnExactValueAtx0
import Derived.Test.YtbomadebdekjjaaMFnExactValueAtx4
namespace Go.Proofs.Ytbomadebdekjjaa.MFnExactValueAt
open Go.RowKit Go.Proofs.Ytbomadebdekjjaa.MOpen Go.Proofs.YtbomadebdekjjaaW.PrintWords Go.Proofs.YtbomadebdekjjaaW.PrintLast Go.Proofs.YtbomadebdekjjaaW.PrintMore
attribute [local go_sem] max2_int min2_int max_two min_two max_three min_three max_four min_four   -- for this text's walks alone
set_option linter.unusedVariables false
set_option linter.unusedSimpArgs false

/-! ### spec_l01Bits: function 131 -/
mutual
def spec_l01Bits.l0 : Nat → Int → S23 → Option (Int)
  | 0, _, _ => none
  | k + 1, x3, x1000 => if x3 ≥ 0 then (if 0 ≤ x3 then (if x3 < 6 then (if (rd [x1000.f0, x1000.f1, x1000.f2, x1000.f3, x1000.f4, x1000.f5] x3) = 0 then (spec_l01Bits.l0 k (wrap64 (x3 - 1)) x1000) else (spec_l01Bits.l1 k x3 0 (rd [x1000.f0, x1000.f1, x1000.f2, x1000.f3, x1000.f4, x1000.f5] x3))) else (none)) else (none)) else (some 0)
def spec_l01Bits.l1 : Nat → Int → Int → Int → Option (Int)
  | 0, _, _, _ => none
  | k + 1, x3, x4, x5 => if x5 > 0 then (spec_l01Bits.l1 k x3 (wrap64 (x4 + 1)) (x5 / 2)) else (some (wrap64 ((wrap64 (32 * x3)) + x4)))
end
def spec_l01Bits.f (k : Nat) (a0 : S23) : Option (Int) := spec_l01Bits.l0 k 5 a0
theorem spec_l01Bits.mono_l : ∀ k, (∀ y0 y1, LeO (spec_l01Bits.l0 k y0 y1) (spec_l01Bits.l0 (k + 1) y0 y1)) ∧ (∀ y0 y1 y2, LeO (spec_l01Bits.l1 k y0 y1 y2) (spec_l01Bits.l1 (k + 1) y0 y1 y2))
  | 0 => ⟨fun _ _ r h => by simp [spec_l01Bits.l0] at h, fun _ _ _ r h => by simp [spec_l01Bits.l1] at h⟩
  | k + 1 => by
    obtain ⟨ih0, ih1⟩ := spec_l01Bits.mono_l k
    refine ⟨?_, ?_⟩
    · intro y0 y1
      unfold spec_l01Bits.l0
      repeat' first
      | (with_reducible exact ih0 _ _)
      | (with_reducible exact ih1 _ _ _)
      | (with_reducible exact LeO.refl _)
      | (with_reducible exact LeO.none _)
      | (with_reducible refine LeO.ite ?_ ?_)
      | (with_reducible refine LeO.bind ?_ (fun _ => ?_))
      | exact ih0 _ _
      | exact ih1 _ _ _
      | exact LeO.none _
      | refine LeO.ite ?_ ?_
      | refine LeO.bind ?_ (fun _ => ?_)
    · intro y0 y1 y2
      unfold spec_l01Bits.l1
      repeat' first
      | (with_reducible exact ih0 _ _)
      | (with_reducible exact ih1 _ _ _)
      | (with_reducible exact LeO.refl _)
      | (with_reducible exact LeO.none _)
      | (with_reducible refine LeO.ite ?_ ?_)
      | (with_reducible refine LeO.bind ?_ (fun _ => ?_))
      | exact ih0 _ _
      | exact ih1 _ _ _
      | exact LeO.none _
      | refine LeO.ite ?_ ?_
      | refine LeO.bind ?_ (fun _ => ?_)
theorem spec_l01Bits.mono : ∀ a0 k, LeO (spec_l01Bits.f k a0) (spec_l01Bits.f (k + 1) a0) := by
  intro a0 k
  obtain ⟨ih0, ih1⟩ := spec_l01Bits.mono_l k
  unfold spec_l01Bits.f
  repeat' first
      | (with_reducible exact ih0 _ _)
      | (with_reducible exact ih1 _ _ _)
      | (with_reducible exact LeO.refl _)
      | (with_reducible exact LeO.none _)
      | (with_reducible refine LeO.ite ?_ ?_)
      | (with_reducible refine LeO.bind ?_ (fun _ => ?_))
      | exact ih0 _ _
      | exact ih1 _ _ _
      | exact LeO.none _
      | refine LeO.ite ?_ ?_
      | refine LeO.bind ?_ (fun _ => ?_)
set_option maxHeartbeats 8000000 in
set_option maxRecDepth 100000 in
theorem spec_l01Bits.calls (k : Nat) (B0_ O0_ : Nat) (a0 : S23) (r : Int) (w : World) (hq0_ : w.cell? ⟨B0_, O0_, none⟩ = some (.int .u32 a0.f0) ∧ w.cell? ⟨B0_, O0_ + 1, none⟩ = some (.int .u32 a0.f1) ∧ w.cell? ⟨B0_, O0_ + 2, none⟩ = some (.int .u32 a0.f2) ∧ w.cell? ⟨B0_, O0_ + 3, none⟩ = some (.int .u32 a0.f3) ∧ w.cell? ⟨B0_, O0_ + 4, none⟩ = some (.int .u32 a0.f4) ∧ w.cell? ⟨B0_, O0_ + 5, none⟩ = some (.int .u32 a0.f5)) (h : spec_l01Bits.f k a0 = some r) :
    Calls Try.prog 131 #[.pointer (some ⟨B0_, O0_, none⟩)] w fun e w' => e = .returned (.int .i64 r) ∧ Drawn0 w w' := by
  have HQ0_ := Aside0.mk hq0_
  clear hq0_
  have H : (spec_l01Bits.l0 k 5 a0) = some r := h
  clear h
  have H' := Aside0.mk H
  clear H
  go_enter Try.func131, Try.ntmps131
  go_wp2
  go_loopg [3] k (fun kq v3 w' => ∃ (x3_1 : Int), v3 = .int .i64 x3_1 ∧ Aside0 (spec_l01Bits.l0 kq x3_1 a0 = some r) ∧ Aside0 (kq ≤ k) ∧ Drawn0 w w')
  case atStart => exact ⟨(5), (by first | rfl | (simp; done) | (simp [*]; done)), H', ⟨Nat.le_refl _⟩, by repeat (first | exact Drawn0.refl _ | apply Drawn0.step)⟩
  case round =>
    clear H'
    try clear c1
    obtain ⟨x3_1, rfl, HA, HK1, ⟨m1, rfl⟩⟩ := hrel
    cases gk with
    | zero => exact absurd HA.out (by simp [spec_l01Bits.l0])
    | succ k1 =>
      have H := HA.out
      clear HA
      simp only [spec_l01Bits.l0] at H
      by_cases c2 : x3_1 ≥ 0
      · rw [if_pos c2] at H
        have c2b0 : decide (0 ≤ x3_1) = true := decide_eq_true c2
        clear c2
        have c3 : 0 ≤ x3_1 := of_decide_eq_true c2b0
        rw [if_pos c3] at H
        clear c3
        by_cases c4 : x3_1 < 6
        · rw [if_pos c4] at H
          have c4b0 : decide (x3_1 < 6) = true := decide_eq_true c4
          clear c4
          by_cases c5 : (rd [a0.f0, a0.f1, a0.f2, a0.f3, a0.f4, a0.f5] x3_1) = 0
          · rw [if_pos c5] at H
            have c5b0 : ((rd [a0.f0, a0.f1, a0.f2, a0.f3, a0.f4, a0.f5] x3_1) == 0) = true := beq_iff_eq.mpr c5
            have c5b1 : ((rd [a0.f0, a0.f1, a0.f2, a0.f3, a0.f4, a0.f5] x3_1) != 0) = false := bne_eq_false_iff_eq.mpr c5
            clear c5
            have H' := Aside0.mk H
            clear H
            obtain ⟨hxr6_0, hxr6_1, hxr6_2, hxr6_3, hxr6_4, hxr6_5⟩ := HQ0_.out
            have HP162 := Aside0.mk (show 0 ≤ (x3_1 : Int) ∧ (x3_1 : Int) < 6 from ⟨of_decide_eq_true (by first | (with_reducible assumption) | assumption), of_decide_eq_true (by first | (with_reducible assumption) | assumption)⟩)
            have hx162_0 : w.cell? ⟨B0_, O0_ + (x3_1 : Int).toNat, none⟩ = some (.int .u32 (rd [a0.f0, a0.f1, a0.f2, a0.f3, a0.f4, a0.f5] x3_1)) := (by (obtain ⟨hz0_, hz1_, hz2_, hz3_, hz4_, hz5_⟩ := HQ0_.out; rcases (show x3_1 = 0 ∨ x3_1 = 1 ∨ x3_1 = 2 ∨ x3_1 = 3 ∨ x3_1 = 4 ∨ x3_1 = 5 from (by have h_ := HP162.out; omega)) with rfl | rfl | rfl | rfl | rfl | rfl <;> first | exact hz0_ | exact hz1_ | exact hz2_ | exact hz3_ | exact hz4_ | exact hz5_))
            have hx162_1 : w.cell? ((⟨B0_, O0_, none⟩ : Addr).add (x3_1 : Int).toNat) = some (.int .u32 (rd [a0.f0, a0.f1, a0.f2, a0.f3, a0.f4, a0.f5] x3_1)) := (congrArg _ (add_off _ _ _)).trans hx162_0
            have hpz162 := eq_true HP162.out.1
            have hpy162 := eq_true HP162.out.2
            go_wp2
            go_roundg k1
            case measure => have := HK1.out; omega
            case rel => exact ⟨(wrap64 (x3_1 - 1)), (by first | rfl | (simp; done) | (simp [*]; done)), H', ⟨by have := HK1.out; omega⟩, by repeat (first | exact Drawn0.refl _ | apply Drawn0.step)⟩
          · rw [if_neg c5] at H
            have c5b0 : ((rd [a0.f0, a0.f1, a0.f2, a0.f3, a0.f4, a0.f5] x3_1) == 0) = false := beq_eq_false_iff_ne.mpr c5
            have c5b1 : ((rd [a0.f0, a0.f1, a0.f2, a0.f3, a0.f4, a0.f5] x3_1) != 0) = true := bne_iff_ne.mpr c5
            have H' := Aside0.mk H
            clear H
            obtain ⟨hxr7_0, hxr7_1, hxr7_2, hxr7_3, hxr7_4, hxr7_5⟩ := HQ0_.out
            have HP162 := Aside0.mk (show 0 ≤ (x3_1 : Int) ∧ (x3_1 : Int) < 6 from ⟨of_decide_eq_true (by first | (with_reducible assumption) | assumption), of_decide_eq_true (by first | (with_reducible assumption) | assumption)⟩)
            have hx162_0 : w.cell? ⟨B0_, O0_ + (x3_1 : Int).toNat, none⟩ = some (.int .u32 (rd [a0.f0, a0.f1, a0.f2, a0.f3, a0.f4, a0.f5] x3_1)) := (by (obtain ⟨hz0_, hz1_, hz2_, hz3_, hz4_, hz5_⟩ := HQ0_.out; rcases (show x3_1 = 0 ∨ x3_1 = 1 ∨ x3_1 = 2 ∨ x3_1 = 3 ∨ x3_1 = 4 ∨ x3_1 = 5 from (by have h_ := HP162.out; omega)) with rfl | rfl | rfl | rfl | rfl | rfl <;> first | exact hz0_ | exact hz1_ | exact hz2_ | exact hz3_ | exact hz4_ | exact hz5_))
            have hx162_1 : w.cell? ((⟨B0_, O0_, none⟩ : Addr).add (x3_1 : Int).toNat) = some (.int .u32 (rd [a0.f0, a0.f1, a0.f2, a0.f3, a0.f4, a0.f5] x3_1)) := (congrArg _ (add_off _ _ _)).trans hx162_0
            have hpz162 := eq_true HP162.out.1
            have hpy162 := eq_true HP162.out.2
            have HP163 := Aside0.mk (show 0 ≤ (x3_1 : Int) ∧ (x3_1 : Int) < 6 from ⟨of_decide_eq_true (by first | (with_reducible assumption) | assumption), of_decide_eq_true (by first | (with_reducible assumption) | assumption)⟩)
            have hx163_0 : w.cell? ⟨B0_, O0_ + (x3_1 : Int).toNat, none⟩ = some (.int .u32 (rd [a0.f0, a0.f1, a0.f2, a0.f3, a0.f4, a0.f5] x3_1)) := (by (obtain ⟨hz0_, hz1_, hz2_, hz3_, hz4_, hz5_⟩ := HQ0_.out; rcases (show x3_1 = 0 ∨ x3_1 = 1 ∨ x3_1 = 2 ∨ x3_1 = 3 ∨ x3_1 = 4 ∨ x3_1 = 5 from (by have h_ := HP163.out; omega)) with rfl | rfl | rfl | rfl | rfl | rfl <;> first | exact hz0_ | exact hz1_ | exact hz2_ | exact hz3_ | exact hz4_ | exact hz5_))
            have hx163_1 : w.cell? ((⟨B0_, O0_, none⟩ : Addr).add (x3_1 : Int).toNat) = some (.int .u32 (rd [a0.f0, a0.f1, a0.f2, a0.f3, a0.f4, a0.f5] x3_1)) := (congrArg _ (add_off _ _ _)).trans hx163_0
            have hpz163 := eq_true HP163.out.1
            have hpy163 := eq_true HP163.out.2
            go_wp2
            go_loopg [4, 5] k1 (fun kq v4 v5 w' => ∃ (x4_2 : Int) (x5_2 : Int), v4 = .int .i64 x4_2 ∧ v5 = .int .u32 x5_2 ∧ Aside0 (spec_l01Bits.l1 kq x3_1 x4_2 x5_2 = some r) ∧ Aside0 (kq ≤ k1) ∧ Drawn0 w w')
            case atStart => exact ⟨(0), ((rd [a0.f0, a0.f1, a0.f2, a0.f3, a0.f4, a0.f5] x3_1)), (by first | rfl | (simp; done) | (simp [*]; done)), (by first | rfl | (simp; done) | (simp [*]; done)), H', ⟨Nat.le_refl _⟩, by repeat (first | exact Drawn0.refl _ | apply Drawn0.step)⟩
            case round =>
              clear H'
              try clear c1
              try clear hx1
              try clear c2
              try clear c2b0
              try clear p2
              try clear c3
              try clear c4
              try clear c4b0
              try clear c5
              try clear c5b0
              try clear c5b1
              try clear p6
              try clear hx162_0
              try clear hx162_1
              try clear hx163_0
              try clear hx163_1
              obtain ⟨x4_2, x5_2, rfl, rfl, HA, HK2, ⟨m2, rfl⟩⟩ := hrel
              cases gk with
              | zero => exact absurd HA.out (by simp [spec_l01Bits.l1])
              | succ k2 =>
                have H := HA.out
                clear HA
                simp only [spec_l01Bits.l1] at H
                by_cases c8 : x5_2 > 0
                · rw [if_pos c8] at H
                  have c8b0 : decide (0 < x5_2) = true := decide_eq_true c8
                  clear c8
                  have H' := Aside0.mk H
                  clear H
                  go_wp2
                  go_roundg k2
                  case measure => have := HK1.out; have := HK2.out; omega
                  case rel => exact ⟨(wrap64 (x4_2 + 1)), (x5_2 / 2), (by first | rfl | (simp; done) | (simp [*]; done)), (by first | rfl | (simp; done) | (simp [*]; done)), H', ⟨by have := HK1.out; have := HK2.out; omega⟩, by repeat (first | exact Drawn0.refl _ | apply Drawn0.step)⟩
                · rw [if_neg c8] at H
                  have c8b0 : decide (0 < x5_2) = false := decide_eq_false c8
                  clear c8
                  obtain rfl := Option.some.inj H
                  go_wp2
                  go_ret
                  exact ⟨by first | rfl | (simp; done) | (simp [*]; done), by repeat (first | exact Drawn0.refl _ | apply Drawn0.step)⟩
        · rw [if_neg c4] at H
          exact absurd H (by simp)
      · rw [if_neg c2] at H
        have c2b0 : decide (0 ≤ x3_1) = false := decide_eq_false c2
        clear c2
        obtain rfl := Option.some.inj H
        go_wp2
        go_ret
        exact ⟨by first | rfl | (simp; done) | (simp [*]; done), by repeat (first | exact Drawn0.refl _ | apply Drawn0.step)⟩

set_option linter.defProp false
def bS122_ := @below_set
theorem q122x1_ {P : Prop} (h : P := by repeat (first | (with_reducible first | exact HB.out | apply below_alloc | apply pw_below_drewN | apply below_drew1 | refine bS122_ ?_ GE164.out) | exact HB.out)) : P := h
theorem q122x2_ {P : Prop} (h : P := by (obtain ⟨hz0_, hz1_, hz2_, hz3_, hz4_, hz5_⟩ := HQ0_.out; replace hz0_ := ((show Below w.heap.size w wr from by repeat (first | (with_reducible first | exact HB.out | apply below_alloc | apply pw_below_drewN | apply below_drew1 | refine bS122_ ?_ GE164.out | refine bS122_ ?_ GE167.out) | exact HB.out)).cell (World.block_lt_of_cell? w _ hz0_)).trans hz0_; replace hz1_ := ((show Below w.heap.size w wr from by repeat (first | (with_reducible first | exact HB.out | apply below_alloc | apply pw_below_drewN | apply below_drew1 | refine bS122_ ?_ GE164.out | refine bS122_ ?_ GE167.out) | exact HB.out)).cell (World.block_lt_of_cell? w _ hz1_)).trans hz1_; replace hz2_ := ((show Below w.heap.size w wr from by repeat (first | (with_reducible first | exact HB.out | apply below_alloc | apply pw_below_drewN | apply below_drew1 | refine bS122_ ?_ GE164.out | refine bS122_ ?_ GE167.out) | exact HB.out)).cell (World.block_lt_of_cell? w _ hz2_)).trans hz2_; replace hz3_ := ((show Below w.heap.size w wr from by repeat (first | (with_reducible first | exact HB.out | apply below_alloc | apply pw_below_drewN | apply below_drew1 | refine bS122_ ?_ GE164.out | refine bS122_ ?_ GE167.out) | exact HB.out)).cell (World.block_lt_of_cell? w _ hz3_)).trans hz3_; replace hz4_ := ((show Below w.heap.size w wr from by repeat (first | (with_reducible first | exact HB.out | apply below_alloc | apply pw_below_drewN | apply below_drew1 | refine bS122_ ?_ GE164.out | refine bS122_ ?_ GE167.out) | exact HB.out)).cell (World.block_lt_of_cell? w _ hz4_)).trans hz4_; replace hz5_ := ((show Below w.heap.size w wr from by repeat (first | (with_reducible first | exact HB.out | apply below_alloc | apply pw_below_drewN | apply below_drew1 | refine bS122_ ?_ GE164.out | refine bS122_ ?_ GE167.out) | exact HB.out)).cell (World.block_lt_of_cell? w _ hz5_)).trans hz5_; rcases (show x7_2 = 0 ∨ x7_2 = 1 ∨ x7_2 = 2 ∨ x7_2 = 3 ∨ x7_2 = 4 ∨ x7_2 = 5 from (by have h_ := HP168.out; omega)) with rfl | rfl | rfl | rfl | rfl | rfl <;> first | exact hz0_ | exact hz1_ | exact hz2_ | exact hz3_ | exact hz4_ | exact hz5_)) : P := h
theorem q122x3_ {P : Prop} (h : P := by rw [hw]; exact (by repeat (first | (with_reducible first | exact HB.out | apply below_alloc | apply pw_below_drewN | apply below_drew1 | refine bS122_ ?_ GE164.out | refine bS122_ ?_ GE167.out) | exact HB.out))) : P := h
theorem q122x4_ {P : Prop} (h : P := by rw [hw]; exact (by (with_reducible repeat (first | refine blk_drewN ?_ _ | refine blk_drew ?_ | refine blk_alloc ?_ _ | refine blk_far ?_ NB164_167.out _)); (with_reducible repeat (first | refine blk_drewN ?_ _ | refine blk_drew ?_ | refine blk_alloc ?_ _)); exact BK164.out)) : P := h
theorem q122x5_ {P : Prop} (h : P := by first | (with_reducible assumption) | assumption) : P := h
theorem q122x6_ {P : Prop} (h : P := by rw [hw]; exact (by (with_reducible repeat (first | refine blk_drewN ?_ _ | refine blk_drew ?_ | refine blk_alloc ?_ _)); refine puts6_ (.int .u32 0) (.int .u32 0) (.int .u32 0) (.int .u32 0) (.int .u32 0) (.int .u32 0) ?_; (with_reducible repeat (first | refine blk_drewN ?_ _ | refine blk_drew ?_ | refine blk_alloc ?_ _)); exact BK164.out)) : P := h
theorem q122x7_ {P : Prop} (h : P := by rw [hw]; exact (by (with_reducible repeat (first | refine blk_drewN ?_ _ | refine blk_drew ?_ | refine blk_alloc ?_ _)); refine blk_put (cs := #[.int .u32 x168000_2.f0, .int .u32 x168000_2.f1, .int .u32 x168000_2.f2, .int .u32 x168000_2.f3, .int .u32 x168000_2.f4, .int .u32 x168000_2.f5]) ?_ (((ji25) : Int).toNat) _ (by rcases (show (ji25) = 0 ∨ (ji25) = 1 ∨ (ji25) = 2 ∨ (ji25) = 3 ∨ (ji25) = 4 ∨ (ji25) = 5 from (by have h_ := HP170.out; omega)) with rfl | rfl | rfl | rfl | rfl | rfl <;> rfl); (with_reducible repeat (first | refine blk_drewN ?_ _ | refine blk_drew ?_ | refine blk_alloc ?_ _)); exact BK167.out)) : P := h
theorem q122x8_ {P : Prop} (h : P := by (with_reducible repeat (first | refine blk_drewN ?_ _ | refine blk_drew ?_ | refine blk_alloc ?_ _)); exact BK164.out) : P := h
theorem q122x9_ {P : Prop} (h : P := by (rcases (show (ji25) = 0 ∨ (ji25) = 1 ∨ (ji25) = 2 ∨ (ji25) = 3 ∨ (ji25) = 4 ∨ (ji25) = 5 from (by have h_ := HP169.out; omega)) with rfl | rfl | rfl | rfl | rfl | rfl <;> first | exact (blk_cell BK167.out 0).trans rfl | exact (blk_cell BK167.out 1).trans rfl | exact (blk_cell BK167.out 2).trans rfl | exact (blk_cell BK167.out 3).trans rfl | exact (blk_cell BK167.out 4).trans rfl | exact (blk_cell BK167.out 5).trans rfl)) : P := h
theorem q122x10_ {P : Prop} (h : P := by (rcases (show (ji25) = 0 ∨ (ji25) = 1 ∨ (ji25) = 2 ∨ (ji25) = 3 ∨ (ji25) = 4 ∨ (ji25) = 5 from (by have h_ := HP170.out; omega)) with rfl | rfl | rfl | rfl | rfl | rfl <;> first | exact (blk_cell BK167.out 0).trans rfl | exact (blk_cell BK167.out 1).trans rfl | exact (blk_cell BK167.out 2).trans rfl | exact (blk_cell BK167.out 3).trans rfl | exact (blk_cell BK167.out 4).trans rfl | exact (blk_cell BK167.out 5).trans rfl)) : P := h
theorem q122x11_ {P : Prop} (h : P := by rw [hw]; exact (by (with_reducible repeat (first | refine blk_drewN ?_ _ | refine blk_drew ?_ | refine blk_alloc ?_ _ | refine blk_far ?_ NB167_164.out _)); (with_reducible repeat (first | refine blk_drewN ?_ _ | refine blk_drew ?_ | refine blk_alloc ?_ _)); exact BK167.out)) : P := h
theorem q122x12_ {P : Prop} (h : P := by repeat (first | (with_reducible first | exact HB.out | apply below_alloc | apply pw_below_drewN | apply below_drew1) | exact HB.out)) : P := h
theorem q122x13_ {P : Prop} (h : P := by (try simp only [List.map_toArray, List.map_cons, List.map_nil]); first | done | rfl | (simp only [List.length_drop, List.length_take]; rfl) | (simp only [List.drop_one]; done) | (simp only [List.drop_one]; rfl)) : P := h
theorem q122x14_ {P : Prop} (h : P := by first | rfl | (simp; done) | (simp [*]; done)) : P := h
/-! ### spec_l01UpMag: function 122, by hand -/
theorem wrapId_ {n : Int} (h0 : -9223372036854775808 ≤ n) (h1 : n ≤ 9223372036854775807) : wrap64 n = n := by
  unfold wrap64; omega
/-- How many bits a size has. -/
def BL (m s : Nat) : Prop := (m = 0 → s = 0) ∧ (m ≠ 0 → 1 ≤ s ∧ 2 ^ (s - 1) ≤ m ∧ m < 2 ^ s)
theorem rd_wlm (m i : Nat) (h : i < 6) : rd [(wlm m).f0, (wlm m).f1, (wlm m).f2, (wlm m).f3, (wlm m).f4, (wlm m).f5] (i : Int) = ((Wide.lb m i : Nat) : Int) := by
  rcases (by omega : i = 0 ∨ i = 1 ∨ i = 2 ∨ i = 3 ∨ i = 4 ∨ i = 5) with rfl | rfl | rfl | rfl | rfl | rfl <;> rfl
theorem BL_half {v l : Nat} (h0 : v ≠ 0) (h : BL (v / 2) l) : BL v (l + 1) := by
  refine ⟨fun z => absurd z h0, fun _ => ⟨by omega, ?_, ?_⟩⟩
  · by_cases c : v / 2 = 0
    · rw [h.1 c]; simp; omega
    · obtain ⟨a, b, d⟩ := h.2 c
      have e : 2 ^ (l + 1 - 1) = 2 ^ (l - 1) * 2 := by rw [← Nat.pow_succ]; congr 1; omega
      rw [e]; omega
  · by_cases c : v / 2 = 0
    · rw [h.1 c]; simp; omega
    · obtain ⟨a, b, d⟩ := h.2 c
      rw [Nat.pow_succ]; omega
theorem bits_low (n : Nat) (hn : n ≤ 6) : ∀ (t v c : Nat), v < 2 ^ t → t ≤ 32 → c + t ≤ 64 → ∃ l, BL v l ∧ l ≤ t ∧ Ev (fun k => spec_l01Bits.l1 k (n : Int) (c : Int) (v : Int)) (((32 * n + c + l : Nat)) : Int) := by
  intro t
  induction t with
  | zero =>
    intro v c hv ht hc
    obtain rfl : v = 0 := by simpa using hv
    refine ⟨0, ⟨fun _ => rfl, fun z => absurd rfl z⟩, Nat.le_refl _, Ev.step (fun k => by rw [spec_l01Bits.l1]) (Ev.congr (fun k => if_neg (by decide)) ?_)⟩
    rw [wrapId_ (n := 32 * (n : Int)) (by omega) (by omega), wrapId_ (by omega) (by omega)]
    exact Ev.congr (fun k => by rw [show (32 * (n : Int) + (c : Int)) = ((32 * n + c + 0 : Nat) : Int) by omega]) (Ev.now _)
  | succ t ih =>
    intro v c hv ht hc
    by_cases h0 : v = 0
    · subst h0
      refine ⟨0, ⟨fun _ => rfl, fun z => absurd rfl z⟩, Nat.zero_le _, Ev.step (fun k => by rw [spec_l01Bits.l1]) (Ev.congr (fun k => if_neg (by decide)) ?_)⟩
      rw [wrapId_ (n := 32 * (n : Int)) (by omega) (by omega), wrapId_ (by omega) (by omega)]
      exact Ev.congr (fun k => by rw [show (32 * (n : Int) + (c : Int)) = ((32 * n + c + 0 : Nat) : Int) by omega]) (Ev.now _)
    · obtain ⟨l, h1, h2, h3⟩ := ih (v / 2) (c + 1) (by rw [Nat.pow_succ] at hv; omega) (by omega) (by omega)
      refine ⟨l + 1, BL_half h0 h1, by omega, Ev.step (fun k => by rw [spec_l01Bits.l1]) (Ev.congr (fun k => if_pos (by omega)) ?_)⟩
      have e1 : wrap64 ((c : Int) + 1) = ((c + 1 : Nat) : Int) := by rw [wrapId_ (by omega) (by omega)]; omega
      have e2 : (v : Int) / 2 = ((v / 2 : Nat) : Int) := by omega
      rw [e1, e2, show 32 * n + c + (l + 1) = 32 * n + (c + 1) + l by omega]
      exact h3
theorem BL_top {m n l : Nat} (hm : m < 4294967296 ^ (n + 1)) (h0 : m / 4294967296 ^ n ≠ 0) (h : BL (m / 4294967296 ^ n) l) : BL m (32 * n + l) := by
  obtain ⟨a, b, c⟩ := h.2 h0
  have e : (4294967296 : Nat) ^ n = 2 ^ (32 * n) := by rw [Nat.pow_mul]
  have hp : 0 < 2 ^ (32 * n) := Nat.pow_pos (by decide)
  rw [e] at b c h0
  refine ⟨fun z => absurd (by rw [z]; exact Nat.zero_div _) h0, fun _ => ⟨by omega, ?_, ?_⟩⟩
  · rw [show 32 * n + l - 1 = (l - 1) + 32 * n by omega, Nat.pow_add]
    exact (Nat.le_div_iff_mul_le hp).1 b
  · rw [Nat.add_comm, Nat.pow_add]
    exact (Nat.div_lt_iff_lt_mul hp).1 c
theorem specBits_ev : ∀ (n m : Nat), n ≤ 6 → m < 4294967296 ^ n → ∃ s, BL m s ∧ s ≤ 32 * n ∧ Ev (fun k => spec_l01Bits.l0 k ((n : Int) - 1) (wlm m)) (s : Int) := by
  intro n
  induction n with
  | zero =>
    intro m hn hm
    obtain rfl : m = 0 := by simpa using hm
    exact ⟨0, ⟨fun _ => rfl, fun z => absurd rfl z⟩, Nat.le_refl _, Ev.step (fun k => by rw [spec_l01Bits.l0]) (Ev.congr (fun k => (if_neg (show ¬ ((((0 : Nat) : Int) - 1) ≥ 0) by decide)).trans (show some (0 : Int) = some ((0 : Nat) : Int) from rfl)) (Ev.now _))⟩
  | succ n ih =>
    intro m hn hm
    have hv : Wide.lb m n = m / 4294967296 ^ n := by
      unfold Wide.lb
      exact Nat.mod_eq_of_lt ((Nat.div_lt_iff_lt_mul (Wide.bpos n)).2 (by rw [Nat.mul_comm, ← Nat.pow_succ]; exact hm))
    have e0 : ((n + 1 : Nat) : Int) - 1 = (n : Int) := by omega
    have step : ∀ r : Int, Ev (fun k => if ((Wide.lb m n : Nat) : Int) = 0 then spec_l01Bits.l0 k ((n : Int) - 1) (wlm m) else spec_l01Bits.l1 k (n : Int) 0 ((Wide.lb m n : Nat) : Int)) r → Ev (fun k => spec_l01Bits.l0 k (((n + 1 : Nat) : Int) - 1) (wlm m)) r := by
      intro r h
      rw [e0]
      refine Ev.step (fun k => by rw [spec_l01Bits.l0, rd_wlm m n (by omega), wrapId_ (n := (n : Int) - 1) (by omega) (by omega)]) (Ev.congr (fun k => if_pos (by omega)) (Ev.congr (fun k => if_pos (by omega)) (Ev.congr (fun k => if_pos (by omega)) h)))
    by_cases h0 : Wide.lb m n = 0
    · have hm2 : m < 4294967296 ^ n := by
        rw [hv] at h0
        exact (Nat.div_eq_zero_iff_lt (Wide.bpos n)).1 h0
      obtain ⟨s, h1, h2, h3⟩ := ih m (by omega) hm2
      exact ⟨s, h1, by omega, step _ (Ev.congr (fun k => if_pos (by omega)) h3)⟩
    · obtain ⟨l, h1, h2, h3⟩ := bits_low n (by omega) 32 (Wide.lb m n) 0 (Wide.lb_lt m n) (by omega) (by omega)
      rw [hv] at h0 h1
      exact ⟨32 * n + l, BL_top hm h0 h1, by omega, step _ (Ev.congr (fun k => if_neg (by rw [hv]; omega)) h3)⟩
/-- A size times a power of two fits where its bits and the power come to no more than all limbs. -/
theorem BL_fit {m s b : Nat} (h : BL m s) : (192 < s + b ∧ ¬ m = 0) ↔ ¬ m * 2 ^ b < 4294967296 ^ 6 := by
  have e : (4294967296 : Nat) ^ 6 = 2 ^ 192 := by decide
  rw [e]
  by_cases h0 : m = 0
  · rw [h0, Nat.zero_mul]
    exact ⟨fun z => absurd rfl z.2, fun z => absurd (Nat.pow_pos (by decide)) z⟩
  · obtain ⟨a, c, d⟩ := h.2 h0
    constructor
    · intro z hlt
      have h1 : 2 ^ (s - 1) * 2 ^ b ≤ m * 2 ^ b := Nat.mul_le_mul_right _ c
      rw [← Nat.pow_add] at h1
      have h2 : 2 ^ 192 ≤ 2 ^ (s - 1 + b) := Nat.pow_le_pow_right (by decide) (by omega)
      omega
    · intro z
      refine ⟨?_, h0⟩
      by_cases q : 192 < s + b
      · exact q
      · exfalso
        apply z
        have h1 : m * 2 ^ b < 2 ^ s * 2 ^ b := Nat.mul_lt_mul_of_pos_right d (Nat.pow_pos (by decide))
        rw [← Nat.pow_add] at h1
        exact Nat.lt_of_lt_of_le h1 (Nat.pow_le_pow_right (by decide) (by omega))
def spec_l01UpMag.f (k : Nat) (a0 : S23) (a1 : Int) : Option (S23 × Bool) := (mun a0).bind fun m => if 0 ≤ a1 ∧ a1 < 192 then (if m * 2 ^ a1.toNat < 4294967296 ^ 6 then some (wlm (m * 2 ^ a1.toNat), true) else some (wlm 0, false)) else none
theorem spec_l01UpMag.mono : ∀ a0 a1 k, LeO (spec_l01UpMag.f k a0 a1) (spec_l01UpMag.f (k + 1) a0 a1) := fun _ _ _ => LeO.refl _
theorem spec_l01UpMag.calls (k : Nat) (B0_ O0_ : Nat) (a0 : S23) (a1 : Int) (r1 : S23) (r2 : Bool) (w : World) (hq0_ : w.cell? ⟨B0_, O0_, none⟩ = some (.int .u32 a0.f0) ∧ w.cell? ⟨B0_, O0_ + 1, none⟩ = some (.int .u32 a0.f1) ∧ w.cell? ⟨B0_, O0_ + 2, none⟩ = some (.int .u32 a0.f2) ∧ w.cell? ⟨B0_, O0_ + 3, none⟩ = some (.int .u32 a0.f3) ∧ w.cell? ⟨B0_, O0_ + 4, none⟩ = some (.int .u32 a0.f4) ∧ w.cell? ⟨B0_, O0_ + 5, none⟩ = some (.int .u32 a0.f5)) (h : spec_l01UpMag.f k a0 a1 = some (r1, r2)) :
  Calls Try.prog 122 #[.pointer (some ⟨B0_, O0_, none⟩), .int .i64 a1] w fun e w' => e = .returned (.tuple #[.agg #[.int .u32 r1.f0, .int .u32 r1.f1, .int .u32 r1.f2, .int .u32 r1.f3, .int .u32 r1.f4, .int .u32 r1.f5], .bool r2]) ∧ Below w.heap.size w w' := by
  unfold spec_l01UpMag.f at h
  obtain ⟨m, hm, h2⟩ := Option.bind_eq_some_iff.mp h
  clear h
  obtain ⟨rfl, hx⟩ := mun_some hm
  have h := h2
  clear h2
  by_cases c : 0 ≤ a1 ∧ a1 < 192
  · rw [if_pos c] at h
    obtain ⟨b, rfl⟩ : ∃ b : Nat, a1 = (b : Int) := ⟨a1.toNat, by omega⟩
    rw [Int.toNat_natCast] at h
    obtain ⟨s, hs1, hs2, K, hs3⟩ := specBits_ev 6 m (by decide) hx
    have hP : Wide.P6 w B0_ O0_ m := by
      intro j hj
      rcases (by omega : j = 0 ∨ j = 1 ∨ j = 2 ∨ j = 3 ∨ j = 4 ∨ j = 5) with rfl | rfl | rfl | rfl | rfl | rfl
      · exact hq0_.1
      · exact hq0_.2.1
      · exact hq0_.2.2.1
      · exact hq0_.2.2.2.1
      · exact hq0_.2.2.2.2.1
      · exact hq0_.2.2.2.2.2
    refine (Wide.sUp w B0_ O0_ m b s hP hx (by omega) ⟨by omega, by omega⟩ (fun W hb => ?_)).mono ?_
    · have q := hP.below hb
      refine (spec_l01Bits.calls K B0_ O0_ (wlm m) s W ⟨q 0 (by decide), q 1 (by decide), q 2 (by decide), q 3 (by decide), q 4 (by decide), q 5 (by decide)⟩ (hs3 K (Nat.le_refl _))).mono ?_
      rintro e w' ⟨rfl, ⟨nd, rfl⟩⟩
      exact ⟨rfl, pw_below_drewN (Below.refl _ _) nd⟩
    · rintro e w' ⟨rfl, hb⟩
      refine ⟨?_, hb⟩
      have hf := BL_fit (b := b) hs1
      unfold Wide.upR
      by_cases z : m * 2 ^ b < 4294967296 ^ 6
      · rw [if_pos z] at h
        obtain ⟨rfl, rfl⟩ := Prod.mk.inj (Option.some.inj h)
        rw [if_neg (fun e => hf.1 ⟨by omega, e.2⟩ z)]
        rfl
      · rw [if_neg z] at h
        obtain ⟨rfl, rfl⟩ := Prod.mk.inj (Option.some.inj h)
        have y := hf.2 z
        rw [if_pos ⟨by omega, y.2⟩]
        rfl
  · rw [if_neg c] at h
    exact absurd h (by simp)

set_option linter.defProp false
def aM97_ := @Aside0.mk
theorem q97x1_ {P : Prop} (h : P := by (with_reducible repeat (first | refine blk_drewN ?_ _ | refine blk_drew ?_ | refine blk_alloc ?_ _)); exact BK173.out) : P := h
theorem q97x2_ {P : Prop} (h : P := by (with_reducible repeat (first | refine blk_drewN ?_ _ | refine blk_drew ?_ | refine blk_alloc ?_ _)); exact BK175.out) : P := h
theorem q97x3_ {P : Prop} (h : P := by repeat (first | (with_reducible first | exact HB.out | apply below_alloc | apply pw_below_drewN | apply below_drew1 | refine below_set ?_ GE173.out | refine below_set ?_ GE174.out | refine below_set ?_ GE175.out) | exact HB.out)) : P := h
theorem q97x4_ {P : Prop} (h : P := by (with_reducible repeat (first | refine blk_drewN ?_ _ | refine blk_drew ?_ | refine blk_alloc ?_ _)); exact BK174.out) : P := h
theorem q97x5_ {P : Prop} (h : P := by rw [hg]; exact Nat.ne_of_lt (blk_lt (g := gb173) (o := .cells #[.bool a0.f0, .int .u32 a0.f1.f0, .int .u32 a0.f1.f1, .int .u32 a0.f1.f2, .int .u32 a0.f1.f3, .int .u32 a0.f1.f4, .int .u32 a0.f1.f5] 25 (0, 0)) q97x1_)) : P := h
theorem q97x6_ {P : Prop} (h : P := by rw [hg]; exact Nat.ne_of_gt (blk_lt (g := gb173) (o := .cells #[.bool a0.f0, .int .u32 a0.f1.f0, .int .u32 a0.f1.f1, .int .u32 a0.f1.f2, .int .u32 a0.f1.f3, .int .u32 a0.f1.f4, .int .u32 a0.f1.f5] 25 (0, 0)) q97x1_)) : P := h
theorem q97x7_ {P : Prop} (h : P := by repeat (first | (with_reducible first | exact HB.out | apply below_alloc | apply pw_below_drewN | apply below_drew1 | refine below_set ?_ GE173.out | refine below_set ?_ GE174.out | refine below_set ?_ GE175.out | refine below_set ?_ GE178.out) | exact HB.out)) : P := h
theorem q97x8_ {P : Prop} (h : P := by repeat (first | (with_reducible first | exact HB.out | apply below_alloc | apply pw_below_drewN | apply below_drew1 | refine below_set ?_ GE173.out | refine below_set ?_ GE174.out) | exact HB.out)) : P := h
theorem q97x9_ {P : Prop} (h : P := by repeat (first | (with_reducible first | exact HB.out | apply below_alloc | apply pw_below_drewN | apply below_drew1 | refine below_set ?_ GE173.out) | exact HB.out)) : P := h
theorem q97x10_ {P : Prop} (h : P := by repeat (first | (with_reducible first | exact HB.out | apply below_alloc | apply pw_below_drewN | apply below_drew1) | exact HB.out)) : P := h
theorem q97x11_ {P : Prop} (h : P := by rw [hg]; exact Nat.ne_of_lt (blk_lt (g := gb174) (o := .cells #[.bool false, .int .u32 0, .int .u32 0, .int .u32 0, .int .u32 0, .int .u32 0, .int .u32 0] 25 (0, 0)) q97x4_)) : P := h
theorem q97x12_ {P : Prop} (h : P := by rw [hg]; exact Nat.ne_of_gt (blk_lt (g := gb174) (o := .cells #[.bool false, .int .u32 0, .int .u32 0, .int .u32 0, .int .u32 0, .int .u32 0, .int .u32 0] 25 (0, 0)) q97x4_)) : P := h
theorem q97x13_ {P : Prop} (h : P := by (try simp only [List.map_toArray, List.map_cons, List.map_nil]); first | done | rfl | (simp only [List.length_drop, List.length_take]; rfl) | (simp only [List.drop_one]; done) | (simp only [List.drop_one]; rfl)) : P := h
theorem q97x14_ {P : Prop} (h : P := by rw [hw]; exact (by (with_reducible repeat (first | refine blk_drewN ?_ _ | refine blk_drew ?_ | refine blk_alloc ?_ _)); refine puts7_ (.bool false) (.int .u32 0) (.int .u32 0) (.int .u32 0) (.int .u32 0) (.int .u32 0) (.int .u32 0) ?_; (with_reducible repeat (first | refine blk_drewN ?_ _ | refine blk_drew ?_ | refine blk_alloc ?_ _)); exact BK174.out)) : P := h
theorem q97x15_ {P : Prop} (h : P := by rw [hw]; exact (by (with_reducible repeat (first | refine blk_drewN ?_ _ | refine blk_drew ?_ | refine blk_alloc ?_ _)); refine puts6_ (.int .u32 0) (.int .u32 0) (.int .u32 0) (.int .u32 0) (.int .u32 0) (.int .u32 0) ?_; (with_reducible repeat (first | refine blk_drewN ?_ _ | refine blk_drew ?_ | refine blk_alloc ?_ _)); exact BK175.out)) : P := h
theorem q97x16_ {P : Prop} (h : P := by rw [hw]; exact (by (with_reducible repeat (first | refine blk_drewN ?_ _ | refine blk_drew ?_ | refine blk_alloc ?_ _)); refine puts6_ (.int .u32 0) (.int .u32 0) (.int .u32 0) (.int .u32 0) (.int .u32 0) (.int .u32 0) ?_; (with_reducible repeat (first | refine blk_drewN ?_ _ | refine blk_drew ?_ | refine blk_alloc ?_ _)); exact BK178.out)) : P := h
theorem q97x17_ {P : Prop} (h : P := by rw [hw]; exact (by (with_reducible repeat (first | refine blk_drewN ?_ _ | refine blk_drew ?_ | refine blk_alloc ?_ _ | refine blk_far ?_ NB173_175.out _)); (with_reducible repeat (first | refine blk_drewN ?_ _ | refine blk_drew ?_ | refine blk_alloc ?_ _)); exact BK173.out)) : P := h
theorem q97x18_ {P : Prop} (h : P := by rw [hw]; exact (by (with_reducible repeat (first | refine blk_drewN ?_ _ | refine blk_drew ?_ | refine blk_alloc ?_ _ | refine blk_far ?_ NB174_175.out _)); (with_reducible repeat (first | refine blk_drewN ?_ _ | refine blk_drew ?_ | refine blk_alloc ?_ _)); exact BK174.out)) : P := h
theorem q97x19_ {P : Prop} (h : P := by rw [hw]; exact (by (with_reducible repeat (first | refine blk_drewN ?_ _ | refine blk_drew ?_ | refine blk_alloc ?_ _ | refine blk_far ?_ NB173_178.out _)); (with_reducible repeat (first | refine blk_drewN ?_ _ | refine blk_drew ?_ | refine blk_alloc ?_ _)); exact BK173.out)) : P := h
theorem q97x20_ {P : Prop} (h : P := by rw [hw]; exact (by (with_reducible repeat (first | refine blk_drewN ?_ _ | refine blk_drew ?_ | refine blk_alloc ?_ _ | refine blk_far ?_ NB174_178.out _)); (with_reducible repeat (first | refine blk_drewN ?_ _ | refine blk_drew ?_ | refine blk_alloc ?_ _)); exact BK174.out)) : P := h
theorem q97x21_ {P : Prop} (h : P := by rw [hw]; exact (by (with_reducible repeat (first | refine blk_drewN ?_ _ | refine blk_drew ?_ | refine blk_alloc ?_ _ | refine blk_far ?_ NB175_178.out _)); (with_reducible repeat (first | refine blk_drewN ?_ _ | refine blk_drew ?_ | refine blk_alloc ?_ _)); exact BK175.out)) : P := h
theorem q97x22_ {P : Prop} (h : P := by rw [hw]; exact (by (with_reducible repeat (first | refine blk_drewN ?_ _ | refine blk_drew ?_ | refine blk_alloc ?_ _ | refine blk_far ?_ NB173_174.out _)); (with_reducible repeat (first | refine blk_drewN ?_ _ | refine blk_drew ?_ | refine blk_alloc ?_ _)); exact BK173.out)) : P := h
theorem q97x23_ {P : Prop} (h : P := by rw [hw]; exact (by (with_reducible repeat (first | refine blk_drewN ?_ _ | refine blk_drew ?_ | refine blk_alloc ?_ _ | refine blk_far ?_ NB175_174.out _)); (with_reducible repeat (first | refine blk_drewN ?_ _ | refine blk_drew ?_ | refine blk_alloc ?_ _)); exact BK175.out)) : P := h
theorem q97x24_ {P : Prop} (h : P := by rw [hw]; exact (by (with_reducible repeat (first | refine blk_drewN ?_ _ | refine blk_drew ?_ | refine blk_alloc ?_ _ | refine blk_far ?_ NB178_174.out _)); (with_reducible repeat (first | refine blk_drewN ?_ _ | refine blk_drew ?_ | refine blk_alloc ?_ _)); exact BK178.out)) : P := h
theorem q97x25_ {P : Prop} (h : P := by rw [hg]; exact Nat.ne_of_lt (blk_lt (g := gb175) (o := .cells #[.int .u32 a0.f1.f0, .int .u32 a0.f1.f1, .int .u32 a0.f1.f2, .int .u32 a0.f1.f3, .int .u32 a0.f1.f4, .int .u32 a0.f1.f5] 126 (0, 0)) q97x2_)) : P := h
theorem q97x26_ {P : Prop} (h : P := by rw [hg]; exact Nat.ne_of_gt (blk_lt (g := gb175) (o := .cells #[.int .u32 a0.f1.f0, .int .u32 a0.f1.f1, .int .u32 a0.f1.f2, .int .u32 a0.f1.f3, .int .u32 a0.f1.f4, .int .u32 a0.f1.f5] 126 (0, 0)) q97x2_)) : P := h
/-! ### spec_l01Up: function 97 -/
def spec_l01Up.f (k : Nat) (a0 : S24) (a1 : Int) : Option (S24 × Int) := (spec_l01UpMag.f k a0.f1 a1).bind fun bt176 => (if bt176.2 = true then ((spec_l01Made.f a0.f0 bt176.1).bind fun t179 => (some (t179, 0))) else (some ((⟨false, (⟨0, 0, 0, 0, 0, 0⟩ : S23)⟩ : S24), 3)))
theorem spec_l01Up.mono : ∀ a0 a1 k, LeO (spec_l01Up.f k a0 a1) (spec_l01Up.f (k + 1) a0 a1) := by
 intro a0 a1 k
 unfold spec_l01Up.f
 repeat' first
   | (with_reducible exact spec_l01UpMag.mono _ _ _)
   | (with_reducible exact LeO.refl _)
   | (with_reducible exact LeO.none _)
   | (with_reducible refine LeO.ite ?_ ?_)
   | (with_reducible refine LeO.bind ?_ (fun _ => ?_))
   | exact spec_l01UpMag.mono _ _ _
   | exact LeO.none _
   | refine LeO.ite ?_ ?_
   | refine LeO.bind ?_ (fun _ => ?_)
set_option maxHeartbeats 8000000 in
set_option maxRecDepth 100000 in
theorem spec_l01Up.calls (k : Nat) (a0 : S24) (a1 : Int) (r1 : S24) (r2 : Int) (w : World) (h : spec_l01Up.f k a0 a1 = some (r1, r2)) :
  Calls Try.prog 97 #[.agg #[.bool a0.f0, .int .u32 a0.f1.f0, .int .u32 a0.f1.f1, .int .u32 a0.f1.f2, .int .u32 a0.f1.f3, .int .u32 a0.f1.f4, .int .u32 a0.f1.f5], .int .i64 a1] w fun e w' => e = .returned (.tuple #[.agg #[.bool r1.f0, .int .u32 r1.f1.f0, .int .u32 r1.f1.f1, .int .u32 r1.f1.f2, .int .u32 r1.f1.f3, .int .u32 r1.f1.f4, .int .u32 r1.f1.f5], .int .i64 r2]) ∧ Below w.heap.size w w' := by
 have hu25 := Try.underlying25
 have hu23 := Try.underlying23
 have hu126 := Try.underlying126
 have HB := aM97_ (Below.refl w.heap.size w)
 have H : ((spec_l01UpMag.f k a0.f1 a1).bind fun bt176 => (if bt176.2 = true then ((spec_l01Made.f a0.f0 bt176.1).bind fun t179 => (some (t179, 0))) else (some ((⟨false, (⟨0, 0, 0, 0, 0, 0⟩ : S23)⟩ : S24), 3)))) = some (r1, r2) := h
 clear h
 replace H := Option.bind_eq_some_iff.mp H
 obtain ⟨⟨t176, t177⟩, A30, H⟩ := H
 replace H : (if t177 = true then ((spec_l01Made.f a0.f0 t176).bind fun t179 => (some (t179, 0))) else (some ((⟨false, (⟨0, 0, 0, 0, 0, 0⟩ : S23)⟩ : S24), 3))) = some (r1, r2) := H
 have A3 := aM97_ A30
 clear A30
 by_cases c4 : t177 = true
 rotate_left
 ·replace c4 := Bool.eq_false_iff.mpr c4
  subst c4
  have H1 : (some ((⟨false, (⟨0, 0, 0, 0, 0, 0⟩ : S23)⟩ : S24), 3)) = some (r1, r2) := by rw [if_neg (show ¬ (false = true) by decide)] at H; exact H
  clear H
  have H := H1
  clear H1
  simp only [Option.some.injEq, Prod.mk.injEq] at H
  obtain ⟨rfl, rfl⟩ := H
  go_enter Try.func97, Try.ntmps97
  go_wp2_with (first | ((with_reducible refine gate_dst (N := 2) rfl ?_); refine box_event ?hg (N := 2) ?hd (cs := #[.bool a0.f0, .int .u32 a0.f1.f0, .int .u32 a0.f1.f1, .int .u32 a0.f1.f2, .int .u32 a0.f1.f3, .int .u32 a0.f1.f4, .int .u32 a0.f1.f5]) (t := 25) ?hr ?_; (case hd => rfl); (case hg => rfl); (case hr => first | (go_simp; done) | (go_simp; rfl)); intro gb173 hg w27 hbox hb; have n0_ := aM97_ (below_step q97x10_ hb); have n1_ := aM97_ (hbox); have n2_ := aM97_ ((by rw [hg]; exact (below_size q97x10_) : w.heap.size ≤ gb173)); have n3_ := aM97_ ((by rw [hg]; exact (below_size q97x10_) : w.heap.size ≤ gb173)); clear HB; have HB := n0_; have BK173 := n1_; have GW173 := n2_; have GE173 := n3_; clear n0_ n1_ n2_ n3_; clear hb hbox hg) | ((with_reducible refine gate_dst (N := 4) rfl ?_); refine box_event ?hg (N := 4) ?hd (cs := #[.bool false, .int .u32 0, .int .u32 0, .int .u32 0, .int .u32 0, .int .u32 0, .int .u32 0]) (t := 25) ?hr ?_; (case hd => rfl); (case hg => rfl); (case hr => first | (go_simp; done) | (go_simp; rfl)); intro gb174 hg w28 hbox hb; have n0_ := aM97_ (blk_below (g := gb173) (o := .cells #[.bool a0.f0, .int .u32 a0.f1.f0, .int .u32 a0.f1.f1, .int .u32 a0.f1.f2, .int .u32 a0.f1.f3, .int .u32 a0.f1.f4, .int .u32 a0.f1.f5] 25 (0, 0)) q97x1_ hb); have n1_ := aM97_ (below_step q97x9_ hb); have n2_ := aM97_ (hbox); have n3_ := aM97_ ((by rw [hg]; exact (below_size q97x9_) : w.heap.size ≤ gb174)); have n4_ := aM97_ ((by rw [hg]; exact (below_size q97x9_) : w.heap.size ≤ gb174)); have n5_ := aM97_ ((q97x5_ : gb173 ≠ gb174)); have n6_ := aM97_ ((q97x6_ : gb174 ≠ gb173)); clear BK173 HB; have BK173 := n0_; have HB := n1_; have BK174 := n2_; have GW174 := n3_; have GE174 := n4_; have NB173_174 := n5_; have NB174_173 := n6_; clear n0_ n1_ n2_ n3_ n4_ n5_ n6_; clear hb hbox hg; have hnb29 := NB173_174.out; have hnc29 := NB174_173.out; obtain ⟨hcz30_0, hcz30_1, hcz30_2, hcz30_3, hcz30_4, hcz30_5, hcz30_6⟩ := cells7_ (show w28.heap[gb173]? = some (.cells #[.bool a0.f0, .int .u32 a0.f1.f0, .int .u32 a0.f1.f1, .int .u32 a0.f1.f2, .int .u32 a0.f1.f3, .int .u32 a0.f1.f4, .int .u32 a0.f1.f5] 25 (0, 0)) from BK173.out); obtain ⟨hfz30_0, hfz30_1, hfz30_2, hfz30_3, hfz30_4, hfz30_5, hfz30_6⟩ := frozen7_ BK173.out) | ((with_reducible refine gate_dst (N := 6) rfl ?_); refine box_event ?hg (N := 6) ?hd (cs := #[.int .u32 0, .int .u32 0, .int .u32 0, .int .u32 0, .int .u32 0, .int .u32 0]) (t := 126) ?hr ?_; (case hd => rfl); (case hg => rfl); (case hr => first | (go_simp; done) | (go_simp; rfl)); intro gb175 hg w31 hbox hb; have n0_ := aM97_ (blk_below (g := gb173) (o := .cells #[.bool a0.f0, .int .u32 a0.f1.f0, .int .u32 a0.f1.f1, .int .u32 a0.f1.f2, .int .u32 a0.f1.f3, .int .u32 a0.f1.f4, .int .u32 a0.f1.f5] 25 (0, 0)) q97x1_ hb); have n1_ := aM97_ (blk_below (g := gb174) (o := .cells #[.bool false, .int .u32 0, .int .u32 0, .int .u32 0, .int .u32 0, .int .u32 0, .int .u32 0] 25 (0, 0)) q97x4_ hb); have n2_ := aM97_ (below_step q97x8_ hb); have n3_ := aM97_ (hbox); have n4_ := aM97_ ((by rw [hg]; exact (below_size q97x8_) : w.heap.size ≤ gb175)); have n5_ := aM97_ ((by rw [hg]; exact (below_size q97x8_) : w.heap.size ≤ gb175)); have n6_ := aM97_ ((q97x5_ : gb173 ≠ gb175)); have n7_ := aM97_ ((q97x6_ : gb175 ≠ gb173)); have n8_ := aM97_ ((q97x11_ : gb174 ≠ gb175)); have n9_ := aM97_ ((q97x12_ : gb175 ≠ gb174)); clear BK173 BK174 HB; have BK173 := n0_; have BK174 := n1_; have HB := n2_; have BK175 := n3_; have GW175 := n4_; have GE175 := n5_; have NB173_175 := n6_; have NB175_173 := n7_; have NB174_175 := n8_; have NB175_174 := n9_; clear n0_ n1_ n2_ n3_ n4_ n5_ n6_ n7_ n8_ n9_; clear hb hbox hg; have hnb32 := NB175_173.out; have hnc32 := NB173_175.out; have hnb33 := NB175_174.out; have hnc33 := NB174_175.out; obtain ⟨hcz34_0, hcz34_1, hcz34_2, hcz34_3, hcz34_4, hcz34_5⟩ := cells6_ (show w31.heap[gb175]? = some (.cells #[.int .u32 0, .int .u32 0, .int .u32 0, .int .u32 0, .int .u32 0, .int .u32 0] 126 (0, 0)) from BK175.out); obtain ⟨hfz34_0, hfz34_1, hfz34_2, hfz34_3, hfz34_4, hfz34_5⟩ := frozen6_ BK175.out) | ((with_reducible refine gate_store (t := 126) (p := 6) rfl ?_); refine store_event (t := 126) (p := 6) (v := ?vo_w35) (w1 := (World.setCell (World.setCell (World.setCell (World.setCell (World.setCell (World.setCell w31 ⟨gb175, 0, none⟩ (.int .u32 a0.f1.f0)) ⟨gb175, 1, none⟩ (.int .u32 a0.f1.f1)) ⟨gb175, 2, none⟩ (.int .u32 a0.f1.f2)) ⟨gb175, 3, none⟩ (.int .u32 a0.f1.f3)) ⟨gb175, 4, none⟩ (.int .u32 a0.f1.f4)) ⟨gb175, 5, none⟩ (.int .u32 a0.f1.f5))) ?hg ?ho ?hn ?hr ?_; (case ho => rfl); (case hg => rfl); (case hn => rfl); (case hr => first | ((try simp only [Act.put, List.setIfInBounds_toArray, List.set_cons_zero, List.set_cons_succ]); exact run_put6_ rfl (show _ = Value.pointer (some ⟨gb175, 0, none⟩) from by rfl) (show _ = Value.agg #[.int .u32 a0.f1.f0, .int .u32 a0.f1.f1, .int .u32 a0.f1.f2, .int .u32 a0.f1.f3, .int .u32 a0.f1.f4, .int .u32 a0.f1.f5] from by rfl) BK175.out (by kernel_rfl) (by rfl)) | (go_simp; done) | (go_simp; rfl)); intro w35 hw; have n0_ : Aside0 (w35.heap[gb173]? = some (.cells #[.bool a0.f0, .int .u32 a0.f1.f0, .int .u32 a0.f1.f1, .int .u32 a0.f1.f2, .int .u32 a0.f1.f3, .int .u32 a0.f1.f4, .int .u32 a0.f1.f5] 25 (0, 0))) := ⟨q97x17_⟩; have n1_ : Aside0 (w35.heap[gb174]? = some (.cells #[.bool false, .int .u32 0, .int .u32 0, .int .u32 0, .int .u32 0, .int .u32 0, .int .u32 0] 25 (0, 0))) := ⟨q97x18_⟩; have n2_ : Aside0 (w35.heap[gb175]? = some (.cells #[.int .u32 a0.f1.f0, .int .u32 a0.f1.f1, .int .u32 a0.f1.f2, .int .u32 a0.f1.f3, .int .u32 a0.f1.f4, .int .u32 a0.f1.f5] 126 (0, 0))) := ⟨q97x15_⟩; have n3_ : Aside0 (Below w.heap.size w w35) := ⟨(by rw [hw]; exact q97x3_)⟩; clear hw; clear BK173; clear BK174; clear BK175; clear HB; have BK173 := n0_; have BK174 := n1_; have BK175 := n2_; have HB := n3_; clear n0_ n1_ n2_ n3_) | ((with_reducible refine gate_callee (f := 122) rfl ?_); refine goesL_ (some 13) rfl rfl Try.func122 (by kernel_rfl) rfl #[.pointer (some ⟨gb175, 0, none⟩), .int .i64 a1] rfl q97x13_ ?_; (with_reducible refine (spec_l01UpMag.calls k gb175 0 a0.f1 a1 t176 false _ ?side1 A3.out).mono ?_); (case side1 => exact ⟨(blk_cell (g := gb175) (t := 126) (cs := #[.int .u32 a0.f1.f0, .int .u32 a0.f1.f1, .int .u32 a0.f1.f2, .int .u32 a0.f1.f3, .int .u32 a0.f1.f4, .int .u32 a0.f1.f5]) q97x2_ 0).trans rfl, (blk_cell (g := gb175) (t := 126) (cs := #[.int .u32 a0.f1.f0, .int .u32 a0.f1.f1, .int .u32 a0.f1.f2, .int .u32 a0.f1.f3, .int .u32 a0.f1.f4, .int .u32 a0.f1.f5]) q97x2_ 1).trans rfl, (blk_cell (g := gb175) (t := 126) (cs := #[.int .u32 a0.f1.f0, .int .u32 a0.f1.f1, .int .u32 a0.f1.f2, .int .u32 a0.f1.f3, .int .u32 a0.f1.f4, .int .u32 a0.f1.f5]) q97x2_ 2).trans rfl, (blk_cell (g := gb175) (t := 126) (cs := #[.int .u32 a0.f1.f0, .int .u32 a0.f1.f1, .int .u32 a0.f1.f2, .int .u32 a0.f1.f3, .int .u32 a0.f1.f4, .int .u32 a0.f1.f5]) q97x2_ 3).trans rfl, (blk_cell (g := gb175) (t := 126) (cs := #[.int .u32 a0.f1.f0, .int .u32 a0.f1.f1, .int .u32 a0.f1.f2, .int .u32 a0.f1.f3, .int .u32 a0.f1.f4, .int .u32 a0.f1.f5]) q97x2_ 4).trans rfl, (blk_cell (g := gb175) (t := 126) (cs := #[.int .u32 a0.f1.f0, .int .u32 a0.f1.f1, .int .u32 a0.f1.f2, .int .u32 a0.f1.f3, .int .u32 a0.f1.f4, .int .u32 a0.f1.f5]) q97x2_ 5).trans rfl⟩); rintro e w36 ⟨rfl, hb⟩; refine ⟨_, rfl, ?_⟩; have n0_ := aM97_ (blk_below (g := gb173) (o := .cells #[.bool a0.f0, .int .u32 a0.f1.f0, .int .u32 a0.f1.f1, .int .u32 a0.f1.f2, .int .u32 a0.f1.f3, .int .u32 a0.f1.f4, .int .u32 a0.f1.f5] 25 (0, 0)) q97x1_ hb); have n1_ := aM97_ (blk_below (g := gb174) (o := .cells #[.bool false, .int .u32 0, .int .u32 0, .int .u32 0, .int .u32 0, .int .u32 0, .int .u32 0] 25 (0, 0)) q97x4_ hb); have n2_ := aM97_ (blk_below (g := gb175) (o := .cells #[.int .u32 a0.f1.f0, .int .u32 a0.f1.f1, .int .u32 a0.f1.f2, .int .u32 a0.f1.f3, .int .u32 a0.f1.f4, .int .u32 a0.f1.f5] 126 (0, 0)) q97x2_ hb); have n3_ := aM97_ (below_step q97x3_ hb); clear BK173 BK174 BK175 HB; have BK173 := n0_; have BK174 := n1_; have BK175 := n2_; have HB := n3_; clear n0_ n1_ n2_ n3_; (try clear hb); (try clear hb2); (try clear hk); (try clear hi)) | ((with_reducible refine gate_dst (N := 7) rfl ?_); refine box_event ?hg (N := 7) ?hd (cs := #[.int .u32 0, .int .u32 0, .int .u32 0, .int .u32 0, .int .u32 0, .int .u32 0]) (t := 126) ?hr ?_; (case hd => rfl); (case hg => rfl); (case hr => first | (go_simp; done) | (go_simp; rfl)); intro gb178 hg w37 hbox hb; have n0_ := aM97_ (blk_below (g := gb173) (o := .cells #[.bool a0.f0, .int .u32 a0.f1.f0, .int .u32 a0.f1.f1, .int .u32 a0.f1.f2, .int .u32 a0.f1.f3, .int .u32 a0.f1.f4, .int .u32 a0.f1.f5] 25 (0, 0)) q97x1_ hb); have n1_ := aM97_ (blk_below (g := gb174) (o := .cells #[.bool false, .int .u32 0, .int .u32 0, .int .u32 0, .int .u32 0, .int .u32 0, .int .u32 0] 25 (0, 0)) q97x4_ hb); have n2_ := aM97_ (blk_below (g := gb175) (o := .cells #[.int .u32 a0.f1.f0, .int .u32 a0.f1.f1, .int .u32 a0.f1.f2, .int .u32 a0.f1.f3, .int .u32 a0.f1.f4, .int .u32 a0.f1.f5] 126 (0, 0)) q97x2_ hb); have n3_ := aM97_ (below_step q97x3_ hb); have n4_ := aM97_ (hbox); have n5_ := aM97_ ((by rw [hg]; exact (below_size q97x3_) : w.heap.size ≤ gb178)); have n6_ := aM97_ ((by rw [hg]; exact (below_size q97x3_) : w.heap.size ≤ gb178)); have n7_ := aM97_ ((q97x5_ : gb173 ≠ gb178)); have n8_ := aM97_ ((q97x6_ : gb178 ≠ gb173)); have n9_ := aM97_ ((q97x11_ : gb174 ≠ gb178)); have n10_ := aM97_ ((q97x12_ : gb178 ≠ gb174)); have n11_ := aM97_ ((q97x25_ : gb175 ≠ gb178)); have n12_ := aM97_ ((q97x26_ : gb178 ≠ gb175)); clear BK173 BK174 BK175 HB; have BK173 := n0_; have BK174 := n1_; have BK175 := n2_; have HB := n3_; have BK178 := n4_; have GW178 := n5_; have GE178 := n6_; have NB173_178 := n7_; have NB178_173 := n8_; have NB174_178 := n9_; have NB178_174 := n10_; have NB175_178 := n11_; have NB178_175 := n12_; clear n0_ n1_ n2_ n3_ n4_ n5_ n6_ n7_ n8_ n9_ n10_ n11_ n12_; clear hb hbox hg; have hnb38 := NB178_173.out; have hnc38 := NB173_178.out; have hnb39 := NB178_174.out; have hnc39 := NB174_178.out; have hnb40 := NB178_175.out; have hnc40 := NB175_178.out; obtain ⟨hcz41_0, hcz41_1, hcz41_2, hcz41_3, hcz41_4, hcz41_5⟩ := cells6_ (show w37.heap[gb178]? = some (.cells #[.int .u32 0, .int .u32 0, .int .u32 0, .int .u32 0, .int .u32 0, .int .u32 0] 126 (0, 0)) from BK178.out); obtain ⟨hfz41_0, hfz41_1, hfz41_2, hfz41_3, hfz41_4, hfz41_5⟩ := frozen6_ BK178.out) | ((with_reducible refine gate_store (t := 126) (p := 7) rfl ?_); refine store_event (t := 126) (p := 7) (v := ?vo_w42) (w1 := (World.setCell (World.setCell (World.setCell (World.setCell (World.setCell (World.setCell w37 ⟨gb178, 0, none⟩ (.int .u32 t176.f0)) ⟨gb178, 1, none⟩ (.int .u32 t176.f1)) ⟨gb178, 2, none⟩ (.int .u32 t176.f2)) ⟨gb178, 3, none⟩ (.int .u32 t176.f3)) ⟨gb178, 4, none⟩ (.int .u32 t176.f4)) ⟨gb178, 5, none⟩ (.int .u32 t176.f5))) ?hg ?ho ?hn ?hr ?_; (case ho => rfl); (case hg => rfl); (case hn => rfl); (case hr => first | ((try simp only [Act.put, List.setIfInBounds_toArray, List.set_cons_zero, List.set_cons_succ]); exact run_put6_ rfl (show _ = Value.pointer (some ⟨gb178, 0, none⟩) from by rfl) (show _ = Value.agg #[.int .u32 t176.f0, .int .u32 t176.f1, .int .u32 t176.f2, .int .u32 t176.f3, .int .u32 t176.f4, .int .u32 t176.f5] from by rfl) BK178.out (by kernel_rfl) (by rfl)) | (go_simp; done) | (go_simp; rfl)); intro w42 hw; have n0_ : Aside0 (w42.heap[gb173]? = some (.cells #[.bool a0.f0, .int .u32 a0.f1.f0, .int .u32 a0.f1.f1, .int .u32 a0.f1.f2, .int .u32 a0.f1.f3, .int .u32 a0.f1.f4, .int .u32 a0.f1.f5] 25 (0, 0))) := ⟨q97x19_⟩; have n1_ : Aside0 (w42.heap[gb174]? = some (.cells #[.bool false, .int .u32 0, .int .u32 0, .int .u32 0, .int .u32 0, .int .u32 0, .int .u32 0] 25 (0, 0))) := ⟨q97x20_⟩; have n2_ : Aside0 (w42.heap[gb175]? = some (.cells #[.int .u32 a0.f1.f0, .int .u32 a0.f1.f1, .int .u32 a0.f1.f2, .int .u32 a0.f1.f3, .int .u32 a0.f1.f4, .int .u32 a0.f1.f5] 126 (0, 0))) := ⟨q97x21_⟩; have n3_ : Aside0 (w42.heap[gb178]? = some (.cells #[.int .u32 t176.f0, .int .u32 t176.f1, .int .u32 t176.f2, .int .u32 t176.f3, .int .u32 t176.f4, .int .u32 t176.f5] 126 (0, 0))) := ⟨q97x16_⟩; have n4_ : Aside0 (Below w.heap.size w w42) := ⟨(by rw [hw]; exact q97x7_)⟩; clear hw; clear BK173; clear BK174; clear BK175; clear BK178; clear HB; have BK173 := n0_; have BK174 := n1_; have BK175 := n2_; have BK178 := n3_; have HB := n4_; clear n0_ n1_ n2_ n3_ n4_; obtain ⟨hcz43_0, hcz43_1, hcz43_2, hcz43_3, hcz43_4, hcz43_5, hcz43_6⟩ := cells7_ (show w42.heap[gb174]? = some (.cells #[.bool false, .int .u32 0, .int .u32 0, .int .u32 0, .int .u32 0, .int .u32 0, .int .u32 0] 25 (0, 0)) from BK174.out); obtain ⟨hfz43_0, hfz43_1, hfz43_2, hfz43_3, hfz43_4, hfz43_5, hfz43_6⟩ := frozen7_ BK174.out) | ((with_reducible refine gate_store (t := 25) (p := 4) rfl ?_); refine store_event (t := 25) (p := 4) (v := ?vo_w44) (w1 := (World.setCell (World.setCell (World.setCell (World.setCell (World.setCell (World.setCell (World.setCell w42 ⟨gb174, 0, none⟩ (.bool false)) ⟨gb174, 1, none⟩ (.int .u32 0)) ⟨gb174, 2, none⟩ (.int .u32 0)) ⟨gb174, 3, none⟩ (.int .u32 0)) ⟨gb174, 4, none⟩ (.int .u32 0)) ⟨gb174, 5, none⟩ (.int .u32 0)) ⟨gb174, 6, none⟩ (.int .u32 0))) ?hg ?ho ?hn ?hr ?_; (case ho => rfl); (case hg => rfl); (case hn => rfl); (case hr => first | ((try simp only [Act.put, List.setIfInBounds_toArray, List.set_cons_zero, List.set_cons_succ]); exact run_put7_ rfl (show _ = Value.pointer (some ⟨gb174, 0, none⟩) from by rfl) (show _ = Value.agg #[.bool false, .int .u32 0, .int .u32 0, .int .u32 0, .int .u32 0, .int .u32 0, .int .u32 0] from by rfl) BK174.out (by kernel_rfl) (by rfl)) | (go_simp; done) | (go_simp; rfl)); intro w44 hw; have n0_ : Aside0 (w44.heap[gb173]? = some (.cells #[.bool a0.f0, .int .u32 a0.f1.f0, .int .u32 a0.f1.f1, .int .u32 a0.f1.f2, .int .u32 a0.f1.f3, .int .u32 a0.f1.f4, .int .u32 a0.f1.f5] 25 (0, 0))) := ⟨q97x22_⟩; have n1_ : Aside0 (w44.heap[gb174]? = some (.cells #[.bool false, .int .u32 0, .int .u32 0, .int .u32 0, .int .u32 0, .int .u32 0, .int .u32 0] 25 (0, 0))) := ⟨q97x14_⟩; have n2_ : Aside0 (w44.heap[gb175]? = some (.cells #[.int .u32 a0.f1.f0, .int .u32 a0.f1.f1, .int .u32 a0.f1.f2, .int .u32 a0.f1.f3, .int .u32 a0.f1.f4, .int .u32 a0.f1.f5] 126 (0, 0))) := ⟨q97x23_⟩; have n3_ : Aside0 (w44.heap[gb178]? = some (.cells #[.int .u32 t176.f0, .int .u32 t176.f1, .int .u32 t176.f2, .int .u32 t176.f3, .int .u32 t176.f4, .int .u32 t176.f5] 126 (0, 0))) := ⟨q97x24_⟩; have n4_ : Aside0 (Below w.heap.size w w44) := ⟨(by rw [hw]; exact q97x7_)⟩; clear hw; clear BK173; clear BK174; clear BK175; clear BK178; clear HB; have BK173 := n0_; have BK174 := n1_; have BK175 := n2_; have BK178 := n3_; have HB := n4_; clear n0_ n1_ n2_ n3_ n4_))
  refine bodyPost_ret (results_ct rfl _ _ gb174 25 #[.bool false, .int .u32 0, .int .u32 0, .int .u32 0, .int .u32 0, .int .u32 0, .int .u32 0] (0, 0) _ rfl q97x4_ Try.underlying25 rfl (by kernel_rfl)) rfl ?_
  exact ⟨by first | rfl | (simp [errW_none, errW_some] <;> rfl) | (simp [*, errW_none, errW_some] <;> rfl), by repeat (first | (with_reducible first | exact HB.out | apply below_alloc | apply pw_below_drewN | apply below_drew1 | refine below_set ?_ GE173.out | refine below_set ?_ GE174.out | refine below_set ?_ GE175.out | refine below_set ?_ GE178.out) | exact HB.out)⟩

 subst c4
 have H1 : ((spec_l01Made.f a0.f0 t176).bind fun t179 => (some (t179, 0))) = some (r1, r2) := by rw [if_pos rfl] at H; exact H
 clear H
 have H := H1
 clear H1
 replace H := Option.bind_eq_some_iff.mp H
 obtain ⟨t179, A50, H⟩ := H
 replace H : (some (t179, 0)) = some (r1, r2) := H
 have A5 := aM97_ A50
 clear A50
 simp only [Option.some.injEq, Prod.mk.injEq] at H
 obtain ⟨rfl, rfl⟩ := H
 go_enter Try.func97, Try.ntmps97
 go_wp2_with (first | ((with_reducible refine gate_dst (N := 2) rfl ?_); refine box_event ?hg (N := 2) ?hd (cs := #[.bool a0.f0, .int .u32 a0.f1.f0, .int .u32 a0.f1.f1, .int .u32 a0.f1.f2, .int .u32 a0.f1.f3, .int .u32 a0.f1.f4, .int .u32 a0.f1.f5]) (t := 25) ?hr ?_; (case hd => rfl); (case hg => rfl); (case hr => first | (go_simp; done) | (go_simp; rfl)); intro gb173 hg w6 hbox hb; have n0_ := aM97_ (below_step q97x10_ hb); have n1_ := aM97_ (hbox); have n2_ := aM97_ ((by rw [hg]; exact (below_size q97x10_) : w.heap.size ≤ gb173)); have n3_ := aM97_ ((by rw [hg]; exact (below_size q97x10_) : w.heap.size ≤ gb173)); clear HB; have HB := n0_; have BK173 := n1_; have GW173 := n2_; have GE173 := n3_; clear n0_ n1_ n2_ n3_; clear hb hbox hg) | ((with_reducible refine gate_dst (N := 4) rfl ?_); refine box_event ?hg (N := 4) ?hd (cs := #[.bool false, .int .u32 0, .int .u32 0, .int .u32 0, .int .u32 0, .int .u32 0, .int .u32 0]) (t := 25) ?hr ?_; (case hd => rfl); (case hg => rfl); (case hr => first | (go_simp; done) | (go_simp; rfl)); intro gb174 hg w7 hbox hb; have n0_ := aM97_ (blk_below (g := gb173) (o := .cells #[.bool a0.f0, .int .u32 a0.f1.f0, .int .u32 a0.f1.f1, .int .u32 a0.f1.f2, .int .u32 a0.f1.f3, .int .u32 a0.f1.f4, .int .u32 a0.f1.f5] 25 (0, 0)) q97x1_ hb); have n1_ := aM97_ (below_step q97x9_ hb); have n2_ := aM97_ (hbox); have n3_ := aM97_ ((by rw [hg]; exact (below_size q97x9_) : w.heap.size ≤ gb174)); have n4_ := aM97_ ((by rw [hg]; exact (below_size q97x9_) : w.heap.size ≤ gb174)); have n5_ := aM97_ ((q97x5_ : gb173 ≠ gb174)); have n6_ := aM97_ ((q97x6_ : gb174 ≠ gb173)); clear BK173 HB; have BK173 := n0_; have HB := n1_; have BK174 := n2_; have GW174 := n3_; have GE174 := n4_; have NB173_174 := n5_; have NB174_173 := n6_; clear n0_ n1_ n2_ n3_ n4_ n5_ n6_; clear hb hbox hg; have hnb8 := NB173_174.out; have hnc8 := NB174_173.out; obtain ⟨hcz9_0, hcz9_1, hcz9_2, hcz9_3, hcz9_4, hcz9_5, hcz9_6⟩ := cells7_ (show w7.heap[gb173]? = some (.cells #[.bool a0.f0, .int .u32 a0.f1.f0, .int .u32 a0.f1.f1, .int .u32 a0.f1.f2, .int .u32 a0.f1.f3, .int .u32 a0.f1.f4, .int .u32 a0.f1.f5] 25 (0, 0)) from BK173.out); obtain ⟨hfz9_0, hfz9_1, hfz9_2, hfz9_3, hfz9_4, hfz9_5, hfz9_6⟩ := frozen7_ BK173.out) | ((with_reducible refine gate_dst (N := 6) rfl ?_); refine box_event ?hg (N := 6) ?hd (cs := #[.int .u32 0, .int .u32 0, .int .u32 0, .int .u32 0, .int .u32 0, .int .u32 0]) (t := 126) ?hr ?_; (case hd => rfl); (case hg => rfl); (case hr => first | (go_simp; done) | (go_simp; rfl)); intro gb175 hg w10 hbox hb; have n0_ := aM97_ (blk_below (g := gb173) (o := .cells #[.bool a0.f0, .int .u32 a0.f1.f0, .int .u32 a0.f1.f1, .int .u32 a0.f1.f2, .int .u32 a0.f1.f3, .int .u32 a0.f1.f4, .int .u32 a0.f1.f5] 25 (0, 0)) q97x1_ hb); have n1_ := aM97_ (blk_below (g := gb174) (o := .cells #[.bool false, .int .u32 0, .int .u32 0, .int .u32 0, .int .u32 0, .int .u32 0, .int .u32 0] 25 (0, 0)) q97x4_ hb); have n2_ := aM97_ (below_step q97x8_ hb); have n3_ := aM97_ (hbox); have n4_ := aM97_ ((by rw [hg]; exact (below_size q97x8_) : w.heap.size ≤ gb175)); have n5_ := aM97_ ((by rw [hg]; exact (below_size q97x8_) : w.heap.size ≤ gb175)); have n6_ := aM97_ ((q97x5_ : gb173 ≠ gb175)); have n7_ := aM97_ ((q97x6_ : gb175 ≠ gb173)); have n8_ := aM97_ ((q97x11_ : gb174 ≠ gb175)); have n9_ := aM97_ ((q97x12_ : gb175 ≠ gb174)); clear BK173 BK174 HB; have BK173 := n0_; have BK174 := n1_; have HB := n2_; have BK175 := n3_; have GW175 := n4_; have GE175 := n5_; have NB173_175 := n6_; have NB175_173 := n7_; have NB174_175 := n8_; have NB175_174 := n9_; clear n0_ n1_ n2_ n3_ n4_ n5_ n6_ n7_ n8_ n9_; clear hb hbox hg; have hnb11 := NB175_173.out; have hnc11 := NB173_175.out; have hnb12 := NB175_174.out; have hnc12 := NB174_175.out; obtain ⟨hcz13_0, hcz13_1, hcz13_2, hcz13_3, hcz13_4, hcz13_5⟩ := cells6_ (show w10.heap[gb175]? = some (.cells #[.int .u32 0, .int .u32 0, .int .u32 0, .int .u32 0, .int .u32 0, .int .u32 0] 126 (0, 0)) from BK175.out); obtain ⟨hfz13_0, hfz13_1, hfz13_2, hfz13_3, hfz13_4, hfz13_5⟩ := frozen6_ BK175.out) | ((with_reducible refine gate_store (t := 126) (p := 6) rfl ?_); refine store_event (t := 126) (p := 6) (v := ?vo_w14) (w1 := (World.setCell (World.setCell (World.setCell (World.setCell (World.setCell (World.setCell w10 ⟨gb175, 0, none⟩ (.int .u32 a0.f1.f0)) ⟨gb175, 1, none⟩ (.int .u32 a0.f1.f1)) ⟨gb175, 2, none⟩ (.int .u32 a0.f1.f2)) ⟨gb175, 3, none⟩ (.int .u32 a0.f1.f3)) ⟨gb175, 4, none⟩ (.int .u32 a0.f1.f4)) ⟨gb175, 5, none⟩ (.int .u32 a0.f1.f5))) ?hg ?ho ?hn ?hr ?_; (case ho => rfl); (case hg => rfl); (case hn => rfl); (case hr => first | ((try simp only [Act.put, List.setIfInBounds_toArray, List.set_cons_zero, List.set_cons_succ]); exact run_put6_ rfl (show _ = Value.pointer (some ⟨gb175, 0, none⟩) from by rfl) (show _ = Value.agg #[.int .u32 a0.f1.f0, .int .u32 a0.f1.f1, .int .u32 a0.f1.f2, .int .u32 a0.f1.f3, .int .u32 a0.f1.f4, .int .u32 a0.f1.f5] from by rfl) BK175.out (by kernel_rfl) (by rfl)) | (go_simp; done) | (go_simp; rfl)); intro w14 hw; have n0_ : Aside0 (w14.heap[gb173]? = some (.cells #[.bool a0.f0, .int .u32 a0.f1.f0, .int .u32 a0.f1.f1, .int .u32 a0.f1.f2, .int .u32 a0.f1.f3, .int .u32 a0.f1.f4, .int .u32 a0.f1.f5] 25 (0, 0))) := ⟨q97x17_⟩; have n1_ : Aside0 (w14.heap[gb174]? = some (.cells #[.bool false, .int .u32 0, .int .u32 0, .int .u32 0, .int .u32 0, .int .u32 0, .int .u32 0] 25 (0, 0))) := ⟨q97x18_⟩; have n2_ : Aside0 (w14.heap[gb175]? = some (.cells #[.int .u32 a0.f1.f0, .int .u32 a0.f1.f1, .int .u32 a0.f1.f2, .int .u32 a0.f1.f3, .int .u32 a0.f1.f4, .int .u32 a0.f1.f5] 126 (0, 0))) := ⟨q97x15_⟩; have n3_ : Aside0 (Below w.heap.size w w14) := ⟨(by rw [hw]; exact q97x3_)⟩; clear hw; clear BK173; clear BK174; clear BK175; clear HB; have BK173 := n0_; have BK174 := n1_; have BK175 := n2_; have HB := n3_; clear n0_ n1_ n2_ n3_) | ((with_reducible refine gate_callee (f := 122) rfl ?_); refine goesL_ (some 13) rfl rfl Try.func122 (by kernel_rfl) rfl #[.pointer (some ⟨gb175, 0, none⟩), .int .i64 a1] rfl q97x13_ ?_; (with_reducible refine (spec_l01UpMag.calls k gb175 0 a0.f1 a1 t176 true _ ?side1 A3.out).mono ?_); (case side1 => exact ⟨(blk_cell (g := gb175) (t := 126) (cs := #[.int .u32 a0.f1.f0, .int .u32 a0.f1.f1, .int .u32 a0.f1.f2, .int .u32 a0.f1.f3, .int .u32 a0.f1.f4, .int .u32 a0.f1.f5]) q97x2_ 0).trans rfl, (blk_cell (g := gb175) (t := 126) (cs := #[.int .u32 a0.f1.f0, .int .u32 a0.f1.f1, .int .u32 a0.f1.f2, .int .u32 a0.f1.f3, .int .u32 a0.f1.f4, .int .u32 a0.f1.f5]) q97x2_ 1).trans rfl, (blk_cell (g := gb175) (t := 126) (cs := #[.int .u32 a0.f1.f0, .int .u32 a0.f1.f1, .int .u32 a0.f1.f2, .int .u32 a0.f1.f3, .int .u32 a0.f1.f4, .int .u32 a0.f1.f5]) q97x2_ 2).trans rfl, (blk_cell (g := gb175) (t := 126) (cs := #[.int .u32 a0.f1.f0, .int .u32 a0.f1.f1, .int .u32 a0.f1.f2, .int .u32 a0.f1.f3, .int .u32 a0.f1.f4, .int .u32 a0.f1.f5]) q97x2_ 3).trans rfl, (blk_cell (g := gb175) (t := 126) (cs := #[.int .u32 a0.f1.f0, .int .u32 a0.f1.f1, .int .u32 a0.f1.f2, .int .u32 a0.f1.f3, .int .u32 a0.f1.f4, .int .u32 a0.f1.f5]) q97x2_ 4).trans rfl, (blk_cell (g := gb175) (t := 126) (cs := #[.int .u32 a0.f1.f0, .int .u32 a0.f1.f1, .int .u32 a0.f1.f2, .int .u32 a0.f1.f3, .int .u32 a0.f1.f4, .int .u32 a0.f1.f5]) q97x2_ 5).trans rfl⟩); rintro e w15 ⟨rfl, hb⟩; refine ⟨_, rfl, ?_⟩; have n0_ := aM97_ (blk_below (g := gb173) (o := .cells #[.bool a0.f0, .int .u32 a0.f1.f0, .int .u32 a0.f1.f1, .int .u32 a0.f1.f2, .int .u32 a0.f1.f3, .int .u32 a0.f1.f4, .int .u32 a0.f1.f5] 25 (0, 0)) q97x1_ hb); have n1_ := aM97_ (blk_below (g := gb174) (o := .cells #[.bool false, .int .u32 0, .int .u32 0, .int .u32 0, .int .u32 0, .int .u32 0, .int .u32 0] 25 (0, 0)) q97x4_ hb); have n2_ := aM97_ (blk_below (g := gb175) (o := .cells #[.int .u32 a0.f1.f0, .int .u32 a0.f1.f1, .int .u32 a0.f1.f2, .int .u32 a0.f1.f3, .int .u32 a0.f1.f4, .int .u32 a0.f1.f5] 126 (0, 0)) q97x2_ hb); have n3_ := aM97_ (below_step q97x3_ hb); clear BK173 BK174 BK175 HB; have BK173 := n0_; have BK174 := n1_; have BK175 := n2_; have HB := n3_; clear n0_ n1_ n2_ n3_; (try clear hb); (try clear hb2); (try clear hk); (try clear hi)) | ((with_reducible refine gate_dst (N := 7) rfl ?_); refine box_event ?hg (N := 7) ?hd (cs := #[.int .u32 0, .int .u32 0, .int .u32 0, .int .u32 0, .int .u32 0, .int .u32 0]) (t := 126) ?hr ?_; (case hd => rfl); (case hg => rfl); (case hr => first | (go_simp; done) | (go_simp; rfl)); intro gb178 hg w16 hbox hb; have n0_ := aM97_ (blk_below (g := gb173) (o := .cells #[.bool a0.f0, .int .u32 a0.f1.f0, .int .u32 a0.f1.f1, .int .u32 a0.f1.f2, .int .u32 a0.f1.f3, .int .u32 a0.f1.f4, .int .u32 a0.f1.f5] 25 (0, 0)) q97x1_ hb); have n1_ := aM97_ (blk_below (g := gb174) (o := .cells #[.bool false, .int .u32 0, .int .u32 0, .int .u32 0, .int .u32 0, .int .u32 0, .int .u32 0] 25 (0, 0)) q97x4_ hb); have n2_ := aM97_ (blk_below (g := gb175) (o := .cells #[.int .u32 a0.f1.f0, .int .u32 a0.f1.f1, .int .u32 a0.f1.f2, .int .u32 a0.f1.f3, .int .u32 a0.f1.f4, .int .u32 a0.f1.f5] 126 (0, 0)) q97x2_ hb); have n3_ := aM97_ (below_step q97x3_ hb); have n4_ := aM97_ (hbox); have n5_ := aM97_ ((by rw [hg]; exact (below_size q97x3_) : w.heap.size ≤ gb178)); have n6_ := aM97_ ((by rw [hg]; exact (below_size q97x3_) : w.heap.size ≤ gb178)); have n7_ := aM97_ ((q97x5_ : gb173 ≠ gb178)); have n8_ := aM97_ ((q97x6_ : gb178 ≠ gb173)); have n9_ := aM97_ ((q97x11_ : gb174 ≠ gb178)); have n10_ := aM97_ ((q97x12_ : gb178 ≠ gb174)); have n11_ := aM97_ ((q97x25_ : gb175 ≠ gb178)); have n12_ := aM97_ ((q97x26_ : gb178 ≠ gb175)); clear BK173 BK174 BK175 HB; have BK173 := n0_; have BK174 := n1_; have BK175 := n2_; have HB := n3_; have BK178 := n4_; have GW178 := n5_; have GE178 := n6_; have NB173_178 := n7_; have NB178_173 := n8_; have NB174_178 := n9_; have NB178_174 := n10_; have NB175_178 := n11_; have NB178_175 := n12_; clear n0_ n1_ n2_ n3_ n4_ n5_ n6_ n7_ n8_ n9_ n10_ n11_ n12_; clear hb hbox hg; have hnb17 := NB178_173.out; have hnc17 := NB173_178.out; have hnb18 := NB178_174.out; have hnc18 := NB174_178.out; have hnb19 := NB178_175.out; have hnc19 := NB175_178.out; obtain ⟨hcz20_0, hcz20_1, hcz20_2, hcz20_3, hcz20_4, hcz20_5⟩ := cells6_ (show w16.heap[gb178]? = some (.cells #[.int .u32 0, .int .u32 0, .int .u32 0, .int .u32 0, .int .u32 0, .int .u32 0] 126 (0, 0)) from BK178.out); obtain ⟨hfz20_0, hfz20_1, hfz20_2, hfz20_3, hfz20_4, hfz20_5⟩ := frozen6_ BK178.out) | ((with_reducible refine gate_store (t := 126) (p := 7) rfl ?_); refine store_event (t := 126) (p := 7) (v := ?vo_w21) (w1 := (World.setCell (World.setCell (World.setCell (World.setCell (World.setCell (World.setCell w16 ⟨gb178, 0, none⟩ (.int .u32 t176.f0)) ⟨gb178, 1, none⟩ (.int .u32 t176.f1)) ⟨gb178, 2, none⟩ (.int .u32 t176.f2)) ⟨gb178, 3, none⟩ (.int .u32 t176.f3)) ⟨gb178, 4, none⟩ (.int .u32 t176.f4)) ⟨gb178, 5, none⟩ (.int .u32 t176.f5))) ?hg ?ho ?hn ?hr ?_; (case ho => rfl); (case hg => rfl); (case hn => rfl); (case hr => first | ((try simp only [Act.put, List.setIfInBounds_toArray, List.set_cons_zero, List.set_cons_succ]); exact run_put6_ rfl (show _ = Value.pointer (some ⟨gb178, 0, none⟩) from by rfl) (show _ = Value.agg #[.int .u32 t176.f0, .int .u32 t176.f1, .int .u32 t176.f2, .int .u32 t176.f3, .int .u32 t176.f4, .int .u32 t176.f5] from by rfl) BK178.out (by kernel_rfl) (by rfl)) | (go_simp; done) | (go_simp; rfl)); intro w21 hw; have n0_ : Aside0 (w21.heap[gb173]? = some (.cells #[.bool a0.f0, .int .u32 a0.f1.f0, .int .u32 a0.f1.f1, .int .u32 a0.f1.f2, .int .u32 a0.f1.f3, .int .u32 a0.f1.f4, .int .u32 a0.f1.f5] 25 (0, 0))) := ⟨q97x19_⟩; have n1_ : Aside0 (w21.heap[gb174]? = some (.cells #[.bool false, .int .u32 0, .int .u32 0, .int .u32 0, .int .u32 0, .int .u32 0, .int .u32 0] 25 (0, 0))) := ⟨q97x20_⟩; have n2_ : Aside0 (w21.heap[gb175]? = some (.cells #[.int .u32 a0.f1.f0, .int .u32 a0.f1.f1, .int .u32 a0.f1.f2, .int .u32 a0.f1.f3, .int .u32 a0.f1.f4, .int .u32 a0.f1.f5] 126 (0, 0))) := ⟨q97x21_⟩; have n3_ : Aside0 (w21.heap[gb178]? = some (.cells #[.int .u32 t176.f0, .int .u32 t176.f1, .int .u32 t176.f2, .int .u32 t176.f3, .int .u32 t176.f4, .int .u32 t176.f5] 126 (0, 0))) := ⟨q97x16_⟩; have n4_ : Aside0 (Below w.heap.size w w21) := ⟨(by rw [hw]; exact q97x7_)⟩; clear hw; clear BK173; clear BK174; clear BK175; clear BK178; clear HB; have BK173 := n0_; have BK174 := n1_; have BK175 := n2_; have BK178 := n3_; have HB := n4_; clear n0_ n1_ n2_ n3_ n4_; obtain ⟨hcz22_0, hcz22_1, hcz22_2, hcz22_3, hcz22_4, hcz22_5, hcz22_6⟩ := cells7_ (show w21.heap[gb173]? = some (.cells #[.bool a0.f0, .int .u32 a0.f1.f0, .int .u32 a0.f1.f1, .int .u32 a0.f1.f2, .int .u32 a0.f1.f3, .int .u32 a0.f1.f4, .int .u32 a0.f1.f5] 25 (0, 0)) from BK173.out); obtain ⟨hfz22_0, hfz22_1, hfz22_2, hfz22_3, hfz22_4, hfz22_5, hfz22_6⟩ := frozen7_ BK173.out; obtain ⟨hcz23_0, hcz23_1, hcz23_2, hcz23_3, hcz23_4, hcz23_5⟩ := cells6_ (show w21.heap[gb178]? = some (.cells #[.int .u32 t176.f0, .int .u32 t176.f1, .int .u32 t176.f2, .int .u32 t176.f3, .int .u32 t176.f4, .int .u32 t176.f5] 126 (0, 0)) from BK178.out); obtain ⟨hfz23_0, hfz23_1, hfz23_2, hfz23_3, hfz23_4, hfz23_5⟩ := frozen6_ BK178.out) | ((with_reducible refine gate_callee (f := 112) rfl ?_); refine goesL_ (some 22) rfl rfl Try.func112 (by kernel_rfl) rfl #[.bool a0.f0, .agg #[.int .u32 t176.f0, .int .u32 t176.f1, .int .u32 t176.f2, .int .u32 t176.f3, .int .u32 t176.f4, .int .u32 t176.f5]] rfl q97x13_ ?_; (with_reducible refine (spec_l01Made.calls a0.f0 t176 t179 _ A5.out).mono ?_); rintro e w24 ⟨rfl, hb⟩; refine ⟨_, rfl, ?_⟩; have n0_ := aM97_ (blk_below (g := gb173) (o := .cells #[.bool a0.f0, .int .u32 a0.f1.f0, .int .u32 a0.f1.f1, .int .u32 a0.f1.f2, .int .u32 a0.f1.f3, .int .u32 a0.f1.f4, .int .u32 a0.f1.f5] 25 (0, 0)) q97x1_ hb); have n1_ := aM97_ (blk_below (g := gb174) (o := .cells #[.bool false, .int .u32 0, .int .u32 0, .int .u32 0, .int .u32 0, .int .u32 0, .int .u32 0] 25 (0, 0)) q97x4_ hb); have n2_ := aM97_ (blk_below (g := gb175) (o := .cells #[.int .u32 a0.f1.f0, .int .u32 a0.f1.f1, .int .u32 a0.f1.f2, .int .u32 a0.f1.f3, .int .u32 a0.f1.f4, .int .u32 a0.f1.f5] 126 (0, 0)) q97x2_ hb); have n3_ := aM97_ (blk_below (g := gb178) (o := .cells #[.int .u32 t176.f0, .int .u32 t176.f1, .int .u32 t176.f2, .int .u32 t176.f3, .int .u32 t176.f4, .int .u32 t176.f5] 126 (0, 0)) (by (with_reducible repeat (first | refine blk_drewN ?_ _ | refine blk_drew ?_ | refine blk_alloc ?_ _)); exact BK178.out) hb); have n4_ := aM97_ (below_step q97x7_ hb); clear BK173 BK174 BK175 BK178 HB; have BK173 := n0_; have BK174 := n1_; have BK175 := n2_; have BK178 := n3_; have HB := n4_; clear n0_ n1_ n2_ n3_ n4_; (try clear hb); (try clear hb2); (try clear hk); (try clear hi); obtain ⟨hcz25_0, hcz25_1, hcz25_2, hcz25_3, hcz25_4, hcz25_5, hcz25_6⟩ := cells7_ (show w24.heap[gb174]? = some (.cells #[.bool false, .int .u32 0, .int .u32 0, .int .u32 0, .int .u32 0, .int .u32 0, .int .u32 0] 25 (0, 0)) from BK174.out); obtain ⟨hfz25_0, hfz25_1, hfz25_2, hfz25_3, hfz25_4, hfz25_5, hfz25_6⟩ := frozen7_ BK174.out) | ((with_reducible refine gate_store (t := 25) (p := 4) rfl ?_); refine store_event (t := 25) (p := 4) (v := ?vo_w26) (w1 := (World.setCell (World.setCell (World.setCell (World.setCell (World.setCell (World.setCell (World.setCell w24 ⟨gb174, 0, none⟩ (.bool t179.f0)) ⟨gb174, 1, none⟩ (.int .u32 t179.f1.f0)) ⟨gb174, 2, none⟩ (.int .u32 t179.f1.f1)) ⟨gb174, 3, none⟩ (.int .u32 t179.f1.f2)) ⟨gb174, 4, none⟩ (.int .u32 t179.f1.f3)) ⟨gb174, 5, none⟩ (.int .u32 t179.f1.f4)) ⟨gb174, 6, none⟩ (.int .u32 t179.f1.f5))) ?hg ?ho ?hn ?hr ?_; (case ho => rfl); (case hg => rfl); (case hn => rfl); (case hr => first | ((try simp only [Act.put, List.setIfInBounds_toArray, List.set_cons_zero, List.set_cons_succ]); exact run_put7_ rfl (show _ = Value.pointer (some ⟨gb174, 0, none⟩) from by rfl) (show _ = Value.agg #[.bool t179.f0, .int .u32 t179.f1.f0, .int .u32 t179.f1.f1, .int .u32 t179.f1.f2, .int .u32 t179.f1.f3, .int .u32 t179.f1.f4, .int .u32 t179.f1.f5] from by rfl) BK174.out (by kernel_rfl) (by rfl)) | (go_simp; done) | (go_simp; rfl)); intro w26 hw; have n0_ : Aside0 (w26.heap[gb173]? = some (.cells #[.bool a0.f0, .int .u32 a0.f1.f0, .int .u32 a0.f1.f1, .int .u32 a0.f1.f2, .int .u32 a0.f1.f3, .int .u32 a0.f1.f4, .int .u32 a0.f1.f5] 25 (0, 0))) := ⟨q97x22_⟩; have n1_ : Aside0 (w26.heap[gb174]? = some (.cells #[.bool t179.f0, .int .u32 t179.f1.f0, .int .u32 t179.f1.f1, .int .u32 t179.f1.f2, .int .u32 t179.f1.f3, .int .u32 t179.f1.f4, .int .u32 t179.f1.f5] 25 (0, 0))) := ⟨q97x14_⟩; have n2_ : Aside0 (w26.heap[gb175]? = some (.cells #[.int .u32 a0.f1.f0, .int .u32 a0.f1.f1, .int .u32 a0.f1.f2, .int .u32 a0.f1.f3, .int .u32 a0.f1.f4, .int .u32 a0.f1.f5] 126 (0, 0))) := ⟨q97x23_⟩; have n3_ : Aside0 (w26.heap[gb178]? = some (.cells #[.int .u32 t176.f0, .int .u32 t176.f1, .int .u32 t176.f2, .int .u32 t176.f3, .int .u32 t176.f4, .int .u32 t176.f5] 126 (0, 0))) := ⟨q97x24_⟩; have n4_ : Aside0 (Below w.heap.size w w26) := ⟨(by rw [hw]; exact q97x7_)⟩; clear hw; clear BK173; clear BK174; clear BK175; clear BK178; clear HB; have BK173 := n0_; have BK174 := n1_; have BK175 := n2_; have BK178 := n3_; have HB := n4_; clear n0_ n1_ n2_ n3_ n4_))
 refine bodyPost_ret (results_ct rfl _ _ gb174 25 #[.bool t179.f0, .int .u32 t179.f1.f0, .int .u32 t179.f1.f1, .int .u32 t179.f1.f2, .int .u32 t179.f1.f3, .int .u32 t179.f1.f4, .int .u32 t179.f1.f5] (0, 0) _ rfl q97x4_ Try.underlying25 rfl (by kernel_rfl)) rfl ?_
 exact ⟨by first | rfl | (simp [errW_none, errW_some] <;> rfl) | (simp [*, errW_none, errW_some] <;> rfl), by repeat (first | (with_reducible first | exact HB.out | apply below_alloc | apply pw_below_drewN | apply below_drew1 | refine below_set ?_ GE173.out | refine below_set ?_ GE174.out | refine below_set ?_ GE175.out | refine below_set ?_ GE178.out) | exact HB.out)⟩
/-! ### spec_l02Up: function 92 -/
def spec_l02Up.f (k : Nat) (a0 : S24) (a1 : Int) : Option (S24 × Int) := if a1 > 191 then (some ((⟨false, (⟨0, 0, 0, 0, 0, 0⟩ : S23)⟩ : S24), 3)) else ((spec_l01Up.f k a0 a1).bind fun bt182 => (some (bt182.1, bt182.2)))
theorem spec_l02Up.mono : ∀ a0 a1 k, LeO (spec_l02Up.f k a0 a1) (spec_l02Up.f (k + 1) a0 a1) := by
  intro a0 a1 k
  unfold spec_l02Up.f
  repeat' first
      | (with_reducible exact spec_l01Up.mono _ _ _)
      | (with_reducible exact LeO.refl _)
      | (with_reducible exact LeO.none _)
      | (with_reducible refine LeO.ite ?_ ?_)
      | (with_reducible refine LeO.bind ?_ (fun _ => ?_))
      | exact spec_l01Up.mono _ _ _
      | exact LeO.none _
      | refine LeO.ite ?_ ?_
      | refine LeO.bind ?_ (fun _ => ?_)
set_option maxHeartbeats 8000000 in
set_option maxRecDepth 100000 in
theorem spec_l02Up.calls (k : Nat) (a0 : S24) (a1 : Int) (r1 : S24) (r2 : Int) (w : World) (h : spec_l02Up.f k a0 a1 = some (r1, r2)) :
    Calls Try.prog 92 #[.agg #[.bool a0.f0, .int .u32 a0.f1.f0, .int .u32 a0.f1.f1, .int .u32 a0.f1.f2, .int .u32 a0.f1.f3, .int .u32 a0.f1.f4, .int .u32 a0.f1.f5], .int .i64 a1] w fun e w' => e = .returned (.tuple #[.agg #[.bool r1.f0, .int .u32 r1.f1.f0, .int .u32 r1.f1.f1, .int .u32 r1.f1.f2, .int .u32 r1.f1.f3, .int .u32 r1.f1.f4, .int .u32 r1.f1.f5], .int .i64 r2]) ∧ Below w.heap.size w w' := by
  have hu25 := Try.underlying25
  have HB := Aside0.mk (Below.refl w.heap.size w)
  have H : (if a1 > 191 then (some ((⟨false, (⟨0, 0, 0, 0, 0, 0⟩ : S23)⟩ : S24), 3)) else ((spec_l01Up.f k a0 a1).bind fun bt182 => (some (bt182.1, bt182.2)))) = some (r1, r2) := h
  clear h
  by_cases c3 : a1 > 191
  · rw [if_pos c3] at H
    have c3b0 : decide (191 < a1) = true := decide_eq_true c3
    clear c3
    simp only [Option.some.injEq, Prod.mk.injEq] at H
    obtain ⟨rfl, rfl⟩ := H
    go_enter Try.func92, Try.ntmps92
    go_wp2_with (first | ((with_reducible refine gate_dst (N := 2) rfl ?_); refine box_event ?hg (N := 2) ?hd (cs := #[.bool a0.f0, .int .u32 a0.f1.f0, .int .u32 a0.f1.f1, .int .u32 a0.f1.f2, .int .u32 a0.f1.f3, .int .u32 a0.f1.f4, .int .u32 a0.f1.f5]) (t := 25) ?hr ?_; (case hd => rfl); (case hg => rfl); (case hr => first | (go_simp; done) | (go_simp; rfl)); intro gb180 hg w4 hbox hb; have n0_ := Aside0.mk (below_step (by repeat (first | (with_reducible first | exact HB.out | apply below_alloc | apply pw_below_drewN | apply below_drew1) | exact HB.out)) hb); have n1_ := Aside0.mk (hbox); have n2_ := Aside0.mk ((by rw [hg]; exact (below_size (by repeat (first | (with_reducible first | exact HB.out | apply below_alloc | apply pw_below_drewN | apply below_drew1) | exact HB.out))) : w.heap.size ≤ gb180)); have n3_ := Aside0.mk ((by rw [hg]; exact (below_size (by repeat (first | (with_reducible first | exact HB.out | apply below_alloc | apply pw_below_drewN | apply below_drew1) | exact HB.out))) : w.heap.size ≤ gb180)); clear HB; have HB := n0_; have BK180 := n1_; have GW180 := n2_; have GE180 := n3_; clear n0_ n1_ n2_ n3_; clear hb hbox hg) | ((with_reducible refine gate_dst (N := 4) rfl ?_); refine box_event ?hg (N := 4) ?hd (cs := #[.bool false, .int .u32 0, .int .u32 0, .int .u32 0, .int .u32 0, .int .u32 0, .int .u32 0]) (t := 25) ?hr ?_; (case hd => rfl); (case hg => rfl); (case hr => first | (go_simp; done) | (go_simp; rfl)); intro gb181 hg w5 hbox hb; have n0_ := Aside0.mk (blk_below (g := gb180) (o := .cells #[.bool a0.f0, .int .u32 a0.f1.f0, .int .u32 a0.f1.f1, .int .u32 a0.f1.f2, .int .u32 a0.f1.f3, .int .u32 a0.f1.f4, .int .u32 a0.f1.f5] 25 (0, 0)) (by (with_reducible repeat (first | refine blk_drewN ?_ _ | refine blk_drew ?_ | refine blk_alloc ?_ _)); exact BK180.out) hb); have n1_ := Aside0.mk (below_step (by repeat (first | (with_reducible first | exact HB.out | apply below_alloc | apply pw_below_drewN | apply below_drew1 | refine below_set ?_ GE180.out) | exact HB.out)) hb); have n2_ := Aside0.mk (hbox); have n3_ := Aside0.mk ((by rw [hg]; exact (below_size (by repeat (first | (with_reducible first | exact HB.out | apply below_alloc | apply pw_below_drewN | apply below_drew1 | refine below_set ?_ GE180.out) | exact HB.out))) : w.heap.size ≤ gb181)); have n4_ := Aside0.mk ((by rw [hg]; exact (below_size (by repeat (first | (with_reducible first | exact HB.out | apply below_alloc | apply pw_below_drewN | apply below_drew1 | refine below_set ?_ GE180.out) | exact HB.out))) : w.heap.size ≤ gb181)); have n5_ := Aside0.mk ((by rw [hg]; exact Nat.ne_of_lt (blk_lt (g := gb180) (o := .cells #[.bool a0.f0, .int .u32 a0.f1.f0, .int .u32 a0.f1.f1, .int .u32 a0.f1.f2, .int .u32 a0.f1.f3, .int .u32 a0.f1.f4, .int .u32 a0.f1.f5] 25 (0, 0)) (by (with_reducible repeat (first | refine blk_drewN ?_ _ | refine blk_drew ?_ | refine blk_alloc ?_ _)); exact BK180.out)) : gb180 ≠ gb181)); have n6_ := Aside0.mk ((by rw [hg]; exact Nat.ne_of_gt (blk_lt (g := gb180) (o := .cells #[.bool a0.f0, .int .u32 a0.f1.f0, .int .u32 a0.f1.f1, .int .u32 a0.f1.f2, .int .u32 a0.f1.f3, .int .u32 a0.f1.f4, .int .u32 a0.f1.f5] 25 (0, 0)) (by (with_reducible repeat (first | refine blk_drewN ?_ _ | refine blk_drew ?_ | refine blk_alloc ?_ _)); exact BK180.out)) : gb181 ≠ gb180)); clear BK180 HB; have BK180 := n0_; have HB := n1_; have BK181 := n2_; have GW181 := n3_; have GE181 := n4_; have NB180_181 := n5_; have NB181_180 := n6_; clear n0_ n1_ n2_ n3_ n4_ n5_ n6_; clear hb hbox hg; have hnb6 := NB181_180.out; have hnc6 := NB180_181.out; obtain ⟨hcz7_0, hcz7_1, hcz7_2, hcz7_3, hcz7_4, hcz7_5, hcz7_6⟩ := cells7_ (show w5.heap[gb181]? = some (.cells #[.bool false, .int .u32 0, .int .u32 0, .int .u32 0, .int .u32 0, .int .u32 0, .int .u32 0] 25 (0, 0)) from BK181.out); obtain ⟨hfz7_0, hfz7_1, hfz7_2, hfz7_3, hfz7_4, hfz7_5, hfz7_6⟩ := frozen7_ BK181.out))
    refine bodyPost_ret (results_ct rfl _ _ gb181 25 #[.bool false, .int .u32 0, .int .u32 0, .int .u32 0, .int .u32 0, .int .u32 0, .int .u32 0] (0, 0) _ rfl (by (with_reducible repeat (first | refine blk_drewN ?_ _ | refine blk_drew ?_ | refine blk_alloc ?_ _)); refine puts7_ (.bool false) (.int .u32 0) (.int .u32 0) (.int .u32 0) (.int .u32 0) (.int .u32 0) (.int .u32 0) ?_; (with_reducible repeat (first | refine blk_drewN ?_ _ | refine blk_drew ?_ | refine blk_alloc ?_ _)); exact BK181.out) Try.underlying25 rfl (by kernel_rfl)) rfl ?_
    exact ⟨by first | rfl | (simp [errW_none, errW_some] <;> rfl) | (simp [*, errW_none, errW_some] <;> rfl), by repeat (first | (with_reducible first | exact HB.out | apply below_alloc | apply pw_below_drewN | apply below_drew1 | refine below_set ?_ GE180.out | refine below_set ?_ GE181.out) | exact HB.out)⟩
  · rw [if_neg c3] at H
    have c3b0 : decide (191 < a1) = false := decide_eq_false c3
    clear c3
    replace H := Option.bind_eq_some_iff.mp H
    obtain ⟨⟨t182, t183⟩, A80, H⟩ := H
    replace H : (some (t182, t183)) = some (r1, r2) := H
    have A8 := Aside0.mk A80
    clear A80
    simp only [Option.some.injEq, Prod.mk.injEq] at H
    obtain ⟨rfl, rfl⟩ := H
    go_enter Try.func92, Try.ntmps92
    go_wp2_with (first | ((with_reducible refine gate_dst (N := 2) rfl ?_); refine box_event ?hg (N := 2) ?hd (cs := #[.bool a0.f0, .int .u32 a0.f1.f0, .int .u32 a0.f1.f1, .int .u32 a0.f1.f2, .int .u32 a0.f1.f3, .int .u32 a0.f1.f4, .int .u32 a0.f1.f5]) (t := 25) ?hr ?_; (case hd => rfl); (case hg => rfl); (case hr => first | (go_simp; done) | (go_simp; rfl)); intro gb180 hg w9 hbox hb; have n0_ := Aside0.mk (below_step (by repeat (first | (with_reducible first | exact HB.out | apply below_alloc | apply pw_below_drewN | apply below_drew1) | exact HB.out)) hb); have n1_ := Aside0.mk (hbox); have n2_ := Aside0.mk ((by rw [hg]; exact (below_size (by repeat (first | (with_reducible first | exact HB.out | apply below_alloc | apply pw_below_drewN | apply below_drew1) | exact HB.out))) : w.heap.size ≤ gb180)); have n3_ := Aside0.mk ((by rw [hg]; exact (below_size (by repeat (first | (with_reducible first | exact HB.out | apply below_alloc | apply pw_below_drewN | apply below_drew1) | exact HB.out))) : w.heap.size ≤ gb180)); clear HB; have HB := n0_; have BK180 := n1_; have GW180 := n2_; have GE180 := n3_; clear n0_ n1_ n2_ n3_; clear hb hbox hg) | ((with_reducible refine gate_dst (N := 4) rfl ?_); refine box_event ?hg (N := 4) ?hd (cs := #[.bool false, .int .u32 0, .int .u32 0, .int .u32 0, .int .u32 0, .int .u32 0, .int .u32 0]) (t := 25) ?hr ?_; (case hd => rfl); (case hg => rfl); (case hr => first | (go_simp; done) | (go_simp; rfl)); intro gb181 hg w10 hbox hb; have n0_ := Aside0.mk (blk_below (g := gb180) (o := .cells #[.bool a0.f0, .int .u32 a0.f1.f0, .int .u32 a0.f1.f1, .int .u32 a0.f1.f2, .int .u32 a0.f1.f3, .int .u32 a0.f1.f4, .int .u32 a0.f1.f5] 25 (0, 0)) (by (with_reducible repeat (first | refine blk_drewN ?_ _ | refine blk_drew ?_ | refine blk_alloc ?_ _)); exact BK180.out) hb); have n1_ := Aside0.mk (below_step (by repeat (first | (with_reducible first | exact HB.out | apply below_alloc | apply pw_below_drewN | apply below_drew1 | refine below_set ?_ GE180.out) | exact HB.out)) hb); have n2_ := Aside0.mk (hbox); have n3_ := Aside0.mk ((by rw [hg]; exact (below_size (by repeat (first | (with_reducible first | exact HB.out | apply below_alloc | apply pw_below_drewN | apply below_drew1 | refine below_set ?_ GE180.out) | exact HB.out))) : w.heap.size ≤ gb181)); have n4_ := Aside0.mk ((by rw [hg]; exact (below_size (by repeat (first | (with_reducible first | exact HB.out | apply below_alloc | apply pw_below_drewN | apply below_drew1 | refine below_set ?_ GE180.out) | exact HB.out))) : w.heap.size ≤ gb181)); have n5_ := Aside0.mk ((by rw [hg]; exact Nat.ne_of_lt (blk_lt (g := gb180) (o := .cells #[.bool a0.f0, .int .u32 a0.f1.f0, .int .u32 a0.f1.f1, .int .u32 a0.f1.f2, .int .u32 a0.f1.f3, .int .u32 a0.f1.f4, .int .u32 a0.f1.f5] 25 (0, 0)) (by (with_reducible repeat (first | refine blk_drewN ?_ _ | refine blk_drew ?_ | refine blk_alloc ?_ _)); exact BK180.out)) : gb180 ≠ gb181)); have n6_ := Aside0.mk ((by rw [hg]; exact Nat.ne_of_gt (blk_lt (g := gb180) (o := .cells #[.bool a0.f0, .int .u32 a0.f1.f0, .int .u32 a0.f1.f1, .int .u32 a0.f1.f2, .int .u32 a0.f1.f3, .int .u32 a0.f1.f4, .int .u32 a0.f1.f5] 25 (0, 0)) (by (with_reducible repeat (first | refine blk_drewN ?_ _ | refine blk_drew ?_ | refine blk_alloc ?_ _)); exact BK180.out)) : gb181 ≠ gb180)); clear BK180 HB; have BK180 := n0_; have HB := n1_; have BK181 := n2_; have GW181 := n3_; have GE181 := n4_; have NB180_181 := n5_; have NB181_180 := n6_; clear n0_ n1_ n2_ n3_ n4_ n5_ n6_; clear hb hbox hg; have hnb11 := NB180_181.out; have hnc11 := NB181_180.out; obtain ⟨hcz12_0, hcz12_1, hcz12_2, hcz12_3, hcz12_4, hcz12_5, hcz12_6⟩ := cells7_ (show w10.heap[gb180]? = some (.cells #[.bool a0.f0, .int .u32 a0.f1.f0, .int .u32 a0.f1.f1, .int .u32 a0.f1.f2, .int .u32 a0.f1.f3, .int .u32 a0.f1.f4, .int .u32 a0.f1.f5] 25 (0, 0)) from BK180.out); obtain ⟨hfz12_0, hfz12_1, hfz12_2, hfz12_3, hfz12_4, hfz12_5, hfz12_6⟩ := frozen7_ BK180.out) | ((with_reducible refine gate_callee (f := 97) rfl ?_); refine goesL_ (some 11) rfl rfl Try.func97 (by kernel_rfl) rfl #[.agg #[.bool a0.f0, .int .u32 a0.f1.f0, .int .u32 a0.f1.f1, .int .u32 a0.f1.f2, .int .u32 a0.f1.f3, .int .u32 a0.f1.f4, .int .u32 a0.f1.f5], .int .i64 a1] rfl (by (try simp only [List.map_toArray, List.map_cons, List.map_nil]); first | done | rfl | (simp only [List.length_drop, List.length_take]; rfl) | (simp only [List.drop_one]; done) | (simp only [List.drop_one]; rfl)) ?_; (with_reducible refine (spec_l01Up.calls k a0 a1 t182 t183 _ A8.out).mono ?_); rintro e w13 ⟨rfl, hb⟩; refine ⟨_, rfl, ?_⟩; have n0_ := Aside0.mk (blk_below (g := gb180) (o := .cells #[.bool a0.f0, .int .u32 a0.f1.f0, .int .u32 a0.f1.f1, .int .u32 a0.f1.f2, .int .u32 a0.f1.f3, .int .u32 a0.f1.f4, .int .u32 a0.f1.f5] 25 (0, 0)) (by (with_reducible repeat (first | refine blk_drewN ?_ _ | refine blk_drew ?_ | refine blk_alloc ?_ _)); exact BK180.out) hb); have n1_ := Aside0.mk (blk_below (g := gb181) (o := .cells #[.bool false, .int .u32 0, .int .u32 0, .int .u32 0, .int .u32 0, .int .u32 0, .int .u32 0] 25 (0, 0)) (by (with_reducible repeat (first | refine blk_drewN ?_ _ | refine blk_drew ?_ | refine blk_alloc ?_ _)); exact BK181.out) hb); have n2_ := Aside0.mk (below_step (by repeat (first | (with_reducible first | exact HB.out | apply below_alloc | apply pw_below_drewN | apply below_drew1 | refine below_set ?_ GE180.out | refine below_set ?_ GE181.out) | exact HB.out)) hb); clear BK180 BK181 HB; have BK180 := n0_; have BK181 := n1_; have HB := n2_; clear n0_ n1_ n2_; (try clear hb); (try clear hb2); (try clear hk); (try clear hi); obtain ⟨hcz14_0, hcz14_1, hcz14_2, hcz14_3, hcz14_4, hcz14_5, hcz14_6⟩ := cells7_ (show w13.heap[gb181]? = some (.cells #[.bool false, .int .u32 0, .int .u32 0, .int .u32 0, .int .u32 0, .int .u32 0, .int .u32 0] 25 (0, 0)) from BK181.out); obtain ⟨hfz14_0, hfz14_1, hfz14_2, hfz14_3, hfz14_4, hfz14_5, hfz14_6⟩ := frozen7_ BK181.out))
    refine bodyPost_ret (results_ct rfl _ _ gb181 25 #[.bool t182.f0, .int .u32 t182.f1.f0, .int .u32 t182.f1.f1, .int .u32 t182.f1.f2, .int .u32 t182.f1.f3, .int .u32 t182.f1.f4, .int .u32 t182.f1.f5] (0, 0) _ rfl (by (with_reducible repeat (first | refine blk_drewN ?_ _ | refine blk_drew ?_ | refine blk_alloc ?_ _)); refine puts7_ (.bool false) (.int .u32 0) (.int .u32 0) (.int .u32 0) (.int .u32 0) (.int .u32 0) (.int .u32 0) ?_; (with_reducible repeat (first | refine blk_drewN ?_ _ | refine blk_drew ?_ | refine blk_alloc ?_ _)); exact BK181.out) Try.underlying25 rfl (by kernel_rfl)) rfl ?_
    exact ⟨by first | rfl | (simp [errW_none, errW_some] <;> rfl) | (simp [*, errW_none, errW_some] <;> rfl), by repeat (first | (with_reducible first | exact HB.out | apply below_alloc | apply pw_below_drewN | apply below_drew1 | refine below_set ?_ GE180.out | refine below_set ?_ GE181.out) | exact HB.out)⟩

/-! ### spec_l05Value: function 54, by hand -/
theorem el24 {w : World} {ad : Addr} {n : Nat} {xs : List S24} (h : Kd.C k24 w (some ad) n xs) (i : Int) (h0 : 0 ≤ i) (h1 : i < n) : w.cell? (ad.add (i.toNat * 7)) = some (.bool (rd_T24 xs i).f0) ∧ w.cell? ⟨(ad.add (i.toNat * 7)).block, (ad.add (i.toNat * 7)).off + 1, none⟩ = some (.int .u32 (rd_T24 xs i).f1.f0) ∧ w.cell? ⟨(ad.add (i.toNat * 7)).block, (ad.add (i.toNat * 7)).off + 2, none⟩ = some (.int .u32 (rd_T24 xs i).f1.f1) ∧ w.cell? ⟨(ad.add (i.toNat * 7)).block, (ad.add (i.toNat * 7)).off + 3, none⟩ = some (.int .u32 (rd_T24 xs i).f1.f2) ∧ w.cell? ⟨(ad.add (i.toNat * 7)).block, (ad.add (i.toNat * 7)).off + 4, none⟩ = some (.int .u32 (rd_T24 xs i).f1.f3) ∧ w.cell? ⟨(ad.add (i.toNat * 7)).block, (ad.add (i.toNat * 7)).off + 5, none⟩ = some (.int .u32 (rd_T24 xs i).f1.f4) ∧ w.cell? ⟨(ad.add (i.toNat * 7)).block, (ad.add (i.toNat * 7)).off + 6, none⟩ = some (.int .u32 (rd_T24 xs i).f1.f5) := by
  obtain ⟨ad', e, r⟩ := at_T24 h i h0 h1
  obtain rfl := Option.some.inj e
  exact r
def spec_l05Value.l0 : Nat → List (S24) → Int → Int → Int → S24 → S24 → Option (S24 × Int)
 | 0, _, _, _, _, _, _ => none
 | k + 1, x0, x2, x8, x10, x185000, x188000 => if x10 ≥ 0 then ((spec_l01Mul.f k x188000 x185000).bind fun bt188 => (if bt188.2 = 0 then (if 0 ≤ x10 then (if x10 < (x0.length : Int) then ((spec_l02Up.f k (rd_T24 x0 x10) (wrap64 (x2 * (wrap64 ((wrap64 (x8 - 1)) - x10))))).bind fun bt192 => (if bt192.2 = 0 then ((spec_l01Add.f k bt188.1 bt192.1).bind fun bt195 => (if bt195.2 = 0 then (spec_l05Value.l0 k x0 x2 x8 (wrap64 (x10 - 1)) x185000 bt195.1) else (some ((⟨false, (⟨0, 0, 0, 0, 0, 0⟩ : S23)⟩ : S24), bt195.2)))) else (some ((⟨false, (⟨0, 0, 0, 0, 0, 0⟩ : S23)⟩ : S24), bt192.2)))) else (none)) else (none)) else (some ((⟨false, (⟨0, 0, 0, 0, 0, 0⟩ : S23)⟩ : S24), bt188.2)))) else (some (x188000, 0))
def spec_l05Value.f (k : Nat) (l0 : List (S24)) (a1 : S24) (a2 : Int) : Option (S24 × Int) := if 0 ≤ (wrap64 ((l0.length : Int) - 1)) then (if (wrap64 ((l0.length : Int) - 1)) < (l0.length : Int) then (spec_l05Value.l0 k l0 a2 (l0.length : Int) (wrap64 ((l0.length : Int) - 2)) a1 (rd_T24 l0 (wrap64 ((l0.length : Int) - 1)))) else (none)) else (none)
theorem spec_l05Value.mono_l : ∀ k, (∀ y0 y1 y2 y3 y4 y5, LeO (spec_l05Value.l0 k y0 y1 y2 y3 y4 y5) (spec_l05Value.l0 (k + 1) y0 y1 y2 y3 y4 y5))
 | 0 => fun _ _ _ _ _ _ r h => by simp [spec_l05Value.l0] at h
 | k + 1 => by
  have ih0 := spec_l05Value.mono_l k
  intro y0 y1 y2 y3 y4 y5
  unfold spec_l05Value.l0
  repeat' first
  | (with_reducible exact ih0 _ _ _ _ _ _)
  | (with_reducible exact spec_l01Add.mono _ _ _)
  | (with_reducible exact spec_l01Mul.mono _ _ _)
  | (with_reducible exact spec_l02Up.mono _ _ _)
  | (with_reducible exact LeO.refl _)
  | (with_reducible exact LeO.none _)
  | (with_reducible refine LeO.ite ?_ ?_)
  | (with_reducible refine LeO.bind ?_ (fun _ => ?_))
  | exact ih0 _ _ _ _ _ _
  | exact spec_l01Add.mono _ _ _
  | exact spec_l01Mul.mono _ _ _
  | exact spec_l02Up.mono _ _ _
  | exact LeO.none _
  | refine LeO.ite ?_ ?_
  | refine LeO.bind ?_ (fun _ => ?_)
theorem spec_l05Value.mono : ∀ a0 a1 a2 k, LeO (spec_l05Value.f k a0 a1 a2) (spec_l05Value.f (k + 1) a0 a1 a2) := by
 intro a0 a1 a2 k
 have ih0 := spec_l05Value.mono_l k
 unfold spec_l05Value.f
 repeat' first
   | (with_reducible exact ih0 _ _ _ _ _ _)
   | (with_reducible exact spec_l01Add.mono _ _ _)
   | (with_reducible exact spec_l01Mul.mono _ _ _)
   | (with_reducible exact spec_l02Up.mono _ _ _)
   | (with_reducible exact LeO.refl _)
   | (with_reducible exact LeO.none _)
   | (with_reducible refine LeO.ite ?_ ?_)
   | (with_reducible refine LeO.bind ?_ (fun _ => ?_))
   | exact ih0 _ _ _ _ _ _
   | exact spec_l01Add.mono _ _ _
   | exact spec_l01Mul.mono _ _ _
   | exact spec_l02Up.mono _ _ _
   | exact LeO.none _
   | refine LeO.ite ?_ ?_
   | refine LeO.bind ?_ (fun _ => ?_)
set_option maxHeartbeats 8000000 in
set_option maxRecDepth 100000 in
set_option maxHeartbeats 8000000 in
set_option maxRecDepth 100000 in
theorem spec_l05Value.calls (k : Nat) (A0 : Option Addr) (c0 : Nat) (l0 : List (S24)) (a1 : S24) (a2 : Int) (r1 : S24) (r2 : Int) (w : World) (hr0 : Kd.C k24 w A0 l0.length l0) (hc0 : l0.length ≤ c0) (h : spec_l05Value.f k l0 a1 a2 = some (r1, r2)) :
  Calls Try.prog 54 #[.slice A0 l0.length c0, .agg #[.bool a1.f0, .int .u32 a1.f1.f0, .int .u32 a1.f1.f1, .int .u32 a1.f1.f2, .int .u32 a1.f1.f3, .int .u32 a1.f1.f4, .int .u32 a1.f1.f5], .int .i64 a2] w fun e w' => e = .returned (.tuple #[.agg #[.bool r1.f0, .int .u32 r1.f1.f0, .int .u32 r1.f1.f1, .int .u32 r1.f1.f2, .int .u32 r1.f1.f3, .int .u32 r1.f1.f4, .int .u32 r1.f1.f5], .int .i64 r2]) ∧ Below w.heap.size w w' := by
  have hu25 := Try.underlying25
  unfold spec_l05Value.f at h
  obtain ⟨j, hj⟩ : ∃ j : Int, wrap64 ((l0.length : Int) - 1) = j := ⟨_, rfl⟩
  rw [hj] at h
  have hjw : IntKind.i64.wrap ((l0.length : Int) - 1) = j := (i64_w _).trans hj
  by_cases c1 : 0 ≤ j
  rotate_left
  · rw [if_neg c1] at h; exact absurd h (by simp)
  rw [if_pos c1] at h
  by_cases c2 : j < (l0.length : Int)
  rotate_left
  · rw [if_neg c2] at h; exact absurd h (by simp)
  rw [if_pos c2] at h
  obtain ⟨ad, rfl, _⟩ := at_T24 hr0 j c1 c2
  have d1 : decide (0 ≤ j) = true := decide_eq_true c1
  have d2 : decide (j < (l0.length : Int)) = true := decide_eq_true c2
  have p1 : (0 ≤ j) = True := eq_true c1
  have p2 : (j < (l0.length : Int)) = True := eq_true c2
  have HR := Aside0.mk hr0
  have HC := Aside0.mk hc0
  have H := Aside0.mk h
  clear hr0 hc0 h
  have HO := Aside0.mk (Wide.OB.start w)
  go_enter Try.func54, Try.ntmps54
  go_wp2_with (first | ((with_reducible refine gate_dst (N := 4) rfl ?_); refine box_event ?hg (N := 4) ?hd (cs := #[.bool a1.f0, .int .u32 a1.f1.f0, .int .u32 a1.f1.f1, .int .u32 a1.f1.f2, .int .u32 a1.f1.f3, .int .u32 a1.f1.f4, .int .u32 a1.f1.f5]) (t := 25) ?hr ?_; (case hd => rfl); (case hg => rfl); (case hr => first | (go_simp; done) | (go_simp; rfl)); intro g1 hg w1 hbox hb; replace HO := Aside0.mk (HO.out.box hg hbox hb); clear hg hbox hb) | ((with_reducible refine gate_dst (N := 6) rfl ?_); refine box_event ?hg (N := 6) ?hd (cs := #[.bool false, .int .u32 0, .int .u32 0, .int .u32 0, .int .u32 0, .int .u32 0, .int .u32 0]) (t := 25) ?hr ?_; (case hd => rfl); (case hg => rfl); (case hr => first | (go_simp; done) | (go_simp; rfl)); intro g2 hg w2 hbox hb; replace HO := Aside0.mk (HO.out.box hg hbox hb); clear hg hbox hb; obtain ⟨hx0, hx1, hx2, hx3, hx4, hx5, hx6⟩ := el24 (Kd.C_below HR.out HO.out.bel) j c1 c2) | ((with_reducible refine gate_dst (N := 9) rfl ?_); refine box_event ?hg (N := 9) ?hd (cs := #[.bool false, .int .u32 0, .int .u32 0, .int .u32 0, .int .u32 0, .int .u32 0, .int .u32 0]) (t := 25) ?hr ?_; (case hd => rfl); (case hg => rfl); (case hr => first | (go_simp; done) | (go_simp; rfl)); intro g3 hg w3 hbox hb; replace HO := Aside0.mk (HO.out.box hg hbox hb); clear hg hbox hb) | ((with_reducible refine gate_store (t := 25) (p := 9) rfl ?_); refine store_event (t := 25) (p := 9) (v := ?vo_1) (w1 := (World.setCell (World.setCell (World.setCell (World.setCell (World.setCell (World.setCell (World.setCell w3 ⟨g3, 0, none⟩ (.bool (rd_T24 l0 j).f0)) ⟨g3, 1, none⟩ (.int .u32 (rd_T24 l0 j).f1.f0)) ⟨g3, 2, none⟩ (.int .u32 (rd_T24 l0 j).f1.f1)) ⟨g3, 3, none⟩ (.int .u32 (rd_T24 l0 j).f1.f2)) ⟨g3, 4, none⟩ (.int .u32 (rd_T24 l0 j).f1.f3)) ⟨g3, 5, none⟩ (.int .u32 (rd_T24 l0 j).f1.f4)) ⟨g3, 6, none⟩ (.int .u32 (rd_T24 l0 j).f1.f5))) ?hg ?ho ?hn ?hr ?_; (case ho => rfl); (case hg => rfl); (case hn => rfl); (case hr => (try simp only [Act.put, List.setIfInBounds_toArray, List.set_cons_zero, List.set_cons_succ]); exact run_put7_ rfl (show _ = Value.pointer (some ⟨g3, 0, none⟩) from by rfl) (show _ = Value.agg #[.bool (rd_T24 l0 j).f0, .int .u32 (rd_T24 l0 j).f1.f0, .int .u32 (rd_T24 l0 j).f1.f1, .int .u32 (rd_T24 l0 j).f1.f2, .int .u32 (rd_T24 l0 j).f1.f3, .int .u32 (rd_T24 l0 j).f1.f4, .int .u32 (rd_T24 l0 j).f1.f5] from by rfl) (HO.out.at 0 rfl) (by kernel_rfl) (by rfl)); intro w4 hw; replace HO := Aside0.mk (HO.out.put7 0 rfl hw rfl); clear hw; clear hx0 hx1 hx2 hx3 hx4 hx5 hx6))
  go_loopg [10] k (fun kq v10 w' => ∃ (i : Int) (x : S24), v10 = .int .i64 i ∧ Aside0 (spec_l05Value.l0 kq l0 a2 (l0.length : Int) i a1 x = some (r1, r2)) ∧ Aside0 (kq ≤ k) ∧ Aside0 (Wide.OB w.heap.size w w' [(g3, #[.bool x.f0, .int .u32 x.f1.f0, .int .u32 x.f1.f1, .int .u32 x.f1.f2, .int .u32 x.f1.f3, .int .u32 x.f1.f4, .int .u32 x.f1.f5], 25), (g2, #[.bool false, .int .u32 0, .int .u32 0, .int .u32 0, .int .u32 0, .int .u32 0, .int .u32 0], 25), (g1, #[.bool a1.f0, .int .u32 a1.f1.f0, .int .u32 a1.f1.f1, .int .u32 a1.f1.f2, .int .u32 a1.f1.f3, .int .u32 a1.f1.f4, .int .u32 a1.f1.f5], 25)]))
  case atStart => exact ⟨_, _, rfl, H, ⟨Nat.le_refl _⟩, HO⟩
  case round =>
    clear HO H c1 c2 d1 d2 p1 p2
    obtain ⟨i, x, rfl, H, HK, HO⟩ := hrel
    cases gk with
    | zero => exact absurd H.out (by simp [spec_l05Value.l0])
    | succ k1 =>
    have h := H.out
    clear H
    rw [spec_l05Value.l0] at h
    by_cases c : i ≥ 0
    rotate_left
    · rw [if_neg c] at h
      obtain ⟨rfl, rfl⟩ := Prod.mk.inj (Option.some.inj h)
      have c3 : decide (0 ≤ i) = false := decide_eq_false c
      clear c
      obtain ⟨hm0, hm1, hm2, hm3, hm4, hm5, hm6⟩ := cells7_ (HO.out.at 0 rfl)
      go_wp2_with (first | ((with_reducible refine gate_store (t := 25) (p := 6) rfl ?_); refine store_event (t := 25) (p := 6) (v := ?vo_2) (w1 := (World.setCell (World.setCell (World.setCell (World.setCell (World.setCell (World.setCell (World.setCell wr ⟨g2, 0, none⟩ (.bool x.f0)) ⟨g2, 1, none⟩ (.int .u32 x.f1.f0)) ⟨g2, 2, none⟩ (.int .u32 x.f1.f1)) ⟨g2, 3, none⟩ (.int .u32 x.f1.f2)) ⟨g2, 4, none⟩ (.int .u32 x.f1.f3)) ⟨g2, 5, none⟩ (.int .u32 x.f1.f4)) ⟨g2, 6, none⟩ (.int .u32 x.f1.f5))) ?hg ?ho ?hn ?hr ?_; (case ho => rfl); (case hg => rfl); (case hn => rfl); (case hr => (try simp only [Act.put, List.setIfInBounds_toArray, List.set_cons_zero, List.set_cons_succ]); exact run_put7_ rfl (show _ = Value.pointer (some ⟨g2, 0, none⟩) from by rfl) (show _ = Value.agg #[.bool x.f0, .int .u32 x.f1.f0, .int .u32 x.f1.f1, .int .u32 x.f1.f2, .int .u32 x.f1.f3, .int .u32 x.f1.f4, .int .u32 x.f1.f5] from by rfl) (HO.out.at 1 rfl) (by kernel_rfl) (by rfl)); intro w5 hw; replace HO := Aside0.mk (HO.out.put7 1 rfl hw rfl); clear hw))
      refine bodyPost_ret (results_ct rfl _ _ g2 25 #[.bool x.f0, .int .u32 x.f1.f0, .int .u32 x.f1.f1, .int .u32 x.f1.f2, .int .u32 x.f1.f3, .int .u32 x.f1.f4, .int .u32 x.f1.f5] (0, 0) _ rfl (HO.out.at 1 rfl) Try.underlying25 rfl (by kernel_rfl)) rfl ?_
      exact ⟨rfl, HO.out.bel⟩
    rw [if_pos c] at h
    have c3 : decide (0 ≤ i) = true := decide_eq_true c
    have p3 : (0 ≤ i) = True := eq_true c
    obtain ⟨⟨t1, e1⟩, m1, h⟩ := Option.bind_eq_some_iff.mp h
    replace h : (if e1 = 0 then _ else _) = some (r1, r2) := h
    have M1 := Aside0.mk m1
    clear m1
    obtain ⟨hm0, hm1, hm2, hm3, hm4, hm5, hm6⟩ := cells7_ (HO.out.at 0 rfl)
    obtain ⟨hn0, hn1, hn2, hn3, hn4, hn5, hn6⟩ := cells7_ (HO.out.at 2 rfl)
    by_cases z1 : e1 = 0
    rotate_left
    · rw [if_neg z1] at h
      obtain ⟨rfl, rfl⟩ := Prod.mk.inj (Option.some.inj h)
      have x1 : (e1 == 0) = false := by simpa using z1
      have y1 : (e1 = 0) = False := eq_false z1
      go_wp2_with (first | (go_at_call 82; (with_reducible refine (spec_l01Mul.calls k1 x a1 t1 e1 _ M1.out).mono ?_); rintro e w5 ⟨rfl, hb⟩; replace HO := Aside0.mk (HO.out.below hb); clear hb; clear hm0 hm1 hm2 hm3 hm4 hm5 hm6 hn0 hn1 hn2 hn3 hn4 hn5 hn6) | ((with_reducible refine gate_dst (N := 11) rfl ?_); refine box_event ?hg (N := 11) ?hd (cs := #[.bool false, .int .u32 0, .int .u32 0, .int .u32 0, .int .u32 0, .int .u32 0, .int .u32 0]) (t := 25) ?hr ?_; (case hd => rfl); (case hg => rfl); (case hr => first | (go_simp; done) | (go_simp; rfl)); intro g4 hg w6 hbox hb; replace HO := Aside0.mk (HO.out.box hg hbox hb); clear hg hbox hb) | ((with_reducible refine gate_store (t := 25) (p := 11) rfl ?_); refine store_event (t := 25) (p := 11) (v := ?vo_3) (w1 := (World.setCell (World.setCell (World.setCell (World.setCell (World.setCell (World.setCell (World.setCell w6 ⟨g4, 0, none⟩ (.bool t1.f0)) ⟨g4, 1, none⟩ (.int .u32 t1.f1.f0)) ⟨g4, 2, none⟩ (.int .u32 t1.f1.f1)) ⟨g4, 3, none⟩ (.int .u32 t1.f1.f2)) ⟨g4, 4, none⟩ (.int .u32 t1.f1.f3)) ⟨g4, 5, none⟩ (.int .u32 t1.f1.f4)) ⟨g4, 6, none⟩ (.int .u32 t1.f1.f5))) ?hg ?ho ?hn ?hr ?_; (case ho => rfl); (case hg => rfl); (case hn => rfl); (case hr => (try simp only [Act.put, List.setIfInBounds_toArray, List.set_cons_zero, List.set_cons_succ]); exact run_put7_ rfl (show _ = Value.pointer (some ⟨g4, 0, none⟩) from by rfl) (show _ = Value.agg #[.bool t1.f0, .int .u32 t1.f1.f0, .int .u32 t1.f1.f1, .int .u32 t1.f1.f2, .int .u32 t1.f1.f3, .int .u32 t1.f1.f4, .int .u32 t1.f1.f5] from by rfl) (HO.out.at 0 rfl) (by kernel_rfl) (by rfl)); intro w7 hw; replace HO := Aside0.mk (HO.out.put7 0 rfl hw rfl); clear hw) | ((with_reducible refine gate_store (t := 25) (p := 6) rfl ?_); refine store_event (t := 25) (p := 6) (v := ?vo_4) (w1 := (World.setCell (World.setCell (World.setCell (World.setCell (World.setCell (World.setCell (World.setCell w7 ⟨g2, 0, none⟩ (.bool false)) ⟨g2, 1, none⟩ (.int .u32 0)) ⟨g2, 2, none⟩ (.int .u32 0)) ⟨g2, 3, none⟩ (.int .u32 0)) ⟨g2, 4, none⟩ (.int .u32 0)) ⟨g2, 5, none⟩ (.int .u32 0)) ⟨g2, 6, none⟩ (.int .u32 0))) ?hg ?ho ?hn ?hr ?_; (case ho => rfl); (case hg => rfl); (case hn => rfl); (case hr => (try simp only [Act.put, List.setIfInBounds_toArray, List.set_cons_zero, List.set_cons_succ]); exact run_put7_ rfl (show _ = Value.pointer (some ⟨g2, 0, none⟩) from by rfl) (show _ = Value.agg #[.bool false, .int .u32 0, .int .u32 0, .int .u32 0, .int .u32 0, .int .u32 0, .int .u32 0] from by rfl) (HO.out.at 2 rfl) (by kernel_rfl) (by rfl)); intro w14 hw; replace HO := Aside0.mk (HO.out.put7 2 rfl hw rfl); clear hw))
      refine bodyPost_ret (results_ct rfl _ _ g2 25 #[.bool false, .int .u32 0, .int .u32 0, .int .u32 0, .int .u32 0, .int .u32 0, .int .u32 0] (0, 0) _ rfl (HO.out.at 2 rfl) Try.underlying25 rfl (by kernel_rfl)) rfl ?_
      exact ⟨rfl, HO.out.bel⟩
    rw [if_pos z1] at h
    have x1 : (e1 == 0) = true := by rw [z1]; rfl
    have y1 : (e1 = 0) = True := eq_true z1
    rw [if_pos (show 0 ≤ i from c)] at h
    have pi : 0 ≤ i := c
    clear c
    by_cases qi : i < (l0.length : Int)
    rotate_left
    · rw [if_neg qi] at h; exact absurd h (by simp)
    rw [if_pos qi] at h
    have c4 : decide (i < (l0.length : Int)) = true := decide_eq_true qi
    have p4 : (i < (l0.length : Int)) = True := eq_true qi
    obtain ⟨⟨t3, e3⟩, m2, h⟩ := Option.bind_eq_some_iff.mp h
    replace h : (if e3 = 0 then _ else _) = some (r1, r2) := h
    rw [hj] at m2
    have M2 := Aside0.mk m2
    clear m2
    by_cases z2 : e3 = 0
    rotate_left
    · rw [if_neg z2] at h
      obtain ⟨rfl, rfl⟩ := Prod.mk.inj (Option.some.inj h)
      have x2 : (e3 == 0) = false := by simpa using z2
      have y2 : (e3 = 0) = False := eq_false z2
      go_wp2_with (first | (go_at_call 82; (with_reducible refine (spec_l01Mul.calls k1 x a1 t1 e1 _ M1.out).mono ?_); rintro e w5 ⟨rfl, hb⟩; replace HO := Aside0.mk (HO.out.below hb); clear hb; clear hm0 hm1 hm2 hm3 hm4 hm5 hm6 hn0 hn1 hn2 hn3 hn4 hn5 hn6) | ((with_reducible refine gate_dst (N := 11) rfl ?_); refine box_event ?hg (N := 11) ?hd (cs := #[.bool false, .int .u32 0, .int .u32 0, .int .u32 0, .int .u32 0, .int .u32 0, .int .u32 0]) (t := 25) ?hr ?_; (case hd => rfl); (case hg => rfl); (case hr => first | (go_simp; done) | (go_simp; rfl)); intro g4 hg w6 hbox hb; replace HO := Aside0.mk (HO.out.box hg hbox hb); clear hg hbox hb) | ((with_reducible refine gate_store (t := 25) (p := 11) rfl ?_); refine store_event (t := 25) (p := 11) (v := ?vo_5) (w1 := (World.setCell (World.setCell (World.setCell (World.setCell (World.setCell (World.setCell (World.setCell w6 ⟨g4, 0, none⟩ (.bool t1.f0)) ⟨g4, 1, none⟩ (.int .u32 t1.f1.f0)) ⟨g4, 2, none⟩ (.int .u32 t1.f1.f1)) ⟨g4, 3, none⟩ (.int .u32 t1.f1.f2)) ⟨g4, 4, none⟩ (.int .u32 t1.f1.f3)) ⟨g4, 5, none⟩ (.int .u32 t1.f1.f4)) ⟨g4, 6, none⟩ (.int .u32 t1.f1.f5))) ?hg ?ho ?hn ?hr ?_; (case ho => rfl); (case hg => rfl); (case hn => rfl); (case hr => (try simp only [Act.put, List.setIfInBounds_toArray, List.set_cons_zero, List.set_cons_succ]); exact run_put7_ rfl (show _ = Value.pointer (some ⟨g4, 0, none⟩) from by rfl) (show _ = Value.agg #[.bool t1.f0, .int .u32 t1.f1.f0, .int .u32 t1.f1.f1, .int .u32 t1.f1.f2, .int .u32 t1.f1.f3, .int .u32 t1.f1.f4, .int .u32 t1.f1.f5] from by rfl) (HO.out.at 0 rfl) (by kernel_rfl) (by rfl)); intro w7 hw; replace HO := Aside0.mk (HO.out.put7 0 rfl hw rfl); clear hw; obtain ⟨hx0, hx1, hx2, hx3, hx4, hx5, hx6⟩ := el24 (Kd.C_below HR.out HO.out.bel) i pi qi) | (go_at_call 92; (with_reducible refine (spec_l02Up.calls k1 (rd_T24 l0 i) _ t3 e3 _ M2.out).mono ?_); rintro e w8 ⟨rfl, hb⟩; replace HO := Aside0.mk (HO.out.below hb); clear hb; clear hx0 hx1 hx2 hx3 hx4 hx5 hx6) | ((with_reducible refine gate_dst (N := 13) rfl ?_); refine box_event ?hg (N := 13) ?hd (cs := #[.bool false, .int .u32 0, .int .u32 0, .int .u32 0, .int .u32 0, .int .u32 0, .int .u32 0]) (t := 25) ?hr ?_; (case hd => rfl); (case hg => rfl); (case hr => first | (go_simp; done) | (go_simp; rfl)); intro g5 hg w9 hbox hb; replace HO := Aside0.mk (HO.out.box hg hbox hb); clear hg hbox hb) | ((with_reducible refine gate_store (t := 25) (p := 13) rfl ?_); refine store_event (t := 25) (p := 13) (v := ?vo_6) (w1 := (World.setCell (World.setCell (World.setCell (World.setCell (World.setCell (World.setCell (World.setCell w9 ⟨g5, 0, none⟩ (.bool t3.f0)) ⟨g5, 1, none⟩ (.int .u32 t3.f1.f0)) ⟨g5, 2, none⟩ (.int .u32 t3.f1.f1)) ⟨g5, 3, none⟩ (.int .u32 t3.f1.f2)) ⟨g5, 4, none⟩ (.int .u32 t3.f1.f3)) ⟨g5, 5, none⟩ (.int .u32 t3.f1.f4)) ⟨g5, 6, none⟩ (.int .u32 t3.f1.f5))) ?hg ?ho ?hn ?hr ?_; (case ho => rfl); (case hg => rfl); (case hn => rfl); (case hr => (try simp only [Act.put, List.setIfInBounds_toArray, List.set_cons_zero, List.set_cons_succ]); exact run_put7_ rfl (show _ = Value.pointer (some ⟨g5, 0, none⟩) from by rfl) (show _ = Value.agg #[.bool t3.f0, .int .u32 t3.f1.f0, .int .u32 t3.f1.f1, .int .u32 t3.f1.f2, .int .u32 t3.f1.f3, .int .u32 t3.f1.f4, .int .u32 t3.f1.f5] from by rfl) (HO.out.at 0 rfl) (by kernel_rfl) (by rfl)); intro w10 hw; replace HO := Aside0.mk (HO.out.put7 0 rfl hw rfl); clear hw) | ((with_reducible refine gate_store (t := 25) (p := 6) rfl ?_); refine store_event (t := 25) (p := 6) (v := ?vo_7) (w1 := (World.setCell (World.setCell (World.setCell (World.setCell (World.setCell (World.setCell (World.setCell w10 ⟨g2, 0, none⟩ (.bool false)) ⟨g2, 1, none⟩ (.int .u32 0)) ⟨g2, 2, none⟩ (.int .u32 0)) ⟨g2, 3, none⟩ (.int .u32 0)) ⟨g2, 4, none⟩ (.int .u32 0)) ⟨g2, 5, none⟩ (.int .u32 0)) ⟨g2, 6, none⟩ (.int .u32 0))) ?hg ?ho ?hn ?hr ?_; (case ho => rfl); (case hg => rfl); (case hn => rfl); (case hr => (try simp only [Act.put, List.setIfInBounds_toArray, List.set_cons_zero, List.set_cons_succ]); exact run_put7_ rfl (show _ = Value.pointer (some ⟨g2, 0, none⟩) from by rfl) (show _ = Value.agg #[.bool false, .int .u32 0, .int .u32 0, .int .u32 0, .int .u32 0, .int .u32 0, .int .u32 0] from by rfl) (HO.out.at 3 rfl) (by kernel_rfl) (by rfl)); intro w14 hw; replace HO := Aside0.mk (HO.out.put7 3 rfl hw rfl); clear hw))
      refine bodyPost_ret (results_ct rfl _ _ g2 25 #[.bool false, .int .u32 0, .int .u32 0, .int .u32 0, .int .u32 0, .int .u32 0, .int .u32 0] (0, 0) _ rfl (HO.out.at 3 rfl) Try.underlying25 rfl (by kernel_rfl)) rfl ?_
      exact ⟨rfl, HO.out.bel⟩
    rw [if_pos z2] at h
    have x2 : (e3 == 0) = true := by rw [z2]; rfl
    have y2 : (e3 = 0) = True := eq_true z2
    obtain ⟨⟨t5, e5⟩, m3, h⟩ := Option.bind_eq_some_iff.mp h
    replace h : (if e5 = 0 then _ else _) = some (r1, r2) := h
    have M3 := Aside0.mk m3
    clear m3
    by_cases z3 : e5 = 0
    rotate_left
    · rw [if_neg z3] at h
      obtain ⟨rfl, rfl⟩ := Prod.mk.inj (Option.some.inj h)
      have x3 : (e5 == 0) = false := by simpa using z3
      have y3 : (e5 = 0) = False := eq_false z3
      go_wp2_with (first | (go_at_call 82; (with_reducible refine (spec_l01Mul.calls k1 x a1 t1 e1 _ M1.out).mono ?_); rintro e w5 ⟨rfl, hb⟩; replace HO := Aside0.mk (HO.out.below hb); clear hb; clear hm0 hm1 hm2 hm3 hm4 hm5 hm6 hn0 hn1 hn2 hn3 hn4 hn5 hn6) | ((with_reducible refine gate_dst (N := 11) rfl ?_); refine box_event ?hg (N := 11) ?hd (cs := #[.bool false, .int .u32 0, .int .u32 0, .int .u32 0, .int .u32 0, .int .u32 0, .int .u32 0]) (t := 25) ?hr ?_; (case hd => rfl); (case hg => rfl); (case hr => first | (go_simp; done) | (go_simp; rfl)); intro g4 hg w6 hbox hb; replace HO := Aside0.mk (HO.out.box hg hbox hb); clear hg hbox hb) | ((with_reducible refine gate_store (t := 25) (p := 11) rfl ?_); refine store_event (t := 25) (p := 11) (v := ?vo_8) (w1 := (World.setCell (World.setCell (World.setCell (World.setCell (World.setCell (World.setCell (World.setCell w6 ⟨g4, 0, none⟩ (.bool t1.f0)) ⟨g4, 1, none⟩ (.int .u32 t1.f1.f0)) ⟨g4, 2, none⟩ (.int .u32 t1.f1.f1)) ⟨g4, 3, none⟩ (.int .u32 t1.f1.f2)) ⟨g4, 4, none⟩ (.int .u32 t1.f1.f3)) ⟨g4, 5, none⟩ (.int .u32 t1.f1.f4)) ⟨g4, 6, none⟩ (.int .u32 t1.f1.f5))) ?hg ?ho ?hn ?hr ?_; (case ho => rfl); (case hg => rfl); (case hn => rfl); (case hr => (try simp only [Act.put, List.setIfInBounds_toArray, List.set_cons_zero, List.set_cons_succ]); exact run_put7_ rfl (show _ = Value.pointer (some ⟨g4, 0, none⟩) from by rfl) (show _ = Value.agg #[.bool t1.f0, .int .u32 t1.f1.f0, .int .u32 t1.f1.f1, .int .u32 t1.f1.f2, .int .u32 t1.f1.f3, .int .u32 t1.f1.f4, .int .u32 t1.f1.f5] from by rfl) (HO.out.at 0 rfl) (by kernel_rfl) (by rfl)); intro w7 hw; replace HO := Aside0.mk (HO.out.put7 0 rfl hw rfl); clear hw; obtain ⟨hx0, hx1, hx2, hx3, hx4, hx5, hx6⟩ := el24 (Kd.C_below HR.out HO.out.bel) i pi qi) | (go_at_call 92; (with_reducible refine (spec_l02Up.calls k1 (rd_T24 l0 i) _ t3 e3 _ M2.out).mono ?_); rintro e w8 ⟨rfl, hb⟩; replace HO := Aside0.mk (HO.out.below hb); clear hb; clear hx0 hx1 hx2 hx3 hx4 hx5 hx6) | ((with_reducible refine gate_dst (N := 13) rfl ?_); refine box_event ?hg (N := 13) ?hd (cs := #[.bool false, .int .u32 0, .int .u32 0, .int .u32 0, .int .u32 0, .int .u32 0, .int .u32 0]) (t := 25) ?hr ?_; (case hd => rfl); (case hg => rfl); (case hr => first | (go_simp; done) | (go_simp; rfl)); intro g5 hg w9 hbox hb; replace HO := Aside0.mk (HO.out.box hg hbox hb); clear hg hbox hb) | ((with_reducible refine gate_store (t := 25) (p := 13) rfl ?_); refine store_event (t := 25) (p := 13) (v := ?vo_9) (w1 := (World.setCell (World.setCell (World.setCell (World.setCell (World.setCell (World.setCell (World.setCell w9 ⟨g5, 0, none⟩ (.bool t3.f0)) ⟨g5, 1, none⟩ (.int .u32 t3.f1.f0)) ⟨g5, 2, none⟩ (.int .u32 t3.f1.f1)) ⟨g5, 3, none⟩ (.int .u32 t3.f1.f2)) ⟨g5, 4, none⟩ (.int .u32 t3.f1.f3)) ⟨g5, 5, none⟩ (.int .u32 t3.f1.f4)) ⟨g5, 6, none⟩ (.int .u32 t3.f1.f5))) ?hg ?ho ?hn ?hr ?_; (case ho => rfl); (case hg => rfl); (case hn => rfl); (case hr => (try simp only [Act.put, List.setIfInBounds_toArray, List.set_cons_zero, List.set_cons_succ]); exact run_put7_ rfl (show _ = Value.pointer (some ⟨g5, 0, none⟩) from by rfl) (show _ = Value.agg #[.bool t3.f0, .int .u32 t3.f1.f0, .int .u32 t3.f1.f1, .int .u32 t3.f1.f2, .int .u32 t3.f1.f3, .int .u32 t3.f1.f4, .int .u32 t3.f1.f5] from by rfl) (HO.out.at 0 rfl) (by kernel_rfl) (by rfl)); intro w10 hw; replace HO := Aside0.mk (HO.out.put7 0 rfl hw rfl); clear hw; obtain ⟨hm0, hm1, hm2, hm3, hm4, hm5, hm6⟩ := cells7_ (HO.out.at 1 rfl); obtain ⟨hn0, hn1, hn2, hn3, hn4, hn5, hn6⟩ := cells7_ (HO.out.at 0 rfl)) | (go_at_call 84; (with_reducible refine (spec_l01Add.calls k1 t1 t3 t5 e5 _ M3.out).mono ?_); rintro e w11 ⟨rfl, hb⟩; replace HO := Aside0.mk (HO.out.below hb); clear hb; clear hm0 hm1 hm2 hm3 hm4 hm5 hm6 hn0 hn1 hn2 hn3 hn4 hn5 hn6) | ((with_reducible refine gate_dst (N := 15) rfl ?_); refine box_event ?hg (N := 15) ?hd (cs := #[.bool false, .int .u32 0, .int .u32 0, .int .u32 0, .int .u32 0, .int .u32 0, .int .u32 0]) (t := 25) ?hr ?_; (case hd => rfl); (case hg => rfl); (case hr => first | (go_simp; done) | (go_simp; rfl)); intro g6 hg w12 hbox hb; replace HO := Aside0.mk (HO.out.box hg hbox hb); clear hg hbox hb) | ((with_reducible refine gate_store (t := 25) (p := 15) rfl ?_); refine store_event (t := 25) (p := 15) (v := ?vo_10) (w1 := (World.setCell (World.setCell (World.setCell (World.setCell (World.setCell (World.setCell (World.setCell w12 ⟨g6, 0, none⟩ (.bool t5.f0)) ⟨g6, 1, none⟩ (.int .u32 t5.f1.f0)) ⟨g6, 2, none⟩ (.int .u32 t5.f1.f1)) ⟨g6, 3, none⟩ (.int .u32 t5.f1.f2)) ⟨g6, 4, none⟩ (.int .u32 t5.f1.f3)) ⟨g6, 5, none⟩ (.int .u32 t5.f1.f4)) ⟨g6, 6, none⟩ (.int .u32 t5.f1.f5))) ?hg ?ho ?hn ?hr ?_; (case ho => rfl); (case hg => rfl); (case hn => rfl); (case hr => (try simp only [Act.put, List.setIfInBounds_toArray, List.set_cons_zero, List.set_cons_succ]); exact run_put7_ rfl (show _ = Value.pointer (some ⟨g6, 0, none⟩) from by rfl) (show _ = Value.agg #[.bool t5.f0, .int .u32 t5.f1.f0, .int .u32 t5.f1.f1, .int .u32 t5.f1.f2, .int .u32 t5.f1.f3, .int .u32 t5.f1.f4, .int .u32 t5.f1.f5] from by rfl) (HO.out.at 0 rfl) (by kernel_rfl) (by rfl)); intro w13 hw; replace HO := Aside0.mk (HO.out.put7 0 rfl hw rfl); clear hw) | ((with_reducible refine gate_store (t := 25) (p := 6) rfl ?_); refine store_event (t := 25) (p := 6) (v := ?vo_11) (w1 := (World.setCell (World.setCell (World.setCell (World.setCell (World.setCell (World.setCell (World.setCell w13 ⟨g2, 0, none⟩ (.bool false)) ⟨g2, 1, none⟩ (.int .u32 0)) ⟨g2, 2, none⟩ (.int .u32 0)) ⟨g2, 3, none⟩ (.int .u32 0)) ⟨g2, 4, none⟩ (.int .u32 0)) ⟨g2, 5, none⟩ (.int .u32 0)) ⟨g2, 6, none⟩ (.int .u32 0))) ?hg ?ho ?hn ?hr ?_; (case ho => rfl); (case hg => rfl); (case hn => rfl); (case hr => (try simp only [Act.put, List.setIfInBounds_toArray, List.set_cons_zero, List.set_cons_succ]); exact run_put7_ rfl (show _ = Value.pointer (some ⟨g2, 0, none⟩) from by rfl) (show _ = Value.agg #[.bool false, .int .u32 0, .int .u32 0, .int .u32 0, .int .u32 0, .int .u32 0, .int .u32 0] from by rfl) (HO.out.at 4 rfl) (by kernel_rfl) (by rfl)); intro w14 hw; replace HO := Aside0.mk (HO.out.put7 4 rfl hw rfl); clear hw))
      refine bodyPost_ret (results_ct rfl _ _ g2 25 #[.bool false, .int .u32 0, .int .u32 0, .int .u32 0, .int .u32 0, .int .u32 0, .int .u32 0] (0, 0) _ rfl (HO.out.at 4 rfl) Try.underlying25 rfl (by kernel_rfl)) rfl ?_
      exact ⟨rfl, HO.out.bel⟩
    rw [if_pos z3] at h
    have x3 : (e5 == 0) = true := by rw [z3]; rfl
    have y3 : (e5 = 0) = True := eq_true z3
    have H := Aside0.mk h
    clear h
    go_wp2_with (first | (go_at_call 82; (with_reducible refine (spec_l01Mul.calls k1 x a1 t1 e1 _ M1.out).mono ?_); rintro e w5 ⟨rfl, hb⟩; replace HO := Aside0.mk (HO.out.below hb); clear hb; clear hm0 hm1 hm2 hm3 hm4 hm5 hm6 hn0 hn1 hn2 hn3 hn4 hn5 hn6) | ((with_reducible refine gate_dst (N := 11) rfl ?_); refine box_event ?hg (N := 11) ?hd (cs := #[.bool false, .int .u32 0, .int .u32 0, .int .u32 0, .int .u32 0, .int .u32 0, .int .u32 0]) (t := 25) ?hr ?_; (case hd => rfl); (case hg => rfl); (case hr => first | (go_simp; done) | (go_simp; rfl)); intro g4 hg w6 hbox hb; replace HO := Aside0.mk (HO.out.box hg hbox hb); clear hg hbox hb) | ((with_reducible refine gate_store (t := 25) (p := 11) rfl ?_); refine store_event (t := 25) (p := 11) (v := ?vo_12) (w1 := (World.setCell (World.setCell (World.setCell (World.setCell (World.setCell (World.setCell (World.setCell w6 ⟨g4, 0, none⟩ (.bool t1.f0)) ⟨g4, 1, none⟩ (.int .u32 t1.f1.f0)) ⟨g4, 2, none⟩ (.int .u32 t1.f1.f1)) ⟨g4, 3, none⟩ (.int .u32 t1.f1.f2)) ⟨g4, 4, none⟩ (.int .u32 t1.f1.f3)) ⟨g4, 5, none⟩ (.int .u32 t1.f1.f4)) ⟨g4, 6, none⟩ (.int .u32 t1.f1.f5))) ?hg ?ho ?hn ?hr ?_; (case ho => rfl); (case hg => rfl); (case hn => rfl); (case hr => (try simp only [Act.put, List.setIfInBounds_toArray, List.set_cons_zero, List.set_cons_succ]); exact run_put7_ rfl (show _ = Value.pointer (some ⟨g4, 0, none⟩) from by rfl) (show _ = Value.agg #[.bool t1.f0, .int .u32 t1.f1.f0, .int .u32 t1.f1.f1, .int .u32 t1.f1.f2, .int .u32 t1.f1.f3, .int .u32 t1.f1.f4, .int .u32 t1.f1.f5] from by rfl) (HO.out.at 0 rfl) (by kernel_rfl) (by rfl)); intro w7 hw; replace HO := Aside0.mk (HO.out.put7 0 rfl hw rfl); clear hw; obtain ⟨hx0, hx1, hx2, hx3, hx4, hx5, hx6⟩ := el24 (Kd.C_below HR.out HO.out.bel) i pi qi) | (go_at_call 92; (with_reducible refine (spec_l02Up.calls k1 (rd_T24 l0 i) _ t3 e3 _ M2.out).mono ?_); rintro e w8 ⟨rfl, hb⟩; replace HO := Aside0.mk (HO.out.below hb); clear hb; clear hx0 hx1 hx2 hx3 hx4 hx5 hx6) | ((with_reducible refine gate_dst (N := 13) rfl ?_); refine box_event ?hg (N := 13) ?hd (cs := #[.bool false, .int .u32 0, .int .u32 0, .int .u32 0, .int .u32 0, .int .u32 0, .int .u32 0]) (t := 25) ?hr ?_; (case hd => rfl); (case hg => rfl); (case hr => first | (go_simp; done) | (go_simp; rfl)); intro g5 hg w9 hbox hb; replace HO := Aside0.mk (HO.out.box hg hbox hb); clear hg hbox hb) | ((with_reducible refine gate_store (t := 25) (p := 13) rfl ?_); refine store_event (t := 25) (p := 13) (v := ?vo_13) (w1 := (World.setCell (World.setCell (World.setCell (World.setCell (World.setCell (World.setCell (World.setCell w9 ⟨g5, 0, none⟩ (.bool t3.f0)) ⟨g5, 1, none⟩ (.int .u32 t3.f1.f0)) ⟨g5, 2, none⟩ (.int .u32 t3.f1.f1)) ⟨g5, 3, none⟩ (.int .u32 t3.f1.f2)) ⟨g5, 4, none⟩ (.int .u32 t3.f1.f3)) ⟨g5, 5, none⟩ (.int .u32 t3.f1.f4)) ⟨g5, 6, none⟩ (.int .u32 t3.f1.f5))) ?hg ?ho ?hn ?hr ?_; (case ho => rfl); (case hg => rfl); (case hn => rfl); (case hr => (try simp only [Act.put, List.setIfInBounds_toArray, List.set_cons_zero, List.set_cons_succ]); exact run_put7_ rfl (show _ = Value.pointer (some ⟨g5, 0, none⟩) from by rfl) (show _ = Value.agg #[.bool t3.f0, .int .u32 t3.f1.f0, .int .u32 t3.f1.f1, .int .u32 t3.f1.f2, .int .u32 t3.f1.f3, .int .u32 t3.f1.f4, .int .u32 t3.f1.f5] from by rfl) (HO.out.at 0 rfl) (by kernel_rfl) (by rfl)); intro w10 hw; replace HO := Aside0.mk (HO.out.put7 0 rfl hw rfl); clear hw; obtain ⟨hm0, hm1, hm2, hm3, hm4, hm5, hm6⟩ := cells7_ (HO.out.at 1 rfl); obtain ⟨hn0, hn1, hn2, hn3, hn4, hn5, hn6⟩ := cells7_ (HO.out.at 0 rfl)) | (go_at_call 84; (with_reducible refine (spec_l01Add.calls k1 t1 t3 t5 e5 _ M3.out).mono ?_); rintro e w11 ⟨rfl, hb⟩; replace HO := Aside0.mk (HO.out.below hb); clear hb; clear hm0 hm1 hm2 hm3 hm4 hm5 hm6 hn0 hn1 hn2 hn3 hn4 hn5 hn6) | ((with_reducible refine gate_dst (N := 15) rfl ?_); refine box_event ?hg (N := 15) ?hd (cs := #[.bool false, .int .u32 0, .int .u32 0, .int .u32 0, .int .u32 0, .int .u32 0, .int .u32 0]) (t := 25) ?hr ?_; (case hd => rfl); (case hg => rfl); (case hr => first | (go_simp; done) | (go_simp; rfl)); intro g6 hg w12 hbox hb; replace HO := Aside0.mk (HO.out.box hg hbox hb); clear hg hbox hb) | ((with_reducible refine gate_store (t := 25) (p := 15) rfl ?_); refine store_event (t := 25) (p := 15) (v := ?vo_14) (w1 := (World.setCell (World.setCell (World.setCell (World.setCell (World.setCell (World.setCell (World.setCell w12 ⟨g6, 0, none⟩ (.bool t5.f0)) ⟨g6, 1, none⟩ (.int .u32 t5.f1.f0)) ⟨g6, 2, none⟩ (.int .u32 t5.f1.f1)) ⟨g6, 3, none⟩ (.int .u32 t5.f1.f2)) ⟨g6, 4, none⟩ (.int .u32 t5.f1.f3)) ⟨g6, 5, none⟩ (.int .u32 t5.f1.f4)) ⟨g6, 6, none⟩ (.int .u32 t5.f1.f5))) ?hg ?ho ?hn ?hr ?_; (case ho => rfl); (case hg => rfl); (case hn => rfl); (case hr => (try simp only [Act.put, List.setIfInBounds_toArray, List.set_cons_zero, List.set_cons_succ]); exact run_put7_ rfl (show _ = Value.pointer (some ⟨g6, 0, none⟩) from by rfl) (show _ = Value.agg #[.bool t5.f0, .int .u32 t5.f1.f0, .int .u32 t5.f1.f1, .int .u32 t5.f1.f2, .int .u32 t5.f1.f3, .int .u32 t5.f1.f4, .int .u32 t5.f1.f5] from by rfl) (HO.out.at 0 rfl) (by kernel_rfl) (by rfl)); intro w13 hw; replace HO := Aside0.mk (HO.out.put7 0 rfl hw rfl); clear hw; obtain ⟨hm0, hm1, hm2, hm3, hm4, hm5, hm6⟩ := cells7_ (HO.out.at 0 rfl)) | ((with_reducible refine gate_store (t := 25) (p := 9) rfl ?_); refine store_event (t := 25) (p := 9) (v := ?vo_15) (w1 := (World.setCell (World.setCell (World.setCell (World.setCell (World.setCell (World.setCell (World.setCell w13 ⟨g3, 0, none⟩ (.bool t5.f0)) ⟨g3, 1, none⟩ (.int .u32 t5.f1.f0)) ⟨g3, 2, none⟩ (.int .u32 t5.f1.f1)) ⟨g3, 3, none⟩ (.int .u32 t5.f1.f2)) ⟨g3, 4, none⟩ (.int .u32 t5.f1.f3)) ⟨g3, 5, none⟩ (.int .u32 t5.f1.f4)) ⟨g3, 6, none⟩ (.int .u32 t5.f1.f5))) ?hg ?ho ?hn ?hr ?_; (case ho => rfl); (case hg => rfl); (case hn => rfl); (case hr => (try simp only [Act.put, List.setIfInBounds_toArray, List.set_cons_zero, List.set_cons_succ]); exact run_put7_ rfl (show _ = Value.pointer (some ⟨g3, 0, none⟩) from by rfl) (show _ = Value.agg #[.bool t5.f0, .int .u32 t5.f1.f0, .int .u32 t5.f1.f1, .int .u32 t5.f1.f2, .int .u32 t5.f1.f3, .int .u32 t5.f1.f4, .int .u32 t5.f1.f5] from by rfl) (HO.out.at 3 rfl) (by kernel_rfl) (by rfl)); intro w14 hw; replace HO := Aside0.mk (HO.out.put7 3 rfl hw rfl); clear hw; clear hm0 hm1 hm2 hm3 hm4 hm5 hm6))
    go_roundg k1
    case measure => omega
    case rel => exact ⟨wrap64 (i - 1), t5, rfl, H, ⟨by have := HK.out; omega⟩, ⟨HO.out.drop.drop.drop⟩⟩


set_option linter.defProp false
def aM83_ := @Aside0.mk
theorem q83x1_ {P : Prop} (h : P := by (with_reducible repeat (first | refine blk_drewN ?_ _ | refine blk_drew ?_ | refine blk_alloc ?_ _)); exact BK184.out) : P := h
theorem q83x2_ {P : Prop} (h : P := by repeat (first | (with_reducible first | exact HB.out | apply below_alloc | apply pw_below_drewN | apply below_drew1 | refine below_set ?_ GE184.out) | exact HB.out)) : P := h
theorem q83x3_ {P : Prop} (h : P := by repeat (first | (with_reducible first | exact HB.out | apply below_alloc | apply pw_below_drewN | apply below_drew1 | refine below_set ?_ GE184.out | refine below_set ?_ GE185.out) | exact HB.out)) : P := h
theorem q83x4_ {P : Prop} (h : P := by repeat (first | (with_reducible first | exact HB.out | apply below_alloc | apply pw_below_drewN | apply below_drew1 | refine below_set ?_ GE184.out | refine below_set ?_ GE187.out) | exact HB.out)) : P := h
theorem q83x5_ {P : Prop} (h : P := by repeat (first | (with_reducible first | exact HB.out | apply below_alloc | apply pw_below_drewN | apply below_drew1) | exact HB.out)) : P := h
theorem q83x6_ {P : Prop} (h : P := by rw [hw]; exact (by (with_reducible repeat (first | refine blk_drewN ?_ _ | refine blk_drew ?_ | refine blk_alloc ?_ _ | refine blk_far ?_ NB184_185.out _)); (with_reducible repeat (first | refine blk_drewN ?_ _ | refine blk_drew ?_ | refine blk_alloc ?_ _)); exact BK184.out)) : P := h
theorem q83x7_ {P : Prop} (h : P := by rw [hw]; exact (by (with_reducible repeat (first | refine blk_drewN ?_ _ | refine blk_drew ?_ | refine blk_alloc ?_ _ | refine blk_far ?_ NB184_187.out _)); (with_reducible repeat (first | refine blk_drewN ?_ _ | refine blk_drew ?_ | refine blk_alloc ?_ _)); exact BK184.out)) : P := h
theorem q83x8_ {P : Prop} (h : P := by rw [hw]; exact (by (with_reducible repeat (first | refine blk_drewN ?_ _ | refine blk_drew ?_ | refine blk_alloc ?_ _)); refine puts7_ (.bool false) (.int .u32 0) (.int .u32 0) (.int .u32 0) (.int .u32 0) (.int .u32 0) (.int .u32 0) ?_; (with_reducible repeat (first | refine blk_drewN ?_ _ | refine blk_drew ?_ | refine blk_alloc ?_ _)); exact BK184.out)) : P := h
theorem q83x9_ {P : Prop} (h : P := by (try simp only [List.map_toArray, List.map_cons, List.map_nil]); first | done | rfl | (simp only [List.length_drop, List.length_take]; rfl) | (simp only [List.drop_one]; done) | (simp only [List.drop_one]; rfl)) : P := h
theorem q83x10_ {P : Prop} (h : P := by rw [hg]; exact Nat.ne_of_lt (blk_lt (g := gb184) (o := .cells #[.bool false, .int .u32 0, .int .u32 0, .int .u32 0, .int .u32 0, .int .u32 0, .int .u32 0] 25 (0, 0)) q83x1_)) : P := h
theorem q83x11_ {P : Prop} (h : P := by rw [hg]; exact Nat.ne_of_gt (blk_lt (g := gb184) (o := .cells #[.bool false, .int .u32 0, .int .u32 0, .int .u32 0, .int .u32 0, .int .u32 0, .int .u32 0] 25 (0, 0)) q83x1_)) : P := h
/-! ### spec_l01Of: function 83 -/
def spec_l01Of.f (a0 : Int) : Option (S24) := if -9223372036854775808 ≤ a0 ∧ a0 < 9223372036854775808 then some (wenc a0) else none
theorem spec_l01Of.calls (a0 : Int) (r : S24) (w : World) (h : spec_l01Of.f a0 = some r) :
  Calls Try.prog 83 #[.int .i64 a0] w fun e w' => e = .returned (.agg #[.bool r.f0, .int .u32 r.f1.f0, .int .u32 r.f1.f1, .int .u32 r.f1.f2, .int .u32 r.f1.f3, .int .u32 r.f1.f4, .int .u32 r.f1.f5]) ∧ Below w.heap.size w w' := by
 unfold spec_l01Of.f at h
 split at h
 · rename_i c
   obtain rfl := Option.some.inj h
   exact Wide.sOf w a0 c.1 c.2
 · exact absurd h (by simp)


/-! ### spec_l05Wides: function 55 -/
def spec_l05Wides.l0 : Nat → List Int → List (S24) → Int → Option ((List (S24)))
  | 0, _, _, _ => none
  | k + 1, x0, x3, x4 => if x4 < (x0.length : Int) then (if 0 ≤ x4 then ((spec_l01Of.f (rd x0 x4)).bind fun t193 => (if x3.length < 5026338869833 then (spec_l05Wides.l0 k x0 (x3 ++ [t193]) (wrap64 (x4 + 1))) else (none))) else (none)) else (some x3)
def spec_l05Wides.f (k : Nat) (l0 : List Int) : Option ((List (S24))) := spec_l05Wides.l0 k l0 (([] : List (S24))) 0
theorem spec_l05Wides.mono_l : ∀ k, (∀ y0 y1 y2, LeO (spec_l05Wides.l0 k y0 y1 y2) (spec_l05Wides.l0 (k + 1) y0 y1 y2))
  | 0 => fun _ _ _ r h => by simp [spec_l05Wides.l0] at h
  | k + 1 => by
    have ih0 := spec_l05Wides.mono_l k
    · intro y0 y1 y2
      unfold spec_l05Wides.l0
      repeat' first
      | (with_reducible exact ih0 _ _ _)
      | (with_reducible exact LeO.refl _)
      | (with_reducible exact LeO.none _)
      | (with_reducible refine LeO.ite ?_ ?_)
      | (with_reducible refine LeO.bind ?_ (fun _ => ?_))
      | exact ih0 _ _ _
      | exact LeO.none _
      | refine LeO.ite ?_ ?_
      | refine LeO.bind ?_ (fun _ => ?_)
theorem spec_l05Wides.mono : ∀ a0 k, LeO (spec_l05Wides.f k a0) (spec_l05Wides.f (k + 1) a0) := by
  intro a0 k
  have ih0 := spec_l05Wides.mono_l k
  unfold spec_l05Wides.f
  repeat' first
      | (with_reducible exact ih0 _ _ _)
      | (with_reducible exact LeO.refl _)
      | (with_reducible exact LeO.none _)
      | (with_reducible refine LeO.ite ?_ ?_)
      | (with_reducible refine LeO.bind ?_ (fun _ => ?_))
      | exact ih0 _ _ _
      | exact LeO.none _
      | refine LeO.ite ?_ ?_
      | refine LeO.bind ?_ (fun _ => ?_)
set_option maxHeartbeats 8000000 in
set_option maxRecDepth 100000 in
theorem spec_l05Wides.calls (k : Nat) (A0 : Option Addr) (c0 : Nat) (l0 : List Int) (r : List (S24)) (w : World) (hr0 : Kd.C (Kd.int .i64) w A0 l0.length l0) (hc0 : l0.length ≤ c0) (h : spec_l05Wides.f k l0 = some r) :
    Calls Try.prog 55 #[.slice A0 l0.length c0] w fun e w' => ∃ v0_ : Value, e = .returned (v0_) ∧ Kd.R k24 25 w' w.heap.size (fun _ => True) v0_ r ∧ Below w.heap.size w w' := by
  have HR0 := Aside0.mk hr0
  have HC0 := Aside0.mk hc0
  clear hr0 hc0
  have HB := Aside0.mk (Below.refl w.heap.size w)
  have H : (spec_l05Wides.l0 k l0 (([] : List (S24))) 0) = some r := h
  clear h
  obtain ⟨y189, hy189⟩ : ∃ y_ : List (S24), y_ = (([] : List (S24))) := ⟨_, rfl⟩
  replace H : (spec_l05Wides.l0 k l0 y189 0) = some r := by first | (rw [hy189]; with_reducible exact H) | (have H2_ := (Option.bind_some _ _).symm.trans H; rw [hy189]; with_reducible exact H2_) | (have H2_ := (Option.bind_some _ _).symm.trans H; with_reducible exact H2_) | with_reducible exact H | (rw [hy189]; exact H) | exact H
  have Ny189 := Aside0.mk hy189
  clear hy189
  have H' := Aside0.mk H
  clear H
  go_enter Try.func55, Try.ntmps55
  go_wp2_with (first | ((with_reducible refine gate_dst (N := 5) rfl ?_); refine Kd.R_lit k24 _ 25 ?hg (N := 5) ?hd (xs := ([] : List (S24))) (inner := []) (ok := fun _ => True) (okp := fun _ => True) ?hr ?hp (fun _ hk => hk) trivial (Below.refl _ _) (Nat.le_refl _) (by simp) ?_; (case hd => rfl); (case hg => rfl); (case hr => first | (go_simp; done) | (go_simp; rfl)); (case hp => exact (Reps.none _ _)); intro v190 w2 ho3 hb hg_ hnew_; clear hg_ hnew_; (first | rw [← Ny189.out] at ho3 | (simp only [Int.reduceToNat] at ho3; rw [← Ny189.out] at ho3)); have n0_ := Aside0.mk (Kd.R_lower ho3 (below_size (by repeat (first | (with_reducible first | exact HB.out | apply below_alloc | apply pw_below_drewN | apply below_drew1) | exact HB.out)))); have n1_ := Aside0.mk (below_step (by repeat (first | (with_reducible first | exact HB.out | apply below_alloc | apply pw_below_drewN | apply below_drew1) | exact HB.out)) hb); clear HB; have HO191 := n0_; have HB := n1_; clear n0_ n1_; clear hb ho3))
  go_loopg [3, 4] k (fun kq v3 v4 w' => ∃ (x3_1 : List (S24)) (x4_1 : Int), v4 = .int .i64 x4_1 ∧ Aside0 (spec_l05Wides.l0 kq l0 x3_1 x4_1 = some r) ∧ Aside0 (kq ≤ k) ∧ Aside0 (Kd.R k24 25 w' w.heap.size (fun _ => True) v3 x3_1) ∧ Aside0 (Below w.heap.size w w'))
  case atStart => exact ⟨(y189), (0), (by first | rfl | (simp; done) | (simp [*]; done)), H', ⟨Nat.le_refl _⟩, ⟨by (with_reducible repeat (first | apply Kd.R_alloc | apply Kd.R_drewN | apply Kd.R_drew)); exact HO191.out⟩, ⟨by repeat (first | (with_reducible first | exact HB.out | apply below_alloc | apply pw_below_drewN | apply below_drew1) | exact HB.out)⟩⟩
  case round =>
    clear H'
    try clear p2
    obtain ⟨x3_1, x4_1, rfl, HA, HK1, HO_3, HB⟩ := hrel
    cases gk with
    | zero => exact absurd HA.out (by simp [spec_l05Wides.l0])
    | succ k1 =>
      have H := HA.out
      clear HA
      simp only [spec_l05Wides.l0] at H
      by_cases c4 : x4_1 < (l0.length : Int)
      · rw [if_pos c4] at H
        have c4b0 : decide (x4_1 < (l0.length : Int)) = true := decide_eq_true c4
        clear c4
        by_cases c5 : 0 ≤ x4_1
        · rw [if_pos c5] at H
          have c5b0 : decide (0 ≤ x4_1) = true := decide_eq_true c5
          clear c5
          replace H := Option.bind_eq_some_iff.mp H
          obtain ⟨t193, A60, H⟩ := H
          replace H : (if x3_1.length < 5026338869833 then (spec_l05Wides.l0 k1 l0 (x3_1 ++ [t193]) (wrap64 (x4_1 + 1))) else (none)) = some r := H
          have A6 := Aside0.mk A60
          clear A60
          by_cases c7 : x3_1.length < 5026338869833
          · rw [if_pos c7] at H
            have LMc7 := Aside0.mk c7
            clear c7
            obtain ⟨y194, hy194⟩ : ∃ y_ : List (S24), y_ = (x3_1 ++ [t193]) := ⟨_, rfl⟩
            replace H : (spec_l05Wides.l0 k1 l0 y194 (wrap64 (x4_1 + 1))) = some r := by first | (rw [hy194]; with_reducible exact H) | (have H2_ := (Option.bind_some _ _).symm.trans H; rw [hy194]; with_reducible exact H2_) | (have H2_ := (Option.bind_some _ _).symm.trans H; with_reducible exact H2_) | with_reducible exact H | (rw [hy194]; exact H) | exact H
            have Ny194 := Aside0.mk hy194
            clear hy194
            have H' := Aside0.mk H
            clear H
            have p192 : 0 ≤ (x4_1 : Int) := of_decide_eq_true (by first | (with_reducible assumption) | assumption)
            have q192 : x4_1 < (l0.length : Int) := of_decide_eq_true (by first | (with_reducible assumption) | assumption)
            obtain ⟨ad192, e192, hx192_0⟩ := Kd.at_int HR0.out x4_1 p192 q192
            cases e192
            replace hx192_0 := (HB.out.cell (World.block_lt_of_cell? w _ hx192_0)).trans hx192_0
            replace p192 := eq_true p192
            replace q192 := eq_true q192
            go_wp2_with (first | ((with_reducible refine gate_callee (f := 83) rfl ?_); refine goesL_ (some 17) rfl rfl Try.func83 (by kernel_rfl) rfl #[.int .i64 (rd l0 x4_1)] rfl (by (try simp only [List.map_toArray, List.map_cons, List.map_nil]); first | done | rfl | (simp only [List.length_drop, List.length_take]; rfl) | (simp only [List.drop_one]; done) | (simp only [List.drop_one]; rfl)) ?_; (with_reducible refine (spec_l01Of.calls (rd l0 x4_1) t193 _ A6.out).mono ?_); rintro e w8 ⟨rfl, hb⟩; refine ⟨_, rfl, ?_⟩; have n0_ := Aside0.mk (Kd.R_below (by (with_reducible repeat (first | apply Kd.R_alloc | apply Kd.R_drewN | apply Kd.R_drew)); exact HO_3.out) hb); have n1_ := Aside0.mk (below_step (by repeat (first | (with_reducible first | exact HB.out | apply below_alloc | apply pw_below_drewN | apply below_drew1) | exact HB.out)) hb); clear HO_3 HB; have HO_3 := n0_; have HB := n1_; clear n0_ n1_; (try clear hb); (try clear hb2); (try clear hk); (try clear hi)) | ((with_reducible refine gate_builtin (b := .append) (xs := #[.tmp 12, .tmp 18]) rfl ?_); at_builtin; refine Kd.R_append k24 (w0 := w) w.heap.size rfl (.tmp 12) (.tmp 18) 47 25 (.agg #[(.bool false), (.int .u32 0), (.int .u32 0), (.int .u32 0), (.int .u32 0), (.int .u32 0), (.int .u32 0)]) 28 rfl Try.underlying47 info25 rfl (by decide) (by omega) u3 x3_1 t193 [.bool t193.f0, .int .u32 t193.f1.f0, .int .u32 t193.f1.f1, .int .u32 t193.f1.f2, .int .u32 t193.f1.f3, .int .u32 t193.f1.f4, .int .u32 t193.f1.f5] (fun _ => True) (fun _ => False) rfl rfl ?aP (fun _ hk => hk.elim) ?aF ?aO ?aB ?aS ?aL ?_; (case aP => exact k24_mkM _ _ _ t193); (case aB => exact (by repeat (first | (with_reducible first | exact HB.out | apply below_alloc | apply pw_below_drewN | apply below_drew1) | exact HB.out))); (case aF => exact (fun _ _ => trivial)); (case aO => exact (by (with_reducible repeat (first | apply Kd.R_alloc | apply Kd.R_drewN | apply Kd.R_drew)); exact HO_3.out)); (case aS => exact (below_size (by repeat (first | (with_reducible first | exact HB.out | apply below_alloc | apply pw_below_drewN | apply below_drew1) | exact HB.out)))); (case aL => have := LMc7.out; omega); intro v195 w9 ho hb hg hat; rw [← Ny194.out] at ho; have n0_ := Aside0.mk (hb); have n1_ := Aside0.mk (ho); clear HB HO_3; have HB := n0_; have HO196 := n1_; clear n0_ n1_; clear ho hb hg hat))
            go_roundg k1
            case measure => have := HK1.out; omega
            case rel => exact ⟨(y194), (wrap64 (x4_1 + 1)), (by first | rfl | (simp; done) | (simp [*]; done)), H', ⟨by have := HK1.out; omega⟩, ⟨by (with_reducible repeat (first | apply Kd.R_alloc | apply Kd.R_drewN | apply Kd.R_drew)); exact HO196.out⟩, ⟨by repeat (first | (with_reducible first | exact HB.out | apply below_alloc | apply pw_below_drewN | apply below_drew1) | exact HB.out)⟩⟩
          · rw [if_neg c7] at H
            exact absurd H (by simp)
        · rw [if_neg c5] at H
          exact absurd H (by simp)
      · rw [if_neg c4] at H
        have c4b0 : decide (x4_1 < (l0.length : Int)) = false := decide_eq_false c4
        clear c4
        obtain rfl := Option.some.inj H
        go_wp2
        go_ret
        exact ⟨_, by first | rfl | (simp [errW_none, errW_some] <;> rfl) | (simp [*, errW_none, errW_some] <;> rfl), by (with_reducible repeat (first | apply Kd.R_alloc | apply Kd.R_drewN | apply Kd.R_drew)); exact HO_3.out, by repeat (first | (with_reducible first | exact HB.out | apply below_alloc | apply pw_below_drewN | apply below_drew1) | exact HB.out)⟩

end Go.Proofs.Ytbomadebdekjjaa.MFnExactValueAt
