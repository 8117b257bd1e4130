/- Functions of the program as Lean functions, and the proof that the code comes to what they say. Written by a program of this session (myprint.py). -/
import Derived.Test.YtlccefmimpmgjaaMFnExactReachedTreex0
import Derived.Test.YtlccefmimpmgjaaMFnExactReachedTreex3
import Derived.Test.YtlccefmimpmgjaaMFnExactReachedTreex4
namespace Go.Proofs.Ytlccefmimpmgjaa.MFnExactReachedTree
open Go.RowKit Go.Proofs.Ytlccefmimpmgjaa.MOpen Go.Proofs.YtlccefmimpmgjaaW.PrintWords Go.Proofs.YtlccefmimpmgjaaW.PrintLast Go.Proofs.YtlccefmimpmgjaaW.PrintMore
attribute [local go_sem] max2_int min2_int max_two min_two max_three min_three max_four min_four   -- for this text's walks alone
set_option linter.unusedVariables false
set_option linter.unusedSimpArgs false

set_option linter.defProp false
def aM71_ := @Aside0.mk
theorem q71x1_ {P : Prop} (h : P := by repeat (first | (with_reducible first | exact HB.out | apply below_alloc | apply pw_below_drewN | apply below_drew1) | exact HB.out)) : P := h
theorem q71x2_ {P : Prop} (h : P := by first | (with_reducible assumption) | assumption) : P := h
theorem q71x3_ {P : Prop} (h : P := by (with_reducible repeat (first | apply Kd.R_alloc | apply Kd.R_drewN | apply Kd.R_drew)); exact HO_3.out) : P := h
theorem q71x4_ {P : Prop} (h : P := by (with_reducible repeat (first | apply Kd.R_alloc | apply Kd.R_drewN | apply Kd.R_drew)); exact HO_4.out) : P := h
theorem q71x5_ {P : Prop} (h : P := by rw [hw]; exact below_set (HB.out) GB5.out) : P := h
theorem q71x6_ {P : Prop} (h : P := by (with_reducible repeat (first | apply Kd.R_alloc | apply Kd.R_drewN | apply Kd.R_drew)); exact HO186.out) : P := h
theorem q71x7_ {P : Prop} (h : P := by first | rfl | (simp; done) | (simp [*]; done)) : P := h
/-! ### spec_l06Reached: function 71 -/
mutual
def spec_l06Reached.l0 : Nat → List Int → List Bool → Int → List (S77) → Option (List Int)
 | 0, _, _, _, _ => none
 | k + 1, x3, x4, x5, x1000 => if x5 < (x3.length : Int) then (if 0 ≤ x5 then (if 0 ≤ (rd x3 x5) then (if (rd x3 x5) < (x1000.length : Int) then (spec_l06Reached.l1 k x3 x4 x5 0 (rd x3 x5) x1000) else (none)) else (none)) else (none)) else (some x3)
def spec_l06Reached.l1 : Nat → List Int → List Bool → Int → Int → Int → List (S77) → Option (List Int)
 | 0, _, _, _, _, _, _ => none
 | k + 1, x3, x4, x5, x7, x30, x1000 => if 0 ≤ x30 then (if x30 < (x1000.length : Int) then (if ((rd_T77 x1000 x30).f0) = 1 then (if x7 < 3 then (if x7 = 0 then (if 0 ≤ ((rd_T77 x1000 x30).f2.f0) then (if ((rd_T77 x1000 x30).f2.f0) < (x4.length : Int) then (if (rdOf false x4 ((rd_T77 x1000 x30).f2.f0) = true) then (spec_l06Reached.l1 k x3 x4 x5 (0 + 1) x30 x1000) else (if x3.length < 70368744177664 then (spec_l06Reached.l1 k (x3 ++ [(rd_T77 x1000 x30).f2.f0]) (x4.set (((rd_T77 x1000 x30).f2.f0) : Int).toNat true) x5 (0 + 1) x30 x1000) else (none))) else (none)) else (none)) else (if x7 = 1 then (if 0 ≤ ((rd_T77 x1000 x30).f2.f1) then (if ((rd_T77 x1000 x30).f2.f1) < (x4.length : Int) then (if (rdOf false x4 ((rd_T77 x1000 x30).f2.f1) = true) then (spec_l06Reached.l1 k x3 x4 x5 (1 + 1) x30 x1000) else (if x3.length < 70368744177664 then (spec_l06Reached.l1 k (x3 ++ [(rd_T77 x1000 x30).f2.f1]) (x4.set (((rd_T77 x1000 x30).f2.f1) : Int).toNat true) x5 (1 + 1) x30 x1000) else (none))) else (none)) else (none)) else (if x7 = 2 then (if 0 ≤ ((rd_T77 x1000 x30).f2.f2) then (if ((rd_T77 x1000 x30).f2.f2) < (x4.length : Int) then (if (rdOf false x4 ((rd_T77 x1000 x30).f2.f2) = true) then (spec_l06Reached.l1 k x3 x4 x5 (2 + 1) x30 x1000) else (if x3.length < 70368744177664 then (spec_l06Reached.l1 k (x3 ++ [(rd_T77 x1000 x30).f2.f2]) (x4.set (((rd_T77 x1000 x30).f2.f2) : Int).toNat true) x5 (2 + 1) x30 x1000) else (none))) else (none)) else (none)) else (none)))) else (spec_l06Reached.l0 k x3 x4 (wrap64 (x5 + 1)) x1000)) else (if x7 < 1 then (if x7 = 0 then (if 0 ≤ ((rd_T77 x1000 x30).f2.f0) then (if ((rd_T77 x1000 x30).f2.f0) < (x4.length : Int) then (if (rdOf false x4 ((rd_T77 x1000 x30).f2.f0) = true) then (spec_l06Reached.l1 k x3 x4 x5 (0 + 1) x30 x1000) else (if x3.length < 70368744177664 then (spec_l06Reached.l1 k (x3 ++ [(rd_T77 x1000 x30).f2.f0]) (x4.set (((rd_T77 x1000 x30).f2.f0) : Int).toNat true) x5 (0 + 1) x30 x1000) else (none))) else (none)) else (none)) else (none)) else (spec_l06Reached.l0 k x3 x4 (wrap64 (x5 + 1)) x1000))) else (none)) else (none)
end
def spec_l06Reached.f (k : Nat) (l0_0 : List (S77)) : Option (List Int) := if 0 ≤ (l0_0.length : Int) then (if ((l0_0.length : Int) : Int).toNat ≤ 281474976710656 then ((some (List.replicate ((l0_0.length : Int) : Int).toNat false : List Bool)).bind fun y187 => (if 0 < (y187.length : Int) then (spec_l06Reached.l0 k (([0] : List Int)) (y187.set (0 : Int).toNat true) 0 l0_0) else (none))) else (none)) else (none)
theorem spec_l06Reached.mono_l : ∀ k, (∀ y0 y1 y2 y3, LeO (spec_l06Reached.l0 k y0 y1 y2 y3) (spec_l06Reached.l0 (k + 1) y0 y1 y2 y3)) ∧ (∀ y0 y1 y2 y3 y4 y5, LeO (spec_l06Reached.l1 k y0 y1 y2 y3 y4 y5) (spec_l06Reached.l1 (k + 1) y0 y1 y2 y3 y4 y5))
 | 0 => ⟨fun _ _ _ _ r h => by simp [spec_l06Reached.l0] at h, fun _ _ _ _ _ _ r h => by simp [spec_l06Reached.l1] at h⟩
 | k + 1 => by
  obtain ⟨ih0, ih1⟩ := spec_l06Reached.mono_l k
  refine ⟨?_, ?_⟩
  ·intro y0 y1 y2 y3
   unfold spec_l06Reached.l0
   repeat' first
   | (with_reducible exact ih0 _ _ _ _)
   | (with_reducible exact ih1 _ _ _ _ _ _)
   | (with_reducible exact LeO.refl _)
   | (with_reducible exact LeO.none _)
   | (with_reducible refine LeO.ite ?_ ?_)
   | (with_reducible refine LeO.bind ?_ (fun _ => ?_))
   | exact ih0 _ _ _ _
   | exact ih1 _ _ _ _ _ _
   | exact LeO.none _
   | refine LeO.ite ?_ ?_
   | refine LeO.bind ?_ (fun _ => ?_)
  intro y0 y1 y2 y3 y4 y5
  unfold spec_l06Reached.l1
  repeat' first
  | (with_reducible exact ih0 _ _ _ _)
  | (with_reducible exact ih1 _ _ _ _ _ _)
  | (with_reducible exact LeO.refl _)
  | (with_reducible exact LeO.none _)
  | (with_reducible refine LeO.ite ?_ ?_)
  | (with_reducible refine LeO.bind ?_ (fun _ => ?_))
  | exact ih0 _ _ _ _
  | exact ih1 _ _ _ _ _ _
  | exact LeO.none _
  | refine LeO.ite ?_ ?_
  | refine LeO.bind ?_ (fun _ => ?_)
theorem spec_l06Reached.mono : ∀ a0 k, LeO (spec_l06Reached.f k a0) (spec_l06Reached.f (k + 1) a0) := by
 intro a0 k
 obtain ⟨ih0, ih1⟩ := spec_l06Reached.mono_l k
 unfold spec_l06Reached.f
 repeat' first
   | (with_reducible exact ih0 _ _ _ _)
   | (with_reducible exact ih1 _ _ _ _ _ _)
   | (with_reducible exact LeO.refl _)
   | (with_reducible exact LeO.none _)
   | (with_reducible refine LeO.ite ?_ ?_)
   | (with_reducible refine LeO.bind ?_ (fun _ => ?_))
   | exact ih0 _ _ _ _
   | exact ih1 _ _ _ _ _ _
   | exact LeO.none _
   | refine LeO.ite ?_ ?_
   | refine LeO.bind ?_ (fun _ => ?_)
set_option maxHeartbeats 8000000 in
set_option maxRecDepth 100000 in
theorem spec_l06Reached.calls (k : Nat) (B0_ O0_ : Nat) (A0_0 : Option Addr) (c0_0 : Nat) (l0_0 : List (S77)) (r : List Int) (w : World) (hr0_0 : Kd.C k77 w A0_0 l0_0.length l0_0) (hc0_0 : l0_0.length ≤ c0_0) (hq0_ : w.cell? ⟨B0_, O0_, none⟩ = some (.slice A0_0 l0_0.length c0_0)) (h : spec_l06Reached.f k l0_0 = some r) :
  Calls Try.prog 71 #[.pointer (some ⟨B0_, O0_, none⟩)] w fun e w' => ∃ v0_ : Value, e = .returned (v0_) ∧ Kd.R (Kd.int .i16) 74 w' w.heap.size (fun _ => True) v0_ r ∧ Below w.heap.size w w' := by
 have HR0_0 := aM71_ hr0_0
 have HC0_0 := aM71_ hc0_0
 clear hr0_0 hc0_0
 have HQ0_ := aM71_ hq0_
 clear hq0_
 have HB := aM71_ (Below.refl w.heap.size w)
 have H : (if 0 ≤ (l0_0.length : Int) then (if ((l0_0.length : Int) : Int).toNat ≤ 281474976710656 then ((some (List.replicate ((l0_0.length : Int) : Int).toNat false : List Bool)).bind fun y187 => (if 0 < (y187.length : Int) then (spec_l06Reached.l0 k (([0] : List Int)) (y187.set (0 : Int).toNat true) 0 l0_0) else (none))) else (none)) else (none)) = some r := h
 clear h
 obtain ⟨y184, hy184⟩ : ∃ y_ : List Int, y_ = (([0] : List Int)) := ⟨_, rfl⟩
 replace H : (if 0 ≤ (l0_0.length : Int) then (if ((l0_0.length : Int) : Int).toNat ≤ 281474976710656 then ((some (List.replicate ((l0_0.length : Int) : Int).toNat false : List Bool)).bind fun y187 => (if 0 < (y187.length : Int) then (spec_l06Reached.l0 k y184 (y187.set (0 : Int).toNat true) 0 l0_0) else (none))) else (none)) else (none)) = some r := by first | (rw [hy184]; with_reducible exact H) | (have H2_ := (Option.bind_some _ _).symm.trans H; rw [hy184]; with_reducible exact H2_) | (have H2_ := (Option.bind_some _ _).symm.trans H; with_reducible exact H2_) | with_reducible exact H | (rw [hy184]; exact H) | exact H
 have Ny184 := aM71_ hy184
 clear hy184
 by_cases c2 : 0 ≤ (l0_0.length : Int)
 rotate_left
 ·rw [if_neg c2] at H
  exact absurd H (by simp)

 rw [if_pos c2] at H
 have c2b0 := eq_true c2
 have c2b1 : decide (0 ≤ (l0_0.length : Int)) = true := decide_eq_true c2
 clear c2
 by_cases c3 : ((l0_0.length : Int) : Int).toNat ≤ 281474976710656
 rotate_left
 ·rw [if_neg c3] at H
  exact absurd H (by simp)
 rw [if_pos c3] at H
 have c3b0 := eq_true c3
 have c3b1 : decide (((l0_0.length : Int) : Int).toNat ≤ 281474976710656) = true := decide_eq_true c3
 clear c3
 obtain ⟨y187, hy187⟩ : ∃ y_ : List Bool, y_ = (List.replicate ((l0_0.length : Int) : Int).toNat false) := ⟨_, rfl⟩
 replace H : (if 0 < (y187.length : Int) then (spec_l06Reached.l0 k y184 (y187.set (0 : Int).toNat true) 0 l0_0) else (none)) = some r := by first | (rw [hy187]; with_reducible exact H) | (have H2_ := (Option.bind_some _ _).symm.trans H; rw [hy187]; with_reducible exact H2_) | (have H2_ := (Option.bind_some _ _).symm.trans H; with_reducible exact H2_) | with_reducible exact H | (rw [hy187]; exact H) | exact H
 have Ny187 := aM71_ hy187
 clear hy187
 by_cases c4 : 0 < (y187.length : Int)
 rotate_left
 ·rw [if_neg c4] at H
  exact absurd H (by simp)
 rw [if_pos c4] at H
 have c4b0 : decide (0 < (y187.length : Int)) = true := decide_eq_true c4
 have c4b1 : decide (0 < y187.length) = true := decide_eq_true (by omega)
 clear c4
 obtain ⟨y190, hy190⟩ : ∃ y_ : List Bool, y_ = (y187.set (0 : Int).toNat true) := ⟨_, rfl⟩
 replace H : (spec_l06Reached.l0 k y184 y190 0 l0_0) = some r := by first | (rw [hy190]; with_reducible exact H) | (have H2_ := (Option.bind_some _ _).symm.trans H; rw [hy190]; with_reducible exact H2_) | (have H2_ := (Option.bind_some _ _).symm.trans H; with_reducible exact H2_) | with_reducible exact H | (rw [hy190]; exact H) | exact H
 have Ny190 := aM71_ hy190
 clear hy190
 have H' := aM71_ H
 clear H
 go_enter Try.func71, Try.ntmps71
 go_wp2_with (first | ((with_reducible refine gate_dst (N := 8) rfl ?_); refine Kd.R_lit (Kd.int .i16) _ 74 ?hg (N := 8) ?hd (xs := ([0] : List Int)) (inner := [.int .i16 0]) (ok := fun _ => True) (okp := fun _ => True) ?hr ?hp (fun _ hk => hk) trivial (Below.refl _ _) (Nat.le_refl _) (by simp) ?_; (case hd => rfl); (case hg => rfl); (case hr => first | (go_simp; done) | (go_simp; rfl)); (case hp => exact (Reps.one (show Kd.M (Kd.int .i16) _ _ _ 0 [.int .i16 0] from rfl) (Reps.none _ _))); intro v185 w6 ho7 hb hg_ hnew_; clear hg_ hnew_; (first | rw [← Ny184.out] at ho7 | (simp only [Int.reduceToNat] at ho7; rw [← Ny184.out] at ho7)); have n0_ := aM71_ (Kd.R_lower ho7 (below_size q71x1_)); have n1_ := aM71_ (below_step q71x1_ hb); clear HB; have HO186 := n0_; have HB := n1_; clear n0_ n1_; clear hb ho7; have hxr8_0 := HQ0_.out; replace hxr8_0 := ((show Below w.heap.size w w6 from by repeat (first | (with_reducible first | exact HB.out | apply below_alloc | apply pw_below_drewN | apply below_drew1) | exact HB.out)).cell (World.block_lt_of_cell? w _ hxr8_0)).trans hxr8_0) | ((with_reducible refine gate_dst (N := 14) rfl ?_); refine Kd.R_make Kd.bool _ 4 rfl (N := 14) rfl 134 _ _ rfl (l0_0.length : Int) rfl rfl Try.underlying134 (.bool false) 1 info4 rfl (by decide) (by omega) false (ok := fun _ => True) (okp := fun _ => True) rfl (fun _ hk => hk) trivial (of_decide_eq_true q71x2_) (Nat.le_trans (Nat.mul_le_mul_right _ (of_decide_eq_true q71x2_ : (l0_0.length : Int).toNat ≤ 281474976710656)) (by omega)) (Below.refl _ _) (Nat.le_refl _) ?_; intro v188 w9 ho10 hb hg_ hnew_; clear hg_ hnew_; (first | rw [← Ny187.out] at ho10 | (simp only [Int.reduceToNat] at ho10; rw [← Ny187.out] at ho10)); have n0_ := aM71_ (Kd.R_below q71x6_ hb); have n1_ := aM71_ (Kd.R_lower ho10 (below_size q71x1_)); have n2_ := aM71_ (below_step q71x1_ hb); clear HO186; clear HB; have HO186 := n0_; have HO189 := n1_; have HB := n2_; clear n0_ n1_ n2_; clear hb ho10; have p5 : 0 ≤ (0 : Int) := (by omega); have q5 : (0 : Int) < ((y187.length : Int) : Int) := of_decide_eq_true q71x2_; have qi5 : (0 < y187.length) = True := eq_true (by omega); obtain ⟨go5, co5, eo5, gb5, gl5, cl5, HG5⟩ := Kd.R_form HO189.out (by omega); (first | cases eo5 | (injection eo5 with ea_ en_ ec_; (first | subst ea_ | (injection ea_ with ea_; subst ea_)); subst ec_; clear en_)); have GB5 := aM71_ gb5; have GG5 := aM71_ HG5; clear gb5 gl5 HG5; obtain ⟨hx5_0, hf5_0⟩ := Kd.R_celln false HO189.out (0 : Int) p5 q5; (try rw [show ((0 : Int)).toNat = 0 from rfl] at hx5_0); (try simp only [Nat.reduceMul, Nat.zero_mul, Nat.zero_add, Nat.reduceAdd] at hx5_0); (try rw [show ((0 : Int)).toNat = 0 from rfl] at hf5_0); (try simp only [Nat.reduceMul, Nat.zero_mul, Nat.zero_add, Nat.reduceAdd] at hf5_0); replace p5 := eq_true p5; replace q5 := eq_true q5; obtain ⟨hy11_, hz11_⟩ := Kd.R_celln false HO189.out (0 : Int) (by omega) (of_decide_eq_true q71x2_); (try simp only [Int.reduceToNat, Int.toNat_zero, Int.toNat_ofNat, Nat.reduceMul, Nat.zero_mul, Nat.zero_add] at hy11_ hz11_); (try rw [show ((0 : Int)).toNat = 0 from rfl] at hy11_); (try rw [show ((0 : Int)).toNat = 0 from rfl] at hz11_); have HP11 := Kd.R_putg HO189.out (0 : Int) true) | ((with_reducible refine gate_store (t := 4) (p := 16) rfl ?_); (try (rw [drewN_self w9]; generalize hq_ : World.drewN w9 _ = w9; have n0_ := aM71_ (Kd.R_at hq_ HO186.out); have n1_ := aM71_ (Kd.R_at hq_ HO189.out); have n2_ := aM71_ (below_at hq_ HB.out); clear hq_ HO186 HO189 HB; have HO186 := n0_; have HO189 := n1_; have HB := n2_; clear n0_ n1_ n2_; (try (obtain ⟨hy11_, hz11_⟩ := Kd.R_celln false HO189.out (0 : Int) (by omega) (of_decide_eq_true q71x2_))); (try (try simp only [Int.reduceToNat, Int.toNat_zero, Int.toNat_ofNat, Nat.reduceMul, Nat.zero_mul, Nat.zero_add] at hy11_ hz11_)); (try (try rw [show ((0 : Int)).toNat = 0 from rfl] at hy11_)); (try (try rw [show ((0 : Int)).toNat = 0 from rfl] at hz11_)); (try (have HP11 := Kd.R_putg HO189.out (0 : Int) true)))); refine store_event (t := 4) (p := 16) (v := ?vo_w12) (w1 := (w9.setCell ⟨go5, (0 : Int).toNat, none⟩ (.bool true))) ?hg ?ho ?hn ?hr ?_; (case ho => rfl); (case hg => rfl); (case hn => rfl); (case hr => first | (go_simp; done) | (go_simp; rfl)); intro w12 hw; have hg : w9.grownBy w12 (some go5) := (by rw [hw]; exact HP11.2); have hp_ : Kd.R Kd.bool 4 w12 w.heap.size (fun _ => True) (.slice (some ⟨go5, 0, none⟩) y187.length co5) y190 := (by rw [hw, Ny190.out]; exact HP11.1); clear HP11; have n0_ := aM71_ (Kd.R_over' (v := (.slice (some ⟨go5, 0, none⟩) y187.length co5)) q71x6_ (Kd.R_typed HO189.out) (by decide) hg); have n1_ := aM71_ (hp_); have n2_ := aM71_ ((q71x5_ : Below w.heap.size w w12)); clear HO186; clear HO189; clear HB; have HO186 := n0_; have HO189 := n1_; have HB := n2_; clear n0_ n1_ n2_; clear hg hw hp_))
 repeat (go_quiet (first | ((with_reducible refine gate_dst (N := 8) rfl ?_); refine Kd.R_lit (Kd.int .i16) _ 74 ?hg (N := 8) ?hd (xs := ([0] : List Int)) (inner := [.int .i16 0]) (ok := fun _ => True) (okp := fun _ => True) ?hr ?hp (fun _ hk => hk) trivial (Below.refl _ _) (Nat.le_refl _) (by simp) ?_; (case hd => rfl); (case hg => rfl); (case hr => first | (go_simp; done) | (go_simp; rfl)); (case hp => exact (Reps.one (show Kd.M (Kd.int .i16) _ _ _ 0 [.int .i16 0] from rfl) (Reps.none _ _))); intro v185 w6 ho7 hb hg_ hnew_; clear hg_ hnew_; (first | rw [← Ny184.out] at ho7 | (simp only [Int.reduceToNat] at ho7; rw [← Ny184.out] at ho7)); have n0_ := aM71_ (Kd.R_lower ho7 (below_size q71x1_)); have n1_ := aM71_ (below_step q71x1_ hb); clear HB; have HO186 := n0_; have HB := n1_; clear n0_ n1_; clear hb ho7; have hxr8_0 := HQ0_.out; replace hxr8_0 := ((show Below w.heap.size w w6 from by repeat (first | (with_reducible first | exact HB.out | apply below_alloc | apply pw_below_drewN | apply below_drew1) | exact HB.out)).cell (World.block_lt_of_cell? w _ hxr8_0)).trans hxr8_0) | ((with_reducible refine gate_dst (N := 14) rfl ?_); refine Kd.R_make Kd.bool _ 4 rfl (N := 14) rfl 134 _ _ rfl (l0_0.length : Int) rfl rfl Try.underlying134 (.bool false) 1 info4 rfl (by decide) (by omega) false (ok := fun _ => True) (okp := fun _ => True) rfl (fun _ hk => hk) trivial (of_decide_eq_true q71x2_) (Nat.le_trans (Nat.mul_le_mul_right _ (of_decide_eq_true q71x2_ : (l0_0.length : Int).toNat ≤ 281474976710656)) (by omega)) (Below.refl _ _) (Nat.le_refl _) ?_; intro v188 w9 ho10 hb hg_ hnew_; clear hg_ hnew_; (first | rw [← Ny187.out] at ho10 | (simp only [Int.reduceToNat] at ho10; rw [← Ny187.out] at ho10)); have n0_ := aM71_ (Kd.R_below q71x6_ hb); have n1_ := aM71_ (Kd.R_lower ho10 (below_size q71x1_)); have n2_ := aM71_ (below_step q71x1_ hb); clear HO186; clear HB; have HO186 := n0_; have HO189 := n1_; have HB := n2_; clear n0_ n1_ n2_; clear hb ho10; have p5 : 0 ≤ (0 : Int) := (by omega); have q5 : (0 : Int) < ((y187.length : Int) : Int) := of_decide_eq_true q71x2_; have qi5 : (0 < y187.length) = True := eq_true (by omega); obtain ⟨go5, co5, eo5, gb5, gl5, cl5, HG5⟩ := Kd.R_form HO189.out (by omega); (first | cases eo5 | (injection eo5 with ea_ en_ ec_; (first | subst ea_ | (injection ea_ with ea_; subst ea_)); subst ec_; clear en_)); have GB5 := aM71_ gb5; have GG5 := aM71_ HG5; clear gb5 gl5 HG5; obtain ⟨hx5_0, hf5_0⟩ := Kd.R_celln false HO189.out (0 : Int) p5 q5; (try rw [show ((0 : Int)).toNat = 0 from rfl] at hx5_0); (try simp only [Nat.reduceMul, Nat.zero_mul, Nat.zero_add, Nat.reduceAdd] at hx5_0); (try rw [show ((0 : Int)).toNat = 0 from rfl] at hf5_0); (try simp only [Nat.reduceMul, Nat.zero_mul, Nat.zero_add, Nat.reduceAdd] at hf5_0); replace p5 := eq_true p5; replace q5 := eq_true q5; obtain ⟨hy11_, hz11_⟩ := Kd.R_celln false HO189.out (0 : Int) (by omega) (of_decide_eq_true q71x2_); (try simp only [Int.reduceToNat, Int.toNat_zero, Int.toNat_ofNat, Nat.reduceMul, Nat.zero_mul, Nat.zero_add] at hy11_ hz11_); (try rw [show ((0 : Int)).toNat = 0 from rfl] at hy11_); (try rw [show ((0 : Int)).toNat = 0 from rfl] at hz11_); have HP11 := Kd.R_putg HO189.out (0 : Int) true) | ((with_reducible refine gate_store (t := 4) (p := 16) rfl ?_); (try (rw [drewN_self w9]; generalize hq_ : World.drewN w9 _ = w9; have n0_ := aM71_ (Kd.R_at hq_ HO186.out); have n1_ := aM71_ (Kd.R_at hq_ HO189.out); have n2_ := aM71_ (below_at hq_ HB.out); clear hq_ HO186 HO189 HB; have HO186 := n0_; have HO189 := n1_; have HB := n2_; clear n0_ n1_ n2_; (try (obtain ⟨hy11_, hz11_⟩ := Kd.R_celln false HO189.out (0 : Int) (by omega) (of_decide_eq_true q71x2_))); (try (try simp only [Int.reduceToNat, Int.toNat_zero, Int.toNat_ofNat, Nat.reduceMul, Nat.zero_mul, Nat.zero_add] at hy11_ hz11_)); (try (try rw [show ((0 : Int)).toNat = 0 from rfl] at hy11_)); (try (try rw [show ((0 : Int)).toNat = 0 from rfl] at hz11_)); (try (have HP11 := Kd.R_putg HO189.out (0 : Int) true)))); refine store_event (t := 4) (p := 16) (v := ?vo_w12) (w1 := (w9.setCell ⟨go5, (0 : Int).toNat, none⟩ (.bool true))) ?hg ?ho ?hn ?hr ?_; (case ho => rfl); (case hg => rfl); (case hn => rfl); (case hr => first | (go_simp; done) | (go_simp; rfl)); intro w12 hw; have hg : w9.grownBy w12 (some go5) := (by rw [hw]; exact HP11.2); have hp_ : Kd.R Kd.bool 4 w12 w.heap.size (fun _ => True) (.slice (some ⟨go5, 0, none⟩) y187.length co5) y190 := (by rw [hw, Ny190.out]; exact HP11.1); clear HP11; have n0_ := aM71_ (Kd.R_over' (v := (.slice (some ⟨go5, 0, none⟩) y187.length co5)) q71x6_ (Kd.R_typed HO189.out) (by decide) hg); have n1_ := aM71_ (hp_); have n2_ := aM71_ ((q71x5_ : Below w.heap.size w w12)); clear HO186; clear HO189; clear HB; have HO186 := n0_; have HO189 := n1_; have HB := n2_; clear n0_ n1_ n2_; clear hg hw hp_)); try go_wp2_with (first | ((with_reducible refine gate_dst (N := 8) rfl ?_); refine Kd.R_lit (Kd.int .i16) _ 74 ?hg (N := 8) ?hd (xs := ([0] : List Int)) (inner := [.int .i16 0]) (ok := fun _ => True) (okp := fun _ => True) ?hr ?hp (fun _ hk => hk) trivial (Below.refl _ _) (Nat.le_refl _) (by simp) ?_; (case hd => rfl); (case hg => rfl); (case hr => first | (go_simp; done) | (go_simp; rfl)); (case hp => exact (Reps.one (show Kd.M (Kd.int .i16) _ _ _ 0 [.int .i16 0] from rfl) (Reps.none _ _))); intro v185 w6 ho7 hb hg_ hnew_; clear hg_ hnew_; (first | rw [← Ny184.out] at ho7 | (simp only [Int.reduceToNat] at ho7; rw [← Ny184.out] at ho7)); have n0_ := aM71_ (Kd.R_lower ho7 (below_size q71x1_)); have n1_ := aM71_ (below_step q71x1_ hb); clear HB; have HO186 := n0_; have HB := n1_; clear n0_ n1_; clear hb ho7; have hxr8_0 := HQ0_.out; replace hxr8_0 := ((show Below w.heap.size w w6 from by repeat (first | (with_reducible first | exact HB.out | apply below_alloc | apply pw_below_drewN | apply below_drew1) | exact HB.out)).cell (World.block_lt_of_cell? w _ hxr8_0)).trans hxr8_0) | ((with_reducible refine gate_dst (N := 14) rfl ?_); refine Kd.R_make Kd.bool _ 4 rfl (N := 14) rfl 134 _ _ rfl (l0_0.length : Int) rfl rfl Try.underlying134 (.bool false) 1 info4 rfl (by decide) (by omega) false (ok := fun _ => True) (okp := fun _ => True) rfl (fun _ hk => hk) trivial (of_decide_eq_true q71x2_) (Nat.le_trans (Nat.mul_le_mul_right _ (of_decide_eq_true q71x2_ : (l0_0.length : Int).toNat ≤ 281474976710656)) (by omega)) (Below.refl _ _) (Nat.le_refl _) ?_; intro v188 w9 ho10 hb hg_ hnew_; clear hg_ hnew_; (first | rw [← Ny187.out] at ho10 | (simp only [Int.reduceToNat] at ho10; rw [← Ny187.out] at ho10)); have n0_ := aM71_ (Kd.R_below q71x6_ hb); have n1_ := aM71_ (Kd.R_lower ho10 (below_size q71x1_)); have n2_ := aM71_ (below_step q71x1_ hb); clear HO186; clear HB; have HO186 := n0_; have HO189 := n1_; have HB := n2_; clear n0_ n1_ n2_; clear hb ho10; have p5 : 0 ≤ (0 : Int) := (by omega); have q5 : (0 : Int) < ((y187.length : Int) : Int) := of_decide_eq_true q71x2_; have qi5 : (0 < y187.length) = True := eq_true (by omega); obtain ⟨go5, co5, eo5, gb5, gl5, cl5, HG5⟩ := Kd.R_form HO189.out (by omega); (first | cases eo5 | (injection eo5 with ea_ en_ ec_; (first | subst ea_ | (injection ea_ with ea_; subst ea_)); subst ec_; clear en_)); have GB5 := aM71_ gb5; have GG5 := aM71_ HG5; clear gb5 gl5 HG5; obtain ⟨hx5_0, hf5_0⟩ := Kd.R_celln false HO189.out (0 : Int) p5 q5; (try rw [show ((0 : Int)).toNat = 0 from rfl] at hx5_0); (try simp only [Nat.reduceMul, Nat.zero_mul, Nat.zero_add, Nat.reduceAdd] at hx5_0); (try rw [show ((0 : Int)).toNat = 0 from rfl] at hf5_0); (try simp only [Nat.reduceMul, Nat.zero_mul, Nat.zero_add, Nat.reduceAdd] at hf5_0); replace p5 := eq_true p5; replace q5 := eq_true q5; obtain ⟨hy11_, hz11_⟩ := Kd.R_celln false HO189.out (0 : Int) (by omega) (of_decide_eq_true q71x2_); (try simp only [Int.reduceToNat, Int.toNat_zero, Int.toNat_ofNat, Nat.reduceMul, Nat.zero_mul, Nat.zero_add] at hy11_ hz11_); (try rw [show ((0 : Int)).toNat = 0 from rfl] at hy11_); (try rw [show ((0 : Int)).toNat = 0 from rfl] at hz11_); have HP11 := Kd.R_putg HO189.out (0 : Int) true) | ((with_reducible refine gate_store (t := 4) (p := 16) rfl ?_); (try (rw [drewN_self w9]; generalize hq_ : World.drewN w9 _ = w9; have n0_ := aM71_ (Kd.R_at hq_ HO186.out); have n1_ := aM71_ (Kd.R_at hq_ HO189.out); have n2_ := aM71_ (below_at hq_ HB.out); clear hq_ HO186 HO189 HB; have HO186 := n0_; have HO189 := n1_; have HB := n2_; clear n0_ n1_ n2_; (try (obtain ⟨hy11_, hz11_⟩ := Kd.R_celln false HO189.out (0 : Int) (by omega) (of_decide_eq_true q71x2_))); (try (try simp only [Int.reduceToNat, Int.toNat_zero, Int.toNat_ofNat, Nat.reduceMul, Nat.zero_mul, Nat.zero_add] at hy11_ hz11_)); (try (try rw [show ((0 : Int)).toNat = 0 from rfl] at hy11_)); (try (try rw [show ((0 : Int)).toNat = 0 from rfl] at hz11_)); (try (have HP11 := Kd.R_putg HO189.out (0 : Int) true)))); refine store_event (t := 4) (p := 16) (v := ?vo_w12) (w1 := (w9.setCell ⟨go5, (0 : Int).toNat, none⟩ (.bool true))) ?hg ?ho ?hn ?hr ?_; (case ho => rfl); (case hg => rfl); (case hn => rfl); (case hr => first | (go_simp; done) | (go_simp; rfl)); intro w12 hw; have hg : w9.grownBy w12 (some go5) := (by rw [hw]; exact HP11.2); have hp_ : Kd.R Kd.bool 4 w12 w.heap.size (fun _ => True) (.slice (some ⟨go5, 0, none⟩) y187.length co5) y190 := (by rw [hw, Ny190.out]; exact HP11.1); clear HP11; have n0_ := aM71_ (Kd.R_over' (v := (.slice (some ⟨go5, 0, none⟩) y187.length co5)) q71x6_ (Kd.R_typed HO189.out) (by decide) hg); have n1_ := aM71_ (hp_); have n2_ := aM71_ ((q71x5_ : Below w.heap.size w w12)); clear HO186; clear HO189; clear HB; have HO186 := n0_; have HO189 := n1_; have HB := n2_; clear n0_ n1_ n2_; clear hg hw hp_)))
 go_loopg [3, 5] k (fun kq v3 v5 w' => ∃ (x3_1 : List Int) (x4_1 : List Bool) (x5_1 : Int), v5 = .int .i64 x5_1 ∧ Aside0 (spec_l06Reached.l0 kq x3_1 x4_1 x5_1 l0_0 = some r) ∧ Aside0 (kq ≤ k) ∧ Aside0 (Kd.R (Kd.int .i16) 74 w' w.heap.size (fun _ => True) v3 x3_1) ∧ Aside0 (Kd.R Kd.bool 4 w' w.heap.size (fun _ => True) (.slice (some ⟨go5, 0, none⟩) y187.length co5) x4_1) ∧ Aside0 (Below w.heap.size w w'))
 case atStart => exact ⟨(y184), (y190), (0), q71x7_, H', ⟨Nat.le_refl _⟩, ⟨by (with_reducible repeat (first | apply Kd.R_alloc | apply Kd.R_drewN | apply Kd.R_drew)); exact HO186.out⟩, ⟨by (with_reducible repeat (first | apply Kd.R_alloc | apply Kd.R_drewN | apply Kd.R_drew)); exact HO189.out⟩, ⟨by repeat (first | (with_reducible first | exact HB.out | apply below_alloc | apply pw_below_drewN | apply below_drew1) | exact HB.out)⟩⟩
 case round =>
  clear H'
  try clear c2
  try clear c2b0
  try clear c2b1
  try clear p2
  try clear c3
  try clear c3b0
  try clear c3b1
  try clear c4
  try clear c4b0
  try clear c4b1
  try clear p5
  try clear q5
  try clear hx5
  try clear qi5
  try clear hf5
  try clear c7
  try clear hx5_0
  try clear p5
  try clear q5
  obtain ⟨x3_1, x4_1, x5_1, rfl, HA, HK1, HO_3, HO_4, HB⟩ := hrel
  have hl4_1 := (Kd.R_reads' HO_4.out).1
  rw [hl4_1] at HO_4
  (try simp only [hl4_1])
  (try simp only [hl4_1] at HO_3)
  cases gk with
  | zero => exact absurd HA.out (by simp [spec_l06Reached.l0])
  | succ k1 =>
   have H := HA.out
   clear HA
   simp only [spec_l06Reached.l0] at H
   by_cases c13 : x5_1 < (x3_1.length : Int)
   rotate_left
   ·rw [if_neg c13] at H
    have c13b0 : decide (x5_1 < (x3_1.length : Int)) = false := decide_eq_false c13
    (try (have c13b0hl4_1 := c13b0; rw [hl4_1] at c13b0hl4_1))
    clear c13
    obtain rfl := Option.some.inj H
    obtain ⟨Ao64, co64, eo64⟩ := Kd.R_slice HO_3.out
    subst eo64
    go_wp2
    repeat (go_quiet (fail); try go_wp2)
    go_ret
    exact ⟨_, by first | rfl | (simp [errW_none, errW_some] <;> rfl) | (simp [*, errW_none, errW_some] <;> rfl), by (with_reducible repeat (first | apply Kd.R_alloc | apply Kd.R_drewN | apply Kd.R_drew)); exact HO_3.out, by repeat (first | (with_reducible first | exact HB.out | apply below_alloc | apply pw_below_drewN | apply below_drew1) | exact HB.out)⟩
   rw [if_pos c13] at H
   have c13b0 : decide (x5_1 < (x3_1.length : Int)) = true := decide_eq_true c13
   (try (have c13b0hl4_1 := c13b0; rw [hl4_1] at c13b0hl4_1))
   clear c13
   by_cases c14 : 0 ≤ x5_1
   rotate_left
   ·rw [if_neg c14] at H
    exact absurd H (by simp)
   rw [if_pos c14] at H
   have c14b0 : decide (0 ≤ x5_1) = true := decide_eq_true c14
   clear c14
   by_cases c15 : 0 ≤ (rd x3_1 x5_1)
   rotate_left
   ·rw [if_neg c15] at H
    exact absurd H (by simp)
   rw [if_pos c15] at H
   have c15b0 : decide (0 ≤ (rd x3_1 x5_1)) = true := decide_eq_true c15
   clear c15
   by_cases c16 : (rd x3_1 x5_1) < (l0_0.length : Int)
   rotate_left
   ·rw [if_neg c16] at H
    exact absurd H (by simp)
   rw [if_pos c16] at H
   have c16b0 : decide ((rd x3_1 x5_1) < (l0_0.length : Int)) = true := decide_eq_true c16
   (try (have c16b0hl4_1 := c16b0; rw [hl4_1] at c16b0hl4_1))
   clear c16
   have H' := aM71_ H
   clear H
   obtain ⟨Ao17, co17, eo17⟩ := Kd.R_slice HO_3.out
   subst eo17
   have hxr18_0 := HQ0_.out
   replace hxr18_0 := ((show Below w.heap.size w wr from by repeat (first | (with_reducible first | exact HB.out | apply below_alloc | apply pw_below_drewN | apply below_drew1) | exact HB.out)).cell (World.block_lt_of_cell? w _ hxr18_0)).trans hxr18_0
   have p191 : 0 ≤ (x5_1 : Int) := of_decide_eq_true q71x2_
   have q191 : x5_1 < (x3_1.length : Int) := of_decide_eq_true q71x2_
   obtain ⟨ad191, e191, hx191_0⟩ := Kd.at_int (Kd.R_reads' HO_3.out).2.2 x5_1 p191 q191
   cases e191
   replace p191 := eq_true p191
   replace q191 := eq_true q191
   have p192 : 0 ≤ ((rd x3_1 x5_1) : Int) := of_decide_eq_true q71x2_
   have q192 : (rd x3_1 x5_1) < (l0_0.length : Int) := of_decide_eq_true q71x2_
   obtain ⟨ad192, e192, hx192_0, hx192_1, hx192_2, hx192_3, hx192_4⟩ := at_T77 HR0_0.out (rd x3_1 x5_1) p192 q192
   cases e192
   replace hx192_0 := (HB.out.cell (World.block_lt_of_cell? w _ hx192_0)).trans hx192_0
   replace hx192_1 := (HB.out.cell (World.block_lt_of_cell? w _ hx192_1)).trans hx192_1
   replace hx192_2 := (HB.out.cell (World.block_lt_of_cell? w _ hx192_2)).trans hx192_2
   replace hx192_3 := (HB.out.cell (World.block_lt_of_cell? w _ hx192_3)).trans hx192_3
   replace hx192_4 := (HB.out.cell (World.block_lt_of_cell? w _ hx192_4)).trans hx192_4
   replace p192 := eq_true p192
   replace q192 := eq_true q192
   go_wp2
   repeat (go_quiet (fail); try go_wp2)
   go_loopg [3, 7] k1 (fun kq v3 v7 w' => ∃ (x3_2 : List Int) (x4_2 : List Bool) (x7_2 : Int), v7 = .int .i64 x7_2 ∧ Aside0 (spec_l06Reached.l1 kq x3_2 x4_2 x5_1 x7_2 (rd x3_1 x5_1) l0_0 = some r) ∧ Aside0 (kq ≤ k1) ∧ Aside0 (Kd.R (Kd.int .i16) 74 w' w.heap.size (fun _ => True) v3 x3_2) ∧ Aside0 (Kd.R Kd.bool 4 w' w.heap.size (fun _ => True) (.slice (some ⟨go5, 0, none⟩) x4_1.length co5) x4_2) ∧ Aside0 (Below w.heap.size w w'))
   case atStart => exact ⟨(x3_1), (x4_1), (0), q71x7_, H', ⟨Nat.le_refl _⟩, ⟨by (try simp only [hl4_1]); (with_reducible repeat (first | apply Kd.R_alloc | apply Kd.R_drewN | apply Kd.R_drew)); exact HO_3.out⟩, ⟨by (try simp only [hl4_1]); (with_reducible repeat (first | apply Kd.R_alloc | apply Kd.R_drewN | apply Kd.R_drew)); exact HO_4.out⟩, ⟨by repeat (first | (with_reducible first | exact HB.out | apply below_alloc | apply pw_below_drewN | apply below_drew1) | exact HB.out)⟩⟩
   case round =>
    clear H'
    try clear c1
    try clear p1
    try clear q1
    try clear hx1
    try clear c2
    try clear c2b0
    try clear c2b1
    try clear p2
    try clear c3
    try clear c3b0
    try clear c3b1
    try clear c4
    try clear c4b0
    try clear c4b1
    try clear p5
    try clear q5
    try clear hx5
    try clear qi5
    try clear hf5
    try clear c7
    try clear c13
    try clear c13b0
    try clear c14
    try clear c14b0
    try clear c15
    try clear c15b0
    try clear c16
    try clear c16b0
    try clear hx191_0
    try clear hx192_0
    try clear hx192_1
    try clear hx192_2
    try clear hx192_3
    try clear hx192_4
    try clear hx5_0
    try clear p191
    try clear p192
    try clear p2
    try clear p5
    try clear q191
    try clear q192
    try clear q5
    obtain ⟨x3_2, x4_2, x7_2, rfl, HA, HK2, HO_3, HO_4, HB⟩ := hrel
    have hl4_2 := (Kd.R_reads' HO_4.out).1
    rw [hl4_2] at HO_4
    (try simp only [hl4_2])
    (try simp only [hl4_2] at HO_3)
    cases gk with
    | zero => exact absurd HA.out (by simp [spec_l06Reached.l1])
    | succ k2 =>
     have H := HA.out
     clear HA
     simp only [spec_l06Reached.l1] at H
     by_cases c19 : 0 ≤ (rd x3_1 x5_1)
     rotate_left
     ·rw [if_neg c19] at H
      exact absurd H (by simp)
     rw [if_pos c19] at H
     have c19b0 : decide (0 ≤ (rd x3_1 x5_1)) = true := decide_eq_true c19
     clear c19
     by_cases c20 : (rd x3_1 x5_1) < (l0_0.length : Int)
     rotate_left
     ·rw [if_neg c20] at H
      exact absurd H (by simp)
     rw [if_pos c20] at H
     have c20b0 : decide ((rd x3_1 x5_1) < (l0_0.length : Int)) = true := decide_eq_true c20
     (try (have c20b0hl4_1 := c20b0; rw [hl4_1] at c20b0hl4_1))
     (try (have c20b0hl4_2 := c20b0; rw [hl4_2] at c20b0hl4_2))
     clear c20
     by_cases c21 : ((rd_T77 l0_0 (rd x3_1 x5_1)).f0) = 1
     rotate_left
     ·rw [if_neg c21] at H
      have c21b0 : (((rd_T77 l0_0 (rd x3_1 x5_1)).f0) == 1) = false := beq_eq_false_iff_ne.mpr c21
      have c21b1 : (((rd_T77 l0_0 (rd x3_1 x5_1)).f0) != 1) = true := bne_iff_ne.mpr c21
      by_cases c53 : x7_2 < 1
      rotate_left
      ·rw [if_neg c53] at H
       have c53b0 : decide (x7_2 < 1) = false := decide_eq_false c53
       clear c53
       have H' := aM71_ H
       clear H
       have p193 : 0 ≤ ((rd x3_1 x5_1) : Int) := of_decide_eq_true q71x2_
       have q193 : (rd x3_1 x5_1) < (l0_0.length : Int) := of_decide_eq_true q71x2_
       obtain ⟨ad193, e193, hx193_0, hx193_1, hx193_2, hx193_3, hx193_4⟩ := at_T77 HR0_0.out (rd x3_1 x5_1) p193 q193
       obtain rfl : ad192 = ad193 := (by injection e193)
       replace hx193_0 := (HB.out.cell (World.block_lt_of_cell? w _ hx193_0)).trans hx193_0
       replace hx193_1 := (HB.out.cell (World.block_lt_of_cell? w _ hx193_1)).trans hx193_1
       replace hx193_2 := (HB.out.cell (World.block_lt_of_cell? w _ hx193_2)).trans hx193_2
       replace hx193_3 := (HB.out.cell (World.block_lt_of_cell? w _ hx193_3)).trans hx193_3
       replace hx193_4 := (HB.out.cell (World.block_lt_of_cell? w _ hx193_4)).trans hx193_4
       replace p193 := eq_true p193
       replace q193 := eq_true q193
       go_wp2_with (first | ((go_at_call 106; go_in)))
       repeat (go_quiet (first | ((go_at_call 106; go_in))); try go_wp2_with (first | ((go_at_call 106; go_in))))
       (try simp only [← hl4_1, ← hl4_2])
       go_roundg k2
       case measure => have := HK1.out; have := HK2.out; omega
       case rel => exact ⟨(x3_2), (x4_2), (wrap64 (x5_1 + 1)), q71x7_, H', ⟨by have := HK1.out; have := HK2.out; omega⟩, ⟨by (try simp only [hl4_1]); (try simp only [hl4_2]); (with_reducible repeat (first | apply Kd.R_alloc | apply Kd.R_drewN | apply Kd.R_drew)); exact HO_3.out⟩, ⟨by (try simp only [hl4_1]); (try simp only [hl4_2]); (with_reducible repeat (first | apply Kd.R_alloc | apply Kd.R_drewN | apply Kd.R_drew)); exact HO_4.out⟩, ⟨by repeat (first | (with_reducible first | exact HB.out | apply below_alloc | apply pw_below_drewN | apply below_drew1) | exact HB.out)⟩⟩
      rw [if_pos c53] at H
      have c53b0 : decide (x7_2 < 1) = true := decide_eq_true c53
      clear c53
      by_cases c54 : x7_2 = 0
      rotate_left
      ·rw [if_neg c54] at H
       exact absurd H (by simp)
      subst c54
      have H1 : (if 0 ≤ ((rd_T77 l0_0 (rd x3_1 x5_1)).f2.f0) then (if ((rd_T77 l0_0 (rd x3_1 x5_1)).f2.f0) < (x4_2.length : Int) then (if (rdOf false x4_2 ((rd_T77 l0_0 (rd x3_1 x5_1)).f2.f0) = true) then (spec_l06Reached.l1 k2 x3_2 x4_2 x5_1 (0 + 1) (rd x3_1 x5_1) l0_0) else (if x3_2.length < 70368744177664 then (spec_l06Reached.l1 k2 (x3_2 ++ [(rd_T77 l0_0 (rd x3_1 x5_1)).f2.f0]) (x4_2.set (((rd_T77 l0_0 (rd x3_1 x5_1)).f2.f0) : Int).toNat true) x5_1 (0 + 1) (rd x3_1 x5_1) l0_0) else (none))) else (none)) else (none)) = some r := by rw [if_pos rfl] at H; exact H
      clear H
      have H := H1
      clear H1
      by_cases c55 : 0 ≤ ((rd_T77 l0_0 (rd x3_1 x5_1)).f2.f0)
      rotate_left
      ·rw [if_neg c55] at H
       exact absurd H (by simp)
      rw [if_pos c55] at H
      have c55b0 : decide (0 ≤ ((rd_T77 l0_0 (rd x3_1 x5_1)).f2.f0)) = true := decide_eq_true c55
      clear c55
      by_cases c56 : ((rd_T77 l0_0 (rd x3_1 x5_1)).f2.f0) < (x4_2.length : Int)
      rotate_left
      ·rw [if_neg c56] at H
       exact absurd H (by simp)
      rw [if_pos c56] at H
      have c56b0 : decide (((rd_T77 l0_0 (rd x3_1 x5_1)).f2.f0) < (x4_2.length : Int)) = true := decide_eq_true c56
      (try (have c56b0hl4_1 := c56b0; rw [hl4_1] at c56b0hl4_1))
      (try (have c56b0hl4_2 := c56b0; rw [hl4_2] at c56b0hl4_2))
      clear c56
      obtain ⟨bq57, hbq57⟩ : ∃ b_ : Bool, b_ = (rdOf false x4_2 ((rd_T77 l0_0 (rd x3_1 x5_1)).f2.f0)) := ⟨_, rfl⟩
      replace H : (if (bq57 = true) then (spec_l06Reached.l1 k2 x3_2 x4_2 x5_1 (0 + 1) (rd x3_1 x5_1) l0_0) else (if x3_2.length < 70368744177664 then (spec_l06Reached.l1 k2 (x3_2 ++ [(rd_T77 l0_0 (rd x3_1 x5_1)).f2.f0]) (x4_2.set (((rd_T77 l0_0 (rd x3_1 x5_1)).f2.f0) : Int).toNat true) x5_1 (0 + 1) (rd x3_1 x5_1) l0_0) else (none))) = some r := by rw [← hbq57] at H; exact H
      have Nbq57 := aM71_ hbq57
      clear hbq57
      by_cases c58 : (bq57 = true)
      ·subst c58
       have H1 : (spec_l06Reached.l1 k2 x3_2 x4_2 x5_1 (0 + 1) (rd x3_1 x5_1) l0_0) = some r := by rw [if_pos rfl] at H; exact H
       clear H
       have H := H1
       clear H1
       have H' := aM71_ H
       clear H
       have p193 : 0 ≤ ((rd x3_1 x5_1) : Int) := of_decide_eq_true q71x2_
       have q193 : (rd x3_1 x5_1) < (l0_0.length : Int) := of_decide_eq_true q71x2_
       obtain ⟨ad193, e193, hx193_0, hx193_1, hx193_2, hx193_3, hx193_4⟩ := at_T77 HR0_0.out (rd x3_1 x5_1) p193 q193
       obtain rfl : ad192 = ad193 := (by injection e193)
       replace hx193_0 := (HB.out.cell (World.block_lt_of_cell? w _ hx193_0)).trans hx193_0
       replace hx193_1 := (HB.out.cell (World.block_lt_of_cell? w _ hx193_1)).trans hx193_1
       replace hx193_2 := (HB.out.cell (World.block_lt_of_cell? w _ hx193_2)).trans hx193_2
       replace hx193_3 := (HB.out.cell (World.block_lt_of_cell? w _ hx193_3)).trans hx193_3
       replace hx193_4 := (HB.out.cell (World.block_lt_of_cell? w _ hx193_4)).trans hx193_4
       replace p193 := eq_true p193
       replace q193 := eq_true q193
       have p212 : 0 ≤ (((rd_T77 l0_0 (rd x3_1 x5_1)).f2.f0) : Int) := of_decide_eq_true q71x2_
       have q212 : ((rd_T77 l0_0 (rd x3_1 x5_1)).f2.f0) < (x4_2.length : Int) := of_decide_eq_true q71x2_
       obtain ⟨ad212, e212, hx212_0⟩ := Kd.at_bool (Kd.R_reads' HO_4.out).2.2 ((rd_T77 l0_0 (rd x3_1 x5_1)).f2.f0) p212 q212
       (try rw [← Nbq57.out] at hx212_0)
       obtain rfl : (⟨go5, 0, none⟩ : Addr) = ad212 := (by injection e212)
       (first | simp only [add_plain] at hx212_0 | simp only [add_at] at hx212_0 | simp only [Addr.add, Nat.zero_add] at hx212_0 | skip)
       replace p212 := eq_true p212
       replace q212 := eq_true q212
       go_wp2_with (first | ((go_at_call 106; go_in)))
       repeat (go_quiet (first | ((go_at_call 106; go_in))); try go_wp2_with (first | ((go_at_call 106; go_in))))
       (try simp only [← hl4_2])
       go_roundg k2
       case measure => have := HK1.out; have := HK2.out; omega
       case rel => exact ⟨(x3_2), (x4_2), (0 + 1), q71x7_, H', ⟨by have := HK1.out; have := HK2.out; omega⟩, ⟨by (try simp only [hl4_1]); (try simp only [hl4_2]); (with_reducible repeat (first | apply Kd.R_alloc | apply Kd.R_drewN | apply Kd.R_drew)); exact HO_3.out⟩, ⟨by (try simp only [hl4_1]); (try simp only [hl4_2]); (with_reducible repeat (first | apply Kd.R_alloc | apply Kd.R_drewN | apply Kd.R_drew)); exact HO_4.out⟩, ⟨by repeat (first | (with_reducible first | exact HB.out | apply below_alloc | apply pw_below_drewN | apply below_drew1) | exact HB.out)⟩⟩
      replace c58 := Bool.eq_false_iff.mpr c58
      subst c58
      have H1 : (if x3_2.length < 70368744177664 then (spec_l06Reached.l1 k2 (x3_2 ++ [(rd_T77 l0_0 (rd x3_1 x5_1)).f2.f0]) (x4_2.set (((rd_T77 l0_0 (rd x3_1 x5_1)).f2.f0) : Int).toNat true) x5_1 (0 + 1) (rd x3_1 x5_1) l0_0) else (none)) = some r := by rw [if_neg (show ¬ (false = true) by decide)] at H; exact H
      clear H
      have H := H1
      clear H1
      obtain ⟨y213, hy213⟩ : ∃ y_ : List Bool, y_ = (x4_2.set (((rd_T77 l0_0 (rd x3_1 x5_1)).f2.f0) : Int).toNat true) := ⟨_, rfl⟩
      replace H : (if x3_2.length < 70368744177664 then (spec_l06Reached.l1 k2 (x3_2 ++ [(rd_T77 l0_0 (rd x3_1 x5_1)).f2.f0]) y213 x5_1 (0 + 1) (rd x3_1 x5_1) l0_0) else (none)) = some r := by first | (rw [hy213]; with_reducible exact H) | (have H2_ := (Option.bind_some _ _).symm.trans H; rw [hy213]; with_reducible exact H2_) | (have H2_ := (Option.bind_some _ _).symm.trans H; with_reducible exact H2_) | with_reducible exact H | (rw [hy213]; exact H) | exact H
      have Ny213 := aM71_ hy213
      clear hy213
      by_cases c60 : x3_2.length < 70368744177664
      rotate_left
      ·rw [if_neg c60] at H
       exact absurd H (by simp)
      rw [if_pos c60] at H
      have LMc60 := aM71_ c60
      clear c60
      obtain ⟨y215, hy215⟩ : ∃ y_ : List Int, y_ = (x3_2 ++ [(rd_T77 l0_0 (rd x3_1 x5_1)).f2.f0]) := ⟨_, rfl⟩
      replace H : (spec_l06Reached.l1 k2 y215 y213 x5_1 (0 + 1) (rd x3_1 x5_1) l0_0) = some r := by first | (rw [hy215]; with_reducible exact H) | (have H2_ := (Option.bind_some _ _).symm.trans H; rw [hy215]; with_reducible exact H2_) | (have H2_ := (Option.bind_some _ _).symm.trans H; with_reducible exact H2_) | with_reducible exact H | (rw [hy215]; exact H) | exact H
      have Ny215 := aM71_ hy215
      clear hy215
      have H' := aM71_ H
      clear H
      have p193 : 0 ≤ ((rd x3_1 x5_1) : Int) := of_decide_eq_true q71x2_
      have q193 : (rd x3_1 x5_1) < (l0_0.length : Int) := of_decide_eq_true q71x2_
      obtain ⟨ad193, e193, hx193_0, hx193_1, hx193_2, hx193_3, hx193_4⟩ := at_T77 HR0_0.out (rd x3_1 x5_1) p193 q193
      obtain rfl : ad192 = ad193 := (by injection e193)
      replace hx193_0 := (HB.out.cell (World.block_lt_of_cell? w _ hx193_0)).trans hx193_0
      replace hx193_1 := (HB.out.cell (World.block_lt_of_cell? w _ hx193_1)).trans hx193_1
      replace hx193_2 := (HB.out.cell (World.block_lt_of_cell? w _ hx193_2)).trans hx193_2
      replace hx193_3 := (HB.out.cell (World.block_lt_of_cell? w _ hx193_3)).trans hx193_3
      replace hx193_4 := (HB.out.cell (World.block_lt_of_cell? w _ hx193_4)).trans hx193_4
      replace p193 := eq_true p193
      replace q193 := eq_true q193
      have p212 : 0 ≤ (((rd_T77 l0_0 (rd x3_1 x5_1)).f2.f0) : Int) := of_decide_eq_true q71x2_
      have q212 : ((rd_T77 l0_0 (rd x3_1 x5_1)).f2.f0) < (x4_2.length : Int) := of_decide_eq_true q71x2_
      obtain ⟨ad212, e212, hx212_0⟩ := Kd.at_bool (Kd.R_reads' HO_4.out).2.2 ((rd_T77 l0_0 (rd x3_1 x5_1)).f2.f0) p212 q212
      (try rw [← Nbq57.out] at hx212_0)
      obtain rfl : (⟨go5, 0, none⟩ : Addr) = ad212 := (by injection e212)
      (first | simp only [add_plain] at hx212_0 | simp only [add_at] at hx212_0 | simp only [Addr.add, Nat.zero_add] at hx212_0 | skip)
      replace p212 := eq_true p212
      replace q212 := eq_true q212
      have p59 : 0 ≤ (((rd_T77 l0_0 (rd x3_1 x5_1)).f2.f0) : Int) := of_decide_eq_true q71x2_
      have q59 : (((rd_T77 l0_0 (rd x3_1 x5_1)).f2.f0) : Int) < ((x4_2.length : Int) : Int) := of_decide_eq_true q71x2_
      obtain ⟨hx59_0, hf59_0⟩ := Kd.R_celln false HO_4.out (((rd_T77 l0_0 (rd x3_1 x5_1)).f2.f0) : Int) p59 q59
      replace p59 := eq_true p59
      replace q59 := eq_true q59
      have HP61 := Kd.R_putg HO_4.out (((rd_T77 l0_0 (rd x3_1 x5_1)).f2.f0) : Int) true
      go_wp2_with (first | ((go_at_call 106; go_in)) | ((with_reducible refine gate_store (t := 4) (p := 55) rfl ?_); (try (rw [drewN_self wr]; generalize hq_ : World.drewN wr _ = wr; have n0_ := aM71_ (Kd.R_at hq_ HO_3.out); have n1_ := aM71_ (Kd.R_at hq_ HO_4.out); have n2_ := aM71_ (below_at hq_ HB.out); clear hq_ HO_3 HO_4 HB; have HO_3 := n0_; have HO_4 := n1_; have HB := n2_; clear n0_ n1_ n2_; (try (have HP61 := Kd.R_putg HO_4.out (((rd_T77 l0_0 (rd x3_1 x5_1)).f2.f0) : Int) true)))); refine store_event (t := 4) (p := 55) (v := ?vo_w62) (w1 := (wr.setCell ⟨go5, (((rd_T77 l0_0 (rd x3_1 x5_1)).f2.f0) : Int).toNat, none⟩ (.bool true))) ?hg ?ho ?hn ?hr ?_; (case ho => rfl); (case hg => rfl); (case hn => rfl); (case hr => first | (go_simp; done) | (go_simp; rfl)); intro w62 hw; have hg : wr.grownBy w62 (some go5) := (by rw [hw]; exact HP61.2); have hp_ : Kd.R Kd.bool 4 w62 w.heap.size (fun _ => True) (.slice (some ⟨go5, 0, none⟩) x4_2.length co5) y213 := (by rw [hw, Ny213.out]; exact HP61.1); clear HP61; have n0_ := aM71_ (Kd.R_over' (v := (.slice (some ⟨go5, 0, none⟩) x4_2.length co5)) q71x3_ (Kd.R_typed HO_4.out) (by decide) hg); have n1_ := aM71_ (hp_); have n2_ := aM71_ ((q71x5_ : Below w.heap.size w w62)); clear HO_3; clear HO_4; clear HB; have HO_3 := n0_; have HO_4 := n1_; have HB := n2_; clear n0_ n1_ n2_; clear hg hw hp_; have p214 : 0 ≤ ((rd x3_1 x5_1) : Int) := of_decide_eq_true q71x2_; have q214 : (rd x3_1 x5_1) < (l0_0.length : Int) := of_decide_eq_true q71x2_; obtain ⟨ad214, e214, hx214_0, hx214_1, hx214_2, hx214_3, hx214_4⟩ := at_T77 HR0_0.out (rd x3_1 x5_1) p214 q214; obtain rfl : ad192 = ad214 := (by injection e214); replace hx214_0 := (HB.out.cell (World.block_lt_of_cell? w _ hx214_0)).trans hx214_0; replace hx214_1 := (HB.out.cell (World.block_lt_of_cell? w _ hx214_1)).trans hx214_1; replace hx214_2 := (HB.out.cell (World.block_lt_of_cell? w _ hx214_2)).trans hx214_2; replace hx214_3 := (HB.out.cell (World.block_lt_of_cell? w _ hx214_3)).trans hx214_3; replace hx214_4 := (HB.out.cell (World.block_lt_of_cell? w _ hx214_4)).trans hx214_4; replace p214 := eq_true p214; replace q214 := eq_true q214) | ((with_reducible refine gate_builtin (b := .append) (xs := #[.tmp 56, .tmp 63]) rfl ?_); at_builtin; refine Kd.R_append (Kd.int .i16) (w0 := w) w.heap.size rfl (.tmp 56) (.tmp 63) 93 74 (.int .i16 0) 2 rfl Try.underlying93 info74 rfl (by decide) (by omega) u3 x3_2 ((rd_T77 l0_0 (rd x3_1 x5_1)).f2.f0) [.int .i16 ((rd_T77 l0_0 (rd x3_1 x5_1)).f2.f0)] (fun _ => True) (fun _ => False) rfl rfl ?aP (fun _ hk => hk.elim) ?aF ?aO ?aB ?aS ?aL ?_; (case aP => exact rfl); (case aB => exact q71x1_); (case aF => exact (fun _ _ => trivial)); (case aO => exact q71x3_); (case aS => exact (below_size q71x1_)); (case aL => have := LMc60.out; omega); intro v216 w63 ho hb hg hat; rw [← Ny215.out] at ho; have n0_ := aM71_ (Kd.R_over' q71x4_ (Kd.R_typed q71x3_) (by decide) hg); have n1_ := aM71_ (hb); have n2_ := aM71_ (ho); clear HO_4; clear HB; clear HO_3; have HO_4 := n0_; have HB := n1_; have HO217 := n2_; clear n0_ n1_ n2_; clear ho hb hg hat))
      repeat (go_quiet (first | ((go_at_call 106; go_in)) | ((with_reducible refine gate_store (t := 4) (p := 55) rfl ?_); (try (rw [drewN_self wr]; generalize hq_ : World.drewN wr _ = wr; have n0_ := aM71_ (Kd.R_at hq_ HO_3.out); have n1_ := aM71_ (Kd.R_at hq_ HO_4.out); have n2_ := aM71_ (below_at hq_ HB.out); clear hq_ HO_3 HO_4 HB; have HO_3 := n0_; have HO_4 := n1_; have HB := n2_; clear n0_ n1_ n2_; (try (have HP61 := Kd.R_putg HO_4.out (((rd_T77 l0_0 (rd x3_1 x5_1)).f2.f0) : Int) true)))); refine store_event (t := 4) (p := 55) (v := ?vo_w62) (w1 := (wr.setCell ⟨go5, (((rd_T77 l0_0 (rd x3_1 x5_1)).f2.f0) : Int).toNat, none⟩ (.bool true))) ?hg ?ho ?hn ?hr ?_; (case ho => rfl); (case hg => rfl); (case hn => rfl); (case hr => first | (go_simp; done) | (go_simp; rfl)); intro w62 hw; have hg : wr.grownBy w62 (some go5) := (by rw [hw]; exact HP61.2); have hp_ : Kd.R Kd.bool 4 w62 w.heap.size (fun _ => True) (.slice (some ⟨go5, 0, none⟩) x4_2.length co5) y213 := (by rw [hw, Ny213.out]; exact HP61.1); clear HP61; have n0_ := aM71_ (Kd.R_over' (v := (.slice (some ⟨go5, 0, none⟩) x4_2.length co5)) q71x3_ (Kd.R_typed HO_4.out) (by decide) hg); have n1_ := aM71_ (hp_); have n2_ := aM71_ ((q71x5_ : Below w.heap.size w w62)); clear HO_3; clear HO_4; clear HB; have HO_3 := n0_; have HO_4 := n1_; have HB := n2_; clear n0_ n1_ n2_; clear hg hw hp_; have p214 : 0 ≤ ((rd x3_1 x5_1) : Int) := of_decide_eq_true q71x2_; have q214 : (rd x3_1 x5_1) < (l0_0.length : Int) := of_decide_eq_true q71x2_; obtain ⟨ad214, e214, hx214_0, hx214_1, hx214_2, hx214_3, hx214_4⟩ := at_T77 HR0_0.out (rd x3_1 x5_1) p214 q214; obtain rfl : ad192 = ad214 := (by injection e214); replace hx214_0 := (HB.out.cell (World.block_lt_of_cell? w _ hx214_0)).trans hx214_0; replace hx214_1 := (HB.out.cell (World.block_lt_of_cell? w _ hx214_1)).trans hx214_1; replace hx214_2 := (HB.out.cell (World.block_lt_of_cell? w _ hx214_2)).trans hx214_2; replace hx214_3 := (HB.out.cell (World.block_lt_of_cell? w _ hx214_3)).trans hx214_3; replace hx214_4 := (HB.out.cell (World.block_lt_of_cell? w _ hx214_4)).trans hx214_4; replace p214 := eq_true p214; replace q214 := eq_true q214) | ((with_reducible refine gate_builtin (b := .append) (xs := #[.tmp 56, .tmp 63]) rfl ?_); at_builtin; refine Kd.R_append (Kd.int .i16) (w0 := w) w.heap.size rfl (.tmp 56) (.tmp 63) 93 74 (.int .i16 0) 2 rfl Try.underlying93 info74 rfl (by decide) (by omega) u3 x3_2 ((rd_T77 l0_0 (rd x3_1 x5_1)).f2.f0) [.int .i16 ((rd_T77 l0_0 (rd x3_1 x5_1)).f2.f0)] (fun _ => True) (fun _ => False) rfl rfl ?aP (fun _ hk => hk.elim) ?aF ?aO ?aB ?aS ?aL ?_; (case aP => exact rfl); (case aB => exact q71x1_); (case aF => exact (fun _ _ => trivial)); (case aO => exact q71x3_); (case aS => exact (below_size q71x1_)); (case aL => have := LMc60.out; omega); intro v216 w63 ho hb hg hat; rw [← Ny215.out] at ho; have n0_ := aM71_ (Kd.R_over' q71x4_ (Kd.R_typed q71x3_) (by decide) hg); have n1_ := aM71_ (hb); have n2_ := aM71_ (ho); clear HO_4; clear HB; clear HO_3; have HO_4 := n0_; have HB := n1_; have HO217 := n2_; clear n0_ n1_ n2_; clear ho hb hg hat)); try go_wp2_with (first | ((go_at_call 106; go_in)) | ((with_reducible refine gate_store (t := 4) (p := 55) rfl ?_); (try (rw [drewN_self wr]; generalize hq_ : World.drewN wr _ = wr; have n0_ := aM71_ (Kd.R_at hq_ HO_3.out); have n1_ := aM71_ (Kd.R_at hq_ HO_4.out); have n2_ := aM71_ (below_at hq_ HB.out); clear hq_ HO_3 HO_4 HB; have HO_3 := n0_; have HO_4 := n1_; have HB := n2_; clear n0_ n1_ n2_; (try (have HP61 := Kd.R_putg HO_4.out (((rd_T77 l0_0 (rd x3_1 x5_1)).f2.f0) : Int) true)))); refine store_event (t := 4) (p := 55) (v := ?vo_w62) (w1 := (wr.setCell ⟨go5, (((rd_T77 l0_0 (rd x3_1 x5_1)).f2.f0) : Int).toNat, none⟩ (.bool true))) ?hg ?ho ?hn ?hr ?_; (case ho => rfl); (case hg => rfl); (case hn => rfl); (case hr => first | (go_simp; done) | (go_simp; rfl)); intro w62 hw; have hg : wr.grownBy w62 (some go5) := (by rw [hw]; exact HP61.2); have hp_ : Kd.R Kd.bool 4 w62 w.heap.size (fun _ => True) (.slice (some ⟨go5, 0, none⟩) x4_2.length co5) y213 := (by rw [hw, Ny213.out]; exact HP61.1); clear HP61; have n0_ := aM71_ (Kd.R_over' (v := (.slice (some ⟨go5, 0, none⟩) x4_2.length co5)) q71x3_ (Kd.R_typed HO_4.out) (by decide) hg); have n1_ := aM71_ (hp_); have n2_ := aM71_ ((q71x5_ : Below w.heap.size w w62)); clear HO_3; clear HO_4; clear HB; have HO_3 := n0_; have HO_4 := n1_; have HB := n2_; clear n0_ n1_ n2_; clear hg hw hp_; have p214 : 0 ≤ ((rd x3_1 x5_1) : Int) := of_decide_eq_true q71x2_; have q214 : (rd x3_1 x5_1) < (l0_0.length : Int) := of_decide_eq_true q71x2_; obtain ⟨ad214, e214, hx214_0, hx214_1, hx214_2, hx214_3, hx214_4⟩ := at_T77 HR0_0.out (rd x3_1 x5_1) p214 q214; obtain rfl : ad192 = ad214 := (by injection e214); replace hx214_0 := (HB.out.cell (World.block_lt_of_cell? w _ hx214_0)).trans hx214_0; replace hx214_1 := (HB.out.cell (World.block_lt_of_cell? w _ hx214_1)).trans hx214_1; replace hx214_2 := (HB.out.cell (World.block_lt_of_cell? w _ hx214_2)).trans hx214_2; replace hx214_3 := (HB.out.cell (World.block_lt_of_cell? w _ hx214_3)).trans hx214_3; replace hx214_4 := (HB.out.cell (World.block_lt_of_cell? w _ hx214_4)).trans hx214_4; replace p214 := eq_true p214; replace q214 := eq_true q214) | ((with_reducible refine gate_builtin (b := .append) (xs := #[.tmp 56, .tmp 63]) rfl ?_); at_builtin; refine Kd.R_append (Kd.int .i16) (w0 := w) w.heap.size rfl (.tmp 56) (.tmp 63) 93 74 (.int .i16 0) 2 rfl Try.underlying93 info74 rfl (by decide) (by omega) u3 x3_2 ((rd_T77 l0_0 (rd x3_1 x5_1)).f2.f0) [.int .i16 ((rd_T77 l0_0 (rd x3_1 x5_1)).f2.f0)] (fun _ => True) (fun _ => False) rfl rfl ?aP (fun _ hk => hk.elim) ?aF ?aO ?aB ?aS ?aL ?_; (case aP => exact rfl); (case aB => exact q71x1_); (case aF => exact (fun _ _ => trivial)); (case aO => exact q71x3_); (case aS => exact (below_size q71x1_)); (case aL => have := LMc60.out; omega); intro v216 w63 ho hb hg hat; rw [← Ny215.out] at ho; have n0_ := aM71_ (Kd.R_over' q71x4_ (Kd.R_typed q71x3_) (by decide) hg); have n1_ := aM71_ (hb); have n2_ := aM71_ (ho); clear HO_4; clear HB; clear HO_3; have HO_4 := n0_; have HB := n1_; have HO217 := n2_; clear n0_ n1_ n2_; clear ho hb hg hat)))
      (try simp only [← hl4_2])
      go_roundg k2
      case measure => have := HK1.out; have := HK2.out; omega
      case rel => exact ⟨(y215), (y213), (0 + 1), q71x7_, H', ⟨by have := HK1.out; have := HK2.out; omega⟩, ⟨by (try simp only [hl4_1]); (try simp only [hl4_2]); (with_reducible repeat (first | apply Kd.R_alloc | apply Kd.R_drewN | apply Kd.R_drew)); exact HO217.out⟩, ⟨by (try simp only [hl4_1]); (try simp only [hl4_2]); (with_reducible repeat (first | apply Kd.R_alloc | apply Kd.R_drewN | apply Kd.R_drew)); exact HO_4.out⟩, ⟨by repeat (first | (with_reducible first | exact HB.out | apply below_alloc | apply pw_below_drewN | apply below_drew1) | exact HB.out)⟩⟩
     rw [if_pos c21] at H
     have c21b0 : (((rd_T77 l0_0 (rd x3_1 x5_1)).f0) == 1) = true := beq_iff_eq.mpr c21
     have c21b1 : (((rd_T77 l0_0 (rd x3_1 x5_1)).f0) != 1) = false := bne_eq_false_iff_eq.mpr c21
     clear c21
     by_cases c22 : x7_2 < 3
     rotate_left
     ·rw [if_neg c22] at H
      have c22b0 : decide (x7_2 < 3) = false := decide_eq_false c22
      clear c22
      have H' := aM71_ H
      clear H
      have p193 : 0 ≤ ((rd x3_1 x5_1) : Int) := of_decide_eq_true q71x2_
      have q193 : (rd x3_1 x5_1) < (l0_0.length : Int) := of_decide_eq_true q71x2_
      obtain ⟨ad193, e193, hx193_0, hx193_1, hx193_2, hx193_3, hx193_4⟩ := at_T77 HR0_0.out (rd x3_1 x5_1) p193 q193
      obtain rfl : ad192 = ad193 := (by injection e193)
      replace hx193_0 := (HB.out.cell (World.block_lt_of_cell? w _ hx193_0)).trans hx193_0
      replace hx193_1 := (HB.out.cell (World.block_lt_of_cell? w _ hx193_1)).trans hx193_1
      replace hx193_2 := (HB.out.cell (World.block_lt_of_cell? w _ hx193_2)).trans hx193_2
      replace hx193_3 := (HB.out.cell (World.block_lt_of_cell? w _ hx193_3)).trans hx193_3
      replace hx193_4 := (HB.out.cell (World.block_lt_of_cell? w _ hx193_4)).trans hx193_4
      replace p193 := eq_true p193
      replace q193 := eq_true q193
      go_wp2_with (first | ((go_at_call 106; go_in)))
      repeat (go_quiet (first | ((go_at_call 106; go_in))); try go_wp2_with (first | ((go_at_call 106; go_in))))
      (try simp only [← hl4_1, ← hl4_2])
      go_roundg k2
      case measure => have := HK1.out; have := HK2.out; omega
      case rel => exact ⟨(x3_2), (x4_2), (wrap64 (x5_1 + 1)), q71x7_, H', ⟨by have := HK1.out; have := HK2.out; omega⟩, ⟨by (try simp only [hl4_1]); (try simp only [hl4_2]); (with_reducible repeat (first | apply Kd.R_alloc | apply Kd.R_drewN | apply Kd.R_drew)); exact HO_3.out⟩, ⟨by (try simp only [hl4_1]); (try simp only [hl4_2]); (with_reducible repeat (first | apply Kd.R_alloc | apply Kd.R_drewN | apply Kd.R_drew)); exact HO_4.out⟩, ⟨by repeat (first | (with_reducible first | exact HB.out | apply below_alloc | apply pw_below_drewN | apply below_drew1) | exact HB.out)⟩⟩
     rw [if_pos c22] at H
     have c22b0 : decide (x7_2 < 3) = true := decide_eq_true c22
     clear c22
     by_cases c23 : x7_2 = 0
     ·subst c23
      have H1 : (if 0 ≤ ((rd_T77 l0_0 (rd x3_1 x5_1)).f2.f0) then (if ((rd_T77 l0_0 (rd x3_1 x5_1)).f2.f0) < (x4_2.length : Int) then (if (rdOf false x4_2 ((rd_T77 l0_0 (rd x3_1 x5_1)).f2.f0) = true) then (spec_l06Reached.l1 k2 x3_2 x4_2 x5_1 (0 + 1) (rd x3_1 x5_1) l0_0) else (if x3_2.length < 70368744177664 then (spec_l06Reached.l1 k2 (x3_2 ++ [(rd_T77 l0_0 (rd x3_1 x5_1)).f2.f0]) (x4_2.set (((rd_T77 l0_0 (rd x3_1 x5_1)).f2.f0) : Int).toNat true) x5_1 (0 + 1) (rd x3_1 x5_1) l0_0) else (none))) else (none)) else (none)) = some r := by rw [if_pos rfl] at H; exact H
      clear H
      have H := H1
      clear H1
      by_cases c24 : 0 ≤ ((rd_T77 l0_0 (rd x3_1 x5_1)).f2.f0)
      rotate_left
      ·rw [if_neg c24] at H
       exact absurd H (by simp)
      rw [if_pos c24] at H
      have c24b0 : decide (0 ≤ ((rd_T77 l0_0 (rd x3_1 x5_1)).f2.f0)) = true := decide_eq_true c24
      clear c24
      by_cases c25 : ((rd_T77 l0_0 (rd x3_1 x5_1)).f2.f0) < (x4_2.length : Int)
      rotate_left
      ·rw [if_neg c25] at H
       exact absurd H (by simp)
      rw [if_pos c25] at H
      have c25b0 : decide (((rd_T77 l0_0 (rd x3_1 x5_1)).f2.f0) < (x4_2.length : Int)) = true := decide_eq_true c25
      (try (have c25b0hl4_1 := c25b0; rw [hl4_1] at c25b0hl4_1))
      (try (have c25b0hl4_2 := c25b0; rw [hl4_2] at c25b0hl4_2))
      clear c25
      obtain ⟨bq26, hbq26⟩ : ∃ b_ : Bool, b_ = (rdOf false x4_2 ((rd_T77 l0_0 (rd x3_1 x5_1)).f2.f0)) := ⟨_, rfl⟩
      replace H : (if (bq26 = true) then (spec_l06Reached.l1 k2 x3_2 x4_2 x5_1 (0 + 1) (rd x3_1 x5_1) l0_0) else (if x3_2.length < 70368744177664 then (spec_l06Reached.l1 k2 (x3_2 ++ [(rd_T77 l0_0 (rd x3_1 x5_1)).f2.f0]) (x4_2.set (((rd_T77 l0_0 (rd x3_1 x5_1)).f2.f0) : Int).toNat true) x5_1 (0 + 1) (rd x3_1 x5_1) l0_0) else (none))) = some r := by rw [← hbq26] at H; exact H
      have Nbq26 := aM71_ hbq26
      clear hbq26
      by_cases c27 : (bq26 = true)
      ·subst c27
       have H1 : (spec_l06Reached.l1 k2 x3_2 x4_2 x5_1 (0 + 1) (rd x3_1 x5_1) l0_0) = some r := by rw [if_pos rfl] at H; exact H
       clear H
       have H := H1
       clear H1
       have H' := aM71_ H
       clear H
       have p193 : 0 ≤ ((rd x3_1 x5_1) : Int) := of_decide_eq_true q71x2_
       have q193 : (rd x3_1 x5_1) < (l0_0.length : Int) := of_decide_eq_true q71x2_
       obtain ⟨ad193, e193, hx193_0, hx193_1, hx193_2, hx193_3, hx193_4⟩ := at_T77 HR0_0.out (rd x3_1 x5_1) p193 q193
       obtain rfl : ad192 = ad193 := (by injection e193)
       replace hx193_0 := (HB.out.cell (World.block_lt_of_cell? w _ hx193_0)).trans hx193_0
       replace hx193_1 := (HB.out.cell (World.block_lt_of_cell? w _ hx193_1)).trans hx193_1
       replace hx193_2 := (HB.out.cell (World.block_lt_of_cell? w _ hx193_2)).trans hx193_2
       replace hx193_3 := (HB.out.cell (World.block_lt_of_cell? w _ hx193_3)).trans hx193_3
       replace hx193_4 := (HB.out.cell (World.block_lt_of_cell? w _ hx193_4)).trans hx193_4
       replace p193 := eq_true p193
       replace q193 := eq_true q193
       have p194 : 0 ≤ (((rd_T77 l0_0 (rd x3_1 x5_1)).f2.f0) : Int) := of_decide_eq_true q71x2_
       have q194 : ((rd_T77 l0_0 (rd x3_1 x5_1)).f2.f0) < (x4_2.length : Int) := of_decide_eq_true q71x2_
       obtain ⟨ad194, e194, hx194_0⟩ := Kd.at_bool (Kd.R_reads' HO_4.out).2.2 ((rd_T77 l0_0 (rd x3_1 x5_1)).f2.f0) p194 q194
       (try rw [← Nbq26.out] at hx194_0)
       obtain rfl : (⟨go5, 0, none⟩ : Addr) = ad194 := (by injection e194)
       (first | simp only [add_plain] at hx194_0 | simp only [add_at] at hx194_0 | simp only [Addr.add, Nat.zero_add] at hx194_0 | skip)
       replace p194 := eq_true p194
       replace q194 := eq_true q194
       go_wp2_with (first | ((go_at_call 106; go_in)))
       repeat (go_quiet (first | ((go_at_call 106; go_in))); try go_wp2_with (first | ((go_at_call 106; go_in))))
       (try simp only [← hl4_2])
       go_roundg k2
       case measure => have := HK1.out; have := HK2.out; omega
       case rel => exact ⟨(x3_2), (x4_2), (0 + 1), q71x7_, H', ⟨by have := HK1.out; have := HK2.out; omega⟩, ⟨by (try simp only [hl4_1]); (try simp only [hl4_2]); (with_reducible repeat (first | apply Kd.R_alloc | apply Kd.R_drewN | apply Kd.R_drew)); exact HO_3.out⟩, ⟨by (try simp only [hl4_1]); (try simp only [hl4_2]); (with_reducible repeat (first | apply Kd.R_alloc | apply Kd.R_drewN | apply Kd.R_drew)); exact HO_4.out⟩, ⟨by repeat (first | (with_reducible first | exact HB.out | apply below_alloc | apply pw_below_drewN | apply below_drew1) | exact HB.out)⟩⟩
      replace c27 := Bool.eq_false_iff.mpr c27
      subst c27
      have H1 : (if x3_2.length < 70368744177664 then (spec_l06Reached.l1 k2 (x3_2 ++ [(rd_T77 l0_0 (rd x3_1 x5_1)).f2.f0]) (x4_2.set (((rd_T77 l0_0 (rd x3_1 x5_1)).f2.f0) : Int).toNat true) x5_1 (0 + 1) (rd x3_1 x5_1) l0_0) else (none)) = some r := by rw [if_neg (show ¬ (false = true) by decide)] at H; exact H
      clear H
      have H := H1
      clear H1
      obtain ⟨y195, hy195⟩ : ∃ y_ : List Bool, y_ = (x4_2.set (((rd_T77 l0_0 (rd x3_1 x5_1)).f2.f0) : Int).toNat true) := ⟨_, rfl⟩
      replace H : (if x3_2.length < 70368744177664 then (spec_l06Reached.l1 k2 (x3_2 ++ [(rd_T77 l0_0 (rd x3_1 x5_1)).f2.f0]) y195 x5_1 (0 + 1) (rd x3_1 x5_1) l0_0) else (none)) = some r := by first | (rw [hy195]; with_reducible exact H) | (have H2_ := (Option.bind_some _ _).symm.trans H; rw [hy195]; with_reducible exact H2_) | (have H2_ := (Option.bind_some _ _).symm.trans H; with_reducible exact H2_) | with_reducible exact H | (rw [hy195]; exact H) | exact H
      have Ny195 := aM71_ hy195
      clear hy195
      by_cases c29 : x3_2.length < 70368744177664
      rotate_left
      ·rw [if_neg c29] at H
       exact absurd H (by simp)
      rw [if_pos c29] at H
      have LMc29 := aM71_ c29
      clear c29
      obtain ⟨y197, hy197⟩ : ∃ y_ : List Int, y_ = (x3_2 ++ [(rd_T77 l0_0 (rd x3_1 x5_1)).f2.f0]) := ⟨_, rfl⟩
      replace H : (spec_l06Reached.l1 k2 y197 y195 x5_1 (0 + 1) (rd x3_1 x5_1) l0_0) = some r := by first | (rw [hy197]; with_reducible exact H) | (have H2_ := (Option.bind_some _ _).symm.trans H; rw [hy197]; with_reducible exact H2_) | (have H2_ := (Option.bind_some _ _).symm.trans H; with_reducible exact H2_) | with_reducible exact H | (rw [hy197]; exact H) | exact H
      have Ny197 := aM71_ hy197
      clear hy197
      have H' := aM71_ H
      clear H
      have p193 : 0 ≤ ((rd x3_1 x5_1) : Int) := of_decide_eq_true q71x2_
      have q193 : (rd x3_1 x5_1) < (l0_0.length : Int) := of_decide_eq_true q71x2_
      obtain ⟨ad193, e193, hx193_0, hx193_1, hx193_2, hx193_3, hx193_4⟩ := at_T77 HR0_0.out (rd x3_1 x5_1) p193 q193
      obtain rfl : ad192 = ad193 := (by injection e193)
      replace hx193_0 := (HB.out.cell (World.block_lt_of_cell? w _ hx193_0)).trans hx193_0
      replace hx193_1 := (HB.out.cell (World.block_lt_of_cell? w _ hx193_1)).trans hx193_1
      replace hx193_2 := (HB.out.cell (World.block_lt_of_cell? w _ hx193_2)).trans hx193_2
      replace hx193_3 := (HB.out.cell (World.block_lt_of_cell? w _ hx193_3)).trans hx193_3
      replace hx193_4 := (HB.out.cell (World.block_lt_of_cell? w _ hx193_4)).trans hx193_4
      replace p193 := eq_true p193
      replace q193 := eq_true q193
      have p194 : 0 ≤ (((rd_T77 l0_0 (rd x3_1 x5_1)).f2.f0) : Int) := of_decide_eq_true q71x2_
      have q194 : ((rd_T77 l0_0 (rd x3_1 x5_1)).f2.f0) < (x4_2.length : Int) := of_decide_eq_true q71x2_
      obtain ⟨ad194, e194, hx194_0⟩ := Kd.at_bool (Kd.R_reads' HO_4.out).2.2 ((rd_T77 l0_0 (rd x3_1 x5_1)).f2.f0) p194 q194
      (try rw [← Nbq26.out] at hx194_0)
      obtain rfl : (⟨go5, 0, none⟩ : Addr) = ad194 := (by injection e194)
      (first | simp only [add_plain] at hx194_0 | simp only [add_at] at hx194_0 | simp only [Addr.add, Nat.zero_add] at hx194_0 | skip)
      replace p194 := eq_true p194
      replace q194 := eq_true q194
      have p28 : 0 ≤ (((rd_T77 l0_0 (rd x3_1 x5_1)).f2.f0) : Int) := of_decide_eq_true q71x2_
      have q28 : (((rd_T77 l0_0 (rd x3_1 x5_1)).f2.f0) : Int) < ((x4_2.length : Int) : Int) := of_decide_eq_true q71x2_
      obtain ⟨hx28_0, hf28_0⟩ := Kd.R_celln false HO_4.out (((rd_T77 l0_0 (rd x3_1 x5_1)).f2.f0) : Int) p28 q28
      replace p28 := eq_true p28
      replace q28 := eq_true q28
      have HP30 := Kd.R_putg HO_4.out (((rd_T77 l0_0 (rd x3_1 x5_1)).f2.f0) : Int) true
      go_wp2_with (first | ((go_at_call 106; go_in)) | ((with_reducible refine gate_store (t := 4) (p := 55) rfl ?_); (try (rw [drewN_self wr]; generalize hq_ : World.drewN wr _ = wr; have n0_ := aM71_ (Kd.R_at hq_ HO_3.out); have n1_ := aM71_ (Kd.R_at hq_ HO_4.out); have n2_ := aM71_ (below_at hq_ HB.out); clear hq_ HO_3 HO_4 HB; have HO_3 := n0_; have HO_4 := n1_; have HB := n2_; clear n0_ n1_ n2_; (try (have HP30 := Kd.R_putg HO_4.out (((rd_T77 l0_0 (rd x3_1 x5_1)).f2.f0) : Int) true)))); refine store_event (t := 4) (p := 55) (v := ?vo_w31) (w1 := (wr.setCell ⟨go5, (((rd_T77 l0_0 (rd x3_1 x5_1)).f2.f0) : Int).toNat, none⟩ (.bool true))) ?hg ?ho ?hn ?hr ?_; (case ho => rfl); (case hg => rfl); (case hn => rfl); (case hr => first | (go_simp; done) | (go_simp; rfl)); intro w31 hw; have hg : wr.grownBy w31 (some go5) := (by rw [hw]; exact HP30.2); have hp_ : Kd.R Kd.bool 4 w31 w.heap.size (fun _ => True) (.slice (some ⟨go5, 0, none⟩) x4_2.length co5) y195 := (by rw [hw, Ny195.out]; exact HP30.1); clear HP30; have n0_ := aM71_ (Kd.R_over' (v := (.slice (some ⟨go5, 0, none⟩) x4_2.length co5)) q71x3_ (Kd.R_typed HO_4.out) (by decide) hg); have n1_ := aM71_ (hp_); have n2_ := aM71_ ((q71x5_ : Below w.heap.size w w31)); clear HO_3; clear HO_4; clear HB; have HO_3 := n0_; have HO_4 := n1_; have HB := n2_; clear n0_ n1_ n2_; clear hg hw hp_; have p196 : 0 ≤ ((rd x3_1 x5_1) : Int) := of_decide_eq_true q71x2_; have q196 : (rd x3_1 x5_1) < (l0_0.length : Int) := of_decide_eq_true q71x2_; obtain ⟨ad196, e196, hx196_0, hx196_1, hx196_2, hx196_3, hx196_4⟩ := at_T77 HR0_0.out (rd x3_1 x5_1) p196 q196; obtain rfl : ad192 = ad196 := (by injection e196); replace hx196_0 := (HB.out.cell (World.block_lt_of_cell? w _ hx196_0)).trans hx196_0; replace hx196_1 := (HB.out.cell (World.block_lt_of_cell? w _ hx196_1)).trans hx196_1; replace hx196_2 := (HB.out.cell (World.block_lt_of_cell? w _ hx196_2)).trans hx196_2; replace hx196_3 := (HB.out.cell (World.block_lt_of_cell? w _ hx196_3)).trans hx196_3; replace hx196_4 := (HB.out.cell (World.block_lt_of_cell? w _ hx196_4)).trans hx196_4; replace p196 := eq_true p196; replace q196 := eq_true q196) | ((with_reducible refine gate_builtin (b := .append) (xs := #[.tmp 56, .tmp 63]) rfl ?_); at_builtin; refine Kd.R_append (Kd.int .i16) (w0 := w) w.heap.size rfl (.tmp 56) (.tmp 63) 93 74 (.int .i16 0) 2 rfl Try.underlying93 info74 rfl (by decide) (by omega) u3 x3_2 ((rd_T77 l0_0 (rd x3_1 x5_1)).f2.f0) [.int .i16 ((rd_T77 l0_0 (rd x3_1 x5_1)).f2.f0)] (fun _ => True) (fun _ => False) rfl rfl ?aP (fun _ hk => hk.elim) ?aF ?aO ?aB ?aS ?aL ?_; (case aP => exact rfl); (case aB => exact q71x1_); (case aF => exact (fun _ _ => trivial)); (case aO => exact q71x3_); (case aS => exact (below_size q71x1_)); (case aL => have := LMc29.out; omega); intro v198 w32 ho hb hg hat; rw [← Ny197.out] at ho; have n0_ := aM71_ (Kd.R_over' q71x4_ (Kd.R_typed q71x3_) (by decide) hg); have n1_ := aM71_ (hb); have n2_ := aM71_ (ho); clear HO_4; clear HB; clear HO_3; have HO_4 := n0_; have HB := n1_; have HO199 := n2_; clear n0_ n1_ n2_; clear ho hb hg hat))
      repeat (go_quiet (first | ((go_at_call 106; go_in)) | ((with_reducible refine gate_store (t := 4) (p := 55) rfl ?_); (try (rw [drewN_self wr]; generalize hq_ : World.drewN wr _ = wr; have n0_ := aM71_ (Kd.R_at hq_ HO_3.out); have n1_ := aM71_ (Kd.R_at hq_ HO_4.out); have n2_ := aM71_ (below_at hq_ HB.out); clear hq_ HO_3 HO_4 HB; have HO_3 := n0_; have HO_4 := n1_; have HB := n2_; clear n0_ n1_ n2_; (try (have HP30 := Kd.R_putg HO_4.out (((rd_T77 l0_0 (rd x3_1 x5_1)).f2.f0) : Int) true)))); refine store_event (t := 4) (p := 55) (v := ?vo_w31) (w1 := (wr.setCell ⟨go5, (((rd_T77 l0_0 (rd x3_1 x5_1)).f2.f0) : Int).toNat, none⟩ (.bool true))) ?hg ?ho ?hn ?hr ?_; (case ho => rfl); (case hg => rfl); (case hn => rfl); (case hr => first | (go_simp; done) | (go_simp; rfl)); intro w31 hw; have hg : wr.grownBy w31 (some go5) := (by rw [hw]; exact HP30.2); have hp_ : Kd.R Kd.bool 4 w31 w.heap.size (fun _ => True) (.slice (some ⟨go5, 0, none⟩) x4_2.length co5) y195 := (by rw [hw, Ny195.out]; exact HP30.1); clear HP30; have n0_ := aM71_ (Kd.R_over' (v := (.slice (some ⟨go5, 0, none⟩) x4_2.length co5)) q71x3_ (Kd.R_typed HO_4.out) (by decide) hg); have n1_ := aM71_ (hp_); have n2_ := aM71_ ((q71x5_ : Below w.heap.size w w31)); clear HO_3; clear HO_4; clear HB; have HO_3 := n0_; have HO_4 := n1_; have HB := n2_; clear n0_ n1_ n2_; clear hg hw hp_; have p196 : 0 ≤ ((rd x3_1 x5_1) : Int) := of_decide_eq_true q71x2_; have q196 : (rd x3_1 x5_1) < (l0_0.length : Int) := of_decide_eq_true q71x2_; obtain ⟨ad196, e196, hx196_0, hx196_1, hx196_2, hx196_3, hx196_4⟩ := at_T77 HR0_0.out (rd x3_1 x5_1) p196 q196; obtain rfl : ad192 = ad196 := (by injection e196); replace hx196_0 := (HB.out.cell (World.block_lt_of_cell? w _ hx196_0)).trans hx196_0; replace hx196_1 := (HB.out.cell (World.block_lt_of_cell? w _ hx196_1)).trans hx196_1; replace hx196_2 := (HB.out.cell (World.block_lt_of_cell? w _ hx196_2)).trans hx196_2; replace hx196_3 := (HB.out.cell (World.block_lt_of_cell? w _ hx196_3)).trans hx196_3; replace hx196_4 := (HB.out.cell (World.block_lt_of_cell? w _ hx196_4)).trans hx196_4; replace p196 := eq_true p196; replace q196 := eq_true q196) | ((with_reducible refine gate_builtin (b := .append) (xs := #[.tmp 56, .tmp 63]) rfl ?_); at_builtin; refine Kd.R_append (Kd.int .i16) (w0 := w) w.heap.size rfl (.tmp 56) (.tmp 63) 93 74 (.int .i16 0) 2 rfl Try.underlying93 info74 rfl (by decide) (by omega) u3 x3_2 ((rd_T77 l0_0 (rd x3_1 x5_1)).f2.f0) [.int .i16 ((rd_T77 l0_0 (rd x3_1 x5_1)).f2.f0)] (fun _ => True) (fun _ => False) rfl rfl ?aP (fun _ hk => hk.elim) ?aF ?aO ?aB ?aS ?aL ?_; (case aP => exact rfl); (case aB => exact q71x1_); (case aF => exact (fun _ _ => trivial)); (case aO => exact q71x3_); (case aS => exact (below_size q71x1_)); (case aL => have := LMc29.out; omega); intro v198 w32 ho hb hg hat; rw [← Ny197.out] at ho; have n0_ := aM71_ (Kd.R_over' q71x4_ (Kd.R_typed q71x3_) (by decide) hg); have n1_ := aM71_ (hb); have n2_ := aM71_ (ho); clear HO_4; clear HB; clear HO_3; have HO_4 := n0_; have HB := n1_; have HO199 := n2_; clear n0_ n1_ n2_; clear ho hb hg hat)); try go_wp2_with (first | ((go_at_call 106; go_in)) | ((with_reducible refine gate_store (t := 4) (p := 55) rfl ?_); (try (rw [drewN_self wr]; generalize hq_ : World.drewN wr _ = wr; have n0_ := aM71_ (Kd.R_at hq_ HO_3.out); have n1_ := aM71_ (Kd.R_at hq_ HO_4.out); have n2_ := aM71_ (below_at hq_ HB.out); clear hq_ HO_3 HO_4 HB; have HO_3 := n0_; have HO_4 := n1_; have HB := n2_; clear n0_ n1_ n2_; (try (have HP30 := Kd.R_putg HO_4.out (((rd_T77 l0_0 (rd x3_1 x5_1)).f2.f0) : Int) true)))); refine store_event (t := 4) (p := 55) (v := ?vo_w31) (w1 := (wr.setCell ⟨go5, (((rd_T77 l0_0 (rd x3_1 x5_1)).f2.f0) : Int).toNat, none⟩ (.bool true))) ?hg ?ho ?hn ?hr ?_; (case ho => rfl); (case hg => rfl); (case hn => rfl); (case hr => first | (go_simp; done) | (go_simp; rfl)); intro w31 hw; have hg : wr.grownBy w31 (some go5) := (by rw [hw]; exact HP30.2); have hp_ : Kd.R Kd.bool 4 w31 w.heap.size (fun _ => True) (.slice (some ⟨go5, 0, none⟩) x4_2.length co5) y195 := (by rw [hw, Ny195.out]; exact HP30.1); clear HP30; have n0_ := aM71_ (Kd.R_over' (v := (.slice (some ⟨go5, 0, none⟩) x4_2.length co5)) q71x3_ (Kd.R_typed HO_4.out) (by decide) hg); have n1_ := aM71_ (hp_); have n2_ := aM71_ ((q71x5_ : Below w.heap.size w w31)); clear HO_3; clear HO_4; clear HB; have HO_3 := n0_; have HO_4 := n1_; have HB := n2_; clear n0_ n1_ n2_; clear hg hw hp_; have p196 : 0 ≤ ((rd x3_1 x5_1) : Int) := of_decide_eq_true q71x2_; have q196 : (rd x3_1 x5_1) < (l0_0.length : Int) := of_decide_eq_true q71x2_; obtain ⟨ad196, e196, hx196_0, hx196_1, hx196_2, hx196_3, hx196_4⟩ := at_T77 HR0_0.out (rd x3_1 x5_1) p196 q196; obtain rfl : ad192 = ad196 := (by injection e196); replace hx196_0 := (HB.out.cell (World.block_lt_of_cell? w _ hx196_0)).trans hx196_0; replace hx196_1 := (HB.out.cell (World.block_lt_of_cell? w _ hx196_1)).trans hx196_1; replace hx196_2 := (HB.out.cell (World.block_lt_of_cell? w _ hx196_2)).trans hx196_2; replace hx196_3 := (HB.out.cell (World.block_lt_of_cell? w _ hx196_3)).trans hx196_3; replace hx196_4 := (HB.out.cell (World.block_lt_of_cell? w _ hx196_4)).trans hx196_4; replace p196 := eq_true p196; replace q196 := eq_true q196) | ((with_reducible refine gate_builtin (b := .append) (xs := #[.tmp 56, .tmp 63]) rfl ?_); at_builtin; refine Kd.R_append (Kd.int .i16) (w0 := w) w.heap.size rfl (.tmp 56) (.tmp 63) 93 74 (.int .i16 0) 2 rfl Try.underlying93 info74 rfl (by decide) (by omega) u3 x3_2 ((rd_T77 l0_0 (rd x3_1 x5_1)).f2.f0) [.int .i16 ((rd_T77 l0_0 (rd x3_1 x5_1)).f2.f0)] (fun _ => True) (fun _ => False) rfl rfl ?aP (fun _ hk => hk.elim) ?aF ?aO ?aB ?aS ?aL ?_; (case aP => exact rfl); (case aB => exact q71x1_); (case aF => exact (fun _ _ => trivial)); (case aO => exact q71x3_); (case aS => exact (below_size q71x1_)); (case aL => have := LMc29.out; omega); intro v198 w32 ho hb hg hat; rw [← Ny197.out] at ho; have n0_ := aM71_ (Kd.R_over' q71x4_ (Kd.R_typed q71x3_) (by decide) hg); have n1_ := aM71_ (hb); have n2_ := aM71_ (ho); clear HO_4; clear HB; clear HO_3; have HO_4 := n0_; have HB := n1_; have HO199 := n2_; clear n0_ n1_ n2_; clear ho hb hg hat)))
      (try simp only [← hl4_2])
      go_roundg k2
      case measure => have := HK1.out; have := HK2.out; omega
      case rel => exact ⟨(y197), (y195), (0 + 1), q71x7_, H', ⟨by have := HK1.out; have := HK2.out; omega⟩, ⟨by (try simp only [hl4_1]); (try simp only [hl4_2]); (with_reducible repeat (first | apply Kd.R_alloc | apply Kd.R_drewN | apply Kd.R_drew)); exact HO199.out⟩, ⟨by (try simp only [hl4_1]); (try simp only [hl4_2]); (with_reducible repeat (first | apply Kd.R_alloc | apply Kd.R_drewN | apply Kd.R_drew)); exact HO_4.out⟩, ⟨by repeat (first | (with_reducible first | exact HB.out | apply below_alloc | apply pw_below_drewN | apply below_drew1) | exact HB.out)⟩⟩
     rw [if_neg c23] at H
     by_cases c33 : x7_2 = 1
     ·subst c33
      have H1 : (if 0 ≤ ((rd_T77 l0_0 (rd x3_1 x5_1)).f2.f1) then (if ((rd_T77 l0_0 (rd x3_1 x5_1)).f2.f1) < (x4_2.length : Int) then (if (rdOf false x4_2 ((rd_T77 l0_0 (rd x3_1 x5_1)).f2.f1) = true) then (spec_l06Reached.l1 k2 x3_2 x4_2 x5_1 (1 + 1) (rd x3_1 x5_1) l0_0) else (if x3_2.length < 70368744177664 then (spec_l06Reached.l1 k2 (x3_2 ++ [(rd_T77 l0_0 (rd x3_1 x5_1)).f2.f1]) (x4_2.set (((rd_T77 l0_0 (rd x3_1 x5_1)).f2.f1) : Int).toNat true) x5_1 (1 + 1) (rd x3_1 x5_1) l0_0) else (none))) else (none)) else (none)) = some r := by rw [if_pos rfl] at H; exact H
      clear H
      have H := H1
      clear H1
      by_cases c34 : 0 ≤ ((rd_T77 l0_0 (rd x3_1 x5_1)).f2.f1)
      rotate_left
      ·rw [if_neg c34] at H
       exact absurd H (by simp)
      rw [if_pos c34] at H
      have c34b0 : decide (0 ≤ ((rd_T77 l0_0 (rd x3_1 x5_1)).f2.f1)) = true := decide_eq_true c34
      clear c34
      by_cases c35 : ((rd_T77 l0_0 (rd x3_1 x5_1)).f2.f1) < (x4_2.length : Int)
      rotate_left
      ·rw [if_neg c35] at H
       exact absurd H (by simp)
      rw [if_pos c35] at H
      have c35b0 : decide (((rd_T77 l0_0 (rd x3_1 x5_1)).f2.f1) < (x4_2.length : Int)) = true := decide_eq_true c35
      (try (have c35b0hl4_1 := c35b0; rw [hl4_1] at c35b0hl4_1))
      (try (have c35b0hl4_2 := c35b0; rw [hl4_2] at c35b0hl4_2))
      clear c35
      obtain ⟨bq36, hbq36⟩ : ∃ b_ : Bool, b_ = (rdOf false x4_2 ((rd_T77 l0_0 (rd x3_1 x5_1)).f2.f1)) := ⟨_, rfl⟩
      replace H : (if (bq36 = true) then (spec_l06Reached.l1 k2 x3_2 x4_2 x5_1 (1 + 1) (rd x3_1 x5_1) l0_0) else (if x3_2.length < 70368744177664 then (spec_l06Reached.l1 k2 (x3_2 ++ [(rd_T77 l0_0 (rd x3_1 x5_1)).f2.f1]) (x4_2.set (((rd_T77 l0_0 (rd x3_1 x5_1)).f2.f1) : Int).toNat true) x5_1 (1 + 1) (rd x3_1 x5_1) l0_0) else (none))) = some r := by rw [← hbq36] at H; exact H
      have Nbq36 := aM71_ hbq36
      clear hbq36
      by_cases c37 : (bq36 = true)
      ·subst c37
       have H1 : (spec_l06Reached.l1 k2 x3_2 x4_2 x5_1 (1 + 1) (rd x3_1 x5_1) l0_0) = some r := by rw [if_pos rfl] at H; exact H
       clear H
       have H := H1
       clear H1
       have H' := aM71_ H
       clear H
       have p193 : 0 ≤ ((rd x3_1 x5_1) : Int) := of_decide_eq_true q71x2_
       have q193 : (rd x3_1 x5_1) < (l0_0.length : Int) := of_decide_eq_true q71x2_
       obtain ⟨ad193, e193, hx193_0, hx193_1, hx193_2, hx193_3, hx193_4⟩ := at_T77 HR0_0.out (rd x3_1 x5_1) p193 q193
       obtain rfl : ad192 = ad193 := (by injection e193)
       replace hx193_0 := (HB.out.cell (World.block_lt_of_cell? w _ hx193_0)).trans hx193_0
       replace hx193_1 := (HB.out.cell (World.block_lt_of_cell? w _ hx193_1)).trans hx193_1
       replace hx193_2 := (HB.out.cell (World.block_lt_of_cell? w _ hx193_2)).trans hx193_2
       replace hx193_3 := (HB.out.cell (World.block_lt_of_cell? w _ hx193_3)).trans hx193_3
       replace hx193_4 := (HB.out.cell (World.block_lt_of_cell? w _ hx193_4)).trans hx193_4
       replace p193 := eq_true p193
       replace q193 := eq_true q193
       have p200 : 0 ≤ (((rd_T77 l0_0 (rd x3_1 x5_1)).f2.f1) : Int) := of_decide_eq_true q71x2_
       have q200 : ((rd_T77 l0_0 (rd x3_1 x5_1)).f2.f1) < (x4_2.length : Int) := of_decide_eq_true q71x2_
       obtain ⟨ad200, e200, hx200_0⟩ := Kd.at_bool (Kd.R_reads' HO_4.out).2.2 ((rd_T77 l0_0 (rd x3_1 x5_1)).f2.f1) p200 q200
       (try rw [← Nbq36.out] at hx200_0)
       obtain rfl : (⟨go5, 0, none⟩ : Addr) = ad200 := (by injection e200)
       (first | simp only [add_plain] at hx200_0 | simp only [add_at] at hx200_0 | simp only [Addr.add, Nat.zero_add] at hx200_0 | skip)
       replace p200 := eq_true p200
       replace q200 := eq_true q200
       go_wp2_with (first | ((go_at_call 106; go_in)))
       repeat (go_quiet (first | ((go_at_call 106; go_in))); try go_wp2_with (first | ((go_at_call 106; go_in))))
       (try simp only [← hl4_2])
       go_roundg k2
       case measure => have := HK1.out; have := HK2.out; omega
       case rel => exact ⟨(x3_2), (x4_2), (1 + 1), q71x7_, H', ⟨by have := HK1.out; have := HK2.out; omega⟩, ⟨by (try simp only [hl4_1]); (try simp only [hl4_2]); (with_reducible repeat (first | apply Kd.R_alloc | apply Kd.R_drewN | apply Kd.R_drew)); exact HO_3.out⟩, ⟨by (try simp only [hl4_1]); (try simp only [hl4_2]); (with_reducible repeat (first | apply Kd.R_alloc | apply Kd.R_drewN | apply Kd.R_drew)); exact HO_4.out⟩, ⟨by repeat (first | (with_reducible first | exact HB.out | apply below_alloc | apply pw_below_drewN | apply below_drew1) | exact HB.out)⟩⟩
      replace c37 := Bool.eq_false_iff.mpr c37
      subst c37
      have H1 : (if x3_2.length < 70368744177664 then (spec_l06Reached.l1 k2 (x3_2 ++ [(rd_T77 l0_0 (rd x3_1 x5_1)).f2.f1]) (x4_2.set (((rd_T77 l0_0 (rd x3_1 x5_1)).f2.f1) : Int).toNat true) x5_1 (1 + 1) (rd x3_1 x5_1) l0_0) else (none)) = some r := by rw [if_neg (show ¬ (false = true) by decide)] at H; exact H
      clear H
      have H := H1
      clear H1
      obtain ⟨y201, hy201⟩ : ∃ y_ : List Bool, y_ = (x4_2.set (((rd_T77 l0_0 (rd x3_1 x5_1)).f2.f1) : Int).toNat true) := ⟨_, rfl⟩
      replace H : (if x3_2.length < 70368744177664 then (spec_l06Reached.l1 k2 (x3_2 ++ [(rd_T77 l0_0 (rd x3_1 x5_1)).f2.f1]) y201 x5_1 (1 + 1) (rd x3_1 x5_1) l0_0) else (none)) = some r := by first | (rw [hy201]; with_reducible exact H) | (have H2_ := (Option.bind_some _ _).symm.trans H; rw [hy201]; with_reducible exact H2_) | (have H2_ := (Option.bind_some _ _).symm.trans H; with_reducible exact H2_) | with_reducible exact H | (rw [hy201]; exact H) | exact H
      have Ny201 := aM71_ hy201
      clear hy201
      by_cases c39 : x3_2.length < 70368744177664
      rotate_left
      ·rw [if_neg c39] at H
       exact absurd H (by simp)
      rw [if_pos c39] at H
      have LMc39 := aM71_ c39
      clear c39
      obtain ⟨y203, hy203⟩ : ∃ y_ : List Int, y_ = (x3_2 ++ [(rd_T77 l0_0 (rd x3_1 x5_1)).f2.f1]) := ⟨_, rfl⟩
      replace H : (spec_l06Reached.l1 k2 y203 y201 x5_1 (1 + 1) (rd x3_1 x5_1) l0_0) = some r := by first | (rw [hy203]; with_reducible exact H) | (have H2_ := (Option.bind_some _ _).symm.trans H; rw [hy203]; with_reducible exact H2_) | (have H2_ := (Option.bind_some _ _).symm.trans H; with_reducible exact H2_) | with_reducible exact H | (rw [hy203]; exact H) | exact H
      have Ny203 := aM71_ hy203
      clear hy203
      have H' := aM71_ H
      clear H
      have p193 : 0 ≤ ((rd x3_1 x5_1) : Int) := of_decide_eq_true q71x2_
      have q193 : (rd x3_1 x5_1) < (l0_0.length : Int) := of_decide_eq_true q71x2_
      obtain ⟨ad193, e193, hx193_0, hx193_1, hx193_2, hx193_3, hx193_4⟩ := at_T77 HR0_0.out (rd x3_1 x5_1) p193 q193
      obtain rfl : ad192 = ad193 := (by injection e193)
      replace hx193_0 := (HB.out.cell (World.block_lt_of_cell? w _ hx193_0)).trans hx193_0
      replace hx193_1 := (HB.out.cell (World.block_lt_of_cell? w _ hx193_1)).trans hx193_1
      replace hx193_2 := (HB.out.cell (World.block_lt_of_cell? w _ hx193_2)).trans hx193_2
      replace hx193_3 := (HB.out.cell (World.block_lt_of_cell? w _ hx193_3)).trans hx193_3
      replace hx193_4 := (HB.out.cell (World.block_lt_of_cell? w _ hx193_4)).trans hx193_4
      replace p193 := eq_true p193
      replace q193 := eq_true q193
      have p200 : 0 ≤ (((rd_T77 l0_0 (rd x3_1 x5_1)).f2.f1) : Int) := of_decide_eq_true q71x2_
      have q200 : ((rd_T77 l0_0 (rd x3_1 x5_1)).f2.f1) < (x4_2.length : Int) := of_decide_eq_true q71x2_
      obtain ⟨ad200, e200, hx200_0⟩ := Kd.at_bool (Kd.R_reads' HO_4.out).2.2 ((rd_T77 l0_0 (rd x3_1 x5_1)).f2.f1) p200 q200
      (try rw [← Nbq36.out] at hx200_0)
      obtain rfl : (⟨go5, 0, none⟩ : Addr) = ad200 := (by injection e200)
      (first | simp only [add_plain] at hx200_0 | simp only [add_at] at hx200_0 | simp only [Addr.add, Nat.zero_add] at hx200_0 | skip)
      replace p200 := eq_true p200
      replace q200 := eq_true q200
      have p38 : 0 ≤ (((rd_T77 l0_0 (rd x3_1 x5_1)).f2.f1) : Int) := of_decide_eq_true q71x2_
      have q38 : (((rd_T77 l0_0 (rd x3_1 x5_1)).f2.f1) : Int) < ((x4_2.length : Int) : Int) := of_decide_eq_true q71x2_
      obtain ⟨hx38_0, hf38_0⟩ := Kd.R_celln false HO_4.out (((rd_T77 l0_0 (rd x3_1 x5_1)).f2.f1) : Int) p38 q38
      replace p38 := eq_true p38
      replace q38 := eq_true q38
      have HP40 := Kd.R_putg HO_4.out (((rd_T77 l0_0 (rd x3_1 x5_1)).f2.f1) : Int) true
      go_wp2_with (first | ((go_at_call 106; go_in)) | ((with_reducible refine gate_store (t := 4) (p := 55) rfl ?_); (try (rw [drewN_self wr]; generalize hq_ : World.drewN wr _ = wr; have n0_ := aM71_ (Kd.R_at hq_ HO_3.out); have n1_ := aM71_ (Kd.R_at hq_ HO_4.out); have n2_ := aM71_ (below_at hq_ HB.out); clear hq_ HO_3 HO_4 HB; have HO_3 := n0_; have HO_4 := n1_; have HB := n2_; clear n0_ n1_ n2_; (try (have HP40 := Kd.R_putg HO_4.out (((rd_T77 l0_0 (rd x3_1 x5_1)).f2.f1) : Int) true)))); refine store_event (t := 4) (p := 55) (v := ?vo_w41) (w1 := (wr.setCell ⟨go5, (((rd_T77 l0_0 (rd x3_1 x5_1)).f2.f1) : Int).toNat, none⟩ (.bool true))) ?hg ?ho ?hn ?hr ?_; (case ho => rfl); (case hg => rfl); (case hn => rfl); (case hr => first | (go_simp; done) | (go_simp; rfl)); intro w41 hw; have hg : wr.grownBy w41 (some go5) := (by rw [hw]; exact HP40.2); have hp_ : Kd.R Kd.bool 4 w41 w.heap.size (fun _ => True) (.slice (some ⟨go5, 0, none⟩) x4_2.length co5) y201 := (by rw [hw, Ny201.out]; exact HP40.1); clear HP40; have n0_ := aM71_ (Kd.R_over' (v := (.slice (some ⟨go5, 0, none⟩) x4_2.length co5)) q71x3_ (Kd.R_typed HO_4.out) (by decide) hg); have n1_ := aM71_ (hp_); have n2_ := aM71_ ((q71x5_ : Below w.heap.size w w41)); clear HO_3; clear HO_4; clear HB; have HO_3 := n0_; have HO_4 := n1_; have HB := n2_; clear n0_ n1_ n2_; clear hg hw hp_; have p202 : 0 ≤ ((rd x3_1 x5_1) : Int) := of_decide_eq_true q71x2_; have q202 : (rd x3_1 x5_1) < (l0_0.length : Int) := of_decide_eq_true q71x2_; obtain ⟨ad202, e202, hx202_0, hx202_1, hx202_2, hx202_3, hx202_4⟩ := at_T77 HR0_0.out (rd x3_1 x5_1) p202 q202; obtain rfl : ad192 = ad202 := (by injection e202); replace hx202_0 := (HB.out.cell (World.block_lt_of_cell? w _ hx202_0)).trans hx202_0; replace hx202_1 := (HB.out.cell (World.block_lt_of_cell? w _ hx202_1)).trans hx202_1; replace hx202_2 := (HB.out.cell (World.block_lt_of_cell? w _ hx202_2)).trans hx202_2; replace hx202_3 := (HB.out.cell (World.block_lt_of_cell? w _ hx202_3)).trans hx202_3; replace hx202_4 := (HB.out.cell (World.block_lt_of_cell? w _ hx202_4)).trans hx202_4; replace p202 := eq_true p202; replace q202 := eq_true q202) | ((with_reducible refine gate_builtin (b := .append) (xs := #[.tmp 56, .tmp 63]) rfl ?_); at_builtin; refine Kd.R_append (Kd.int .i16) (w0 := w) w.heap.size rfl (.tmp 56) (.tmp 63) 93 74 (.int .i16 0) 2 rfl Try.underlying93 info74 rfl (by decide) (by omega) u3 x3_2 ((rd_T77 l0_0 (rd x3_1 x5_1)).f2.f1) [.int .i16 ((rd_T77 l0_0 (rd x3_1 x5_1)).f2.f1)] (fun _ => True) (fun _ => False) rfl rfl ?aP (fun _ hk => hk.elim) ?aF ?aO ?aB ?aS ?aL ?_; (case aP => exact rfl); (case aB => exact q71x1_); (case aF => exact (fun _ _ => trivial)); (case aO => exact q71x3_); (case aS => exact (below_size q71x1_)); (case aL => have := LMc39.out; omega); intro v204 w42 ho hb hg hat; rw [← Ny203.out] at ho; have n0_ := aM71_ (Kd.R_over' q71x4_ (Kd.R_typed q71x3_) (by decide) hg); have n1_ := aM71_ (hb); have n2_ := aM71_ (ho); clear HO_4; clear HB; clear HO_3; have HO_4 := n0_; have HB := n1_; have HO205 := n2_; clear n0_ n1_ n2_; clear ho hb hg hat))
      repeat (go_quiet (first | ((go_at_call 106; go_in)) | ((with_reducible refine gate_store (t := 4) (p := 55) rfl ?_); (try (rw [drewN_self wr]; generalize hq_ : World.drewN wr _ = wr; have n0_ := aM71_ (Kd.R_at hq_ HO_3.out); have n1_ := aM71_ (Kd.R_at hq_ HO_4.out); have n2_ := aM71_ (below_at hq_ HB.out); clear hq_ HO_3 HO_4 HB; have HO_3 := n0_; have HO_4 := n1_; have HB := n2_; clear n0_ n1_ n2_; (try (have HP40 := Kd.R_putg HO_4.out (((rd_T77 l0_0 (rd x3_1 x5_1)).f2.f1) : Int) true)))); refine store_event (t := 4) (p := 55) (v := ?vo_w41) (w1 := (wr.setCell ⟨go5, (((rd_T77 l0_0 (rd x3_1 x5_1)).f2.f1) : Int).toNat, none⟩ (.bool true))) ?hg ?ho ?hn ?hr ?_; (case ho => rfl); (case hg => rfl); (case hn => rfl); (case hr => first | (go_simp; done) | (go_simp; rfl)); intro w41 hw; have hg : wr.grownBy w41 (some go5) := (by rw [hw]; exact HP40.2); have hp_ : Kd.R Kd.bool 4 w41 w.heap.size (fun _ => True) (.slice (some ⟨go5, 0, none⟩) x4_2.length co5) y201 := (by rw [hw, Ny201.out]; exact HP40.1); clear HP40; have n0_ := aM71_ (Kd.R_over' (v := (.slice (some ⟨go5, 0, none⟩) x4_2.length co5)) q71x3_ (Kd.R_typed HO_4.out) (by decide) hg); have n1_ := aM71_ (hp_); have n2_ := aM71_ ((q71x5_ : Below w.heap.size w w41)); clear HO_3; clear HO_4; clear HB; have HO_3 := n0_; have HO_4 := n1_; have HB := n2_; clear n0_ n1_ n2_; clear hg hw hp_; have p202 : 0 ≤ ((rd x3_1 x5_1) : Int) := of_decide_eq_true q71x2_; have q202 : (rd x3_1 x5_1) < (l0_0.length : Int) := of_decide_eq_true q71x2_; obtain ⟨ad202, e202, hx202_0, hx202_1, hx202_2, hx202_3, hx202_4⟩ := at_T77 HR0_0.out (rd x3_1 x5_1) p202 q202; obtain rfl : ad192 = ad202 := (by injection e202); replace hx202_0 := (HB.out.cell (World.block_lt_of_cell? w _ hx202_0)).trans hx202_0; replace hx202_1 := (HB.out.cell (World.block_lt_of_cell? w _ hx202_1)).trans hx202_1; replace hx202_2 := (HB.out.cell (World.block_lt_of_cell? w _ hx202_2)).trans hx202_2; replace hx202_3 := (HB.out.cell (World.block_lt_of_cell? w _ hx202_3)).trans hx202_3; replace hx202_4 := (HB.out.cell (World.block_lt_of_cell? w _ hx202_4)).trans hx202_4; replace p202 := eq_true p202; replace q202 := eq_true q202) | ((with_reducible refine gate_builtin (b := .append) (xs := #[.tmp 56, .tmp 63]) rfl ?_); at_builtin; refine Kd.R_append (Kd.int .i16) (w0 := w) w.heap.size rfl (.tmp 56) (.tmp 63) 93 74 (.int .i16 0) 2 rfl Try.underlying93 info74 rfl (by decide) (by omega) u3 x3_2 ((rd_T77 l0_0 (rd x3_1 x5_1)).f2.f1) [.int .i16 ((rd_T77 l0_0 (rd x3_1 x5_1)).f2.f1)] (fun _ => True) (fun _ => False) rfl rfl ?aP (fun _ hk => hk.elim) ?aF ?aO ?aB ?aS ?aL ?_; (case aP => exact rfl); (case aB => exact q71x1_); (case aF => exact (fun _ _ => trivial)); (case aO => exact q71x3_); (case aS => exact (below_size q71x1_)); (case aL => have := LMc39.out; omega); intro v204 w42 ho hb hg hat; rw [← Ny203.out] at ho; have n0_ := aM71_ (Kd.R_over' q71x4_ (Kd.R_typed q71x3_) (by decide) hg); have n1_ := aM71_ (hb); have n2_ := aM71_ (ho); clear HO_4; clear HB; clear HO_3; have HO_4 := n0_; have HB := n1_; have HO205 := n2_; clear n0_ n1_ n2_; clear ho hb hg hat)); try go_wp2_with (first | ((go_at_call 106; go_in)) | ((with_reducible refine gate_store (t := 4) (p := 55) rfl ?_); (try (rw [drewN_self wr]; generalize hq_ : World.drewN wr _ = wr; have n0_ := aM71_ (Kd.R_at hq_ HO_3.out); have n1_ := aM71_ (Kd.R_at hq_ HO_4.out); have n2_ := aM71_ (below_at hq_ HB.out); clear hq_ HO_3 HO_4 HB; have HO_3 := n0_; have HO_4 := n1_; have HB := n2_; clear n0_ n1_ n2_; (try (have HP40 := Kd.R_putg HO_4.out (((rd_T77 l0_0 (rd x3_1 x5_1)).f2.f1) : Int) true)))); refine store_event (t := 4) (p := 55) (v := ?vo_w41) (w1 := (wr.setCell ⟨go5, (((rd_T77 l0_0 (rd x3_1 x5_1)).f2.f1) : Int).toNat, none⟩ (.bool true))) ?hg ?ho ?hn ?hr ?_; (case ho => rfl); (case hg => rfl); (case hn => rfl); (case hr => first | (go_simp; done) | (go_simp; rfl)); intro w41 hw; have hg : wr.grownBy w41 (some go5) := (by rw [hw]; exact HP40.2); have hp_ : Kd.R Kd.bool 4 w41 w.heap.size (fun _ => True) (.slice (some ⟨go5, 0, none⟩) x4_2.length co5) y201 := (by rw [hw, Ny201.out]; exact HP40.1); clear HP40; have n0_ := aM71_ (Kd.R_over' (v := (.slice (some ⟨go5, 0, none⟩) x4_2.length co5)) q71x3_ (Kd.R_typed HO_4.out) (by decide) hg); have n1_ := aM71_ (hp_); have n2_ := aM71_ ((q71x5_ : Below w.heap.size w w41)); clear HO_3; clear HO_4; clear HB; have HO_3 := n0_; have HO_4 := n1_; have HB := n2_; clear n0_ n1_ n2_; clear hg hw hp_; have p202 : 0 ≤ ((rd x3_1 x5_1) : Int) := of_decide_eq_true q71x2_; have q202 : (rd x3_1 x5_1) < (l0_0.length : Int) := of_decide_eq_true q71x2_; obtain ⟨ad202, e202, hx202_0, hx202_1, hx202_2, hx202_3, hx202_4⟩ := at_T77 HR0_0.out (rd x3_1 x5_1) p202 q202; obtain rfl : ad192 = ad202 := (by injection e202); replace hx202_0 := (HB.out.cell (World.block_lt_of_cell? w _ hx202_0)).trans hx202_0; replace hx202_1 := (HB.out.cell (World.block_lt_of_cell? w _ hx202_1)).trans hx202_1; replace hx202_2 := (HB.out.cell (World.block_lt_of_cell? w _ hx202_2)).trans hx202_2; replace hx202_3 := (HB.out.cell (World.block_lt_of_cell? w _ hx202_3)).trans hx202_3; replace hx202_4 := (HB.out.cell (World.block_lt_of_cell? w _ hx202_4)).trans hx202_4; replace p202 := eq_true p202; replace q202 := eq_true q202) | ((with_reducible refine gate_builtin (b := .append) (xs := #[.tmp 56, .tmp 63]) rfl ?_); at_builtin; refine Kd.R_append (Kd.int .i16) (w0 := w) w.heap.size rfl (.tmp 56) (.tmp 63) 93 74 (.int .i16 0) 2 rfl Try.underlying93 info74 rfl (by decide) (by omega) u3 x3_2 ((rd_T77 l0_0 (rd x3_1 x5_1)).f2.f1) [.int .i16 ((rd_T77 l0_0 (rd x3_1 x5_1)).f2.f1)] (fun _ => True) (fun _ => False) rfl rfl ?aP (fun _ hk => hk.elim) ?aF ?aO ?aB ?aS ?aL ?_; (case aP => exact rfl); (case aB => exact q71x1_); (case aF => exact (fun _ _ => trivial)); (case aO => exact q71x3_); (case aS => exact (below_size q71x1_)); (case aL => have := LMc39.out; omega); intro v204 w42 ho hb hg hat; rw [← Ny203.out] at ho; have n0_ := aM71_ (Kd.R_over' q71x4_ (Kd.R_typed q71x3_) (by decide) hg); have n1_ := aM71_ (hb); have n2_ := aM71_ (ho); clear HO_4; clear HB; clear HO_3; have HO_4 := n0_; have HB := n1_; have HO205 := n2_; clear n0_ n1_ n2_; clear ho hb hg hat)))
      (try simp only [← hl4_2])
      go_roundg k2
      case measure => have := HK1.out; have := HK2.out; omega
      case rel => exact ⟨(y203), (y201), (1 + 1), q71x7_, H', ⟨by have := HK1.out; have := HK2.out; omega⟩, ⟨by (try simp only [hl4_1]); (try simp only [hl4_2]); (with_reducible repeat (first | apply Kd.R_alloc | apply Kd.R_drewN | apply Kd.R_drew)); exact HO205.out⟩, ⟨by (try simp only [hl4_1]); (try simp only [hl4_2]); (with_reducible repeat (first | apply Kd.R_alloc | apply Kd.R_drewN | apply Kd.R_drew)); exact HO_4.out⟩, ⟨by repeat (first | (with_reducible first | exact HB.out | apply below_alloc | apply pw_below_drewN | apply below_drew1) | exact HB.out)⟩⟩
     rw [if_neg c33] at H
     by_cases c43 : x7_2 = 2
     rotate_left
     ·rw [if_neg c43] at H
      exact absurd H (by simp)
     subst c43
     have H1 : (if 0 ≤ ((rd_T77 l0_0 (rd x3_1 x5_1)).f2.f2) then (if ((rd_T77 l0_0 (rd x3_1 x5_1)).f2.f2) < (x4_2.length : Int) then (if (rdOf false x4_2 ((rd_T77 l0_0 (rd x3_1 x5_1)).f2.f2) = true) then (spec_l06Reached.l1 k2 x3_2 x4_2 x5_1 (2 + 1) (rd x3_1 x5_1) l0_0) else (if x3_2.length < 70368744177664 then (spec_l06Reached.l1 k2 (x3_2 ++ [(rd_T77 l0_0 (rd x3_1 x5_1)).f2.f2]) (x4_2.set (((rd_T77 l0_0 (rd x3_1 x5_1)).f2.f2) : Int).toNat true) x5_1 (2 + 1) (rd x3_1 x5_1) l0_0) else (none))) else (none)) else (none)) = some r := by rw [if_pos rfl] at H; exact H
     clear H
     have H := H1
     clear H1
     by_cases c44 : 0 ≤ ((rd_T77 l0_0 (rd x3_1 x5_1)).f2.f2)
     rotate_left
     ·rw [if_neg c44] at H
      exact absurd H (by simp)
     rw [if_pos c44] at H
     have c44b0 : decide (0 ≤ ((rd_T77 l0_0 (rd x3_1 x5_1)).f2.f2)) = true := decide_eq_true c44
     clear c44
     by_cases c45 : ((rd_T77 l0_0 (rd x3_1 x5_1)).f2.f2) < (x4_2.length : Int)
     rotate_left
     ·rw [if_neg c45] at H
      exact absurd H (by simp)
     rw [if_pos c45] at H
     have c45b0 : decide (((rd_T77 l0_0 (rd x3_1 x5_1)).f2.f2) < (x4_2.length : Int)) = true := decide_eq_true c45
     (try (have c45b0hl4_1 := c45b0; rw [hl4_1] at c45b0hl4_1))
     (try (have c45b0hl4_2 := c45b0; rw [hl4_2] at c45b0hl4_2))
     clear c45
     obtain ⟨bq46, hbq46⟩ : ∃ b_ : Bool, b_ = (rdOf false x4_2 ((rd_T77 l0_0 (rd x3_1 x5_1)).f2.f2)) := ⟨_, rfl⟩
     replace H : (if (bq46 = true) then (spec_l06Reached.l1 k2 x3_2 x4_2 x5_1 (2 + 1) (rd x3_1 x5_1) l0_0) else (if x3_2.length < 70368744177664 then (spec_l06Reached.l1 k2 (x3_2 ++ [(rd_T77 l0_0 (rd x3_1 x5_1)).f2.f2]) (x4_2.set (((rd_T77 l0_0 (rd x3_1 x5_1)).f2.f2) : Int).toNat true) x5_1 (2 + 1) (rd x3_1 x5_1) l0_0) else (none))) = some r := by rw [← hbq46] at H; exact H
     have Nbq46 := aM71_ hbq46
     clear hbq46
     by_cases c47 : (bq46 = true)
     ·subst c47
      have H1 : (spec_l06Reached.l1 k2 x3_2 x4_2 x5_1 (2 + 1) (rd x3_1 x5_1) l0_0) = some r := by rw [if_pos rfl] at H; exact H
      clear H
      have H := H1
      clear H1
      have H' := aM71_ H
      clear H
      have p193 : 0 ≤ ((rd x3_1 x5_1) : Int) := of_decide_eq_true q71x2_
      have q193 : (rd x3_1 x5_1) < (l0_0.length : Int) := of_decide_eq_true q71x2_
      obtain ⟨ad193, e193, hx193_0, hx193_1, hx193_2, hx193_3, hx193_4⟩ := at_T77 HR0_0.out (rd x3_1 x5_1) p193 q193
      obtain rfl : ad192 = ad193 := (by injection e193)
      replace hx193_0 := (HB.out.cell (World.block_lt_of_cell? w _ hx193_0)).trans hx193_0
      replace hx193_1 := (HB.out.cell (World.block_lt_of_cell? w _ hx193_1)).trans hx193_1
      replace hx193_2 := (HB.out.cell (World.block_lt_of_cell? w _ hx193_2)).trans hx193_2
      replace hx193_3 := (HB.out.cell (World.block_lt_of_cell? w _ hx193_3)).trans hx193_3
      replace hx193_4 := (HB.out.cell (World.block_lt_of_cell? w _ hx193_4)).trans hx193_4
      replace p193 := eq_true p193
      replace q193 := eq_true q193
      have p206 : 0 ≤ (((rd_T77 l0_0 (rd x3_1 x5_1)).f2.f2) : Int) := of_decide_eq_true q71x2_
      have q206 : ((rd_T77 l0_0 (rd x3_1 x5_1)).f2.f2) < (x4_2.length : Int) := of_decide_eq_true q71x2_
      obtain ⟨ad206, e206, hx206_0⟩ := Kd.at_bool (Kd.R_reads' HO_4.out).2.2 ((rd_T77 l0_0 (rd x3_1 x5_1)).f2.f2) p206 q206
      (try rw [← Nbq46.out] at hx206_0)
      obtain rfl : (⟨go5, 0, none⟩ : Addr) = ad206 := (by injection e206)
      (first | simp only [add_plain] at hx206_0 | simp only [add_at] at hx206_0 | simp only [Addr.add, Nat.zero_add] at hx206_0 | skip)
      replace p206 := eq_true p206
      replace q206 := eq_true q206
      go_wp2_with (first | ((go_at_call 106; go_in)))
      repeat (go_quiet (first | ((go_at_call 106; go_in))); try go_wp2_with (first | ((go_at_call 106; go_in))))
      (try simp only [← hl4_2])
      go_roundg k2
      case measure => have := HK1.out; have := HK2.out; omega
      case rel => exact ⟨(x3_2), (x4_2), (2 + 1), q71x7_, H', ⟨by have := HK1.out; have := HK2.out; omega⟩, ⟨by (try simp only [hl4_1]); (try simp only [hl4_2]); (with_reducible repeat (first | apply Kd.R_alloc | apply Kd.R_drewN | apply Kd.R_drew)); exact HO_3.out⟩, ⟨by (try simp only [hl4_1]); (try simp only [hl4_2]); (with_reducible repeat (first | apply Kd.R_alloc | apply Kd.R_drewN | apply Kd.R_drew)); exact HO_4.out⟩, ⟨by repeat (first | (with_reducible first | exact HB.out | apply below_alloc | apply pw_below_drewN | apply below_drew1) | exact HB.out)⟩⟩
     replace c47 := Bool.eq_false_iff.mpr c47
     subst c47
     have H1 : (if x3_2.length < 70368744177664 then (spec_l06Reached.l1 k2 (x3_2 ++ [(rd_T77 l0_0 (rd x3_1 x5_1)).f2.f2]) (x4_2.set (((rd_T77 l0_0 (rd x3_1 x5_1)).f2.f2) : Int).toNat true) x5_1 (2 + 1) (rd x3_1 x5_1) l0_0) else (none)) = some r := by rw [if_neg (show ¬ (false = true) by decide)] at H; exact H
     clear H
     have H := H1
     clear H1
     obtain ⟨y207, hy207⟩ : ∃ y_ : List Bool, y_ = (x4_2.set (((rd_T77 l0_0 (rd x3_1 x5_1)).f2.f2) : Int).toNat true) := ⟨_, rfl⟩
     replace H : (if x3_2.length < 70368744177664 then (spec_l06Reached.l1 k2 (x3_2 ++ [(rd_T77 l0_0 (rd x3_1 x5_1)).f2.f2]) y207 x5_1 (2 + 1) (rd x3_1 x5_1) l0_0) else (none)) = some r := by first | (rw [hy207]; with_reducible exact H) | (have H2_ := (Option.bind_some _ _).symm.trans H; rw [hy207]; with_reducible exact H2_) | (have H2_ := (Option.bind_some _ _).symm.trans H; with_reducible exact H2_) | with_reducible exact H | (rw [hy207]; exact H) | exact H
     have Ny207 := aM71_ hy207
     clear hy207
     by_cases c49 : x3_2.length < 70368744177664
     rotate_left
     ·rw [if_neg c49] at H
      exact absurd H (by simp)
     rw [if_pos c49] at H
     have LMc49 := aM71_ c49
     clear c49
     obtain ⟨y209, hy209⟩ : ∃ y_ : List Int, y_ = (x3_2 ++ [(rd_T77 l0_0 (rd x3_1 x5_1)).f2.f2]) := ⟨_, rfl⟩
     replace H : (spec_l06Reached.l1 k2 y209 y207 x5_1 (2 + 1) (rd x3_1 x5_1) l0_0) = some r := by first | (rw [hy209]; with_reducible exact H) | (have H2_ := (Option.bind_some _ _).symm.trans H; rw [hy209]; with_reducible exact H2_) | (have H2_ := (Option.bind_some _ _).symm.trans H; with_reducible exact H2_) | with_reducible exact H | (rw [hy209]; exact H) | exact H
     have Ny209 := aM71_ hy209
     clear hy209
     have H' := aM71_ H
     clear H
     have p193 : 0 ≤ ((rd x3_1 x5_1) : Int) := of_decide_eq_true q71x2_
     have q193 : (rd x3_1 x5_1) < (l0_0.length : Int) := of_decide_eq_true q71x2_
     obtain ⟨ad193, e193, hx193_0, hx193_1, hx193_2, hx193_3, hx193_4⟩ := at_T77 HR0_0.out (rd x3_1 x5_1) p193 q193
     obtain rfl : ad192 = ad193 := (by injection e193)
     replace hx193_0 := (HB.out.cell (World.block_lt_of_cell? w _ hx193_0)).trans hx193_0
     replace hx193_1 := (HB.out.cell (World.block_lt_of_cell? w _ hx193_1)).trans hx193_1
     replace hx193_2 := (HB.out.cell (World.block_lt_of_cell? w _ hx193_2)).trans hx193_2
     replace hx193_3 := (HB.out.cell (World.block_lt_of_cell? w _ hx193_3)).trans hx193_3
     replace hx193_4 := (HB.out.cell (World.block_lt_of_cell? w _ hx193_4)).trans hx193_4
     replace p193 := eq_true p193
     replace q193 := eq_true q193
     have p206 : 0 ≤ (((rd_T77 l0_0 (rd x3_1 x5_1)).f2.f2) : Int) := of_decide_eq_true q71x2_
     have q206 : ((rd_T77 l0_0 (rd x3_1 x5_1)).f2.f2) < (x4_2.length : Int) := of_decide_eq_true q71x2_
     obtain ⟨ad206, e206, hx206_0⟩ := Kd.at_bool (Kd.R_reads' HO_4.out).2.2 ((rd_T77 l0_0 (rd x3_1 x5_1)).f2.f2) p206 q206
     (try rw [← Nbq46.out] at hx206_0)
     obtain rfl : (⟨go5, 0, none⟩ : Addr) = ad206 := (by injection e206)
     (first | simp only [add_plain] at hx206_0 | simp only [add_at] at hx206_0 | simp only [Addr.add, Nat.zero_add] at hx206_0 | skip)
     replace p206 := eq_true p206
     replace q206 := eq_true q206
     have p48 : 0 ≤ (((rd_T77 l0_0 (rd x3_1 x5_1)).f2.f2) : Int) := of_decide_eq_true q71x2_
     have q48 : (((rd_T77 l0_0 (rd x3_1 x5_1)).f2.f2) : Int) < ((x4_2.length : Int) : Int) := of_decide_eq_true q71x2_
     obtain ⟨hx48_0, hf48_0⟩ := Kd.R_celln false HO_4.out (((rd_T77 l0_0 (rd x3_1 x5_1)).f2.f2) : Int) p48 q48
     replace p48 := eq_true p48
     replace q48 := eq_true q48
     have HP50 := Kd.R_putg HO_4.out (((rd_T77 l0_0 (rd x3_1 x5_1)).f2.f2) : Int) true
     go_wp2_with (first | ((go_at_call 106; go_in)) | ((with_reducible refine gate_store (t := 4) (p := 55) rfl ?_); (try (rw [drewN_self wr]; generalize hq_ : World.drewN wr _ = wr; have n0_ := aM71_ (Kd.R_at hq_ HO_3.out); have n1_ := aM71_ (Kd.R_at hq_ HO_4.out); have n2_ := aM71_ (below_at hq_ HB.out); clear hq_ HO_3 HO_4 HB; have HO_3 := n0_; have HO_4 := n1_; have HB := n2_; clear n0_ n1_ n2_; (try (have HP50 := Kd.R_putg HO_4.out (((rd_T77 l0_0 (rd x3_1 x5_1)).f2.f2) : Int) true)))); refine store_event (t := 4) (p := 55) (v := ?vo_w51) (w1 := (wr.setCell ⟨go5, (((rd_T77 l0_0 (rd x3_1 x5_1)).f2.f2) : Int).toNat, none⟩ (.bool true))) ?hg ?ho ?hn ?hr ?_; (case ho => rfl); (case hg => rfl); (case hn => rfl); (case hr => first | (go_simp; done) | (go_simp; rfl)); intro w51 hw; have hg : wr.grownBy w51 (some go5) := (by rw [hw]; exact HP50.2); have hp_ : Kd.R Kd.bool 4 w51 w.heap.size (fun _ => True) (.slice (some ⟨go5, 0, none⟩) x4_2.length co5) y207 := (by rw [hw, Ny207.out]; exact HP50.1); clear HP50; have n0_ := aM71_ (Kd.R_over' (v := (.slice (some ⟨go5, 0, none⟩) x4_2.length co5)) q71x3_ (Kd.R_typed HO_4.out) (by decide) hg); have n1_ := aM71_ (hp_); have n2_ := aM71_ ((q71x5_ : Below w.heap.size w w51)); clear HO_3; clear HO_4; clear HB; have HO_3 := n0_; have HO_4 := n1_; have HB := n2_; clear n0_ n1_ n2_; clear hg hw hp_; have p208 : 0 ≤ ((rd x3_1 x5_1) : Int) := of_decide_eq_true q71x2_; have q208 : (rd x3_1 x5_1) < (l0_0.length : Int) := of_decide_eq_true q71x2_; obtain ⟨ad208, e208, hx208_0, hx208_1, hx208_2, hx208_3, hx208_4⟩ := at_T77 HR0_0.out (rd x3_1 x5_1) p208 q208; obtain rfl : ad192 = ad208 := (by injection e208); replace hx208_0 := (HB.out.cell (World.block_lt_of_cell? w _ hx208_0)).trans hx208_0; replace hx208_1 := (HB.out.cell (World.block_lt_of_cell? w _ hx208_1)).trans hx208_1; replace hx208_2 := (HB.out.cell (World.block_lt_of_cell? w _ hx208_2)).trans hx208_2; replace hx208_3 := (HB.out.cell (World.block_lt_of_cell? w _ hx208_3)).trans hx208_3; replace hx208_4 := (HB.out.cell (World.block_lt_of_cell? w _ hx208_4)).trans hx208_4; replace p208 := eq_true p208; replace q208 := eq_true q208) | ((with_reducible refine gate_builtin (b := .append) (xs := #[.tmp 56, .tmp 63]) rfl ?_); at_builtin; refine Kd.R_append (Kd.int .i16) (w0 := w) w.heap.size rfl (.tmp 56) (.tmp 63) 93 74 (.int .i16 0) 2 rfl Try.underlying93 info74 rfl (by decide) (by omega) u3 x3_2 ((rd_T77 l0_0 (rd x3_1 x5_1)).f2.f2) [.int .i16 ((rd_T77 l0_0 (rd x3_1 x5_1)).f2.f2)] (fun _ => True) (fun _ => False) rfl rfl ?aP (fun _ hk => hk.elim) ?aF ?aO ?aB ?aS ?aL ?_; (case aP => exact rfl); (case aB => exact q71x1_); (case aF => exact (fun _ _ => trivial)); (case aO => exact q71x3_); (case aS => exact (below_size q71x1_)); (case aL => have := LMc49.out; omega); intro v210 w52 ho hb hg hat; rw [← Ny209.out] at ho; have n0_ := aM71_ (Kd.R_over' q71x4_ (Kd.R_typed q71x3_) (by decide) hg); have n1_ := aM71_ (hb); have n2_ := aM71_ (ho); clear HO_4; clear HB; clear HO_3; have HO_4 := n0_; have HB := n1_; have HO211 := n2_; clear n0_ n1_ n2_; clear ho hb hg hat))
     repeat (go_quiet (first | ((go_at_call 106; go_in)) | ((with_reducible refine gate_store (t := 4) (p := 55) rfl ?_); (try (rw [drewN_self wr]; generalize hq_ : World.drewN wr _ = wr; have n0_ := aM71_ (Kd.R_at hq_ HO_3.out); have n1_ := aM71_ (Kd.R_at hq_ HO_4.out); have n2_ := aM71_ (below_at hq_ HB.out); clear hq_ HO_3 HO_4 HB; have HO_3 := n0_; have HO_4 := n1_; have HB := n2_; clear n0_ n1_ n2_; (try (have HP50 := Kd.R_putg HO_4.out (((rd_T77 l0_0 (rd x3_1 x5_1)).f2.f2) : Int) true)))); refine store_event (t := 4) (p := 55) (v := ?vo_w51) (w1 := (wr.setCell ⟨go5, (((rd_T77 l0_0 (rd x3_1 x5_1)).f2.f2) : Int).toNat, none⟩ (.bool true))) ?hg ?ho ?hn ?hr ?_; (case ho => rfl); (case hg => rfl); (case hn => rfl); (case hr => first | (go_simp; done) | (go_simp; rfl)); intro w51 hw; have hg : wr.grownBy w51 (some go5) := (by rw [hw]; exact HP50.2); have hp_ : Kd.R Kd.bool 4 w51 w.heap.size (fun _ => True) (.slice (some ⟨go5, 0, none⟩) x4_2.length co5) y207 := (by rw [hw, Ny207.out]; exact HP50.1); clear HP50; have n0_ := aM71_ (Kd.R_over' (v := (.slice (some ⟨go5, 0, none⟩) x4_2.length co5)) q71x3_ (Kd.R_typed HO_4.out) (by decide) hg); have n1_ := aM71_ (hp_); have n2_ := aM71_ ((q71x5_ : Below w.heap.size w w51)); clear HO_3; clear HO_4; clear HB; have HO_3 := n0_; have HO_4 := n1_; have HB := n2_; clear n0_ n1_ n2_; clear hg hw hp_; have p208 : 0 ≤ ((rd x3_1 x5_1) : Int) := of_decide_eq_true q71x2_; have q208 : (rd x3_1 x5_1) < (l0_0.length : Int) := of_decide_eq_true q71x2_; obtain ⟨ad208, e208, hx208_0, hx208_1, hx208_2, hx208_3, hx208_4⟩ := at_T77 HR0_0.out (rd x3_1 x5_1) p208 q208; obtain rfl : ad192 = ad208 := (by injection e208); replace hx208_0 := (HB.out.cell (World.block_lt_of_cell? w _ hx208_0)).trans hx208_0; replace hx208_1 := (HB.out.cell (World.block_lt_of_cell? w _ hx208_1)).trans hx208_1; replace hx208_2 := (HB.out.cell (World.block_lt_of_cell? w _ hx208_2)).trans hx208_2; replace hx208_3 := (HB.out.cell (World.block_lt_of_cell? w _ hx208_3)).trans hx208_3; replace hx208_4 := (HB.out.cell (World.block_lt_of_cell? w _ hx208_4)).trans hx208_4; replace p208 := eq_true p208; replace q208 := eq_true q208) | ((with_reducible refine gate_builtin (b := .append) (xs := #[.tmp 56, .tmp 63]) rfl ?_); at_builtin; refine Kd.R_append (Kd.int .i16) (w0 := w) w.heap.size rfl (.tmp 56) (.tmp 63) 93 74 (.int .i16 0) 2 rfl Try.underlying93 info74 rfl (by decide) (by omega) u3 x3_2 ((rd_T77 l0_0 (rd x3_1 x5_1)).f2.f2) [.int .i16 ((rd_T77 l0_0 (rd x3_1 x5_1)).f2.f2)] (fun _ => True) (fun _ => False) rfl rfl ?aP (fun _ hk => hk.elim) ?aF ?aO ?aB ?aS ?aL ?_; (case aP => exact rfl); (case aB => exact q71x1_); (case aF => exact (fun _ _ => trivial)); (case aO => exact q71x3_); (case aS => exact (below_size q71x1_)); (case aL => have := LMc49.out; omega); intro v210 w52 ho hb hg hat; rw [← Ny209.out] at ho; have n0_ := aM71_ (Kd.R_over' q71x4_ (Kd.R_typed q71x3_) (by decide) hg); have n1_ := aM71_ (hb); have n2_ := aM71_ (ho); clear HO_4; clear HB; clear HO_3; have HO_4 := n0_; have HB := n1_; have HO211 := n2_; clear n0_ n1_ n2_; clear ho hb hg hat)); try go_wp2_with (first | ((go_at_call 106; go_in)) | ((with_reducible refine gate_store (t := 4) (p := 55) rfl ?_); (try (rw [drewN_self wr]; generalize hq_ : World.drewN wr _ = wr; have n0_ := aM71_ (Kd.R_at hq_ HO_3.out); have n1_ := aM71_ (Kd.R_at hq_ HO_4.out); have n2_ := aM71_ (below_at hq_ HB.out); clear hq_ HO_3 HO_4 HB; have HO_3 := n0_; have HO_4 := n1_; have HB := n2_; clear n0_ n1_ n2_; (try (have HP50 := Kd.R_putg HO_4.out (((rd_T77 l0_0 (rd x3_1 x5_1)).f2.f2) : Int) true)))); refine store_event (t := 4) (p := 55) (v := ?vo_w51) (w1 := (wr.setCell ⟨go5, (((rd_T77 l0_0 (rd x3_1 x5_1)).f2.f2) : Int).toNat, none⟩ (.bool true))) ?hg ?ho ?hn ?hr ?_; (case ho => rfl); (case hg => rfl); (case hn => rfl); (case hr => first | (go_simp; done) | (go_simp; rfl)); intro w51 hw; have hg : wr.grownBy w51 (some go5) := (by rw [hw]; exact HP50.2); have hp_ : Kd.R Kd.bool 4 w51 w.heap.size (fun _ => True) (.slice (some ⟨go5, 0, none⟩) x4_2.length co5) y207 := (by rw [hw, Ny207.out]; exact HP50.1); clear HP50; have n0_ := aM71_ (Kd.R_over' (v := (.slice (some ⟨go5, 0, none⟩) x4_2.length co5)) q71x3_ (Kd.R_typed HO_4.out) (by decide) hg); have n1_ := aM71_ (hp_); have n2_ := aM71_ ((q71x5_ : Below w.heap.size w w51)); clear HO_3; clear HO_4; clear HB; have HO_3 := n0_; have HO_4 := n1_; have HB := n2_; clear n0_ n1_ n2_; clear hg hw hp_; have p208 : 0 ≤ ((rd x3_1 x5_1) : Int) := of_decide_eq_true q71x2_; have q208 : (rd x3_1 x5_1) < (l0_0.length : Int) := of_decide_eq_true q71x2_; obtain ⟨ad208, e208, hx208_0, hx208_1, hx208_2, hx208_3, hx208_4⟩ := at_T77 HR0_0.out (rd x3_1 x5_1) p208 q208; obtain rfl : ad192 = ad208 := (by injection e208); replace hx208_0 := (HB.out.cell (World.block_lt_of_cell? w _ hx208_0)).trans hx208_0; replace hx208_1 := (HB.out.cell (World.block_lt_of_cell? w _ hx208_1)).trans hx208_1; replace hx208_2 := (HB.out.cell (World.block_lt_of_cell? w _ hx208_2)).trans hx208_2; replace hx208_3 := (HB.out.cell (World.block_lt_of_cell? w _ hx208_3)).trans hx208_3; replace hx208_4 := (HB.out.cell (World.block_lt_of_cell? w _ hx208_4)).trans hx208_4; replace p208 := eq_true p208; replace q208 := eq_true q208) | ((with_reducible refine gate_builtin (b := .append) (xs := #[.tmp 56, .tmp 63]) rfl ?_); at_builtin; refine Kd.R_append (Kd.int .i16) (w0 := w) w.heap.size rfl (.tmp 56) (.tmp 63) 93 74 (.int .i16 0) 2 rfl Try.underlying93 info74 rfl (by decide) (by omega) u3 x3_2 ((rd_T77 l0_0 (rd x3_1 x5_1)).f2.f2) [.int .i16 ((rd_T77 l0_0 (rd x3_1 x5_1)).f2.f2)] (fun _ => True) (fun _ => False) rfl rfl ?aP (fun _ hk => hk.elim) ?aF ?aO ?aB ?aS ?aL ?_; (case aP => exact rfl); (case aB => exact q71x1_); (case aF => exact (fun _ _ => trivial)); (case aO => exact q71x3_); (case aS => exact (below_size q71x1_)); (case aL => have := LMc49.out; omega); intro v210 w52 ho hb hg hat; rw [← Ny209.out] at ho; have n0_ := aM71_ (Kd.R_over' q71x4_ (Kd.R_typed q71x3_) (by decide) hg); have n1_ := aM71_ (hb); have n2_ := aM71_ (ho); clear HO_4; clear HB; clear HO_3; have HO_4 := n0_; have HB := n1_; have HO211 := n2_; clear n0_ n1_ n2_; clear ho hb hg hat)))
     (try simp only [← hl4_2])
     go_roundg k2
     case measure => have := HK1.out; have := HK2.out; omega
     case rel => exact ⟨(y209), (y207), (2 + 1), q71x7_, H', ⟨by have := HK1.out; have := HK2.out; omega⟩, ⟨by (try simp only [hl4_1]); (try simp only [hl4_2]); (with_reducible repeat (first | apply Kd.R_alloc | apply Kd.R_drewN | apply Kd.R_drew)); exact HO211.out⟩, ⟨by (try simp only [hl4_1]); (try simp only [hl4_2]); (with_reducible repeat (first | apply Kd.R_alloc | apply Kd.R_drewN | apply Kd.R_drew)); exact HO_4.out⟩, ⟨by repeat (first | (with_reducible first | exact HB.out | apply below_alloc | apply pw_below_drewN | apply below_drew1) | exact HB.out)⟩⟩
set_option linter.defProp false
def aM32_ := @Aside0.mk
theorem q32x1_ {P : Prop} (h : P := by (with_reducible repeat (first | refine blk_drewN ?_ _ | refine blk_drew ?_ | refine blk_alloc ?_ _)); exact BK218.out) : P := h
theorem q32x2_ {P : Prop} (h : P := by repeat (first | (with_reducible first | exact HB.out | apply below_alloc | apply pw_below_drewN | apply below_drew1 | refine below_set ?_ GE218.out | refine below_set ?_ GE219.out) | exact HB.out)) : P := h
theorem q32x3_ {P : Prop} (h : P := by repeat (first | (with_reducible first | exact HB.out | apply below_alloc | apply pw_below_drewN | apply below_drew1 | refine below_set ?_ GE218.out) | exact HB.out)) : P := h
theorem q32x4_ {P : Prop} (h : P := by repeat (first | (with_reducible first | exact HB.out | apply below_alloc | apply pw_below_drewN | apply below_drew1) | exact HB.out)) : P := h
theorem q32x5_ {P : Prop} (h : P := by (try simp only [List.map_toArray, List.map_cons, List.map_nil]); first | done | rfl | (simp only [List.length_drop, List.length_take]; rfl)) : P := h
theorem q32x6_ {P : Prop} (h : P := by (with_reducible repeat (first | refine blk_drewN ?_ _ | refine blk_drew ?_ | refine blk_alloc ?_ _)); exact BK219.out) : P := h
theorem q32x7_ {P : Prop} (h : P := by (with_reducible repeat (first | refine blk_drewN ?_ _ | refine blk_drew ?_ | refine blk_alloc ?_ _)); refine blk_put (cs := #[.slice none 0 0]) ?_ 0 _ rfl; (with_reducible repeat (first | refine blk_drewN ?_ _ | refine blk_drew ?_ | refine blk_alloc ?_ _)); exact BK219.out) : P := h
/-! ### spec_ReachedTree: function 32 -/
def spec_ReachedTree.f (k : Nat) (l0_0 : List (S77)) : Option ((List (S77)) × Int) := (spec_l06Ok.f k l0_0).bind fun t220 => (if t220 = true then ((spec_l06Reached.f k l0_0).bind fun t221 => ((spec_l06Tree.f k l0_0 t221).bind fun t224 => (some (t224, 0)))) else (some (([] : List (S77)), 1)))
theorem spec_ReachedTree.mono : ∀ a0 k, LeO (spec_ReachedTree.f k a0) (spec_ReachedTree.f (k + 1) a0) := by
 intro a0 k
 unfold spec_ReachedTree.f
 repeat' first
   | (with_reducible exact spec_l06Ok.mono _ _)
   | (with_reducible exact spec_l06Reached.mono _ _)
   | (with_reducible exact spec_l06Tree.mono _ _ _)
   | (with_reducible exact LeO.refl _)
   | (with_reducible exact LeO.none _)
   | (with_reducible refine LeO.ite ?_ ?_)
   | (with_reducible refine LeO.bind ?_ (fun _ => ?_))
   | exact spec_l06Ok.mono _ _
   | exact spec_l06Reached.mono _ _
   | exact spec_l06Tree.mono _ _ _
   | exact LeO.none _
   | refine LeO.ite ?_ ?_
   | refine LeO.bind ?_ (fun _ => ?_)
set_option maxHeartbeats 8000000 in
set_option maxRecDepth 100000 in
theorem spec_ReachedTree.calls (k : Nat) (A0_0 : Option Addr) (c0_0 : Nat) (l0_0 : List (S77)) (r1 : List (S77)) (r2 : Int) (w : World) (hr0_0 : Kd.C k77 w A0_0 l0_0.length l0_0) (hc0_0 : l0_0.length ≤ c0_0) (h : spec_ReachedTree.f k l0_0 = some (r1, r2)) :
  Calls Try.prog 32 #[.agg #[.slice A0_0 l0_0.length c0_0]] w fun e w' => ∃ v0_ : Value, e = .returned (.tuple #[.agg #[v0_], .int .i64 r2]) ∧ Kd.R k77 77 w' w.heap.size (fun _ => True) v0_ r1 ∧ Below w.heap.size w w' := by
 have hu24 := Try.underlying24
 have HR0_0 := aM32_ hr0_0
 have HC0_0 := aM32_ hc0_0
 clear hr0_0 hc0_0
 have HB := aM32_ (Below.refl w.heap.size w)
 have H : ((spec_l06Ok.f k l0_0).bind fun t220 => (if t220 = true then ((spec_l06Reached.f k l0_0).bind fun t221 => ((spec_l06Tree.f k l0_0 t221).bind fun t224 => (some (t224, 0)))) else (some (([] : List (S77)), 1)))) = some (r1, r2) := h
 clear h
 replace H := Option.bind_eq_some_iff.mp H
 obtain ⟨t220, A20, H⟩ := H
 replace H : (if t220 = true then ((spec_l06Reached.f k l0_0).bind fun t221 => ((spec_l06Tree.f k l0_0 t221).bind fun t224 => (some (t224, 0)))) else (some (([] : List (S77)), 1))) = some (r1, r2) := H
 have A2 := aM32_ A20
 clear A20
 by_cases c3 : t220 = true
 rotate_left
 ·replace c3 := Bool.eq_false_iff.mpr c3
  subst c3
  have H1 : (some (([] : List (S77)), 1)) = some (r1, r2) := by rw [if_neg (show ¬ (false = true) by decide)] at H; exact H
  clear H
  have H := H1
  clear H1
  simp only [Option.some.injEq, Prod.mk.injEq] at H
  obtain ⟨rfl, rfl⟩ := H
  go_enter Try.func32, Try.ntmps32
  go_wp2_with (first | ((with_reducible refine gate_dst (N := 1) rfl ?_); refine box_event ?hg (N := 1) ?hd (cs := #[.slice A0_0 l0_0.length c0_0]) (t := 24) ?hr ?_; (case hd => rfl); (case hg => rfl); (case hr => first | (go_simp; done) | (go_simp; rfl)); intro gb218 hg w14 hbox hb; have n0_ := aM32_ (below_step q32x4_ hb); have n1_ := aM32_ (hbox); have n2_ := aM32_ ((by rw [hg]; exact (below_size q32x4_) : w.heap.size ≤ gb218)); have n3_ := aM32_ ((by rw [hg]; exact (below_size q32x4_) : w.heap.size ≤ gb218)); clear HB; have HB := n0_; have BK218 := n1_; have GW218 := n2_; have GE218 := n3_; clear n0_ n1_ n2_ n3_; clear hb hbox hg) | ((with_reducible refine gate_dst (N := 2) rfl ?_); refine box_event ?hg (N := 2) ?hd (cs := #[.slice none 0 0]) (t := 24) ?hr ?_; (case hd => rfl); (case hg => rfl); (case hr => first | (go_simp; done) | (go_simp; rfl)); intro gb219 hg w15 hbox hb; have n0_ := aM32_ (blk_below (g := gb218) (o := .cells #[.slice A0_0 l0_0.length c0_0] 24 (0, 0)) q32x1_ hb); have n1_ := aM32_ (below_step q32x3_ hb); have n2_ := aM32_ (hbox); have n3_ := aM32_ ((by rw [hg]; exact (below_size q32x3_) : w.heap.size ≤ gb219)); have n4_ := aM32_ ((by rw [hg]; exact (below_size q32x3_) : w.heap.size ≤ gb219)); have n5_ := aM32_ ((by rw [hg]; exact Nat.ne_of_lt (blk_lt (g := gb218) (o := .cells #[.slice A0_0 l0_0.length c0_0] 24 (0, 0)) q32x1_) : gb218 ≠ gb219)); have n6_ := aM32_ ((by rw [hg]; exact Nat.ne_of_gt (blk_lt (g := gb218) (o := .cells #[.slice A0_0 l0_0.length c0_0] 24 (0, 0)) q32x1_) : gb219 ≠ gb218)); clear BK218; clear HB; have BK218 := n0_; have HB := n1_; have BK219 := n2_; have GW219 := n3_; have GE219 := n4_; have NB218_219 := n5_; have NB219_218 := n6_; clear n0_ n1_ n2_ n3_ n4_ n5_ n6_; clear hb hbox hg) | ((with_reducible refine gate_callee (f := 64) rfl ?_); refine goesL_ (some 4) rfl rfl Try.func64 (by kernel_rfl) rfl #[.pointer (some ⟨gb218, 0, none⟩)] rfl q32x5_ ?_; (with_reducible refine (spec_l06Ok.calls k gb218 0 A0_0 c0_0 l0_0 false _ ?side1 ?side2 ?side3 A2.out).mono ?_); (case side1 => repeat (first | exact (Kd.C_below HR0_0.out HB.out) | (with_reducible refine Kd.C_alloc ?_ _) | (with_reducible refine Kd.C_drewN ?_ _) | (with_reducible refine Kd.C_drew ?_))); (case side2 => exact HC0_0.out); (case side3 => exact (blk_cell (g := gb218) (t := 24) (cs := #[.slice A0_0 l0_0.length c0_0]) q32x1_ 0).trans rfl); rintro e w' ⟨rfl, ⟨nd, rfl⟩⟩; refine ⟨_, rfl, ?_⟩; (try (rw [drewN_self w15]; generalize hq_ : World.drewN w15 _ = w15; have n0_ : Aside0 (w15.heap[gb218]? = some (.cells #[.slice A0_0 l0_0.length c0_0] 24 (0, 0))) := ⟨by rw [← hq_]; exact q32x1_⟩; have n1_ : Aside0 (w15.heap[gb219]? = some (.cells #[.slice none 0 0] 24 (0, 0))) := ⟨by rw [← hq_]; exact q32x6_⟩; have n2_ : Aside0 (Below w.heap.size w w15) := ⟨by rw [← hq_]; exact q32x2_⟩; clear BK218 BK219 HB hq_; have BK218 := n0_; have BK219 := n1_; have HB := n2_; clear n0_ n1_ n2_)); have hnb16 := NB219_218.out; have hnc16 := NB218_219.out; have hcz17_0 : w15.cell? ⟨gb219, 0, none⟩ = some (.slice none 0 0) := (blk_cell BK219.out 0).trans rfl; have hfz17_0 := blk_frozen BK219.out 0))
  refine bodyPost_ret (results_ct rfl _ _ gb219 24 #[.slice none 0 0] (0, 0) _ rfl q32x7_ Try.underlying24 rfl (by kernel_rfl)) rfl ?_
  exact ⟨_, by first | rfl | (simp [errW_none, errW_some] <;> rfl) | (simp [*, errW_none, errW_some] <;> rfl), by first | exact Kd.R_nil _ _ _ _ _ | exact Kd.N_nil _ _ _ _ _ | exact Kd.V_nil _ _ _ _ _ | exact Kd.Q_nil _ _ _ _ _ | exact Kd.S_nil _ _ _ _ _, by repeat (first | (with_reducible first | exact HB.out | apply below_alloc | apply pw_below_drewN | apply below_drew1 | refine below_set ?_ GE218.out | refine below_set ?_ GE219.out) | exact HB.out)⟩

 subst c3
 have H1 : ((spec_l06Reached.f k l0_0).bind fun t221 => ((spec_l06Tree.f k l0_0 t221).bind fun t224 => (some (t224, 0)))) = some (r1, r2) := by rw [if_pos rfl] at H; exact H
 clear H
 have H := H1
 clear H1
 replace H := Option.bind_eq_some_iff.mp H
 obtain ⟨t221, A40, H⟩ := H
 replace H : ((spec_l06Tree.f k l0_0 t221).bind fun t224 => (some (t224, 0))) = some (r1, r2) := H
 have A4 := aM32_ A40
 clear A40
 replace H := Option.bind_eq_some_iff.mp H
 obtain ⟨t224, A50, H⟩ := H
 replace H : (some (t224, 0)) = some (r1, r2) := H
 have A5 := aM32_ A50
 clear A50
 simp only [Option.some.injEq, Prod.mk.injEq] at H
 obtain ⟨rfl, rfl⟩ := H
 go_enter Try.func32, Try.ntmps32
 go_wp2_with (first | ((with_reducible refine gate_dst (N := 1) rfl ?_); refine box_event ?hg (N := 1) ?hd (cs := #[.slice A0_0 l0_0.length c0_0]) (t := 24) ?hr ?_; (case hd => rfl); (case hg => rfl); (case hr => first | (go_simp; done) | (go_simp; rfl)); intro gb218 hg w6 hbox hb; have n0_ := aM32_ (below_step q32x4_ hb); have n1_ := aM32_ (hbox); have n2_ := aM32_ ((by rw [hg]; exact (below_size q32x4_) : w.heap.size ≤ gb218)); have n3_ := aM32_ ((by rw [hg]; exact (below_size q32x4_) : w.heap.size ≤ gb218)); clear HB; have HB := n0_; have BK218 := n1_; have GW218 := n2_; have GE218 := n3_; clear n0_ n1_ n2_ n3_; clear hb hbox hg) | ((with_reducible refine gate_dst (N := 2) rfl ?_); refine box_event ?hg (N := 2) ?hd (cs := #[.slice none 0 0]) (t := 24) ?hr ?_; (case hd => rfl); (case hg => rfl); (case hr => first | (go_simp; done) | (go_simp; rfl)); intro gb219 hg w7 hbox hb; have n0_ := aM32_ (blk_below (g := gb218) (o := .cells #[.slice A0_0 l0_0.length c0_0] 24 (0, 0)) q32x1_ hb); have n1_ := aM32_ (below_step q32x3_ hb); have n2_ := aM32_ (hbox); have n3_ := aM32_ ((by rw [hg]; exact (below_size q32x3_) : w.heap.size ≤ gb219)); have n4_ := aM32_ ((by rw [hg]; exact (below_size q32x3_) : w.heap.size ≤ gb219)); have n5_ := aM32_ ((by rw [hg]; exact Nat.ne_of_lt (blk_lt (g := gb218) (o := .cells #[.slice A0_0 l0_0.length c0_0] 24 (0, 0)) q32x1_) : gb218 ≠ gb219)); have n6_ := aM32_ ((by rw [hg]; exact Nat.ne_of_gt (blk_lt (g := gb218) (o := .cells #[.slice A0_0 l0_0.length c0_0] 24 (0, 0)) q32x1_) : gb219 ≠ gb218)); clear BK218; clear HB; have BK218 := n0_; have HB := n1_; have BK219 := n2_; have GW219 := n3_; have GE219 := n4_; have NB218_219 := n5_; have NB219_218 := n6_; clear n0_ n1_ n2_ n3_ n4_ n5_ n6_; clear hb hbox hg) | ((with_reducible refine gate_callee (f := 64) rfl ?_); refine goesL_ (some 4) rfl rfl Try.func64 (by kernel_rfl) rfl #[.pointer (some ⟨gb218, 0, none⟩)] rfl q32x5_ ?_; (with_reducible refine (spec_l06Ok.calls k gb218 0 A0_0 c0_0 l0_0 true _ ?side1 ?side2 ?side3 A2.out).mono ?_); (case side1 => repeat (first | exact (Kd.C_below HR0_0.out HB.out) | (with_reducible refine Kd.C_alloc ?_ _) | (with_reducible refine Kd.C_drewN ?_ _) | (with_reducible refine Kd.C_drew ?_))); (case side2 => exact HC0_0.out); (case side3 => exact (blk_cell (g := gb218) (t := 24) (cs := #[.slice A0_0 l0_0.length c0_0]) q32x1_ 0).trans rfl); rintro e w' ⟨rfl, ⟨nd, rfl⟩⟩; refine ⟨_, rfl, ?_⟩; (try (rw [drewN_self w7]; generalize hq_ : World.drewN w7 _ = w7; have n0_ : Aside0 (w7.heap[gb218]? = some (.cells #[.slice A0_0 l0_0.length c0_0] 24 (0, 0))) := ⟨by rw [← hq_]; exact q32x1_⟩; have n1_ : Aside0 (w7.heap[gb219]? = some (.cells #[.slice none 0 0] 24 (0, 0))) := ⟨by rw [← hq_]; exact q32x6_⟩; have n2_ : Aside0 (Below w.heap.size w w7) := ⟨by rw [← hq_]; exact q32x2_⟩; clear BK218 BK219 HB hq_; have BK218 := n0_; have BK219 := n1_; have HB := n2_; clear n0_ n1_ n2_))) | ((with_reducible refine gate_callee (f := 71) rfl ?_); refine goesL_ (some 7) rfl rfl Try.func71 (by kernel_rfl) rfl #[.pointer (some ⟨gb218, 0, none⟩)] rfl q32x5_ ?_; (with_reducible refine (spec_l06Reached.calls k gb218 0 A0_0 c0_0 l0_0 t221 _ ?side1 ?side2 ?side3 A4.out).mono ?_); (case side1 => repeat (first | exact (Kd.C_below HR0_0.out HB.out) | (with_reducible refine Kd.C_alloc ?_ _) | (with_reducible refine Kd.C_drewN ?_ _) | (with_reducible refine Kd.C_drew ?_))); (case side2 => exact HC0_0.out); (case side3 => exact (blk_cell (g := gb218) (t := 24) (cs := #[.slice A0_0 l0_0.length c0_0]) q32x1_ 0).trans rfl); rintro e w8 ⟨v222, rfl, ho0, hb⟩; refine ⟨_, rfl, ?_⟩; have n0_ := aM32_ (Kd.R_lower ho0 (below_size q32x2_)); have n1_ := aM32_ (blk_below (g := gb218) (o := .cells #[.slice A0_0 l0_0.length c0_0] 24 (0, 0)) q32x1_ hb); have n2_ := aM32_ (blk_below (g := gb219) (o := .cells #[.slice none 0 0] 24 (0, 0)) q32x6_ hb); have n3_ := aM32_ (below_step q32x2_ hb); clear BK218; clear BK219; clear HB; have HO223 := n0_; have BK218 := n1_; have BK219 := n2_; have HB := n3_; clear n0_ n1_ n2_ n3_; (try clear hb); (try clear hb2); (try clear hk); (try clear hi); (try clear ho0); obtain ⟨Ao9, co9, eo9⟩ := Kd.R_slice HO223.out; subst eo9) | ((with_reducible refine gate_callee (f := 70) rfl ?_); refine goesL_ (some 8) rfl rfl Try.func70 (by kernel_rfl) rfl #[.pointer (some ⟨gb218, 0, none⟩), .slice Ao9 t221.length co9] rfl q32x5_ ?_; (with_reducible refine (spec_l06Tree.calls k gb218 0 A0_0 c0_0 l0_0 _ _ t221 t224 _ ?side1 ?side2 ?side3 ?side4 ?side5 A5.out).mono ?_); (case side1 => repeat (first | exact (Kd.C_below HR0_0.out HB.out) | (with_reducible refine Kd.C_alloc ?_ _) | (with_reducible refine Kd.C_drewN ?_ _) | (with_reducible refine Kd.C_drew ?_))); (case side2 => exact HC0_0.out); (case side3 => repeat (first | exact (Kd.R_reads' HO223.out).2.2 | (with_reducible refine Kd.C_alloc ?_ _) | (with_reducible refine Kd.C_drewN ?_ _) | (with_reducible refine Kd.C_drew ?_))); (case side4 => exact (Kd.R_reads' HO223.out).2.1); (case side5 => exact (blk_cell (g := gb218) (t := 24) (cs := #[.slice A0_0 l0_0.length c0_0]) q32x1_ 0).trans rfl); rintro e w10 ⟨v225, rfl, ho0, hb⟩; refine ⟨_, rfl, ?_⟩; have n0_ := aM32_ (Kd.R_below (by (with_reducible repeat (first | apply Kd.R_alloc | apply Kd.R_drewN | apply Kd.R_drew)); exact HO223.out) hb); have n1_ := aM32_ (Kd.R_lower ho0 (below_size q32x2_)); have n2_ := aM32_ (blk_below (g := gb218) (o := .cells #[.slice A0_0 l0_0.length c0_0] 24 (0, 0)) q32x1_ hb); have n3_ := aM32_ (blk_below (g := gb219) (o := .cells #[.slice none 0 0] 24 (0, 0)) q32x6_ hb); have n4_ := aM32_ (below_step q32x2_ hb); clear HO223; clear BK218; clear BK219; clear HB; have HO223 := n0_; have HO226 := n1_; have BK218 := n2_; have BK219 := n3_; have HB := n4_; clear n0_ n1_ n2_ n3_ n4_; (try clear hb); (try clear hb2); (try clear hk); (try clear hi); (try clear ho0); obtain ⟨Ao11, co11, eo11⟩ := Kd.R_slice HO226.out; subst eo11; have hnb12 := NB219_218.out; have hnc12 := NB218_219.out; have hcz13_0 : w10.cell? ⟨gb219, 0, none⟩ = some (.slice none 0 0) := (blk_cell BK219.out 0).trans rfl; have hfz13_0 := blk_frozen BK219.out 0))
 refine bodyPost_ret (results_ct rfl _ _ gb219 24 #[.slice Ao11 t224.length co11] (0, 0) _ rfl q32x7_ Try.underlying24 rfl (by kernel_rfl)) rfl ?_
 exact ⟨_, by first | rfl | (simp [errW_none, errW_some] <;> rfl) | (simp [*, errW_none, errW_some] <;> rfl), by (with_reducible repeat (first | apply Kd.R_alloc | apply Kd.R_drewN | apply Kd.R_drew)); exact Kd.R_mono (Kd.R_far (p := ⟨gb219, 0, none⟩) (Kd.R_types HO226.out BK219.out (by decide)) (fun _ hk => hk.2) (.slice Ao11 t224.length co11)) (fun _ hk => trivial), by repeat (first | (with_reducible first | exact HB.out | apply below_alloc | apply pw_below_drewN | apply below_drew1 | refine below_set ?_ GE218.out | refine below_set ?_ GE219.out) | exact HB.out)⟩
end Go.Proofs.Ytlccefmimpmgjaa.MFnExactReachedTree
