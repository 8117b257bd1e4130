/- Functions of the program as Lean functions, and the proof that the code comes to what they say. Written by a program of this session (myprint.py). -/
import Derived.Test.YtlccefmimpmgjaaMFnExactIsProductivex0
namespace Go.Proofs.Ytlccefmimpmgjaa.MFnExactIsProductive
open Go.RowKit Go.Proofs.Ytlccefmimpmgjaa.MOpen Go.Proofs.YtlccefmimpmgjaaW.PrintWords Go.Proofs.YtlccefmimpmgjaaW.PrintLast Go.Proofs.YtlccefmimpmgjaaW.PrintMore
attribute [local go_sem] max2_int min2_int max_two min_two max_three min_three max_four min_four   -- for this text's walks alone
set_option linter.unusedVariables false
set_option linter.unusedSimpArgs false

set_option linter.defProp false
def aM71_ := @Aside0.mk
theorem q71x1_ {P : Prop} (h : P := by repeat (first | (with_reducible first | exact HB.out | apply below_alloc | apply pw_below_drewN | apply below_drew1) | exact HB.out)) : P := h
theorem q71x2_ {P : Prop} (h : P := by first | (with_reducible assumption) | assumption) : P := h
theorem q71x3_ {P : Prop} (h : P := by (with_reducible repeat (first | apply Kd.R_alloc | apply Kd.R_drewN | apply Kd.R_drew)); exact HO_3.out) : P := h
theorem q71x4_ {P : Prop} (h : P := by (with_reducible repeat (first | apply Kd.R_alloc | apply Kd.R_drewN | apply Kd.R_drew)); exact HO_4.out) : P := h
theorem q71x5_ {P : Prop} (h : P := by rw [hw]; exact below_set (HB.out) GB5.out) : P := h
theorem q71x6_ {P : Prop} (h : P := by (with_reducible repeat (first | apply Kd.R_alloc | apply Kd.R_drewN | apply Kd.R_drew)); exact HO151.out) : P := h
theorem q71x7_ {P : Prop} (h : P := by first | rfl | (simp; done) | (simp [*]; done)) : P := h
/-! ### spec_l06Reached: function 71 -/
mutual
def spec_l06Reached.l0 : Nat → List Int → List Bool → Int → List (S77) → Option (List Int)
 | 0, _, _, _, _ => none
 | k + 1, x3, x4, x5, x1000 => if x5 < (x3.length : Int) then (if 0 ≤ x5 then (if 0 ≤ (rd x3 x5) then (if (rd x3 x5) < (x1000.length : Int) then (spec_l06Reached.l1 k x3 x4 x5 0 (rd x3 x5) x1000) else (none)) else (none)) else (none)) else (some x3)
def spec_l06Reached.l1 : Nat → List Int → List Bool → Int → Int → Int → List (S77) → Option (List Int)
 | 0, _, _, _, _, _, _ => none
 | k + 1, x3, x4, x5, x7, x30, x1000 => if 0 ≤ x30 then (if x30 < (x1000.length : Int) then (if ((rd_T77 x1000 x30).f0) = 1 then (if x7 < 3 then (if x7 = 0 then (if 0 ≤ ((rd_T77 x1000 x30).f2.f0) then (if ((rd_T77 x1000 x30).f2.f0) < (x4.length : Int) then (if (rdOf false x4 ((rd_T77 x1000 x30).f2.f0) = true) then (spec_l06Reached.l1 k x3 x4 x5 (0 + 1) x30 x1000) else (if x3.length < 70368744177664 then (spec_l06Reached.l1 k (x3 ++ [(rd_T77 x1000 x30).f2.f0]) (x4.set (((rd_T77 x1000 x30).f2.f0) : Int).toNat true) x5 (0 + 1) x30 x1000) else (none))) else (none)) else (none)) else (if x7 = 1 then (if 0 ≤ ((rd_T77 x1000 x30).f2.f1) then (if ((rd_T77 x1000 x30).f2.f1) < (x4.length : Int) then (if (rdOf false x4 ((rd_T77 x1000 x30).f2.f1) = true) then (spec_l06Reached.l1 k x3 x4 x5 (1 + 1) x30 x1000) else (if x3.length < 70368744177664 then (spec_l06Reached.l1 k (x3 ++ [(rd_T77 x1000 x30).f2.f1]) (x4.set (((rd_T77 x1000 x30).f2.f1) : Int).toNat true) x5 (1 + 1) x30 x1000) else (none))) else (none)) else (none)) else (if x7 = 2 then (if 0 ≤ ((rd_T77 x1000 x30).f2.f2) then (if ((rd_T77 x1000 x30).f2.f2) < (x4.length : Int) then (if (rdOf false x4 ((rd_T77 x1000 x30).f2.f2) = true) then (spec_l06Reached.l1 k x3 x4 x5 (2 + 1) x30 x1000) else (if x3.length < 70368744177664 then (spec_l06Reached.l1 k (x3 ++ [(rd_T77 x1000 x30).f2.f2]) (x4.set (((rd_T77 x1000 x30).f2.f2) : Int).toNat true) x5 (2 + 1) x30 x1000) else (none))) else (none)) else (none)) else (none)))) else (spec_l06Reached.l0 k x3 x4 (wrap64 (x5 + 1)) x1000)) else (if x7 < 1 then (if x7 = 0 then (if 0 ≤ ((rd_T77 x1000 x30).f2.f0) then (if ((rd_T77 x1000 x30).f2.f0) < (x4.length : Int) then (if (rdOf false x4 ((rd_T77 x1000 x30).f2.f0) = true) then (spec_l06Reached.l1 k x3 x4 x5 (0 + 1) x30 x1000) else (if x3.length < 70368744177664 then (spec_l06Reached.l1 k (x3 ++ [(rd_T77 x1000 x30).f2.f0]) (x4.set (((rd_T77 x1000 x30).f2.f0) : Int).toNat true) x5 (0 + 1) x30 x1000) else (none))) else (none)) else (none)) else (none)) else (spec_l06Reached.l0 k x3 x4 (wrap64 (x5 + 1)) x1000))) else (none)) else (none)
end
def spec_l06Reached.f (k : Nat) (l0_0 : List (S77)) : Option (List Int) := if 0 ≤ (l0_0.length : Int) then (if ((l0_0.length : Int) : Int).toNat ≤ 281474976710656 then ((some (List.replicate ((l0_0.length : Int) : Int).toNat false : List Bool)).bind fun y152 => (if 0 < (y152.length : Int) then (spec_l06Reached.l0 k (([0] : List Int)) (y152.set (0 : Int).toNat true) 0 l0_0) else (none))) else (none)) else (none)
theorem spec_l06Reached.mono_l : ∀ k, (∀ y0 y1 y2 y3, LeO (spec_l06Reached.l0 k y0 y1 y2 y3) (spec_l06Reached.l0 (k + 1) y0 y1 y2 y3)) ∧ (∀ y0 y1 y2 y3 y4 y5, LeO (spec_l06Reached.l1 k y0 y1 y2 y3 y4 y5) (spec_l06Reached.l1 (k + 1) y0 y1 y2 y3 y4 y5))
 | 0 => ⟨fun _ _ _ _ r h => by simp [spec_l06Reached.l0] at h, fun _ _ _ _ _ _ r h => by simp [spec_l06Reached.l1] at h⟩
 | k + 1 => by
  obtain ⟨ih0, ih1⟩ := spec_l06Reached.mono_l k
  refine ⟨?_, ?_⟩
  ·intro y0 y1 y2 y3
   unfold spec_l06Reached.l0
   repeat' first
   | (with_reducible exact ih0 _ _ _ _)
   | (with_reducible exact ih1 _ _ _ _ _ _)
   | (with_reducible exact LeO.refl _)
   | (with_reducible exact LeO.none _)
   | (with_reducible refine LeO.ite ?_ ?_)
   | (with_reducible refine LeO.bind ?_ (fun _ => ?_))
   | exact ih0 _ _ _ _
   | exact ih1 _ _ _ _ _ _
   | exact LeO.none _
   | refine LeO.ite ?_ ?_
   | refine LeO.bind ?_ (fun _ => ?_)
  intro y0 y1 y2 y3 y4 y5
  unfold spec_l06Reached.l1
  repeat' first
  | (with_reducible exact ih0 _ _ _ _)
  | (with_reducible exact ih1 _ _ _ _ _ _)
  | (with_reducible exact LeO.refl _)
  | (with_reducible exact LeO.none _)
  | (with_reducible refine LeO.ite ?_ ?_)
  | (with_reducible refine LeO.bind ?_ (fun _ => ?_))
  | exact ih0 _ _ _ _
  | exact ih1 _ _ _ _ _ _
  | exact LeO.none _
  | refine LeO.ite ?_ ?_
  | refine LeO.bind ?_ (fun _ => ?_)
theorem spec_l06Reached.mono : ∀ a0 k, LeO (spec_l06Reached.f k a0) (spec_l06Reached.f (k + 1) a0) := by
 intro a0 k
 obtain ⟨ih0, ih1⟩ := spec_l06Reached.mono_l k
 unfold spec_l06Reached.f
 repeat' first
   | (with_reducible exact ih0 _ _ _ _)
   | (with_reducible exact ih1 _ _ _ _ _ _)
   | (with_reducible exact LeO.refl _)
   | (with_reducible exact LeO.none _)
   | (with_reducible refine LeO.ite ?_ ?_)
   | (with_reducible refine LeO.bind ?_ (fun _ => ?_))
   | exact ih0 _ _ _ _
   | exact ih1 _ _ _ _ _ _
   | exact LeO.none _
   | refine LeO.ite ?_ ?_
   | refine LeO.bind ?_ (fun _ => ?_)
set_option maxHeartbeats 8000000 in
set_option maxRecDepth 100000 in
theorem spec_l06Reached.calls (k : Nat) (B0_ O0_ : Nat) (A0_0 : Option Addr) (c0_0 : Nat) (l0_0 : List (S77)) (r : List Int) (w : World) (hr0_0 : Kd.C k77 w A0_0 l0_0.length l0_0) (hc0_0 : l0_0.length ≤ c0_0) (hq0_ : w.cell? ⟨B0_, O0_, none⟩ = some (.slice A0_0 l0_0.length c0_0)) (h : spec_l06Reached.f k l0_0 = some r) :
  Calls Try.prog 71 #[.pointer (some ⟨B0_, O0_, none⟩)] w fun e w' => ∃ v0_ : Value, e = .returned (v0_) ∧ Kd.R (Kd.int .i16) 74 w' w.heap.size (fun _ => True) v0_ r ∧ Below w.heap.size w w' := by
 have HR0_0 := aM71_ hr0_0
 have HC0_0 := aM71_ hc0_0
 clear hr0_0 hc0_0
 have HQ0_ := aM71_ hq0_
 clear hq0_
 have HB := aM71_ (Below.refl w.heap.size w)
 have H : (if 0 ≤ (l0_0.length : Int) then (if ((l0_0.length : Int) : Int).toNat ≤ 281474976710656 then ((some (List.replicate ((l0_0.length : Int) : Int).toNat false : List Bool)).bind fun y152 => (if 0 < (y152.length : Int) then (spec_l06Reached.l0 k (([0] : List Int)) (y152.set (0 : Int).toNat true) 0 l0_0) else (none))) else (none)) else (none)) = some r := h
 clear h
 obtain ⟨y149, hy149⟩ : ∃ y_ : List Int, y_ = (([0] : List Int)) := ⟨_, rfl⟩
 replace H : (if 0 ≤ (l0_0.length : Int) then (if ((l0_0.length : Int) : Int).toNat ≤ 281474976710656 then ((some (List.replicate ((l0_0.length : Int) : Int).toNat false : List Bool)).bind fun y152 => (if 0 < (y152.length : Int) then (spec_l06Reached.l0 k y149 (y152.set (0 : Int).toNat true) 0 l0_0) else (none))) else (none)) else (none)) = some r := by first | (rw [hy149]; with_reducible exact H) | (have H2_ := (Option.bind_some _ _).symm.trans H; rw [hy149]; with_reducible exact H2_) | (have H2_ := (Option.bind_some _ _).symm.trans H; with_reducible exact H2_) | with_reducible exact H | (rw [hy149]; exact H) | exact H
 have Ny149 := aM71_ hy149
 clear hy149
 by_cases c2 : 0 ≤ (l0_0.length : Int)
 rotate_left
 ·rw [if_neg c2] at H
  exact absurd H (by simp)

 rw [if_pos c2] at H
 have c2b0 := eq_true c2
 have c2b1 : decide (0 ≤ (l0_0.length : Int)) = true := decide_eq_true c2
 clear c2
 by_cases c3 : ((l0_0.length : Int) : Int).toNat ≤ 281474976710656
 rotate_left
 ·rw [if_neg c3] at H
  exact absurd H (by simp)
 rw [if_pos c3] at H
 have c3b0 := eq_true c3
 have c3b1 : decide (((l0_0.length : Int) : Int).toNat ≤ 281474976710656) = true := decide_eq_true c3
 clear c3
 obtain ⟨y152, hy152⟩ : ∃ y_ : List Bool, y_ = (List.replicate ((l0_0.length : Int) : Int).toNat false) := ⟨_, rfl⟩
 replace H : (if 0 < (y152.length : Int) then (spec_l06Reached.l0 k y149 (y152.set (0 : Int).toNat true) 0 l0_0) else (none)) = some r := by first | (rw [hy152]; with_reducible exact H) | (have H2_ := (Option.bind_some _ _).symm.trans H; rw [hy152]; with_reducible exact H2_) | (have H2_ := (Option.bind_some _ _).symm.trans H; with_reducible exact H2_) | with_reducible exact H | (rw [hy152]; exact H) | exact H
 have Ny152 := aM71_ hy152
 clear hy152
 by_cases c4 : 0 < (y152.length : Int)
 rotate_left
 ·rw [if_neg c4] at H
  exact absurd H (by simp)
 rw [if_pos c4] at H
 have c4b0 : decide (0 < (y152.length : Int)) = true := decide_eq_true c4
 have c4b1 : decide (0 < y152.length) = true := decide_eq_true (by omega)
 clear c4
 obtain ⟨y155, hy155⟩ : ∃ y_ : List Bool, y_ = (y152.set (0 : Int).toNat true) := ⟨_, rfl⟩
 replace H : (spec_l06Reached.l0 k y149 y155 0 l0_0) = some r := by first | (rw [hy155]; with_reducible exact H) | (have H2_ := (Option.bind_some _ _).symm.trans H; rw [hy155]; with_reducible exact H2_) | (have H2_ := (Option.bind_some _ _).symm.trans H; with_reducible exact H2_) | with_reducible exact H | (rw [hy155]; exact H) | exact H
 have Ny155 := aM71_ hy155
 clear hy155
 have H' := aM71_ H
 clear H
 go_enter Try.func71, Try.ntmps71
 go_wp2_with (first | ((with_reducible refine gate_dst (N := 8) rfl ?_); refine Kd.R_lit (Kd.int .i16) _ 74 ?hg (N := 8) ?hd (xs := ([0] : List Int)) (inner := [.int .i16 0]) (ok := fun _ => True) (okp := fun _ => True) ?hr ?hp (fun _ hk => hk) trivial (Below.refl _ _) (Nat.le_refl _) (by simp) ?_; (case hd => rfl); (case hg => rfl); (case hr => first | (go_simp; done) | (go_simp; rfl)); (case hp => exact (Reps.one (show Kd.M (Kd.int .i16) _ _ _ 0 [.int .i16 0] from rfl) (Reps.none _ _))); intro v150 w6 ho7 hb hg_ hnew_; clear hg_ hnew_; (first | rw [← Ny149.out] at ho7 | (simp only [Int.reduceToNat] at ho7; rw [← Ny149.out] at ho7)); have n0_ := aM71_ (Kd.R_lower ho7 (below_size q71x1_)); have n1_ := aM71_ (below_step q71x1_ hb); clear HB; have HO151 := n0_; have HB := n1_; clear n0_ n1_; clear hb ho7; have hxr8_0 := HQ0_.out; replace hxr8_0 := ((show Below w.heap.size w w6 from by repeat (first | (with_reducible first | exact HB.out | apply below_alloc | apply pw_below_drewN | apply below_drew1) | exact HB.out)).cell (World.block_lt_of_cell? w _ hxr8_0)).trans hxr8_0) | ((with_reducible refine gate_dst (N := 14) rfl ?_); refine Kd.R_make Kd.bool _ 4 rfl (N := 14) rfl 134 _ _ rfl (l0_0.length : Int) rfl rfl Try.underlying134 (.bool false) 1 info4 rfl (by decide) (by omega) false (ok := fun _ => True) (okp := fun _ => True) rfl (fun _ hk => hk) trivial (of_decide_eq_true q71x2_) (Nat.le_trans (Nat.mul_le_mul_right _ (of_decide_eq_true q71x2_ : (l0_0.length : Int).toNat ≤ 281474976710656)) (by omega)) (Below.refl _ _) (Nat.le_refl _) ?_; intro v153 w9 ho10 hb hg_ hnew_; clear hg_ hnew_; (first | rw [← Ny152.out] at ho10 | (simp only [Int.reduceToNat] at ho10; rw [← Ny152.out] at ho10)); have n0_ := aM71_ (Kd.R_below q71x6_ hb); have n1_ := aM71_ (Kd.R_lower ho10 (below_size q71x1_)); have n2_ := aM71_ (below_step q71x1_ hb); clear HO151; clear HB; have HO151 := n0_; have HO154 := n1_; have HB := n2_; clear n0_ n1_ n2_; clear hb ho10; have p5 : 0 ≤ (0 : Int) := (by omega); have q5 : (0 : Int) < ((y152.length : Int) : Int) := of_decide_eq_true q71x2_; have qi5 : (0 < y152.length) = True := eq_true (by omega); obtain ⟨go5, co5, eo5, gb5, gl5, cl5, HG5⟩ := Kd.R_form HO154.out (by omega); (first | cases eo5 | (injection eo5 with ea_ en_ ec_; (first | subst ea_ | (injection ea_ with ea_; subst ea_)); subst ec_; clear en_)); have GB5 := aM71_ gb5; have GG5 := aM71_ HG5; clear gb5 gl5 HG5; obtain ⟨hx5_0, hf5_0⟩ := Kd.R_celln false HO154.out (0 : Int) p5 q5; (try rw [show ((0 : Int)).toNat = 0 from rfl] at hx5_0); (try simp only [Nat.reduceMul, Nat.zero_mul, Nat.zero_add, Nat.reduceAdd] at hx5_0); (try rw [show ((0 : Int)).toNat = 0 from rfl] at hf5_0); (try simp only [Nat.reduceMul, Nat.zero_mul, Nat.zero_add, Nat.reduceAdd] at hf5_0); replace p5 := eq_true p5; replace q5 := eq_true q5; obtain ⟨hy11_, hz11_⟩ := Kd.R_celln false HO154.out (0 : Int) (by omega) (of_decide_eq_true q71x2_); (try simp only [Int.reduceToNat, Int.toNat_zero, Int.toNat_ofNat, Nat.reduceMul, Nat.zero_mul, Nat.zero_add] at hy11_ hz11_); (try rw [show ((0 : Int)).toNat = 0 from rfl] at hy11_); (try rw [show ((0 : Int)).toNat = 0 from rfl] at hz11_); have HP11 := Kd.R_putg HO154.out (0 : Int) true) | ((with_reducible refine gate_store (t := 4) (p := 16) rfl ?_); (try (rw [drewN_self w9]; generalize hq_ : World.drewN w9 _ = w9; have n0_ := aM71_ (Kd.R_at hq_ HO151.out); have n1_ := aM71_ (Kd.R_at hq_ HO154.out); have n2_ := aM71_ (below_at hq_ HB.out); clear hq_ HO151 HO154 HB; have HO151 := n0_; have HO154 := n1_; have HB := n2_; clear n0_ n1_ n2_; (try (obtain ⟨hy11_, hz11_⟩ := Kd.R_celln false HO154.out (0 : Int) (by omega) (of_decide_eq_true q71x2_))); (try (try simp only [Int.reduceToNat, Int.toNat_zero, Int.toNat_ofNat, Nat.reduceMul, Nat.zero_mul, Nat.zero_add] at hy11_ hz11_)); (try (try rw [show ((0 : Int)).toNat = 0 from rfl] at hy11_)); (try (try rw [show ((0 : Int)).toNat = 0 from rfl] at hz11_)); (try (have HP11 := Kd.R_putg HO154.out (0 : Int) true)))); refine store_event (t := 4) (p := 16) (v := ?vo_w12) (w1 := (w9.setCell ⟨go5, (0 : Int).toNat, none⟩ (.bool true))) ?hg ?ho ?hn ?hr ?_; (case ho => rfl); (case hg => rfl); (case hn => rfl); (case hr => first | (go_simp; done) | (go_simp; rfl)); intro w12 hw; have hg : w9.grownBy w12 (some go5) := (by rw [hw]; exact HP11.2); have hp_ : Kd.R Kd.bool 4 w12 w.heap.size (fun _ => True) (.slice (some ⟨go5, 0, none⟩) y152.length co5) y155 := (by rw [hw, Ny155.out]; exact HP11.1); clear HP11; have n0_ := aM71_ (Kd.R_over' (v := (.slice (some ⟨go5, 0, none⟩) y152.length co5)) q71x6_ (Kd.R_typed HO154.out) (by decide) hg); have n1_ := aM71_ (hp_); have n2_ := aM71_ ((q71x5_ : Below w.heap.size w w12)); clear HO151; clear HO154; clear HB; have HO151 := n0_; have HO154 := n1_; have HB := n2_; clear n0_ n1_ n2_; clear hg hw hp_))
 repeat (go_quiet (first | ((with_reducible refine gate_dst (N := 8) rfl ?_); refine Kd.R_lit (Kd.int .i16) _ 74 ?hg (N := 8) ?hd (xs := ([0] : List Int)) (inner := [.int .i16 0]) (ok := fun _ => True) (okp := fun _ => True) ?hr ?hp (fun _ hk => hk) trivial (Below.refl _ _) (Nat.le_refl _) (by simp) ?_; (case hd => rfl); (case hg => rfl); (case hr => first | (go_simp; done) | (go_simp; rfl)); (case hp => exact (Reps.one (show Kd.M (Kd.int .i16) _ _ _ 0 [.int .i16 0] from rfl) (Reps.none _ _))); intro v150 w6 ho7 hb hg_ hnew_; clear hg_ hnew_; (first | rw [← Ny149.out] at ho7 | (simp only [Int.reduceToNat] at ho7; rw [← Ny149.out] at ho7)); have n0_ := aM71_ (Kd.R_lower ho7 (below_size q71x1_)); have n1_ := aM71_ (below_step q71x1_ hb); clear HB; have HO151 := n0_; have HB := n1_; clear n0_ n1_; clear hb ho7; have hxr8_0 := HQ0_.out; replace hxr8_0 := ((show Below w.heap.size w w6 from by repeat (first | (with_reducible first | exact HB.out | apply below_alloc | apply pw_below_drewN | apply below_drew1) | exact HB.out)).cell (World.block_lt_of_cell? w _ hxr8_0)).trans hxr8_0) | ((with_reducible refine gate_dst (N := 14) rfl ?_); refine Kd.R_make Kd.bool _ 4 rfl (N := 14) rfl 134 _ _ rfl (l0_0.length : Int) rfl rfl Try.underlying134 (.bool false) 1 info4 rfl (by decide) (by omega) false (ok := fun _ => True) (okp := fun _ => True) rfl (fun _ hk => hk) trivial (of_decide_eq_true q71x2_) (Nat.le_trans (Nat.mul_le_mul_right _ (of_decide_eq_true q71x2_ : (l0_0.length : Int).toNat ≤ 281474976710656)) (by omega)) (Below.refl _ _) (Nat.le_refl _) ?_; intro v153 w9 ho10 hb hg_ hnew_; clear hg_ hnew_; (first | rw [← Ny152.out] at ho10 | (simp only [Int.reduceToNat] at ho10; rw [← Ny152.out] at ho10)); have n0_ := aM71_ (Kd.R_below q71x6_ hb); have n1_ := aM71_ (Kd.R_lower ho10 (below_size q71x1_)); have n2_ := aM71_ (below_step q71x1_ hb); clear HO151; clear HB; have HO151 := n0_; have HO154 := n1_; have HB := n2_; clear n0_ n1_ n2_; clear hb ho10; have p5 : 0 ≤ (0 : Int) := (by omega); have q5 : (0 : Int) < ((y152.length : Int) : Int) := of_decide_eq_true q71x2_; have qi5 : (0 < y152.length) = True := eq_true (by omega); obtain ⟨go5, co5, eo5, gb5, gl5, cl5, HG5⟩ := Kd.R_form HO154.out (by omega); (first | cases eo5 | (injection eo5 with ea_ en_ ec_; (first | subst ea_ | (injection ea_ with ea_; subst ea_)); subst ec_; clear en_)); have GB5 := aM71_ gb5; have GG5 := aM71_ HG5; clear gb5 gl5 HG5; obtain ⟨hx5_0, hf5_0⟩ := Kd.R_celln false HO154.out (0 : Int) p5 q5; (try rw [show ((0 : Int)).toNat = 0 from rfl] at hx5_0); (try simp only [Nat.reduceMul, Nat.zero_mul, Nat.zero_add, Nat.reduceAdd] at hx5_0); (try rw [show ((0 : Int)).toNat = 0 from rfl] at hf5_0); (try simp only [Nat.reduceMul, Nat.zero_mul, Nat.zero_add, Nat.reduceAdd] at hf5_0); replace p5 := eq_true p5; replace q5 := eq_true q5; obtain ⟨hy11_, hz11_⟩ := Kd.R_celln false HO154.out (0 : Int) (by omega) (of_decide_eq_true q71x2_); (try simp only [Int.reduceToNat, Int.toNat_zero, Int.toNat_ofNat, Nat.reduceMul, Nat.zero_mul, Nat.zero_add] at hy11_ hz11_); (try rw [show ((0 : Int)).toNat = 0 from rfl] at hy11_); (try rw [show ((0 : Int)).toNat = 0 from rfl] at hz11_); have HP11 := Kd.R_putg HO154.out (0 : Int) true) | ((with_reducible refine gate_store (t := 4) (p := 16) rfl ?_); (try (rw [drewN_self w9]; generalize hq_ : World.drewN w9 _ = w9; have n0_ := aM71_ (Kd.R_at hq_ HO151.out); have n1_ := aM71_ (Kd.R_at hq_ HO154.out); have n2_ := aM71_ (below_at hq_ HB.out); clear hq_ HO151 HO154 HB; have HO151 := n0_; have HO154 := n1_; have HB := n2_; clear n0_ n1_ n2_; (try (obtain ⟨hy11_, hz11_⟩ := Kd.R_celln false HO154.out (0 : Int) (by omega) (of_decide_eq_true q71x2_))); (try (try simp only [Int.reduceToNat, Int.toNat_zero, Int.toNat_ofNat, Nat.reduceMul, Nat.zero_mul, Nat.zero_add] at hy11_ hz11_)); (try (try rw [show ((0 : Int)).toNat = 0 from rfl] at hy11_)); (try (try rw [show ((0 : Int)).toNat = 0 from rfl] at hz11_)); (try (have HP11 := Kd.R_putg HO154.out (0 : Int) true)))); refine store_event (t := 4) (p := 16) (v := ?vo_w12) (w1 := (w9.setCell ⟨go5, (0 : Int).toNat, none⟩ (.bool true))) ?hg ?ho ?hn ?hr ?_; (case ho => rfl); (case hg => rfl); (case hn => rfl); (case hr => first | (go_simp; done) | (go_simp; rfl)); intro w12 hw; have hg : w9.grownBy w12 (some go5) := (by rw [hw]; exact HP11.2); have hp_ : Kd.R Kd.bool 4 w12 w.heap.size (fun _ => True) (.slice (some ⟨go5, 0, none⟩) y152.length co5) y155 := (by rw [hw, Ny155.out]; exact HP11.1); clear HP11; have n0_ := aM71_ (Kd.R_over' (v := (.slice (some ⟨go5, 0, none⟩) y152.length co5)) q71x6_ (Kd.R_typed HO154.out) (by decide) hg); have n1_ := aM71_ (hp_); have n2_ := aM71_ ((q71x5_ : Below w.heap.size w w12)); clear HO151; clear HO154; clear HB; have HO151 := n0_; have HO154 := n1_; have HB := n2_; clear n0_ n1_ n2_; clear hg hw hp_)); try go_wp2_with (first | ((with_reducible refine gate_dst (N := 8) rfl ?_); refine Kd.R_lit (Kd.int .i16) _ 74 ?hg (N := 8) ?hd (xs := ([0] : List Int)) (inner := [.int .i16 0]) (ok := fun _ => True) (okp := fun _ => True) ?hr ?hp (fun _ hk => hk) trivial (Below.refl _ _) (Nat.le_refl _) (by simp) ?_; (case hd => rfl); (case hg => rfl); (case hr => first | (go_simp; done) | (go_simp; rfl)); (case hp => exact (Reps.one (show Kd.M (Kd.int .i16) _ _ _ 0 [.int .i16 0] from rfl) (Reps.none _ _))); intro v150 w6 ho7 hb hg_ hnew_; clear hg_ hnew_; (first | rw [← Ny149.out] at ho7 | (simp only [Int.reduceToNat] at ho7; rw [← Ny149.out] at ho7)); have n0_ := aM71_ (Kd.R_lower ho7 (below_size q71x1_)); have n1_ := aM71_ (below_step q71x1_ hb); clear HB; have HO151 := n0_; have HB := n1_; clear n0_ n1_; clear hb ho7; have hxr8_0 := HQ0_.out; replace hxr8_0 := ((show Below w.heap.size w w6 from by repeat (first | (with_reducible first | exact HB.out | apply below_alloc | apply pw_below_drewN | apply below_drew1) | exact HB.out)).cell (World.block_lt_of_cell? w _ hxr8_0)).trans hxr8_0) | ((with_reducible refine gate_dst (N := 14) rfl ?_); refine Kd.R_make Kd.bool _ 4 rfl (N := 14) rfl 134 _ _ rfl (l0_0.length : Int) rfl rfl Try.underlying134 (.bool false) 1 info4 rfl (by decide) (by omega) false (ok := fun _ => True) (okp := fun _ => True) rfl (fun _ hk => hk) trivial (of_decide_eq_true q71x2_) (Nat.le_trans (Nat.mul_le_mul_right _ (of_decide_eq_true q71x2_ : (l0_0.length : Int).toNat ≤ 281474976710656)) (by omega)) (Below.refl _ _) (Nat.le_refl _) ?_; intro v153 w9 ho10 hb hg_ hnew_; clear hg_ hnew_; (first | rw [← Ny152.out] at ho10 | (simp only [Int.reduceToNat] at ho10; rw [← Ny152.out] at ho10)); have n0_ := aM71_ (Kd.R_below q71x6_ hb); have n1_ := aM71_ (Kd.R_lower ho10 (below_size q71x1_)); have n2_ := aM71_ (below_step q71x1_ hb); clear HO151; clear HB; have HO151 := n0_; have HO154 := n1_; have HB := n2_; clear n0_ n1_ n2_; clear hb ho10; have p5 : 0 ≤ (0 : Int) := (by omega); have q5 : (0 : Int) < ((y152.length : Int) : Int) := of_decide_eq_true q71x2_; have qi5 : (0 < y152.length) = True := eq_true (by omega); obtain ⟨go5, co5, eo5, gb5, gl5, cl5, HG5⟩ := Kd.R_form HO154.out (by omega); (first | cases eo5 | (injection eo5 with ea_ en_ ec_; (first | subst ea_ | (injection ea_ with ea_; subst ea_)); subst ec_; clear en_)); have GB5 := aM71_ gb5; have GG5 := aM71_ HG5; clear gb5 gl5 HG5; obtain ⟨hx5_0, hf5_0⟩ := Kd.R_celln false HO154.out (0 : Int) p5 q5; (try rw [show ((0 : Int)).toNat = 0 from rfl] at hx5_0); (try simp only [Nat.reduceMul, Nat.zero_mul, Nat.zero_add, Nat.reduceAdd] at hx5_0); (try rw [show ((0 : Int)).toNat = 0 from rfl] at hf5_0); (try simp only [Nat.reduceMul, Nat.zero_mul, Nat.zero_add, Nat.reduceAdd] at hf5_0); replace p5 := eq_true p5; replace q5 := eq_true q5; obtain ⟨hy11_, hz11_⟩ := Kd.R_celln false HO154.out (0 : Int) (by omega) (of_decide_eq_true q71x2_); (try simp only [Int.reduceToNat, Int.toNat_zero, Int.toNat_ofNat, Nat.reduceMul, Nat.zero_mul, Nat.zero_add] at hy11_ hz11_); (try rw [show ((0 : Int)).toNat = 0 from rfl] at hy11_); (try rw [show ((0 : Int)).toNat = 0 from rfl] at hz11_); have HP11 := Kd.R_putg HO154.out (0 : Int) true) | ((with_reducible refine gate_store (t := 4) (p := 16) rfl ?_); (try (rw [drewN_self w9]; generalize hq_ : World.drewN w9 _ = w9; have n0_ := aM71_ (Kd.R_at hq_ HO151.out); have n1_ := aM71_ (Kd.R_at hq_ HO154.out); have n2_ := aM71_ (below_at hq_ HB.out); clear hq_ HO151 HO154 HB; have HO151 := n0_; have HO154 := n1_; have HB := n2_; clear n0_ n1_ n2_; (try (obtain ⟨hy11_, hz11_⟩ := Kd.R_celln false HO154.out (0 : Int) (by omega) (of_decide_eq_true q71x2_))); (try (try simp only [Int.reduceToNat, Int.toNat_zero, Int.toNat_ofNat, Nat.reduceMul, Nat.zero_mul, Nat.zero_add] at hy11_ hz11_)); (try (try rw [show ((0 : Int)).toNat = 0 from rfl] at hy11_)); (try (try rw [show ((0 : Int)).toNat = 0 from rfl] at hz11_)); (try (have HP11 := Kd.R_putg HO154.out (0 : Int) true)))); refine store_event (t := 4) (p := 16) (v := ?vo_w12) (w1 := (w9.setCell ⟨go5, (0 : Int).toNat, none⟩ (.bool true))) ?hg ?ho ?hn ?hr ?_; (case ho => rfl); (case hg => rfl); (case hn => rfl); (case hr => first | (go_simp; done) | (go_simp; rfl)); intro w12 hw; have hg : w9.grownBy w12 (some go5) := (by rw [hw]; exact HP11.2); have hp_ : Kd.R Kd.bool 4 w12 w.heap.size (fun _ => True) (.slice (some ⟨go5, 0, none⟩) y152.length co5) y155 := (by rw [hw, Ny155.out]; exact HP11.1); clear HP11; have n0_ := aM71_ (Kd.R_over' (v := (.slice (some ⟨go5, 0, none⟩) y152.length co5)) q71x6_ (Kd.R_typed HO154.out) (by decide) hg); have n1_ := aM71_ (hp_); have n2_ := aM71_ ((q71x5_ : Below w.heap.size w w12)); clear HO151; clear HO154; clear HB; have HO151 := n0_; have HO154 := n1_; have HB := n2_; clear n0_ n1_ n2_; clear hg hw hp_)))
 go_loopg [3, 5] k (fun kq v3 v5 w' => ∃ (x3_1 : List Int) (x4_1 : List Bool) (x5_1 : Int), v5 = .int .i64 x5_1 ∧ Aside0 (spec_l06Reached.l0 kq x3_1 x4_1 x5_1 l0_0 = some r) ∧ Aside0 (kq ≤ k) ∧ Aside0 (Kd.R (Kd.int .i16) 74 w' w.heap.size (fun _ => True) v3 x3_1) ∧ Aside0 (Kd.R Kd.bool 4 w' w.heap.size (fun _ => True) (.slice (some ⟨go5, 0, none⟩) y152.length co5) x4_1) ∧ Aside0 (Below w.heap.size w w'))
 case atStart => exact ⟨(y149), (y155), (0), q71x7_, H', ⟨Nat.le_refl _⟩, ⟨by (with_reducible repeat (first | apply Kd.R_alloc | apply Kd.R_drewN | apply Kd.R_drew)); exact HO151.out⟩, ⟨by (with_reducible repeat (first | apply Kd.R_alloc | apply Kd.R_drewN | apply Kd.R_drew)); exact HO154.out⟩, ⟨by repeat (first | (with_reducible first | exact HB.out | apply below_alloc | apply pw_below_drewN | apply below_drew1) | exact HB.out)⟩⟩
 case round =>
  clear H'
  try clear c2
  try clear c2b0
  try clear c2b1
  try clear p2
  try clear c3
  try clear c3b0
  try clear c3b1
  try clear c4
  try clear c4b0
  try clear c4b1
  try clear p5
  try clear q5
  try clear hx5
  try clear qi5
  try clear hf5
  try clear c7
  try clear hx5_0
  try clear p5
  try clear q5
  obtain ⟨x3_1, x4_1, x5_1, rfl, HA, HK1, HO_3, HO_4, HB⟩ := hrel
  have hl4_1 := (Kd.R_reads' HO_4.out).1
  rw [hl4_1] at HO_4
  (try simp only [hl4_1])
  (try simp only [hl4_1] at HO_3)
  cases gk with
  | zero => exact absurd HA.out (by simp [spec_l06Reached.l0])
  | succ k1 =>
   have H := HA.out
   clear HA
   simp only [spec_l06Reached.l0] at H
   by_cases c13 : x5_1 < (x3_1.length : Int)
   rotate_left
   ·rw [if_neg c13] at H
    have c13b0 : decide (x5_1 < (x3_1.length : Int)) = false := decide_eq_false c13
    (try (have c13b0hl4_1 := c13b0; rw [hl4_1] at c13b0hl4_1))
    clear c13
    obtain rfl := Option.some.inj H
    obtain ⟨Ao64, co64, eo64⟩ := Kd.R_slice HO_3.out
    subst eo64
    go_wp2
    repeat (go_quiet (fail); try go_wp2)
    go_ret
    exact ⟨_, by first | rfl | (simp [errW_none, errW_some] <;> rfl) | (simp [*, errW_none, errW_some] <;> rfl), by (with_reducible repeat (first | apply Kd.R_alloc | apply Kd.R_drewN | apply Kd.R_drew)); exact HO_3.out, by repeat (first | (with_reducible first | exact HB.out | apply below_alloc | apply pw_below_drewN | apply below_drew1) | exact HB.out)⟩
   rw [if_pos c13] at H
   have c13b0 : decide (x5_1 < (x3_1.length : Int)) = true := decide_eq_true c13
   (try (have c13b0hl4_1 := c13b0; rw [hl4_1] at c13b0hl4_1))
   clear c13
   by_cases c14 : 0 ≤ x5_1
   rotate_left
   ·rw [if_neg c14] at H
    exact absurd H (by simp)
   rw [if_pos c14] at H
   have c14b0 : decide (0 ≤ x5_1) = true := decide_eq_true c14
   clear c14
   by_cases c15 : 0 ≤ (rd x3_1 x5_1)
   rotate_left
   ·rw [if_neg c15] at H
    exact absurd H (by simp)
   rw [if_pos c15] at H
   have c15b0 : decide (0 ≤ (rd x3_1 x5_1)) = true := decide_eq_true c15
   clear c15
   by_cases c16 : (rd x3_1 x5_1) < (l0_0.length : Int)
   rotate_left
   ·rw [if_neg c16] at H
    exact absurd H (by simp)
   rw [if_pos c16] at H
   have c16b0 : decide ((rd x3_1 x5_1) < (l0_0.length : Int)) = true := decide_eq_true c16
   (try (have c16b0hl4_1 := c16b0; rw [hl4_1] at c16b0hl4_1))
   clear c16
   have H' := aM71_ H
   clear H
   obtain ⟨Ao17, co17, eo17⟩ := Kd.R_slice HO_3.out
   subst eo17
   have hxr18_0 := HQ0_.out
   replace hxr18_0 := ((show Below w.heap.size w wr from by repeat (first | (with_reducible first | exact HB.out | apply below_alloc | apply pw_below_drewN | apply below_drew1) | exact HB.out)).cell (World.block_lt_of_cell? w _ hxr18_0)).trans hxr18_0
   have p156 : 0 ≤ (x5_1 : Int) := of_decide_eq_true q71x2_
   have q156 : x5_1 < (x3_1.length : Int) := of_decide_eq_true q71x2_
   obtain ⟨ad156, e156, hx156_0⟩ := Kd.at_int (Kd.R_reads' HO_3.out).2.2 x5_1 p156 q156
   cases e156
   replace p156 := eq_true p156
   replace q156 := eq_true q156
   have p157 : 0 ≤ ((rd x3_1 x5_1) : Int) := of_decide_eq_true q71x2_
   have q157 : (rd x3_1 x5_1) < (l0_0.length : Int) := of_decide_eq_true q71x2_
   obtain ⟨ad157, e157, hx157_0, hx157_1, hx157_2, hx157_3, hx157_4⟩ := at_T77 HR0_0.out (rd x3_1 x5_1) p157 q157
   cases e157
   replace hx157_0 := (HB.out.cell (World.block_lt_of_cell? w _ hx157_0)).trans hx157_0
   replace hx157_1 := (HB.out.cell (World.block_lt_of_cell? w _ hx157_1)).trans hx157_1
   replace hx157_2 := (HB.out.cell (World.block_lt_of_cell? w _ hx157_2)).trans hx157_2
   replace hx157_3 := (HB.out.cell (World.block_lt_of_cell? w _ hx157_3)).trans hx157_3
   replace hx157_4 := (HB.out.cell (World.block_lt_of_cell? w _ hx157_4)).trans hx157_4
   replace p157 := eq_true p157
   replace q157 := eq_true q157
   go_wp2
   repeat (go_quiet (fail); try go_wp2)
   go_loopg [3, 7] k1 (fun kq v3 v7 w' => ∃ (x3_2 : List Int) (x4_2 : List Bool) (x7_2 : Int), v7 = .int .i64 x7_2 ∧ Aside0 (spec_l06Reached.l1 kq x3_2 x4_2 x5_1 x7_2 (rd x3_1 x5_1) l0_0 = some r) ∧ Aside0 (kq ≤ k1) ∧ Aside0 (Kd.R (Kd.int .i16) 74 w' w.heap.size (fun _ => True) v3 x3_2) ∧ Aside0 (Kd.R Kd.bool 4 w' w.heap.size (fun _ => True) (.slice (some ⟨go5, 0, none⟩) x4_1.length co5) x4_2) ∧ Aside0 (Below w.heap.size w w'))
   case atStart => exact ⟨(x3_1), (x4_1), (0), q71x7_, H', ⟨Nat.le_refl _⟩, ⟨by (try simp only [hl4_1]); (with_reducible repeat (first | apply Kd.R_alloc | apply Kd.R_drewN | apply Kd.R_drew)); exact HO_3.out⟩, ⟨by (try simp only [hl4_1]); (with_reducible repeat (first | apply Kd.R_alloc | apply Kd.R_drewN | apply Kd.R_drew)); exact HO_4.out⟩, ⟨by repeat (first | (with_reducible first | exact HB.out | apply below_alloc | apply pw_below_drewN | apply below_drew1) | exact HB.out)⟩⟩
   case round =>
    clear H'
    try clear c1
    try clear p1
    try clear q1
    try clear hx1
    try clear c2
    try clear c2b0
    try clear c2b1
    try clear p2
    try clear c3
    try clear c3b0
    try clear c3b1
    try clear c4
    try clear c4b0
    try clear c4b1
    try clear p5
    try clear q5
    try clear hx5
    try clear qi5
    try clear hf5
    try clear c7
    try clear c13
    try clear c13b0
    try clear c14
    try clear c14b0
    try clear c15
    try clear c15b0
    try clear p15
    try clear q15
    try clear hx15
    try clear c16
    try clear c16b0
    try clear hx156_0
    try clear hx157_0
    try clear hx157_1
    try clear hx157_2
    try clear hx157_3
    try clear hx157_4
    try clear hx5_0
    try clear p156
    try clear p157
    try clear p2
    try clear p5
    try clear q156
    try clear q157
    try clear q5
    obtain ⟨x3_2, x4_2, x7_2, rfl, HA, HK2, HO_3, HO_4, HB⟩ := hrel
    have hl4_2 := (Kd.R_reads' HO_4.out).1
    rw [hl4_2] at HO_4
    (try simp only [hl4_2])
    (try simp only [hl4_2] at HO_3)
    cases gk with
    | zero => exact absurd HA.out (by simp [spec_l06Reached.l1])
    | succ k2 =>
     have H := HA.out
     clear HA
     simp only [spec_l06Reached.l1] at H
     by_cases c19 : 0 ≤ (rd x3_1 x5_1)
     rotate_left
     ·rw [if_neg c19] at H
      exact absurd H (by simp)
     rw [if_pos c19] at H
     have c19b0 : decide (0 ≤ (rd x3_1 x5_1)) = true := decide_eq_true c19
     clear c19
     by_cases c20 : (rd x3_1 x5_1) < (l0_0.length : Int)
     rotate_left
     ·rw [if_neg c20] at H
      exact absurd H (by simp)
     rw [if_pos c20] at H
     have c20b0 : decide ((rd x3_1 x5_1) < (l0_0.length : Int)) = true := decide_eq_true c20
     (try (have c20b0hl4_1 := c20b0; rw [hl4_1] at c20b0hl4_1))
     (try (have c20b0hl4_2 := c20b0; rw [hl4_2] at c20b0hl4_2))
     clear c20
     by_cases c21 : ((rd_T77 l0_0 (rd x3_1 x5_1)).f0) = 1
     rotate_left
     ·rw [if_neg c21] at H
      have c21b0 : (((rd_T77 l0_0 (rd x3_1 x5_1)).f0) == 1) = false := beq_eq_false_iff_ne.mpr c21
      have c21b1 : (((rd_T77 l0_0 (rd x3_1 x5_1)).f0) != 1) = true := bne_iff_ne.mpr c21
      by_cases c53 : x7_2 < 1
      rotate_left
      ·rw [if_neg c53] at H
       have c53b0 : decide (x7_2 < 1) = false := decide_eq_false c53
       clear c53
       have H' := aM71_ H
       clear H
       have p158 : 0 ≤ ((rd x3_1 x5_1) : Int) := of_decide_eq_true q71x2_
       have q158 : (rd x3_1 x5_1) < (l0_0.length : Int) := of_decide_eq_true q71x2_
       obtain ⟨ad158, e158, hx158_0, hx158_1, hx158_2, hx158_3, hx158_4⟩ := at_T77 HR0_0.out (rd x3_1 x5_1) p158 q158
       obtain rfl : ad157 = ad158 := (by injection e158)
       replace hx158_0 := (HB.out.cell (World.block_lt_of_cell? w _ hx158_0)).trans hx158_0
       replace hx158_1 := (HB.out.cell (World.block_lt_of_cell? w _ hx158_1)).trans hx158_1
       replace hx158_2 := (HB.out.cell (World.block_lt_of_cell? w _ hx158_2)).trans hx158_2
       replace hx158_3 := (HB.out.cell (World.block_lt_of_cell? w _ hx158_3)).trans hx158_3
       replace hx158_4 := (HB.out.cell (World.block_lt_of_cell? w _ hx158_4)).trans hx158_4
       replace p158 := eq_true p158
       replace q158 := eq_true q158
       go_wp2_with (first | ((go_at_call 106; go_in)))
       repeat (go_quiet (first | ((go_at_call 106; go_in))); try go_wp2_with (first | ((go_at_call 106; go_in))))
       (try simp only [← hl4_1, ← hl4_2])
       go_roundg k2
       case measure => have := HK1.out; have := HK2.out; omega
       case rel => exact ⟨(x3_2), (x4_2), (wrap64 (x5_1 + 1)), q71x7_, H', ⟨by have := HK1.out; have := HK2.out; omega⟩, ⟨by (try simp only [hl4_1]); (try simp only [hl4_2]); (with_reducible repeat (first | apply Kd.R_alloc | apply Kd.R_drewN | apply Kd.R_drew)); exact HO_3.out⟩, ⟨by (try simp only [hl4_1]); (try simp only [hl4_2]); (with_reducible repeat (first | apply Kd.R_alloc | apply Kd.R_drewN | apply Kd.R_drew)); exact HO_4.out⟩, ⟨by repeat (first | (with_reducible first | exact HB.out | apply below_alloc | apply pw_below_drewN | apply below_drew1) | exact HB.out)⟩⟩
      rw [if_pos c53] at H
      have c53b0 : decide (x7_2 < 1) = true := decide_eq_true c53
      clear c53
      by_cases c54 : x7_2 = 0
      rotate_left
      ·rw [if_neg c54] at H
       exact absurd H (by simp)
      subst c54
      have H1 : (if 0 ≤ ((rd_T77 l0_0 (rd x3_1 x5_1)).f2.f0) then (if ((rd_T77 l0_0 (rd x3_1 x5_1)).f2.f0) < (x4_2.length : Int) then (if (rdOf false x4_2 ((rd_T77 l0_0 (rd x3_1 x5_1)).f2.f0) = true) then (spec_l06Reached.l1 k2 x3_2 x4_2 x5_1 (0 + 1) (rd x3_1 x5_1) l0_0) else (if x3_2.length < 70368744177664 then (spec_l06Reached.l1 k2 (x3_2 ++ [(rd_T77 l0_0 (rd x3_1 x5_1)).f2.f0]) (x4_2.set (((rd_T77 l0_0 (rd x3_1 x5_1)).f2.f0) : Int).toNat true) x5_1 (0 + 1) (rd x3_1 x5_1) l0_0) else (none))) else (none)) else (none)) = some r := by rw [if_pos rfl] at H; exact H
      clear H
      have H := H1
      clear H1
      by_cases c55 : 0 ≤ ((rd_T77 l0_0 (rd x3_1 x5_1)).f2.f0)
      rotate_left
      ·rw [if_neg c55] at H
       exact absurd H (by simp)
      rw [if_pos c55] at H
      have c55b0 : decide (0 ≤ ((rd_T77 l0_0 (rd x3_1 x5_1)).f2.f0)) = true := decide_eq_true c55
      clear c55
      by_cases c56 : ((rd_T77 l0_0 (rd x3_1 x5_1)).f2.f0) < (x4_2.length : Int)
      rotate_left
      ·rw [if_neg c56] at H
       exact absurd H (by simp)
      rw [if_pos c56] at H
      have c56b0 : decide (((rd_T77 l0_0 (rd x3_1 x5_1)).f2.f0) < (x4_2.length : Int)) = true := decide_eq_true c56
      (try (have c56b0hl4_1 := c56b0; rw [hl4_1] at c56b0hl4_1))
      (try (have c56b0hl4_2 := c56b0; rw [hl4_2] at c56b0hl4_2))
      clear c56
      obtain ⟨bq57, hbq57⟩ : ∃ b_ : Bool, b_ = (rdOf false x4_2 ((rd_T77 l0_0 (rd x3_1 x5_1)).f2.f0)) := ⟨_, rfl⟩
      replace H : (if (bq57 = true) then (spec_l06Reached.l1 k2 x3_2 x4_2 x5_1 (0 + 1) (rd x3_1 x5_1) l0_0) else (if x3_2.length < 70368744177664 then (spec_l06Reached.l1 k2 (x3_2 ++ [(rd_T77 l0_0 (rd x3_1 x5_1)).f2.f0]) (x4_2.set (((rd_T77 l0_0 (rd x3_1 x5_1)).f2.f0) : Int).toNat true) x5_1 (0 + 1) (rd x3_1 x5_1) l0_0) else (none))) = some r := by rw [← hbq57] at H; exact H
      have Nbq57 := aM71_ hbq57
      clear hbq57
      by_cases c58 : (bq57 = true)
      ·subst c58
       have H1 : (spec_l06Reached.l1 k2 x3_2 x4_2 x5_1 (0 + 1) (rd x3_1 x5_1) l0_0) = some r := by rw [if_pos rfl] at H; exact H
       clear H
       have H := H1
       clear H1
       have H' := aM71_ H
       clear H
       have p158 : 0 ≤ ((rd x3_1 x5_1) : Int) := of_decide_eq_true q71x2_
       have q158 : (rd x3_1 x5_1) < (l0_0.length : Int) := of_decide_eq_true q71x2_
       obtain ⟨ad158, e158, hx158_0, hx158_1, hx158_2, hx158_3, hx158_4⟩ := at_T77 HR0_0.out (rd x3_1 x5_1) p158 q158
       obtain rfl : ad157 = ad158 := (by injection e158)
       replace hx158_0 := (HB.out.cell (World.block_lt_of_cell? w _ hx158_0)).trans hx158_0
       replace hx158_1 := (HB.out.cell (World.block_lt_of_cell? w _ hx158_1)).trans hx158_1
       replace hx158_2 := (HB.out.cell (World.block_lt_of_cell? w _ hx158_2)).trans hx158_2
       replace hx158_3 := (HB.out.cell (World.block_lt_of_cell? w _ hx158_3)).trans hx158_3
       replace hx158_4 := (HB.out.cell (World.block_lt_of_cell? w _ hx158_4)).trans hx158_4
       replace p158 := eq_true p158
       replace q158 := eq_true q158
       have p177 : 0 ≤ (((rd_T77 l0_0 (rd x3_1 x5_1)).f2.f0) : Int) := of_decide_eq_true q71x2_
       have q177 : ((rd_T77 l0_0 (rd x3_1 x5_1)).f2.f0) < (x4_2.length : Int) := of_decide_eq_true q71x2_
       obtain ⟨ad177, e177, hx177_0⟩ := Kd.at_bool (Kd.R_reads' HO_4.out).2.2 ((rd_T77 l0_0 (rd x3_1 x5_1)).f2.f0) p177 q177
       (try rw [← Nbq57.out] at hx177_0)
       obtain rfl : (⟨go5, 0, none⟩ : Addr) = ad177 := (by injection e177)
       (first | simp only [add_plain] at hx177_0 | simp only [add_at] at hx177_0 | simp only [Addr.add, Nat.zero_add] at hx177_0 | skip)
       replace p177 := eq_true p177
       replace q177 := eq_true q177
       go_wp2_with (first | ((go_at_call 106; go_in)))
       repeat (go_quiet (first | ((go_at_call 106; go_in))); try go_wp2_with (first | ((go_at_call 106; go_in))))
       (try simp only [← hl4_2])
       go_roundg k2
       case measure => have := HK1.out; have := HK2.out; omega
       case rel => exact ⟨(x3_2), (x4_2), (0 + 1), q71x7_, H', ⟨by have := HK1.out; have := HK2.out; omega⟩, ⟨by (try simp only [hl4_1]); (try simp only [hl4_2]); (with_reducible repeat (first | apply Kd.R_alloc | apply Kd.R_drewN | apply Kd.R_drew)); exact HO_3.out⟩, ⟨by (try simp only [hl4_1]); (try simp only [hl4_2]); (with_reducible repeat (first | apply Kd.R_alloc | apply Kd.R_drewN | apply Kd.R_drew)); exact HO_4.out⟩, ⟨by repeat (first | (with_reducible first | exact HB.out | apply below_alloc | apply pw_below_drewN | apply below_drew1) | exact HB.out)⟩⟩
      replace c58 := Bool.eq_false_iff.mpr c58
      subst c58
      have H1 : (if x3_2.length < 70368744177664 then (spec_l06Reached.l1 k2 (x3_2 ++ [(rd_T77 l0_0 (rd x3_1 x5_1)).f2.f0]) (x4_2.set (((rd_T77 l0_0 (rd x3_1 x5_1)).f2.f0) : Int).toNat true) x5_1 (0 + 1) (rd x3_1 x5_1) l0_0) else (none)) = some r := by rw [if_neg (show ¬ (false = true) by decide)] at H; exact H
      clear H
      have H := H1
      clear H1
      obtain ⟨y178, hy178⟩ : ∃ y_ : List Bool, y_ = (x4_2.set (((rd_T77 l0_0 (rd x3_1 x5_1)).f2.f0) : Int).toNat true) := ⟨_, rfl⟩
      replace H : (if x3_2.length < 70368744177664 then (spec_l06Reached.l1 k2 (x3_2 ++ [(rd_T77 l0_0 (rd x3_1 x5_1)).f2.f0]) y178 x5_1 (0 + 1) (rd x3_1 x5_1) l0_0) else (none)) = some r := by first | (rw [hy178]; with_reducible exact H) | (have H2_ := (Option.bind_some _ _).symm.trans H; rw [hy178]; with_reducible exact H2_) | (have H2_ := (Option.bind_some _ _).symm.trans H; with_reducible exact H2_) | with_reducible exact H | (rw [hy178]; exact H) | exact H
      have Ny178 := aM71_ hy178
      clear hy178
      by_cases c60 : x3_2.length < 70368744177664
      rotate_left
      ·rw [if_neg c60] at H
       exact absurd H (by simp)
      rw [if_pos c60] at H
      have LMc60 := aM71_ c60
      clear c60
      obtain ⟨y180, hy180⟩ : ∃ y_ : List Int, y_ = (x3_2 ++ [(rd_T77 l0_0 (rd x3_1 x5_1)).f2.f0]) := ⟨_, rfl⟩
      replace H : (spec_l06Reached.l1 k2 y180 y178 x5_1 (0 + 1) (rd x3_1 x5_1) l0_0) = some r := by first | (rw [hy180]; with_reducible exact H) | (have H2_ := (Option.bind_some _ _).symm.trans H; rw [hy180]; with_reducible exact H2_) | (have H2_ := (Option.bind_some _ _).symm.trans H; with_reducible exact H2_) | with_reducible exact H | (rw [hy180]; exact H) | exact H
      have Ny180 := aM71_ hy180
      clear hy180
      have H' := aM71_ H
      clear H
      have p158 : 0 ≤ ((rd x3_1 x5_1) : Int) := of_decide_eq_true q71x2_
      have q158 : (rd x3_1 x5_1) < (l0_0.length : Int) := of_decide_eq_true q71x2_
      obtain ⟨ad158, e158, hx158_0, hx158_1, hx158_2, hx158_3, hx158_4⟩ := at_T77 HR0_0.out (rd x3_1 x5_1) p158 q158
      obtain rfl : ad157 = ad158 := (by injection e158)
      replace hx158_0 := (HB.out.cell (World.block_lt_of_cell? w _ hx158_0)).trans hx158_0
      replace hx158_1 := (HB.out.cell (World.block_lt_of_cell? w _ hx158_1)).trans hx158_1
      replace hx158_2 := (HB.out.cell (World.block_lt_of_cell? w _ hx158_2)).trans hx158_2
      replace hx158_3 := (HB.out.cell (World.block_lt_of_cell? w _ hx158_3)).trans hx158_3
      replace hx158_4 := (HB.out.cell (World.block_lt_of_cell? w _ hx158_4)).trans hx158_4
      replace p158 := eq_true p158
      replace q158 := eq_true q158
      have p177 : 0 ≤ (((rd_T77 l0_0 (rd x3_1 x5_1)).f2.f0) : Int) := of_decide_eq_true q71x2_
      have q177 : ((rd_T77 l0_0 (rd x3_1 x5_1)).f2.f0) < (x4_2.length : Int) := of_decide_eq_true q71x2_
      obtain ⟨ad177, e177, hx177_0⟩ := Kd.at_bool (Kd.R_reads' HO_4.out).2.2 ((rd_T77 l0_0 (rd x3_1 x5_1)).f2.f0) p177 q177
      (try rw [← Nbq57.out] at hx177_0)
      obtain rfl : (⟨go5, 0, none⟩ : Addr) = ad177 := (by injection e177)
      (first | simp only [add_plain] at hx177_0 | simp only [add_at] at hx177_0 | simp only [Addr.add, Nat.zero_add] at hx177_0 | skip)
      replace p177 := eq_true p177
      replace q177 := eq_true q177
      have p59 : 0 ≤ (((rd_T77 l0_0 (rd x3_1 x5_1)).f2.f0) : Int) := of_decide_eq_true q71x2_
      have q59 : (((rd_T77 l0_0 (rd x3_1 x5_1)).f2.f0) : Int) < ((x4_2.length : Int) : Int) := of_decide_eq_true q71x2_
      obtain ⟨hx59_0, hf59_0⟩ := Kd.R_celln false HO_4.out (((rd_T77 l0_0 (rd x3_1 x5_1)).f2.f0) : Int) p59 q59
      replace p59 := eq_true p59
      replace q59 := eq_true q59
      have HP61 := Kd.R_putg HO_4.out (((rd_T77 l0_0 (rd x3_1 x5_1)).f2.f0) : Int) true
      go_wp2_with (first | ((go_at_call 106; go_in)) | ((with_reducible refine gate_store (t := 4) (p := 55) rfl ?_); (try (rw [drewN_self wr]; generalize hq_ : World.drewN wr _ = wr; have n0_ := aM71_ (Kd.R_at hq_ HO_3.out); have n1_ := aM71_ (Kd.R_at hq_ HO_4.out); have n2_ := aM71_ (below_at hq_ HB.out); clear hq_ HO_3 HO_4 HB; have HO_3 := n0_; have HO_4 := n1_; have HB := n2_; clear n0_ n1_ n2_; (try (have HP61 := Kd.R_putg HO_4.out (((rd_T77 l0_0 (rd x3_1 x5_1)).f2.f0) : Int) true)))); refine store_event (t := 4) (p := 55) (v := ?vo_w62) (w1 := (wr.setCell ⟨go5, (((rd_T77 l0_0 (rd x3_1 x5_1)).f2.f0) : Int).toNat, none⟩ (.bool true))) ?hg ?ho ?hn ?hr ?_; (case ho => rfl); (case hg => rfl); (case hn => rfl); (case hr => first | (go_simp; done) | (go_simp; rfl)); intro w62 hw; have hg : wr.grownBy w62 (some go5) := (by rw [hw]; exact HP61.2); have hp_ : Kd.R Kd.bool 4 w62 w.heap.size (fun _ => True) (.slice (some ⟨go5, 0, none⟩) x4_2.length co5) y178 := (by rw [hw, Ny178.out]; exact HP61.1); clear HP61; have n0_ := aM71_ (Kd.R_over' (v := (.slice (some ⟨go5, 0, none⟩) x4_2.length co5)) q71x3_ (Kd.R_typed HO_4.out) (by decide) hg); have n1_ := aM71_ (hp_); have n2_ := aM71_ ((q71x5_ : Below w.heap.size w w62)); clear HO_3; clear HO_4; clear HB; have HO_3 := n0_; have HO_4 := n1_; have HB := n2_; clear n0_ n1_ n2_; clear hg hw hp_; have p179 : 0 ≤ ((rd x3_1 x5_1) : Int) := of_decide_eq_true q71x2_; have q179 : (rd x3_1 x5_1) < (l0_0.length : Int) := of_decide_eq_true q71x2_; obtain ⟨ad179, e179, hx179_0, hx179_1, hx179_2, hx179_3, hx179_4⟩ := at_T77 HR0_0.out (rd x3_1 x5_1) p179 q179; obtain rfl : ad157 = ad179 := (by injection e179); replace hx179_0 := (HB.out.cell (World.block_lt_of_cell? w _ hx179_0)).trans hx179_0; replace hx179_1 := (HB.out.cell (World.block_lt_of_cell? w _ hx179_1)).trans hx179_1; replace hx179_2 := (HB.out.cell (World.block_lt_of_cell? w _ hx179_2)).trans hx179_2; replace hx179_3 := (HB.out.cell (World.block_lt_of_cell? w _ hx179_3)).trans hx179_3; replace hx179_4 := (HB.out.cell (World.block_lt_of_cell? w _ hx179_4)).trans hx179_4; replace p179 := eq_true p179; replace q179 := eq_true q179) | ((with_reducible refine gate_builtin (b := .append) (xs := #[.tmp 56, .tmp 63]) rfl ?_); at_builtin; refine Kd.R_append (Kd.int .i16) (w0 := w) w.heap.size rfl (.tmp 56) (.tmp 63) 93 74 (.int .i16 0) 2 rfl Try.underlying93 info74 rfl (by decide) (by omega) u3 x3_2 ((rd_T77 l0_0 (rd x3_1 x5_1)).f2.f0) [.int .i16 ((rd_T77 l0_0 (rd x3_1 x5_1)).f2.f0)] (fun _ => True) (fun _ => False) rfl rfl ?aP (fun _ hk => hk.elim) ?aF ?aO ?aB ?aS ?aL ?_; (case aP => exact rfl); (case aB => exact q71x1_); (case aF => exact (fun _ _ => trivial)); (case aO => exact q71x3_); (case aS => exact (below_size q71x1_)); (case aL => have := LMc60.out; omega); intro v181 w63 ho hb hg hat; rw [← Ny180.out] at ho; have n0_ := aM71_ (Kd.R_over' q71x4_ (Kd.R_typed q71x3_) (by decide) hg); have n1_ := aM71_ (hb); have n2_ := aM71_ (ho); clear HO_4; clear HB; clear HO_3; have HO_4 := n0_; have HB := n1_; have HO182 := n2_; clear n0_ n1_ n2_; clear ho hb hg hat))
      repeat (go_quiet (first | ((go_at_call 106; go_in)) | ((with_reducible refine gate_store (t := 4) (p := 55) rfl ?_); (try (rw [drewN_self wr]; generalize hq_ : World.drewN wr _ = wr; have n0_ := aM71_ (Kd.R_at hq_ HO_3.out); have n1_ := aM71_ (Kd.R_at hq_ HO_4.out); have n2_ := aM71_ (below_at hq_ HB.out); clear hq_ HO_3 HO_4 HB; have HO_3 := n0_; have HO_4 := n1_; have HB := n2_; clear n0_ n1_ n2_; (try (have HP61 := Kd.R_putg HO_4.out (((rd_T77 l0_0 (rd x3_1 x5_1)).f2.f0) : Int) true)))); refine store_event (t := 4) (p := 55) (v := ?vo_w62) (w1 := (wr.setCell ⟨go5, (((rd_T77 l0_0 (rd x3_1 x5_1)).f2.f0) : Int).toNat, none⟩ (.bool true))) ?hg ?ho ?hn ?hr ?_; (case ho => rfl); (case hg => rfl); (case hn => rfl); (case hr => first | (go_simp; done) | (go_simp; rfl)); intro w62 hw; have hg : wr.grownBy w62 (some go5) := (by rw [hw]; exact HP61.2); have hp_ : Kd.R Kd.bool 4 w62 w.heap.size (fun _ => True) (.slice (some ⟨go5, 0, none⟩) x4_2.length co5) y178 := (by rw [hw, Ny178.out]; exact HP61.1); clear HP61; have n0_ := aM71_ (Kd.R_over' (v := (.slice (some ⟨go5, 0, none⟩) x4_2.length co5)) q71x3_ (Kd.R_typed HO_4.out) (by decide) hg); have n1_ := aM71_ (hp_); have n2_ := aM71_ ((q71x5_ : Below w.heap.size w w62)); clear HO_3; clear HO_4; clear HB; have HO_3 := n0_; have HO_4 := n1_; have HB := n2_; clear n0_ n1_ n2_; clear hg hw hp_; have p179 : 0 ≤ ((rd x3_1 x5_1) : Int) := of_decide_eq_true q71x2_; have q179 : (rd x3_1 x5_1) < (l0_0.length : Int) := of_decide_eq_true q71x2_; obtain ⟨ad179, e179, hx179_0, hx179_1, hx179_2, hx179_3, hx179_4⟩ := at_T77 HR0_0.out (rd x3_1 x5_1) p179 q179; obtain rfl : ad157 = ad179 := (by injection e179); replace hx179_0 := (HB.out.cell (World.block_lt_of_cell? w _ hx179_0)).trans hx179_0; replace hx179_1 := (HB.out.cell (World.block_lt_of_cell? w _ hx179_1)).trans hx179_1; replace hx179_2 := (HB.out.cell (World.block_lt_of_cell? w _ hx179_2)).trans hx179_2; replace hx179_3 := (HB.out.cell (World.block_lt_of_cell? w _ hx179_3)).trans hx179_3; replace hx179_4 := (HB.out.cell (World.block_lt_of_cell? w _ hx179_4)).trans hx179_4; replace p179 := eq_true p179; replace q179 := eq_true q179) | ((with_reducible refine gate_builtin (b := .append) (xs := #[.tmp 56, .tmp 63]) rfl ?_); at_builtin; refine Kd.R_append (Kd.int .i16) (w0 := w) w.heap.size rfl (.tmp 56) (.tmp 63) 93 74 (.int .i16 0) 2 rfl Try.underlying93 info74 rfl (by decide) (by omega) u3 x3_2 ((rd_T77 l0_0 (rd x3_1 x5_1)).f2.f0) [.int .i16 ((rd_T77 l0_0 (rd x3_1 x5_1)).f2.f0)] (fun _ => True) (fun _ => False) rfl rfl ?aP (fun _ hk => hk.elim) ?aF ?aO ?aB ?aS ?aL ?_; (case aP => exact rfl); (case aB => exact q71x1_); (case aF => exact (fun _ _ => trivial)); (case aO => exact q71x3_); (case aS => exact (below_size q71x1_)); (case aL => have := LMc60.out; omega); intro v181 w63 ho hb hg hat; rw [← Ny180.out] at ho; have n0_ := aM71_ (Kd.R_over' q71x4_ (Kd.R_typed q71x3_) (by decide) hg); have n1_ := aM71_ (hb); have n2_ := aM71_ (ho); clear HO_4; clear HB; clear HO_3; have HO_4 := n0_; have HB := n1_; have HO182 := n2_; clear n0_ n1_ n2_; clear ho hb hg hat)); try go_wp2_with (first | ((go_at_call 106; go_in)) | ((with_reducible refine gate_store (t := 4) (p := 55) rfl ?_); (try (rw [drewN_self wr]; generalize hq_ : World.drewN wr _ = wr; have n0_ := aM71_ (Kd.R_at hq_ HO_3.out); have n1_ := aM71_ (Kd.R_at hq_ HO_4.out); have n2_ := aM71_ (below_at hq_ HB.out); clear hq_ HO_3 HO_4 HB; have HO_3 := n0_; have HO_4 := n1_; have HB := n2_; clear n0_ n1_ n2_; (try (have HP61 := Kd.R_putg HO_4.out (((rd_T77 l0_0 (rd x3_1 x5_1)).f2.f0) : Int) true)))); refine store_event (t := 4) (p := 55) (v := ?vo_w62) (w1 := (wr.setCell ⟨go5, (((rd_T77 l0_0 (rd x3_1 x5_1)).f2.f0) : Int).toNat, none⟩ (.bool true))) ?hg ?ho ?hn ?hr ?_; (case ho => rfl); (case hg => rfl); (case hn => rfl); (case hr => first | (go_simp; done) | (go_simp; rfl)); intro w62 hw; have hg : wr.grownBy w62 (some go5) := (by rw [hw]; exact HP61.2); have hp_ : Kd.R Kd.bool 4 w62 w.heap.size (fun _ => True) (.slice (some ⟨go5, 0, none⟩) x4_2.length co5) y178 := (by rw [hw, Ny178.out]; exact HP61.1); clear HP61; have n0_ := aM71_ (Kd.R_over' (v := (.slice (some ⟨go5, 0, none⟩) x4_2.length co5)) q71x3_ (Kd.R_typed HO_4.out) (by decide) hg); have n1_ := aM71_ (hp_); have n2_ := aM71_ ((q71x5_ : Below w.heap.size w w62)); clear HO_3; clear HO_4; clear HB; have HO_3 := n0_; have HO_4 := n1_; have HB := n2_; clear n0_ n1_ n2_; clear hg hw hp_; have p179 : 0 ≤ ((rd x3_1 x5_1) : Int) := of_decide_eq_true q71x2_; have q179 : (rd x3_1 x5_1) < (l0_0.length : Int) := of_decide_eq_true q71x2_; obtain ⟨ad179, e179, hx179_0, hx179_1, hx179_2, hx179_3, hx179_4⟩ := at_T77 HR0_0.out (rd x3_1 x5_1) p179 q179; obtain rfl : ad157 = ad179 := (by injection e179); replace hx179_0 := (HB.out.cell (World.block_lt_of_cell? w _ hx179_0)).trans hx179_0; replace hx179_1 := (HB.out.cell (World.block_lt_of_cell? w _ hx179_1)).trans hx179_1; replace hx179_2 := (HB.out.cell (World.block_lt_of_cell? w _ hx179_2)).trans hx179_2; replace hx179_3 := (HB.out.cell (World.block_lt_of_cell? w _ hx179_3)).trans hx179_3; replace hx179_4 := (HB.out.cell (World.block_lt_of_cell? w _ hx179_4)).trans hx179_4; replace p179 := eq_true p179; replace q179 := eq_true q179) | ((with_reducible refine gate_builtin (b := .append) (xs := #[.tmp 56, .tmp 63]) rfl ?_); at_builtin; refine Kd.R_append (Kd.int .i16) (w0 := w) w.heap.size rfl (.tmp 56) (.tmp 63) 93 74 (.int .i16 0) 2 rfl Try.underlying93 info74 rfl (by decide) (by omega) u3 x3_2 ((rd_T77 l0_0 (rd x3_1 x5_1)).f2.f0) [.int .i16 ((rd_T77 l0_0 (rd x3_1 x5_1)).f2.f0)] (fun _ => True) (fun _ => False) rfl rfl ?aP (fun _ hk => hk.elim) ?aF ?aO ?aB ?aS ?aL ?_; (case aP => exact rfl); (case aB => exact q71x1_); (case aF => exact (fun _ _ => trivial)); (case aO => exact q71x3_); (case aS => exact (below_size q71x1_)); (case aL => have := LMc60.out; omega); intro v181 w63 ho hb hg hat; rw [← Ny180.out] at ho; have n0_ := aM71_ (Kd.R_over' q71x4_ (Kd.R_typed q71x3_) (by decide) hg); have n1_ := aM71_ (hb); have n2_ := aM71_ (ho); clear HO_4; clear HB; clear HO_3; have HO_4 := n0_; have HB := n1_; have HO182 := n2_; clear n0_ n1_ n2_; clear ho hb hg hat)))
      (try simp only [← hl4_2])
      go_roundg k2
      case measure => have := HK1.out; have := HK2.out; omega
      case rel => exact ⟨(y180), (y178), (0 + 1), q71x7_, H', ⟨by have := HK1.out; have := HK2.out; omega⟩, ⟨by (try simp only [hl4_1]); (try simp only [hl4_2]); (with_reducible repeat (first | apply Kd.R_alloc | apply Kd.R_drewN | apply Kd.R_drew)); exact HO182.out⟩, ⟨by (try simp only [hl4_1]); (try simp only [hl4_2]); (with_reducible repeat (first | apply Kd.R_alloc | apply Kd.R_drewN | apply Kd.R_drew)); exact HO_4.out⟩, ⟨by repeat (first | (with_reducible first | exact HB.out | apply below_alloc | apply pw_below_drewN | apply below_drew1) | exact HB.out)⟩⟩
     rw [if_pos c21] at H
     have c21b0 : (((rd_T77 l0_0 (rd x3_1 x5_1)).f0) == 1) = true := beq_iff_eq.mpr c21
     have c21b1 : (((rd_T77 l0_0 (rd x3_1 x5_1)).f0) != 1) = false := bne_eq_false_iff_eq.mpr c21
     clear c21
     by_cases c22 : x7_2 < 3
     rotate_left
     ·rw [if_neg c22] at H
      have c22b0 : decide (x7_2 < 3) = false := decide_eq_false c22
      clear c22
      have H' := aM71_ H
      clear H
      have p158 : 0 ≤ ((rd x3_1 x5_1) : Int) := of_decide_eq_true q71x2_
      have q158 : (rd x3_1 x5_1) < (l0_0.length : Int) := of_decide_eq_true q71x2_
      obtain ⟨ad158, e158, hx158_0, hx158_1, hx158_2, hx158_3, hx158_4⟩ := at_T77 HR0_0.out (rd x3_1 x5_1) p158 q158
      obtain rfl : ad157 = ad158 := (by injection e158)
      replace hx158_0 := (HB.out.cell (World.block_lt_of_cell? w _ hx158_0)).trans hx158_0
      replace hx158_1 := (HB.out.cell (World.block_lt_of_cell? w _ hx158_1)).trans hx158_1
      replace hx158_2 := (HB.out.cell (World.block_lt_of_cell? w _ hx158_2)).trans hx158_2
      replace hx158_3 := (HB.out.cell (World.block_lt_of_cell? w _ hx158_3)).trans hx158_3
      replace hx158_4 := (HB.out.cell (World.block_lt_of_cell? w _ hx158_4)).trans hx158_4
      replace p158 := eq_true p158
      replace q158 := eq_true q158
      go_wp2_with (first | ((go_at_call 106; go_in)))
      repeat (go_quiet (first | ((go_at_call 106; go_in))); try go_wp2_with (first | ((go_at_call 106; go_in))))
      (try simp only [← hl4_1, ← hl4_2])
      go_roundg k2
      case measure => have := HK1.out; have := HK2.out; omega
      case rel => exact ⟨(x3_2), (x4_2), (wrap64 (x5_1 + 1)), q71x7_, H', ⟨by have := HK1.out; have := HK2.out; omega⟩, ⟨by (try simp only [hl4_1]); (try simp only [hl4_2]); (with_reducible repeat (first | apply Kd.R_alloc | apply Kd.R_drewN | apply Kd.R_drew)); exact HO_3.out⟩, ⟨by (try simp only [hl4_1]); (try simp only [hl4_2]); (with_reducible repeat (first | apply Kd.R_alloc | apply Kd.R_drewN | apply Kd.R_drew)); exact HO_4.out⟩, ⟨by repeat (first | (with_reducible first | exact HB.out | apply below_alloc | apply pw_below_drewN | apply below_drew1) | exact HB.out)⟩⟩
     rw [if_pos c22] at H
     have c22b0 : decide (x7_2 < 3) = true := decide_eq_true c22
     clear c22
     by_cases c23 : x7_2 = 0
     ·subst c23
      have H1 : (if 0 ≤ ((rd_T77 l0_0 (rd x3_1 x5_1)).f2.f0) then (if ((rd_T77 l0_0 (rd x3_1 x5_1)).f2.f0) < (x4_2.length : Int) then (if (rdOf false x4_2 ((rd_T77 l0_0 (rd x3_1 x5_1)).f2.f0) = true) then (spec_l06Reached.l1 k2 x3_2 x4_2 x5_1 (0 + 1) (rd x3_1 x5_1) l0_0) else (if x3_2.length < 70368744177664 then (spec_l06Reached.l1 k2 (x3_2 ++ [(rd_T77 l0_0 (rd x3_1 x5_1)).f2.f0]) (x4_2.set (((rd_T77 l0_0 (rd x3_1 x5_1)).f2.f0) : Int).toNat true) x5_1 (0 + 1) (rd x3_1 x5_1) l0_0) else (none))) else (none)) else (none)) = some r := by rw [if_pos rfl] at H; exact H
      clear H
      have H := H1
      clear H1
      by_cases c24 : 0 ≤ ((rd_T77 l0_0 (rd x3_1 x5_1)).f2.f0)
      rotate_left
      ·rw [if_neg c24] at H
       exact absurd H (by simp)
      rw [if_pos c24] at H
      have c24b0 : decide (0 ≤ ((rd_T77 l0_0 (rd x3_1 x5_1)).f2.f0)) = true := decide_eq_true c24
      clear c24
      by_cases c25 : ((rd_T77 l0_0 (rd x3_1 x5_1)).f2.f0) < (x4_2.length : Int)
      rotate_left
      ·rw [if_neg c25] at H
       exact absurd H (by simp)
      rw [if_pos c25] at H
      have c25b0 : decide (((rd_T77 l0_0 (rd x3_1 x5_1)).f2.f0) < (x4_2.length : Int)) = true := decide_eq_true c25
      (try (have c25b0hl4_1 := c25b0; rw [hl4_1] at c25b0hl4_1))
      (try (have c25b0hl4_2 := c25b0; rw [hl4_2] at c25b0hl4_2))
      clear c25
      obtain ⟨bq26, hbq26⟩ : ∃ b_ : Bool, b_ = (rdOf false x4_2 ((rd_T77 l0_0 (rd x3_1 x5_1)).f2.f0)) := ⟨_, rfl⟩
      replace H : (if (bq26 = true) then (spec_l06Reached.l1 k2 x3_2 x4_2 x5_1 (0 + 1) (rd x3_1 x5_1) l0_0) else (if x3_2.length < 70368744177664 then (spec_l06Reached.l1 k2 (x3_2 ++ [(rd_T77 l0_0 (rd x3_1 x5_1)).f2.f0]) (x4_2.set (((rd_T77 l0_0 (rd x3_1 x5_1)).f2.f0) : Int).toNat true) x5_1 (0 + 1) (rd x3_1 x5_1) l0_0) else (none))) = some r := by rw [← hbq26] at H; exact H
      have Nbq26 := aM71_ hbq26
      clear hbq26
      by_cases c27 : (bq26 = true)
      ·subst c27
       have H1 : (spec_l06Reached.l1 k2 x3_2 x4_2 x5_1 (0 + 1) (rd x3_1 x5_1) l0_0) = some r := by rw [if_pos rfl] at H; exact H
       clear H
       have H := H1
       clear H1
       have H' := aM71_ H
       clear H
       have p158 : 0 ≤ ((rd x3_1 x5_1) : Int) := of_decide_eq_true q71x2_
       have q158 : (rd x3_1 x5_1) < (l0_0.length : Int) := of_decide_eq_true q71x2_
       obtain ⟨ad158, e158, hx158_0, hx158_1, hx158_2, hx158_3, hx158_4⟩ := at_T77 HR0_0.out (rd x3_1 x5_1) p158 q158
       obtain rfl : ad157 = ad158 := (by injection e158)
       replace hx158_0 := (HB.out.cell (World.block_lt_of_cell? w _ hx158_0)).trans hx158_0
       replace hx158_1 := (HB.out.cell (World.block_lt_of_cell? w _ hx158_1)).trans hx158_1
       replace hx158_2 := (HB.out.cell (World.block_lt_of_cell? w _ hx158_2)).trans hx158_2
       replace hx158_3 := (HB.out.cell (World.block_lt_of_cell? w _ hx158_3)).trans hx158_3
       replace hx158_4 := (HB.out.cell (World.block_lt_of_cell? w _ hx158_4)).trans hx158_4
       replace p158 := eq_true p158
       replace q158 := eq_true q158
       have p159 : 0 ≤ (((rd_T77 l0_0 (rd x3_1 x5_1)).f2.f0) : Int) := of_decide_eq_true q71x2_
       have q159 : ((rd_T77 l0_0 (rd x3_1 x5_1)).f2.f0) < (x4_2.length : Int) := of_decide_eq_true q71x2_
       obtain ⟨ad159, e159, hx159_0⟩ := Kd.at_bool (Kd.R_reads' HO_4.out).2.2 ((rd_T77 l0_0 (rd x3_1 x5_1)).f2.f0) p159 q159
       (try rw [← Nbq26.out] at hx159_0)
       obtain rfl : (⟨go5, 0, none⟩ : Addr) = ad159 := (by injection e159)
       (first | simp only [add_plain] at hx159_0 | simp only [add_at] at hx159_0 | simp only [Addr.add, Nat.zero_add] at hx159_0 | skip)
       replace p159 := eq_true p159
       replace q159 := eq_true q159
       go_wp2_with (first | ((go_at_call 106; go_in)))
       repeat (go_quiet (first | ((go_at_call 106; go_in))); try go_wp2_with (first | ((go_at_call 106; go_in))))
       (try simp only [← hl4_2])
       go_roundg k2
       case measure => have := HK1.out; have := HK2.out; omega
       case rel => exact ⟨(x3_2), (x4_2), (0 + 1), q71x7_, H', ⟨by have := HK1.out; have := HK2.out; omega⟩, ⟨by (try simp only [hl4_1]); (try simp only [hl4_2]); (with_reducible repeat (first | apply Kd.R_alloc | apply Kd.R_drewN | apply Kd.R_drew)); exact HO_3.out⟩, ⟨by (try simp only [hl4_1]); (try simp only [hl4_2]); (with_reducible repeat (first | apply Kd.R_alloc | apply Kd.R_drewN | apply Kd.R_drew)); exact HO_4.out⟩, ⟨by repeat (first | (with_reducible first | exact HB.out | apply below_alloc | apply pw_below_drewN | apply below_drew1) | exact HB.out)⟩⟩
      replace c27 := Bool.eq_false_iff.mpr c27
      subst c27
      have H1 : (if x3_2.length < 70368744177664 then (spec_l06Reached.l1 k2 (x3_2 ++ [(rd_T77 l0_0 (rd x3_1 x5_1)).f2.f0]) (x4_2.set (((rd_T77 l0_0 (rd x3_1 x5_1)).f2.f0) : Int).toNat true) x5_1 (0 + 1) (rd x3_1 x5_1) l0_0) else (none)) = some r := by rw [if_neg (show ¬ (false = true) by decide)] at H; exact H
      clear H
      have H := H1
      clear H1
      obtain ⟨y160, hy160⟩ : ∃ y_ : List Bool, y_ = (x4_2.set (((rd_T77 l0_0 (rd x3_1 x5_1)).f2.f0) : Int).toNat true) := ⟨_, rfl⟩
      replace H : (if x3_2.length < 70368744177664 then (spec_l06Reached.l1 k2 (x3_2 ++ [(rd_T77 l0_0 (rd x3_1 x5_1)).f2.f0]) y160 x5_1 (0 + 1) (rd x3_1 x5_1) l0_0) else (none)) = some r := by first | (rw [hy160]; with_reducible exact H) | (have H2_ := (Option.bind_some _ _).symm.trans H; rw [hy160]; with_reducible exact H2_) | (have H2_ := (Option.bind_some _ _).symm.trans H; with_reducible exact H2_) | with_reducible exact H | (rw [hy160]; exact H) | exact H
      have Ny160 := aM71_ hy160
      clear hy160
      by_cases c29 : x3_2.length < 70368744177664
      rotate_left
      ·rw [if_neg c29] at H
       exact absurd H (by simp)
      rw [if_pos c29] at H
      have LMc29 := aM71_ c29
      clear c29
      obtain ⟨y162, hy162⟩ : ∃ y_ : List Int, y_ = (x3_2 ++ [(rd_T77 l0_0 (rd x3_1 x5_1)).f2.f0]) := ⟨_, rfl⟩
      replace H : (spec_l06Reached.l1 k2 y162 y160 x5_1 (0 + 1) (rd x3_1 x5_1) l0_0) = some r := by first | (rw [hy162]; with_reducible exact H) | (have H2_ := (Option.bind_some _ _).symm.trans H; rw [hy162]; with_reducible exact H2_) | (have H2_ := (Option.bind_some _ _).symm.trans H; with_reducible exact H2_) | with_reducible exact H | (rw [hy162]; exact H) | exact H
      have Ny162 := aM71_ hy162
      clear hy162
      have H' := aM71_ H
      clear H
      have p158 : 0 ≤ ((rd x3_1 x5_1) : Int) := of_decide_eq_true q71x2_
      have q158 : (rd x3_1 x5_1) < (l0_0.length : Int) := of_decide_eq_true q71x2_
      obtain ⟨ad158, e158, hx158_0, hx158_1, hx158_2, hx158_3, hx158_4⟩ := at_T77 HR0_0.out (rd x3_1 x5_1) p158 q158
      obtain rfl : ad157 = ad158 := (by injection e158)
      replace hx158_0 := (HB.out.cell (World.block_lt_of_cell? w _ hx158_0)).trans hx158_0
      replace hx158_1 := (HB.out.cell (World.block_lt_of_cell? w _ hx158_1)).trans hx158_1
      replace hx158_2 := (HB.out.cell (World.block_lt_of_cell? w _ hx158_2)).trans hx158_2
      replace hx158_3 := (HB.out.cell (World.block_lt_of_cell? w _ hx158_3)).trans hx158_3
      replace hx158_4 := (HB.out.cell (World.block_lt_of_cell? w _ hx158_4)).trans hx158_4
      replace p158 := eq_true p158
      replace q158 := eq_true q158
      have p159 : 0 ≤ (((rd_T77 l0_0 (rd x3_1 x5_1)).f2.f0) : Int) := of_decide_eq_true q71x2_
      have q159 : ((rd_T77 l0_0 (rd x3_1 x5_1)).f2.f0) < (x4_2.length : Int) := of_decide_eq_true q71x2_
      obtain ⟨ad159, e159, hx159_0⟩ := Kd.at_bool (Kd.R_reads' HO_4.out).2.2 ((rd_T77 l0_0 (rd x3_1 x5_1)).f2.f0) p159 q159
      (try rw [← Nbq26.out] at hx159_0)
      obtain rfl : (⟨go5, 0, none⟩ : Addr) = ad159 := (by injection e159)
      (first | simp only [add_plain] at hx159_0 | simp only [add_at] at hx159_0 | simp only [Addr.add, Nat.zero_add] at hx159_0 | skip)
      replace p159 := eq_true p159
      replace q159 := eq_true q159
      have p28 : 0 ≤ (((rd_T77 l0_0 (rd x3_1 x5_1)).f2.f0) : Int) := of_decide_eq_true q71x2_
      have q28 : (((rd_T77 l0_0 (rd x3_1 x5_1)).f2.f0) : Int) < ((x4_2.length : Int) : Int) := of_decide_eq_true q71x2_
      obtain ⟨hx28_0, hf28_0⟩ := Kd.R_celln false HO_4.out (((rd_T77 l0_0 (rd x3_1 x5_1)).f2.f0) : Int) p28 q28
      replace p28 := eq_true p28
      replace q28 := eq_true q28
      have HP30 := Kd.R_putg HO_4.out (((rd_T77 l0_0 (rd x3_1 x5_1)).f2.f0) : Int) true
      go_wp2_with (first | ((go_at_call 106; go_in)) | ((with_reducible refine gate_store (t := 4) (p := 55) rfl ?_); (try (rw [drewN_self wr]; generalize hq_ : World.drewN wr _ = wr; have n0_ := aM71_ (Kd.R_at hq_ HO_3.out); have n1_ := aM71_ (Kd.R_at hq_ HO_4.out); have n2_ := aM71_ (below_at hq_ HB.out); clear hq_ HO_3 HO_4 HB; have HO_3 := n0_; have HO_4 := n1_; have HB := n2_; clear n0_ n1_ n2_; (try (have HP30 := Kd.R_putg HO_4.out (((rd_T77 l0_0 (rd x3_1 x5_1)).f2.f0) : Int) true)))); refine store_event (t := 4) (p := 55) (v := ?vo_w31) (w1 := (wr.setCell ⟨go5, (((rd_T77 l0_0 (rd x3_1 x5_1)).f2.f0) : Int).toNat, none⟩ (.bool true))) ?hg ?ho ?hn ?hr ?_; (case ho => rfl); (case hg => rfl); (case hn => rfl); (case hr => first | (go_simp; done) | (go_simp; rfl)); intro w31 hw; have hg : wr.grownBy w31 (some go5) := (by rw [hw]; exact HP30.2); have hp_ : Kd.R Kd.bool 4 w31 w.heap.size (fun _ => True) (.slice (some ⟨go5, 0, none⟩) x4_2.length co5) y160 := (by rw [hw, Ny160.out]; exact HP30.1); clear HP30; have n0_ := aM71_ (Kd.R_over' (v := (.slice (some ⟨go5, 0, none⟩) x4_2.length co5)) q71x3_ (Kd.R_typed HO_4.out) (by decide) hg); have n1_ := aM71_ (hp_); have n2_ := aM71_ ((q71x5_ : Below w.heap.size w w31)); clear HO_3; clear HO_4; clear HB; have HO_3 := n0_; have HO_4 := n1_; have HB := n2_; clear n0_ n1_ n2_; clear hg hw hp_; have p161 : 0 ≤ ((rd x3_1 x5_1) : Int) := of_decide_eq_true q71x2_; have q161 : (rd x3_1 x5_1) < (l0_0.length : Int) := of_decide_eq_true q71x2_; obtain ⟨ad161, e161, hx161_0, hx161_1, hx161_2, hx161_3, hx161_4⟩ := at_T77 HR0_0.out (rd x3_1 x5_1) p161 q161; obtain rfl : ad157 = ad161 := (by injection e161); replace hx161_0 := (HB.out.cell (World.block_lt_of_cell? w _ hx161_0)).trans hx161_0; replace hx161_1 := (HB.out.cell (World.block_lt_of_cell? w _ hx161_1)).trans hx161_1; replace hx161_2 := (HB.out.cell (World.block_lt_of_cell? w _ hx161_2)).trans hx161_2; replace hx161_3 := (HB.out.cell (World.block_lt_of_cell? w _ hx161_3)).trans hx161_3; replace hx161_4 := (HB.out.cell (World.block_lt_of_cell? w _ hx161_4)).trans hx161_4; replace p161 := eq_true p161; replace q161 := eq_true q161) | ((with_reducible refine gate_builtin (b := .append) (xs := #[.tmp 56, .tmp 63]) rfl ?_); at_builtin; refine Kd.R_append (Kd.int .i16) (w0 := w) w.heap.size rfl (.tmp 56) (.tmp 63) 93 74 (.int .i16 0) 2 rfl Try.underlying93 info74 rfl (by decide) (by omega) u3 x3_2 ((rd_T77 l0_0 (rd x3_1 x5_1)).f2.f0) [.int .i16 ((rd_T77 l0_0 (rd x3_1 x5_1)).f2.f0)] (fun _ => True) (fun _ => False) rfl rfl ?aP (fun _ hk => hk.elim) ?aF ?aO ?aB ?aS ?aL ?_; (case aP => exact rfl); (case aB => exact q71x1_); (case aF => exact (fun _ _ => trivial)); (case aO => exact q71x3_); (case aS => exact (below_size q71x1_)); (case aL => have := LMc29.out; omega); intro v163 w32 ho hb hg hat; rw [← Ny162.out] at ho; have n0_ := aM71_ (Kd.R_over' q71x4_ (Kd.R_typed q71x3_) (by decide) hg); have n1_ := aM71_ (hb); have n2_ := aM71_ (ho); clear HO_4; clear HB; clear HO_3; have HO_4 := n0_; have HB := n1_; have HO164 := n2_; clear n0_ n1_ n2_; clear ho hb hg hat))
      repeat (go_quiet (first | ((go_at_call 106; go_in)) | ((with_reducible refine gate_store (t := 4) (p := 55) rfl ?_); (try (rw [drewN_self wr]; generalize hq_ : World.drewN wr _ = wr; have n0_ := aM71_ (Kd.R_at hq_ HO_3.out); have n1_ := aM71_ (Kd.R_at hq_ HO_4.out); have n2_ := aM71_ (below_at hq_ HB.out); clear hq_ HO_3 HO_4 HB; have HO_3 := n0_; have HO_4 := n1_; have HB := n2_; clear n0_ n1_ n2_; (try (have HP30 := Kd.R_putg HO_4.out (((rd_T77 l0_0 (rd x3_1 x5_1)).f2.f0) : Int) true)))); refine store_event (t := 4) (p := 55) (v := ?vo_w31) (w1 := (wr.setCell ⟨go5, (((rd_T77 l0_0 (rd x3_1 x5_1)).f2.f0) : Int).toNat, none⟩ (.bool true))) ?hg ?ho ?hn ?hr ?_; (case ho => rfl); (case hg => rfl); (case hn => rfl); (case hr => first | (go_simp; done) | (go_simp; rfl)); intro w31 hw; have hg : wr.grownBy w31 (some go5) := (by rw [hw]; exact HP30.2); have hp_ : Kd.R Kd.bool 4 w31 w.heap.size (fun _ => True) (.slice (some ⟨go5, 0, none⟩) x4_2.length co5) y160 := (by rw [hw, Ny160.out]; exact HP30.1); clear HP30; have n0_ := aM71_ (Kd.R_over' (v := (.slice (some ⟨go5, 0, none⟩) x4_2.length co5)) q71x3_ (Kd.R_typed HO_4.out) (by decide) hg); have n1_ := aM71_ (hp_); have n2_ := aM71_ ((q71x5_ : Below w.heap.size w w31)); clear HO_3; clear HO_4; clear HB; have HO_3 := n0_; have HO_4 := n1_; have HB := n2_; clear n0_ n1_ n2_; clear hg hw hp_; have p161 : 0 ≤ ((rd x3_1 x5_1) : Int) := of_decide_eq_true q71x2_; have q161 : (rd x3_1 x5_1) < (l0_0.length : Int) := of_decide_eq_true q71x2_; obtain ⟨ad161, e161, hx161_0, hx161_1, hx161_2, hx161_3, hx161_4⟩ := at_T77 HR0_0.out (rd x3_1 x5_1) p161 q161; obtain rfl : ad157 = ad161 := (by injection e161); replace hx161_0 := (HB.out.cell (World.block_lt_of_cell? w _ hx161_0)).trans hx161_0; replace hx161_1 := (HB.out.cell (World.block_lt_of_cell? w _ hx161_1)).trans hx161_1; replace hx161_2 := (HB.out.cell (World.block_lt_of_cell? w _ hx161_2)).trans hx161_2; replace hx161_3 := (HB.out.cell (World.block_lt_of_cell? w _ hx161_3)).trans hx161_3; replace hx161_4 := (HB.out.cell (World.block_lt_of_cell? w _ hx161_4)).trans hx161_4; replace p161 := eq_true p161; replace q161 := eq_true q161) | ((with_reducible refine gate_builtin (b := .append) (xs := #[.tmp 56, .tmp 63]) rfl ?_); at_builtin; refine Kd.R_append (Kd.int .i16) (w0 := w) w.heap.size rfl (.tmp 56) (.tmp 63) 93 74 (.int .i16 0) 2 rfl Try.underlying93 info74 rfl (by decide) (by omega) u3 x3_2 ((rd_T77 l0_0 (rd x3_1 x5_1)).f2.f0) [.int .i16 ((rd_T77 l0_0 (rd x3_1 x5_1)).f2.f0)] (fun _ => True) (fun _ => False) rfl rfl ?aP (fun _ hk => hk.elim) ?aF ?aO ?aB ?aS ?aL ?_; (case aP => exact rfl); (case aB => exact q71x1_); (case aF => exact (fun _ _ => trivial)); (case aO => exact q71x3_); (case aS => exact (below_size q71x1_)); (case aL => have := LMc29.out; omega); intro v163 w32 ho hb hg hat; rw [← Ny162.out] at ho; have n0_ := aM71_ (Kd.R_over' q71x4_ (Kd.R_typed q71x3_) (by decide) hg); have n1_ := aM71_ (hb); have n2_ := aM71_ (ho); clear HO_4; clear HB; clear HO_3; have HO_4 := n0_; have HB := n1_; have HO164 := n2_; clear n0_ n1_ n2_; clear ho hb hg hat)); try go_wp2_with (first | ((go_at_call 106; go_in)) | ((with_reducible refine gate_store (t := 4) (p := 55) rfl ?_); (try (rw [drewN_self wr]; generalize hq_ : World.drewN wr _ = wr; have n0_ := aM71_ (Kd.R_at hq_ HO_3.out); have n1_ := aM71_ (Kd.R_at hq_ HO_4.out); have n2_ := aM71_ (below_at hq_ HB.out); clear hq_ HO_3 HO_4 HB; have HO_3 := n0_; have HO_4 := n1_; have HB := n2_; clear n0_ n1_ n2_; (try (have HP30 := Kd.R_putg HO_4.out (((rd_T77 l0_0 (rd x3_1 x5_1)).f2.f0) : Int) true)))); refine store_event (t := 4) (p := 55) (v := ?vo_w31) (w1 := (wr.setCell ⟨go5, (((rd_T77 l0_0 (rd x3_1 x5_1)).f2.f0) : Int).toNat, none⟩ (.bool true))) ?hg ?ho ?hn ?hr ?_; (case ho => rfl); (case hg => rfl); (case hn => rfl); (case hr => first | (go_simp; done) | (go_simp; rfl)); intro w31 hw; have hg : wr.grownBy w31 (some go5) := (by rw [hw]; exact HP30.2); have hp_ : Kd.R Kd.bool 4 w31 w.heap.size (fun _ => True) (.slice (some ⟨go5, 0, none⟩) x4_2.length co5) y160 := (by rw [hw, Ny160.out]; exact HP30.1); clear HP30; have n0_ := aM71_ (Kd.R_over' (v := (.slice (some ⟨go5, 0, none⟩) x4_2.length co5)) q71x3_ (Kd.R_typed HO_4.out) (by decide) hg); have n1_ := aM71_ (hp_); have n2_ := aM71_ ((q71x5_ : Below w.heap.size w w31)); clear HO_3; clear HO_4; clear HB; have HO_3 := n0_; have HO_4 := n1_; have HB := n2_; clear n0_ n1_ n2_; clear hg hw hp_; have p161 : 0 ≤ ((rd x3_1 x5_1) : Int) := of_decide_eq_true q71x2_; have q161 : (rd x3_1 x5_1) < (l0_0.length : Int) := of_decide_eq_true q71x2_; obtain ⟨ad161, e161, hx161_0, hx161_1, hx161_2, hx161_3, hx161_4⟩ := at_T77 HR0_0.out (rd x3_1 x5_1) p161 q161; obtain rfl : ad157 = ad161 := (by injection e161); replace hx161_0 := (HB.out.cell (World.block_lt_of_cell? w _ hx161_0)).trans hx161_0; replace hx161_1 := (HB.out.cell (World.block_lt_of_cell? w _ hx161_1)).trans hx161_1; replace hx161_2 := (HB.out.cell (World.block_lt_of_cell? w _ hx161_2)).trans hx161_2; replace hx161_3 := (HB.out.cell (World.block_lt_of_cell? w _ hx161_3)).trans hx161_3; replace hx161_4 := (HB.out.cell (World.block_lt_of_cell? w _ hx161_4)).trans hx161_4; replace p161 := eq_true p161; replace q161 := eq_true q161) | ((with_reducible refine gate_builtin (b := .append) (xs := #[.tmp 56, .tmp 63]) rfl ?_); at_builtin; refine Kd.R_append (Kd.int .i16) (w0 := w) w.heap.size rfl (.tmp 56) (.tmp 63) 93 74 (.int .i16 0) 2 rfl Try.underlying93 info74 rfl (by decide) (by omega) u3 x3_2 ((rd_T77 l0_0 (rd x3_1 x5_1)).f2.f0) [.int .i16 ((rd_T77 l0_0 (rd x3_1 x5_1)).f2.f0)] (fun _ => True) (fun _ => False) rfl rfl ?aP (fun _ hk => hk.elim) ?aF ?aO ?aB ?aS ?aL ?_; (case aP => exact rfl); (case aB => exact q71x1_); (case aF => exact (fun _ _ => trivial)); (case aO => exact q71x3_); (case aS => exact (below_size q71x1_)); (case aL => have := LMc29.out; omega); intro v163 w32 ho hb hg hat; rw [← Ny162.out] at ho; have n0_ := aM71_ (Kd.R_over' q71x4_ (Kd.R_typed q71x3_) (by decide) hg); have n1_ := aM71_ (hb); have n2_ := aM71_ (ho); clear HO_4; clear HB; clear HO_3; have HO_4 := n0_; have HB := n1_; have HO164 := n2_; clear n0_ n1_ n2_; clear ho hb hg hat)))
      (try simp only [← hl4_2])
      go_roundg k2
      case measure => have := HK1.out; have := HK2.out; omega
      case rel => exact ⟨(y162), (y160), (0 + 1), q71x7_, H', ⟨by have := HK1.out; have := HK2.out; omega⟩, ⟨by (try simp only [hl4_1]); (try simp only [hl4_2]); (with_reducible repeat (first | apply Kd.R_alloc | apply Kd.R_drewN | apply Kd.R_drew)); exact HO164.out⟩, ⟨by (try simp only [hl4_1]); (try simp only [hl4_2]); (with_reducible repeat (first | apply Kd.R_alloc | apply Kd.R_drewN | apply Kd.R_drew)); exact HO_4.out⟩, ⟨by repeat (first | (with_reducible first | exact HB.out | apply below_alloc | apply pw_below_drewN | apply below_drew1) | exact HB.out)⟩⟩
     rw [if_neg c23] at H
     by_cases c33 : x7_2 = 1
     ·subst c33
      have H1 : (if 0 ≤ ((rd_T77 l0_0 (rd x3_1 x5_1)).f2.f1) then (if ((rd_T77 l0_0 (rd x3_1 x5_1)).f2.f1) < (x4_2.length : Int) then (if (rdOf false x4_2 ((rd_T77 l0_0 (rd x3_1 x5_1)).f2.f1) = true) then (spec_l06Reached.l1 k2 x3_2 x4_2 x5_1 (1 + 1) (rd x3_1 x5_1) l0_0) else (if x3_2.length < 70368744177664 then (spec_l06Reached.l1 k2 (x3_2 ++ [(rd_T77 l0_0 (rd x3_1 x5_1)).f2.f1]) (x4_2.set (((rd_T77 l0_0 (rd x3_1 x5_1)).f2.f1) : Int).toNat true) x5_1 (1 + 1) (rd x3_1 x5_1) l0_0) else (none))) else (none)) else (none)) = some r := by rw [if_pos rfl] at H; exact H
      clear H
      have H := H1
      clear H1
      by_cases c34 : 0 ≤ ((rd_T77 l0_0 (rd x3_1 x5_1)).f2.f1)
      rotate_left
      ·rw [if_neg c34] at H
       exact absurd H (by simp)
      rw [if_pos c34] at H
      have c34b0 : decide (0 ≤ ((rd_T77 l0_0 (rd x3_1 x5_1)).f2.f1)) = true := decide_eq_true c34
      clear c34
      by_cases c35 : ((rd_T77 l0_0 (rd x3_1 x5_1)).f2.f1) < (x4_2.length : Int)
      rotate_left
      ·rw [if_neg c35] at H
       exact absurd H (by simp)
      rw [if_pos c35] at H
      have c35b0 : decide (((rd_T77 l0_0 (rd x3_1 x5_1)).f2.f1) < (x4_2.length : Int)) = true := decide_eq_true c35
      (try (have c35b0hl4_1 := c35b0; rw [hl4_1] at c35b0hl4_1))
      (try (have c35b0hl4_2 := c35b0; rw [hl4_2] at c35b0hl4_2))
      clear c35
      obtain ⟨bq36, hbq36⟩ : ∃ b_ : Bool, b_ = (rdOf false x4_2 ((rd_T77 l0_0 (rd x3_1 x5_1)).f2.f1)) := ⟨_, rfl⟩
      replace H : (if (bq36 = true) then (spec_l06Reached.l1 k2 x3_2 x4_2 x5_1 (1 + 1) (rd x3_1 x5_1) l0_0) else (if x3_2.length < 70368744177664 then (spec_l06Reached.l1 k2 (x3_2 ++ [(rd_T77 l0_0 (rd x3_1 x5_1)).f2.f1]) (x4_2.set (((rd_T77 l0_0 (rd x3_1 x5_1)).f2.f1) : Int).toNat true) x5_1 (1 + 1) (rd x3_1 x5_1) l0_0) else (none))) = some r := by rw [← hbq36] at H; exact H
      have Nbq36 := aM71_ hbq36
      clear hbq36
      by_cases c37 : (bq36 = true)
      ·subst c37
       have H1 : (spec_l06Reached.l1 k2 x3_2 x4_2 x5_1 (1 + 1) (rd x3_1 x5_1) l0_0) = some r := by rw [if_pos rfl] at H; exact H
       clear H
       have H := H1
       clear H1
       have H' := aM71_ H
       clear H
       have p158 : 0 ≤ ((rd x3_1 x5_1) : Int) := of_decide_eq_true q71x2_
       have q158 : (rd x3_1 x5_1) < (l0_0.length : Int) := of_decide_eq_true q71x2_
       obtain ⟨ad158, e158, hx158_0, hx158_1, hx158_2, hx158_3, hx158_4⟩ := at_T77 HR0_0.out (rd x3_1 x5_1) p158 q158
       obtain rfl : ad157 = ad158 := (by injection e158)
       replace hx158_0 := (HB.out.cell (World.block_lt_of_cell? w _ hx158_0)).trans hx158_0
       replace hx158_1 := (HB.out.cell (World.block_lt_of_cell? w _ hx158_1)).trans hx158_1
       replace hx158_2 := (HB.out.cell (World.block_lt_of_cell? w _ hx158_2)).trans hx158_2
       replace hx158_3 := (HB.out.cell (World.block_lt_of_cell? w _ hx158_3)).trans hx158_3
       replace hx158_4 := (HB.out.cell (World.block_lt_of_cell? w _ hx158_4)).trans hx158_4
       replace p158 := eq_true p158
       replace q158 := eq_true q158
       have p165 : 0 ≤ (((rd_T77 l0_0 (rd x3_1 x5_1)).f2.f1) : Int) := of_decide_eq_true q71x2_
       have q165 : ((rd_T77 l0_0 (rd x3_1 x5_1)).f2.f1) < (x4_2.length : Int) := of_decide_eq_true q71x2_
       obtain ⟨ad165, e165, hx165_0⟩ := Kd.at_bool (Kd.R_reads' HO_4.out).2.2 ((rd_T77 l0_0 (rd x3_1 x5_1)).f2.f1) p165 q165
       (try rw [← Nbq36.out] at hx165_0)
       obtain rfl : (⟨go5, 0, none⟩ : Addr) = ad165 := (by injection e165)
       (first | simp only [add_plain] at hx165_0 | simp only [add_at] at hx165_0 | simp only [Addr.add, Nat.zero_add] at hx165_0 | skip)
       replace p165 := eq_true p165
       replace q165 := eq_true q165
       go_wp2_with (first | ((go_at_call 106; go_in)))
       repeat (go_quiet (first | ((go_at_call 106; go_in))); try go_wp2_with (first | ((go_at_call 106; go_in))))
       (try simp only [← hl4_2])
       go_roundg k2
       case measure => have := HK1.out; have := HK2.out; omega
       case rel => exact ⟨(x3_2), (x4_2), (1 + 1), q71x7_, H', ⟨by have := HK1.out; have := HK2.out; omega⟩, ⟨by (try simp only [hl4_1]); (try simp only [hl4_2]); (with_reducible repeat (first | apply Kd.R_alloc | apply Kd.R_drewN | apply Kd.R_drew)); exact HO_3.out⟩, ⟨by (try simp only [hl4_1]); (try simp only [hl4_2]); (with_reducible repeat (first | apply Kd.R_alloc | apply Kd.R_drewN | apply Kd.R_drew)); exact HO_4.out⟩, ⟨by repeat (first | (with_reducible first | exact HB.out | apply below_alloc | apply pw_below_drewN | apply below_drew1) | exact HB.out)⟩⟩
      replace c37 := Bool.eq_false_iff.mpr c37
      subst c37
      have H1 : (if x3_2.length < 70368744177664 then (spec_l06Reached.l1 k2 (x3_2 ++ [(rd_T77 l0_0 (rd x3_1 x5_1)).f2.f1]) (x4_2.set (((rd_T77 l0_0 (rd x3_1 x5_1)).f2.f1) : Int).toNat true) x5_1 (1 + 1) (rd x3_1 x5_1) l0_0) else (none)) = some r := by rw [if_neg (show ¬ (false = true) by decide)] at H; exact H
      clear H
      have H := H1
      clear H1
      obtain ⟨y166, hy166⟩ : ∃ y_ : List Bool, y_ = (x4_2.set (((rd_T77 l0_0 (rd x3_1 x5_1)).f2.f1) : Int).toNat true) := ⟨_, rfl⟩
      replace H : (if x3_2.length < 70368744177664 then (spec_l06Reached.l1 k2 (x3_2 ++ [(rd_T77 l0_0 (rd x3_1 x5_1)).f2.f1]) y166 x5_1 (1 + 1) (rd x3_1 x5_1) l0_0) else (none)) = some r := by first | (rw [hy166]; with_reducible exact H) | (have H2_ := (Option.bind_some _ _).symm.trans H; rw [hy166]; with_reducible exact H2_) | (have H2_ := (Option.bind_some _ _).symm.trans H; with_reducible exact H2_) | with_reducible exact H | (rw [hy166]; exact H) | exact H
      have Ny166 := aM71_ hy166
      clear hy166
      by_cases c39 : x3_2.length < 70368744177664
      rotate_left
      ·rw [if_neg c39] at H
       exact absurd H (by simp)
      rw [if_pos c39] at H
      have LMc39 := aM71_ c39
      clear c39
      obtain ⟨y168, hy168⟩ : ∃ y_ : List Int, y_ = (x3_2 ++ [(rd_T77 l0_0 (rd x3_1 x5_1)).f2.f1]) := ⟨_, rfl⟩
      replace H : (spec_l06Reached.l1 k2 y168 y166 x5_1 (1 + 1) (rd x3_1 x5_1) l0_0) = some r := by first | (rw [hy168]; with_reducible exact H) | (have H2_ := (Option.bind_some _ _).symm.trans H; rw [hy168]; with_reducible exact H2_) | (have H2_ := (Option.bind_some _ _).symm.trans H; with_reducible exact H2_) | with_reducible exact H | (rw [hy168]; exact H) | exact H
      have Ny168 := aM71_ hy168
      clear hy168
      have H' := aM71_ H
      clear H
      have p158 : 0 ≤ ((rd x3_1 x5_1) : Int) := of_decide_eq_true q71x2_
      have q158 : (rd x3_1 x5_1) < (l0_0.length : Int) := of_decide_eq_true q71x2_
      obtain ⟨ad158, e158, hx158_0, hx158_1, hx158_2, hx158_3, hx158_4⟩ := at_T77 HR0_0.out (rd x3_1 x5_1) p158 q158
      obtain rfl : ad157 = ad158 := (by injection e158)
      replace hx158_0 := (HB.out.cell (World.block_lt_of_cell? w _ hx158_0)).trans hx158_0
      replace hx158_1 := (HB.out.cell (World.block_lt_of_cell? w _ hx158_1)).trans hx158_1
      replace hx158_2 := (HB.out.cell (World.block_lt_of_cell? w _ hx158_2)).trans hx158_2
      replace hx158_3 := (HB.out.cell (World.block_lt_of_cell? w _ hx158_3)).trans hx158_3
      replace hx158_4 := (HB.out.cell (World.block_lt_of_cell? w _ hx158_4)).trans hx158_4
      replace p158 := eq_true p158
      replace q158 := eq_true q158
      have p165 : 0 ≤ (((rd_T77 l0_0 (rd x3_1 x5_1)).f2.f1) : Int) := of_decide_eq_true q71x2_
      have q165 : ((rd_T77 l0_0 (rd x3_1 x5_1)).f2.f1) < (x4_2.length : Int) := of_decide_eq_true q71x2_
      obtain ⟨ad165, e165, hx165_0⟩ := Kd.at_bool (Kd.R_reads' HO_4.out).2.2 ((rd_T77 l0_0 (rd x3_1 x5_1)).f2.f1) p165 q165
      (try rw [← Nbq36.out] at hx165_0)
      obtain rfl : (⟨go5, 0, none⟩ : Addr) = ad165 := (by injection e165)
      (first | simp only [add_plain] at hx165_0 | simp only [add_at] at hx165_0 | simp only [Addr.add, Nat.zero_add] at hx165_0 | skip)
      replace p165 := eq_true p165
      replace q165 := eq_true q165
      have p38 : 0 ≤ (((rd_T77 l0_0 (rd x3_1 x5_1)).f2.f1) : Int) := of_decide_eq_true q71x2_
      have q38 : (((rd_T77 l0_0 (rd x3_1 x5_1)).f2.f1) : Int) < ((x4_2.length : Int) : Int) := of_decide_eq_true q71x2_
      obtain ⟨hx38_0, hf38_0⟩ := Kd.R_celln false HO_4.out (((rd_T77 l0_0 (rd x3_1 x5_1)).f2.f1) : Int) p38 q38
      replace p38 := eq_true p38
      replace q38 := eq_true q38
      have HP40 := Kd.R_putg HO_4.out (((rd_T77 l0_0 (rd x3_1 x5_1)).f2.f1) : Int) true
      go_wp2_with (first | ((go_at_call 106; go_in)) | ((with_reducible refine gate_store (t := 4) (p := 55) rfl ?_); (try (rw [drewN_self wr]; generalize hq_ : World.drewN wr _ = wr; have n0_ := aM71_ (Kd.R_at hq_ HO_3.out); have n1_ := aM71_ (Kd.R_at hq_ HO_4.out); have n2_ := aM71_ (below_at hq_ HB.out); clear hq_ HO_3 HO_4 HB; have HO_3 := n0_; have HO_4 := n1_; have HB := n2_; clear n0_ n1_ n2_; (try (have HP40 := Kd.R_putg HO_4.out (((rd_T77 l0_0 (rd x3_1 x5_1)).f2.f1) : Int) true)))); refine store_event (t := 4) (p := 55) (v := ?vo_w41) (w1 := (wr.setCell ⟨go5, (((rd_T77 l0_0 (rd x3_1 x5_1)).f2.f1) : Int).toNat, none⟩ (.bool true))) ?hg ?ho ?hn ?hr ?_; (case ho => rfl); (case hg => rfl); (case hn => rfl); (case hr => first | (go_simp; done) | (go_simp; rfl)); intro w41 hw; have hg : wr.grownBy w41 (some go5) := (by rw [hw]; exact HP40.2); have hp_ : Kd.R Kd.bool 4 w41 w.heap.size (fun _ => True) (.slice (some ⟨go5, 0, none⟩) x4_2.length co5) y166 := (by rw [hw, Ny166.out]; exact HP40.1); clear HP40; have n0_ := aM71_ (Kd.R_over' (v := (.slice (some ⟨go5, 0, none⟩) x4_2.length co5)) q71x3_ (Kd.R_typed HO_4.out) (by decide) hg); have n1_ := aM71_ (hp_); have n2_ := aM71_ ((q71x5_ : Below w.heap.size w w41)); clear HO_3; clear HO_4; clear HB; have HO_3 := n0_; have HO_4 := n1_; have HB := n2_; clear n0_ n1_ n2_; clear hg hw hp_; have p167 : 0 ≤ ((rd x3_1 x5_1) : Int) := of_decide_eq_true q71x2_; have q167 : (rd x3_1 x5_1) < (l0_0.length : Int) := of_decide_eq_true q71x2_; obtain ⟨ad167, e167, hx167_0, hx167_1, hx167_2, hx167_3, hx167_4⟩ := at_T77 HR0_0.out (rd x3_1 x5_1) p167 q167; obtain rfl : ad157 = ad167 := (by injection e167); replace hx167_0 := (HB.out.cell (World.block_lt_of_cell? w _ hx167_0)).trans hx167_0; replace hx167_1 := (HB.out.cell (World.block_lt_of_cell? w _ hx167_1)).trans hx167_1; replace hx167_2 := (HB.out.cell (World.block_lt_of_cell? w _ hx167_2)).trans hx167_2; replace hx167_3 := (HB.out.cell (World.block_lt_of_cell? w _ hx167_3)).trans hx167_3; replace hx167_4 := (HB.out.cell (World.block_lt_of_cell? w _ hx167_4)).trans hx167_4; replace p167 := eq_true p167; replace q167 := eq_true q167) | ((with_reducible refine gate_builtin (b := .append) (xs := #[.tmp 56, .tmp 63]) rfl ?_); at_builtin; refine Kd.R_append (Kd.int .i16) (w0 := w) w.heap.size rfl (.tmp 56) (.tmp 63) 93 74 (.int .i16 0) 2 rfl Try.underlying93 info74 rfl (by decide) (by omega) u3 x3_2 ((rd_T77 l0_0 (rd x3_1 x5_1)).f2.f1) [.int .i16 ((rd_T77 l0_0 (rd x3_1 x5_1)).f2.f1)] (fun _ => True) (fun _ => False) rfl rfl ?aP (fun _ hk => hk.elim) ?aF ?aO ?aB ?aS ?aL ?_; (case aP => exact rfl); (case aB => exact q71x1_); (case aF => exact (fun _ _ => trivial)); (case aO => exact q71x3_); (case aS => exact (below_size q71x1_)); (case aL => have := LMc39.out; omega); intro v169 w42 ho hb hg hat; rw [← Ny168.out] at ho; have n0_ := aM71_ (Kd.R_over' q71x4_ (Kd.R_typed q71x3_) (by decide) hg); have n1_ := aM71_ (hb); have n2_ := aM71_ (ho); clear HO_4; clear HB; clear HO_3; have HO_4 := n0_; have HB := n1_; have HO170 := n2_; clear n0_ n1_ n2_; clear ho hb hg hat))
      repeat (go_quiet (first | ((go_at_call 106; go_in)) | ((with_reducible refine gate_store (t := 4) (p := 55) rfl ?_); (try (rw [drewN_self wr]; generalize hq_ : World.drewN wr _ = wr; have n0_ := aM71_ (Kd.R_at hq_ HO_3.out); have n1_ := aM71_ (Kd.R_at hq_ HO_4.out); have n2_ := aM71_ (below_at hq_ HB.out); clear hq_ HO_3 HO_4 HB; have HO_3 := n0_; have HO_4 := n1_; have HB := n2_; clear n0_ n1_ n2_; (try (have HP40 := Kd.R_putg HO_4.out (((rd_T77 l0_0 (rd x3_1 x5_1)).f2.f1) : Int) true)))); refine store_event (t := 4) (p := 55) (v := ?vo_w41) (w1 := (wr.setCell ⟨go5, (((rd_T77 l0_0 (rd x3_1 x5_1)).f2.f1) : Int).toNat, none⟩ (.bool true))) ?hg ?ho ?hn ?hr ?_; (case ho => rfl); (case hg => rfl); (case hn => rfl); (case hr => first | (go_simp; done) | (go_simp; rfl)); intro w41 hw; have hg : wr.grownBy w41 (some go5) := (by rw [hw]; exact HP40.2); have hp_ : Kd.R Kd.bool 4 w41 w.heap.size (fun _ => True) (.slice (some ⟨go5, 0, none⟩) x4_2.length co5) y166 := (by rw [hw, Ny166.out]; exact HP40.1); clear HP40; have n0_ := aM71_ (Kd.R_over' (v := (.slice (some ⟨go5, 0, none⟩) x4_2.length co5)) q71x3_ (Kd.R_typed HO_4.out) (by decide) hg); have n1_ := aM71_ (hp_); have n2_ := aM71_ ((q71x5_ : Below w.heap.size w w41)); clear HO_3; clear HO_4; clear HB; have HO_3 := n0_; have HO_4 := n1_; have HB := n2_; clear n0_ n1_ n2_; clear hg hw hp_; have p167 : 0 ≤ ((rd x3_1 x5_1) : Int) := of_decide_eq_true q71x2_; have q167 : (rd x3_1 x5_1) < (l0_0.length : Int) := of_decide_eq_true q71x2_; obtain ⟨ad167, e167, hx167_0, hx167_1, hx167_2, hx167_3, hx167_4⟩ := at_T77 HR0_0.out (rd x3_1 x5_1) p167 q167; obtain rfl : ad157 = ad167 := (by injection e167); replace hx167_0 := (HB.out.cell (World.block_lt_of_cell? w _ hx167_0)).trans hx167_0; replace hx167_1 := (HB.out.cell (World.block_lt_of_cell? w _ hx167_1)).trans hx167_1; replace hx167_2 := (HB.out.cell (World.block_lt_of_cell? w _ hx167_2)).trans hx167_2; replace hx167_3 := (HB.out.cell (World.block_lt_of_cell? w _ hx167_3)).trans hx167_3; replace hx167_4 := (HB.out.cell (World.block_lt_of_cell? w _ hx167_4)).trans hx167_4; replace p167 := eq_true p167; replace q167 := eq_true q167) | ((with_reducible refine gate_builtin (b := .append) (xs := #[.tmp 56, .tmp 63]) rfl ?_); at_builtin; refine Kd.R_append (Kd.int .i16) (w0 := w) w.heap.size rfl (.tmp 56) (.tmp 63) 93 74 (.int .i16 0) 2 rfl Try.underlying93 info74 rfl (by decide) (by omega) u3 x3_2 ((rd_T77 l0_0 (rd x3_1 x5_1)).f2.f1) [.int .i16 ((rd_T77 l0_0 (rd x3_1 x5_1)).f2.f1)] (fun _ => True) (fun _ => False) rfl rfl ?aP (fun _ hk => hk.elim) ?aF ?aO ?aB ?aS ?aL ?_; (case aP => exact rfl); (case aB => exact q71x1_); (case aF => exact (fun _ _ => trivial)); (case aO => exact q71x3_); (case aS => exact (below_size q71x1_)); (case aL => have := LMc39.out; omega); intro v169 w42 ho hb hg hat; rw [← Ny168.out] at ho; have n0_ := aM71_ (Kd.R_over' q71x4_ (Kd.R_typed q71x3_) (by decide) hg); have n1_ := aM71_ (hb); have n2_ := aM71_ (ho); clear HO_4; clear HB; clear HO_3; have HO_4 := n0_; have HB := n1_; have HO170 := n2_; clear n0_ n1_ n2_; clear ho hb hg hat)); try go_wp2_with (first | ((go_at_call 106; go_in)) | ((with_reducible refine gate_store (t := 4) (p := 55) rfl ?_); (try (rw [drewN_self wr]; generalize hq_ : World.drewN wr _ = wr; have n0_ := aM71_ (Kd.R_at hq_ HO_3.out); have n1_ := aM71_ (Kd.R_at hq_ HO_4.out); have n2_ := aM71_ (below_at hq_ HB.out); clear hq_ HO_3 HO_4 HB; have HO_3 := n0_; have HO_4 := n1_; have HB := n2_; clear n0_ n1_ n2_; (try (have HP40 := Kd.R_putg HO_4.out (((rd_T77 l0_0 (rd x3_1 x5_1)).f2.f1) : Int) true)))); refine store_event (t := 4) (p := 55) (v := ?vo_w41) (w1 := (wr.setCell ⟨go5, (((rd_T77 l0_0 (rd x3_1 x5_1)).f2.f1) : Int).toNat, none⟩ (.bool true))) ?hg ?ho ?hn ?hr ?_; (case ho => rfl); (case hg => rfl); (case hn => rfl); (case hr => first | (go_simp; done) | (go_simp; rfl)); intro w41 hw; have hg : wr.grownBy w41 (some go5) := (by rw [hw]; exact HP40.2); have hp_ : Kd.R Kd.bool 4 w41 w.heap.size (fun _ => True) (.slice (some ⟨go5, 0, none⟩) x4_2.length co5) y166 := (by rw [hw, Ny166.out]; exact HP40.1); clear HP40; have n0_ := aM71_ (Kd.R_over' (v := (.slice (some ⟨go5, 0, none⟩) x4_2.length co5)) q71x3_ (Kd.R_typed HO_4.out) (by decide) hg); have n1_ := aM71_ (hp_); have n2_ := aM71_ ((q71x5_ : Below w.heap.size w w41)); clear HO_3; clear HO_4; clear HB; have HO_3 := n0_; have HO_4 := n1_; have HB := n2_; clear n0_ n1_ n2_; clear hg hw hp_; have p167 : 0 ≤ ((rd x3_1 x5_1) : Int) := of_decide_eq_true q71x2_; have q167 : (rd x3_1 x5_1) < (l0_0.length : Int) := of_decide_eq_true q71x2_; obtain ⟨ad167, e167, hx167_0, hx167_1, hx167_2, hx167_3, hx167_4⟩ := at_T77 HR0_0.out (rd x3_1 x5_1) p167 q167; obtain rfl : ad157 = ad167 := (by injection e167); replace hx167_0 := (HB.out.cell (World.block_lt_of_cell? w _ hx167_0)).trans hx167_0; replace hx167_1 := (HB.out.cell (World.block_lt_of_cell? w _ hx167_1)).trans hx167_1; replace hx167_2 := (HB.out.cell (World.block_lt_of_cell? w _ hx167_2)).trans hx167_2; replace hx167_3 := (HB.out.cell (World.block_lt_of_cell? w _ hx167_3)).trans hx167_3; replace hx167_4 := (HB.out.cell (World.block_lt_of_cell? w _ hx167_4)).trans hx167_4; replace p167 := eq_true p167; replace q167 := eq_true q167) | ((with_reducible refine gate_builtin (b := .append) (xs := #[.tmp 56, .tmp 63]) rfl ?_); at_builtin; refine Kd.R_append (Kd.int .i16) (w0 := w) w.heap.size rfl (.tmp 56) (.tmp 63) 93 74 (.int .i16 0) 2 rfl Try.underlying93 info74 rfl (by decide) (by omega) u3 x3_2 ((rd_T77 l0_0 (rd x3_1 x5_1)).f2.f1) [.int .i16 ((rd_T77 l0_0 (rd x3_1 x5_1)).f2.f1)] (fun _ => True) (fun _ => False) rfl rfl ?aP (fun _ hk => hk.elim) ?aF ?aO ?aB ?aS ?aL ?_; (case aP => exact rfl); (case aB => exact q71x1_); (case aF => exact (fun _ _ => trivial)); (case aO => exact q71x3_); (case aS => exact (below_size q71x1_)); (case aL => have := LMc39.out; omega); intro v169 w42 ho hb hg hat; rw [← Ny168.out] at ho; have n0_ := aM71_ (Kd.R_over' q71x4_ (Kd.R_typed q71x3_) (by decide) hg); have n1_ := aM71_ (hb); have n2_ := aM71_ (ho); clear HO_4; clear HB; clear HO_3; have HO_4 := n0_; have HB := n1_; have HO170 := n2_; clear n0_ n1_ n2_; clear ho hb hg hat)))
      (try simp only [← hl4_2])
      go_roundg k2
      case measure => have := HK1.out; have := HK2.out; omega
      case rel => exact ⟨(y168), (y166), (1 + 1), q71x7_, H', ⟨by have := HK1.out; have := HK2.out; omega⟩, ⟨by (try simp only [hl4_1]); (try simp only [hl4_2]); (with_reducible repeat (first | apply Kd.R_alloc | apply Kd.R_drewN | apply Kd.R_drew)); exact HO170.out⟩, ⟨by (try simp only [hl4_1]); (try simp only [hl4_2]); (with_reducible repeat (first | apply Kd.R_alloc | apply Kd.R_drewN | apply Kd.R_drew)); exact HO_4.out⟩, ⟨by repeat (first | (with_reducible first | exact HB.out | apply below_alloc | apply pw_below_drewN | apply below_drew1) | exact HB.out)⟩⟩
     rw [if_neg c33] at H
     by_cases c43 : x7_2 = 2
     rotate_left
     ·rw [if_neg c43] at H
      exact absurd H (by simp)
     subst c43
     have H1 : (if 0 ≤ ((rd_T77 l0_0 (rd x3_1 x5_1)).f2.f2) then (if ((rd_T77 l0_0 (rd x3_1 x5_1)).f2.f2) < (x4_2.length : Int) then (if (rdOf false x4_2 ((rd_T77 l0_0 (rd x3_1 x5_1)).f2.f2) = true) then (spec_l06Reached.l1 k2 x3_2 x4_2 x5_1 (2 + 1) (rd x3_1 x5_1) l0_0) else (if x3_2.length < 70368744177664 then (spec_l06Reached.l1 k2 (x3_2 ++ [(rd_T77 l0_0 (rd x3_1 x5_1)).f2.f2]) (x4_2.set (((rd_T77 l0_0 (rd x3_1 x5_1)).f2.f2) : Int).toNat true) x5_1 (2 + 1) (rd x3_1 x5_1) l0_0) else (none))) else (none)) else (none)) = some r := by rw [if_pos rfl] at H; exact H
     clear H
     have H := H1
     clear H1
     by_cases c44 : 0 ≤ ((rd_T77 l0_0 (rd x3_1 x5_1)).f2.f2)
     rotate_left
     ·rw [if_neg c44] at H
      exact absurd H (by simp)
     rw [if_pos c44] at H
     have c44b0 : decide (0 ≤ ((rd_T77 l0_0 (rd x3_1 x5_1)).f2.f2)) = true := decide_eq_true c44
     clear c44
     by_cases c45 : ((rd_T77 l0_0 (rd x3_1 x5_1)).f2.f2) < (x4_2.length : Int)
     rotate_left
     ·rw [if_neg c45] at H
      exact absurd H (by simp)
     rw [if_pos c45] at H
     have c45b0 : decide (((rd_T77 l0_0 (rd x3_1 x5_1)).f2.f2) < (x4_2.length : Int)) = true := decide_eq_true c45
     (try (have c45b0hl4_1 := c45b0; rw [hl4_1] at c45b0hl4_1))
     (try (have c45b0hl4_2 := c45b0; rw [hl4_2] at c45b0hl4_2))
     clear c45
     obtain ⟨bq46, hbq46⟩ : ∃ b_ : Bool, b_ = (rdOf false x4_2 ((rd_T77 l0_0 (rd x3_1 x5_1)).f2.f2)) := ⟨_, rfl⟩
     replace H : (if (bq46 = true) then (spec_l06Reached.l1 k2 x3_2 x4_2 x5_1 (2 + 1) (rd x3_1 x5_1) l0_0) else (if x3_2.length < 70368744177664 then (spec_l06Reached.l1 k2 (x3_2 ++ [(rd_T77 l0_0 (rd x3_1 x5_1)).f2.f2]) (x4_2.set (((rd_T77 l0_0 (rd x3_1 x5_1)).f2.f2) : Int).toNat true) x5_1 (2 + 1) (rd x3_1 x5_1) l0_0) else (none))) = some r := by rw [← hbq46] at H; exact H
     have Nbq46 := aM71_ hbq46
     clear hbq46
     by_cases c47 : (bq46 = true)
     ·subst c47
      have H1 : (spec_l06Reached.l1 k2 x3_2 x4_2 x5_1 (2 + 1) (rd x3_1 x5_1) l0_0) = some r := by rw [if_pos rfl] at H; exact H
      clear H
      have H := H1
      clear H1
      have H' := aM71_ H
      clear H
      have p158 : 0 ≤ ((rd x3_1 x5_1) : Int) := of_decide_eq_true q71x2_
      have q158 : (rd x3_1 x5_1) < (l0_0.length : Int) := of_decide_eq_true q71x2_
      obtain ⟨ad158, e158, hx158_0, hx158_1, hx158_2, hx158_3, hx158_4⟩ := at_T77 HR0_0.out (rd x3_1 x5_1) p158 q158
      obtain rfl : ad157 = ad158 := (by injection e158)
      replace hx158_0 := (HB.out.cell (World.block_lt_of_cell? w _ hx158_0)).trans hx158_0
      replace hx158_1 := (HB.out.cell (World.block_lt_of_cell? w _ hx158_1)).trans hx158_1
      replace hx158_2 := (HB.out.cell (World.block_lt_of_cell? w _ hx158_2)).trans hx158_2
      replace hx158_3 := (HB.out.cell (World.block_lt_of_cell? w _ hx158_3)).trans hx158_3
      replace hx158_4 := (HB.out.cell (World.block_lt_of_cell? w _ hx158_4)).trans hx158_4
      replace p158 := eq_true p158
      replace q158 := eq_true q158
      have p171 : 0 ≤ (((rd_T77 l0_0 (rd x3_1 x5_1)).f2.f2) : Int) := of_decide_eq_true q71x2_
      have q171 : ((rd_T77 l0_0 (rd x3_1 x5_1)).f2.f2) < (x4_2.length : Int) := of_decide_eq_true q71x2_
      obtain ⟨ad171, e171, hx171_0⟩ := Kd.at_bool (Kd.R_reads' HO_4.out).2.2 ((rd_T77 l0_0 (rd x3_1 x5_1)).f2.f2) p171 q171
      (try rw [← Nbq46.out] at hx171_0)
      obtain rfl : (⟨go5, 0, none⟩ : Addr) = ad171 := (by injection e171)
      (first | simp only [add_plain] at hx171_0 | simp only [add_at] at hx171_0 | simp only [Addr.add, Nat.zero_add] at hx171_0 | skip)
      replace p171 := eq_true p171
      replace q171 := eq_true q171
      go_wp2_with (first | ((go_at_call 106; go_in)))
      repeat (go_quiet (first | ((go_at_call 106; go_in))); try go_wp2_with (first | ((go_at_call 106; go_in))))
      (try simp only [← hl4_2])
      go_roundg k2
      case measure => have := HK1.out; have := HK2.out; omega
      case rel => exact ⟨(x3_2), (x4_2), (2 + 1), q71x7_, H', ⟨by have := HK1.out; have := HK2.out; omega⟩, ⟨by (try simp only [hl4_1]); (try simp only [hl4_2]); (with_reducible repeat (first | apply Kd.R_alloc | apply Kd.R_drewN | apply Kd.R_drew)); exact HO_3.out⟩, ⟨by (try simp only [hl4_1]); (try simp only [hl4_2]); (with_reducible repeat (first | apply Kd.R_alloc | apply Kd.R_drewN | apply Kd.R_drew)); exact HO_4.out⟩, ⟨by repeat (first | (with_reducible first | exact HB.out | apply below_alloc | apply pw_below_drewN | apply below_drew1) | exact HB.out)⟩⟩
     replace c47 := Bool.eq_false_iff.mpr c47
     subst c47
     have H1 : (if x3_2.length < 70368744177664 then (spec_l06Reached.l1 k2 (x3_2 ++ [(rd_T77 l0_0 (rd x3_1 x5_1)).f2.f2]) (x4_2.set (((rd_T77 l0_0 (rd x3_1 x5_1)).f2.f2) : Int).toNat true) x5_1 (2 + 1) (rd x3_1 x5_1) l0_0) else (none)) = some r := by rw [if_neg (show ¬ (false = true) by decide)] at H; exact H
     clear H
     have H := H1
     clear H1
     obtain ⟨y172, hy172⟩ : ∃ y_ : List Bool, y_ = (x4_2.set (((rd_T77 l0_0 (rd x3_1 x5_1)).f2.f2) : Int).toNat true) := ⟨_, rfl⟩
     replace H : (if x3_2.length < 70368744177664 then (spec_l06Reached.l1 k2 (x3_2 ++ [(rd_T77 l0_0 (rd x3_1 x5_1)).f2.f2]) y172 x5_1 (2 + 1) (rd x3_1 x5_1) l0_0) else (none)) = some r := by first | (rw [hy172]; with_reducible exact H) | (have H2_ := (Option.bind_some _ _).symm.trans H; rw [hy172]; with_reducible exact H2_) | (have H2_ := (Option.bind_some _ _).symm.trans H; with_reducible exact H2_) | with_reducible exact H | (rw [hy172]; exact H) | exact H
     have Ny172 := aM71_ hy172
     clear hy172
     by_cases c49 : x3_2.length < 70368744177664
     rotate_left
     ·rw [if_neg c49] at H
      exact absurd H (by simp)
     rw [if_pos c49] at H
     have LMc49 := aM71_ c49
     clear c49
     obtain ⟨y174, hy174⟩ : ∃ y_ : List Int, y_ = (x3_2 ++ [(rd_T77 l0_0 (rd x3_1 x5_1)).f2.f2]) := ⟨_, rfl⟩
     replace H : (spec_l06Reached.l1 k2 y174 y172 x5_1 (2 + 1) (rd x3_1 x5_1) l0_0) = some r := by first | (rw [hy174]; with_reducible exact H) | (have H2_ := (Option.bind_some _ _).symm.trans H; rw [hy174]; with_reducible exact H2_) | (have H2_ := (Option.bind_some _ _).symm.trans H; with_reducible exact H2_) | with_reducible exact H | (rw [hy174]; exact H) | exact H
     have Ny174 := aM71_ hy174
     clear hy174
     have H' := aM71_ H
     clear H
     have p158 : 0 ≤ ((rd x3_1 x5_1) : Int) := of_decide_eq_true q71x2_
     have q158 : (rd x3_1 x5_1) < (l0_0.length : Int) := of_decide_eq_true q71x2_
     obtain ⟨ad158, e158, hx158_0, hx158_1, hx158_2, hx158_3, hx158_4⟩ := at_T77 HR0_0.out (rd x3_1 x5_1) p158 q158
     obtain rfl : ad157 = ad158 := (by injection e158)
     replace hx158_0 := (HB.out.cell (World.block_lt_of_cell? w _ hx158_0)).trans hx158_0
     replace hx158_1 := (HB.out.cell (World.block_lt_of_cell? w _ hx158_1)).trans hx158_1
     replace hx158_2 := (HB.out.cell (World.block_lt_of_cell? w _ hx158_2)).trans hx158_2
     replace hx158_3 := (HB.out.cell (World.block_lt_of_cell? w _ hx158_3)).trans hx158_3
     replace hx158_4 := (HB.out.cell (World.block_lt_of_cell? w _ hx158_4)).trans hx158_4
     replace p158 := eq_true p158
     replace q158 := eq_true q158
     have p171 : 0 ≤ (((rd_T77 l0_0 (rd x3_1 x5_1)).f2.f2) : Int) := of_decide_eq_true q71x2_
     have q171 : ((rd_T77 l0_0 (rd x3_1 x5_1)).f2.f2) < (x4_2.length : Int) := of_decide_eq_true q71x2_
     obtain ⟨ad171, e171, hx171_0⟩ := Kd.at_bool (Kd.R_reads' HO_4.out).2.2 ((rd_T77 l0_0 (rd x3_1 x5_1)).f2.f2) p171 q171
     (try rw [← Nbq46.out] at hx171_0)
     obtain rfl : (⟨go5, 0, none⟩ : Addr) = ad171 := (by injection e171)
     (first | simp only [add_plain] at hx171_0 | simp only [add_at] at hx171_0 | simp only [Addr.add, Nat.zero_add] at hx171_0 | skip)
     replace p171 := eq_true p171
     replace q171 := eq_true q171
     have p48 : 0 ≤ (((rd_T77 l0_0 (rd x3_1 x5_1)).f2.f2) : Int) := of_decide_eq_true q71x2_
     have q48 : (((rd_T77 l0_0 (rd x3_1 x5_1)).f2.f2) : Int) < ((x4_2.length : Int) : Int) := of_decide_eq_true q71x2_
     obtain ⟨hx48_0, hf48_0⟩ := Kd.R_celln false HO_4.out (((rd_T77 l0_0 (rd x3_1 x5_1)).f2.f2) : Int) p48 q48
     replace p48 := eq_true p48
     replace q48 := eq_true q48
     have HP50 := Kd.R_putg HO_4.out (((rd_T77 l0_0 (rd x3_1 x5_1)).f2.f2) : Int) true
     go_wp2_with (first | ((go_at_call 106; go_in)) | ((with_reducible refine gate_store (t := 4) (p := 55) rfl ?_); (try (rw [drewN_self wr]; generalize hq_ : World.drewN wr _ = wr; have n0_ := aM71_ (Kd.R_at hq_ HO_3.out); have n1_ := aM71_ (Kd.R_at hq_ HO_4.out); have n2_ := aM71_ (below_at hq_ HB.out); clear hq_ HO_3 HO_4 HB; have HO_3 := n0_; have HO_4 := n1_; have HB := n2_; clear n0_ n1_ n2_; (try (have HP50 := Kd.R_putg HO_4.out (((rd_T77 l0_0 (rd x3_1 x5_1)).f2.f2) : Int) true)))); refine store_event (t := 4) (p := 55) (v := ?vo_w51) (w1 := (wr.setCell ⟨go5, (((rd_T77 l0_0 (rd x3_1 x5_1)).f2.f2) : Int).toNat, none⟩ (.bool true))) ?hg ?ho ?hn ?hr ?_; (case ho => rfl); (case hg => rfl); (case hn => rfl); (case hr => first | (go_simp; done) | (go_simp; rfl)); intro w51 hw; have hg : wr.grownBy w51 (some go5) := (by rw [hw]; exact HP50.2); have hp_ : Kd.R Kd.bool 4 w51 w.heap.size (fun _ => True) (.slice (some ⟨go5, 0, none⟩) x4_2.length co5) y172 := (by rw [hw, Ny172.out]; exact HP50.1); clear HP50; have n0_ := aM71_ (Kd.R_over' (v := (.slice (some ⟨go5, 0, none⟩) x4_2.length co5)) q71x3_ (Kd.R_typed HO_4.out) (by decide) hg); have n1_ := aM71_ (hp_); have n2_ := aM71_ ((q71x5_ : Below w.heap.size w w51)); clear HO_3; clear HO_4; clear HB; have HO_3 := n0_; have HO_4 := n1_; have HB := n2_; clear n0_ n1_ n2_; clear hg hw hp_; have p173 : 0 ≤ ((rd x3_1 x5_1) : Int) := of_decide_eq_true q71x2_; have q173 : (rd x3_1 x5_1) < (l0_0.length : Int) := of_decide_eq_true q71x2_; obtain ⟨ad173, e173, hx173_0, hx173_1, hx173_2, hx173_3, hx173_4⟩ := at_T77 HR0_0.out (rd x3_1 x5_1) p173 q173; obtain rfl : ad157 = ad173 := (by injection e173); replace hx173_0 := (HB.out.cell (World.block_lt_of_cell? w _ hx173_0)).trans hx173_0; replace hx173_1 := (HB.out.cell (World.block_lt_of_cell? w _ hx173_1)).trans hx173_1; replace hx173_2 := (HB.out.cell (World.block_lt_of_cell? w _ hx173_2)).trans hx173_2; replace hx173_3 := (HB.out.cell (World.block_lt_of_cell? w _ hx173_3)).trans hx173_3; replace hx173_4 := (HB.out.cell (World.block_lt_of_cell? w _ hx173_4)).trans hx173_4; replace p173 := eq_true p173; replace q173 := eq_true q173) | ((with_reducible refine gate_builtin (b := .append) (xs := #[.tmp 56, .tmp 63]) rfl ?_); at_builtin; refine Kd.R_append (Kd.int .i16) (w0 := w) w.heap.size rfl (.tmp 56) (.tmp 63) 93 74 (.int .i16 0) 2 rfl Try.underlying93 info74 rfl (by decide) (by omega) u3 x3_2 ((rd_T77 l0_0 (rd x3_1 x5_1)).f2.f2) [.int .i16 ((rd_T77 l0_0 (rd x3_1 x5_1)).f2.f2)] (fun _ => True) (fun _ => False) rfl rfl ?aP (fun _ hk => hk.elim) ?aF ?aO ?aB ?aS ?aL ?_; (case aP => exact rfl); (case aB => exact q71x1_); (case aF => exact (fun _ _ => trivial)); (case aO => exact q71x3_); (case aS => exact (below_size q71x1_)); (case aL => have := LMc49.out; omega); intro v175 w52 ho hb hg hat; rw [← Ny174.out] at ho; have n0_ := aM71_ (Kd.R_over' q71x4_ (Kd.R_typed q71x3_) (by decide) hg); have n1_ := aM71_ (hb); have n2_ := aM71_ (ho); clear HO_4; clear HB; clear HO_3; have HO_4 := n0_; have HB := n1_; have HO176 := n2_; clear n0_ n1_ n2_; clear ho hb hg hat))
     repeat (go_quiet (first | ((go_at_call 106; go_in)) | ((with_reducible refine gate_store (t := 4) (p := 55) rfl ?_); (try (rw [drewN_self wr]; generalize hq_ : World.drewN wr _ = wr; have n0_ := aM71_ (Kd.R_at hq_ HO_3.out); have n1_ := aM71_ (Kd.R_at hq_ HO_4.out); have n2_ := aM71_ (below_at hq_ HB.out); clear hq_ HO_3 HO_4 HB; have HO_3 := n0_; have HO_4 := n1_; have HB := n2_; clear n0_ n1_ n2_; (try (have HP50 := Kd.R_putg HO_4.out (((rd_T77 l0_0 (rd x3_1 x5_1)).f2.f2) : Int) true)))); refine store_event (t := 4) (p := 55) (v := ?vo_w51) (w1 := (wr.setCell ⟨go5, (((rd_T77 l0_0 (rd x3_1 x5_1)).f2.f2) : Int).toNat, none⟩ (.bool true))) ?hg ?ho ?hn ?hr ?_; (case ho => rfl); (case hg => rfl); (case hn => rfl); (case hr => first | (go_simp; done) | (go_simp; rfl)); intro w51 hw; have hg : wr.grownBy w51 (some go5) := (by rw [hw]; exact HP50.2); have hp_ : Kd.R Kd.bool 4 w51 w.heap.size (fun _ => True) (.slice (some ⟨go5, 0, none⟩) x4_2.length co5) y172 := (by rw [hw, Ny172.out]; exact HP50.1); clear HP50; have n0_ := aM71_ (Kd.R_over' (v := (.slice (some ⟨go5, 0, none⟩) x4_2.length co5)) q71x3_ (Kd.R_typed HO_4.out) (by decide) hg); have n1_ := aM71_ (hp_); have n2_ := aM71_ ((q71x5_ : Below w.heap.size w w51)); clear HO_3; clear HO_4; clear HB; have HO_3 := n0_; have HO_4 := n1_; have HB := n2_; clear n0_ n1_ n2_; clear hg hw hp_; have p173 : 0 ≤ ((rd x3_1 x5_1) : Int) := of_decide_eq_true q71x2_; have q173 : (rd x3_1 x5_1) < (l0_0.length : Int) := of_decide_eq_true q71x2_; obtain ⟨ad173, e173, hx173_0, hx173_1, hx173_2, hx173_3, hx173_4⟩ := at_T77 HR0_0.out (rd x3_1 x5_1) p173 q173; obtain rfl : ad157 = ad173 := (by injection e173); replace hx173_0 := (HB.out.cell (World.block_lt_of_cell? w _ hx173_0)).trans hx173_0; replace hx173_1 := (HB.out.cell (World.block_lt_of_cell? w _ hx173_1)).trans hx173_1; replace hx173_2 := (HB.out.cell (World.block_lt_of_cell? w _ hx173_2)).trans hx173_2; replace hx173_3 := (HB.out.cell (World.block_lt_of_cell? w _ hx173_3)).trans hx173_3; replace hx173_4 := (HB.out.cell (World.block_lt_of_cell? w _ hx173_4)).trans hx173_4; replace p173 := eq_true p173; replace q173 := eq_true q173) | ((with_reducible refine gate_builtin (b := .append) (xs := #[.tmp 56, .tmp 63]) rfl ?_); at_builtin; refine Kd.R_append (Kd.int .i16) (w0 := w) w.heap.size rfl (.tmp 56) (.tmp 63) 93 74 (.int .i16 0) 2 rfl Try.underlying93 info74 rfl (by decide) (by omega) u3 x3_2 ((rd_T77 l0_0 (rd x3_1 x5_1)).f2.f2) [.int .i16 ((rd_T77 l0_0 (rd x3_1 x5_1)).f2.f2)] (fun _ => True) (fun _ => False) rfl rfl ?aP (fun _ hk => hk.elim) ?aF ?aO ?aB ?aS ?aL ?_; (case aP => exact rfl); (case aB => exact q71x1_); (case aF => exact (fun _ _ => trivial)); (case aO => exact q71x3_); (case aS => exact (below_size q71x1_)); (case aL => have := LMc49.out; omega); intro v175 w52 ho hb hg hat; rw [← Ny174.out] at ho; have n0_ := aM71_ (Kd.R_over' q71x4_ (Kd.R_typed q71x3_) (by decide) hg); have n1_ := aM71_ (hb); have n2_ := aM71_ (ho); clear HO_4; clear HB; clear HO_3; have HO_4 := n0_; have HB := n1_; have HO176 := n2_; clear n0_ n1_ n2_; clear ho hb hg hat)); try go_wp2_with (first | ((go_at_call 106; go_in)) | ((with_reducible refine gate_store (t := 4) (p := 55) rfl ?_); (try (rw [drewN_self wr]; generalize hq_ : World.drewN wr _ = wr; have n0_ := aM71_ (Kd.R_at hq_ HO_3.out); have n1_ := aM71_ (Kd.R_at hq_ HO_4.out); have n2_ := aM71_ (below_at hq_ HB.out); clear hq_ HO_3 HO_4 HB; have HO_3 := n0_; have HO_4 := n1_; have HB := n2_; clear n0_ n1_ n2_; (try (have HP50 := Kd.R_putg HO_4.out (((rd_T77 l0_0 (rd x3_1 x5_1)).f2.f2) : Int) true)))); refine store_event (t := 4) (p := 55) (v := ?vo_w51) (w1 := (wr.setCell ⟨go5, (((rd_T77 l0_0 (rd x3_1 x5_1)).f2.f2) : Int).toNat, none⟩ (.bool true))) ?hg ?ho ?hn ?hr ?_; (case ho => rfl); (case hg => rfl); (case hn => rfl); (case hr => first | (go_simp; done) | (go_simp; rfl)); intro w51 hw; have hg : wr.grownBy w51 (some go5) := (by rw [hw]; exact HP50.2); have hp_ : Kd.R Kd.bool 4 w51 w.heap.size (fun _ => True) (.slice (some ⟨go5, 0, none⟩) x4_2.length co5) y172 := (by rw [hw, Ny172.out]; exact HP50.1); clear HP50; have n0_ := aM71_ (Kd.R_over' (v := (.slice (some ⟨go5, 0, none⟩) x4_2.length co5)) q71x3_ (Kd.R_typed HO_4.out) (by decide) hg); have n1_ := aM71_ (hp_); have n2_ := aM71_ ((q71x5_ : Below w.heap.size w w51)); clear HO_3; clear HO_4; clear HB; have HO_3 := n0_; have HO_4 := n1_; have HB := n2_; clear n0_ n1_ n2_; clear hg hw hp_; have p173 : 0 ≤ ((rd x3_1 x5_1) : Int) := of_decide_eq_true q71x2_; have q173 : (rd x3_1 x5_1) < (l0_0.length : Int) := of_decide_eq_true q71x2_; obtain ⟨ad173, e173, hx173_0, hx173_1, hx173_2, hx173_3, hx173_4⟩ := at_T77 HR0_0.out (rd x3_1 x5_1) p173 q173; obtain rfl : ad157 = ad173 := (by injection e173); replace hx173_0 := (HB.out.cell (World.block_lt_of_cell? w _ hx173_0)).trans hx173_0; replace hx173_1 := (HB.out.cell (World.block_lt_of_cell? w _ hx173_1)).trans hx173_1; replace hx173_2 := (HB.out.cell (World.block_lt_of_cell? w _ hx173_2)).trans hx173_2; replace hx173_3 := (HB.out.cell (World.block_lt_of_cell? w _ hx173_3)).trans hx173_3; replace hx173_4 := (HB.out.cell (World.block_lt_of_cell? w _ hx173_4)).trans hx173_4; replace p173 := eq_true p173; replace q173 := eq_true q173) | ((with_reducible refine gate_builtin (b := .append) (xs := #[.tmp 56, .tmp 63]) rfl ?_); at_builtin; refine Kd.R_append (Kd.int .i16) (w0 := w) w.heap.size rfl (.tmp 56) (.tmp 63) 93 74 (.int .i16 0) 2 rfl Try.underlying93 info74 rfl (by decide) (by omega) u3 x3_2 ((rd_T77 l0_0 (rd x3_1 x5_1)).f2.f2) [.int .i16 ((rd_T77 l0_0 (rd x3_1 x5_1)).f2.f2)] (fun _ => True) (fun _ => False) rfl rfl ?aP (fun _ hk => hk.elim) ?aF ?aO ?aB ?aS ?aL ?_; (case aP => exact rfl); (case aB => exact q71x1_); (case aF => exact (fun _ _ => trivial)); (case aO => exact q71x3_); (case aS => exact (below_size q71x1_)); (case aL => have := LMc49.out; omega); intro v175 w52 ho hb hg hat; rw [← Ny174.out] at ho; have n0_ := aM71_ (Kd.R_over' q71x4_ (Kd.R_typed q71x3_) (by decide) hg); have n1_ := aM71_ (hb); have n2_ := aM71_ (ho); clear HO_4; clear HB; clear HO_3; have HO_4 := n0_; have HB := n1_; have HO176 := n2_; clear n0_ n1_ n2_; clear ho hb hg hat)))
     (try simp only [← hl4_2])
     go_roundg k2
     case measure => have := HK1.out; have := HK2.out; omega
     case rel => exact ⟨(y174), (y172), (2 + 1), q71x7_, H', ⟨by have := HK1.out; have := HK2.out; omega⟩, ⟨by (try simp only [hl4_1]); (try simp only [hl4_2]); (with_reducible repeat (first | apply Kd.R_alloc | apply Kd.R_drewN | apply Kd.R_drew)); exact HO176.out⟩, ⟨by (try simp only [hl4_1]); (try simp only [hl4_2]); (with_reducible repeat (first | apply Kd.R_alloc | apply Kd.R_drewN | apply Kd.R_drew)); exact HO_4.out⟩, ⟨by repeat (first | (with_reducible first | exact HB.out | apply below_alloc | apply pw_below_drewN | apply below_drew1) | exact HB.out)⟩⟩
end Go.Proofs.Ytlccefmimpmgjaa.MFnExactIsProductive
