/- Functions of the program as Lean functions, and the proof that the code comes to what they say. Written by a program of this session (myprint.py). -/
import Derived.Test.YtlccefmimpmgjaaMFnExactIsProductivex0
import Derived.Test.YtlccefmimpmgjaaMFnExactIsProductivex3
namespace Go.Proofs.Ytlccefmimpmgjaa.MFnExactIsProductive
open Go.RowKit Go.Proofs.Ytlccefmimpmgjaa.MOpen Go.Proofs.YtlccefmimpmgjaaW.PrintWords Go.Proofs.YtlccefmimpmgjaaW.PrintLast Go.Proofs.YtlccefmimpmgjaaW.PrintMore
attribute [local go_sem] max2_int min2_int max_two min_two max_three min_three max_four min_four   -- for this text's walks alone
set_option linter.unusedVariables false
set_option linter.unusedSimpArgs false

set_option linter.defProp false
def aM68_ := @Aside0.mk
theorem q68x1_ {P : Prop} (h : P := by first | (with_reducible assumption) | assumption) : P := h
theorem q68x2_ {P : Prop} (h : P := by repeat (first | (with_reducible first | exact HB.out | apply below_alloc | apply pw_below_drewN | apply below_drew1) | exact HB.out)) : P := h
theorem q68x3_ {P : Prop} (h : P := by first | rfl | (simp; done) | (simp [*]; done)) : P := h
theorem q68x4_ {P : Prop} (h : P := by (with_reducible repeat (first | apply Kd.R_alloc | apply Kd.R_drewN | apply Kd.R_drew)); exact HO_3.out) : P := h
theorem q68x5_ {P : Prop} (h : P := by (with_reducible repeat (first | apply Kd.R_alloc | apply Kd.R_drewN | apply Kd.R_drew)); exact HO185.out) : P := h
/-! ### spec_l06Productive: function 68 -/
mutual
def spec_l06Productive.l0 : Nat → List Int → List Bool → Int → List (S77) → Option (Bool)
 | 0, _, _, _, _ => none
 | k + 1, x3, x4, x5, x1000 => if x5 < (x3.length : Int) then (spec_l06Productive.l1 k x3 x4 x5 0 x1000) else (spec_l06Productive.l3 k x3 x4 0)
def spec_l06Productive.l1 : Nat → List Int → List Bool → Int → Int → List (S77) → Option (Bool)
 | 0, _, _, _, _, _ => none
 | k + 1, x3, x4, x5, x6, x1000 => if x6 < (x3.length : Int) then (if 0 ≤ x6 then (if 0 ≤ (rd x3 x6) then (if (rd x3 x6) < (x1000.length : Int) then (spec_l06Productive.l2 k x3 x4 x5 x6 true 0 (rd x3 x6) x1000) else (none)) else (none)) else (none)) else (spec_l06Productive.l0 k x3 x4 (wrap64 (x5 + 1)) x1000)
def spec_l06Productive.l2 : Nat → List Int → List Bool → Int → Int → Bool → Int → Int → List (S77) → Option (Bool)
 | 0, _, _, _, _, _, _, _, _ => none
 | k + 1, x3, x4, x5, x6, x8, x9, x38, x1000 => if 0 ≤ x38 then (if x38 < (x1000.length : Int) then (if x9 < 3 then (if ((rd_T77 x1000 x38).f0) = 1 then (if x8 = true then (if x9 = 0 then (if 0 ≤ ((rd_T77 x1000 x38).f2.f0) then (if ((rd_T77 x1000 x38).f2.f0) < (x4.length : Int) then (spec_l06Productive.l2 k x3 x4 x5 x6 (rdOf false x4 ((rd_T77 x1000 x38).f2.f0)) (0 + 1) x38 x1000) else (none)) else (none)) else (if x9 = 1 then (if 0 ≤ ((rd_T77 x1000 x38).f2.f1) then (if ((rd_T77 x1000 x38).f2.f1) < (x4.length : Int) then (spec_l06Productive.l2 k x3 x4 x5 x6 (rdOf false x4 ((rd_T77 x1000 x38).f2.f1)) (1 + 1) x38 x1000) else (none)) else (none)) else (if x9 = 2 then (if 0 ≤ ((rd_T77 x1000 x38).f2.f2) then (if ((rd_T77 x1000 x38).f2.f2) < (x4.length : Int) then (spec_l06Productive.l2 k x3 x4 x5 x6 (rdOf false x4 ((rd_T77 x1000 x38).f2.f2)) (2 + 1) x38 x1000) else (none)) else (none)) else (none)))) else (spec_l06Productive.l2 k x3 x4 x5 x6 false (wrap64 (x9 + 1)) x38 x1000)) else (if 0 ≤ x6 then (if x6 < (x3.length : Int) then (if 0 ≤ (rd x3 x6) then (if (rd x3 x6) < (x4.length : Int) then (spec_l06Productive.l1 k x3 (x4.set ((rd x3 x6) : Int).toNat x8) x5 (wrap64 (x6 + 1)) x1000) else (none)) else (none)) else (none)) else (none))) else (if 0 ≤ x6 then (if x6 < (x3.length : Int) then (if 0 ≤ (rd x3 x6) then (if (rd x3 x6) < (x4.length : Int) then (spec_l06Productive.l1 k x3 (x4.set ((rd x3 x6) : Int).toNat x8) x5 (wrap64 (x6 + 1)) x1000) else (none)) else (none)) else (none)) else (none))) else (none)) else (none)
def spec_l06Productive.l3 : Nat → List Int → List Bool → Int → Option (Bool)
 | 0, _, _, _ => none
 | k + 1, x3, x4, x10 => if x10 < (x3.length : Int) then (if 0 ≤ x10 then (if 0 ≤ (rd x3 x10) then (if (rd x3 x10) < (x4.length : Int) then (if (rdOf false x4 (rd x3 x10) = true) then (spec_l06Productive.l3 k x3 x4 (wrap64 (x10 + 1))) else (some false)) else (none)) else (none)) else (none)) else (some true)
end
def spec_l06Productive.f (k : Nat) (l0_0 : List (S77)) : Option (Bool) := (spec_l06Reached.f k l0_0).bind fun t183 => (if 0 ≤ (l0_0.length : Int) then (if ((l0_0.length : Int) : Int).toNat ≤ 281474976710656 then (spec_l06Productive.l0 k t183 (List.replicate ((l0_0.length : Int) : Int).toNat false) 0 l0_0) else (none)) else (none))
theorem spec_l06Productive.mono_l : ∀ k, (∀ y0 y1 y2 y3, LeO (spec_l06Productive.l0 k y0 y1 y2 y3) (spec_l06Productive.l0 (k + 1) y0 y1 y2 y3)) ∧ (∀ y0 y1 y2 y3 y4, LeO (spec_l06Productive.l1 k y0 y1 y2 y3 y4) (spec_l06Productive.l1 (k + 1) y0 y1 y2 y3 y4)) ∧ (∀ y0 y1 y2 y3 y4 y5 y6 y7, LeO (spec_l06Productive.l2 k y0 y1 y2 y3 y4 y5 y6 y7) (spec_l06Productive.l2 (k + 1) y0 y1 y2 y3 y4 y5 y6 y7)) ∧ (∀ y0 y1 y2, LeO (spec_l06Productive.l3 k y0 y1 y2) (spec_l06Productive.l3 (k + 1) y0 y1 y2))
 | 0 => ⟨fun _ _ _ _ r h => by simp [spec_l06Productive.l0] at h, fun _ _ _ _ _ r h => by simp [spec_l06Productive.l1] at h, fun _ _ _ _ _ _ _ _ r h => by simp [spec_l06Productive.l2] at h, fun _ _ _ r h => by simp [spec_l06Productive.l3] at h⟩
 | k + 1 => by
  obtain ⟨ih0, ih1, ih2, ih3⟩ := spec_l06Productive.mono_l k
  refine ⟨?_, ?_, ?_, ?_⟩
  ·intro y0 y1 y2 y3
   unfold spec_l06Productive.l0
   repeat' first
   | (with_reducible exact ih0 _ _ _ _)
   | (with_reducible exact ih1 _ _ _ _ _)
   | (with_reducible exact ih2 _ _ _ _ _ _ _ _)
   | (with_reducible exact ih3 _ _ _)
   | (with_reducible exact spec_l06Reached.mono _ _)
   | (with_reducible exact LeO.refl _)
   | (with_reducible exact LeO.none _)
   | (with_reducible refine LeO.ite ?_ ?_)
   | (with_reducible refine LeO.bind ?_ (fun _ => ?_))
   | exact ih0 _ _ _ _
   | exact ih1 _ _ _ _ _
   | exact ih2 _ _ _ _ _ _ _ _
   | exact ih3 _ _ _
   | exact spec_l06Reached.mono _ _
   | exact LeO.none _
   | refine LeO.ite ?_ ?_
   | refine LeO.bind ?_ (fun _ => ?_)
  ·intro y0 y1 y2 y3 y4
   unfold spec_l06Productive.l1
   repeat' first
   | (with_reducible exact ih0 _ _ _ _)
   | (with_reducible exact ih1 _ _ _ _ _)
   | (with_reducible exact ih2 _ _ _ _ _ _ _ _)
   | (with_reducible exact ih3 _ _ _)
   | (with_reducible exact spec_l06Reached.mono _ _)
   | (with_reducible exact LeO.refl _)
   | (with_reducible exact LeO.none _)
   | (with_reducible refine LeO.ite ?_ ?_)
   | (with_reducible refine LeO.bind ?_ (fun _ => ?_))
   | exact ih0 _ _ _ _
   | exact ih1 _ _ _ _ _
   | exact ih2 _ _ _ _ _ _ _ _
   | exact ih3 _ _ _
   | exact spec_l06Reached.mono _ _
   | exact LeO.none _
   | refine LeO.ite ?_ ?_
   | refine LeO.bind ?_ (fun _ => ?_)
  ·intro y0 y1 y2 y3 y4 y5 y6 y7
   unfold spec_l06Productive.l2
   repeat' first
   | (with_reducible exact ih0 _ _ _ _)
   | (with_reducible exact ih1 _ _ _ _ _)
   | (with_reducible exact ih2 _ _ _ _ _ _ _ _)
   | (with_reducible exact ih3 _ _ _)
   | (with_reducible exact spec_l06Reached.mono _ _)
   | (with_reducible exact LeO.refl _)
   | (with_reducible exact LeO.none _)
   | (with_reducible refine LeO.ite ?_ ?_)
   | (with_reducible refine LeO.bind ?_ (fun _ => ?_))
   | exact ih0 _ _ _ _
   | exact ih1 _ _ _ _ _
   | exact ih2 _ _ _ _ _ _ _ _
   | exact ih3 _ _ _
   | exact spec_l06Reached.mono _ _
   | exact LeO.none _
   | refine LeO.ite ?_ ?_
   | refine LeO.bind ?_ (fun _ => ?_)
  intro y0 y1 y2
  unfold spec_l06Productive.l3
  repeat' first
  | (with_reducible exact ih0 _ _ _ _)
  | (with_reducible exact ih1 _ _ _ _ _)
  | (with_reducible exact ih2 _ _ _ _ _ _ _ _)
  | (with_reducible exact ih3 _ _ _)
  | (with_reducible exact spec_l06Reached.mono _ _)
  | (with_reducible exact LeO.refl _)
  | (with_reducible exact LeO.none _)
  | (with_reducible refine LeO.ite ?_ ?_)
  | (with_reducible refine LeO.bind ?_ (fun _ => ?_))
  | exact ih0 _ _ _ _
  | exact ih1 _ _ _ _ _
  | exact ih2 _ _ _ _ _ _ _ _
  | exact ih3 _ _ _
  | exact spec_l06Reached.mono _ _
  | exact LeO.none _
  | refine LeO.ite ?_ ?_
  | refine LeO.bind ?_ (fun _ => ?_)
theorem spec_l06Productive.mono : ∀ a0 k, LeO (spec_l06Productive.f k a0) (spec_l06Productive.f (k + 1) a0) := by
 intro a0 k
 obtain ⟨ih0, ih1, ih2, ih3⟩ := spec_l06Productive.mono_l k
 unfold spec_l06Productive.f
 repeat' first
   | (with_reducible exact ih0 _ _ _ _)
   | (with_reducible exact ih1 _ _ _ _ _)
   | (with_reducible exact ih2 _ _ _ _ _ _ _ _)
   | (with_reducible exact ih3 _ _ _)
   | (with_reducible exact spec_l06Reached.mono _ _)
   | (with_reducible exact LeO.refl _)
   | (with_reducible exact LeO.none _)
   | (with_reducible refine LeO.ite ?_ ?_)
   | (with_reducible refine LeO.bind ?_ (fun _ => ?_))
   | exact ih0 _ _ _ _
   | exact ih1 _ _ _ _ _
   | exact ih2 _ _ _ _ _ _ _ _
   | exact ih3 _ _ _
   | exact spec_l06Reached.mono _ _
   | exact LeO.none _
   | refine LeO.ite ?_ ?_
   | refine LeO.bind ?_ (fun _ => ?_)
set_option maxHeartbeats 8000000 in
set_option maxRecDepth 100000 in
theorem spec_l06Productive.calls (k : Nat) (B0_ O0_ : Nat) (A0_0 : Option Addr) (c0_0 : Nat) (l0_0 : List (S77)) (r : Bool) (w : World) (hr0_0 : Kd.C k77 w A0_0 l0_0.length l0_0) (hc0_0 : l0_0.length ≤ c0_0) (hq0_ : w.cell? ⟨B0_, O0_, none⟩ = some (.slice A0_0 l0_0.length c0_0)) (h : spec_l06Productive.f k l0_0 = some r) :
  Calls Try.prog 68 #[.pointer (some ⟨B0_, O0_, none⟩)] w fun e w' => e = .returned (.bool r) ∧ Below w.heap.size w w' := by
 have HR0_0 := aM68_ hr0_0
 have HC0_0 := aM68_ hc0_0
 clear hr0_0 hc0_0
 have HQ0_ := aM68_ hq0_
 clear hq0_
 have HB := aM68_ (Below.refl w.heap.size w)
 have H : ((spec_l06Reached.f k l0_0).bind fun t183 => (if 0 ≤ (l0_0.length : Int) then (if ((l0_0.length : Int) : Int).toNat ≤ 281474976710656 then (spec_l06Productive.l0 k t183 (List.replicate ((l0_0.length : Int) : Int).toNat false) 0 l0_0) else (none)) else (none))) = some r := h
 clear h
 replace H := Option.bind_eq_some_iff.mp H
 obtain ⟨t183, A20, H⟩ := H
 replace H : (if 0 ≤ (l0_0.length : Int) then (if ((l0_0.length : Int) : Int).toNat ≤ 281474976710656 then (spec_l06Productive.l0 k t183 (List.replicate ((l0_0.length : Int) : Int).toNat false) 0 l0_0) else (none)) else (none)) = some r := H
 have A2 := aM68_ A20
 clear A20
 by_cases c3 : 0 ≤ (l0_0.length : Int)
 rotate_left
 ·rw [if_neg c3] at H
  exact absurd H (by simp)

 rw [if_pos c3] at H
 have c3b0 := eq_true c3
 have c3b1 : decide (0 ≤ (l0_0.length : Int)) = true := decide_eq_true c3
 clear c3
 by_cases c4 : ((l0_0.length : Int) : Int).toNat ≤ 281474976710656
 rotate_left
 ·rw [if_neg c4] at H
  exact absurd H (by simp)
 rw [if_pos c4] at H
 have c4b0 := eq_true c4
 have c4b1 : decide (((l0_0.length : Int) : Int).toNat ≤ 281474976710656) = true := decide_eq_true c4
 clear c4
 obtain ⟨y186, hy186⟩ : ∃ y_ : List Bool, y_ = (List.replicate ((l0_0.length : Int) : Int).toNat false) := ⟨_, rfl⟩
 replace H : (spec_l06Productive.l0 k t183 y186 0 l0_0) = some r := by first | (rw [hy186]; with_reducible exact H) | (have H2_ := (Option.bind_some _ _).symm.trans H; rw [hy186]; with_reducible exact H2_) | (have H2_ := (Option.bind_some _ _).symm.trans H; with_reducible exact H2_) | with_reducible exact H | (rw [hy186]; exact H) | exact H
 have Ny186 := aM68_ hy186
 clear hy186
 have H' := aM68_ H
 clear H
 go_enter Try.func68, Try.ntmps68
 go_wp2_with (first | (go_at_call 71; (with_reducible refine (spec_l06Reached.calls k B0_ O0_ A0_0 c0_0 l0_0 t183 _ ?side1 ?side2 ?side3 A2.out).mono ?_); (case side1 => repeat (first | exact HR0_0.out | (with_reducible refine Kd.C_alloc ?_ _) | (with_reducible refine Kd.C_drewN ?_ _) | (with_reducible refine Kd.C_drew ?_))); (case side2 => exact HC0_0.out); (case side3 => obtain hz0_ := HQ0_.out; exact hz0_); rintro e w5 ⟨v184, rfl, ho0, hb⟩; have n0_ := aM68_ (Kd.R_lower ho0 (below_size q68x2_)); have n1_ := aM68_ (below_step q68x2_ hb); clear HB; have HO185 := n0_; have HB := n1_; clear n0_ n1_; (try clear hb); (try clear hb2); (try clear hk); (try clear hi); (try clear ho0); have hxr6_0 := HQ0_.out; replace hxr6_0 := ((show Below w.heap.size w w5 from by repeat (first | (with_reducible first | exact HB.out | apply below_alloc | apply pw_below_drewN | apply below_drew1) | exact HB.out)).cell (World.block_lt_of_cell? w _ hxr6_0)).trans hxr6_0) | ((with_reducible refine gate_dst (N := 18) rfl ?_); refine Kd.R_make Kd.bool _ 4 rfl (N := 18) rfl 134 _ _ rfl (l0_0.length : Int) rfl rfl Try.underlying134 (.bool false) 1 info4 rfl (by decide) (by omega) false (ok := fun _ => True) (okp := fun _ => True) rfl (fun _ hk => hk) trivial (of_decide_eq_true q68x1_) (Nat.le_trans (Nat.mul_le_mul_right _ (of_decide_eq_true q68x1_ : (l0_0.length : Int).toNat ≤ 281474976710656)) (by omega)) (Below.refl _ _) (Nat.le_refl _) ?_; intro v187 w7 ho8 hb hg_ hnew_; clear hg_ hnew_; (first | rw [← Ny186.out] at ho8 | (simp only [Int.reduceToNat] at ho8; rw [← Ny186.out] at ho8)); have n0_ := aM68_ (Kd.R_below q68x5_ hb); have n1_ := aM68_ (Kd.R_lower ho8 (below_size q68x2_)); have n2_ := aM68_ (below_step q68x2_ hb); clear HO185; clear HB; have HO185 := n0_; have HO188 := n1_; have HB := n2_; clear n0_ n1_ n2_; clear hb ho8))
 repeat (go_quiet (first | (go_at_call 71; (with_reducible refine (spec_l06Reached.calls k B0_ O0_ A0_0 c0_0 l0_0 t183 _ ?side1 ?side2 ?side3 A2.out).mono ?_); (case side1 => repeat (first | exact HR0_0.out | (with_reducible refine Kd.C_alloc ?_ _) | (with_reducible refine Kd.C_drewN ?_ _) | (with_reducible refine Kd.C_drew ?_))); (case side2 => exact HC0_0.out); (case side3 => obtain hz0_ := HQ0_.out; exact hz0_); rintro e w5 ⟨v184, rfl, ho0, hb⟩; have n0_ := aM68_ (Kd.R_lower ho0 (below_size q68x2_)); have n1_ := aM68_ (below_step q68x2_ hb); clear HB; have HO185 := n0_; have HB := n1_; clear n0_ n1_; (try clear hb); (try clear hb2); (try clear hk); (try clear hi); (try clear ho0); have hxr6_0 := HQ0_.out; replace hxr6_0 := ((show Below w.heap.size w w5 from by repeat (first | (with_reducible first | exact HB.out | apply below_alloc | apply pw_below_drewN | apply below_drew1) | exact HB.out)).cell (World.block_lt_of_cell? w _ hxr6_0)).trans hxr6_0) | ((with_reducible refine gate_dst (N := 18) rfl ?_); refine Kd.R_make Kd.bool _ 4 rfl (N := 18) rfl 134 _ _ rfl (l0_0.length : Int) rfl rfl Try.underlying134 (.bool false) 1 info4 rfl (by decide) (by omega) false (ok := fun _ => True) (okp := fun _ => True) rfl (fun _ hk => hk) trivial (of_decide_eq_true q68x1_) (Nat.le_trans (Nat.mul_le_mul_right _ (of_decide_eq_true q68x1_ : (l0_0.length : Int).toNat ≤ 281474976710656)) (by omega)) (Below.refl _ _) (Nat.le_refl _) ?_; intro v187 w7 ho8 hb hg_ hnew_; clear hg_ hnew_; (first | rw [← Ny186.out] at ho8 | (simp only [Int.reduceToNat] at ho8; rw [← Ny186.out] at ho8)); have n0_ := aM68_ (Kd.R_below q68x5_ hb); have n1_ := aM68_ (Kd.R_lower ho8 (below_size q68x2_)); have n2_ := aM68_ (below_step q68x2_ hb); clear HO185; clear HB; have HO185 := n0_; have HO188 := n1_; have HB := n2_; clear n0_ n1_ n2_; clear hb ho8)); try go_wp2_with (first | (go_at_call 71; (with_reducible refine (spec_l06Reached.calls k B0_ O0_ A0_0 c0_0 l0_0 t183 _ ?side1 ?side2 ?side3 A2.out).mono ?_); (case side1 => repeat (first | exact HR0_0.out | (with_reducible refine Kd.C_alloc ?_ _) | (with_reducible refine Kd.C_drewN ?_ _) | (with_reducible refine Kd.C_drew ?_))); (case side2 => exact HC0_0.out); (case side3 => obtain hz0_ := HQ0_.out; exact hz0_); rintro e w5 ⟨v184, rfl, ho0, hb⟩; have n0_ := aM68_ (Kd.R_lower ho0 (below_size q68x2_)); have n1_ := aM68_ (below_step q68x2_ hb); clear HB; have HO185 := n0_; have HB := n1_; clear n0_ n1_; (try clear hb); (try clear hb2); (try clear hk); (try clear hi); (try clear ho0); have hxr6_0 := HQ0_.out; replace hxr6_0 := ((show Below w.heap.size w w5 from by repeat (first | (with_reducible first | exact HB.out | apply below_alloc | apply pw_below_drewN | apply below_drew1) | exact HB.out)).cell (World.block_lt_of_cell? w _ hxr6_0)).trans hxr6_0) | ((with_reducible refine gate_dst (N := 18) rfl ?_); refine Kd.R_make Kd.bool _ 4 rfl (N := 18) rfl 134 _ _ rfl (l0_0.length : Int) rfl rfl Try.underlying134 (.bool false) 1 info4 rfl (by decide) (by omega) false (ok := fun _ => True) (okp := fun _ => True) rfl (fun _ hk => hk) trivial (of_decide_eq_true q68x1_) (Nat.le_trans (Nat.mul_le_mul_right _ (of_decide_eq_true q68x1_ : (l0_0.length : Int).toNat ≤ 281474976710656)) (by omega)) (Below.refl _ _) (Nat.le_refl _) ?_; intro v187 w7 ho8 hb hg_ hnew_; clear hg_ hnew_; (first | rw [← Ny186.out] at ho8 | (simp only [Int.reduceToNat] at ho8; rw [← Ny186.out] at ho8)); have n0_ := aM68_ (Kd.R_below q68x5_ hb); have n1_ := aM68_ (Kd.R_lower ho8 (below_size q68x2_)); have n2_ := aM68_ (below_step q68x2_ hb); clear HO185; clear HB; have HO185 := n0_; have HO188 := n1_; have HB := n2_; clear n0_ n1_ n2_; clear hb ho8)))
 go_loopg [5] k (fun kq v5 w' => ∃ (x4_1 : List Bool) (x5_1 : Int), v5 = .int .i64 x5_1 ∧ Aside0 (spec_l06Productive.l0 kq t183 x4_1 x5_1 l0_0 = some r) ∧ Aside0 (kq ≤ k) ∧ Aside0 (Kd.R (Kd.int .i16) 74 w' w.heap.size (fun _ => True) v184 t183) ∧ Aside0 (Kd.R Kd.bool 4 w' w.heap.size (fun _ => True) v187 x4_1) ∧ Aside0 (Below w.heap.size w w'))
 case atStart => exact ⟨(y186), (0), q68x3_, H', ⟨Nat.le_refl _⟩, ⟨by (with_reducible repeat (first | apply Kd.R_alloc | apply Kd.R_drewN | apply Kd.R_drew)); exact HO185.out⟩, ⟨by (with_reducible repeat (first | apply Kd.R_alloc | apply Kd.R_drewN | apply Kd.R_drew)); exact HO188.out⟩, ⟨by repeat (first | (with_reducible first | exact HB.out | apply below_alloc | apply pw_below_drewN | apply below_drew1) | exact HB.out)⟩⟩
 case round =>
  clear H'
  try clear p2
  try clear c3
  try clear c3b0
  try clear c3b1
  try clear c4
  try clear c4b0
  try clear c4b1
  try clear c6
  obtain ⟨x4_1, x5_1, rfl, HA, HK1, HO_3, HO_4, HB⟩ := hrel
  cases gk with
  | zero => exact absurd HA.out (by simp [spec_l06Productive.l0])
  | succ k1 =>
   have H := HA.out
   clear HA
   simp only [spec_l06Productive.l0] at H
   by_cases c9 : x5_1 < (t183.length : Int)
   rotate_left
   ·rw [if_neg c9] at H
    have c9b0 : decide (x5_1 < (t183.length : Int)) = false := decide_eq_false c9
    clear c9
    have H' := aM68_ H
    clear H
    obtain ⟨Ao47, co47, eo47⟩ := Kd.R_slice HO_3.out
    subst eo47
    go_wp2
    repeat (go_quiet (fail); try go_wp2)
    go_loopg [10] k1 (fun kq v10 w' => ∃ (x10_2 : Int), v10 = .int .i64 x10_2 ∧ Aside0 (spec_l06Productive.l3 kq t183 x4_1 x10_2 = some r) ∧ Aside0 (kq ≤ k1) ∧ Aside0 (Kd.R (Kd.int .i16) 74 w' w.heap.size (fun _ => True) (.slice Ao47 t183.length co47) t183) ∧ Aside0 (Kd.R Kd.bool 4 w' w.heap.size (fun _ => True) v187 x4_1) ∧ Aside0 (Below w.heap.size w w'))
    case atStart => exact ⟨(0), q68x3_, H', ⟨Nat.le_refl _⟩, ⟨by (with_reducible repeat (first | apply Kd.R_alloc | apply Kd.R_drewN | apply Kd.R_drew)); exact HO_3.out⟩, ⟨by (with_reducible repeat (first | apply Kd.R_alloc | apply Kd.R_drewN | apply Kd.R_drew)); exact HO_4.out⟩, ⟨by repeat (first | (with_reducible first | exact HB.out | apply below_alloc | apply pw_below_drewN | apply below_drew1) | exact HB.out)⟩⟩
    case round =>
     clear H'
     try clear c1
     try clear p1
     try clear q1
     try clear hx1
     try clear c2
     try clear p2
     try clear c3
     try clear c3b0
     try clear c3b1
     try clear p3
     try clear q3
     try clear hx3
     try clear hf3
     try clear c4
     try clear c4b0
     try clear c4b1
     try clear p4
     try clear q4
     try clear hx4
     try clear hf4
     try clear c6
     try clear p6
     try clear c9
     try clear c9b0
     try clear c11
     try clear c11b0
     try clear c12
     try clear c12b0
     try clear c13
     try clear c13b0
     try clear c14
     try clear c14b0
     try clear c16
     try clear c16b0
     try clear c17
     try clear c17b0
     try clear c18
     try clear c18b0
     try clear p18
     try clear q18
     try clear hx18
     try clear c19
     try clear c19b0
     try clear c19b1
     try clear p19
     try clear q19
     try clear hx19
     try clear c20
     try clear c21
     try clear c22
     try clear c22b0
     try clear c23
     try clear c23b0
     try clear c25
     try clear c26
     try clear c26b0
     try clear c27
     try clear c27b0
     try clear c29
     try clear c30
     try clear c30b0
     try clear c31
     try clear c31b0
     try clear c33
     try clear c33b0
     try clear c34
     try clear c34b0
     try clear c35
     try clear c36
     try clear c36b0
     try clear p37
     try clear q37
     try clear hx37
     try clear hf37
     try clear c40
     try clear c40b0
     try clear c41
     try clear c41b0
     try clear c42
     try clear c43
     try clear c43b0
     try clear p44
     try clear q44
     try clear hx44
     try clear hf44
     try clear hx189_0
     try clear hx190_0
     try clear hx190_1
     try clear hx190_2
     try clear hx190_3
     try clear hx190_4
     try clear hx191_0
     try clear hx191_1
     try clear hx191_2
     try clear hx191_3
     try clear hx191_4
     try clear hx192_0
     try clear hx193_0
     try clear hx194_0
     try clear hx195_0
     try clear hx197_0
     try clear hx37_0
     try clear hx44_0
     try clear p1
     try clear p189
     try clear p190
     try clear p191
     try clear p192
     try clear p193
     try clear p194
     try clear p195
     try clear p197
     try clear p2
     try clear p37
     try clear p44
     try clear q1
     try clear q189
     try clear q190
     try clear q191
     try clear q192
     try clear q193
     try clear q194
     try clear q195
     try clear q197
     try clear q37
     try clear q44
     obtain ⟨x10_2, rfl, HA, HK2, HO_3, HO_4, HB⟩ := hrel
     cases gk with
     | zero => exact absurd HA.out (by simp [spec_l06Productive.l3])
     | succ k2 =>
      have H := HA.out
      clear HA
      simp only [spec_l06Productive.l3] at H
      by_cases c48 : x10_2 < (t183.length : Int)
      rotate_left
      ·rw [if_neg c48] at H
       have c48b0 : decide (x10_2 < (t183.length : Int)) = false := decide_eq_false c48
       clear c48
       obtain rfl := Option.some.inj H
       go_wp2
       repeat (go_quiet (fail); try go_wp2)
       go_ret
       exact ⟨by first | rfl | (simp [errW_none, errW_some] <;> rfl) | (simp [*, errW_none, errW_some] <;> rfl), by repeat (first | (with_reducible first | exact HB.out | apply below_alloc | apply pw_below_drewN | apply below_drew1) | exact HB.out)⟩
      rw [if_pos c48] at H
      have c48b0 : decide (x10_2 < (t183.length : Int)) = true := decide_eq_true c48
      clear c48
      by_cases c49 : 0 ≤ x10_2
      rotate_left
      ·rw [if_neg c49] at H
       exact absurd H (by simp)
      rw [if_pos c49] at H
      have c49b0 : decide (0 ≤ x10_2) = true := decide_eq_true c49
      clear c49
      by_cases c50 : 0 ≤ (rd t183 x10_2)
      rotate_left
      ·rw [if_neg c50] at H
       exact absurd H (by simp)
      rw [if_pos c50] at H
      have c50b0 : decide (0 ≤ (rd t183 x10_2)) = true := decide_eq_true c50
      clear c50
      by_cases c51 : (rd t183 x10_2) < (x4_1.length : Int)
      rotate_left
      ·rw [if_neg c51] at H
       exact absurd H (by simp)
      rw [if_pos c51] at H
      have c51b0 : decide ((rd t183 x10_2) < (x4_1.length : Int)) = true := decide_eq_true c51
      clear c51
      obtain ⟨bq52, hbq52⟩ : ∃ b_ : Bool, b_ = (rdOf false x4_1 (rd t183 x10_2)) := ⟨_, rfl⟩
      replace H : (if (bq52 = true) then (spec_l06Productive.l3 k2 t183 x4_1 (wrap64 (x10_2 + 1))) else (some false)) = some r := by rw [← hbq52] at H; exact H
      have Nbq52 := aM68_ hbq52
      clear hbq52
      by_cases c53 : (bq52 = true)
      ·subst c53
       have H1 : (spec_l06Productive.l3 k2 t183 x4_1 (wrap64 (x10_2 + 1))) = some r := by rw [if_pos rfl] at H; exact H
       clear H
       have H := H1
       clear H1
       have H' := aM68_ H
       clear H
       have p199 : 0 ≤ (x10_2 : Int) := of_decide_eq_true q68x1_
       have q199 : x10_2 < (t183.length : Int) := of_decide_eq_true q68x1_
       obtain ⟨ad199, e199, hx199_0⟩ := Kd.at_int (Kd.R_reads' HO_3.out).2.2 x10_2 p199 q199
       cases e199
       replace p199 := eq_true p199
       replace q199 := eq_true q199
       obtain ⟨Ao54, co54, eo54⟩ := Kd.R_slice HO_4.out
       subst eo54
       have p200 : 0 ≤ ((rd t183 x10_2) : Int) := of_decide_eq_true q68x1_
       have q200 : (rd t183 x10_2) < (x4_1.length : Int) := of_decide_eq_true q68x1_
       obtain ⟨ad200, e200, hx200_0⟩ := Kd.at_bool (Kd.R_reads' HO_4.out).2.2 (rd t183 x10_2) p200 q200
       (try rw [← Nbq52.out] at hx200_0)
       cases e200
       replace p200 := eq_true p200
       replace q200 := eq_true q200
       go_wp2
       repeat (go_quiet (fail); try go_wp2)
       go_roundg k2
       case measure => have := HK1.out; have := HK2.out; omega
       case rel => exact ⟨(wrap64 (x10_2 + 1)), q68x3_, H', ⟨by have := HK1.out; have := HK2.out; omega⟩, ⟨by (with_reducible repeat (first | apply Kd.R_alloc | apply Kd.R_drewN | apply Kd.R_drew)); exact HO_3.out⟩, ⟨by (with_reducible repeat (first | apply Kd.R_alloc | apply Kd.R_drewN | apply Kd.R_drew)); exact HO_4.out⟩, ⟨by repeat (first | (with_reducible first | exact HB.out | apply below_alloc | apply pw_below_drewN | apply below_drew1) | exact HB.out)⟩⟩
      replace c53 := Bool.eq_false_iff.mpr c53
      subst c53
      have H1 : (some false) = some r := by rw [if_neg (show ¬ (false = true) by decide)] at H; exact H
      clear H
      have H := H1
      clear H1
      obtain rfl := Option.some.inj H
      have p199 : 0 ≤ (x10_2 : Int) := of_decide_eq_true q68x1_
      have q199 : x10_2 < (t183.length : Int) := of_decide_eq_true q68x1_
      obtain ⟨ad199, e199, hx199_0⟩ := Kd.at_int (Kd.R_reads' HO_3.out).2.2 x10_2 p199 q199
      cases e199
      replace p199 := eq_true p199
      replace q199 := eq_true q199
      obtain ⟨Ao55, co55, eo55⟩ := Kd.R_slice HO_4.out
      subst eo55
      have p200 : 0 ≤ ((rd t183 x10_2) : Int) := of_decide_eq_true q68x1_
      have q200 : (rd t183 x10_2) < (x4_1.length : Int) := of_decide_eq_true q68x1_
      obtain ⟨ad200, e200, hx200_0⟩ := Kd.at_bool (Kd.R_reads' HO_4.out).2.2 (rd t183 x10_2) p200 q200
      (try rw [← Nbq52.out] at hx200_0)
      cases e200
      replace p200 := eq_true p200
      replace q200 := eq_true q200
      go_wp2
      repeat (go_quiet (fail); try go_wp2)
      go_ret
      exact ⟨by first | rfl | (simp [errW_none, errW_some] <;> rfl) | (simp [*, errW_none, errW_some] <;> rfl), by repeat (first | (with_reducible first | exact HB.out | apply below_alloc | apply pw_below_drewN | apply below_drew1) | exact HB.out)⟩
   rw [if_pos c9] at H
   have c9b0 : decide (x5_1 < (t183.length : Int)) = true := decide_eq_true c9
   clear c9
   have H' := aM68_ H
   clear H
   obtain ⟨Ao10, co10, eo10⟩ := Kd.R_slice HO_3.out
   subst eo10
   go_wp2
   repeat (go_quiet (fail); try go_wp2)
   go_loopg [6] k1 (fun kq v6 w' => ∃ (x4_2 : List Bool) (x6_2 : Int), v6 = .int .i64 x6_2 ∧ Aside0 (spec_l06Productive.l1 kq t183 x4_2 x5_1 x6_2 l0_0 = some r) ∧ Aside0 (kq ≤ k1) ∧ Aside0 (Kd.R (Kd.int .i16) 74 w' w.heap.size (fun _ => True) (.slice Ao10 t183.length co10) t183) ∧ Aside0 (Kd.R Kd.bool 4 w' w.heap.size (fun _ => True) v187 x4_2) ∧ Aside0 (Below w.heap.size w w'))
   case atStart => exact ⟨(x4_1), (0), q68x3_, H', ⟨Nat.le_refl _⟩, ⟨by (with_reducible repeat (first | apply Kd.R_alloc | apply Kd.R_drewN | apply Kd.R_drew)); exact HO_3.out⟩, ⟨by (with_reducible repeat (first | apply Kd.R_alloc | apply Kd.R_drewN | apply Kd.R_drew)); exact HO_4.out⟩, ⟨by repeat (first | (with_reducible first | exact HB.out | apply below_alloc | apply pw_below_drewN | apply below_drew1) | exact HB.out)⟩⟩
   case round =>
    clear H'
    try clear p2
    try clear c3
    try clear c3b0
    try clear c3b1
    try clear c4
    try clear c4b0
    try clear c4b1
    try clear c6
    try clear c9
    try clear c9b0
    try clear p2
    obtain ⟨x4_2, x6_2, rfl, HA, HK2, HO_3, HO_4, HB⟩ := hrel
    cases gk with
    | zero => exact absurd HA.out (by simp [spec_l06Productive.l1])
    | succ k2 =>
     have H := HA.out
     clear HA
     simp only [spec_l06Productive.l1] at H
     by_cases c11 : x6_2 < (t183.length : Int)
     rotate_left
     ·rw [if_neg c11] at H
      have c11b0 : decide (x6_2 < (t183.length : Int)) = false := decide_eq_false c11
      clear c11
      have H' := aM68_ H
      clear H
      go_wp2
      repeat (go_quiet (fail); try go_wp2)
      go_roundg k2
      case measure => have := HK1.out; have := HK2.out; omega
      case rel => exact ⟨(x4_2), (wrap64 (x5_1 + 1)), q68x3_, H', ⟨by have := HK1.out; have := HK2.out; omega⟩, ⟨by (with_reducible repeat (first | apply Kd.R_alloc | apply Kd.R_drewN | apply Kd.R_drew)); exact HO_3.out⟩, ⟨by (with_reducible repeat (first | apply Kd.R_alloc | apply Kd.R_drewN | apply Kd.R_drew)); exact HO_4.out⟩, ⟨by repeat (first | (with_reducible first | exact HB.out | apply below_alloc | apply pw_below_drewN | apply below_drew1) | exact HB.out)⟩⟩
     rw [if_pos c11] at H
     have c11b0 : decide (x6_2 < (t183.length : Int)) = true := decide_eq_true c11
     clear c11
     by_cases c12 : 0 ≤ x6_2
     rotate_left
     ·rw [if_neg c12] at H
      exact absurd H (by simp)
     rw [if_pos c12] at H
     have c12b0 : decide (0 ≤ x6_2) = true := decide_eq_true c12
     clear c12
     by_cases c13 : 0 ≤ (rd t183 x6_2)
     rotate_left
     ·rw [if_neg c13] at H
      exact absurd H (by simp)
     rw [if_pos c13] at H
     have c13b0 : decide (0 ≤ (rd t183 x6_2)) = true := decide_eq_true c13
     clear c13
     by_cases c14 : (rd t183 x6_2) < (l0_0.length : Int)
     rotate_left
     ·rw [if_neg c14] at H
      exact absurd H (by simp)
     rw [if_pos c14] at H
     have c14b0 : decide ((rd t183 x6_2) < (l0_0.length : Int)) = true := decide_eq_true c14
     clear c14
     have H' := aM68_ H
     clear H
     have hxr15_0 := HQ0_.out
     replace hxr15_0 := ((show Below w.heap.size w wr from by repeat (first | (with_reducible first | exact HB.out | apply below_alloc | apply pw_below_drewN | apply below_drew1) | exact HB.out)).cell (World.block_lt_of_cell? w _ hxr15_0)).trans hxr15_0
     have p189 : 0 ≤ (x6_2 : Int) := of_decide_eq_true q68x1_
     have q189 : x6_2 < (t183.length : Int) := of_decide_eq_true q68x1_
     obtain ⟨ad189, e189, hx189_0⟩ := Kd.at_int (Kd.R_reads' HO_3.out).2.2 x6_2 p189 q189
     cases e189
     replace p189 := eq_true p189
     replace q189 := eq_true q189
     have p190 : 0 ≤ ((rd t183 x6_2) : Int) := of_decide_eq_true q68x1_
     have q190 : (rd t183 x6_2) < (l0_0.length : Int) := of_decide_eq_true q68x1_
     obtain ⟨ad190, e190, hx190_0, hx190_1, hx190_2, hx190_3, hx190_4⟩ := at_T77 HR0_0.out (rd t183 x6_2) p190 q190
     cases e190
     replace hx190_0 := (HB.out.cell (World.block_lt_of_cell? w _ hx190_0)).trans hx190_0
     replace hx190_1 := (HB.out.cell (World.block_lt_of_cell? w _ hx190_1)).trans hx190_1
     replace hx190_2 := (HB.out.cell (World.block_lt_of_cell? w _ hx190_2)).trans hx190_2
     replace hx190_3 := (HB.out.cell (World.block_lt_of_cell? w _ hx190_3)).trans hx190_3
     replace hx190_4 := (HB.out.cell (World.block_lt_of_cell? w _ hx190_4)).trans hx190_4
     replace p190 := eq_true p190
     replace q190 := eq_true q190
     go_wp2
     repeat (go_quiet (fail); try go_wp2)
     go_loopg [8, 9] k2 (fun kq v8 v9 w' => ∃ (x8_3 : Bool) (x9_3 : Int), v8 = .bool x8_3 ∧ v9 = .int .i64 x9_3 ∧ Aside0 (spec_l06Productive.l2 kq t183 x4_2 x5_1 x6_2 x8_3 x9_3 (rd t183 x6_2) l0_0 = some r) ∧ Aside0 (kq ≤ k2) ∧ Aside0 (Kd.R (Kd.int .i16) 74 w' w.heap.size (fun _ => True) (.slice (some ad189) t183.length co10) t183) ∧ Aside0 (Kd.R Kd.bool 4 w' w.heap.size (fun _ => True) v187 x4_2) ∧ Aside0 (Below w.heap.size w w'))
     case atStart => exact ⟨(true), (0), q68x3_, q68x3_, H', ⟨Nat.le_refl _⟩, ⟨by (with_reducible repeat (first | apply Kd.R_alloc | apply Kd.R_drewN | apply Kd.R_drew)); exact HO_3.out⟩, ⟨by (with_reducible repeat (first | apply Kd.R_alloc | apply Kd.R_drewN | apply Kd.R_drew)); exact HO_4.out⟩, ⟨by repeat (first | (with_reducible first | exact HB.out | apply below_alloc | apply pw_below_drewN | apply below_drew1) | exact HB.out)⟩⟩
     case round =>
      clear H'
      try clear c1
      try clear p1
      try clear q1
      try clear hx1
      try clear p2
      try clear c3
      try clear c3b0
      try clear c3b1
      try clear c4
      try clear c4b0
      try clear c4b1
      try clear c6
      try clear c9
      try clear c9b0
      try clear c11
      try clear c11b0
      try clear c12
      try clear c12b0
      try clear c13
      try clear c13b0
      try clear c14
      try clear c14b0
      try clear hx189_0
      try clear hx190_0
      try clear hx190_1
      try clear hx190_2
      try clear hx190_3
      try clear hx190_4
      try clear p189
      try clear p190
      try clear p2
      try clear q189
      try clear q190
      obtain ⟨x8_3, x9_3, rfl, rfl, HA, HK3, HO_3, HO_4, HB⟩ := hrel
      cases gk with
      | zero => exact absurd HA.out (by simp [spec_l06Productive.l2])
      | succ k3 =>
       have H := HA.out
       clear HA
       simp only [spec_l06Productive.l2] at H
       by_cases c16 : 0 ≤ (rd t183 x6_2)
       rotate_left
       ·rw [if_neg c16] at H
        exact absurd H (by simp)
       rw [if_pos c16] at H
       have c16b0 : decide (0 ≤ (rd t183 x6_2)) = true := decide_eq_true c16
       clear c16
       by_cases c17 : (rd t183 x6_2) < (l0_0.length : Int)
       rotate_left
       ·rw [if_neg c17] at H
        exact absurd H (by simp)
       rw [if_pos c17] at H
       have c17b0 : decide ((rd t183 x6_2) < (l0_0.length : Int)) = true := decide_eq_true c17
       clear c17
       by_cases c18 : x9_3 < 3
       rotate_left
       ·rw [if_neg c18] at H
        have c18b0 : decide (x9_3 < 3) = false := decide_eq_false c18
        clear c18
        by_cases c40 : 0 ≤ x6_2
        rotate_left
        ·rw [if_neg c40] at H
         exact absurd H (by simp)
        rw [if_pos c40] at H
        have c40b0 : decide (0 ≤ x6_2) = true := decide_eq_true c40
        clear c40
        by_cases c41 : x6_2 < (t183.length : Int)
        rotate_left
        ·rw [if_neg c41] at H
         exact absurd H (by simp)
        rw [if_pos c41] at H
        have c41b0 : decide (x6_2 < (t183.length : Int)) = true := decide_eq_true c41
        clear c41
        have c42 : 0 ≤ (rd t183 x6_2) := of_decide_eq_true c16b0
        rw [if_pos c42] at H
        clear c42
        by_cases c43 : (rd t183 x6_2) < (x4_2.length : Int)
        rotate_left
        ·rw [if_neg c43] at H
         exact absurd H (by simp)
        rw [if_pos c43] at H
        have c43b0 : decide ((rd t183 x6_2) < (x4_2.length : Int)) = true := decide_eq_true c43
        clear c43
        obtain ⟨y198, hy198⟩ : ∃ y_ : List Bool, y_ = (x4_2.set ((rd t183 x6_2) : Int).toNat x8_3) := ⟨_, rfl⟩
        replace H : (spec_l06Productive.l1 k3 t183 y198 x5_1 (wrap64 (x6_2 + 1)) l0_0) = some r := by first | (rw [hy198]; with_reducible exact H) | (have H2_ := (Option.bind_some _ _).symm.trans H; rw [hy198]; with_reducible exact H2_) | (have H2_ := (Option.bind_some _ _).symm.trans H; with_reducible exact H2_) | with_reducible exact H | (rw [hy198]; exact H) | exact H
        have Ny198 := aM68_ hy198
        clear hy198
        have H' := aM68_ H
        clear H
        have p191 : 0 ≤ ((rd t183 x6_2) : Int) := of_decide_eq_true q68x1_
        have q191 : (rd t183 x6_2) < (l0_0.length : Int) := of_decide_eq_true q68x1_
        obtain ⟨ad191, e191, hx191_0, hx191_1, hx191_2, hx191_3, hx191_4⟩ := at_T77 HR0_0.out (rd t183 x6_2) p191 q191
        obtain rfl : ad190 = ad191 := (by injection e191)
        replace hx191_0 := (HB.out.cell (World.block_lt_of_cell? w _ hx191_0)).trans hx191_0
        replace hx191_1 := (HB.out.cell (World.block_lt_of_cell? w _ hx191_1)).trans hx191_1
        replace hx191_2 := (HB.out.cell (World.block_lt_of_cell? w _ hx191_2)).trans hx191_2
        replace hx191_3 := (HB.out.cell (World.block_lt_of_cell? w _ hx191_3)).trans hx191_3
        replace hx191_4 := (HB.out.cell (World.block_lt_of_cell? w _ hx191_4)).trans hx191_4
        replace p191 := eq_true p191
        replace q191 := eq_true q191
        have p197 : 0 ≤ (x6_2 : Int) := of_decide_eq_true q68x1_
        have q197 : x6_2 < (t183.length : Int) := of_decide_eq_true q68x1_
        obtain ⟨ad197, e197, hx197_0⟩ := Kd.at_int (Kd.R_reads' HO_3.out).2.2 x6_2 p197 q197
        obtain rfl : ad189 = ad197 := (by injection e197)
        replace p197 := eq_true p197
        replace q197 := eq_true q197
        have p44 : 0 ≤ ((rd t183 x6_2) : Int) := of_decide_eq_true q68x1_
        have q44 : ((rd t183 x6_2) : Int) < ((x4_2.length : Int) : Int) := of_decide_eq_true q68x1_
        obtain ⟨go44, co44, eo44, gb44, gl44, cl44, HG44⟩ := Kd.R_form HO_4.out (by omega)
        (first | cases eo44 | (injection eo44 with ea_ en_ ec_; (first | subst ea_ | (injection ea_ with ea_; subst ea_)); subst ec_; clear en_))
        have GB44 := aM68_ gb44
        have GG44 := aM68_ HG44
        clear gb44 gl44 HG44
        obtain ⟨hx44_0, hf44_0⟩ := Kd.R_celln false HO_4.out ((rd t183 x6_2) : Int) p44 q44
        replace p44 := eq_true p44
        replace q44 := eq_true q44
        have HP45 := Kd.R_putg HO_4.out ((rd t183 x6_2) : Int) x8_3
        go_wp2_with (first | ((with_reducible refine gate_store (t := 4) (p := 69) rfl ?_); (try (rw [drewN_self wr]; generalize hq_ : World.drewN wr _ = wr; have n0_ := aM68_ (Kd.R_at hq_ HO_3.out); have n1_ := aM68_ (Kd.R_at hq_ HO_4.out); have n2_ := aM68_ (below_at hq_ HB.out); clear hq_ HO_3 HO_4 HB; have HO_3 := n0_; have HO_4 := n1_; have HB := n2_; clear n0_ n1_ n2_; (try (have HP45 := Kd.R_putg HO_4.out ((rd t183 x6_2) : Int) x8_3)))); refine store_event (t := 4) (p := 69) (v := ?vo_w46) (w1 := (wr.setCell ⟨go44, ((rd t183 x6_2) : Int).toNat, none⟩ (.bool x8_3))) ?hg ?ho ?hn ?hr ?_; (case ho => rfl); (case hg => rfl); (case hn => rfl); (case hr => first | (go_simp; done) | (go_simp; rfl)); intro w46 hw; have hg : wr.grownBy w46 (some go44) := (by rw [hw]; exact HP45.2); have hp_ : Kd.R Kd.bool 4 w46 w.heap.size (fun _ => True) (.slice (some ⟨go44, 0, none⟩) x4_2.length co44) y198 := (by rw [hw, Ny198.out]; exact HP45.1); clear HP45; have n0_ := aM68_ (Kd.R_over' (v := (.slice (some ⟨go44, 0, none⟩) x4_2.length co44)) q68x4_ (Kd.R_typed HO_4.out) (by decide) hg); have n1_ := aM68_ (hp_); have n2_ := aM68_ ((by rw [hw]; exact below_set (HB.out) GB44.out : Below w.heap.size w w46)); clear HO_3; clear HO_4; clear HB; have HO_3 := n0_; have HO_4 := n1_; have HB := n2_; clear n0_ n1_ n2_; clear hg hw hp_))
        repeat (go_quiet (first | ((with_reducible refine gate_store (t := 4) (p := 69) rfl ?_); (try (rw [drewN_self wr]; generalize hq_ : World.drewN wr _ = wr; have n0_ := aM68_ (Kd.R_at hq_ HO_3.out); have n1_ := aM68_ (Kd.R_at hq_ HO_4.out); have n2_ := aM68_ (below_at hq_ HB.out); clear hq_ HO_3 HO_4 HB; have HO_3 := n0_; have HO_4 := n1_; have HB := n2_; clear n0_ n1_ n2_; (try (have HP45 := Kd.R_putg HO_4.out ((rd t183 x6_2) : Int) x8_3)))); refine store_event (t := 4) (p := 69) (v := ?vo_w46) (w1 := (wr.setCell ⟨go44, ((rd t183 x6_2) : Int).toNat, none⟩ (.bool x8_3))) ?hg ?ho ?hn ?hr ?_; (case ho => rfl); (case hg => rfl); (case hn => rfl); (case hr => first | (go_simp; done) | (go_simp; rfl)); intro w46 hw; have hg : wr.grownBy w46 (some go44) := (by rw [hw]; exact HP45.2); have hp_ : Kd.R Kd.bool 4 w46 w.heap.size (fun _ => True) (.slice (some ⟨go44, 0, none⟩) x4_2.length co44) y198 := (by rw [hw, Ny198.out]; exact HP45.1); clear HP45; have n0_ := aM68_ (Kd.R_over' (v := (.slice (some ⟨go44, 0, none⟩) x4_2.length co44)) q68x4_ (Kd.R_typed HO_4.out) (by decide) hg); have n1_ := aM68_ (hp_); have n2_ := aM68_ ((by rw [hw]; exact below_set (HB.out) GB44.out : Below w.heap.size w w46)); clear HO_3; clear HO_4; clear HB; have HO_3 := n0_; have HO_4 := n1_; have HB := n2_; clear n0_ n1_ n2_; clear hg hw hp_)); try go_wp2_with (first | ((with_reducible refine gate_store (t := 4) (p := 69) rfl ?_); (try (rw [drewN_self wr]; generalize hq_ : World.drewN wr _ = wr; have n0_ := aM68_ (Kd.R_at hq_ HO_3.out); have n1_ := aM68_ (Kd.R_at hq_ HO_4.out); have n2_ := aM68_ (below_at hq_ HB.out); clear hq_ HO_3 HO_4 HB; have HO_3 := n0_; have HO_4 := n1_; have HB := n2_; clear n0_ n1_ n2_; (try (have HP45 := Kd.R_putg HO_4.out ((rd t183 x6_2) : Int) x8_3)))); refine store_event (t := 4) (p := 69) (v := ?vo_w46) (w1 := (wr.setCell ⟨go44, ((rd t183 x6_2) : Int).toNat, none⟩ (.bool x8_3))) ?hg ?ho ?hn ?hr ?_; (case ho => rfl); (case hg => rfl); (case hn => rfl); (case hr => first | (go_simp; done) | (go_simp; rfl)); intro w46 hw; have hg : wr.grownBy w46 (some go44) := (by rw [hw]; exact HP45.2); have hp_ : Kd.R Kd.bool 4 w46 w.heap.size (fun _ => True) (.slice (some ⟨go44, 0, none⟩) x4_2.length co44) y198 := (by rw [hw, Ny198.out]; exact HP45.1); clear HP45; have n0_ := aM68_ (Kd.R_over' (v := (.slice (some ⟨go44, 0, none⟩) x4_2.length co44)) q68x4_ (Kd.R_typed HO_4.out) (by decide) hg); have n1_ := aM68_ (hp_); have n2_ := aM68_ ((by rw [hw]; exact below_set (HB.out) GB44.out : Below w.heap.size w w46)); clear HO_3; clear HO_4; clear HB; have HO_3 := n0_; have HO_4 := n1_; have HB := n2_; clear n0_ n1_ n2_; clear hg hw hp_)))
        go_roundg k3
        case measure => have := HK1.out; have := HK2.out; have := HK3.out; omega
        case rel => exact ⟨(y198), (wrap64 (x6_2 + 1)), q68x3_, H', ⟨by have := HK1.out; have := HK2.out; have := HK3.out; omega⟩, ⟨by (with_reducible repeat (first | apply Kd.R_alloc | apply Kd.R_drewN | apply Kd.R_drew)); exact HO_3.out⟩, ⟨by (with_reducible repeat (first | apply Kd.R_alloc | apply Kd.R_drewN | apply Kd.R_drew)); exact HO_4.out⟩, ⟨by repeat (first | (with_reducible first | exact HB.out | apply below_alloc | apply pw_below_drewN | apply below_drew1) | exact HB.out)⟩⟩
       rw [if_pos c18] at H
       have c18b0 : decide (x9_3 < 3) = true := decide_eq_true c18
       clear c18
       by_cases c19 : ((rd_T77 l0_0 (rd t183 x6_2)).f0) = 1
       rotate_left
       ·rw [if_neg c19] at H
        have c19b0 : (((rd_T77 l0_0 (rd t183 x6_2)).f0) == 1) = false := beq_eq_false_iff_ne.mpr c19
        have c19b1 : (((rd_T77 l0_0 (rd t183 x6_2)).f0) != 1) = true := bne_iff_ne.mpr c19
        by_cases c33 : 0 ≤ x6_2
        rotate_left
        ·rw [if_neg c33] at H
         exact absurd H (by simp)
        rw [if_pos c33] at H
        have c33b0 : decide (0 ≤ x6_2) = true := decide_eq_true c33
        clear c33
        by_cases c34 : x6_2 < (t183.length : Int)
        rotate_left
        ·rw [if_neg c34] at H
         exact absurd H (by simp)
        rw [if_pos c34] at H
        have c34b0 : decide (x6_2 < (t183.length : Int)) = true := decide_eq_true c34
        clear c34
        have c35 : 0 ≤ (rd t183 x6_2) := of_decide_eq_true c16b0
        rw [if_pos c35] at H
        clear c35
        by_cases c36 : (rd t183 x6_2) < (x4_2.length : Int)
        rotate_left
        ·rw [if_neg c36] at H
         exact absurd H (by simp)
        rw [if_pos c36] at H
        have c36b0 : decide ((rd t183 x6_2) < (x4_2.length : Int)) = true := decide_eq_true c36
        clear c36
        obtain ⟨y196, hy196⟩ : ∃ y_ : List Bool, y_ = (x4_2.set ((rd t183 x6_2) : Int).toNat x8_3) := ⟨_, rfl⟩
        replace H : (spec_l06Productive.l1 k3 t183 y196 x5_1 (wrap64 (x6_2 + 1)) l0_0) = some r := by first | (rw [hy196]; with_reducible exact H) | (have H2_ := (Option.bind_some _ _).symm.trans H; rw [hy196]; with_reducible exact H2_) | (have H2_ := (Option.bind_some _ _).symm.trans H; with_reducible exact H2_) | with_reducible exact H | (rw [hy196]; exact H) | exact H
        have Ny196 := aM68_ hy196
        clear hy196
        have H' := aM68_ H
        clear H
        have p191 : 0 ≤ ((rd t183 x6_2) : Int) := of_decide_eq_true q68x1_
        have q191 : (rd t183 x6_2) < (l0_0.length : Int) := of_decide_eq_true q68x1_
        obtain ⟨ad191, e191, hx191_0, hx191_1, hx191_2, hx191_3, hx191_4⟩ := at_T77 HR0_0.out (rd t183 x6_2) p191 q191
        obtain rfl : ad190 = ad191 := (by injection e191)
        replace hx191_0 := (HB.out.cell (World.block_lt_of_cell? w _ hx191_0)).trans hx191_0
        replace hx191_1 := (HB.out.cell (World.block_lt_of_cell? w _ hx191_1)).trans hx191_1
        replace hx191_2 := (HB.out.cell (World.block_lt_of_cell? w _ hx191_2)).trans hx191_2
        replace hx191_3 := (HB.out.cell (World.block_lt_of_cell? w _ hx191_3)).trans hx191_3
        replace hx191_4 := (HB.out.cell (World.block_lt_of_cell? w _ hx191_4)).trans hx191_4
        replace p191 := eq_true p191
        replace q191 := eq_true q191
        have p195 : 0 ≤ (x6_2 : Int) := of_decide_eq_true q68x1_
        have q195 : x6_2 < (t183.length : Int) := of_decide_eq_true q68x1_
        obtain ⟨ad195, e195, hx195_0⟩ := Kd.at_int (Kd.R_reads' HO_3.out).2.2 x6_2 p195 q195
        obtain rfl : ad189 = ad195 := (by injection e195)
        replace p195 := eq_true p195
        replace q195 := eq_true q195
        have p37 : 0 ≤ ((rd t183 x6_2) : Int) := of_decide_eq_true q68x1_
        have q37 : ((rd t183 x6_2) : Int) < ((x4_2.length : Int) : Int) := of_decide_eq_true q68x1_
        obtain ⟨go37, co37, eo37, gb37, gl37, cl37, HG37⟩ := Kd.R_form HO_4.out (by omega)
        (first | cases eo37 | (injection eo37 with ea_ en_ ec_; (first | subst ea_ | (injection ea_ with ea_; subst ea_)); subst ec_; clear en_))
        have GB37 := aM68_ gb37
        have GG37 := aM68_ HG37
        clear gb37 gl37 HG37
        obtain ⟨hx37_0, hf37_0⟩ := Kd.R_celln false HO_4.out ((rd t183 x6_2) : Int) p37 q37
        replace p37 := eq_true p37
        replace q37 := eq_true q37
        have HP38 := Kd.R_putg HO_4.out ((rd t183 x6_2) : Int) x8_3
        go_wp2_with (first | ((with_reducible refine gate_store (t := 4) (p := 69) rfl ?_); (try (rw [drewN_self wr]; generalize hq_ : World.drewN wr _ = wr; have n0_ := aM68_ (Kd.R_at hq_ HO_3.out); have n1_ := aM68_ (Kd.R_at hq_ HO_4.out); have n2_ := aM68_ (below_at hq_ HB.out); clear hq_ HO_3 HO_4 HB; have HO_3 := n0_; have HO_4 := n1_; have HB := n2_; clear n0_ n1_ n2_; (try (have HP38 := Kd.R_putg HO_4.out ((rd t183 x6_2) : Int) x8_3)))); refine store_event (t := 4) (p := 69) (v := ?vo_w39) (w1 := (wr.setCell ⟨go37, ((rd t183 x6_2) : Int).toNat, none⟩ (.bool x8_3))) ?hg ?ho ?hn ?hr ?_; (case ho => rfl); (case hg => rfl); (case hn => rfl); (case hr => first | (go_simp; done) | (go_simp; rfl)); intro w39 hw; have hg : wr.grownBy w39 (some go37) := (by rw [hw]; exact HP38.2); have hp_ : Kd.R Kd.bool 4 w39 w.heap.size (fun _ => True) (.slice (some ⟨go37, 0, none⟩) x4_2.length co37) y196 := (by rw [hw, Ny196.out]; exact HP38.1); clear HP38; have n0_ := aM68_ (Kd.R_over' (v := (.slice (some ⟨go37, 0, none⟩) x4_2.length co37)) q68x4_ (Kd.R_typed HO_4.out) (by decide) hg); have n1_ := aM68_ (hp_); have n2_ := aM68_ ((by rw [hw]; exact below_set (HB.out) GB37.out : Below w.heap.size w w39)); clear HO_3; clear HO_4; clear HB; have HO_3 := n0_; have HO_4 := n1_; have HB := n2_; clear n0_ n1_ n2_; clear hg hw hp_))
        repeat (go_quiet (first | ((with_reducible refine gate_store (t := 4) (p := 69) rfl ?_); (try (rw [drewN_self wr]; generalize hq_ : World.drewN wr _ = wr; have n0_ := aM68_ (Kd.R_at hq_ HO_3.out); have n1_ := aM68_ (Kd.R_at hq_ HO_4.out); have n2_ := aM68_ (below_at hq_ HB.out); clear hq_ HO_3 HO_4 HB; have HO_3 := n0_; have HO_4 := n1_; have HB := n2_; clear n0_ n1_ n2_; (try (have HP38 := Kd.R_putg HO_4.out ((rd t183 x6_2) : Int) x8_3)))); refine store_event (t := 4) (p := 69) (v := ?vo_w39) (w1 := (wr.setCell ⟨go37, ((rd t183 x6_2) : Int).toNat, none⟩ (.bool x8_3))) ?hg ?ho ?hn ?hr ?_; (case ho => rfl); (case hg => rfl); (case hn => rfl); (case hr => first | (go_simp; done) | (go_simp; rfl)); intro w39 hw; have hg : wr.grownBy w39 (some go37) := (by rw [hw]; exact HP38.2); have hp_ : Kd.R Kd.bool 4 w39 w.heap.size (fun _ => True) (.slice (some ⟨go37, 0, none⟩) x4_2.length co37) y196 := (by rw [hw, Ny196.out]; exact HP38.1); clear HP38; have n0_ := aM68_ (Kd.R_over' (v := (.slice (some ⟨go37, 0, none⟩) x4_2.length co37)) q68x4_ (Kd.R_typed HO_4.out) (by decide) hg); have n1_ := aM68_ (hp_); have n2_ := aM68_ ((by rw [hw]; exact below_set (HB.out) GB37.out : Below w.heap.size w w39)); clear HO_3; clear HO_4; clear HB; have HO_3 := n0_; have HO_4 := n1_; have HB := n2_; clear n0_ n1_ n2_; clear hg hw hp_)); try go_wp2_with (first | ((with_reducible refine gate_store (t := 4) (p := 69) rfl ?_); (try (rw [drewN_self wr]; generalize hq_ : World.drewN wr _ = wr; have n0_ := aM68_ (Kd.R_at hq_ HO_3.out); have n1_ := aM68_ (Kd.R_at hq_ HO_4.out); have n2_ := aM68_ (below_at hq_ HB.out); clear hq_ HO_3 HO_4 HB; have HO_3 := n0_; have HO_4 := n1_; have HB := n2_; clear n0_ n1_ n2_; (try (have HP38 := Kd.R_putg HO_4.out ((rd t183 x6_2) : Int) x8_3)))); refine store_event (t := 4) (p := 69) (v := ?vo_w39) (w1 := (wr.setCell ⟨go37, ((rd t183 x6_2) : Int).toNat, none⟩ (.bool x8_3))) ?hg ?ho ?hn ?hr ?_; (case ho => rfl); (case hg => rfl); (case hn => rfl); (case hr => first | (go_simp; done) | (go_simp; rfl)); intro w39 hw; have hg : wr.grownBy w39 (some go37) := (by rw [hw]; exact HP38.2); have hp_ : Kd.R Kd.bool 4 w39 w.heap.size (fun _ => True) (.slice (some ⟨go37, 0, none⟩) x4_2.length co37) y196 := (by rw [hw, Ny196.out]; exact HP38.1); clear HP38; have n0_ := aM68_ (Kd.R_over' (v := (.slice (some ⟨go37, 0, none⟩) x4_2.length co37)) q68x4_ (Kd.R_typed HO_4.out) (by decide) hg); have n1_ := aM68_ (hp_); have n2_ := aM68_ ((by rw [hw]; exact below_set (HB.out) GB37.out : Below w.heap.size w w39)); clear HO_3; clear HO_4; clear HB; have HO_3 := n0_; have HO_4 := n1_; have HB := n2_; clear n0_ n1_ n2_; clear hg hw hp_)))
        go_roundg k3
        case measure => have := HK1.out; have := HK2.out; have := HK3.out; omega
        case rel => exact ⟨(y196), (wrap64 (x6_2 + 1)), q68x3_, H', ⟨by have := HK1.out; have := HK2.out; have := HK3.out; omega⟩, ⟨by (with_reducible repeat (first | apply Kd.R_alloc | apply Kd.R_drewN | apply Kd.R_drew)); exact HO_3.out⟩, ⟨by (with_reducible repeat (first | apply Kd.R_alloc | apply Kd.R_drewN | apply Kd.R_drew)); exact HO_4.out⟩, ⟨by repeat (first | (with_reducible first | exact HB.out | apply below_alloc | apply pw_below_drewN | apply below_drew1) | exact HB.out)⟩⟩
       rw [if_pos c19] at H
       have c19b0 : (((rd_T77 l0_0 (rd t183 x6_2)).f0) == 1) = true := beq_iff_eq.mpr c19
       have c19b1 : (((rd_T77 l0_0 (rd t183 x6_2)).f0) != 1) = false := bne_eq_false_iff_eq.mpr c19
       clear c19
       by_cases c20 : x8_3 = true
       rotate_left
       ·replace c20 := Bool.eq_false_iff.mpr c20
        subst c20
        have H1 : (spec_l06Productive.l2 k3 t183 x4_2 x5_1 x6_2 false (wrap64 (x9_3 + 1)) (rd t183 x6_2) l0_0) = some r := by rw [if_neg (show ¬ (false = true) by decide)] at H; exact H
        clear H
        have H := H1
        clear H1
        have H' := aM68_ H
        clear H
        have p191 : 0 ≤ ((rd t183 x6_2) : Int) := of_decide_eq_true q68x1_
        have q191 : (rd t183 x6_2) < (l0_0.length : Int) := of_decide_eq_true q68x1_
        obtain ⟨ad191, e191, hx191_0, hx191_1, hx191_2, hx191_3, hx191_4⟩ := at_T77 HR0_0.out (rd t183 x6_2) p191 q191
        obtain rfl : ad190 = ad191 := (by injection e191)
        replace hx191_0 := (HB.out.cell (World.block_lt_of_cell? w _ hx191_0)).trans hx191_0
        replace hx191_1 := (HB.out.cell (World.block_lt_of_cell? w _ hx191_1)).trans hx191_1
        replace hx191_2 := (HB.out.cell (World.block_lt_of_cell? w _ hx191_2)).trans hx191_2
        replace hx191_3 := (HB.out.cell (World.block_lt_of_cell? w _ hx191_3)).trans hx191_3
        replace hx191_4 := (HB.out.cell (World.block_lt_of_cell? w _ hx191_4)).trans hx191_4
        replace p191 := eq_true p191
        replace q191 := eq_true q191
        go_wp2
        repeat (go_quiet (fail); try go_wp2)
        go_roundg k3
        case measure => have := HK1.out; have := HK2.out; have := HK3.out; omega
        case rel => exact ⟨(false), (wrap64 (x9_3 + 1)), q68x3_, q68x3_, H', ⟨by have := HK1.out; have := HK2.out; have := HK3.out; omega⟩, ⟨by (with_reducible repeat (first | apply Kd.R_alloc | apply Kd.R_drewN | apply Kd.R_drew)); exact HO_3.out⟩, ⟨by (with_reducible repeat (first | apply Kd.R_alloc | apply Kd.R_drewN | apply Kd.R_drew)); exact HO_4.out⟩, ⟨by repeat (first | (with_reducible first | exact HB.out | apply below_alloc | apply pw_below_drewN | apply below_drew1) | exact HB.out)⟩⟩
       subst c20
       have H1 : (if x9_3 = 0 then (if 0 ≤ ((rd_T77 l0_0 (rd t183 x6_2)).f2.f0) then (if ((rd_T77 l0_0 (rd t183 x6_2)).f2.f0) < (x4_2.length : Int) then (spec_l06Productive.l2 k3 t183 x4_2 x5_1 x6_2 (rdOf false x4_2 ((rd_T77 l0_0 (rd t183 x6_2)).f2.f0)) (0 + 1) (rd t183 x6_2) l0_0) else (none)) else (none)) else (if x9_3 = 1 then (if 0 ≤ ((rd_T77 l0_0 (rd t183 x6_2)).f2.f1) then (if ((rd_T77 l0_0 (rd t183 x6_2)).f2.f1) < (x4_2.length : Int) then (spec_l06Productive.l2 k3 t183 x4_2 x5_1 x6_2 (rdOf false x4_2 ((rd_T77 l0_0 (rd t183 x6_2)).f2.f1)) (1 + 1) (rd t183 x6_2) l0_0) else (none)) else (none)) else (if x9_3 = 2 then (if 0 ≤ ((rd_T77 l0_0 (rd t183 x6_2)).f2.f2) then (if ((rd_T77 l0_0 (rd t183 x6_2)).f2.f2) < (x4_2.length : Int) then (spec_l06Productive.l2 k3 t183 x4_2 x5_1 x6_2 (rdOf false x4_2 ((rd_T77 l0_0 (rd t183 x6_2)).f2.f2)) (2 + 1) (rd t183 x6_2) l0_0) else (none)) else (none)) else (none)))) = some r := by rw [if_pos rfl] at H; exact H
       clear H
       have H := H1
       clear H1
       by_cases c21 : x9_3 = 0
       ·subst c21
        have H1 : (if 0 ≤ ((rd_T77 l0_0 (rd t183 x6_2)).f2.f0) then (if ((rd_T77 l0_0 (rd t183 x6_2)).f2.f0) < (x4_2.length : Int) then (spec_l06Productive.l2 k3 t183 x4_2 x5_1 x6_2 (rdOf false x4_2 ((rd_T77 l0_0 (rd t183 x6_2)).f2.f0)) (0 + 1) (rd t183 x6_2) l0_0) else (none)) else (none)) = some r := by rw [if_pos rfl] at H; exact H
        clear H
        have H := H1
        clear H1
        by_cases c22 : 0 ≤ ((rd_T77 l0_0 (rd t183 x6_2)).f2.f0)
        rotate_left
        ·rw [if_neg c22] at H
         exact absurd H (by simp)
        rw [if_pos c22] at H
        have c22b0 : decide (0 ≤ ((rd_T77 l0_0 (rd t183 x6_2)).f2.f0)) = true := decide_eq_true c22
        clear c22
        by_cases c23 : ((rd_T77 l0_0 (rd t183 x6_2)).f2.f0) < (x4_2.length : Int)
        rotate_left
        ·rw [if_neg c23] at H
         exact absurd H (by simp)
        rw [if_pos c23] at H
        have c23b0 : decide (((rd_T77 l0_0 (rd t183 x6_2)).f2.f0) < (x4_2.length : Int)) = true := decide_eq_true c23
        clear c23
        have H' := aM68_ H
        clear H
        have p191 : 0 ≤ ((rd t183 x6_2) : Int) := of_decide_eq_true q68x1_
        have q191 : (rd t183 x6_2) < (l0_0.length : Int) := of_decide_eq_true q68x1_
        obtain ⟨ad191, e191, hx191_0, hx191_1, hx191_2, hx191_3, hx191_4⟩ := at_T77 HR0_0.out (rd t183 x6_2) p191 q191
        obtain rfl : ad190 = ad191 := (by injection e191)
        replace hx191_0 := (HB.out.cell (World.block_lt_of_cell? w _ hx191_0)).trans hx191_0
        replace hx191_1 := (HB.out.cell (World.block_lt_of_cell? w _ hx191_1)).trans hx191_1
        replace hx191_2 := (HB.out.cell (World.block_lt_of_cell? w _ hx191_2)).trans hx191_2
        replace hx191_3 := (HB.out.cell (World.block_lt_of_cell? w _ hx191_3)).trans hx191_3
        replace hx191_4 := (HB.out.cell (World.block_lt_of_cell? w _ hx191_4)).trans hx191_4
        replace p191 := eq_true p191
        replace q191 := eq_true q191
        obtain ⟨Ao24, co24, eo24⟩ := Kd.R_slice HO_4.out
        subst eo24
        have p192 : 0 ≤ (((rd_T77 l0_0 (rd t183 x6_2)).f2.f0) : Int) := of_decide_eq_true q68x1_
        have q192 : ((rd_T77 l0_0 (rd t183 x6_2)).f2.f0) < (x4_2.length : Int) := of_decide_eq_true q68x1_
        obtain ⟨ad192, e192, hx192_0⟩ := Kd.at_bool (Kd.R_reads' HO_4.out).2.2 ((rd_T77 l0_0 (rd t183 x6_2)).f2.f0) p192 q192
        cases e192
        replace p192 := eq_true p192
        replace q192 := eq_true q192
        go_wp2
        repeat (go_quiet (fail); try go_wp2)
        go_roundg k3
        case measure => have := HK1.out; have := HK2.out; have := HK3.out; omega
        case rel => exact ⟨(rdOf false x4_2 ((rd_T77 l0_0 (rd t183 x6_2)).f2.f0)), (0 + 1), q68x3_, q68x3_, H', ⟨by have := HK1.out; have := HK2.out; have := HK3.out; omega⟩, ⟨by (with_reducible repeat (first | apply Kd.R_alloc | apply Kd.R_drewN | apply Kd.R_drew)); exact HO_3.out⟩, ⟨by (with_reducible repeat (first | apply Kd.R_alloc | apply Kd.R_drewN | apply Kd.R_drew)); exact HO_4.out⟩, ⟨by repeat (first | (with_reducible first | exact HB.out | apply below_alloc | apply pw_below_drewN | apply below_drew1) | exact HB.out)⟩⟩
       rw [if_neg c21] at H
       by_cases c25 : x9_3 = 1
       ·subst c25
        have H1 : (if 0 ≤ ((rd_T77 l0_0 (rd t183 x6_2)).f2.f1) then (if ((rd_T77 l0_0 (rd t183 x6_2)).f2.f1) < (x4_2.length : Int) then (spec_l06Productive.l2 k3 t183 x4_2 x5_1 x6_2 (rdOf false x4_2 ((rd_T77 l0_0 (rd t183 x6_2)).f2.f1)) (1 + 1) (rd t183 x6_2) l0_0) else (none)) else (none)) = some r := by rw [if_pos rfl] at H; exact H
        clear H
        have H := H1
        clear H1
        by_cases c26 : 0 ≤ ((rd_T77 l0_0 (rd t183 x6_2)).f2.f1)
        rotate_left
        ·rw [if_neg c26] at H
         exact absurd H (by simp)
        rw [if_pos c26] at H
        have c26b0 : decide (0 ≤ ((rd_T77 l0_0 (rd t183 x6_2)).f2.f1)) = true := decide_eq_true c26
        clear c26
        by_cases c27 : ((rd_T77 l0_0 (rd t183 x6_2)).f2.f1) < (x4_2.length : Int)
        rotate_left
        ·rw [if_neg c27] at H
         exact absurd H (by simp)
        rw [if_pos c27] at H
        have c27b0 : decide (((rd_T77 l0_0 (rd t183 x6_2)).f2.f1) < (x4_2.length : Int)) = true := decide_eq_true c27
        clear c27
        have H' := aM68_ H
        clear H
        have p191 : 0 ≤ ((rd t183 x6_2) : Int) := of_decide_eq_true q68x1_
        have q191 : (rd t183 x6_2) < (l0_0.length : Int) := of_decide_eq_true q68x1_
        obtain ⟨ad191, e191, hx191_0, hx191_1, hx191_2, hx191_3, hx191_4⟩ := at_T77 HR0_0.out (rd t183 x6_2) p191 q191
        obtain rfl : ad190 = ad191 := (by injection e191)
        replace hx191_0 := (HB.out.cell (World.block_lt_of_cell? w _ hx191_0)).trans hx191_0
        replace hx191_1 := (HB.out.cell (World.block_lt_of_cell? w _ hx191_1)).trans hx191_1
        replace hx191_2 := (HB.out.cell (World.block_lt_of_cell? w _ hx191_2)).trans hx191_2
        replace hx191_3 := (HB.out.cell (World.block_lt_of_cell? w _ hx191_3)).trans hx191_3
        replace hx191_4 := (HB.out.cell (World.block_lt_of_cell? w _ hx191_4)).trans hx191_4
        replace p191 := eq_true p191
        replace q191 := eq_true q191
        obtain ⟨Ao28, co28, eo28⟩ := Kd.R_slice HO_4.out
        subst eo28
        have p193 : 0 ≤ (((rd_T77 l0_0 (rd t183 x6_2)).f2.f1) : Int) := of_decide_eq_true q68x1_
        have q193 : ((rd_T77 l0_0 (rd t183 x6_2)).f2.f1) < (x4_2.length : Int) := of_decide_eq_true q68x1_
        obtain ⟨ad193, e193, hx193_0⟩ := Kd.at_bool (Kd.R_reads' HO_4.out).2.2 ((rd_T77 l0_0 (rd t183 x6_2)).f2.f1) p193 q193
        cases e193
        replace p193 := eq_true p193
        replace q193 := eq_true q193
        go_wp2
        repeat (go_quiet (fail); try go_wp2)
        go_roundg k3
        case measure => have := HK1.out; have := HK2.out; have := HK3.out; omega
        case rel => exact ⟨(rdOf false x4_2 ((rd_T77 l0_0 (rd t183 x6_2)).f2.f1)), (1 + 1), q68x3_, q68x3_, H', ⟨by have := HK1.out; have := HK2.out; have := HK3.out; omega⟩, ⟨by (with_reducible repeat (first | apply Kd.R_alloc | apply Kd.R_drewN | apply Kd.R_drew)); exact HO_3.out⟩, ⟨by (with_reducible repeat (first | apply Kd.R_alloc | apply Kd.R_drewN | apply Kd.R_drew)); exact HO_4.out⟩, ⟨by repeat (first | (with_reducible first | exact HB.out | apply below_alloc | apply pw_below_drewN | apply below_drew1) | exact HB.out)⟩⟩
       rw [if_neg c25] at H
       by_cases c29 : x9_3 = 2
       rotate_left
       ·rw [if_neg c29] at H
        exact absurd H (by simp)
       subst c29
       have H1 : (if 0 ≤ ((rd_T77 l0_0 (rd t183 x6_2)).f2.f2) then (if ((rd_T77 l0_0 (rd t183 x6_2)).f2.f2) < (x4_2.length : Int) then (spec_l06Productive.l2 k3 t183 x4_2 x5_1 x6_2 (rdOf false x4_2 ((rd_T77 l0_0 (rd t183 x6_2)).f2.f2)) (2 + 1) (rd t183 x6_2) l0_0) else (none)) else (none)) = some r := by rw [if_pos rfl] at H; exact H
       clear H
       have H := H1
       clear H1
       by_cases c30 : 0 ≤ ((rd_T77 l0_0 (rd t183 x6_2)).f2.f2)
       rotate_left
       ·rw [if_neg c30] at H
        exact absurd H (by simp)
       rw [if_pos c30] at H
       have c30b0 : decide (0 ≤ ((rd_T77 l0_0 (rd t183 x6_2)).f2.f2)) = true := decide_eq_true c30
       clear c30
       by_cases c31 : ((rd_T77 l0_0 (rd t183 x6_2)).f2.f2) < (x4_2.length : Int)
       rotate_left
       ·rw [if_neg c31] at H
        exact absurd H (by simp)
       rw [if_pos c31] at H
       have c31b0 : decide (((rd_T77 l0_0 (rd t183 x6_2)).f2.f2) < (x4_2.length : Int)) = true := decide_eq_true c31
       clear c31
       have H' := aM68_ H
       clear H
       have p191 : 0 ≤ ((rd t183 x6_2) : Int) := of_decide_eq_true q68x1_
       have q191 : (rd t183 x6_2) < (l0_0.length : Int) := of_decide_eq_true q68x1_
       obtain ⟨ad191, e191, hx191_0, hx191_1, hx191_2, hx191_3, hx191_4⟩ := at_T77 HR0_0.out (rd t183 x6_2) p191 q191
       obtain rfl : ad190 = ad191 := (by injection e191)
       replace hx191_0 := (HB.out.cell (World.block_lt_of_cell? w _ hx191_0)).trans hx191_0
       replace hx191_1 := (HB.out.cell (World.block_lt_of_cell? w _ hx191_1)).trans hx191_1
       replace hx191_2 := (HB.out.cell (World.block_lt_of_cell? w _ hx191_2)).trans hx191_2
       replace hx191_3 := (HB.out.cell (World.block_lt_of_cell? w _ hx191_3)).trans hx191_3
       replace hx191_4 := (HB.out.cell (World.block_lt_of_cell? w _ hx191_4)).trans hx191_4
       replace p191 := eq_true p191
       replace q191 := eq_true q191
       obtain ⟨Ao32, co32, eo32⟩ := Kd.R_slice HO_4.out
       subst eo32
       have p194 : 0 ≤ (((rd_T77 l0_0 (rd t183 x6_2)).f2.f2) : Int) := of_decide_eq_true q68x1_
       have q194 : ((rd_T77 l0_0 (rd t183 x6_2)).f2.f2) < (x4_2.length : Int) := of_decide_eq_true q68x1_
       obtain ⟨ad194, e194, hx194_0⟩ := Kd.at_bool (Kd.R_reads' HO_4.out).2.2 ((rd_T77 l0_0 (rd t183 x6_2)).f2.f2) p194 q194
       cases e194
       replace p194 := eq_true p194
       replace q194 := eq_true q194
       go_wp2
       repeat (go_quiet (fail); try go_wp2)
       go_roundg k3
       case measure => have := HK1.out; have := HK2.out; have := HK3.out; omega
       case rel => exact ⟨(rdOf false x4_2 ((rd_T77 l0_0 (rd t183 x6_2)).f2.f2)), (2 + 1), q68x3_, q68x3_, H', ⟨by have := HK1.out; have := HK2.out; have := HK3.out; omega⟩, ⟨by (with_reducible repeat (first | apply Kd.R_alloc | apply Kd.R_drewN | apply Kd.R_drew)); exact HO_3.out⟩, ⟨by (with_reducible repeat (first | apply Kd.R_alloc | apply Kd.R_drewN | apply Kd.R_drew)); exact HO_4.out⟩, ⟨by repeat (first | (with_reducible first | exact HB.out | apply below_alloc | apply pw_below_drewN | apply below_drew1) | exact HB.out)⟩⟩
end Go.Proofs.Ytlccefmimpmgjaa.MFnExactIsProductive
