/- Functions of the program as Lean functions, and the proof that the code comes to what they say. Written by a program of this session (myprint.py). -/
import Derived.Test.YtlccefmimpmgjaaMFnExactIsProductivex0
import Derived.Test.YtlccefmimpmgjaaMFnExactIsProductivex5
namespace Go.Proofs.Ytlccefmimpmgjaa.MFnExactIsProductive
open Go.RowKit Go.Proofs.Ytlccefmimpmgjaa.MOpen Go.Proofs.YtlccefmimpmgjaaW.PrintWords Go.Proofs.YtlccefmimpmgjaaW.PrintLast Go.Proofs.YtlccefmimpmgjaaW.PrintMore
attribute [local go_sem] max2_int min2_int max_two min_two max_three min_three max_four min_four   -- for this text's walks alone
set_option linter.unusedVariables false
set_option linter.unusedSimpArgs false

set_option linter.defProp false
def aM101_ := @Aside0.mk
theorem q101x1_ {P : Prop} (h : P := by repeat (first | (with_reducible first | exact HB.out | apply below_alloc | apply pw_below_drewN | apply below_drew1 | refine below_set ?_ GE213.out) | exact HB.out)) : P := h
theorem q101x2_ {P : Prop} (h : P := by (with_reducible repeat (first | refine blk_drewN ?_ _ | refine blk_drew ?_ | refine blk_alloc ?_ _)); exact BK213.out) : P := h
theorem q101x3_ {P : Prop} (h : P := by first | (with_reducible assumption) | assumption) : P := h
theorem q101x4_ {P : Prop} (h : P := by repeat (first | (with_reducible first | exact HB.out | apply below_alloc | apply pw_below_drewN | apply below_drew1) | exact HB.out)) : P := h
theorem q101x5_ {P : Prop} (h : P := by (with_reducible repeat (first | apply Kd.R_alloc | apply Kd.R_drewN | apply Kd.R_drew)); exact HO_3.out) : P := h
theorem q101x6_ {P : Prop} (h : P := by (with_reducible repeat (first | apply Kd.R_alloc | apply Kd.R_drewN | apply Kd.R_drew)); exact HO216.out) : P := h
theorem q101x7_ {P : Prop} (h : P := by rw [hw]; exact below_set (HB.out) GB5.out) : P := h
theorem q101x8_ {P : Prop} (h : P := by (with_reducible repeat (first | apply Kd.R_alloc | apply Kd.R_drewN | apply Kd.R_drew)); exact HO_4.out) : P := h
theorem q101x9_ {P : Prop} (h : P := by rw [hg]; exact (below_size q101x4_)) : P := h
theorem q101x10_ {P : Prop} (h : P := by first | rfl | (simp; done) | (simp [*]; done)) : P := h
/-! ### impl_Tree_found: function 101 -/
mutual
def impl_Tree_found.l0 : Nat → List Int → List Bool → Int → List (S77) → Option (List Int)
 | 0, _, _, _, _ => none
 | k + 1, x3, x4, x5, x214000 => if x5 < (x3.length : Int) then (if 0 ≤ x5 then (if 0 ≤ (rd x3 x5) then (if (rd x3 x5) < (x214000.length : Int) then ((impl_Fork_ways.f ((rd_T77 x214000 (rd x3 x5)).f0) ((rd_T77 x214000 (rd x3 x5)).f1) ((rd_T77 x214000 (rd x3 x5)).f2.f0) ((rd_T77 x214000 (rd x3 x5)).f2.f1) ((rd_T77 x214000 (rd x3 x5)).f2.f2)).bind fun t223 => (impl_Tree_found.l1 k x3 x4 x5 t223 (t223.length : Int) 0 x214000)) else (none)) else (none)) else (none)) else (some x3)
def impl_Tree_found.l1 : Nat → List Int → List Bool → Int → List Int → Int → Int → List (S77) → Option (List Int)
 | 0, _, _, _, _, _, _, _ => none
 | k + 1, x3, x4, x5, x28, x29, x30, x214000 => if x30 < x29 then (if 0 ≤ x30 then (if x30 < (x28.length : Int) then (if 0 ≤ (rd x28 x30) then (if (rd x28 x30) < (x4.length : Int) then (if (rdOf false x4 (rd x28 x30) = true) then (impl_Tree_found.l1 k x3 x4 x5 x28 x29 (wrap64 (x30 + 1)) x214000) else (if x3.length < 70368744177664 then (impl_Tree_found.l1 k (x3 ++ [rd x28 x30]) (x4.set ((rd x28 x30) : Int).toNat true) x5 x28 x29 (wrap64 (x30 + 1)) x214000) else (none))) else (none)) else (none)) else (none)) else (none)) else (impl_Tree_found.l0 k x3 x4 (wrap64 (x5 + 1)) x214000)
end
def impl_Tree_found.f (k : Nat) (l0_0 : List (S77)) : Option (List Int) := if 0 ≤ (l0_0.length : Int) then (if ((l0_0.length : Int) : Int).toNat ≤ 281474976710656 then ((some (List.replicate ((l0_0.length : Int) : Int).toNat false : List Bool)).bind fun y217 => (if 0 < (y217.length : Int) then (impl_Tree_found.l0 k (([0] : List Int)) (y217.set (0 : Int).toNat true) 0 l0_0) else (none))) else (none)) else (none)
theorem impl_Tree_found.mono_l : ∀ k, (∀ y0 y1 y2 y3, LeO (impl_Tree_found.l0 k y0 y1 y2 y3) (impl_Tree_found.l0 (k + 1) y0 y1 y2 y3)) ∧ (∀ y0 y1 y2 y3 y4 y5 y6, LeO (impl_Tree_found.l1 k y0 y1 y2 y3 y4 y5 y6) (impl_Tree_found.l1 (k + 1) y0 y1 y2 y3 y4 y5 y6))
 | 0 => ⟨fun _ _ _ _ r h => by simp [impl_Tree_found.l0] at h, fun _ _ _ _ _ _ _ r h => by simp [impl_Tree_found.l1] at h⟩
 | k + 1 => by
  obtain ⟨ih0, ih1⟩ := impl_Tree_found.mono_l k
  refine ⟨?_, ?_⟩
  ·intro y0 y1 y2 y3
   unfold impl_Tree_found.l0
   repeat' first
   | (with_reducible exact ih0 _ _ _ _)
   | (with_reducible exact ih1 _ _ _ _ _ _ _)
   | (with_reducible exact LeO.refl _)
   | (with_reducible exact LeO.none _)
   | (with_reducible refine LeO.ite ?_ ?_)
   | (with_reducible refine LeO.bind ?_ (fun _ => ?_))
   | exact ih0 _ _ _ _
   | exact ih1 _ _ _ _ _ _ _
   | exact LeO.none _
   | refine LeO.ite ?_ ?_
   | refine LeO.bind ?_ (fun _ => ?_)
  intro y0 y1 y2 y3 y4 y5 y6
  unfold impl_Tree_found.l1
  repeat' first
  | (with_reducible exact ih0 _ _ _ _)
  | (with_reducible exact ih1 _ _ _ _ _ _ _)
  | (with_reducible exact LeO.refl _)
  | (with_reducible exact LeO.none _)
  | (with_reducible refine LeO.ite ?_ ?_)
  | (with_reducible refine LeO.bind ?_ (fun _ => ?_))
  | exact ih0 _ _ _ _
  | exact ih1 _ _ _ _ _ _ _
  | exact LeO.none _
  | refine LeO.ite ?_ ?_
  | refine LeO.bind ?_ (fun _ => ?_)
theorem impl_Tree_found.mono : ∀ a0 k, LeO (impl_Tree_found.f k a0) (impl_Tree_found.f (k + 1) a0) := by
 intro a0 k
 obtain ⟨ih0, ih1⟩ := impl_Tree_found.mono_l k
 unfold impl_Tree_found.f
 repeat' first
   | (with_reducible exact ih0 _ _ _ _)
   | (with_reducible exact ih1 _ _ _ _ _ _ _)
   | (with_reducible exact LeO.refl _)
   | (with_reducible exact LeO.none _)
   | (with_reducible refine LeO.ite ?_ ?_)
   | (with_reducible refine LeO.bind ?_ (fun _ => ?_))
   | exact ih0 _ _ _ _
   | exact ih1 _ _ _ _ _ _ _
   | exact LeO.none _
   | refine LeO.ite ?_ ?_
   | refine LeO.bind ?_ (fun _ => ?_)
set_option maxHeartbeats 8000000 in
set_option maxRecDepth 100000 in
theorem impl_Tree_found.calls (k : Nat) (A0_0 : Option Addr) (c0_0 : Nat) (l0_0 : List (S77)) (r : List Int) (w : World) (hr0_0 : Kd.C k77 w A0_0 l0_0.length l0_0) (hc0_0 : l0_0.length ≤ c0_0) (h : impl_Tree_found.f k l0_0 = some r) :
  Calls Try.prog 101 #[.agg #[.slice A0_0 l0_0.length c0_0]] w fun e w' => ∃ v0_ : Value, e = .returned (v0_) ∧ Kd.R (Kd.int .i16) 74 w' w.heap.size (fun _ => True) v0_ r ∧ Below w.heap.size w w' := by
 have hu24 := Try.underlying24
 have HR0_0 := aM101_ hr0_0
 have HC0_0 := aM101_ hc0_0
 clear hr0_0 hc0_0
 have HB := aM101_ (Below.refl w.heap.size w)
 have H : (if 0 ≤ (l0_0.length : Int) then (if ((l0_0.length : Int) : Int).toNat ≤ 281474976710656 then ((some (List.replicate ((l0_0.length : Int) : Int).toNat false : List Bool)).bind fun y217 => (if 0 < (y217.length : Int) then (impl_Tree_found.l0 k (([0] : List Int)) (y217.set (0 : Int).toNat true) 0 l0_0) else (none))) else (none)) else (none)) = some r := h
 clear h
 obtain ⟨y214, hy214⟩ : ∃ y_ : List Int, y_ = (([0] : List Int)) := ⟨_, rfl⟩
 replace H : (if 0 ≤ (l0_0.length : Int) then (if ((l0_0.length : Int) : Int).toNat ≤ 281474976710656 then ((some (List.replicate ((l0_0.length : Int) : Int).toNat false : List Bool)).bind fun y217 => (if 0 < (y217.length : Int) then (impl_Tree_found.l0 k y214 (y217.set (0 : Int).toNat true) 0 l0_0) else (none))) else (none)) else (none)) = some r := by first | (rw [hy214]; with_reducible exact H) | (have H2_ := (Option.bind_some _ _).symm.trans H; rw [hy214]; with_reducible exact H2_) | (have H2_ := (Option.bind_some _ _).symm.trans H; with_reducible exact H2_) | with_reducible exact H | (rw [hy214]; exact H) | exact H
 have Ny214 := aM101_ hy214
 clear hy214
 by_cases c2 : 0 ≤ (l0_0.length : Int)
 rotate_left
 ·rw [if_neg c2] at H
  exact absurd H (by simp)

 rw [if_pos c2] at H
 have c2b0 := eq_true c2
 have c2b1 : decide (0 ≤ (l0_0.length : Int)) = true := decide_eq_true c2
 clear c2
 by_cases c3 : ((l0_0.length : Int) : Int).toNat ≤ 281474976710656
 rotate_left
 ·rw [if_neg c3] at H
  exact absurd H (by simp)
 rw [if_pos c3] at H
 have c3b0 := eq_true c3
 have c3b1 : decide (((l0_0.length : Int) : Int).toNat ≤ 281474976710656) = true := decide_eq_true c3
 clear c3
 obtain ⟨y217, hy217⟩ : ∃ y_ : List Bool, y_ = (List.replicate ((l0_0.length : Int) : Int).toNat false) := ⟨_, rfl⟩
 replace H : (if 0 < (y217.length : Int) then (impl_Tree_found.l0 k y214 (y217.set (0 : Int).toNat true) 0 l0_0) else (none)) = some r := by first | (rw [hy217]; with_reducible exact H) | (have H2_ := (Option.bind_some _ _).symm.trans H; rw [hy217]; with_reducible exact H2_) | (have H2_ := (Option.bind_some _ _).symm.trans H; with_reducible exact H2_) | with_reducible exact H | (rw [hy217]; exact H) | exact H
 have Ny217 := aM101_ hy217
 clear hy217
 by_cases c4 : 0 < (y217.length : Int)
 rotate_left
 ·rw [if_neg c4] at H
  exact absurd H (by simp)
 rw [if_pos c4] at H
 have c4b0 : decide (0 < (y217.length : Int)) = true := decide_eq_true c4
 have c4b1 : decide (0 < y217.length) = true := decide_eq_true (by omega)
 clear c4
 obtain ⟨y220, hy220⟩ : ∃ y_ : List Bool, y_ = (y217.set (0 : Int).toNat true) := ⟨_, rfl⟩
 replace H : (impl_Tree_found.l0 k y214 y220 0 l0_0) = some r := by first | (rw [hy220]; with_reducible exact H) | (have H2_ := (Option.bind_some _ _).symm.trans H; rw [hy220]; with_reducible exact H2_) | (have H2_ := (Option.bind_some _ _).symm.trans H; with_reducible exact H2_) | with_reducible exact H | (rw [hy220]; exact H) | exact H
 have Ny220 := aM101_ hy220
 clear hy220
 have H' := aM101_ H
 clear H
 go_enter Try.func101, Try.ntmps101
 go_wp2_with (first | ((with_reducible refine gate_dst (N := 1) rfl ?_); refine box_event ?hg (N := 1) ?hd (cs := #[.slice A0_0 l0_0.length c0_0]) (t := 24) ?hr ?_; (case hd => rfl); (case hg => rfl); (case hr => first | (go_simp; done) | (go_simp; rfl)); intro gb213 hg w6 hbox hb; have n0_ := aM101_ (below_step q101x4_ hb); have n1_ := aM101_ (hbox); have n2_ := aM101_ ((q101x9_ : w.heap.size ≤ gb213)); have n3_ := aM101_ ((q101x9_ : w.heap.size ≤ gb213)); clear HB; have HB := n0_; have BK213 := n1_; have GW213 := n2_; have GE213 := n3_; clear n0_ n1_ n2_ n3_; clear hb hbox hg) | ((with_reducible refine gate_dst (N := 8) rfl ?_); refine Kd.R_lit (Kd.int .i16) _ 74 ?hg (N := 8) ?hd (xs := ([0] : List Int)) (inner := [.int .i16 0]) (ok := fun _ => True) (okp := fun _ => True) ?hr ?hp (fun _ hk => hk) trivial (Below.refl _ _) (Nat.le_refl _) (by simp) ?_; (case hd => rfl); (case hg => rfl); (case hr => first | (go_simp; done) | (go_simp; rfl)); (case hp => exact (Reps.one (show Kd.M (Kd.int .i16) _ _ _ 0 [.int .i16 0] from rfl) (Reps.none _ _))); intro v215 w7 ho8 hb hg_ hnew_; clear hg_ hnew_; (first | rw [← Ny214.out] at ho8 | (simp only [Int.reduceToNat] at ho8; rw [← Ny214.out] at ho8)); have n0_ := aM101_ (Kd.R_lower ho8 (below_size q101x1_)); have n1_ := aM101_ (blk_below (g := gb213) (o := .cells #[.slice A0_0 l0_0.length c0_0] 24 (0, 0)) q101x2_ hb); have n2_ := aM101_ (below_step q101x1_ hb); clear BK213; clear HB; have HO216 := n0_; have BK213 := n1_; have HB := n2_; clear n0_ n1_ n2_; clear hb ho8; have hcz9_0 : w7.cell? ⟨gb213, 0, none⟩ = some (.slice A0_0 l0_0.length c0_0) := (blk_cell BK213.out 0).trans rfl; have hfz9_0 := blk_frozen BK213.out 0) | ((with_reducible refine gate_dst (N := 12) rfl ?_); refine Kd.R_make Kd.bool _ 4 rfl (N := 12) rfl 134 _ _ rfl (l0_0.length : Int) rfl rfl Try.underlying134 (.bool false) 1 info4 rfl (by decide) (by omega) false (ok := fun _ => True) (okp := fun _ => True) rfl (fun _ hk => hk) trivial (of_decide_eq_true q101x3_) (Nat.le_trans (Nat.mul_le_mul_right _ (of_decide_eq_true q101x3_ : (l0_0.length : Int).toNat ≤ 281474976710656)) (by omega)) (Below.refl _ _) (Nat.le_refl _) ?_; intro v218 w10 ho11 hb hg_ hnew_; clear hg_ hnew_; (first | rw [← Ny217.out] at ho11 | (simp only [Int.reduceToNat] at ho11; rw [← Ny217.out] at ho11)); have n0_ := aM101_ (Kd.R_below q101x6_ hb); have n1_ := aM101_ (Kd.R_lower ho11 (below_size q101x1_)); have n2_ := aM101_ (blk_below (g := gb213) (o := .cells #[.slice A0_0 l0_0.length c0_0] 24 (0, 0)) q101x2_ hb); have n3_ := aM101_ (below_step q101x1_ hb); clear HO216; clear BK213; clear HB; have HO216 := n0_; have HO219 := n1_; have BK213 := n2_; have HB := n3_; clear n0_ n1_ n2_ n3_; clear hb ho11; have p5 : 0 ≤ (0 : Int) := (by omega); have q5 : (0 : Int) < ((y217.length : Int) : Int) := of_decide_eq_true q101x3_; have qi5 : (0 < y217.length) = True := eq_true (by omega); obtain ⟨go5, co5, eo5, gb5, gl5, cl5, HG5⟩ := Kd.R_form HO219.out (by omega); (first | cases eo5 | (injection eo5 with ea_ en_ ec_; (first | subst ea_ | (injection ea_ with ea_; subst ea_)); subst ec_; clear en_)); have GB5 := aM101_ gb5; have GG5 := aM101_ HG5; clear gb5 gl5 HG5; obtain ⟨hx5_0, hf5_0⟩ := Kd.R_celln false HO219.out (0 : Int) p5 q5; (try rw [show ((0 : Int)).toNat = 0 from rfl] at hx5_0); (try simp only [Nat.reduceMul, Nat.zero_mul, Nat.zero_add, Nat.reduceAdd] at hx5_0); (try rw [show ((0 : Int)).toNat = 0 from rfl] at hf5_0); (try simp only [Nat.reduceMul, Nat.zero_mul, Nat.zero_add, Nat.reduceAdd] at hf5_0); replace p5 := eq_true p5; replace q5 := eq_true q5; obtain ⟨hy12_, hz12_⟩ := Kd.R_celln false HO219.out (0 : Int) (by omega) (of_decide_eq_true q101x3_); (try simp only [Int.reduceToNat, Int.toNat_zero, Int.toNat_ofNat, Nat.reduceMul, Nat.zero_mul, Nat.zero_add] at hy12_ hz12_); (try rw [show ((0 : Int)).toNat = 0 from rfl] at hy12_); (try rw [show ((0 : Int)).toNat = 0 from rfl] at hz12_); have HP12 := Kd.R_putg HO219.out (0 : Int) true) | ((with_reducible refine gate_store (t := 4) (p := 14) rfl ?_); (try (rw [drewN_self w10]; generalize hq_ : World.drewN w10 _ = w10; have n0_ := aM101_ (Kd.R_at hq_ HO216.out); have n1_ := aM101_ (Kd.R_at hq_ HO219.out); have n2_ := aM101_ (blk_at hq_ BK213.out); have n3_ := aM101_ (below_at hq_ HB.out); clear hq_ HO216 HO219 BK213 HB; have HO216 := n0_; have HO219 := n1_; have BK213 := n2_; have HB := n3_; clear n0_ n1_ n2_ n3_; (try (obtain ⟨hy12_, hz12_⟩ := Kd.R_celln false HO219.out (0 : Int) (by omega) (of_decide_eq_true q101x3_))); (try (try simp only [Int.reduceToNat, Int.toNat_zero, Int.toNat_ofNat, Nat.reduceMul, Nat.zero_mul, Nat.zero_add] at hy12_ hz12_)); (try (try rw [show ((0 : Int)).toNat = 0 from rfl] at hy12_)); (try (try rw [show ((0 : Int)).toNat = 0 from rfl] at hz12_)); (try (have HP12 := Kd.R_putg HO219.out (0 : Int) true)))); refine store_event (t := 4) (p := 14) (v := ?vo_w13) (w1 := (w10.setCell ⟨go5, (0 : Int).toNat, none⟩ (.bool true))) ?hg ?ho ?hn ?hr ?_; (case ho => rfl); (case hg => rfl); (case hn => rfl); (case hr => first | (go_simp; done) | (go_simp; rfl)); intro w13 hw; have hg : w10.grownBy w13 (some go5) := (by rw [hw]; exact HP12.2); have hp_ : Kd.R Kd.bool 4 w13 w.heap.size (fun _ => True) (.slice (some ⟨go5, 0, none⟩) y217.length co5) y220 := (by rw [hw, Ny220.out]; exact HP12.1); clear HP12; have n0_ := aM101_ (blk_grown (g := gb213) (o := .cells #[.slice A0_0 l0_0.length c0_0] 24 (0, 0)) q101x2_ hg (Kd.R_ne HO219.out BK213.out (by decide))); have n1_ := aM101_ (Kd.R_over' (v := (.slice (some ⟨go5, 0, none⟩) y217.length co5)) q101x6_ (Kd.R_typed HO219.out) (by decide) hg); have n2_ := aM101_ (hp_); have n3_ := aM101_ ((q101x7_ : Below w.heap.size w w13)); clear BK213; clear HO216; clear HO219; clear HB; have BK213 := n0_; have HO216 := n1_; have HO219 := n2_; have HB := n3_; clear n0_ n1_ n2_ n3_; clear hg hw hp_))
 repeat (go_quiet (first | ((with_reducible refine gate_dst (N := 1) rfl ?_); refine box_event ?hg (N := 1) ?hd (cs := #[.slice A0_0 l0_0.length c0_0]) (t := 24) ?hr ?_; (case hd => rfl); (case hg => rfl); (case hr => first | (go_simp; done) | (go_simp; rfl)); intro gb213 hg w6 hbox hb; have n0_ := aM101_ (below_step q101x4_ hb); have n1_ := aM101_ (hbox); have n2_ := aM101_ ((q101x9_ : w.heap.size ≤ gb213)); have n3_ := aM101_ ((q101x9_ : w.heap.size ≤ gb213)); clear HB; have HB := n0_; have BK213 := n1_; have GW213 := n2_; have GE213 := n3_; clear n0_ n1_ n2_ n3_; clear hb hbox hg) | ((with_reducible refine gate_dst (N := 8) rfl ?_); refine Kd.R_lit (Kd.int .i16) _ 74 ?hg (N := 8) ?hd (xs := ([0] : List Int)) (inner := [.int .i16 0]) (ok := fun _ => True) (okp := fun _ => True) ?hr ?hp (fun _ hk => hk) trivial (Below.refl _ _) (Nat.le_refl _) (by simp) ?_; (case hd => rfl); (case hg => rfl); (case hr => first | (go_simp; done) | (go_simp; rfl)); (case hp => exact (Reps.one (show Kd.M (Kd.int .i16) _ _ _ 0 [.int .i16 0] from rfl) (Reps.none _ _))); intro v215 w7 ho8 hb hg_ hnew_; clear hg_ hnew_; (first | rw [← Ny214.out] at ho8 | (simp only [Int.reduceToNat] at ho8; rw [← Ny214.out] at ho8)); have n0_ := aM101_ (Kd.R_lower ho8 (below_size q101x1_)); have n1_ := aM101_ (blk_below (g := gb213) (o := .cells #[.slice A0_0 l0_0.length c0_0] 24 (0, 0)) q101x2_ hb); have n2_ := aM101_ (below_step q101x1_ hb); clear BK213; clear HB; have HO216 := n0_; have BK213 := n1_; have HB := n2_; clear n0_ n1_ n2_; clear hb ho8; have hcz9_0 : w7.cell? ⟨gb213, 0, none⟩ = some (.slice A0_0 l0_0.length c0_0) := (blk_cell BK213.out 0).trans rfl; have hfz9_0 := blk_frozen BK213.out 0) | ((with_reducible refine gate_dst (N := 12) rfl ?_); refine Kd.R_make Kd.bool _ 4 rfl (N := 12) rfl 134 _ _ rfl (l0_0.length : Int) rfl rfl Try.underlying134 (.bool false) 1 info4 rfl (by decide) (by omega) false (ok := fun _ => True) (okp := fun _ => True) rfl (fun _ hk => hk) trivial (of_decide_eq_true q101x3_) (Nat.le_trans (Nat.mul_le_mul_right _ (of_decide_eq_true q101x3_ : (l0_0.length : Int).toNat ≤ 281474976710656)) (by omega)) (Below.refl _ _) (Nat.le_refl _) ?_; intro v218 w10 ho11 hb hg_ hnew_; clear hg_ hnew_; (first | rw [← Ny217.out] at ho11 | (simp only [Int.reduceToNat] at ho11; rw [← Ny217.out] at ho11)); have n0_ := aM101_ (Kd.R_below q101x6_ hb); have n1_ := aM101_ (Kd.R_lower ho11 (below_size q101x1_)); have n2_ := aM101_ (blk_below (g := gb213) (o := .cells #[.slice A0_0 l0_0.length c0_0] 24 (0, 0)) q101x2_ hb); have n3_ := aM101_ (below_step q101x1_ hb); clear HO216; clear BK213; clear HB; have HO216 := n0_; have HO219 := n1_; have BK213 := n2_; have HB := n3_; clear n0_ n1_ n2_ n3_; clear hb ho11; have p5 : 0 ≤ (0 : Int) := (by omega); have q5 : (0 : Int) < ((y217.length : Int) : Int) := of_decide_eq_true q101x3_; have qi5 : (0 < y217.length) = True := eq_true (by omega); obtain ⟨go5, co5, eo5, gb5, gl5, cl5, HG5⟩ := Kd.R_form HO219.out (by omega); (first | cases eo5 | (injection eo5 with ea_ en_ ec_; (first | subst ea_ | (injection ea_ with ea_; subst ea_)); subst ec_; clear en_)); have GB5 := aM101_ gb5; have GG5 := aM101_ HG5; clear gb5 gl5 HG5; obtain ⟨hx5_0, hf5_0⟩ := Kd.R_celln false HO219.out (0 : Int) p5 q5; (try rw [show ((0 : Int)).toNat = 0 from rfl] at hx5_0); (try simp only [Nat.reduceMul, Nat.zero_mul, Nat.zero_add, Nat.reduceAdd] at hx5_0); (try rw [show ((0 : Int)).toNat = 0 from rfl] at hf5_0); (try simp only [Nat.reduceMul, Nat.zero_mul, Nat.zero_add, Nat.reduceAdd] at hf5_0); replace p5 := eq_true p5; replace q5 := eq_true q5; obtain ⟨hy12_, hz12_⟩ := Kd.R_celln false HO219.out (0 : Int) (by omega) (of_decide_eq_true q101x3_); (try simp only [Int.reduceToNat, Int.toNat_zero, Int.toNat_ofNat, Nat.reduceMul, Nat.zero_mul, Nat.zero_add] at hy12_ hz12_); (try rw [show ((0 : Int)).toNat = 0 from rfl] at hy12_); (try rw [show ((0 : Int)).toNat = 0 from rfl] at hz12_); have HP12 := Kd.R_putg HO219.out (0 : Int) true) | ((with_reducible refine gate_store (t := 4) (p := 14) rfl ?_); (try (rw [drewN_self w10]; generalize hq_ : World.drewN w10 _ = w10; have n0_ := aM101_ (Kd.R_at hq_ HO216.out); have n1_ := aM101_ (Kd.R_at hq_ HO219.out); have n2_ := aM101_ (blk_at hq_ BK213.out); have n3_ := aM101_ (below_at hq_ HB.out); clear hq_ HO216 HO219 BK213 HB; have HO216 := n0_; have HO219 := n1_; have BK213 := n2_; have HB := n3_; clear n0_ n1_ n2_ n3_; (try (obtain ⟨hy12_, hz12_⟩ := Kd.R_celln false HO219.out (0 : Int) (by omega) (of_decide_eq_true q101x3_))); (try (try simp only [Int.reduceToNat, Int.toNat_zero, Int.toNat_ofNat, Nat.reduceMul, Nat.zero_mul, Nat.zero_add] at hy12_ hz12_)); (try (try rw [show ((0 : Int)).toNat = 0 from rfl] at hy12_)); (try (try rw [show ((0 : Int)).toNat = 0 from rfl] at hz12_)); (try (have HP12 := Kd.R_putg HO219.out (0 : Int) true)))); refine store_event (t := 4) (p := 14) (v := ?vo_w13) (w1 := (w10.setCell ⟨go5, (0 : Int).toNat, none⟩ (.bool true))) ?hg ?ho ?hn ?hr ?_; (case ho => rfl); (case hg => rfl); (case hn => rfl); (case hr => first | (go_simp; done) | (go_simp; rfl)); intro w13 hw; have hg : w10.grownBy w13 (some go5) := (by rw [hw]; exact HP12.2); have hp_ : Kd.R Kd.bool 4 w13 w.heap.size (fun _ => True) (.slice (some ⟨go5, 0, none⟩) y217.length co5) y220 := (by rw [hw, Ny220.out]; exact HP12.1); clear HP12; have n0_ := aM101_ (blk_grown (g := gb213) (o := .cells #[.slice A0_0 l0_0.length c0_0] 24 (0, 0)) q101x2_ hg (Kd.R_ne HO219.out BK213.out (by decide))); have n1_ := aM101_ (Kd.R_over' (v := (.slice (some ⟨go5, 0, none⟩) y217.length co5)) q101x6_ (Kd.R_typed HO219.out) (by decide) hg); have n2_ := aM101_ (hp_); have n3_ := aM101_ ((q101x7_ : Below w.heap.size w w13)); clear BK213; clear HO216; clear HO219; clear HB; have BK213 := n0_; have HO216 := n1_; have HO219 := n2_; have HB := n3_; clear n0_ n1_ n2_ n3_; clear hg hw hp_)); try go_wp2_with (first | ((with_reducible refine gate_dst (N := 1) rfl ?_); refine box_event ?hg (N := 1) ?hd (cs := #[.slice A0_0 l0_0.length c0_0]) (t := 24) ?hr ?_; (case hd => rfl); (case hg => rfl); (case hr => first | (go_simp; done) | (go_simp; rfl)); intro gb213 hg w6 hbox hb; have n0_ := aM101_ (below_step q101x4_ hb); have n1_ := aM101_ (hbox); have n2_ := aM101_ ((q101x9_ : w.heap.size ≤ gb213)); have n3_ := aM101_ ((q101x9_ : w.heap.size ≤ gb213)); clear HB; have HB := n0_; have BK213 := n1_; have GW213 := n2_; have GE213 := n3_; clear n0_ n1_ n2_ n3_; clear hb hbox hg) | ((with_reducible refine gate_dst (N := 8) rfl ?_); refine Kd.R_lit (Kd.int .i16) _ 74 ?hg (N := 8) ?hd (xs := ([0] : List Int)) (inner := [.int .i16 0]) (ok := fun _ => True) (okp := fun _ => True) ?hr ?hp (fun _ hk => hk) trivial (Below.refl _ _) (Nat.le_refl _) (by simp) ?_; (case hd => rfl); (case hg => rfl); (case hr => first | (go_simp; done) | (go_simp; rfl)); (case hp => exact (Reps.one (show Kd.M (Kd.int .i16) _ _ _ 0 [.int .i16 0] from rfl) (Reps.none _ _))); intro v215 w7 ho8 hb hg_ hnew_; clear hg_ hnew_; (first | rw [← Ny214.out] at ho8 | (simp only [Int.reduceToNat] at ho8; rw [← Ny214.out] at ho8)); have n0_ := aM101_ (Kd.R_lower ho8 (below_size q101x1_)); have n1_ := aM101_ (blk_below (g := gb213) (o := .cells #[.slice A0_0 l0_0.length c0_0] 24 (0, 0)) q101x2_ hb); have n2_ := aM101_ (below_step q101x1_ hb); clear BK213; clear HB; have HO216 := n0_; have BK213 := n1_; have HB := n2_; clear n0_ n1_ n2_; clear hb ho8; have hcz9_0 : w7.cell? ⟨gb213, 0, none⟩ = some (.slice A0_0 l0_0.length c0_0) := (blk_cell BK213.out 0).trans rfl; have hfz9_0 := blk_frozen BK213.out 0) | ((with_reducible refine gate_dst (N := 12) rfl ?_); refine Kd.R_make Kd.bool _ 4 rfl (N := 12) rfl 134 _ _ rfl (l0_0.length : Int) rfl rfl Try.underlying134 (.bool false) 1 info4 rfl (by decide) (by omega) false (ok := fun _ => True) (okp := fun _ => True) rfl (fun _ hk => hk) trivial (of_decide_eq_true q101x3_) (Nat.le_trans (Nat.mul_le_mul_right _ (of_decide_eq_true q101x3_ : (l0_0.length : Int).toNat ≤ 281474976710656)) (by omega)) (Below.refl _ _) (Nat.le_refl _) ?_; intro v218 w10 ho11 hb hg_ hnew_; clear hg_ hnew_; (first | rw [← Ny217.out] at ho11 | (simp only [Int.reduceToNat] at ho11; rw [← Ny217.out] at ho11)); have n0_ := aM101_ (Kd.R_below q101x6_ hb); have n1_ := aM101_ (Kd.R_lower ho11 (below_size q101x1_)); have n2_ := aM101_ (blk_below (g := gb213) (o := .cells #[.slice A0_0 l0_0.length c0_0] 24 (0, 0)) q101x2_ hb); have n3_ := aM101_ (below_step q101x1_ hb); clear HO216; clear BK213; clear HB; have HO216 := n0_; have HO219 := n1_; have BK213 := n2_; have HB := n3_; clear n0_ n1_ n2_ n3_; clear hb ho11; have p5 : 0 ≤ (0 : Int) := (by omega); have q5 : (0 : Int) < ((y217.length : Int) : Int) := of_decide_eq_true q101x3_; have qi5 : (0 < y217.length) = True := eq_true (by omega); obtain ⟨go5, co5, eo5, gb5, gl5, cl5, HG5⟩ := Kd.R_form HO219.out (by omega); (first | cases eo5 | (injection eo5 with ea_ en_ ec_; (first | subst ea_ | (injection ea_ with ea_; subst ea_)); subst ec_; clear en_)); have GB5 := aM101_ gb5; have GG5 := aM101_ HG5; clear gb5 gl5 HG5; obtain ⟨hx5_0, hf5_0⟩ := Kd.R_celln false HO219.out (0 : Int) p5 q5; (try rw [show ((0 : Int)).toNat = 0 from rfl] at hx5_0); (try simp only [Nat.reduceMul, Nat.zero_mul, Nat.zero_add, Nat.reduceAdd] at hx5_0); (try rw [show ((0 : Int)).toNat = 0 from rfl] at hf5_0); (try simp only [Nat.reduceMul, Nat.zero_mul, Nat.zero_add, Nat.reduceAdd] at hf5_0); replace p5 := eq_true p5; replace q5 := eq_true q5; obtain ⟨hy12_, hz12_⟩ := Kd.R_celln false HO219.out (0 : Int) (by omega) (of_decide_eq_true q101x3_); (try simp only [Int.reduceToNat, Int.toNat_zero, Int.toNat_ofNat, Nat.reduceMul, Nat.zero_mul, Nat.zero_add] at hy12_ hz12_); (try rw [show ((0 : Int)).toNat = 0 from rfl] at hy12_); (try rw [show ((0 : Int)).toNat = 0 from rfl] at hz12_); have HP12 := Kd.R_putg HO219.out (0 : Int) true) | ((with_reducible refine gate_store (t := 4) (p := 14) rfl ?_); (try (rw [drewN_self w10]; generalize hq_ : World.drewN w10 _ = w10; have n0_ := aM101_ (Kd.R_at hq_ HO216.out); have n1_ := aM101_ (Kd.R_at hq_ HO219.out); have n2_ := aM101_ (blk_at hq_ BK213.out); have n3_ := aM101_ (below_at hq_ HB.out); clear hq_ HO216 HO219 BK213 HB; have HO216 := n0_; have HO219 := n1_; have BK213 := n2_; have HB := n3_; clear n0_ n1_ n2_ n3_; (try (obtain ⟨hy12_, hz12_⟩ := Kd.R_celln false HO219.out (0 : Int) (by omega) (of_decide_eq_true q101x3_))); (try (try simp only [Int.reduceToNat, Int.toNat_zero, Int.toNat_ofNat, Nat.reduceMul, Nat.zero_mul, Nat.zero_add] at hy12_ hz12_)); (try (try rw [show ((0 : Int)).toNat = 0 from rfl] at hy12_)); (try (try rw [show ((0 : Int)).toNat = 0 from rfl] at hz12_)); (try (have HP12 := Kd.R_putg HO219.out (0 : Int) true)))); refine store_event (t := 4) (p := 14) (v := ?vo_w13) (w1 := (w10.setCell ⟨go5, (0 : Int).toNat, none⟩ (.bool true))) ?hg ?ho ?hn ?hr ?_; (case ho => rfl); (case hg => rfl); (case hn => rfl); (case hr => first | (go_simp; done) | (go_simp; rfl)); intro w13 hw; have hg : w10.grownBy w13 (some go5) := (by rw [hw]; exact HP12.2); have hp_ : Kd.R Kd.bool 4 w13 w.heap.size (fun _ => True) (.slice (some ⟨go5, 0, none⟩) y217.length co5) y220 := (by rw [hw, Ny220.out]; exact HP12.1); clear HP12; have n0_ := aM101_ (blk_grown (g := gb213) (o := .cells #[.slice A0_0 l0_0.length c0_0] 24 (0, 0)) q101x2_ hg (Kd.R_ne HO219.out BK213.out (by decide))); have n1_ := aM101_ (Kd.R_over' (v := (.slice (some ⟨go5, 0, none⟩) y217.length co5)) q101x6_ (Kd.R_typed HO219.out) (by decide) hg); have n2_ := aM101_ (hp_); have n3_ := aM101_ ((q101x7_ : Below w.heap.size w w13)); clear BK213; clear HO216; clear HO219; clear HB; have BK213 := n0_; have HO216 := n1_; have HO219 := n2_; have HB := n3_; clear n0_ n1_ n2_ n3_; clear hg hw hp_)))
 go_loopg [3, 5] k (fun kq v3 v5 w' => ∃ (x3_1 : List Int) (x4_1 : List Bool) (x5_1 : Int), v5 = .int .i64 x5_1 ∧ Aside0 (impl_Tree_found.l0 kq x3_1 x4_1 x5_1 l0_0 = some r) ∧ Aside0 (kq ≤ k) ∧ Aside0 (Kd.R (Kd.int .i16) 74 w' w.heap.size (fun _ => True) v3 x3_1) ∧ Aside0 (Kd.R Kd.bool 4 w' w.heap.size (fun _ => True) (.slice (some ⟨go5, 0, none⟩) y217.length co5) x4_1) ∧ Aside0 (w'.heap[gb213]? = some (.cells #[(.slice A0_0 l0_0.length c0_0)] 24 (0, 0))) ∧ Aside0 (Below w.heap.size w w'))
 case atStart => exact ⟨(y214), (y220), (0), q101x10_, H', ⟨Nat.le_refl _⟩, ⟨by (with_reducible repeat (first | apply Kd.R_alloc | apply Kd.R_drewN | apply Kd.R_drew)); exact HO216.out⟩, ⟨by (with_reducible repeat (first | apply Kd.R_alloc | apply Kd.R_drewN | apply Kd.R_drew)); exact HO219.out⟩, ⟨by (with_reducible repeat (first | refine blk_drewN ?_ _ | refine blk_drew ?_ | refine blk_alloc ?_ _)); exact BK213.out⟩, ⟨by repeat (first | (with_reducible first | exact HB.out | apply below_alloc | apply pw_below_drewN | apply below_drew1 | refine below_set ?_ GE213.out) | exact HB.out)⟩⟩
 case round =>
  clear H'
  try clear c1
  try clear c2
  try clear c2b0
  try clear c2b1
  try clear p2
  try clear c3
  try clear c3b0
  try clear c3b1
  try clear c4
  try clear c4b0
  try clear c4b1
  try clear p5
  try clear q5
  try clear hx5
  try clear qi5
  try clear hf5
  try clear c10
  try clear hcz9_0
  try clear hfz9_0
  try clear hx5_0
  try clear p5
  try clear q5
  obtain ⟨x3_1, x4_1, x5_1, rfl, HA, HK1, HO_3, HO_4, BK213, HB⟩ := hrel
  have hl4_1 := (Kd.R_reads' HO_4.out).1
  rw [hl4_1] at HO_4
  (try simp only [hl4_1])
  (try simp only [hl4_1] at BK213)
  (try simp only [hl4_1] at HO_3)
  cases gk with
  | zero => exact absurd HA.out (by simp [impl_Tree_found.l0])
  | succ k1 =>
   have H := HA.out
   clear HA
   simp only [impl_Tree_found.l0] at H
   by_cases c14 : x5_1 < (x3_1.length : Int)
   rotate_left
   ·rw [if_neg c14] at H
    have c14b0 : decide (x5_1 < (x3_1.length : Int)) = false := decide_eq_false c14
    (try (have c14b0hl4_1 := c14b0; rw [hl4_1] at c14b0hl4_1))
    clear c14
    obtain rfl := Option.some.inj H
    obtain ⟨Ao33, co33, eo33⟩ := Kd.R_slice HO_3.out
    subst eo33
    go_wp2
    repeat (go_quiet (fail); try go_wp2)
    go_ret
    exact ⟨_, by first | rfl | (simp [errW_none, errW_some] <;> rfl) | (simp [*, errW_none, errW_some] <;> rfl), by (with_reducible repeat (first | apply Kd.R_alloc | apply Kd.R_drewN | apply Kd.R_drew)); exact HO_3.out, by repeat (first | (with_reducible first | exact HB.out | apply below_alloc | apply pw_below_drewN | apply below_drew1 | refine below_set ?_ GE213.out) | exact HB.out)⟩
   rw [if_pos c14] at H
   have c14b0 : decide (x5_1 < (x3_1.length : Int)) = true := decide_eq_true c14
   (try (have c14b0hl4_1 := c14b0; rw [hl4_1] at c14b0hl4_1))
   clear c14
   by_cases c15 : 0 ≤ x5_1
   rotate_left
   ·rw [if_neg c15] at H
    exact absurd H (by simp)
   rw [if_pos c15] at H
   have c15b0 : decide (0 ≤ x5_1) = true := decide_eq_true c15
   clear c15
   by_cases c16 : 0 ≤ (rd x3_1 x5_1)
   rotate_left
   ·rw [if_neg c16] at H
    exact absurd H (by simp)
   rw [if_pos c16] at H
   have c16b0 : decide (0 ≤ (rd x3_1 x5_1)) = true := decide_eq_true c16
   clear c16
   by_cases c17 : (rd x3_1 x5_1) < (l0_0.length : Int)
   rotate_left
   ·rw [if_neg c17] at H
    exact absurd H (by simp)
   rw [if_pos c17] at H
   have c17b0 : decide ((rd x3_1 x5_1) < (l0_0.length : Int)) = true := decide_eq_true c17
   (try (have c17b0hl4_1 := c17b0; rw [hl4_1] at c17b0hl4_1))
   clear c17
   replace H := Option.bind_eq_some_iff.mp H
   obtain ⟨t223, A180, H⟩ := H
   replace H : (impl_Tree_found.l1 k1 x3_1 x4_1 x5_1 t223 (t223.length : Int) 0 l0_0) = some r := H
   have A18 := aM101_ A180
   clear A180
   have H' := aM101_ H
   clear H
   obtain ⟨Ao19, co19, eo19⟩ := Kd.R_slice HO_3.out
   subst eo19
   have hcz20_0 : wr.cell? ⟨gb213, 0, none⟩ = some (.slice A0_0 l0_0.length c0_0) := (blk_cell BK213.out 0).trans rfl
   have hfz20_0 := blk_frozen BK213.out 0
   have p221 : 0 ≤ (x5_1 : Int) := of_decide_eq_true q101x3_
   have q221 : x5_1 < (x3_1.length : Int) := of_decide_eq_true q101x3_
   obtain ⟨ad221, e221, hx221_0⟩ := Kd.at_int (Kd.R_reads' HO_3.out).2.2 x5_1 p221 q221
   cases e221
   replace p221 := eq_true p221
   replace q221 := eq_true q221
   have p222 : 0 ≤ ((rd x3_1 x5_1) : Int) := of_decide_eq_true q101x3_
   have q222 : (rd x3_1 x5_1) < (l0_0.length : Int) := of_decide_eq_true q101x3_
   obtain ⟨ad222, e222, hx222_0, hx222_1, hx222_2, hx222_3, hx222_4⟩ := at_T77 HR0_0.out (rd x3_1 x5_1) p222 q222
   cases e222
   replace hx222_0 := (HB.out.cell (World.block_lt_of_cell? w _ hx222_0)).trans hx222_0
   replace hx222_1 := (HB.out.cell (World.block_lt_of_cell? w _ hx222_1)).trans hx222_1
   replace hx222_2 := (HB.out.cell (World.block_lt_of_cell? w _ hx222_2)).trans hx222_2
   replace hx222_3 := (HB.out.cell (World.block_lt_of_cell? w _ hx222_3)).trans hx222_3
   replace hx222_4 := (HB.out.cell (World.block_lt_of_cell? w _ hx222_4)).trans hx222_4
   replace p222 := eq_true p222
   replace q222 := eq_true q222
   have HR224 := aM101_ (impl_Fork_ways.row HR0_0.out ((rd x3_1 x5_1)) (of_eq_true p222) (of_eq_true q222) A18.out)
   have HC224 := aM101_ (impl_Fork_ways.room A18.out)
   go_wp2_with (first | (go_at_call 103; (with_reducible refine (impl_Fork_ways.calls (ad222.add ((rd x3_1 x5_1).toNat * 5)) ((rd_T77 l0_0 (rd x3_1 x5_1)).f0) ((rd_T77 l0_0 (rd x3_1 x5_1)).f1) ((rd_T77 l0_0 (rd x3_1 x5_1)).f2.f0) ((rd_T77 l0_0 (rd x3_1 x5_1)).f2.f1) ((rd_T77 l0_0 (rd x3_1 x5_1)).f2.f2) t223 _ ?side1 A18.out).mono ?_); (case side1 => exact hx222_0); rintro e w' ⟨rfl, ⟨nd, rfl⟩⟩; (try first | exact ⟨rfl, _, World.drewN_drewN _ _ _⟩ | exact ⟨rfl, _, Eq.trans (World.drewN_drewN _ _ _) (congrArg (World.drewN _) (Nat.add_assoc _ _ _))⟩)))
   repeat (go_quiet (first | (go_at_call 103; (with_reducible refine (impl_Fork_ways.calls (ad222.add ((rd x3_1 x5_1).toNat * 5)) ((rd_T77 l0_0 (rd x3_1 x5_1)).f0) ((rd_T77 l0_0 (rd x3_1 x5_1)).f1) ((rd_T77 l0_0 (rd x3_1 x5_1)).f2.f0) ((rd_T77 l0_0 (rd x3_1 x5_1)).f2.f1) ((rd_T77 l0_0 (rd x3_1 x5_1)).f2.f2) t223 _ ?side1 A18.out).mono ?_); (case side1 => exact hx222_0); rintro e w' ⟨rfl, ⟨nd, rfl⟩⟩; (try first | exact ⟨rfl, _, World.drewN_drewN _ _ _⟩ | exact ⟨rfl, _, Eq.trans (World.drewN_drewN _ _ _) (congrArg (World.drewN _) (Nat.add_assoc _ _ _))⟩))); try go_wp2_with (first | (go_at_call 103; (with_reducible refine (impl_Fork_ways.calls (ad222.add ((rd x3_1 x5_1).toNat * 5)) ((rd_T77 l0_0 (rd x3_1 x5_1)).f0) ((rd_T77 l0_0 (rd x3_1 x5_1)).f1) ((rd_T77 l0_0 (rd x3_1 x5_1)).f2.f0) ((rd_T77 l0_0 (rd x3_1 x5_1)).f2.f1) ((rd_T77 l0_0 (rd x3_1 x5_1)).f2.f2) t223 _ ?side1 A18.out).mono ?_); (case side1 => exact hx222_0); rintro e w' ⟨rfl, ⟨nd, rfl⟩⟩; (try first | exact ⟨rfl, _, World.drewN_drewN _ _ _⟩ | exact ⟨rfl, _, Eq.trans (World.drewN_drewN _ _ _) (congrArg (World.drewN _) (Nat.add_assoc _ _ _))⟩))))
   go_loopg [3, 30] k1 (fun kq v3 v30 w' => ∃ (x3_2 : List Int) (x4_2 : List Bool) (x30_2 : Int), v30 = .int .i64 x30_2 ∧ Aside0 (impl_Tree_found.l1 kq x3_2 x4_2 x5_1 t223 (t223.length : Int) x30_2 l0_0 = some r) ∧ Aside0 (kq ≤ k1) ∧ Aside0 (Kd.R (Kd.int .i16) 74 w' w.heap.size (fun _ => True) v3 x3_2) ∧ Aside0 (Kd.R Kd.bool 4 w' w.heap.size (fun _ => True) (.slice (some ⟨go5, 0, none⟩) x4_1.length co5) x4_2) ∧ Aside0 (w'.heap[gb213]? = some (.cells #[(.slice (some ad222) l0_0.length c0_0)] 24 (0, 0))) ∧ Aside0 (Below w.heap.size w w'))
   case atStart => exact ⟨(x3_1), (x4_1), (0), q101x10_, H', ⟨Nat.le_refl _⟩, ⟨by (try simp only [hl4_1]); (with_reducible repeat (first | apply Kd.R_alloc | apply Kd.R_drewN | apply Kd.R_drew)); exact HO_3.out⟩, ⟨by (try simp only [hl4_1]); (with_reducible repeat (first | apply Kd.R_alloc | apply Kd.R_drewN | apply Kd.R_drew)); exact HO_4.out⟩, ⟨by (try simp only [hl4_1]); (with_reducible repeat (first | refine blk_drewN ?_ _ | refine blk_drew ?_ | refine blk_alloc ?_ _)); exact BK213.out⟩, ⟨by repeat (first | (with_reducible first | exact HB.out | apply below_alloc | apply pw_below_drewN | apply below_drew1 | refine below_set ?_ GE213.out) | exact HB.out)⟩⟩
   case round =>
    clear H'
    try clear c1
    try clear c2
    try clear c2b0
    try clear c2b1
    try clear p2
    try clear q2
    try clear hx2
    try clear c3
    try clear c3b0
    try clear c3b1
    try clear c4
    try clear c4b0
    try clear c4b1
    try clear p5
    try clear q5
    try clear hx5
    try clear qi5
    try clear hf5
    try clear c10
    try clear c14
    try clear c14b0
    try clear c15
    try clear c15b0
    try clear c16
    try clear c16b0
    try clear c17
    try clear c17b0
    try clear hcz20_0
    try clear hcz9_0
    try clear hfz20_0
    try clear hfz9_0
    try clear hx221_0
    try clear hx222_0
    try clear hx222_1
    try clear hx222_2
    try clear hx222_3
    try clear hx222_4
    try clear hx5_0
    try clear p2
    try clear p221
    try clear p222
    try clear p5
    try clear q221
    try clear q222
    try clear q5
    obtain ⟨x3_2, x4_2, x30_2, rfl, HA, HK2, HO_3, HO_4, BK213, HB⟩ := hrel
    have hl4_2 := (Kd.R_reads' HO_4.out).1
    rw [hl4_2] at HO_4
    (try simp only [hl4_2])
    (try simp only [hl4_2] at BK213)
    (try simp only [hl4_2] at HO_3)
    cases gk with
    | zero => exact absurd HA.out (by simp [impl_Tree_found.l1])
    | succ k2 =>
     have H := HA.out
     clear HA
     simp only [impl_Tree_found.l1] at H
     by_cases c21 : x30_2 < (t223.length : Int)
     rotate_left
     ·rw [if_neg c21] at H
      have c21b0 : decide (x30_2 < (t223.length : Int)) = false := decide_eq_false c21
      (try (have c21b0hl4_1 := c21b0; rw [hl4_1] at c21b0hl4_1))
      (try (have c21b0hl4_2 := c21b0; rw [hl4_2] at c21b0hl4_2))
      clear c21
      have H' := aM101_ H
      clear H
      go_wp2
      repeat (go_quiet (fail); try go_wp2)
      (try simp only [← hl4_1, ← hl4_2])
      go_roundg k2
      case measure => have := HK1.out; have := HK2.out; omega
      case rel => exact ⟨(x3_2), (x4_2), (wrap64 (x5_1 + 1)), q101x10_, H', ⟨by have := HK1.out; have := HK2.out; omega⟩, ⟨by (try simp only [hl4_1]); (try simp only [hl4_2]); (with_reducible repeat (first | apply Kd.R_alloc | apply Kd.R_drewN | apply Kd.R_drew)); exact HO_3.out⟩, ⟨by (try simp only [hl4_1]); (try simp only [hl4_2]); (with_reducible repeat (first | apply Kd.R_alloc | apply Kd.R_drewN | apply Kd.R_drew)); exact HO_4.out⟩, ⟨by (try simp only [hl4_1]); (try simp only [hl4_2]); (with_reducible repeat (first | refine blk_drewN ?_ _ | refine blk_drew ?_ | refine blk_alloc ?_ _)); exact BK213.out⟩, ⟨by repeat (first | (with_reducible first | exact HB.out | apply below_alloc | apply pw_below_drewN | apply below_drew1 | refine below_set ?_ GE213.out) | exact HB.out)⟩⟩
     rw [if_pos c21] at H
     have c21b0 : decide (x30_2 < (t223.length : Int)) = true := decide_eq_true c21
     (try (have c21b0hl4_1 := c21b0; rw [hl4_1] at c21b0hl4_1))
     (try (have c21b0hl4_2 := c21b0; rw [hl4_2] at c21b0hl4_2))
     clear c21
     by_cases c22 : 0 ≤ x30_2
     rotate_left
     ·rw [if_neg c22] at H
      exact absurd H (by simp)
     rw [if_pos c22] at H
     have c22b0 : decide (0 ≤ x30_2) = true := decide_eq_true c22
     clear c22
     have c23 : x30_2 < (t223.length : Int) := of_decide_eq_true c21b0
     rw [if_pos c23] at H
     clear c23
     by_cases c24 : 0 ≤ (rd t223 x30_2)
     rotate_left
     ·rw [if_neg c24] at H
      exact absurd H (by simp)
     rw [if_pos c24] at H
     have c24b0 : decide (0 ≤ (rd t223 x30_2)) = true := decide_eq_true c24
     clear c24
     by_cases c25 : (rd t223 x30_2) < (x4_2.length : Int)
     rotate_left
     ·rw [if_neg c25] at H
      exact absurd H (by simp)
     rw [if_pos c25] at H
     have c25b0 : decide ((rd t223 x30_2) < (x4_2.length : Int)) = true := decide_eq_true c25
     (try (have c25b0hl4_1 := c25b0; rw [hl4_1] at c25b0hl4_1))
     (try (have c25b0hl4_2 := c25b0; rw [hl4_2] at c25b0hl4_2))
     clear c25
     obtain ⟨bq26, hbq26⟩ : ∃ b_ : Bool, b_ = (rdOf false x4_2 (rd t223 x30_2)) := ⟨_, rfl⟩
     replace H : (if (bq26 = true) then (impl_Tree_found.l1 k2 x3_2 x4_2 x5_1 t223 (t223.length : Int) (wrap64 (x30_2 + 1)) l0_0) else (if x3_2.length < 70368744177664 then (impl_Tree_found.l1 k2 (x3_2 ++ [rd t223 x30_2]) (x4_2.set ((rd t223 x30_2) : Int).toNat true) x5_1 t223 (t223.length : Int) (wrap64 (x30_2 + 1)) l0_0) else (none))) = some r := by rw [← hbq26] at H; exact H
     have Nbq26 := aM101_ hbq26
     clear hbq26
     by_cases c27 : (bq26 = true)
     ·subst c27
      have H1 : (impl_Tree_found.l1 k2 x3_2 x4_2 x5_1 t223 (t223.length : Int) (wrap64 (x30_2 + 1)) l0_0) = some r := by rw [if_pos rfl] at H; exact H
      clear H
      have H := H1
      clear H1
      have H' := aM101_ H
      clear H
      have p225 : 0 ≤ (x30_2 : Int) := of_decide_eq_true q101x3_
      have q225 : x30_2 < (t223.length : Int) := of_decide_eq_true q101x3_
      obtain ⟨ad225, e225, hx225_0⟩ := Kd.at_int HR224.out x30_2 p225 q225
      cases e225
      (try simp only [add_off] at hx225_0)
      replace hx225_0 := (HB.out.cell (World.block_lt_of_cell? w _ hx225_0)).trans hx225_0
      replace p225 := eq_true p225
      replace q225 := eq_true q225
      have p226 : 0 ≤ ((rd t223 x30_2) : Int) := of_decide_eq_true q101x3_
      have q226 : (rd t223 x30_2) < (x4_2.length : Int) := of_decide_eq_true q101x3_
      obtain ⟨ad226, e226, hx226_0⟩ := Kd.at_bool (Kd.R_reads' HO_4.out).2.2 (rd t223 x30_2) p226 q226
      (try rw [← Nbq26.out] at hx226_0)
      obtain rfl : (⟨go5, 0, none⟩ : Addr) = ad226 := (by injection e226)
      (first | simp only [add_plain] at hx226_0 | simp only [add_at] at hx226_0 | simp only [Addr.add, Nat.zero_add] at hx226_0 | skip)
      replace p226 := eq_true p226
      replace q226 := eq_true q226
      go_wp2
      repeat (go_quiet (fail); try go_wp2)
      (try simp only [← hl4_2])
      go_roundg k2
      case measure => have := HK1.out; have := HK2.out; omega
      case rel => exact ⟨(x3_2), (x4_2), (wrap64 (x30_2 + 1)), q101x10_, H', ⟨by have := HK1.out; have := HK2.out; omega⟩, ⟨by (try simp only [hl4_1]); (try simp only [hl4_2]); (with_reducible repeat (first | apply Kd.R_alloc | apply Kd.R_drewN | apply Kd.R_drew)); exact HO_3.out⟩, ⟨by (try simp only [hl4_1]); (try simp only [hl4_2]); (with_reducible repeat (first | apply Kd.R_alloc | apply Kd.R_drewN | apply Kd.R_drew)); exact HO_4.out⟩, ⟨by (try simp only [hl4_1]); (try simp only [hl4_2]); (with_reducible repeat (first | refine blk_drewN ?_ _ | refine blk_drew ?_ | refine blk_alloc ?_ _)); exact BK213.out⟩, ⟨by repeat (first | (with_reducible first | exact HB.out | apply below_alloc | apply pw_below_drewN | apply below_drew1 | refine below_set ?_ GE213.out) | exact HB.out)⟩⟩
     replace c27 := Bool.eq_false_iff.mpr c27
     subst c27
     have H1 : (if x3_2.length < 70368744177664 then (impl_Tree_found.l1 k2 (x3_2 ++ [rd t223 x30_2]) (x4_2.set ((rd t223 x30_2) : Int).toNat true) x5_1 t223 (t223.length : Int) (wrap64 (x30_2 + 1)) l0_0) else (none)) = some r := by rw [if_neg (show ¬ (false = true) by decide)] at H; exact H
     clear H
     have H := H1
     clear H1
     obtain ⟨y227, hy227⟩ : ∃ y_ : List Bool, y_ = (x4_2.set ((rd t223 x30_2) : Int).toNat true) := ⟨_, rfl⟩
     replace H : (if x3_2.length < 70368744177664 then (impl_Tree_found.l1 k2 (x3_2 ++ [rd t223 x30_2]) y227 x5_1 t223 (t223.length : Int) (wrap64 (x30_2 + 1)) l0_0) else (none)) = some r := by first | (rw [hy227]; with_reducible exact H) | (have H2_ := (Option.bind_some _ _).symm.trans H; rw [hy227]; with_reducible exact H2_) | (have H2_ := (Option.bind_some _ _).symm.trans H; with_reducible exact H2_) | with_reducible exact H | (rw [hy227]; exact H) | exact H
     have Ny227 := aM101_ hy227
     clear hy227
     by_cases c29 : x3_2.length < 70368744177664
     rotate_left
     ·rw [if_neg c29] at H
      exact absurd H (by simp)
     rw [if_pos c29] at H
     have LMc29 := aM101_ c29
     clear c29
     obtain ⟨y228, hy228⟩ : ∃ y_ : List Int, y_ = (x3_2 ++ [rd t223 x30_2]) := ⟨_, rfl⟩
     replace H : (impl_Tree_found.l1 k2 y228 y227 x5_1 t223 (t223.length : Int) (wrap64 (x30_2 + 1)) l0_0) = some r := by first | (rw [hy228]; with_reducible exact H) | (have H2_ := (Option.bind_some _ _).symm.trans H; rw [hy228]; with_reducible exact H2_) | (have H2_ := (Option.bind_some _ _).symm.trans H; with_reducible exact H2_) | with_reducible exact H | (rw [hy228]; exact H) | exact H
     have Ny228 := aM101_ hy228
     clear hy228
     have H' := aM101_ H
     clear H
     have p225 : 0 ≤ (x30_2 : Int) := of_decide_eq_true q101x3_
     have q225 : x30_2 < (t223.length : Int) := of_decide_eq_true q101x3_
     obtain ⟨ad225, e225, hx225_0⟩ := Kd.at_int HR224.out x30_2 p225 q225
     cases e225
     (try simp only [add_off] at hx225_0)
     replace hx225_0 := (HB.out.cell (World.block_lt_of_cell? w _ hx225_0)).trans hx225_0
     replace p225 := eq_true p225
     replace q225 := eq_true q225
     have p226 : 0 ≤ ((rd t223 x30_2) : Int) := of_decide_eq_true q101x3_
     have q226 : (rd t223 x30_2) < (x4_2.length : Int) := of_decide_eq_true q101x3_
     obtain ⟨ad226, e226, hx226_0⟩ := Kd.at_bool (Kd.R_reads' HO_4.out).2.2 (rd t223 x30_2) p226 q226
     (try rw [← Nbq26.out] at hx226_0)
     obtain rfl : (⟨go5, 0, none⟩ : Addr) = ad226 := (by injection e226)
     (first | simp only [add_plain] at hx226_0 | simp only [add_at] at hx226_0 | simp only [Addr.add, Nat.zero_add] at hx226_0 | skip)
     replace p226 := eq_true p226
     replace q226 := eq_true q226
     have p28 : 0 ≤ ((rd t223 x30_2) : Int) := of_decide_eq_true q101x3_
     have q28 : ((rd t223 x30_2) : Int) < ((x4_2.length : Int) : Int) := of_decide_eq_true q101x3_
     obtain ⟨hx28_0, hf28_0⟩ := Kd.R_celln false HO_4.out ((rd t223 x30_2) : Int) p28 q28
     replace p28 := eq_true p28
     replace q28 := eq_true q28
     have HP30 := Kd.R_putg HO_4.out ((rd t223 x30_2) : Int) true
     go_wp2_with (first | ((with_reducible refine gate_store (t := 4) (p := 41) rfl ?_); (try (rw [drewN_self wr]; generalize hq_ : World.drewN wr _ = wr; have n0_ := aM101_ (Kd.R_at hq_ HO_3.out); have n1_ := aM101_ (Kd.R_at hq_ HO_4.out); have n2_ := aM101_ (blk_at hq_ BK213.out); have n3_ := aM101_ (below_at hq_ HB.out); clear hq_ HO_3 HO_4 BK213 HB; have HO_3 := n0_; have HO_4 := n1_; have BK213 := n2_; have HB := n3_; clear n0_ n1_ n2_ n3_; (try (have HP30 := Kd.R_putg HO_4.out ((rd t223 x30_2) : Int) true)))); refine store_event (t := 4) (p := 41) (v := ?vo_w31) (w1 := (wr.setCell ⟨go5, ((rd t223 x30_2) : Int).toNat, none⟩ (.bool true))) ?hg ?ho ?hn ?hr ?_; (case ho => rfl); (case hg => rfl); (case hn => rfl); (case hr => first | (go_simp; done) | (go_simp; rfl)); intro w31 hw; have hg : wr.grownBy w31 (some go5) := (by rw [hw]; exact HP30.2); have hp_ : Kd.R Kd.bool 4 w31 w.heap.size (fun _ => True) (.slice (some ⟨go5, 0, none⟩) x4_2.length co5) y227 := (by rw [hw, Ny227.out]; exact HP30.1); clear HP30; have n0_ := aM101_ (Kd.R_over' (v := (.slice (some ⟨go5, 0, none⟩) x4_2.length co5)) q101x5_ (Kd.R_typed HO_4.out) (by decide) hg); have n1_ := aM101_ (hp_); have n2_ := aM101_ (blk_grown (g := gb213) (o := .cells #[.slice (some ad222) l0_0.length c0_0] 24 (0, 0)) q101x2_ hg (Kd.R_ne HO_4.out BK213.out (by decide))); have n3_ := aM101_ ((q101x7_ : Below w.heap.size w w31)); clear HO_3; clear HO_4; clear BK213; clear HB; have HO_3 := n0_; have HO_4 := n1_; have BK213 := n2_; have HB := n3_; clear n0_ n1_ n2_ n3_; clear hg hw hp_) | ((with_reducible refine gate_builtin (b := .append) (xs := #[.tmp 42, .tmp 44]) rfl ?_); at_builtin; refine Kd.R_append (Kd.int .i16) (w0 := w) w.heap.size rfl (.tmp 42) (.tmp 44) 93 74 (.int .i16 0) 2 rfl Try.underlying93 info74 rfl (by decide) (by omega) u3 x3_2 (rd t223 x30_2) [.int .i16 (rd t223 x30_2)] (fun _ => True) (fun _ => False) rfl rfl ?aP (fun _ hk => hk.elim) ?aF ?aO ?aB ?aS ?aL ?_; (case aP => exact rfl); (case aB => exact q101x1_); (case aF => exact (fun _ _ => trivial)); (case aO => exact q101x5_); (case aS => exact (below_size q101x1_)); (case aL => have := LMc29.out; omega); intro v229 w32 ho hb hg hat; rw [← Ny228.out] at ho; have n0_ := aM101_ (Kd.R_over' q101x8_ (Kd.R_typed q101x5_) (by decide) hg); have n1_ := aM101_ (blk_grown (g := gb213) (o := .cells #[.slice (some ad222) l0_0.length c0_0] 24 (0, 0)) q101x2_ hg (Kd.R_ne HO_3.out BK213.out (by decide))); have n2_ := aM101_ (hb); have n3_ := aM101_ (ho); clear HO_4; clear BK213; clear HB; clear HO_3; have HO_4 := n0_; have BK213 := n1_; have HB := n2_; have HO230 := n3_; clear n0_ n1_ n2_ n3_; clear ho hb hg hat))
     repeat (go_quiet (first | ((with_reducible refine gate_store (t := 4) (p := 41) rfl ?_); (try (rw [drewN_self wr]; generalize hq_ : World.drewN wr _ = wr; have n0_ := aM101_ (Kd.R_at hq_ HO_3.out); have n1_ := aM101_ (Kd.R_at hq_ HO_4.out); have n2_ := aM101_ (blk_at hq_ BK213.out); have n3_ := aM101_ (below_at hq_ HB.out); clear hq_ HO_3 HO_4 BK213 HB; have HO_3 := n0_; have HO_4 := n1_; have BK213 := n2_; have HB := n3_; clear n0_ n1_ n2_ n3_; (try (have HP30 := Kd.R_putg HO_4.out ((rd t223 x30_2) : Int) true)))); refine store_event (t := 4) (p := 41) (v := ?vo_w31) (w1 := (wr.setCell ⟨go5, ((rd t223 x30_2) : Int).toNat, none⟩ (.bool true))) ?hg ?ho ?hn ?hr ?_; (case ho => rfl); (case hg => rfl); (case hn => rfl); (case hr => first | (go_simp; done) | (go_simp; rfl)); intro w31 hw; have hg : wr.grownBy w31 (some go5) := (by rw [hw]; exact HP30.2); have hp_ : Kd.R Kd.bool 4 w31 w.heap.size (fun _ => True) (.slice (some ⟨go5, 0, none⟩) x4_2.length co5) y227 := (by rw [hw, Ny227.out]; exact HP30.1); clear HP30; have n0_ := aM101_ (Kd.R_over' (v := (.slice (some ⟨go5, 0, none⟩) x4_2.length co5)) q101x5_ (Kd.R_typed HO_4.out) (by decide) hg); have n1_ := aM101_ (hp_); have n2_ := aM101_ (blk_grown (g := gb213) (o := .cells #[.slice (some ad222) l0_0.length c0_0] 24 (0, 0)) q101x2_ hg (Kd.R_ne HO_4.out BK213.out (by decide))); have n3_ := aM101_ ((q101x7_ : Below w.heap.size w w31)); clear HO_3; clear HO_4; clear BK213; clear HB; have HO_3 := n0_; have HO_4 := n1_; have BK213 := n2_; have HB := n3_; clear n0_ n1_ n2_ n3_; clear hg hw hp_) | ((with_reducible refine gate_builtin (b := .append) (xs := #[.tmp 42, .tmp 44]) rfl ?_); at_builtin; refine Kd.R_append (Kd.int .i16) (w0 := w) w.heap.size rfl (.tmp 42) (.tmp 44) 93 74 (.int .i16 0) 2 rfl Try.underlying93 info74 rfl (by decide) (by omega) u3 x3_2 (rd t223 x30_2) [.int .i16 (rd t223 x30_2)] (fun _ => True) (fun _ => False) rfl rfl ?aP (fun _ hk => hk.elim) ?aF ?aO ?aB ?aS ?aL ?_; (case aP => exact rfl); (case aB => exact q101x1_); (case aF => exact (fun _ _ => trivial)); (case aO => exact q101x5_); (case aS => exact (below_size q101x1_)); (case aL => have := LMc29.out; omega); intro v229 w32 ho hb hg hat; rw [← Ny228.out] at ho; have n0_ := aM101_ (Kd.R_over' q101x8_ (Kd.R_typed q101x5_) (by decide) hg); have n1_ := aM101_ (blk_grown (g := gb213) (o := .cells #[.slice (some ad222) l0_0.length c0_0] 24 (0, 0)) q101x2_ hg (Kd.R_ne HO_3.out BK213.out (by decide))); have n2_ := aM101_ (hb); have n3_ := aM101_ (ho); clear HO_4; clear BK213; clear HB; clear HO_3; have HO_4 := n0_; have BK213 := n1_; have HB := n2_; have HO230 := n3_; clear n0_ n1_ n2_ n3_; clear ho hb hg hat)); try go_wp2_with (first | ((with_reducible refine gate_store (t := 4) (p := 41) rfl ?_); (try (rw [drewN_self wr]; generalize hq_ : World.drewN wr _ = wr; have n0_ := aM101_ (Kd.R_at hq_ HO_3.out); have n1_ := aM101_ (Kd.R_at hq_ HO_4.out); have n2_ := aM101_ (blk_at hq_ BK213.out); have n3_ := aM101_ (below_at hq_ HB.out); clear hq_ HO_3 HO_4 BK213 HB; have HO_3 := n0_; have HO_4 := n1_; have BK213 := n2_; have HB := n3_; clear n0_ n1_ n2_ n3_; (try (have HP30 := Kd.R_putg HO_4.out ((rd t223 x30_2) : Int) true)))); refine store_event (t := 4) (p := 41) (v := ?vo_w31) (w1 := (wr.setCell ⟨go5, ((rd t223 x30_2) : Int).toNat, none⟩ (.bool true))) ?hg ?ho ?hn ?hr ?_; (case ho => rfl); (case hg => rfl); (case hn => rfl); (case hr => first | (go_simp; done) | (go_simp; rfl)); intro w31 hw; have hg : wr.grownBy w31 (some go5) := (by rw [hw]; exact HP30.2); have hp_ : Kd.R Kd.bool 4 w31 w.heap.size (fun _ => True) (.slice (some ⟨go5, 0, none⟩) x4_2.length co5) y227 := (by rw [hw, Ny227.out]; exact HP30.1); clear HP30; have n0_ := aM101_ (Kd.R_over' (v := (.slice (some ⟨go5, 0, none⟩) x4_2.length co5)) q101x5_ (Kd.R_typed HO_4.out) (by decide) hg); have n1_ := aM101_ (hp_); have n2_ := aM101_ (blk_grown (g := gb213) (o := .cells #[.slice (some ad222) l0_0.length c0_0] 24 (0, 0)) q101x2_ hg (Kd.R_ne HO_4.out BK213.out (by decide))); have n3_ := aM101_ ((q101x7_ : Below w.heap.size w w31)); clear HO_3; clear HO_4; clear BK213; clear HB; have HO_3 := n0_; have HO_4 := n1_; have BK213 := n2_; have HB := n3_; clear n0_ n1_ n2_ n3_; clear hg hw hp_) | ((with_reducible refine gate_builtin (b := .append) (xs := #[.tmp 42, .tmp 44]) rfl ?_); at_builtin; refine Kd.R_append (Kd.int .i16) (w0 := w) w.heap.size rfl (.tmp 42) (.tmp 44) 93 74 (.int .i16 0) 2 rfl Try.underlying93 info74 rfl (by decide) (by omega) u3 x3_2 (rd t223 x30_2) [.int .i16 (rd t223 x30_2)] (fun _ => True) (fun _ => False) rfl rfl ?aP (fun _ hk => hk.elim) ?aF ?aO ?aB ?aS ?aL ?_; (case aP => exact rfl); (case aB => exact q101x1_); (case aF => exact (fun _ _ => trivial)); (case aO => exact q101x5_); (case aS => exact (below_size q101x1_)); (case aL => have := LMc29.out; omega); intro v229 w32 ho hb hg hat; rw [← Ny228.out] at ho; have n0_ := aM101_ (Kd.R_over' q101x8_ (Kd.R_typed q101x5_) (by decide) hg); have n1_ := aM101_ (blk_grown (g := gb213) (o := .cells #[.slice (some ad222) l0_0.length c0_0] 24 (0, 0)) q101x2_ hg (Kd.R_ne HO_3.out BK213.out (by decide))); have n2_ := aM101_ (hb); have n3_ := aM101_ (ho); clear HO_4; clear BK213; clear HB; clear HO_3; have HO_4 := n0_; have BK213 := n1_; have HB := n2_; have HO230 := n3_; clear n0_ n1_ n2_ n3_; clear ho hb hg hat)))
     (try simp only [← hl4_2])
     go_roundg k2
     case measure => have := HK1.out; have := HK2.out; omega
     case rel => exact ⟨(y228), (y227), (wrap64 (x30_2 + 1)), q101x10_, H', ⟨by have := HK1.out; have := HK2.out; omega⟩, ⟨by (try simp only [hl4_1]); (try simp only [hl4_2]); (with_reducible repeat (first | apply Kd.R_alloc | apply Kd.R_drewN | apply Kd.R_drew)); exact HO230.out⟩, ⟨by (try simp only [hl4_1]); (try simp only [hl4_2]); (with_reducible repeat (first | apply Kd.R_alloc | apply Kd.R_drewN | apply Kd.R_drew)); exact HO_4.out⟩, ⟨by (try simp only [hl4_1]); (try simp only [hl4_2]); (with_reducible repeat (first | refine blk_drewN ?_ _ | refine blk_drew ?_ | refine blk_alloc ?_ _)); exact BK213.out⟩, ⟨by repeat (first | (with_reducible first | exact HB.out | apply below_alloc | apply pw_below_drewN | apply below_drew1 | refine below_set ?_ GE213.out) | exact HB.out)⟩⟩
/-! ### impl_Tree_productive_1: function 104 -/
def impl_Tree_productive_1.f (a0 : Int) (l1_0 : List Bool) : Option (Bool) := if 0 ≤ a0 then (if a0 < (l1_0.length : Int) then (some (!(rdOf false l1_0 a0))) else (none)) else (none)
set_option maxHeartbeats 8000000 in
set_option maxRecDepth 100000 in
theorem impl_Tree_productive_1.calls (a0 : Int) (B1_ O1_ : Nat) (A1_0 : Option Addr) (c1_0 : Nat) (l1_0 : List Bool) (r : Bool) (w : World) (hr1_0 : Kd.C Kd.bool w A1_0 l1_0.length l1_0) (hc1_0 : l1_0.length ≤ c1_0) (hq1_ : w.cell? ⟨B1_, O1_, none⟩ = some (.slice A1_0 l1_0.length c1_0)) (h : impl_Tree_productive_1.f a0 l1_0 = some r) :
    Calls Try.prog 104 #[.int .i16 a0, .pointer (some ⟨B1_, O1_, none⟩)] w fun e w' => e = .returned (.bool r) ∧ Drawn0 w w' := by
  have HR1_0 := Aside0.mk hr1_0
  have HC1_0 := Aside0.mk hc1_0
  clear hr1_0 hc1_0
  have HQ1_ := Aside0.mk hq1_
  clear hq1_
  have H : (if 0 ≤ a0 then (if a0 < (l1_0.length : Int) then (some (!(rdOf false l1_0 a0))) else (none)) else (none)) = some r := h
  clear h
  by_cases c3 : 0 ≤ a0
  · rw [if_pos c3] at H
    have c3b0 : decide (0 ≤ a0) = true := decide_eq_true c3
    clear c3
    by_cases c4 : a0 < (l1_0.length : Int)
    · rw [if_pos c4] at H
      have c4b0 : decide (a0 < (l1_0.length : Int)) = true := decide_eq_true c4
      clear c4
      obtain rfl := Option.some.inj H
      have hxr5_0 := HQ1_.out
      have p231 : 0 ≤ (a0 : Int) := of_decide_eq_true (by first | (with_reducible assumption) | assumption)
      have q231 : a0 < (l1_0.length : Int) := of_decide_eq_true (by first | (with_reducible assumption) | assumption)
      obtain ⟨ad231, e231, hx231_0⟩ := Kd.at_bool HR1_0.out a0 p231 q231
      cases e231
      replace p231 := eq_true p231
      replace q231 := eq_true q231
      go_enter Try.func104, Try.ntmps104
      go_wp2
      go_ret
      exact ⟨by first | rfl | (simp; done) | (simp [*]; done), by repeat (first | exact Drawn0.refl _ | apply Drawn0.step)⟩
    · rw [if_neg c4] at H
      exact absurd H (by simp)
  · rw [if_neg c3] at H
    exact absurd H (by simp)

/-! ### impl_Tree_productive_2: function 105 -/
def impl_Tree_productive_2.f (a0 : Int) (l1_0 : List Bool) : Option (Bool) := if 0 ≤ a0 then (if a0 < (l1_0.length : Int) then (some (!(rdOf false l1_0 a0))) else (none)) else (none)
set_option maxHeartbeats 8000000 in
set_option maxRecDepth 100000 in
theorem impl_Tree_productive_2.calls (a0 : Int) (B1_ O1_ : Nat) (A1_0 : Option Addr) (c1_0 : Nat) (l1_0 : List Bool) (r : Bool) (w : World) (hr1_0 : Kd.C Kd.bool w A1_0 l1_0.length l1_0) (hc1_0 : l1_0.length ≤ c1_0) (hq1_ : w.cell? ⟨B1_, O1_, none⟩ = some (.slice A1_0 l1_0.length c1_0)) (h : impl_Tree_productive_2.f a0 l1_0 = some r) :
    Calls Try.prog 105 #[.int .i16 a0, .pointer (some ⟨B1_, O1_, none⟩)] w fun e w' => e = .returned (.bool r) ∧ Drawn0 w w' := by
  have HR1_0 := Aside0.mk hr1_0
  have HC1_0 := Aside0.mk hc1_0
  clear hr1_0 hc1_0
  have HQ1_ := Aside0.mk hq1_
  clear hq1_
  have H : (if 0 ≤ a0 then (if a0 < (l1_0.length : Int) then (some (!(rdOf false l1_0 a0))) else (none)) else (none)) = some r := h
  clear h
  by_cases c3 : 0 ≤ a0
  · rw [if_pos c3] at H
    have c3b0 : decide (0 ≤ a0) = true := decide_eq_true c3
    clear c3
    by_cases c4 : a0 < (l1_0.length : Int)
    · rw [if_pos c4] at H
      have c4b0 : decide (a0 < (l1_0.length : Int)) = true := decide_eq_true c4
      clear c4
      obtain rfl := Option.some.inj H
      have hxr5_0 := HQ1_.out
      have p232 : 0 ≤ (a0 : Int) := of_decide_eq_true (by first | (with_reducible assumption) | assumption)
      have q232 : a0 < (l1_0.length : Int) := of_decide_eq_true (by first | (with_reducible assumption) | assumption)
      obtain ⟨ad232, e232, hx232_0⟩ := Kd.at_bool HR1_0.out a0 p232 q232
      cases e232
      replace p232 := eq_true p232
      replace q232 := eq_true q232
      go_enter Try.func105, Try.ntmps105
      go_wp2
      go_ret
      exact ⟨by first | rfl | (simp; done) | (simp [*]; done), by repeat (first | exact Drawn0.refl _ | apply Drawn0.step)⟩
    · rw [if_neg c4] at H
      exact absurd H (by simp)
  · rw [if_neg c3] at H
    exact absurd H (by simp)

/-! ### slices_IndexFunc_int16_int16_c104_3: function 146 -/
def slices_IndexFunc_int16_int16_c104_3.l0 : Nat → List Int → Int → Int → List Bool → Option (Int)
  | 0, _, _, _, _ => none
  | k + 1, x0, x7, x8, x2000 => if x8 < x7 then (if 0 ≤ x8 then (if x8 < (x0.length : Int) then ((impl_Tree_productive_1.f (rd x0 x8) x2000).bind fun t234 => (if t234 = true then (some x8) else (slices_IndexFunc_int16_int16_c104_3.l0 k x0 x7 (wrap64 (x8 + 1)) x2000))) else (none)) else (none)) else (some (-1))
def slices_IndexFunc_int16_int16_c104_3.f (k : Nat) (l0 : List Int) (l1_0 : List Bool) : Option (Int) := slices_IndexFunc_int16_int16_c104_3.l0 k l0 (l0.length : Int) 0 l1_0
theorem slices_IndexFunc_int16_int16_c104_3.mono_l : ∀ k, (∀ y0 y1 y2 y3, LeO (slices_IndexFunc_int16_int16_c104_3.l0 k y0 y1 y2 y3) (slices_IndexFunc_int16_int16_c104_3.l0 (k + 1) y0 y1 y2 y3))
  | 0 => fun _ _ _ _ r h => by simp [slices_IndexFunc_int16_int16_c104_3.l0] at h
  | k + 1 => by
    have ih0 := slices_IndexFunc_int16_int16_c104_3.mono_l k
    · intro y0 y1 y2 y3
      unfold slices_IndexFunc_int16_int16_c104_3.l0
      repeat' first
      | (with_reducible exact ih0 _ _ _ _)
      | (with_reducible exact LeO.refl _)
      | (with_reducible exact LeO.none _)
      | (with_reducible refine LeO.ite ?_ ?_)
      | (with_reducible refine LeO.bind ?_ (fun _ => ?_))
      | exact ih0 _ _ _ _
      | exact LeO.none _
      | refine LeO.ite ?_ ?_
      | refine LeO.bind ?_ (fun _ => ?_)
theorem slices_IndexFunc_int16_int16_c104_3.mono : ∀ a0 a1 k, LeO (slices_IndexFunc_int16_int16_c104_3.f k a0 a1) (slices_IndexFunc_int16_int16_c104_3.f (k + 1) a0 a1) := by
  intro a0 a1 k
  have ih0 := slices_IndexFunc_int16_int16_c104_3.mono_l k
  unfold slices_IndexFunc_int16_int16_c104_3.f
  repeat' first
      | (with_reducible exact ih0 _ _ _ _)
      | (with_reducible exact LeO.refl _)
      | (with_reducible exact LeO.none _)
      | (with_reducible refine LeO.ite ?_ ?_)
      | (with_reducible refine LeO.bind ?_ (fun _ => ?_))
      | exact ih0 _ _ _ _
      | exact LeO.none _
      | refine LeO.ite ?_ ?_
      | refine LeO.bind ?_ (fun _ => ?_)
set_option maxHeartbeats 8000000 in
set_option maxRecDepth 100000 in
theorem slices_IndexFunc_int16_int16_c104_3.calls (k : Nat) (A0 : Option Addr) (c0 : Nat) (l0 : List Int) (B1_ O1_ : Nat) (A1_0 : Option Addr) (c1_0 : Nat) (l1_0 : List Bool) (r : Int) (w : World) (hr0 : Kd.C (Kd.int .i16) w A0 l0.length l0) (hc0 : l0.length ≤ c0) (hr1_0 : Kd.C Kd.bool w A1_0 l1_0.length l1_0) (hc1_0 : l1_0.length ≤ c1_0) (hq1_ : w.cell? ⟨B1_, O1_, none⟩ = some (.slice A1_0 l1_0.length c1_0)) (h : slices_IndexFunc_int16_int16_c104_3.f k l0 l1_0 = some r) :
    Calls Try.prog 146 #[.slice A0 l0.length c0, .func (.func 104) #[] #[.pointer (some ⟨B1_, O1_, none⟩)]] w fun e w' => e = .returned (.int .i64 r) ∧ Drawn0 w w' := by
  have HR0 := Aside0.mk hr0
  have HC0 := Aside0.mk hc0
  clear hr0 hc0
  have HR1_0 := Aside0.mk hr1_0
  have HC1_0 := Aside0.mk hc1_0
  clear hr1_0 hc1_0
  have HQ1_ := Aside0.mk hq1_
  clear hq1_
  have H : (slices_IndexFunc_int16_int16_c104_3.l0 k l0 (l0.length : Int) 0 l1_0) = some r := h
  clear h
  have H' := Aside0.mk H
  clear H
  go_enter Try.func146, Try.ntmps146
  go_wp2
  go_loopg [8] k (fun kq v8 w' => ∃ (x8_1 : Int), v8 = .int .i64 x8_1 ∧ Aside0 (slices_IndexFunc_int16_int16_c104_3.l0 kq l0 (l0.length : Int) x8_1 l1_0 = some r) ∧ Aside0 (kq ≤ k) ∧ Drawn0 w w')
  case atStart => exact ⟨(0), (by first | rfl | (simp; done) | (simp [*]; done)), H', ⟨Nat.le_refl _⟩, by repeat (first | exact Drawn0.refl _ | apply Drawn0.step)⟩
  case round =>
    clear H'
    try clear c1
    try clear q1
    try clear p2
    obtain ⟨x8_1, rfl, HA, HK1, ⟨m1, rfl⟩⟩ := hrel
    cases gk with
    | zero => exact absurd HA.out (by simp [slices_IndexFunc_int16_int16_c104_3.l0])
    | succ k1 =>
      have H := HA.out
      clear HA
      simp only [slices_IndexFunc_int16_int16_c104_3.l0] at H
      by_cases c3 : x8_1 < (l0.length : Int)
      · rw [if_pos c3] at H
        have c3b0 : decide (x8_1 < (l0.length : Int)) = true := decide_eq_true c3
        clear c3
        by_cases c4 : 0 ≤ x8_1
        · rw [if_pos c4] at H
          have c4b0 : decide (0 ≤ x8_1) = true := decide_eq_true c4
          clear c4
          have c5 : x8_1 < (l0.length : Int) := of_decide_eq_true c3b0
          rw [if_pos c5] at H
          clear c5
          replace H := Option.bind_eq_some_iff.mp H
          obtain ⟨t234, A60, H⟩ := H
          replace H : (if t234 = true then (some x8_1) else (slices_IndexFunc_int16_int16_c104_3.l0 k1 l0 (l0.length : Int) (wrap64 (x8_1 + 1)) l1_0)) = some r := H
          have A6 := Aside0.mk A60
          clear A60
          by_cases c7 : t234 = true
          · subst c7
            have H1 : (some x8_1) = some r := by rw [if_pos rfl] at H; exact H
            clear H
            have H := H1
            clear H1
            obtain rfl := Option.some.inj H
            have p233 : 0 ≤ (x8_1 : Int) := of_decide_eq_true (by first | (with_reducible assumption) | assumption)
            have q233 : x8_1 < (l0.length : Int) := of_decide_eq_true (by first | (with_reducible assumption) | assumption)
            obtain ⟨ad233, e233, hx233_0⟩ := Kd.at_int HR0.out x8_1 p233 q233
            cases e233
            replace p233 := eq_true p233
            replace q233 := eq_true q233
            go_wp2_with (first | (go_at_call 104; (with_reducible refine (impl_Tree_productive_1.calls (rd l0 x8_1) B1_ O1_ A1_0 c1_0 l1_0 true _ ?side1 ?side2 ?side3 A6.out).mono ?_); (case side1 => repeat (first | exact HR1_0.out | (with_reducible refine Kd.C_alloc ?_ _) | (with_reducible refine Kd.C_drewN ?_ _) | (with_reducible refine Kd.C_drew ?_))); (case side2 => exact HC1_0.out); (case side3 => obtain hz0_ := HQ1_.out; exact hz0_); rintro e w' ⟨rfl, ⟨nd, rfl⟩⟩))
            go_ret
            exact ⟨by first | rfl | (simp; done) | (simp [*]; done), by repeat (first | exact Drawn0.refl _ | apply Drawn0.step)⟩
          · replace c7 := Bool.eq_false_iff.mpr c7
            subst c7
            have H1 : (slices_IndexFunc_int16_int16_c104_3.l0 k1 l0 (l0.length : Int) (wrap64 (x8_1 + 1)) l1_0) = some r := by rw [if_neg (show ¬ (false = true) by decide)] at H; exact H
            clear H
            have H := H1
            clear H1
            have H' := Aside0.mk H
            clear H
            have p233 : 0 ≤ (x8_1 : Int) := of_decide_eq_true (by first | (with_reducible assumption) | assumption)
            have q233 : x8_1 < (l0.length : Int) := of_decide_eq_true (by first | (with_reducible assumption) | assumption)
            obtain ⟨ad233, e233, hx233_0⟩ := Kd.at_int HR0.out x8_1 p233 q233
            cases e233
            replace p233 := eq_true p233
            replace q233 := eq_true q233
            go_wp2_with (first | (go_at_call 104; (with_reducible refine (impl_Tree_productive_1.calls (rd l0 x8_1) B1_ O1_ A1_0 c1_0 l1_0 false _ ?side1 ?side2 ?side3 A6.out).mono ?_); (case side1 => repeat (first | exact HR1_0.out | (with_reducible refine Kd.C_alloc ?_ _) | (with_reducible refine Kd.C_drewN ?_ _) | (with_reducible refine Kd.C_drew ?_))); (case side2 => exact HC1_0.out); (case side3 => obtain hz0_ := HQ1_.out; exact hz0_); rintro e w' ⟨rfl, ⟨nd, rfl⟩⟩))
            go_roundg k1
            case measure => have := HK1.out; omega
            case rel => exact ⟨(wrap64 (x8_1 + 1)), (by first | rfl | (simp; done) | (simp [*]; done)), H', ⟨by have := HK1.out; omega⟩, by repeat (first | exact Drawn0.refl _ | apply Drawn0.step)⟩
        · rw [if_neg c4] at H
          exact absurd H (by simp)
      · rw [if_neg c3] at H
        have c3b0 : decide (x8_1 < (l0.length : Int)) = false := decide_eq_false c3
        clear c3
        obtain rfl := Option.some.inj H
        go_wp2
        go_ret
        exact ⟨by first | rfl | (simp; done) | (simp [*]; done), by repeat (first | exact Drawn0.refl _ | apply Drawn0.step)⟩

/-! ### slices_ContainsFunc_int16_int16_c104_2: function 102 -/
def slices_ContainsFunc_int16_int16_c104_2.f (k : Nat) (l0 : List Int) (l1_0 : List Bool) : Option (Bool) := (slices_IndexFunc_int16_int16_c104_3.f k l0 l1_0).bind fun t235 => (some (decide (t235 ≥ 0)))
theorem slices_ContainsFunc_int16_int16_c104_2.mono : ∀ a0 a1 k, LeO (slices_ContainsFunc_int16_int16_c104_2.f k a0 a1) (slices_ContainsFunc_int16_int16_c104_2.f (k + 1) a0 a1) := by
  intro a0 a1 k
  unfold slices_ContainsFunc_int16_int16_c104_2.f
  repeat' first
      | (with_reducible exact slices_IndexFunc_int16_int16_c104_3.mono _ _ _)
      | (with_reducible exact LeO.refl _)
      | (with_reducible exact LeO.none _)
      | (with_reducible refine LeO.ite ?_ ?_)
      | (with_reducible refine LeO.bind ?_ (fun _ => ?_))
      | exact slices_IndexFunc_int16_int16_c104_3.mono _ _ _
      | exact LeO.none _
      | refine LeO.ite ?_ ?_
      | refine LeO.bind ?_ (fun _ => ?_)
set_option maxHeartbeats 8000000 in
set_option maxRecDepth 100000 in
theorem slices_ContainsFunc_int16_int16_c104_2.calls (k : Nat) (A0 : Option Addr) (c0 : Nat) (l0 : List Int) (B1_ O1_ : Nat) (A1_0 : Option Addr) (c1_0 : Nat) (l1_0 : List Bool) (r : Bool) (w : World) (hr0 : Kd.C (Kd.int .i16) w A0 l0.length l0) (hc0 : l0.length ≤ c0) (hr1_0 : Kd.C Kd.bool w A1_0 l1_0.length l1_0) (hc1_0 : l1_0.length ≤ c1_0) (hq1_ : w.cell? ⟨B1_, O1_, none⟩ = some (.slice A1_0 l1_0.length c1_0)) (h : slices_ContainsFunc_int16_int16_c104_2.f k l0 l1_0 = some r) :
    Calls Try.prog 102 #[.slice A0 l0.length c0, .func (.func 104) #[] #[.pointer (some ⟨B1_, O1_, none⟩)]] w fun e w' => e = .returned (.bool r) ∧ Drawn0 w w' := by
  have HR0 := Aside0.mk hr0
  have HC0 := Aside0.mk hc0
  clear hr0 hc0
  have HR1_0 := Aside0.mk hr1_0
  have HC1_0 := Aside0.mk hc1_0
  clear hr1_0 hc1_0
  have HQ1_ := Aside0.mk hq1_
  clear hq1_
  have H : ((slices_IndexFunc_int16_int16_c104_3.f k l0 l1_0).bind fun t235 => (some (decide (t235 ≥ 0)))) = some r := h
  clear h
  replace H := Option.bind_eq_some_iff.mp H
  obtain ⟨t235, A30, H⟩ := H
  replace H : (some (decide (t235 ≥ 0))) = some r := H
  have A3 := Aside0.mk A30
  clear A30
  obtain rfl := Option.some.inj H
  go_enter Try.func102, Try.ntmps102
  go_wp2_with (first | ((with_reducible refine gate_callee (f := 146) rfl ?_); refine goesL_ (some 7) rfl rfl Try.func146 (by kernel_rfl) rfl #[.slice A0 l0.length c0, .func (.func 104) #[] #[.pointer (some ⟨B1_, O1_, none⟩)]] rfl (by (try simp only [List.map_toArray, List.map_cons, List.map_nil]); first | done | rfl | (simp only [List.length_drop, List.length_take]; rfl)) ?_; (with_reducible refine (slices_IndexFunc_int16_int16_c104_3.calls k _ _ l0 B1_ O1_ A1_0 c1_0 l1_0 t235 _ ?side1 ?side2 ?side3 ?side4 ?side5 A3.out).mono ?_); (case side1 => repeat (first | exact HR0.out | (with_reducible refine Kd.C_alloc ?_ _) | (with_reducible refine Kd.C_drewN ?_ _) | (with_reducible refine Kd.C_drew ?_))); (case side2 => exact HC0.out); (case side3 => repeat (first | exact HR1_0.out | (with_reducible refine Kd.C_alloc ?_ _) | (with_reducible refine Kd.C_drewN ?_ _) | (with_reducible refine Kd.C_drew ?_))); (case side4 => exact HC1_0.out); (case side5 => obtain hz0_ := HQ1_.out; exact hz0_); rintro e w' ⟨rfl, ⟨nd, rfl⟩⟩; refine ⟨_, rfl, ?_⟩))
  go_ret
  exact ⟨by first | rfl | (simp; done) | (simp [*]; done), by repeat (first | exact Drawn0.refl _ | apply Drawn0.step)⟩

/-! ### slices_IndexFunc_int16_int16_c105_5: function 146 -/
def slices_IndexFunc_int16_int16_c105_5.l0 : Nat → List Int → Int → Int → List Bool → Option (Int)
  | 0, _, _, _, _ => none
  | k + 1, x0, x7, x8, x2000 => if x8 < x7 then (if 0 ≤ x8 then (if x8 < (x0.length : Int) then ((impl_Tree_productive_2.f (rd x0 x8) x2000).bind fun t237 => (if t237 = true then (some x8) else (slices_IndexFunc_int16_int16_c105_5.l0 k x0 x7 (wrap64 (x8 + 1)) x2000))) else (none)) else (none)) else (some (-1))
def slices_IndexFunc_int16_int16_c105_5.f (k : Nat) (l0 : List Int) (l1_0 : List Bool) : Option (Int) := slices_IndexFunc_int16_int16_c105_5.l0 k l0 (l0.length : Int) 0 l1_0
theorem slices_IndexFunc_int16_int16_c105_5.mono_l : ∀ k, (∀ y0 y1 y2 y3, LeO (slices_IndexFunc_int16_int16_c105_5.l0 k y0 y1 y2 y3) (slices_IndexFunc_int16_int16_c105_5.l0 (k + 1) y0 y1 y2 y3))
  | 0 => fun _ _ _ _ r h => by simp [slices_IndexFunc_int16_int16_c105_5.l0] at h
  | k + 1 => by
    have ih0 := slices_IndexFunc_int16_int16_c105_5.mono_l k
    · intro y0 y1 y2 y3
      unfold slices_IndexFunc_int16_int16_c105_5.l0
      repeat' first
      | (with_reducible exact ih0 _ _ _ _)
      | (with_reducible exact LeO.refl _)
      | (with_reducible exact LeO.none _)
      | (with_reducible refine LeO.ite ?_ ?_)
      | (with_reducible refine LeO.bind ?_ (fun _ => ?_))
      | exact ih0 _ _ _ _
      | exact LeO.none _
      | refine LeO.ite ?_ ?_
      | refine LeO.bind ?_ (fun _ => ?_)
theorem slices_IndexFunc_int16_int16_c105_5.mono : ∀ a0 a1 k, LeO (slices_IndexFunc_int16_int16_c105_5.f k a0 a1) (slices_IndexFunc_int16_int16_c105_5.f (k + 1) a0 a1) := by
  intro a0 a1 k
  have ih0 := slices_IndexFunc_int16_int16_c105_5.mono_l k
  unfold slices_IndexFunc_int16_int16_c105_5.f
  repeat' first
      | (with_reducible exact ih0 _ _ _ _)
      | (with_reducible exact LeO.refl _)
      | (with_reducible exact LeO.none _)
      | (with_reducible refine LeO.ite ?_ ?_)
      | (with_reducible refine LeO.bind ?_ (fun _ => ?_))
      | exact ih0 _ _ _ _
      | exact LeO.none _
      | refine LeO.ite ?_ ?_
      | refine LeO.bind ?_ (fun _ => ?_)
set_option maxHeartbeats 8000000 in
set_option maxRecDepth 100000 in
theorem slices_IndexFunc_int16_int16_c105_5.calls (k : Nat) (A0 : Option Addr) (c0 : Nat) (l0 : List Int) (B1_ O1_ : Nat) (A1_0 : Option Addr) (c1_0 : Nat) (l1_0 : List Bool) (r : Int) (w : World) (hr0 : Kd.C (Kd.int .i16) w A0 l0.length l0) (hc0 : l0.length ≤ c0) (hr1_0 : Kd.C Kd.bool w A1_0 l1_0.length l1_0) (hc1_0 : l1_0.length ≤ c1_0) (hq1_ : w.cell? ⟨B1_, O1_, none⟩ = some (.slice A1_0 l1_0.length c1_0)) (h : slices_IndexFunc_int16_int16_c105_5.f k l0 l1_0 = some r) :
    Calls Try.prog 146 #[.slice A0 l0.length c0, .func (.func 105) #[] #[.pointer (some ⟨B1_, O1_, none⟩)]] w fun e w' => e = .returned (.int .i64 r) ∧ Drawn0 w w' := by
  have HR0 := Aside0.mk hr0
  have HC0 := Aside0.mk hc0
  clear hr0 hc0
  have HR1_0 := Aside0.mk hr1_0
  have HC1_0 := Aside0.mk hc1_0
  clear hr1_0 hc1_0
  have HQ1_ := Aside0.mk hq1_
  clear hq1_
  have H : (slices_IndexFunc_int16_int16_c105_5.l0 k l0 (l0.length : Int) 0 l1_0) = some r := h
  clear h
  have H' := Aside0.mk H
  clear H
  go_enter Try.func146, Try.ntmps146
  go_wp2
  go_loopg [8] k (fun kq v8 w' => ∃ (x8_1 : Int), v8 = .int .i64 x8_1 ∧ Aside0 (slices_IndexFunc_int16_int16_c105_5.l0 kq l0 (l0.length : Int) x8_1 l1_0 = some r) ∧ Aside0 (kq ≤ k) ∧ Drawn0 w w')
  case atStart => exact ⟨(0), (by first | rfl | (simp; done) | (simp [*]; done)), H', ⟨Nat.le_refl _⟩, by repeat (first | exact Drawn0.refl _ | apply Drawn0.step)⟩
  case round =>
    clear H'
    try clear c1
    try clear q1
    try clear p2
    obtain ⟨x8_1, rfl, HA, HK1, ⟨m1, rfl⟩⟩ := hrel
    cases gk with
    | zero => exact absurd HA.out (by simp [slices_IndexFunc_int16_int16_c105_5.l0])
    | succ k1 =>
      have H := HA.out
      clear HA
      simp only [slices_IndexFunc_int16_int16_c105_5.l0] at H
      by_cases c3 : x8_1 < (l0.length : Int)
      · rw [if_pos c3] at H
        have c3b0 : decide (x8_1 < (l0.length : Int)) = true := decide_eq_true c3
        clear c3
        by_cases c4 : 0 ≤ x8_1
        · rw [if_pos c4] at H
          have c4b0 : decide (0 ≤ x8_1) = true := decide_eq_true c4
          clear c4
          have c5 : x8_1 < (l0.length : Int) := of_decide_eq_true c3b0
          rw [if_pos c5] at H
          clear c5
          replace H := Option.bind_eq_some_iff.mp H
          obtain ⟨t237, A60, H⟩ := H
          replace H : (if t237 = true then (some x8_1) else (slices_IndexFunc_int16_int16_c105_5.l0 k1 l0 (l0.length : Int) (wrap64 (x8_1 + 1)) l1_0)) = some r := H
          have A6 := Aside0.mk A60
          clear A60
          by_cases c7 : t237 = true
          · subst c7
            have H1 : (some x8_1) = some r := by rw [if_pos rfl] at H; exact H
            clear H
            have H := H1
            clear H1
            obtain rfl := Option.some.inj H
            have p236 : 0 ≤ (x8_1 : Int) := of_decide_eq_true (by first | (with_reducible assumption) | assumption)
            have q236 : x8_1 < (l0.length : Int) := of_decide_eq_true (by first | (with_reducible assumption) | assumption)
            obtain ⟨ad236, e236, hx236_0⟩ := Kd.at_int HR0.out x8_1 p236 q236
            cases e236
            replace p236 := eq_true p236
            replace q236 := eq_true q236
            go_wp2_with (first | (go_at_call 105; (with_reducible refine (impl_Tree_productive_2.calls (rd l0 x8_1) B1_ O1_ A1_0 c1_0 l1_0 true _ ?side1 ?side2 ?side3 A6.out).mono ?_); (case side1 => repeat (first | exact HR1_0.out | (with_reducible refine Kd.C_alloc ?_ _) | (with_reducible refine Kd.C_drewN ?_ _) | (with_reducible refine Kd.C_drew ?_))); (case side2 => exact HC1_0.out); (case side3 => obtain hz0_ := HQ1_.out; exact hz0_); rintro e w' ⟨rfl, ⟨nd, rfl⟩⟩))
            go_ret
            exact ⟨by first | rfl | (simp; done) | (simp [*]; done), by repeat (first | exact Drawn0.refl _ | apply Drawn0.step)⟩
          · replace c7 := Bool.eq_false_iff.mpr c7
            subst c7
            have H1 : (slices_IndexFunc_int16_int16_c105_5.l0 k1 l0 (l0.length : Int) (wrap64 (x8_1 + 1)) l1_0) = some r := by rw [if_neg (show ¬ (false = true) by decide)] at H; exact H
            clear H
            have H := H1
            clear H1
            have H' := Aside0.mk H
            clear H
            have p236 : 0 ≤ (x8_1 : Int) := of_decide_eq_true (by first | (with_reducible assumption) | assumption)
            have q236 : x8_1 < (l0.length : Int) := of_decide_eq_true (by first | (with_reducible assumption) | assumption)
            obtain ⟨ad236, e236, hx236_0⟩ := Kd.at_int HR0.out x8_1 p236 q236
            cases e236
            replace p236 := eq_true p236
            replace q236 := eq_true q236
            go_wp2_with (first | (go_at_call 105; (with_reducible refine (impl_Tree_productive_2.calls (rd l0 x8_1) B1_ O1_ A1_0 c1_0 l1_0 false _ ?side1 ?side2 ?side3 A6.out).mono ?_); (case side1 => repeat (first | exact HR1_0.out | (with_reducible refine Kd.C_alloc ?_ _) | (with_reducible refine Kd.C_drewN ?_ _) | (with_reducible refine Kd.C_drew ?_))); (case side2 => exact HC1_0.out); (case side3 => obtain hz0_ := HQ1_.out; exact hz0_); rintro e w' ⟨rfl, ⟨nd, rfl⟩⟩))
            go_roundg k1
            case measure => have := HK1.out; omega
            case rel => exact ⟨(wrap64 (x8_1 + 1)), (by first | rfl | (simp; done) | (simp [*]; done)), H', ⟨by have := HK1.out; omega⟩, by repeat (first | exact Drawn0.refl _ | apply Drawn0.step)⟩
        · rw [if_neg c4] at H
          exact absurd H (by simp)
      · rw [if_neg c3] at H
        have c3b0 : decide (x8_1 < (l0.length : Int)) = false := decide_eq_false c3
        clear c3
        obtain rfl := Option.some.inj H
        go_wp2
        go_ret
        exact ⟨by first | rfl | (simp; done) | (simp [*]; done), by repeat (first | exact Drawn0.refl _ | apply Drawn0.step)⟩

/-! ### slices_ContainsFunc_int16_int16_c105_4: function 102 -/
def slices_ContainsFunc_int16_int16_c105_4.f (k : Nat) (l0 : List Int) (l1_0 : List Bool) : Option (Bool) := (slices_IndexFunc_int16_int16_c105_5.f k l0 l1_0).bind fun t238 => (some (decide (t238 ≥ 0)))
theorem slices_ContainsFunc_int16_int16_c105_4.mono : ∀ a0 a1 k, LeO (slices_ContainsFunc_int16_int16_c105_4.f k a0 a1) (slices_ContainsFunc_int16_int16_c105_4.f (k + 1) a0 a1) := by
  intro a0 a1 k
  unfold slices_ContainsFunc_int16_int16_c105_4.f
  repeat' first
      | (with_reducible exact slices_IndexFunc_int16_int16_c105_5.mono _ _ _)
      | (with_reducible exact LeO.refl _)
      | (with_reducible exact LeO.none _)
      | (with_reducible refine LeO.ite ?_ ?_)
      | (with_reducible refine LeO.bind ?_ (fun _ => ?_))
      | exact slices_IndexFunc_int16_int16_c105_5.mono _ _ _
      | exact LeO.none _
      | refine LeO.ite ?_ ?_
      | refine LeO.bind ?_ (fun _ => ?_)
set_option maxHeartbeats 8000000 in
set_option maxRecDepth 100000 in
theorem slices_ContainsFunc_int16_int16_c105_4.calls (k : Nat) (A0 : Option Addr) (c0 : Nat) (l0 : List Int) (B1_ O1_ : Nat) (A1_0 : Option Addr) (c1_0 : Nat) (l1_0 : List Bool) (r : Bool) (w : World) (hr0 : Kd.C (Kd.int .i16) w A0 l0.length l0) (hc0 : l0.length ≤ c0) (hr1_0 : Kd.C Kd.bool w A1_0 l1_0.length l1_0) (hc1_0 : l1_0.length ≤ c1_0) (hq1_ : w.cell? ⟨B1_, O1_, none⟩ = some (.slice A1_0 l1_0.length c1_0)) (h : slices_ContainsFunc_int16_int16_c105_4.f k l0 l1_0 = some r) :
    Calls Try.prog 102 #[.slice A0 l0.length c0, .func (.func 105) #[] #[.pointer (some ⟨B1_, O1_, none⟩)]] w fun e w' => e = .returned (.bool r) ∧ Drawn0 w w' := by
  have HR0 := Aside0.mk hr0
  have HC0 := Aside0.mk hc0
  clear hr0 hc0
  have HR1_0 := Aside0.mk hr1_0
  have HC1_0 := Aside0.mk hc1_0
  clear hr1_0 hc1_0
  have HQ1_ := Aside0.mk hq1_
  clear hq1_
  have H : ((slices_IndexFunc_int16_int16_c105_5.f k l0 l1_0).bind fun t238 => (some (decide (t238 ≥ 0)))) = some r := h
  clear h
  replace H := Option.bind_eq_some_iff.mp H
  obtain ⟨t238, A30, H⟩ := H
  replace H : (some (decide (t238 ≥ 0))) = some r := H
  have A3 := Aside0.mk A30
  clear A30
  obtain rfl := Option.some.inj H
  go_enter Try.func102, Try.ntmps102
  go_wp2_with (first | ((with_reducible refine gate_callee (f := 146) rfl ?_); refine goesL_ (some 7) rfl rfl Try.func146 (by kernel_rfl) rfl #[.slice A0 l0.length c0, .func (.func 105) #[] #[.pointer (some ⟨B1_, O1_, none⟩)]] rfl (by (try simp only [List.map_toArray, List.map_cons, List.map_nil]); first | done | rfl | (simp only [List.length_drop, List.length_take]; rfl)) ?_; (with_reducible refine (slices_IndexFunc_int16_int16_c105_5.calls k _ _ l0 B1_ O1_ A1_0 c1_0 l1_0 t238 _ ?side1 ?side2 ?side3 ?side4 ?side5 A3.out).mono ?_); (case side1 => repeat (first | exact HR0.out | (with_reducible refine Kd.C_alloc ?_ _) | (with_reducible refine Kd.C_drewN ?_ _) | (with_reducible refine Kd.C_drew ?_))); (case side2 => exact HC0.out); (case side3 => repeat (first | exact HR1_0.out | (with_reducible refine Kd.C_alloc ?_ _) | (with_reducible refine Kd.C_drewN ?_ _) | (with_reducible refine Kd.C_drew ?_))); (case side4 => exact HC1_0.out); (case side5 => obtain hz0_ := HQ1_.out; exact hz0_); rintro e w' ⟨rfl, ⟨nd, rfl⟩⟩; refine ⟨_, rfl, ?_⟩))
  go_ret
  exact ⟨by first | rfl | (simp; done) | (simp [*]; done), by repeat (first | exact Drawn0.refl _ | apply Drawn0.step)⟩

end Go.Proofs.Ytlccefmimpmgjaa.MFnExactIsProductive
