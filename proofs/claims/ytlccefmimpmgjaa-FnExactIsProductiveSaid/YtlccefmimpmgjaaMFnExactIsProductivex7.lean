/- Functions of the program as Lean functions, and the proof that the code comes to what they say. Written by a program of this session (myprint.py). -/
import Derived.Test.YtlccefmimpmgjaaMFnExactIsProductivex0
import Derived.Test.YtlccefmimpmgjaaMFnExactIsProductivex5
import Derived.Test.YtlccefmimpmgjaaMFnExactIsProductivex6
namespace Go.Proofs.Ytlccefmimpmgjaa.MFnExactIsProductive
open Go.RowKit Go.Proofs.Ytlccefmimpmgjaa.MOpen Go.Proofs.YtlccefmimpmgjaaW.PrintWords Go.Proofs.YtlccefmimpmgjaaW.PrintLast Go.Proofs.YtlccefmimpmgjaaW.PrintMore
attribute [local go_sem] max2_int min2_int max_two min_two max_three min_three max_four min_four   -- for this text's walks alone
set_option linter.unusedVariables false
set_option linter.unusedSimpArgs false

set_option linter.defProp false
def aM69_ := @Aside0.mk
theorem q69x1_ {P : Prop} (h : P := by repeat (first | (with_reducible first | exact HB.out | apply below_alloc | apply pw_below_drewN | apply below_drew1 | refine below_set ?_ GE239.out) | exact HB.out)) : P := h
theorem q69x2_ {P : Prop} (h : P := by first | (with_reducible assumption) | assumption) : P := h
theorem q69x3_ {P : Prop} (h : P := by (with_reducible repeat (first | refine blk_drewN ?_ _ | refine blk_drew ?_ | refine blk_alloc ?_ _)); exact BK239.out) : P := h
theorem q69x4_ {P : Prop} (h : P := by (try simp only [List.map_toArray, List.map_cons, List.map_nil]); first | done | rfl | (simp only [List.length_drop, List.length_take]; rfl)) : P := h
theorem q69x5_ {P : Prop} (h : P := by repeat (first | (with_reducible first | exact HB.out | apply below_alloc | apply pw_below_drewN | apply below_drew1) | exact HB.out)) : P := h
theorem q69x6_ {P : Prop} (h : P := by first | rfl | (simp; done) | (simp [*]; done)) : P := h
theorem q69x7_ {P : Prop} (h : P := by intro w'; go_simp; with_reducible rfl) : P := h
theorem q69x8_ {P : Prop} (h : P := by simp only [Act.put, List.setIfInBounds_toArray, List.set_cons_zero, List.set_cons_succ, i64_w, i32_w]; rfl) : P := h
theorem q69x9_ {P : Prop} (h : P := by rintro w' ⟨s0, s1, s2, s3, s4, s5⟩; go_simp; with_reducible rfl) : P := h
@[go_sem] theorem impl_Tree_productive.run_make_ (P : Program) (fn : Fn) (first cap : Array Value) (w : World) : (Instr.makeFunc fn first cap).run P w = .ok (.func fn first cap) w := rfl
@[go_sem] theorem impl_Tree_productive.events_make_ (P : Program) (fn : Fn) (first cap : Array Value) (w : World) (es : Array Event) : (Instr.makeFunc fn first cap).events P w es = es := rfl
/-! ### impl_Tree_productive: function 69 -/
mutual
def impl_Tree_productive.l0 : Nat → List Int → Int → Int → List (S77) → List Bool → Option (Bool)
 | 0, _, _, _, _, _ => none
 | k + 1, x3, x15, x16, x240000, x247000 => if x16 < x15 then (impl_Tree_productive.l1 k x3 x15 x16 x3 (x3.length : Int) 0 x240000 x247000) else (if 0 < (x247000.length : Int) then (if rdOf false x247000 0 = true then ((slices_ContainsFunc_int16_int16_c105_4.f k x3 x247000).bind fun t248 => (some (!t248))) else (some false)) else (none))
def impl_Tree_productive.l1 : Nat → List Int → Int → Int → List Int → Int → Int → List (S77) → List Bool → Option (Bool)
 | 0, _, _, _, _, _, _, _, _ => none
 | k + 1, x3, x15, x16, x18, x19, x20, x240000, x247000 => if x20 < x19 then (if 0 ≤ x20 then (if x20 < (x18.length : Int) then (if 0 ≤ (rd x18 x20) then (if (rd x18 x20) < (x240000.length : Int) then (if ((rd_T77 x240000 (rd x18 x20)).f0) = 2 then (if (rd x18 x20) < (x247000.length : Int) then (impl_Tree_productive.l1 k x3 x15 x16 x18 x19 (wrap64 (x20 + 1)) x240000 (x247000.set ((rd x18 x20) : Int).toNat true)) else (none)) else ((impl_Fork_ways.f ((rd_T77 x240000 (rd x18 x20)).f0) ((rd_T77 x240000 (rd x18 x20)).f1) ((rd_T77 x240000 (rd x18 x20)).f2.f0) ((rd_T77 x240000 (rd x18 x20)).f2.f1) ((rd_T77 x240000 (rd x18 x20)).f2.f2)).bind fun t253 => ((slices_ContainsFunc_int16_int16_c104_2.f k t253 x247000).bind fun t255 => (if (rd x18 x20) < (x247000.length : Int) then (impl_Tree_productive.l1 k x3 x15 x16 x18 x19 (wrap64 (x20 + 1)) x240000 (x247000.set ((rd x18 x20) : Int).toNat (!t255))) else (none))))) else (none)) else (none)) else (none)) else (none)) else (impl_Tree_productive.l0 k x3 x15 (wrap64 (x16 + 1)) x240000 x247000)
end
def impl_Tree_productive.f (k : Nat) (l0_0 : List (S77)) : Option (Bool) := (impl_Tree_found.f k l0_0).bind fun t240 => (if 0 ≤ (l0_0.length : Int) then (if ((l0_0.length : Int) : Int).toNat ≤ 281474976710656 then (impl_Tree_productive.l0 k t240 (t240.length : Int) 0 l0_0 (List.replicate ((l0_0.length : Int) : Int).toNat false)) else (none)) else (none))
theorem impl_Tree_productive.mono_l : ∀ k, (∀ y0 y1 y2 y3 y4, LeO (impl_Tree_productive.l0 k y0 y1 y2 y3 y4) (impl_Tree_productive.l0 (k + 1) y0 y1 y2 y3 y4)) ∧ (∀ y0 y1 y2 y3 y4 y5 y6 y7, LeO (impl_Tree_productive.l1 k y0 y1 y2 y3 y4 y5 y6 y7) (impl_Tree_productive.l1 (k + 1) y0 y1 y2 y3 y4 y5 y6 y7))
 | 0 => ⟨fun _ _ _ _ _ r h => by simp [impl_Tree_productive.l0] at h, fun _ _ _ _ _ _ _ _ r h => by simp [impl_Tree_productive.l1] at h⟩
 | k + 1 => by
  obtain ⟨ih0, ih1⟩ := impl_Tree_productive.mono_l k
  refine ⟨?_, ?_⟩
  ·intro y0 y1 y2 y3 y4
   unfold impl_Tree_productive.l0
   repeat' first
   | (with_reducible exact ih0 _ _ _ _ _)
   | (with_reducible exact ih1 _ _ _ _ _ _ _ _)
   | (with_reducible exact impl_Tree_found.mono _ _)
   | (with_reducible exact slices_ContainsFunc_int16_int16_c104_2.mono _ _ _)
   | (with_reducible exact slices_ContainsFunc_int16_int16_c105_4.mono _ _ _)
   | (with_reducible exact LeO.refl _)
   | (with_reducible exact LeO.none _)
   | (with_reducible refine LeO.ite ?_ ?_)
   | (with_reducible refine LeO.bind ?_ (fun _ => ?_))
   | exact ih0 _ _ _ _ _
   | exact ih1 _ _ _ _ _ _ _ _
   | exact impl_Tree_found.mono _ _
   | exact slices_ContainsFunc_int16_int16_c104_2.mono _ _ _
   | exact slices_ContainsFunc_int16_int16_c105_4.mono _ _ _
   | exact LeO.none _
   | refine LeO.ite ?_ ?_
   | refine LeO.bind ?_ (fun _ => ?_)
  intro y0 y1 y2 y3 y4 y5 y6 y7
  unfold impl_Tree_productive.l1
  repeat' first
  | (with_reducible exact ih0 _ _ _ _ _)
  | (with_reducible exact ih1 _ _ _ _ _ _ _ _)
  | (with_reducible exact impl_Tree_found.mono _ _)
  | (with_reducible exact slices_ContainsFunc_int16_int16_c104_2.mono _ _ _)
  | (with_reducible exact slices_ContainsFunc_int16_int16_c105_4.mono _ _ _)
  | (with_reducible exact LeO.refl _)
  | (with_reducible exact LeO.none _)
  | (with_reducible refine LeO.ite ?_ ?_)
  | (with_reducible refine LeO.bind ?_ (fun _ => ?_))
  | exact ih0 _ _ _ _ _
  | exact ih1 _ _ _ _ _ _ _ _
  | exact impl_Tree_found.mono _ _
  | exact slices_ContainsFunc_int16_int16_c104_2.mono _ _ _
  | exact slices_ContainsFunc_int16_int16_c105_4.mono _ _ _
  | exact LeO.none _
  | refine LeO.ite ?_ ?_
  | refine LeO.bind ?_ (fun _ => ?_)
theorem impl_Tree_productive.mono : ∀ a0 k, LeO (impl_Tree_productive.f k a0) (impl_Tree_productive.f (k + 1) a0) := by
 intro a0 k
 obtain ⟨ih0, ih1⟩ := impl_Tree_productive.mono_l k
 unfold impl_Tree_productive.f
 repeat' first
   | (with_reducible exact ih0 _ _ _ _ _)
   | (with_reducible exact ih1 _ _ _ _ _ _ _ _)
   | (with_reducible exact impl_Tree_found.mono _ _)
   | (with_reducible exact slices_ContainsFunc_int16_int16_c104_2.mono _ _ _)
   | (with_reducible exact slices_ContainsFunc_int16_int16_c105_4.mono _ _ _)
   | (with_reducible exact LeO.refl _)
   | (with_reducible exact LeO.none _)
   | (with_reducible refine LeO.ite ?_ ?_)
   | (with_reducible refine LeO.bind ?_ (fun _ => ?_))
   | exact ih0 _ _ _ _ _
   | exact ih1 _ _ _ _ _ _ _ _
   | exact impl_Tree_found.mono _ _
   | exact slices_ContainsFunc_int16_int16_c104_2.mono _ _ _
   | exact slices_ContainsFunc_int16_int16_c105_4.mono _ _ _
   | exact LeO.none _
   | refine LeO.ite ?_ ?_
   | refine LeO.bind ?_ (fun _ => ?_)
def impl_Tree_productive.T9 : Bool × List (List Nat × List Nat) := (true, [([], []), ([], []), ([], []), ([2], [2]), ([3], [3]), ([4], [4]), ([5], [5]), ([6], [6]), ([7], [7]), ([8, 7, 7], [7, 8]), ([7], [7]), ([9, 10, 9, 7], [7, 9, 10]), ([11, 7], [7, 11]), ([7, 12], [7, 12]), ([0, 1, 0, 1, 2, 3, 4, 5, 6, 7, 8, 9, 10, 11, 12, 13], [0, 1]), ([14, 13, 11, 0, 1, 2, 3, 4, 5, 6, 7, 8, 9, 10, 11, 12, 13], [13, 14])])
def impl_Tree_productive.B9 : List Nat := [0, 0, 0, 4, 12, 28, 60, 124, 252, 508, 252, 2044, 4092, 8188, 16383, 32767]
theorem impl_Tree_productive.tab9 : rtab .any (opsOf Try.f69 9) = impl_Tree_productive.T9 := by kernel_rfl
theorem impl_Tree_productive.bits9 : waitsOk impl_Tree_productive.T9.2 impl_Tree_productive.B9 = true := by kernel_rfl
set_option maxHeartbeats 8000000 in
set_option maxRecDepth 100000 in
theorem impl_Tree_productive.calls (k : Nat) (A0_0 : Option Addr) (c0_0 : Nat) (l0_0 : List (S77)) (r : Bool) (w : World) (hr0_0 : Kd.C k77 w A0_0 l0_0.length l0_0) (hc0_0 : l0_0.length ≤ c0_0) (h : impl_Tree_productive.f k l0_0 = some r) :
  Calls Try.prog 69 #[.agg #[.slice A0_0 l0_0.length c0_0]] w fun e w' => e = .returned (.bool r) ∧ Below w.heap.size w w' := by
 have hu24 := Try.underlying24
 have HR0_0 := aM69_ hr0_0
 have HC0_0 := aM69_ hc0_0
 clear hr0_0 hc0_0
 have HB := aM69_ (Below.refl w.heap.size w)
 have H : ((impl_Tree_found.f k l0_0).bind fun t240 => (if 0 ≤ (l0_0.length : Int) then (if ((l0_0.length : Int) : Int).toNat ≤ 281474976710656 then (impl_Tree_productive.l0 k t240 (t240.length : Int) 0 l0_0 (List.replicate ((l0_0.length : Int) : Int).toNat false)) else (none)) else (none))) = some r := h
 clear h
 replace H := Option.bind_eq_some_iff.mp H
 obtain ⟨t240, A20, H⟩ := H
 replace H : (if 0 ≤ (l0_0.length : Int) then (if ((l0_0.length : Int) : Int).toNat ≤ 281474976710656 then (impl_Tree_productive.l0 k t240 (t240.length : Int) 0 l0_0 (List.replicate ((l0_0.length : Int) : Int).toNat false)) else (none)) else (none)) = some r := H
 have A2 := aM69_ A20
 clear A20
 by_cases c3 : 0 ≤ (l0_0.length : Int)
 rotate_left
 ·rw [if_neg c3] at H
  exact absurd H (by simp)

 rw [if_pos c3] at H
 have c3b0 := eq_true c3
 have c3b1 : decide (0 ≤ (l0_0.length : Int)) = true := decide_eq_true c3
 clear c3
 by_cases c4 : ((l0_0.length : Int) : Int).toNat ≤ 281474976710656
 rotate_left
 ·rw [if_neg c4] at H
  exact absurd H (by simp)
 rw [if_pos c4] at H
 have c4b0 := eq_true c4
 have c4b1 : decide (((l0_0.length : Int) : Int).toNat ≤ 281474976710656) = true := decide_eq_true c4
 clear c4
 obtain ⟨y243, hy243⟩ : ∃ y_ : List Bool, y_ = (List.replicate ((l0_0.length : Int) : Int).toNat false) := ⟨_, rfl⟩
 replace H : (impl_Tree_productive.l0 k t240 (t240.length : Int) 0 l0_0 y243) = some r := by first | (rw [hy243]; with_reducible exact H) | (have H2_ := (Option.bind_some _ _).symm.trans H; rw [hy243]; with_reducible exact H2_) | (have H2_ := (Option.bind_some _ _).symm.trans H; with_reducible exact H2_) | with_reducible exact H | (rw [hy243]; exact H) | exact H
 have Ny243 := aM69_ hy243
 clear hy243
 have H' := aM69_ H
 clear H
 go_enter Try.func69, Try.ntmps69
 go_wp2_with (first | ((with_reducible refine gate_dst (N := 1) rfl ?_); refine box_event ?hg (N := 1) ?hd (cs := #[.slice A0_0 l0_0.length c0_0]) (t := 24) ?hr ?_; (case hd => rfl); (case hg => rfl); (case hr => first | (go_simp; done) | (go_simp; rfl)); intro gb239 hg w5 hbox hb; have n0_ := aM69_ (below_step q69x5_ hb); have n1_ := aM69_ (hbox); have n2_ := aM69_ ((by rw [hg]; exact (below_size q69x5_) : w.heap.size ≤ gb239)); have n3_ := aM69_ ((by rw [hg]; exact (below_size q69x5_) : w.heap.size ≤ gb239)); clear HB; have HB := n0_; have BK239 := n1_; have GW239 := n2_; have GE239 := n3_; clear n0_ n1_ n2_ n3_; clear hb hbox hg; have hcz6_0 : w5.cell? ⟨gb239, 0, none⟩ = some (.slice A0_0 l0_0.length c0_0) := (blk_cell BK239.out 0).trans rfl; have hfz6_0 := blk_frozen BK239.out 0) | ((with_reducible refine gate_callee (f := 101) rfl ?_); refine goesL_ (some 9) rfl rfl Try.func101 (by kernel_rfl) rfl #[.agg #[.slice A0_0 l0_0.length c0_0]] rfl q69x4_ ?_; (with_reducible refine (impl_Tree_found.calls k _ _ l0_0 t240 _ ?side1 ?side2 A2.out).mono ?_); (case side1 => repeat (first | exact (Kd.C_below HR0_0.out HB.out) | (with_reducible refine Kd.C_alloc ?_ _) | (with_reducible refine Kd.C_drewN ?_ _) | (with_reducible refine Kd.C_drew ?_))); (case side2 => exact HC0_0.out); rintro e w7 ⟨v241, rfl, ho0, hb⟩; refine ⟨_, rfl, ?_⟩; have n0_ := aM69_ (Kd.R_lower ho0 (below_size q69x1_)); have n1_ := aM69_ (blk_below (g := gb239) (o := .cells #[.slice A0_0 l0_0.length c0_0] 24 (0, 0)) q69x3_ hb); have n2_ := aM69_ (below_step q69x1_ hb); clear BK239; clear HB; have HO242 := n0_; have BK239 := n1_; have HB := n2_; clear n0_ n1_ n2_; (try clear hb); (try clear hb2); (try clear hk); (try clear hi); (try clear ho0); have hcz8_0 : w7.cell? ⟨gb239, 0, none⟩ = some (.slice A0_0 l0_0.length c0_0) := (blk_cell BK239.out 0).trans rfl; have hfz8_0 := blk_frozen BK239.out 0) | ((with_reducible refine gate_dst (N := 13) rfl ?_); refine Kd.R_make Kd.bool _ 4 rfl (N := 13) rfl 134 _ _ rfl (l0_0.length : Int) rfl rfl Try.underlying134 (.bool false) 1 info4 rfl (by decide) (by omega) false (ok := fun _ => True) (okp := fun _ => True) rfl (fun _ hk => hk) trivial (of_decide_eq_true q69x2_) (Nat.le_trans (Nat.mul_le_mul_right _ (of_decide_eq_true q69x2_ : (l0_0.length : Int).toNat ≤ 281474976710656)) (by omega)) (Below.refl _ _) (Nat.le_refl _) ?_; intro v244 w9 ho10 hb hg_ hnew_; clear hg_ hnew_; (first | rw [← Ny243.out] at ho10 | (simp only [Int.reduceToNat] at ho10; rw [← Ny243.out] at ho10)); have n0_ := aM69_ (Kd.R_below (by (with_reducible repeat (first | apply Kd.R_alloc | apply Kd.R_drewN | apply Kd.R_drew)); exact HO242.out) hb); have n1_ := aM69_ (Kd.R_lower ho10 (below_size q69x1_)); have n2_ := aM69_ (blk_below (g := gb239) (o := .cells #[.slice A0_0 l0_0.length c0_0] 24 (0, 0)) q69x3_ hb); have n3_ := aM69_ (below_step q69x1_ hb); clear HO242; clear BK239; clear HB; have HO242 := n0_; have HO245 := n1_; have BK239 := n2_; have HB := n3_; clear n0_ n1_ n2_ n3_; clear hb ho10) | ((with_reducible refine gate_dst (N := 4) rfl ?_); refine box_event ?hg (N := 4) ?hd (cs := #[.slice none 0 0]) (t := 134) ?hr ?_; (case hd => rfl); (case hg => rfl); (case hr => first | (go_simp; done) | (go_simp; rfl)); intro gb246 hg w11 hbox hb; have n0_ := aM69_ (Kd.R_below (by (with_reducible repeat (first | apply Kd.R_alloc | apply Kd.R_drewN | apply Kd.R_drew)); exact HO242.out) hb); have n1_ := aM69_ (Kd.R_below (by (with_reducible repeat (first | apply Kd.R_alloc | apply Kd.R_drewN | apply Kd.R_drew)); exact HO245.out) hb); have n2_ := aM69_ (blk_below (g := gb239) (o := .cells #[.slice A0_0 l0_0.length c0_0] 24 (0, 0)) q69x3_ hb); have n3_ := aM69_ (below_step q69x1_ hb); have n4_ := aM69_ (hbox); have n5_ := aM69_ ((by rw [hg]; exact (below_size q69x1_) : w.heap.size ≤ gb246)); have n6_ := aM69_ ((by rw [hg]; exact (below_size q69x1_) : w.heap.size ≤ gb246)); have n7_ := aM69_ ((by rw [hg]; exact Nat.ne_of_lt (blk_lt (g := gb239) (o := .cells #[.slice A0_0 l0_0.length c0_0] 24 (0, 0)) q69x3_) : gb239 ≠ gb246)); have n8_ := aM69_ ((by rw [hg]; exact Nat.ne_of_gt (blk_lt (g := gb239) (o := .cells #[.slice A0_0 l0_0.length c0_0] 24 (0, 0)) q69x3_) : gb246 ≠ gb239)); clear HO242; clear HO245; clear BK239; clear HB; have HO242 := n0_; have HO245 := n1_; have BK239 := n2_; have HB := n3_; have BK246 := n4_; have GW246 := n5_; have GE246 := n6_; have NB239_246 := n7_; have NB246_239 := n8_; clear n0_ n1_ n2_ n3_ n4_ n5_ n6_ n7_ n8_; clear hb hbox hg; obtain ⟨Ao12, co12, eo12⟩ := Kd.R_slice HO245.out; subst eo12; have hnb13 := NB246_239.out; have hnc13 := NB239_246.out; have hcz14_0 : w11.cell? ⟨gb246, 0, none⟩ = some (.slice none 0 0) := (blk_cell BK246.out 0).trans rfl; have hfz14_0 := blk_frozen BK246.out 0; obtain ⟨Ao15, co15, eo15⟩ := Kd.R_slice HO242.out; subst eo15))
 go_loopg [16] k (fun kq v16 w' => ∃ (x16_1 : Int) (x247000_1 : List Bool) (u247000 : Value), v16 = .int .i64 x16_1 ∧ Aside0 (impl_Tree_productive.l0 kq t240 (t240.length : Int) x16_1 l0_0 x247000_1 = some r) ∧ Aside0 (kq ≤ k) ∧ Aside0 (Kd.R (Kd.int .i16) 74 w' w.heap.size (fun _ => True) (.slice Ao15 t240.length co15) t240) ∧ Aside0 (Kd.R Kd.bool 4 w' w.heap.size (fun _ => True) u247000 x247000_1) ∧ Aside0 (w'.heap[gb239]? = some (.cells #[(.slice A0_0 l0_0.length c0_0)] 24 (0, 0))) ∧ Aside0 (w'.heap[gb246]? = some (.cells #[u247000] 134 (0, 0))) ∧ Aside0 (Below w.heap.size w w'))
 case atStart => exact ⟨(0), (y243), (.slice Ao12 y243.length co12), q69x6_, H', ⟨Nat.le_refl _⟩, ⟨by (with_reducible repeat (first | apply Kd.R_alloc | apply Kd.R_drewN | apply Kd.R_drew)); exact Kd.R_mono (Kd.R_far (p := ⟨gb246, 0, none⟩) (Kd.R_types HO242.out BK246.out (by decide)) (fun _ hk => hk.2) (.slice Ao12 y243.length co12)) (fun _ hk => trivial)⟩, ⟨by (with_reducible repeat (first | apply Kd.R_alloc | apply Kd.R_drewN | apply Kd.R_drew)); exact Kd.R_mono (Kd.R_far (p := ⟨gb246, 0, none⟩) (Kd.R_types HO245.out BK246.out (by decide)) (fun _ hk => hk.2) (.slice Ao12 y243.length co12)) (fun _ hk => trivial)⟩, ⟨by (with_reducible repeat (first | refine blk_drewN ?_ _ | refine blk_drew ?_ | refine blk_alloc ?_ _)); refine blk_far ?_ NB239_246.out _; (with_reducible repeat (first | refine blk_drewN ?_ _ | refine blk_drew ?_ | refine blk_alloc ?_ _)); exact BK239.out⟩, ⟨by (with_reducible repeat (first | refine blk_drewN ?_ _ | refine blk_drew ?_ | refine blk_alloc ?_ _)); refine blk_put (cs := #[.slice none 0 0]) ?_ 0 _ rfl; (with_reducible repeat (first | refine blk_drewN ?_ _ | refine blk_drew ?_ | refine blk_alloc ?_ _)); exact BK246.out⟩, ⟨by repeat (first | (with_reducible first | exact HB.out | apply below_alloc | apply pw_below_drewN | apply below_drew1 | refine below_set ?_ GE239.out | refine below_set ?_ GE246.out) | exact HB.out)⟩⟩
 case round =>
  clear H'
  try clear c1
  try clear p2
  try clear c3
  try clear c3b0
  try clear c3b1
  try clear c4
  try clear c4b0
  try clear c4b1
  try clear c6
  try clear c10
  try clear c13
  try clear hcz14_0
  try clear hcz6_0
  try clear hcz8_0
  try clear hfz14_0
  try clear hfz6_0
  try clear hfz8_0
  obtain ⟨x16_1, x247000_1, u247000, rfl, HA, HK1, HO_3, HO_247000, BK239, BK246, HB⟩ := hrel
  cases gk with
  | zero => exact absurd HA.out (by simp [impl_Tree_productive.l0])
  | succ k1 =>
   have H := HA.out
   clear HA
   simp only [impl_Tree_productive.l0] at H
   by_cases c16 : x16_1 < (t240.length : Int)
   rotate_left
   ·rw [if_neg c16] at H
    have c16b0 : decide (x16_1 < (t240.length : Int)) = false := decide_eq_false c16
    clear c16
    by_cases c38 : 0 < (x247000_1.length : Int)
    rotate_left
    ·rw [if_neg c38] at H
     exact absurd H (by simp)
    rw [if_pos c38] at H
    have c38b0 : decide (0 < (x247000_1.length : Int)) = true := decide_eq_true c38
    have c38b1 : decide (0 < x247000_1.length) = true := decide_eq_true (by omega)
    clear c38
    obtain ⟨bq39, hbq39⟩ : ∃ b_ : Bool, b_ = (rdOf false x247000_1 0) := ⟨_, rfl⟩
    replace H : (if bq39 = true then ((slices_ContainsFunc_int16_int16_c105_4.f k1 t240 x247000_1).bind fun t248 => (some (!t248))) else (some false)) = some r := by rw [← hbq39] at H; exact H
    have Nbq39 := aM69_ hbq39
    clear hbq39
    by_cases c40 : bq39 = true
    rotate_left
    ·replace c40 := Bool.eq_false_iff.mpr c40
     subst c40
     have H1 : (some false) = some r := by rw [if_neg (show ¬ (false = true) by decide)] at H; exact H
     clear H
     have H := H1
     clear H1
     obtain rfl := Option.some.inj H
     have hnb45 := NB246_239.out
     have hnc45 := NB239_246.out
     have hcz46_0 : wr.cell? ⟨gb246, 0, none⟩ = some (u247000) := (blk_cell BK246.out 0).trans rfl
     have hfz46_0 := blk_frozen BK246.out 0
     obtain ⟨Ao47, co47, eo47⟩ := Kd.R_slice HO_247000.out
     subst eo47
     have p247 : 0 ≤ (0 : Int) := (by omega)
     have q247 : 0 < (x247000_1.length : Int) := of_decide_eq_true q69x2_
     obtain ⟨ad247, e247, hx247_0⟩ := Kd.at_bool (Kd.R_reads' HO_247000.out).2.2 0 p247 q247
     (try rw [← Nbq39.out] at hx247_0)
     cases e247
     have qi247 : (0 < x247000_1.length) = True := eq_true (by omega)
     (try rw [show ((0 : Int)).toNat = 0 from rfl] at hx247_0)
     (try rw [Addr.add_zero'] at hx247_0)
     replace p247 := eq_true p247
     replace q247 := eq_true q247
     go_wp2
     go_ret
     exact ⟨by first | rfl | (simp [errW_none, errW_some] <;> rfl) | (simp [*, errW_none, errW_some] <;> rfl), by repeat (first | (with_reducible first | exact HB.out | apply below_alloc | apply pw_below_drewN | apply below_drew1 | refine below_set ?_ GE239.out | refine below_set ?_ GE246.out) | exact HB.out)⟩
    subst c40
    have H1 : ((slices_ContainsFunc_int16_int16_c105_4.f k1 t240 x247000_1).bind fun t248 => (some (!t248))) = some r := by rw [if_pos rfl] at H; exact H
    clear H
    have H := H1
    clear H1
    replace H := Option.bind_eq_some_iff.mp H
    obtain ⟨t248, A410, H⟩ := H
    replace H : (some (!t248)) = some r := H
    have A41 := aM69_ A410
    clear A410
    obtain rfl := Option.some.inj H
    have hnb42 := NB246_239.out
    have hnc42 := NB239_246.out
    have hcz43_0 : wr.cell? ⟨gb246, 0, none⟩ = some (u247000) := (blk_cell BK246.out 0).trans rfl
    have hfz43_0 := blk_frozen BK246.out 0
    obtain ⟨Ao44, co44, eo44⟩ := Kd.R_slice HO_247000.out
    subst eo44
    have p247 : 0 ≤ (0 : Int) := (by omega)
    have q247 : 0 < (x247000_1.length : Int) := of_decide_eq_true q69x2_
    obtain ⟨ad247, e247, hx247_0⟩ := Kd.at_bool (Kd.R_reads' HO_247000.out).2.2 0 p247 q247
    (try rw [← Nbq39.out] at hx247_0)
    cases e247
    have qi247 : (0 < x247000_1.length) = True := eq_true (by omega)
    (try rw [show ((0 : Int)).toNat = 0 from rfl] at hx247_0)
    (try rw [Addr.add_zero'] at hx247_0)
    replace p247 := eq_true p247
    replace q247 := eq_true q247
    go_wp2_with (first | (go_at_call 102; (with_reducible refine (slices_ContainsFunc_int16_int16_c105_4.calls k1 _ _ t240 gb246 0 (some ad247) co44 x247000_1 t248 _ ?side1 ?side2 ?side3 ?side4 ?side5 A41.out).mono ?_); (case side1 => repeat (first | exact (Kd.R_reads' HO_3.out).2.2 | (with_reducible refine Kd.C_alloc ?_ _) | (with_reducible refine Kd.C_drewN ?_ _) | (with_reducible refine Kd.C_drew ?_))); (case side2 => exact (Kd.R_reads' HO_3.out).2.1); (case side3 => repeat (first | exact (Kd.R_reads' HO_247000.out).2.2 | (with_reducible refine Kd.C_alloc ?_ _) | (with_reducible refine Kd.C_drewN ?_ _) | (with_reducible refine Kd.C_drew ?_))); (case side4 => exact (Kd.R_reads' HO_247000.out).2.1); (case side5 => exact (blk_cell (g := gb246) (t := 134) (cs := #[.slice (some ad247) x247000_1.length co44]) (by (with_reducible repeat (first | refine blk_drewN ?_ _ | refine blk_drew ?_ | refine blk_alloc ?_ _)); exact BK246.out) 0).trans rfl); rintro e w' ⟨rfl, ⟨nd, rfl⟩⟩))
    go_ret
    exact ⟨by first | rfl | (simp [errW_none, errW_some] <;> rfl) | (simp [*, errW_none, errW_some] <;> rfl), by repeat (first | (with_reducible first | exact HB.out | apply below_alloc | apply pw_below_drewN | apply below_drew1 | refine below_set ?_ GE239.out | refine below_set ?_ GE246.out) | exact HB.out)⟩
   rw [if_pos c16] at H
   have c16b0 : decide (x16_1 < (t240.length : Int)) = true := decide_eq_true c16
   clear c16
   have H' := aM69_ H
   clear H
   go_wp2
   go_loopg [20] k1 (fun kq v20 w' => ∃ (x20_2 : Int) (x247000_2 : List Bool) (u247000 : Value), v20 = .int .i64 x20_2 ∧ Aside0 (impl_Tree_productive.l1 kq t240 (t240.length : Int) x16_1 t240 (t240.length : Int) x20_2 l0_0 x247000_2 = some r) ∧ Aside0 (kq ≤ k1) ∧ Aside0 (Kd.R (Kd.int .i16) 74 w' w.heap.size (fun _ => True) (.slice Ao15 t240.length co15) t240) ∧ Aside0 (Kd.R (Kd.int .i16) 74 w' w.heap.size (fun _ => True) (.slice Ao15 t240.length co15) t240) ∧ Aside0 (Kd.R Kd.bool 4 w' w.heap.size (fun _ => True) u247000 x247000_2) ∧ Aside0 (w'.heap[gb239]? = some (.cells #[(.slice A0_0 l0_0.length c0_0)] 24 (0, 0))) ∧ Aside0 (w'.heap[gb246]? = some (.cells #[u247000] 134 (0, 0))) ∧ Aside0 (Below w.heap.size w w'))
   case atStart => exact ⟨(0), (x247000_1), (u247000), q69x6_, H', ⟨Nat.le_refl _⟩, ⟨by (with_reducible repeat (first | apply Kd.R_alloc | apply Kd.R_drewN | apply Kd.R_drew)); exact HO_3.out⟩, ⟨by (with_reducible repeat (first | apply Kd.R_alloc | apply Kd.R_drewN | apply Kd.R_drew)); exact HO_3.out⟩, ⟨by (with_reducible repeat (first | apply Kd.R_alloc | apply Kd.R_drewN | apply Kd.R_drew)); exact HO_247000.out⟩, ⟨by (with_reducible repeat (first | refine blk_drewN ?_ _ | refine blk_drew ?_ | refine blk_alloc ?_ _)); exact BK239.out⟩, ⟨by (with_reducible repeat (first | refine blk_drewN ?_ _ | refine blk_drew ?_ | refine blk_alloc ?_ _)); exact BK246.out⟩, ⟨by repeat (first | (with_reducible first | exact HB.out | apply below_alloc | apply pw_below_drewN | apply below_drew1 | refine below_set ?_ GE239.out | refine below_set ?_ GE246.out) | exact HB.out)⟩⟩
   case round =>
    clear H'
    try clear c1
    try clear p2
    try clear c3
    try clear c3b0
    try clear c3b1
    try clear c4
    try clear c4b0
    try clear c4b1
    try clear c6
    try clear c10
    try clear c13
    try clear c16
    try clear c16b0
    try clear hcz14_0
    try clear hcz6_0
    try clear hcz8_0
    try clear hfz14_0
    try clear hfz6_0
    try clear hfz8_0
    try clear p2
    obtain ⟨x20_2, x247000_2, u247000, rfl, HA, HK2, HO_3, HO_18, HO_247000, BK239, BK246, HB⟩ := hrel
    cases gk with
    | zero => exact absurd HA.out (by simp [impl_Tree_productive.l1])
    | succ k2 =>
     have H := HA.out
     clear HA
     simp only [impl_Tree_productive.l1] at H
     by_cases c17 : x20_2 < (t240.length : Int)
     rotate_left
     ·rw [if_neg c17] at H
      have c17b0 : decide (x20_2 < (t240.length : Int)) = false := decide_eq_false c17
      clear c17
      have H' := aM69_ H
      clear H
      go_wp2
      go_roundg k2
      case measure => have := HK1.out; have := HK2.out; omega
      case rel => exact ⟨(wrap64 (x16_1 + 1)), (x247000_2), (u247000), q69x6_, H', ⟨by have := HK1.out; have := HK2.out; omega⟩, ⟨by (with_reducible repeat (first | apply Kd.R_alloc | apply Kd.R_drewN | apply Kd.R_drew)); exact HO_3.out⟩, ⟨by (with_reducible repeat (first | apply Kd.R_alloc | apply Kd.R_drewN | apply Kd.R_drew)); exact HO_247000.out⟩, ⟨by (with_reducible repeat (first | refine blk_drewN ?_ _ | refine blk_drew ?_ | refine blk_alloc ?_ _)); exact BK239.out⟩, ⟨by (with_reducible repeat (first | refine blk_drewN ?_ _ | refine blk_drew ?_ | refine blk_alloc ?_ _)); exact BK246.out⟩, ⟨by repeat (first | (with_reducible first | exact HB.out | apply below_alloc | apply pw_below_drewN | apply below_drew1 | refine below_set ?_ GE239.out | refine below_set ?_ GE246.out) | exact HB.out)⟩⟩
     rw [if_pos c17] at H
     have c17b0 : decide (x20_2 < (t240.length : Int)) = true := decide_eq_true c17
     clear c17
     by_cases c18 : 0 ≤ x20_2
     rotate_left
     ·rw [if_neg c18] at H
      exact absurd H (by simp)
     rw [if_pos c18] at H
     have c18b0 : decide (0 ≤ x20_2) = true := decide_eq_true c18
     clear c18
     have c19 : x20_2 < (t240.length : Int) := of_decide_eq_true c17b0
     rw [if_pos c19] at H
     clear c19
     by_cases c20 : 0 ≤ (rd t240 x20_2)
     rotate_left
     ·rw [if_neg c20] at H
      exact absurd H (by simp)
     rw [if_pos c20] at H
     have c20b0 : decide (0 ≤ (rd t240 x20_2)) = true := decide_eq_true c20
     clear c20
     by_cases c21 : (rd t240 x20_2) < (l0_0.length : Int)
     rotate_left
     ·rw [if_neg c21] at H
      exact absurd H (by simp)
     rw [if_pos c21] at H
     have c21b0 : decide ((rd t240 x20_2) < (l0_0.length : Int)) = true := decide_eq_true c21
     clear c21
     by_cases c22 : ((rd_T77 l0_0 (rd t240 x20_2)).f0) = 2
     ·rw [if_pos c22] at H
      have c22b0 : (((rd_T77 l0_0 (rd t240 x20_2)).f0) == 2) = true := beq_iff_eq.mpr c22
      have c22b1 : (((rd_T77 l0_0 (rd t240 x20_2)).f0) != 2) = false := bne_eq_false_iff_eq.mpr c22
      clear c22
      by_cases c23 : (rd t240 x20_2) < (x247000_2.length : Int)
      rotate_left
      ·rw [if_neg c23] at H
       exact absurd H (by simp)
      rw [if_pos c23] at H
      have c23b0 : decide ((rd t240 x20_2) < (x247000_2.length : Int)) = true := decide_eq_true c23
      clear c23
      obtain ⟨y252, hy252⟩ : ∃ y_ : List Bool, y_ = (x247000_2.set ((rd t240 x20_2) : Int).toNat true) := ⟨_, rfl⟩
      replace H : (impl_Tree_productive.l1 k2 t240 (t240.length : Int) x16_1 t240 (t240.length : Int) (wrap64 (x20_2 + 1)) l0_0 y252) = some r := by first | (rw [hy252]; with_reducible exact H) | (have H2_ := (Option.bind_some _ _).symm.trans H; rw [hy252]; with_reducible exact H2_) | (have H2_ := (Option.bind_some _ _).symm.trans H; with_reducible exact H2_) | with_reducible exact H | (rw [hy252]; exact H) | exact H
      have Ny252 := aM69_ hy252
      clear hy252
      have H' := aM69_ H
      clear H
      have p249 : 0 ≤ (x20_2 : Int) := of_decide_eq_true q69x2_
      have q249 : x20_2 < (t240.length : Int) := of_decide_eq_true q69x2_
      obtain ⟨ad249, e249, hx249_0⟩ := Kd.at_int (Kd.R_reads' HO_18.out).2.2 x20_2 p249 q249
      cases e249
      replace p249 := eq_true p249
      replace q249 := eq_true q249
      have hnb25 := NB239_246.out
      have hnc25 := NB246_239.out
      have hcz26_0 : wr.cell? ⟨gb239, 0, none⟩ = some (.slice A0_0 l0_0.length c0_0) := (blk_cell BK239.out 0).trans rfl
      have hfz26_0 := blk_frozen BK239.out 0
      have p250 : 0 ≤ ((rd t240 x20_2) : Int) := of_decide_eq_true q69x2_
      have q250 : (rd t240 x20_2) < (l0_0.length : Int) := of_decide_eq_true q69x2_
      obtain ⟨ad250, e250, hx250_0, hx250_1, hx250_2, hx250_3, hx250_4⟩ := at_T77 HR0_0.out (rd t240 x20_2) p250 q250
      cases e250
      replace hx250_0 := (HB.out.cell (World.block_lt_of_cell? w _ hx250_0)).trans hx250_0
      replace hx250_1 := (HB.out.cell (World.block_lt_of_cell? w _ hx250_1)).trans hx250_1
      replace hx250_2 := (HB.out.cell (World.block_lt_of_cell? w _ hx250_2)).trans hx250_2
      replace hx250_3 := (HB.out.cell (World.block_lt_of_cell? w _ hx250_3)).trans hx250_3
      replace hx250_4 := (HB.out.cell (World.block_lt_of_cell? w _ hx250_4)).trans hx250_4
      replace p250 := eq_true p250
      replace q250 := eq_true q250
      try go_wp2
      have n0_ := aM69_ (Kd.R_drew HO_3.out)
      have n1_ := aM69_ (Kd.R_drew HO_18.out)
      have n2_ := aM69_ (Kd.R_drew HO_247000.out)
      have n3_ := aM69_ (blk_drew BK239.out)
      have n4_ := aM69_ (blk_drew BK246.out)
      have n5_ := aM69_ (below_drew1 HB.out)
      clear HO_3 HO_18 HO_247000 BK239 BK246 HB
      have HO_3 := n0_
      have HO_18 := n1_
      have HO_247000 := n2_
      have BK239 := n3_
      have BK246 := n4_
      have HB := n5_
      clear n0_ n1_ n2_ n3_ n4_ n5_
      have p251 : 0 ≤ ((rd t240 x20_2) : Int) := of_decide_eq_true q69x2_
      have q251 : (rd t240 x20_2) < (l0_0.length : Int) := of_decide_eq_true q69x2_
      obtain ⟨ad251, e251, hx251_0, hx251_1, hx251_2, hx251_3, hx251_4⟩ := at_T77 HR0_0.out (rd t240 x20_2) p251 q251
      have hw251_4 := hx251_4
      have hw251_3 := hx251_3
      have hw251_2 := hx251_2
      have hw251_1 := hx251_1
      have hw251_0 := hx251_0
      obtain rfl : ad250 = ad251 := (by injection e251)
      replace hx251_0 := (HB.out.cell (World.block_lt_of_cell? w _ hx251_0)).trans hx251_0
      replace hx251_1 := (HB.out.cell (World.block_lt_of_cell? w _ hx251_1)).trans hx251_1
      replace hx251_2 := (HB.out.cell (World.block_lt_of_cell? w _ hx251_2)).trans hx251_2
      replace hx251_3 := (HB.out.cell (World.block_lt_of_cell? w _ hx251_3)).trans hx251_3
      replace hx251_4 := (HB.out.cell (World.block_lt_of_cell? w _ hx251_4)).trans hx251_4
      replace p251 := eq_true p251
      replace q251 := eq_true q251
      have p24 : 0 ≤ ((rd t240 x20_2) : Int) := of_decide_eq_true q69x2_
      have q24 : ((rd t240 x20_2) : Int) < ((x247000_2.length : Int) : Int) := of_decide_eq_true q69x2_
      obtain ⟨go24, co24, eo24, gb24, gl24, cl24, HG24⟩ := Kd.R_form HO_247000.out (by omega)
      (first | cases eo24 | (injection eo24 with ea_ en_ ec_; (first | subst ea_ | (injection ea_ with ea_; subst ea_)); subst ec_; clear en_))
      have GB24 := aM69_ gb24
      have GG24 := aM69_ HG24
      clear gb24 gl24 HG24
      obtain ⟨hx24_0, hf24_0⟩ := Kd.R_celln false HO_247000.out ((rd t240 x20_2) : Int) p24 q24
      replace p24 := eq_true p24
      replace q24 := eq_true q24
      have HP28 := Kd.R_putn HO_247000.out ((rd t240 x20_2) : Int) true
      rw [← Ny252.out] at HP28
      have HQ28 := aM69_ HP28
      clear HP28
      refine start_ (n := 16) (S := fun w' => w'.cell? ⟨gb246, 0, none⟩ = some (.slice (some ⟨go24, 0, none⟩) x247000_2.length co24) ∧ w'.cell? (ad250.add (((rd t240 x20_2)).toNat * 5)) = some (.int .i8 ((rd_T77 l0_0 (rd t240 x20_2)).f0)) ∧ w'.cell? ⟨(ad250.add (((rd t240 x20_2)).toNat * 5)).block, (ad250.add (((rd t240 x20_2)).toNat * 5)).off + 1, none⟩ = some (.int .i8 ((rd_T77 l0_0 (rd t240 x20_2)).f1)) ∧ w'.cell? ⟨(ad250.add (((rd t240 x20_2)).toNat * 5)).block, (ad250.add (((rd t240 x20_2)).toNat * 5)).off + 2, none⟩ = some (.int .i16 ((rd_T77 l0_0 (rd t240 x20_2)).f2.f0)) ∧ w'.cell? ⟨(ad250.add (((rd t240 x20_2)).toNat * 5)).block, (ad250.add (((rd t240 x20_2)).toNat * 5)).off + 3, none⟩ = some (.int .i16 ((rd_T77 l0_0 (rd t240 x20_2)).f2.f1)) ∧ w'.cell? ⟨(ad250.add (((rd t240 x20_2)).toNat * 5)).block, (ad250.add (((rd t240 x20_2)).toNat * 5)).off + 4, none⟩ = some (.int .i16 ((rd_T77 l0_0 (rd t240 x20_2)).f2.f2))) (ds := [15]) #[false, false, false, false, false, false, false, false, false, false, false, false, false, false, false, false] (by kernel_rfl) rfl rfl ⟨(blk_cell BK246.out 0).trans rfl, ((HB.out.cell (World.block_lt_of_cell? w _ hw251_0)).trans hw251_0), ((HB.out.cell (World.block_lt_of_cell? w _ hw251_1)).trans hw251_1), ((HB.out.cell (World.block_lt_of_cell? w _ hw251_2)).trans hw251_2), ((HB.out.cell (World.block_lt_of_cell? w _ hw251_3)).trans hw251_3), ((HB.out.cell (World.block_lt_of_cell? w _ hw251_4)).trans hw251_4)⟩ (fun hHeld => ?_); refine with_tabW impl_Tree_productive.tab9 impl_Tree_productive.bits9 (fun HT_ HW_ => ?_)
      generalize wr.drew = w27 at HO_3 HO_18 HO_247000 BK239 BK246 HB GG24 HQ28 hf24_0 hx24_0 hx251_0 hx251_1 hx251_2 hx251_3 hx251_4 hHeld ⊢
      refine pure_ (i := 1) (N := some 29) (v := ?_) (a' := ?_) #[false, true, false, false, false, false, false, false, false, false, false, false, false, false, false, false] rfl rfl (any_of HT_.out (by kernel_rfl)) (fun _ _ _ h => h) (Or.inl ⟨by rfl, ?_⟩) ?_ ?_
      rotate_left
      ·exact q69x7_
      rotate_left
      ·exact q69x8_
      refine pure_ (i := 2) (N := some 30) (v := ?_) (a' := ?_) #[false, true, true, false, false, false, false, false, false, false, false, false, false, false, false, false] rfl rfl (any_of HT_.out (by kernel_rfl)) (fun _ _ _ h => h) (Or.inl ⟨by rfl, ?_⟩) ?_ ?_
      rotate_left
      ·exact q69x7_
      rotate_left
      ·exact q69x8_
      refine pure_ (i := 3) (N := some 31) (v := ?_) (a' := ?_) #[false, true, true, true, false, false, false, false, false, false, false, false, false, false, false, false] rfl rfl (any_of HT_.out (by kernel_rfl)) (fun _ _ _ h => h) (Or.inl ⟨by rfl, ?_⟩) ?_ ?_
      rotate_left
      ·exact q69x7_
      rotate_left
      ·exact q69x8_
      refine pure_ (i := 4) (N := some 32) (v := ?_) (a' := ?_) #[false, true, true, true, true, false, false, false, false, false, false, false, false, false, false, false] rfl rfl (any_of HT_.out (by kernel_rfl)) (fun _ _ _ h => h) (Or.inl ⟨by rfl, ?_⟩) ?_ ?_
      rotate_left
      ·exact q69x7_
      rotate_left
      ·exact q69x8_
      refine take_ (i := 0) (N := some 28) (v := ?_) (a' := ?_) #[true, true, true, true, true, false, false, false, false, false, false, false, false, false, false, false] rfl rfl (take_ofW HT_.out HW_.out (by kernel_rfl)) (fun _ _ _ h => h) (Or.inl ⟨by rfl, ?_⟩) hHeld ?_ ?_
      rotate_left
      ·exact q69x9_
      rotate_left
      ·exact q69x8_
      refine take_ (i := 5) (N := some 33) (v := ?_) (a' := ?_) #[true, true, true, true, true, true, false, false, false, false, false, false, false, false, false, false] rfl rfl (take_ofW HT_.out HW_.out (by kernel_rfl)) (fun _ _ _ h => h) (Or.inl ⟨by rfl, ?_⟩) hHeld ?_ ?_
      rotate_left
      ·exact q69x9_
      rotate_left
      ·exact q69x8_
      refine pure_ (i := 6) (N := some 34) (v := ?_) (a' := ?_) #[true, true, true, true, true, true, true, false, false, false, false, false, false, false, false, false] rfl rfl (any_of HT_.out (by kernel_rfl)) (fun _ _ _ h => h) (Or.inl ⟨by rfl, ?_⟩) ?_ ?_
      rotate_left
      ·exact q69x7_
      rotate_left
      ·exact q69x8_
      refine pure_ (i := 7) (N := some 35) (v := ?_) (a' := ?_) #[true, true, true, true, true, true, true, true, false, false, false, false, false, false, false, false] rfl rfl (any_of HT_.out (by kernel_rfl)) (fun _ _ _ h => h) (Or.inl ⟨by rfl, ?_⟩) ?_ ?_
      rotate_left
      ·exact q69x7_
      rotate_left
      ·exact q69x8_
      refine pure_ (i := 8) (N := some 36) (v := undef) (a' := ?_) #[true, true, true, true, true, true, true, true, true, false, false, false, false, false, false, false] rfl rfl (any_of HT_.out (by kernel_rfl)) (fun _ _ _ h => h) (Or.inr ⟨by rfl, rfl⟩) ?_ ?_
      rotate_left
      ·exact q69x8_
      refine pure_ (i := 9) (N := some 37) (v := undef) (a' := ?_) #[true, true, true, true, true, true, true, true, true, true, false, false, false, false, false, false] rfl rfl (any_of HT_.out (by kernel_rfl)) (fun _ _ _ h => h) (Or.inr ⟨by rfl, rfl⟩) ?_ ?_
      rotate_left
      ·exact q69x8_
      refine pure_ (i := 10) (N := some 38) (v := undef) (a' := ?_) #[true, true, true, true, true, true, true, true, true, true, true, false, false, false, false, false] rfl rfl (any_of HT_.out (by kernel_rfl)) (fun _ _ _ h => h) (Or.inr ⟨by rfl, rfl⟩) ?_ ?_
      rotate_left
      ·exact q69x8_
      refine pure_ (i := 11) (N := some 39) (v := undef) (a' := ?_) #[true, true, true, true, true, true, true, true, true, true, true, true, false, false, false, false] rfl rfl (any_of HT_.out (by kernel_rfl)) (fun _ _ _ h => h) (Or.inr ⟨by rfl, rfl⟩) ?_ ?_
      rotate_left
      ·exact q69x8_
      refine pure_ (i := 12) (N := some 40) (v := undef) (a' := ?_) #[true, true, true, true, true, true, true, true, true, true, true, true, true, false, false, false] rfl rfl (any_of HT_.out (by kernel_rfl)) (fun _ _ _ h => h) (Or.inr ⟨by rfl, rfl⟩) ?_ ?_
      rotate_left
      ·exact q69x8_
      refine pure_ (i := 13) (N := some 41) (v := ?_) (a' := ?_) #[true, true, true, true, true, true, true, true, true, true, true, true, true, true, false, false] rfl rfl (any_of HT_.out (by kernel_rfl)) (fun _ _ _ h => h) (Or.inl ⟨by rfl, ?_⟩) ?_ ?_
      rotate_left
      ·exact q69x7_
      rotate_left
      ·exact q69x8_
      refine pure_ (i := 14) (N := some 42) (v := ?_) (a' := ?_) #[true, true, true, true, true, true, true, true, true, true, true, true, true, true, true, false] rfl rfl (any_of HT_.out (by kernel_rfl)) (fun _ _ _ h => h) (Or.inl ⟨by rfl, ?_⟩) ?_ ?_
      rotate_left
      ·exact q69x7_
      rotate_left
      ·exact q69x8_
      refine last_ (i := 15) (N := none) #[true, true, true, true, true, true, true, true, true, true, true, true, true, true, true, true] rfl rfl (one_of HT_.out (by kernel_rfl)) (by decide) (fun K hK => ?_)
      refine skip_ (w1 := ?_) (by rfl) rfl ?_ ?_
      rotate_left
      ·go_simp
       rfl
      refine hK.out _ _ ?_
      clear hK K
      refine done_ (done_of HT_.out (by kernel_rfl)) ?_
      try go_wp2
      go_roundg k2
      case measure => have := HK1.out; have := HK2.out; omega
      case rel => exact ⟨(wrap64 (x20_2 + 1)), (y252), (.slice (some ⟨go24, 0, none⟩) x247000_2.length co24), q69x6_, H', ⟨by have := HK1.out; have := HK2.out; omega⟩, ⟨by (with_reducible repeat (first | apply Kd.R_alloc | apply Kd.R_drewN | apply Kd.R_drew)); exact Kd.R_mono (Kd.R_far (p := ⟨go24, ((rd t240 x20_2) : Int).toNat, none⟩) (Kd.R_types HO_3.out GG24.out (by decide)) (fun _ hk => hk.2) (.bool true)) (fun _ hk => trivial)⟩, ⟨by (with_reducible repeat (first | apply Kd.R_alloc | apply Kd.R_drewN | apply Kd.R_drew)); exact Kd.R_mono (Kd.R_far (p := ⟨go24, ((rd t240 x20_2) : Int).toNat, none⟩) (Kd.R_types HO_18.out GG24.out (by decide)) (fun _ hk => hk.2) (.bool true)) (fun _ hk => trivial)⟩, ⟨by (with_reducible repeat (first | apply Kd.R_alloc | apply Kd.R_drewN | apply Kd.R_drew)); exact HQ28.out⟩, ⟨by (with_reducible repeat (first | refine blk_drewN ?_ _ | refine blk_drew ?_ | refine blk_alloc ?_ _)); refine blk_far ?_ (by have h_ := Kd.R_ne HO_247000.out BK239.out (by decide); intro e_; exact h_ (by rw [e_]; rfl)) _; (with_reducible repeat (first | refine blk_drewN ?_ _ | refine blk_drew ?_ | refine blk_alloc ?_ _)); exact BK239.out⟩, ⟨by (with_reducible repeat (first | refine blk_drewN ?_ _ | refine blk_drew ?_ | refine blk_alloc ?_ _)); refine blk_far ?_ (by have h_ := Kd.R_ne HO_247000.out BK246.out (by decide); intro e_; exact h_ (by rw [e_]; rfl)) _; (with_reducible repeat (first | refine blk_drewN ?_ _ | refine blk_drew ?_ | refine blk_alloc ?_ _)); exact BK246.out⟩, ⟨by repeat (first | (with_reducible first | exact HB.out | apply below_alloc | apply pw_below_drewN | apply below_drew1 | refine below_set ?_ GB24.out | refine below_set ?_ GE239.out | refine below_set ?_ GE246.out) | exact HB.out)⟩⟩
     rw [if_neg c22] at H
     have c22b0 : (((rd_T77 l0_0 (rd t240 x20_2)).f0) == 2) = false := beq_eq_false_iff_ne.mpr c22
     have c22b1 : (((rd_T77 l0_0 (rd t240 x20_2)).f0) != 2) = true := bne_iff_ne.mpr c22
     replace H := Option.bind_eq_some_iff.mp H
     obtain ⟨t253, A290, H⟩ := H
     replace H : ((slices_ContainsFunc_int16_int16_c104_2.f k2 t253 x247000_2).bind fun t255 => (if (rd t240 x20_2) < (x247000_2.length : Int) then (impl_Tree_productive.l1 k2 t240 (t240.length : Int) x16_1 t240 (t240.length : Int) (wrap64 (x20_2 + 1)) l0_0 (x247000_2.set ((rd t240 x20_2) : Int).toNat (!t255))) else (none))) = some r := H
     have A29 := aM69_ A290
     clear A290
     replace H := Option.bind_eq_some_iff.mp H
     obtain ⟨t255, A300, H⟩ := H
     replace H : (if (rd t240 x20_2) < (x247000_2.length : Int) then (impl_Tree_productive.l1 k2 t240 (t240.length : Int) x16_1 t240 (t240.length : Int) (wrap64 (x20_2 + 1)) l0_0 (x247000_2.set ((rd t240 x20_2) : Int).toNat (!t255))) else (none)) = some r := H
     have A30 := aM69_ A300
     clear A300
     by_cases c31 : (rd t240 x20_2) < (x247000_2.length : Int)
     rotate_left
     ·rw [if_neg c31] at H
      exact absurd H (by simp)
     rw [if_pos c31] at H
     have c31b0 : decide ((rd t240 x20_2) < (x247000_2.length : Int)) = true := decide_eq_true c31
     clear c31
     obtain ⟨y256, hy256⟩ : ∃ y_ : List Bool, y_ = (x247000_2.set ((rd t240 x20_2) : Int).toNat (!t255)) := ⟨_, rfl⟩
     replace H : (impl_Tree_productive.l1 k2 t240 (t240.length : Int) x16_1 t240 (t240.length : Int) (wrap64 (x20_2 + 1)) l0_0 y256) = some r := by first | (rw [hy256]; with_reducible exact H) | (have H2_ := (Option.bind_some _ _).symm.trans H; rw [hy256]; with_reducible exact H2_) | (have H2_ := (Option.bind_some _ _).symm.trans H; with_reducible exact H2_) | with_reducible exact H | (rw [hy256]; exact H) | exact H
     have Ny256 := aM69_ hy256
     clear hy256
     have H' := aM69_ H
     clear H
     have p249 : 0 ≤ (x20_2 : Int) := of_decide_eq_true q69x2_
     have q249 : x20_2 < (t240.length : Int) := of_decide_eq_true q69x2_
     obtain ⟨ad249, e249, hx249_0⟩ := Kd.at_int (Kd.R_reads' HO_18.out).2.2 x20_2 p249 q249
     cases e249
     replace p249 := eq_true p249
     replace q249 := eq_true q249
     have hnb33 := NB239_246.out
     have hnc33 := NB246_239.out
     have hcz34_0 : wr.cell? ⟨gb239, 0, none⟩ = some (.slice A0_0 l0_0.length c0_0) := (blk_cell BK239.out 0).trans rfl
     have hfz34_0 := blk_frozen BK239.out 0
     have p250 : 0 ≤ ((rd t240 x20_2) : Int) := of_decide_eq_true q69x2_
     have q250 : (rd t240 x20_2) < (l0_0.length : Int) := of_decide_eq_true q69x2_
     obtain ⟨ad250, e250, hx250_0, hx250_1, hx250_2, hx250_3, hx250_4⟩ := at_T77 HR0_0.out (rd t240 x20_2) p250 q250
     cases e250
     replace hx250_0 := (HB.out.cell (World.block_lt_of_cell? w _ hx250_0)).trans hx250_0
     replace hx250_1 := (HB.out.cell (World.block_lt_of_cell? w _ hx250_1)).trans hx250_1
     replace hx250_2 := (HB.out.cell (World.block_lt_of_cell? w _ hx250_2)).trans hx250_2
     replace hx250_3 := (HB.out.cell (World.block_lt_of_cell? w _ hx250_3)).trans hx250_3
     replace hx250_4 := (HB.out.cell (World.block_lt_of_cell? w _ hx250_4)).trans hx250_4
     replace p250 := eq_true p250
     replace q250 := eq_true q250
     try go_wp2
     have n0_ := aM69_ (Kd.R_drew HO_3.out)
     have n1_ := aM69_ (Kd.R_drew HO_18.out)
     have n2_ := aM69_ (Kd.R_drew HO_247000.out)
     have n3_ := aM69_ (blk_drew BK239.out)
     have n4_ := aM69_ (blk_drew BK246.out)
     have n5_ := aM69_ (below_drew1 HB.out)
     clear HO_3 HO_18 HO_247000 BK239 BK246 HB
     have HO_3 := n0_
     have HO_18 := n1_
     have HO_247000 := n2_
     have BK239 := n3_
     have BK246 := n4_
     have HB := n5_
     clear n0_ n1_ n2_ n3_ n4_ n5_
     have p251 : 0 ≤ ((rd t240 x20_2) : Int) := of_decide_eq_true q69x2_
     have q251 : (rd t240 x20_2) < (l0_0.length : Int) := of_decide_eq_true q69x2_
     obtain ⟨ad251, e251, hx251_0, hx251_1, hx251_2, hx251_3, hx251_4⟩ := at_T77 HR0_0.out (rd t240 x20_2) p251 q251
     have hw251_4 := hx251_4
     have hw251_3 := hx251_3
     have hw251_2 := hx251_2
     have hw251_1 := hx251_1
     have hw251_0 := hx251_0
     obtain rfl : ad250 = ad251 := (by injection e251)
     replace hx251_0 := (HB.out.cell (World.block_lt_of_cell? w _ hx251_0)).trans hx251_0
     replace hx251_1 := (HB.out.cell (World.block_lt_of_cell? w _ hx251_1)).trans hx251_1
     replace hx251_2 := (HB.out.cell (World.block_lt_of_cell? w _ hx251_2)).trans hx251_2
     replace hx251_3 := (HB.out.cell (World.block_lt_of_cell? w _ hx251_3)).trans hx251_3
     replace hx251_4 := (HB.out.cell (World.block_lt_of_cell? w _ hx251_4)).trans hx251_4
     replace p251 := eq_true p251
     replace q251 := eq_true q251
     have HR254 := aM69_ (impl_Fork_ways.row HR0_0.out ((rd t240 x20_2)) (of_eq_true p251) (of_eq_true q251) A29.out)
     have HC254 := aM69_ (impl_Fork_ways.room A29.out)
     refine start_ (n := 16) (S := fun w' => w'.cell? ⟨gb246, 0, none⟩ = some (u247000) ∧ w'.cell? (ad250.add (((rd t240 x20_2)).toNat * 5)) = some (.int .i8 ((rd_T77 l0_0 (rd t240 x20_2)).f0)) ∧ w'.cell? ⟨(ad250.add (((rd t240 x20_2)).toNat * 5)).block, (ad250.add (((rd t240 x20_2)).toNat * 5)).off + 1, none⟩ = some (.int .i8 ((rd_T77 l0_0 (rd t240 x20_2)).f1)) ∧ w'.cell? ⟨(ad250.add (((rd t240 x20_2)).toNat * 5)).block, (ad250.add (((rd t240 x20_2)).toNat * 5)).off + 2, none⟩ = some (.int .i16 ((rd_T77 l0_0 (rd t240 x20_2)).f2.f0)) ∧ w'.cell? ⟨(ad250.add (((rd t240 x20_2)).toNat * 5)).block, (ad250.add (((rd t240 x20_2)).toNat * 5)).off + 3, none⟩ = some (.int .i16 ((rd_T77 l0_0 (rd t240 x20_2)).f2.f1)) ∧ w'.cell? ⟨(ad250.add (((rd t240 x20_2)).toNat * 5)).block, (ad250.add (((rd t240 x20_2)).toNat * 5)).off + 4, none⟩ = some (.int .i16 ((rd_T77 l0_0 (rd t240 x20_2)).f2.f2))) (ds := [15]) #[false, false, false, false, false, false, false, false, false, false, false, false, false, false, false, false] (by kernel_rfl) rfl rfl ⟨(blk_cell BK246.out 0).trans rfl, ((HB.out.cell (World.block_lt_of_cell? w _ hw251_0)).trans hw251_0), ((HB.out.cell (World.block_lt_of_cell? w _ hw251_1)).trans hw251_1), ((HB.out.cell (World.block_lt_of_cell? w _ hw251_2)).trans hw251_2), ((HB.out.cell (World.block_lt_of_cell? w _ hw251_3)).trans hw251_3), ((HB.out.cell (World.block_lt_of_cell? w _ hw251_4)).trans hw251_4)⟩ (fun hHeld => ?_); refine with_tabW impl_Tree_productive.tab9 impl_Tree_productive.bits9 (fun HT_ HW_ => ?_)
     generalize wr.drew = w35 at HO_3 HO_18 HO_247000 BK239 BK246 HB HR254 hx251_0 hx251_1 hx251_2 hx251_3 hx251_4 hHeld ⊢
     refine pure_ (i := 1) (N := some 29) (v := ?_) (a' := ?_) #[false, true, false, false, false, false, false, false, false, false, false, false, false, false, false, false] rfl rfl (any_of HT_.out (by kernel_rfl)) (fun _ _ _ h => h) (Or.inl ⟨by rfl, ?_⟩) ?_ ?_
     rotate_left
     ·exact q69x7_
     rotate_left
     ·exact q69x8_
     refine pure_ (i := 2) (N := some 30) (v := ?_) (a' := ?_) #[false, true, true, false, false, false, false, false, false, false, false, false, false, false, false, false] rfl rfl (any_of HT_.out (by kernel_rfl)) (fun _ _ _ h => h) (Or.inl ⟨by rfl, ?_⟩) ?_ ?_
     rotate_left
     ·exact q69x7_
     rotate_left
     ·exact q69x8_
     refine pure_ (i := 3) (N := some 31) (v := ?_) (a' := ?_) #[false, true, true, true, false, false, false, false, false, false, false, false, false, false, false, false] rfl rfl (any_of HT_.out (by kernel_rfl)) (fun _ _ _ h => h) (Or.inl ⟨by rfl, ?_⟩) ?_ ?_
     rotate_left
     ·exact q69x7_
     rotate_left
     ·exact q69x8_
     refine pure_ (i := 4) (N := some 32) (v := ?_) (a' := ?_) #[false, true, true, true, true, false, false, false, false, false, false, false, false, false, false, false] rfl rfl (any_of HT_.out (by kernel_rfl)) (fun _ _ _ h => h) (Or.inl ⟨by rfl, ?_⟩) ?_ ?_
     rotate_left
     ·exact q69x7_
     rotate_left
     ·exact q69x8_
     refine take_ (i := 0) (N := some 28) (v := ?_) (a' := ?_) #[true, true, true, true, true, false, false, false, false, false, false, false, false, false, false, false] rfl rfl (take_ofW HT_.out HW_.out (by kernel_rfl)) (fun _ _ _ h => h) (Or.inl ⟨by rfl, ?_⟩) hHeld ?_ ?_
     rotate_left
     ·exact q69x9_
     rotate_left
     ·exact q69x8_
     refine take_ (i := 5) (N := some 33) (v := ?_) (a' := ?_) #[true, true, true, true, true, true, false, false, false, false, false, false, false, false, false, false] rfl rfl (take_ofW HT_.out HW_.out (by kernel_rfl)) (fun _ _ _ h => h) (Or.inl ⟨by rfl, ?_⟩) hHeld ?_ ?_
     rotate_left
     ·exact q69x9_
     rotate_left
     ·exact q69x8_
     refine pure_ (i := 6) (N := some 34) (v := ?_) (a' := ?_) #[true, true, true, true, true, true, true, false, false, false, false, false, false, false, false, false] rfl rfl (any_of HT_.out (by kernel_rfl)) (fun _ _ _ h => h) (Or.inl ⟨by rfl, ?_⟩) ?_ ?_
     rotate_left
     ·exact q69x7_
     rotate_left
     ·exact q69x8_
     refine pure_ (i := 7) (N := some 35) (v := ?_) (a' := ?_) #[true, true, true, true, true, true, true, true, false, false, false, false, false, false, false, false] rfl rfl (any_of HT_.out (by kernel_rfl)) (fun _ _ _ h => h) (Or.inl ⟨by rfl, ?_⟩) ?_ ?_
     rotate_left
     ·exact q69x7_
     rotate_left
     ·exact q69x8_
     refine pure_ (i := 8) (N := some 36) (v := ?_) (a' := ?_) #[true, true, true, true, true, true, true, true, true, false, false, false, false, false, false, false] rfl rfl (any_of HT_.out (by kernel_rfl)) (fun _ _ _ h => h) (Or.inl ⟨by rfl, ?_⟩) ?_ ?_
     rotate_left
     ·exact q69x7_
     rotate_left
     ·exact q69x8_
     refine pure_ (i := 10) (N := some 38) (v := ?_) (a' := ?_) #[true, true, true, true, true, true, true, true, true, false, true, false, false, false, false, false] rfl rfl (any_of HT_.out (by kernel_rfl)) (fun _ _ _ h => h) (Or.inl ⟨by rfl, ?_⟩) ?_ ?_
     rotate_left
     ·exact q69x7_
     rotate_left
     ·exact q69x8_
     refine one_ (i := 9) (N := some 37) #[true, true, true, true, true, true, true, true, true, true, true, false, false, false, false, false] rfl rfl (one_of HT_.out (by kernel_rfl)) (by decide) (fun K hK => ?_)
     refine goes_ Try.func103 (by kernel_rfl) rfl #[.pointer (some (ad250.add ((rd t240 x20_2).toNat * 5)))] (by rfl) rfl rfl q69x4_ ?_
     with_reducible refine (impl_Fork_ways.calls (ad250.add ((rd t240 x20_2).toNat * 5)) ((rd_T77 l0_0 (rd t240 x20_2)).f0) ((rd_T77 l0_0 (rd t240 x20_2)).f1) ((rd_T77 l0_0 (rd t240 x20_2)).f2.f0) ((rd_T77 l0_0 (rd t240 x20_2)).f2.f1) ((rd_T77 l0_0 (rd t240 x20_2)).f2.f2) t253 _ ?side1 A29.out).mono ?_
     (case side1 => exact hx251_0)
     rintro e w' ⟨rfl, ⟨nd, rfl⟩⟩
     refine ⟨_, rfl, ?_⟩
     obtain ⟨Ao36, co36, eo36⟩ := Kd.R_slice HO_247000.out
     (first | subst eo36 | (injection eo36 with f1_ f2_ f3_; have f4_ := f1_.symm; have f5_ := f3_.symm; clear f1_ f2_ f3_; subst f4_; subst f5_))
     refine hK.out _ _ ⟨(blk_cell BK246.out 0).trans rfl, ((HB.out.cell (World.block_lt_of_cell? w _ hw251_0)).trans hw251_0), ((HB.out.cell (World.block_lt_of_cell? w _ hw251_1)).trans hw251_1), ((HB.out.cell (World.block_lt_of_cell? w _ hw251_2)).trans hw251_2), ((HB.out.cell (World.block_lt_of_cell? w _ hw251_3)).trans hw251_3), ((HB.out.cell (World.block_lt_of_cell? w _ hw251_4)).trans hw251_4)⟩ (fun hHeld => ?_)
     clear hK K
     refine norm_ (a' := ?_) ?_ ?_
     rotate_left
     ·show Act.put _ (some 37) _ = _
      simp only [Act.put, List.setIfInBounds_toArray, List.set_cons_zero, List.set_cons_succ, i64_w, i32_w]
      rfl
     refine one_ (i := 11) (N := some 39) #[true, true, true, true, true, true, true, true, true, true, true, true, false, false, false, false] rfl rfl (one_of HT_.out (by kernel_rfl)) (by decide) (fun K hK => ?_)
     refine goes_ Try.func102 (by kernel_rfl) rfl #[.slice (some ⟨(ad250.add ((rd t240 x20_2).toNat * 5)).block, (ad250.add ((rd t240 x20_2).toNat * 5)).off + 2, none⟩) t253.length 3, .func (.func 104) #[] #[.pointer (some ⟨gb246, 0, none⟩)]] (by rfl) rfl rfl q69x4_ ?_
     with_reducible refine (slices_ContainsFunc_int16_int16_c104_2.calls k2 _ _ t253 gb246 0 Ao36 co36 x247000_2 t255 _ ?side1 ?side2 ?side3 ?side4 ?side5 A30.out).mono ?_
     (case side1 => repeat (first | exact (Kd.C_below HR254.out (by repeat (first | (with_reducible first | exact HB.out | apply below_alloc | apply pw_below_drewN | apply below_drew1 | refine below_set ?_ GE239.out | refine below_set ?_ GE246.out) | exact HB.out))) | (with_reducible refine Kd.C_alloc ?_ _) | (with_reducible refine Kd.C_drewN ?_ _) | (with_reducible refine Kd.C_drew ?_)))
     (case side2 => exact HC254.out)
     (case side3 => repeat (first | exact (Kd.R_reads' HO_247000.out).2.2 | (with_reducible refine Kd.C_alloc ?_ _) | (with_reducible refine Kd.C_drewN ?_ _) | (with_reducible refine Kd.C_drew ?_)))
     (case side4 => exact (Kd.R_reads' HO_247000.out).2.1)
     (case side5 => exact (blk_cell (g := gb246) (t := 134) (cs := #[.slice Ao36 x247000_2.length co36]) (by (with_reducible repeat (first | refine blk_drewN ?_ _ | refine blk_drew ?_ | refine blk_alloc ?_ _)); exact BK246.out) 0).trans rfl)
     rintro e w' ⟨rfl, ⟨nd, rfl⟩⟩
     refine ⟨_, rfl, ?_⟩
     have p32 : 0 ≤ ((rd t240 x20_2) : Int) := of_decide_eq_true q69x2_
     have q32 : ((rd t240 x20_2) : Int) < ((x247000_2.length : Int) : Int) := of_decide_eq_true q69x2_
     obtain ⟨go32, co32, eo32, gb32, gl32, cl32, HG32⟩ := Kd.R_form HO_247000.out (by omega)
     (first | cases eo32 | (injection eo32 with ea_ en_ ec_; (first | subst ea_ | (injection ea_ with ea_; subst ea_)); subst ec_; clear en_))
     have GB32 := aM69_ gb32
     have GG32 := aM69_ HG32
     clear gb32 gl32 HG32
     obtain ⟨hx32_0, hf32_0⟩ := Kd.R_celln false HO_247000.out ((rd t240 x20_2) : Int) p32 q32
     replace p32 := eq_true p32
     replace q32 := eq_true q32
     have HP37 := Kd.R_putn HO_247000.out ((rd t240 x20_2) : Int) (!t255)
     rw [← Ny256.out] at HP37
     have HQ37 := aM69_ HP37
     clear HP37
     refine hK.out _ _ ⟨(blk_cell BK246.out 0).trans rfl, ((HB.out.cell (World.block_lt_of_cell? w _ hw251_0)).trans hw251_0), ((HB.out.cell (World.block_lt_of_cell? w _ hw251_1)).trans hw251_1), ((HB.out.cell (World.block_lt_of_cell? w _ hw251_2)).trans hw251_2), ((HB.out.cell (World.block_lt_of_cell? w _ hw251_3)).trans hw251_3), ((HB.out.cell (World.block_lt_of_cell? w _ hw251_4)).trans hw251_4)⟩ (fun hHeld => ?_)
     clear hK K
     refine norm_ (a' := ?_) ?_ ?_
     rotate_left
     ·show Act.put _ (some 39) _ = _
      simp only [Act.put, List.setIfInBounds_toArray, List.set_cons_zero, List.set_cons_succ, i64_w, i32_w]
      rfl
     refine pure_ (i := 12) (N := some 40) (v := ?_) (a' := ?_) #[true, true, true, true, true, true, true, true, true, true, true, true, true, false, false, false] rfl rfl (any_of HT_.out (by kernel_rfl)) (fun _ _ _ h => h) (Or.inl ⟨by rfl, ?_⟩) ?_ ?_
     rotate_left
     ·exact q69x7_
     rotate_left
     ·exact q69x8_
     refine pure_ (i := 13) (N := some 41) (v := ?_) (a' := ?_) #[true, true, true, true, true, true, true, true, true, true, true, true, true, true, false, false] rfl rfl (any_of HT_.out (by kernel_rfl)) (fun _ _ _ h => h) (Or.inl ⟨by rfl, ?_⟩) ?_ ?_
     rotate_left
     ·exact q69x7_
     rotate_left
     ·exact q69x8_
     refine pure_ (i := 14) (N := some 42) (v := ?_) (a' := ?_) #[true, true, true, true, true, true, true, true, true, true, true, true, true, true, true, false] rfl rfl (any_of HT_.out (by kernel_rfl)) (fun _ _ _ h => h) (Or.inl ⟨by rfl, ?_⟩) ?_ ?_
     rotate_left
     ·exact q69x7_
     rotate_left
     ·exact q69x8_
     refine last_ (i := 15) (N := none) #[true, true, true, true, true, true, true, true, true, true, true, true, true, true, true, true] rfl rfl (one_of HT_.out (by kernel_rfl)) (by decide) (fun K hK => ?_)
     refine skip_ (w1 := ?_) (by rfl) rfl ?_ ?_
     rotate_left
     ·go_simp
      rfl
     refine hK.out _ _ ?_
     clear hK K
     refine done_ (done_of HT_.out (by kernel_rfl)) ?_
     try go_wp2
     go_roundg k2
     case measure => have := HK1.out; have := HK2.out; omega
     case rel => exact ⟨(wrap64 (x20_2 + 1)), (y256), (.slice (some ⟨go32, 0, none⟩) x247000_2.length co36), q69x6_, H', ⟨by have := HK1.out; have := HK2.out; omega⟩, ⟨by (with_reducible repeat (first | apply Kd.R_alloc | apply Kd.R_drewN | apply Kd.R_drew)); exact Kd.R_mono (Kd.R_far (p := ⟨go32, ((rd t240 x20_2) : Int).toNat, none⟩) (Kd.R_types HO_3.out GG32.out (by decide)) (fun _ hk => hk.2) (.bool (!t255))) (fun _ hk => trivial)⟩, ⟨by (with_reducible repeat (first | apply Kd.R_alloc | apply Kd.R_drewN | apply Kd.R_drew)); exact Kd.R_mono (Kd.R_far (p := ⟨go32, ((rd t240 x20_2) : Int).toNat, none⟩) (Kd.R_types HO_18.out GG32.out (by decide)) (fun _ hk => hk.2) (.bool (!t255))) (fun _ hk => trivial)⟩, ⟨by (with_reducible repeat (first | apply Kd.R_alloc | apply Kd.R_drewN | apply Kd.R_drew)); exact HQ37.out⟩, ⟨by (with_reducible repeat (first | refine blk_drewN ?_ _ | refine blk_drew ?_ | refine blk_alloc ?_ _)); refine blk_far ?_ (by have h_ := Kd.R_ne HO_247000.out BK239.out (by decide); intro e_; exact h_ (by rw [e_]; rfl)) _; (with_reducible repeat (first | refine blk_drewN ?_ _ | refine blk_drew ?_ | refine blk_alloc ?_ _)); exact BK239.out⟩, ⟨by (with_reducible repeat (first | refine blk_drewN ?_ _ | refine blk_drew ?_ | refine blk_alloc ?_ _)); refine blk_far ?_ (by have h_ := Kd.R_ne HO_247000.out BK246.out (by decide); intro e_; exact h_ (by rw [e_]; rfl)) _; (with_reducible repeat (first | refine blk_drewN ?_ _ | refine blk_drew ?_ | refine blk_alloc ?_ _)); exact BK246.out⟩, ⟨by repeat (first | (with_reducible first | exact HB.out | apply below_alloc | apply pw_below_drewN | apply below_drew1 | refine below_set ?_ GB32.out | refine below_set ?_ GE239.out | refine below_set ?_ GE246.out) | exact HB.out)⟩⟩
/-! ### impl_IsProductive: function 31 -/
def impl_IsProductive.f (k : Nat) (l0_0 : List (S77)) : Option (Bool × Int) := (impl_ValidTree.f k l0_0).bind fun t258 => (if t258 = true then ((impl_Tree_productive.f k l0_0).bind fun t259 => (some (t259, 0))) else (some (false, 1)))
theorem impl_IsProductive.mono : ∀ a0 k, LeO (impl_IsProductive.f k a0) (impl_IsProductive.f (k + 1) a0) := by
  intro a0 k
  unfold impl_IsProductive.f
  repeat' first
      | (with_reducible exact impl_Tree_productive.mono _ _)
      | (with_reducible exact impl_ValidTree.mono _ _)
      | (with_reducible exact LeO.refl _)
      | (with_reducible exact LeO.none _)
      | (with_reducible refine LeO.ite ?_ ?_)
      | (with_reducible refine LeO.bind ?_ (fun _ => ?_))
      | exact impl_Tree_productive.mono _ _
      | exact impl_ValidTree.mono _ _
      | exact LeO.none _
      | refine LeO.ite ?_ ?_
      | refine LeO.bind ?_ (fun _ => ?_)
set_option maxHeartbeats 8000000 in
set_option maxRecDepth 100000 in
theorem impl_IsProductive.calls (k : Nat) (A0_0 : Option Addr) (c0_0 : Nat) (l0_0 : List (S77)) (r1 : Bool) (r2 : Int) (w : World) (hr0_0 : Kd.C k77 w A0_0 l0_0.length l0_0) (hc0_0 : l0_0.length ≤ c0_0) (h : impl_IsProductive.f k l0_0 = some (r1, r2)) :
    Calls Try.prog 31 #[.agg #[.slice A0_0 l0_0.length c0_0]] w fun e w' => e = .returned (.tuple #[.bool r1, .int .i64 r2]) ∧ Below w.heap.size w w' := by
  have hu24 := Try.underlying24
  have HR0_0 := Aside0.mk hr0_0
  have HC0_0 := Aside0.mk hc0_0
  clear hr0_0 hc0_0
  have HB := Aside0.mk (Below.refl w.heap.size w)
  have H : ((impl_ValidTree.f k l0_0).bind fun t258 => (if t258 = true then ((impl_Tree_productive.f k l0_0).bind fun t259 => (some (t259, 0))) else (some (false, 1)))) = some (r1, r2) := h
  clear h
  replace H := Option.bind_eq_some_iff.mp H
  obtain ⟨t258, A20, H⟩ := H
  replace H : (if t258 = true then ((impl_Tree_productive.f k l0_0).bind fun t259 => (some (t259, 0))) else (some (false, 1))) = some (r1, r2) := H
  have A2 := Aside0.mk A20
  clear A20
  by_cases c3 : t258 = true
  · subst c3
    have H1 : ((impl_Tree_productive.f k l0_0).bind fun t259 => (some (t259, 0))) = some (r1, r2) := by rw [if_pos rfl] at H; exact H
    clear H
    have H := H1
    clear H1
    replace H := Option.bind_eq_some_iff.mp H
    obtain ⟨t259, A40, H⟩ := H
    replace H : (some (t259, 0)) = some (r1, r2) := H
    have A4 := Aside0.mk A40
    clear A40
    simp only [Option.some.injEq, Prod.mk.injEq] at H
    obtain ⟨rfl, rfl⟩ := H
    go_enter Try.func31, Try.ntmps31
    go_wp2_with (first | ((with_reducible refine gate_dst (N := 1) rfl ?_); refine box_event ?hg (N := 1) ?hd (cs := #[.slice A0_0 l0_0.length c0_0]) (t := 24) ?hr ?_; (case hd => rfl); (case hg => rfl); (case hr => first | (go_simp; done) | (go_simp; rfl)); intro gb257 hg w5 hbox hb; have n0_ := Aside0.mk (below_step (by repeat (first | (with_reducible first | exact HB.out | apply below_alloc | apply pw_below_drewN | apply below_drew1) | exact HB.out)) hb); have n1_ := Aside0.mk (hbox); have n2_ := Aside0.mk ((by rw [hg]; exact (below_size (by repeat (first | (with_reducible first | exact HB.out | apply below_alloc | apply pw_below_drewN | apply below_drew1) | exact HB.out))) : w.heap.size ≤ gb257)); have n3_ := Aside0.mk ((by rw [hg]; exact (below_size (by repeat (first | (with_reducible first | exact HB.out | apply below_alloc | apply pw_below_drewN | apply below_drew1) | exact HB.out))) : w.heap.size ≤ gb257)); clear HB; have HB := n0_; have BK257 := n1_; have GW257 := n2_; have GE257 := n3_; clear n0_ n1_ n2_ n3_; clear hb hbox hg; have hcz6_0 : w5.cell? ⟨gb257, 0, none⟩ = some (.slice A0_0 l0_0.length c0_0) := (blk_cell BK257.out 0).trans rfl; have hfz6_0 := blk_frozen BK257.out 0) | ((with_reducible refine gate_callee (f := 29) rfl ?_); refine goesL_ (some 5) rfl rfl Try.func29 (by kernel_rfl) rfl #[.agg #[.slice A0_0 l0_0.length c0_0]] rfl (by (try simp only [List.map_toArray, List.map_cons, List.map_nil]); first | done | rfl | (simp only [List.length_drop, List.length_take]; rfl)) ?_; (with_reducible refine (impl_ValidTree.calls k _ _ l0_0 true _ ?side1 ?side2 A2.out).mono ?_); (case side1 => repeat (first | exact (Kd.C_below HR0_0.out HB.out) | (with_reducible refine Kd.C_alloc ?_ _) | (with_reducible refine Kd.C_drewN ?_ _) | (with_reducible refine Kd.C_drew ?_))); (case side2 => exact HC0_0.out); rintro e w7 ⟨rfl, hb⟩; refine ⟨_, rfl, ?_⟩; have n0_ := Aside0.mk (blk_below (g := gb257) (o := .cells #[.slice A0_0 l0_0.length c0_0] 24 (0, 0)) (by (with_reducible repeat (first | refine blk_drewN ?_ _ | refine blk_drew ?_ | refine blk_alloc ?_ _)); exact BK257.out) hb); have n1_ := Aside0.mk (below_step (by repeat (first | (with_reducible first | exact HB.out | apply below_alloc | apply pw_below_drewN | apply below_drew1 | refine below_set ?_ GE257.out) | exact HB.out)) hb); clear BK257; clear HB; have BK257 := n0_; have HB := n1_; clear n0_ n1_; (try clear hb); (try clear hb2); (try clear hk); (try clear hi); have hcz8_0 : w7.cell? ⟨gb257, 0, none⟩ = some (.slice A0_0 l0_0.length c0_0) := (blk_cell BK257.out 0).trans rfl; have hfz8_0 := blk_frozen BK257.out 0) | ((with_reducible refine gate_callee (f := 69) rfl ?_); refine goesL_ (some 8) rfl rfl Try.func69 (by kernel_rfl) rfl #[.agg #[.slice A0_0 l0_0.length c0_0]] rfl (by (try simp only [List.map_toArray, List.map_cons, List.map_nil]); first | done | rfl | (simp only [List.length_drop, List.length_take]; rfl)) ?_; (with_reducible refine (impl_Tree_productive.calls k _ _ l0_0 t259 _ ?side1 ?side2 A4.out).mono ?_); (case side1 => repeat (first | exact (Kd.C_below HR0_0.out HB.out) | (with_reducible refine Kd.C_alloc ?_ _) | (with_reducible refine Kd.C_drewN ?_ _) | (with_reducible refine Kd.C_drew ?_))); (case side2 => exact HC0_0.out); rintro e w9 ⟨rfl, hb⟩; refine ⟨_, rfl, ?_⟩; have n0_ := Aside0.mk (blk_below (g := gb257) (o := .cells #[.slice A0_0 l0_0.length c0_0] 24 (0, 0)) (by (with_reducible repeat (first | refine blk_drewN ?_ _ | refine blk_drew ?_ | refine blk_alloc ?_ _)); exact BK257.out) hb); have n1_ := Aside0.mk (below_step (by repeat (first | (with_reducible first | exact HB.out | apply below_alloc | apply pw_below_drewN | apply below_drew1 | refine below_set ?_ GE257.out) | exact HB.out)) hb); clear BK257; clear HB; have BK257 := n0_; have HB := n1_; clear n0_ n1_; (try clear hb); (try clear hb2); (try clear hk); (try clear hi)))
    go_ret2
    exact ⟨by first | rfl | (simp [errW_none, errW_some] <;> rfl) | (simp [*, errW_none, errW_some] <;> rfl), by repeat (first | (with_reducible first | exact HB.out | apply below_alloc | apply pw_below_drewN | apply below_drew1 | refine below_set ?_ GE257.out) | exact HB.out)⟩
  · replace c3 := Bool.eq_false_iff.mpr c3
    subst c3
    have H1 : (some (false, 1)) = some (r1, r2) := by rw [if_neg (show ¬ (false = true) by decide)] at H; exact H
    clear H
    have H := H1
    clear H1
    simp only [Option.some.injEq, Prod.mk.injEq] at H
    obtain ⟨rfl, rfl⟩ := H
    go_enter Try.func31, Try.ntmps31
    go_wp2_with (first | ((with_reducible refine gate_dst (N := 1) rfl ?_); refine box_event ?hg (N := 1) ?hd (cs := #[.slice A0_0 l0_0.length c0_0]) (t := 24) ?hr ?_; (case hd => rfl); (case hg => rfl); (case hr => first | (go_simp; done) | (go_simp; rfl)); intro gb257 hg w10 hbox hb; have n0_ := Aside0.mk (below_step (by repeat (first | (with_reducible first | exact HB.out | apply below_alloc | apply pw_below_drewN | apply below_drew1) | exact HB.out)) hb); have n1_ := Aside0.mk (hbox); have n2_ := Aside0.mk ((by rw [hg]; exact (below_size (by repeat (first | (with_reducible first | exact HB.out | apply below_alloc | apply pw_below_drewN | apply below_drew1) | exact HB.out))) : w.heap.size ≤ gb257)); have n3_ := Aside0.mk ((by rw [hg]; exact (below_size (by repeat (first | (with_reducible first | exact HB.out | apply below_alloc | apply pw_below_drewN | apply below_drew1) | exact HB.out))) : w.heap.size ≤ gb257)); clear HB; have HB := n0_; have BK257 := n1_; have GW257 := n2_; have GE257 := n3_; clear n0_ n1_ n2_ n3_; clear hb hbox hg; have hcz11_0 : w10.cell? ⟨gb257, 0, none⟩ = some (.slice A0_0 l0_0.length c0_0) := (blk_cell BK257.out 0).trans rfl; have hfz11_0 := blk_frozen BK257.out 0) | ((with_reducible refine gate_callee (f := 29) rfl ?_); refine goesL_ (some 5) rfl rfl Try.func29 (by kernel_rfl) rfl #[.agg #[.slice A0_0 l0_0.length c0_0]] rfl (by (try simp only [List.map_toArray, List.map_cons, List.map_nil]); first | done | rfl | (simp only [List.length_drop, List.length_take]; rfl)) ?_; (with_reducible refine (impl_ValidTree.calls k _ _ l0_0 false _ ?side1 ?side2 A2.out).mono ?_); (case side1 => repeat (first | exact (Kd.C_below HR0_0.out HB.out) | (with_reducible refine Kd.C_alloc ?_ _) | (with_reducible refine Kd.C_drewN ?_ _) | (with_reducible refine Kd.C_drew ?_))); (case side2 => exact HC0_0.out); rintro e w12 ⟨rfl, hb⟩; refine ⟨_, rfl, ?_⟩; have n0_ := Aside0.mk (blk_below (g := gb257) (o := .cells #[.slice A0_0 l0_0.length c0_0] 24 (0, 0)) (by (with_reducible repeat (first | refine blk_drewN ?_ _ | refine blk_drew ?_ | refine blk_alloc ?_ _)); exact BK257.out) hb); have n1_ := Aside0.mk (below_step (by repeat (first | (with_reducible first | exact HB.out | apply below_alloc | apply pw_below_drewN | apply below_drew1 | refine below_set ?_ GE257.out) | exact HB.out)) hb); clear BK257; clear HB; have BK257 := n0_; have HB := n1_; clear n0_ n1_; (try clear hb); (try clear hb2); (try clear hk); (try clear hi)))
    go_ret2
    exact ⟨by first | rfl | (simp [errW_none, errW_some] <;> rfl) | (simp [*, errW_none, errW_some] <;> rfl), by repeat (first | (with_reducible first | exact HB.out | apply below_alloc | apply pw_below_drewN | apply below_drew1 | refine below_set ?_ GE257.out) | exact HB.out)⟩

end Go.Proofs.Ytlccefmimpmgjaa.MFnExactIsProductive
