/- Functions of the program as Lean functions, and the proof that the code comes to what they say. Written by a program of this session (myprint.py). -/
import Derived.Test.YtlccefmimpmgjaaMFnExactIsProductivex0
import Derived.Test.YtlccefmimpmgjaaMFnExactIsProductivex1
import Derived.Test.YtlccefmimpmgjaaMFnExactIsProductivex2
import Derived.Test.YtlccefmimpmgjaaMFnExactIsProductivex5
import Derived.Test.YtlccefmimpmgjaaMFnExactIsProductivex7
namespace Go.Proofs.Ytlccefmimpmgjaa.MFnExactIsProductive
open Go.RowKit Go.Proofs.Ytlccefmimpmgjaa.MOpen Go.Proofs.YtlccefmimpmgjaaW.PrintWords Go.Proofs.YtlccefmimpmgjaaW.PrintLast Go.Proofs.YtlccefmimpmgjaaW.PrintMore
attribute [local go_sem] max2_int min2_int max_two min_two max_three min_three max_four min_four   -- for this text's walks alone
set_option linter.unusedVariables false
set_option linter.unusedSimpArgs false

set_option linter.defProp false
def aM8_ := @Aside0.mk
theorem q8x1_ {P : Prop} (h : P := by repeat (first | (with_reducible first | exact HB.out | apply below_alloc | apply pw_below_drewN | apply below_drew1 | refine below_set ?_ GE260.out) | exact HB.out)) : P := h
theorem q8x2_ {P : Prop} (h : P := by (with_reducible repeat (first | refine blk_drewN ?_ _ | refine blk_drew ?_ | refine blk_alloc ?_ _)); exact BK260.out) : P := h
theorem q8x3_ {P : Prop} (h : P := by (try simp only [List.map_toArray, List.map_cons, List.map_nil]); first | done | rfl | (simp only [List.length_drop, List.length_take]; rfl)) : P := h
theorem q8x4_ {P : Prop} (h : P := by repeat (first | (with_reducible first | exact HB.out | apply below_alloc | apply pw_below_drewN | apply below_drew1 | refine below_set ?_ GE260.out | refine below_set ?_ GE270.out) | exact HB.out)) : P := h
theorem q8x5_ {P : Prop} (h : P := by repeat (first | (with_reducible first | exact HB.out | apply below_alloc | apply pw_below_drewN | apply below_drew1) | exact HB.out)) : P := h
theorem q8x6_ {P : Prop} (h : P := by (with_reducible repeat (first | apply Kd.R_alloc | apply Kd.R_drewN | apply Kd.R_drew)); exact HO_271000.out) : P := h
theorem q8x7_ {P : Prop} (h : P := by (with_reducible repeat (first | refine blk_drewN ?_ _ | refine blk_drew ?_ | refine blk_alloc ?_ _)); exact BK270.out) : P := h
theorem q8x8_ {P : Prop} (h : P := by (with_reducible repeat (first | apply Kd.R_alloc | apply Kd.R_drewN | apply Kd.R_drew)); exact HO264.out) : P := h
theorem q8x9_ {P : Prop} (h : P := by (with_reducible repeat (first | apply Kd.R_alloc | apply Kd.R_drewN | apply Kd.R_drew)); exact (Kd.R_mono (Kd.R_far (p := ⟨gb270, 0, none⟩) (Kd.R_types HO269.out BK270.out (by decide)) (fun _ hk => hk.2) (.slice Ao22 t267.length co22)) (fun _ h_ => h_.1))) : P := h
theorem q8x10_ {P : Prop} (h : P := by simp only [Act.put, List.setIfInBounds_toArray, List.set_cons_zero, List.set_cons_succ, i64_w, i32_w]; rfl) : P := h
/-! ### laws_FnExactIsProductive: function 8 -/
def laws_FnExactIsProductive.j0 : Nat → Bool → List (S129) → List (S77) → Option (Bool)
 | 0, _, _, _ => none
 | k + 1, x34, x261000, x271000 => if x34 = true then (some false) else ((laws_toTree.f k x261000).bind fun t273 => ((laws_eqTree.f k x271000 t273).bind fun t276 => (if t276 = true then (some true) else (some false))))
def laws_FnExactIsProductive.f (k : Nat) (l0_0 : List (S129)) : Option (Bool) := (laws_szTree.f l0_0 1048576).bind fun t261 => (if t261 < 0 then (some true) else ((laws_toTree.f k l0_0).bind fun t262 => ((spec_IsProductive.f k t262).bind fun bt265 => ((laws_toTree.f k l0_0).bind fun t267 => ((impl_IsProductive.f k t267).bind fun bt271 => (if (bt271.1 != bt265.1) = true then (laws_FnExactIsProductive.j0 k true l0_0 t267) else (laws_FnExactIsProductive.j0 k (bt271.2 != bt265.2) l0_0 t267)))))))
theorem laws_FnExactIsProductive.mono_l : ∀ k, (∀ y0 y1 y2, LeO (laws_FnExactIsProductive.j0 k y0 y1 y2) (laws_FnExactIsProductive.j0 (k + 1) y0 y1 y2))
 | 0 => fun _ _ _ r h => by simp [laws_FnExactIsProductive.j0] at h
 | k + 1 => by
  have ih0 := laws_FnExactIsProductive.mono_l k
  intro y0 y1 y2
  unfold laws_FnExactIsProductive.j0
  repeat' first
  | (with_reducible exact ih0 _ _ _)
  | (with_reducible exact impl_IsProductive.mono _ _)
  | (with_reducible exact laws_eqTree.mono _ _ _)
  | (with_reducible exact laws_toTree.mono _ _)
  | (with_reducible exact spec_IsProductive.mono _ _)
  | (with_reducible exact LeO.refl _)
  | (with_reducible exact LeO.none _)
  | (with_reducible refine LeO.ite ?_ ?_)
  | (with_reducible refine LeO.bind ?_ (fun _ => ?_))
  | exact ih0 _ _ _
  | exact impl_IsProductive.mono _ _
  | exact laws_eqTree.mono _ _ _
  | exact laws_toTree.mono _ _
  | exact spec_IsProductive.mono _ _
  | exact LeO.none _
  | refine LeO.ite ?_ ?_
  | refine LeO.bind ?_ (fun _ => ?_)
theorem laws_FnExactIsProductive.mono : ∀ a0 k, LeO (laws_FnExactIsProductive.f k a0) (laws_FnExactIsProductive.f (k + 1) a0) := by
 intro a0 k
 have ih0 := laws_FnExactIsProductive.mono_l k
 unfold laws_FnExactIsProductive.f
 repeat' first
   | (with_reducible exact ih0 _ _ _)
   | (with_reducible exact impl_IsProductive.mono _ _)
   | (with_reducible exact laws_eqTree.mono _ _ _)
   | (with_reducible exact laws_toTree.mono _ _)
   | (with_reducible exact spec_IsProductive.mono _ _)
   | (with_reducible exact LeO.refl _)
   | (with_reducible exact LeO.none _)
   | (with_reducible refine LeO.ite ?_ ?_)
   | (with_reducible refine LeO.bind ?_ (fun _ => ?_))
   | exact ih0 _ _ _
   | exact impl_IsProductive.mono _ _
   | exact laws_eqTree.mono _ _ _
   | exact laws_toTree.mono _ _
   | exact spec_IsProductive.mono _ _
   | exact LeO.none _
   | refine LeO.ite ?_ ?_
   | refine LeO.bind ?_ (fun _ => ?_)
set_option maxHeartbeats 8000000 in
set_option maxRecDepth 100000 in
theorem laws_FnExactIsProductive.calls (k : Nat) (A0_0 : Option Addr) (c0_0 : Nat) (l0_0 : List (S129)) (r : Bool) (w : World) (hr0_0 : Kd.C k129 w A0_0 l0_0.length l0_0) (hc0_0 : l0_0.length ≤ c0_0) (h : laws_FnExactIsProductive.f k l0_0 = some r) :
  Calls Try.prog 8 #[.agg #[.slice A0_0 l0_0.length c0_0]] w fun e w' => e = .returned (.bool r) ∧ Below w.heap.size w w' := by
 have hu31 := Try.underlying31
 have hu24 := Try.underlying24
 have HR0_0 := aM8_ hr0_0
 have HC0_0 := aM8_ hc0_0
 clear hr0_0 hc0_0
 have HB := aM8_ (Below.refl w.heap.size w)
 have H : ((laws_szTree.f l0_0 1048576).bind fun t261 => (if t261 < 0 then (some true) else ((laws_toTree.f k l0_0).bind fun t262 => ((spec_IsProductive.f k t262).bind fun bt265 => ((laws_toTree.f k l0_0).bind fun t267 => ((impl_IsProductive.f k t267).bind fun bt271 => (if (bt271.1 != bt265.1) = true then (laws_FnExactIsProductive.j0 k true l0_0 t267) else (laws_FnExactIsProductive.j0 k (bt271.2 != bt265.2) l0_0 t267)))))))) = some r := h
 clear h
 replace H := Option.bind_eq_some_iff.mp H
 obtain ⟨t261, A20, H⟩ := H
 replace H : (if t261 < 0 then (some true) else ((laws_toTree.f k l0_0).bind fun t262 => ((spec_IsProductive.f k t262).bind fun bt265 => ((laws_toTree.f k l0_0).bind fun t267 => ((impl_IsProductive.f k t267).bind fun bt271 => (if (bt271.1 != bt265.1) = true then (laws_FnExactIsProductive.j0 k true l0_0 t267) else (laws_FnExactIsProductive.j0 k (bt271.2 != bt265.2) l0_0 t267))))))) = some r := H
 have A2 := aM8_ A20
 clear A20
 by_cases c3 : t261 < 0
 ·rw [if_pos c3] at H
  have c3b0 : decide (t261 < 0) = true := decide_eq_true c3
  clear c3
  obtain rfl := Option.some.inj H
  go_enter Try.func8, Try.ntmps8
  go_wp2_with (first | ((with_reducible refine gate_dst (N := 1) rfl ?_); refine box_event ?hg (N := 1) ?hd (cs := #[.slice A0_0 l0_0.length c0_0]) (t := 31) ?hr ?_; (case hd => rfl); (case hg => rfl); (case hr => first | (go_simp; done) | (go_simp; rfl)); intro gb260 hg w4 hbox hb; have n0_ := aM8_ (below_step q8x5_ hb); have n1_ := aM8_ (hbox); have n2_ := aM8_ ((by rw [hg]; exact (below_size q8x5_) : w.heap.size ≤ gb260)); have n3_ := aM8_ ((by rw [hg]; exact (below_size q8x5_) : w.heap.size ≤ gb260)); clear HB; have HB := n0_; have BK260 := n1_; have GW260 := n2_; have GE260 := n3_; clear n0_ n1_ n2_ n3_; clear hb hbox hg; have hcz5_0 : w4.cell? ⟨gb260, 0, none⟩ = some (.slice A0_0 l0_0.length c0_0) := (blk_cell BK260.out 0).trans rfl; have hfz5_0 := blk_frozen BK260.out 0) | ((with_reducible refine gate_callee (f := 24) rfl ?_); refine goesL_ (some 11) rfl rfl Try.func24 (by kernel_rfl) rfl #[.agg #[.slice A0_0 l0_0.length c0_0], .int .i64 1048576] rfl q8x3_ ?_; (with_reducible refine (laws_szTree.calls _ _ l0_0 1048576 t261 _ ?side1 ?side2 A2.out).mono ?_); (case side1 => repeat (first | exact (Kd.C_below HR0_0.out HB.out) | (with_reducible refine Kd.C_alloc ?_ _) | (with_reducible refine Kd.C_drewN ?_ _) | (with_reducible refine Kd.C_drew ?_))); (case side2 => exact HC0_0.out); rintro e w6 ⟨rfl, hb⟩; refine ⟨_, rfl, ?_⟩; have n0_ := aM8_ (blk_below (g := gb260) (o := .cells #[.slice A0_0 l0_0.length c0_0] 31 (0, 0)) q8x2_ hb); have n1_ := aM8_ (below_step q8x1_ hb); clear BK260; clear HB; have BK260 := n0_; have HB := n1_; clear n0_ n1_; (try clear hb); (try clear hb2); (try clear hk); (try clear hi)))
  go_ret
  exact ⟨by first | rfl | (simp [errW_none, errW_some] <;> rfl) | (simp [*, errW_none, errW_some] <;> rfl), by repeat (first | (with_reducible first | exact HB.out | apply below_alloc | apply pw_below_drewN | apply below_drew1 | refine below_set ?_ GE260.out) | exact HB.out)⟩
 rw [if_neg c3] at H
 have c3b0 : decide (t261 < 0) = false := decide_eq_false c3
 clear c3
 replace H := Option.bind_eq_some_iff.mp H
 obtain ⟨t262, A70, H⟩ := H
 replace H : ((spec_IsProductive.f k t262).bind fun bt265 => ((laws_toTree.f k l0_0).bind fun t267 => ((impl_IsProductive.f k t267).bind fun bt271 => (if (bt271.1 != bt265.1) = true then (laws_FnExactIsProductive.j0 k true l0_0 t267) else (laws_FnExactIsProductive.j0 k (bt271.2 != bt265.2) l0_0 t267))))) = some r := H
 have A7 := aM8_ A70
 clear A70
 replace H := Option.bind_eq_some_iff.mp H
 obtain ⟨⟨t265, t266⟩, A80, H⟩ := H
 replace H : ((laws_toTree.f k l0_0).bind fun t267 => ((impl_IsProductive.f k t267).bind fun bt271 => (if (bt271.1 != t265) = true then (laws_FnExactIsProductive.j0 k true l0_0 t267) else (laws_FnExactIsProductive.j0 k (bt271.2 != t266) l0_0 t267)))) = some r := H
 have A8 := aM8_ A80
 clear A80
 replace H := Option.bind_eq_some_iff.mp H
 obtain ⟨t267, A90, H⟩ := H
 replace H : ((impl_IsProductive.f k t267).bind fun bt271 => (if (bt271.1 != t265) = true then (laws_FnExactIsProductive.j0 k true l0_0 t267) else (laws_FnExactIsProductive.j0 k (bt271.2 != t266) l0_0 t267))) = some r := H
 have A9 := aM8_ A90
 clear A90
 replace H := Option.bind_eq_some_iff.mp H
 obtain ⟨⟨t271, t272⟩, A100, H⟩ := H
 replace H : (if (t271 != t265) = true then (laws_FnExactIsProductive.j0 k true l0_0 t267) else (laws_FnExactIsProductive.j0 k (t272 != t266) l0_0 t267)) = some r := H
 have A10 := aM8_ A100
 clear A100
 have HC11 := aM8_ H
 clear H
 go_enter Try.func8, Try.ntmps8
 go_upto_region 8 with (first | ((with_reducible refine gate_dst (N := 1) rfl ?_); refine box_event ?hg (N := 1) ?hd (cs := #[.slice A0_0 l0_0.length c0_0]) (t := 31) ?hr ?_; (case hd => rfl); (case hg => rfl); (case hr => first | (go_simp; done) | (go_simp; rfl)); intro gb260 hg w12 hbox hb; have n0_ := aM8_ (below_step q8x5_ hb); have n1_ := aM8_ (hbox); have n2_ := aM8_ ((by rw [hg]; exact (below_size q8x5_) : w.heap.size ≤ gb260)); have n3_ := aM8_ ((by rw [hg]; exact (below_size q8x5_) : w.heap.size ≤ gb260)); clear HB; have HB := n0_; have BK260 := n1_; have GW260 := n2_; have GE260 := n3_; clear n0_ n1_ n2_ n3_; clear hb hbox hg; have hcz13_0 : w12.cell? ⟨gb260, 0, none⟩ = some (.slice A0_0 l0_0.length c0_0) := (blk_cell BK260.out 0).trans rfl; have hfz13_0 := blk_frozen BK260.out 0) | ((with_reducible refine gate_callee (f := 24) rfl ?_); refine goesL_ (some 11) rfl rfl Try.func24 (by kernel_rfl) rfl #[.agg #[.slice A0_0 l0_0.length c0_0], .int .i64 1048576] rfl q8x3_ ?_; (with_reducible refine (laws_szTree.calls _ _ l0_0 1048576 t261 _ ?side1 ?side2 A2.out).mono ?_); (case side1 => repeat (first | exact (Kd.C_below HR0_0.out HB.out) | (with_reducible refine Kd.C_alloc ?_ _) | (with_reducible refine Kd.C_drewN ?_ _) | (with_reducible refine Kd.C_drew ?_))); (case side2 => exact HC0_0.out); rintro e w14 ⟨rfl, hb⟩; refine ⟨_, rfl, ?_⟩; have n0_ := aM8_ (blk_below (g := gb260) (o := .cells #[.slice A0_0 l0_0.length c0_0] 31 (0, 0)) q8x2_ hb); have n1_ := aM8_ (below_step q8x1_ hb); clear BK260; clear HB; have BK260 := n0_; have HB := n1_; clear n0_ n1_; (try clear hb); (try clear hb2); (try clear hk); (try clear hi); have hcz15_0 : w14.cell? ⟨gb260, 0, none⟩ = some (.slice A0_0 l0_0.length c0_0) := (blk_cell BK260.out 0).trans rfl; have hfz15_0 := blk_frozen BK260.out 0) | ((with_reducible refine gate_callee (f := 26) rfl ?_); refine goesL_ (some 16) rfl rfl Try.func26 (by kernel_rfl) rfl #[.agg #[.slice A0_0 l0_0.length c0_0]] rfl q8x3_ ?_; (with_reducible refine (laws_toTree.calls k _ _ l0_0 t262 _ ?side1 ?side2 A7.out).mono ?_); (case side1 => repeat (first | exact (Kd.C_below HR0_0.out HB.out) | (with_reducible refine Kd.C_alloc ?_ _) | (with_reducible refine Kd.C_drewN ?_ _) | (with_reducible refine Kd.C_drew ?_))); (case side2 => exact HC0_0.out); rintro e w16 ⟨v263, rfl, ho0, hb⟩; refine ⟨_, rfl, ?_⟩; have n0_ := aM8_ (Kd.R_lower ho0 (below_size q8x1_)); have n1_ := aM8_ (blk_below (g := gb260) (o := .cells #[.slice A0_0 l0_0.length c0_0] 31 (0, 0)) q8x2_ hb); have n2_ := aM8_ (below_step q8x1_ hb); clear BK260; clear HB; have HO264 := n0_; have BK260 := n1_; have HB := n2_; clear n0_ n1_ n2_; (try clear hb); (try clear hb2); (try clear hk); (try clear hi); (try clear ho0); obtain ⟨Ao17, co17, eo17⟩ := Kd.R_slice HO264.out; subst eo17) | ((with_reducible refine gate_callee (f := 30) rfl ?_); refine goesL_ (some 17) rfl rfl Try.func30 (by kernel_rfl) rfl #[.agg #[.slice Ao17 t262.length co17]] rfl q8x3_ ?_; (with_reducible refine (spec_IsProductive.calls k _ _ t262 t265 t266 _ ?side1 ?side2 A8.out).mono ?_); (case side1 => repeat (first | exact (Kd.R_reads' HO264.out).2.2 | (with_reducible refine Kd.C_alloc ?_ _) | (with_reducible refine Kd.C_drewN ?_ _) | (with_reducible refine Kd.C_drew ?_))); (case side2 => exact (Kd.R_reads' HO264.out).2.1); rintro e w18 ⟨rfl, hb⟩; refine ⟨_, rfl, ?_⟩; have n0_ := aM8_ (Kd.R_below q8x8_ hb); have n1_ := aM8_ (blk_below (g := gb260) (o := .cells #[.slice A0_0 l0_0.length c0_0] 31 (0, 0)) q8x2_ hb); have n2_ := aM8_ (below_step q8x1_ hb); clear HO264; clear BK260; clear HB; have HO264 := n0_; have BK260 := n1_; have HB := n2_; clear n0_ n1_ n2_; (try clear hb); (try clear hb2); (try clear hk); (try clear hi); have hcz19_0 : w18.cell? ⟨gb260, 0, none⟩ = some (.slice A0_0 l0_0.length c0_0) := (blk_cell BK260.out 0).trans rfl; have hfz19_0 := blk_frozen BK260.out 0) | ((with_reducible refine gate_callee (f := 26) rfl ?_); refine goesL_ (some 21) rfl rfl Try.func26 (by kernel_rfl) rfl #[.agg #[.slice A0_0 l0_0.length c0_0]] rfl q8x3_ ?_; (with_reducible refine (laws_toTree.calls k _ _ l0_0 t267 _ ?side1 ?side2 A9.out).mono ?_); (case side1 => repeat (first | exact (Kd.C_below HR0_0.out HB.out) | (with_reducible refine Kd.C_alloc ?_ _) | (with_reducible refine Kd.C_drewN ?_ _) | (with_reducible refine Kd.C_drew ?_))); (case side2 => exact HC0_0.out); rintro e w20 ⟨v268, rfl, ho0, hb⟩; refine ⟨_, rfl, ?_⟩; have n0_ := aM8_ (Kd.R_elder' q8x8_ (Kd.R_base ho0) hb); have n1_ := aM8_ (Kd.R_lower (Kd.R_new' ho0 (Kd.R_lt q8x8_)) (below_size q8x1_)); have n2_ := aM8_ (blk_below (g := gb260) (o := .cells #[.slice A0_0 l0_0.length c0_0] 31 (0, 0)) q8x2_ hb); have n3_ := aM8_ (below_step q8x1_ hb); clear HO264; clear BK260; clear HB; have HO264 := n0_; have HO269 := n1_; have BK260 := n2_; have HB := n3_; clear n0_ n1_ n2_ n3_; (try clear hb); (try clear hb2); (try clear hk); (try clear hi); (try clear ho0)) | ((with_reducible refine gate_dst (N := 6) rfl ?_); refine box_event ?hg (N := 6) ?hd (cs := #[.slice none 0 0]) (t := 24) ?hr ?_; (case hd => rfl); (case hg => rfl); (case hr => first | (go_simp; done) | (go_simp; rfl)); intro gb270 hg w21 hbox hb; have n0_ := aM8_ (Kd.R_below q8x8_ hb); have n1_ := aM8_ (Kd.R_below (by (with_reducible repeat (first | apply Kd.R_alloc | apply Kd.R_drewN | apply Kd.R_drew)); exact HO269.out) hb); have n2_ := aM8_ (blk_below (g := gb260) (o := .cells #[.slice A0_0 l0_0.length c0_0] 31 (0, 0)) q8x2_ hb); have n3_ := aM8_ (below_step q8x1_ hb); have n4_ := aM8_ (hbox); have n5_ := aM8_ ((by rw [hg]; exact (below_size q8x1_) : w.heap.size ≤ gb270)); have n6_ := aM8_ ((by rw [hg]; exact (below_size q8x1_) : w.heap.size ≤ gb270)); have n7_ := aM8_ ((by rw [hg]; exact Nat.ne_of_lt (blk_lt (g := gb260) (o := .cells #[.slice A0_0 l0_0.length c0_0] 31 (0, 0)) q8x2_) : gb260 ≠ gb270)); have n8_ := aM8_ ((by rw [hg]; exact Nat.ne_of_gt (blk_lt (g := gb260) (o := .cells #[.slice A0_0 l0_0.length c0_0] 31 (0, 0)) q8x2_) : gb270 ≠ gb260)); clear HO264; clear HO269; clear BK260; clear HB; have HO264 := n0_; have HO269 := n1_; have BK260 := n2_; have HB := n3_; have BK270 := n4_; have GW270 := n5_; have GE270 := n6_; have NB260_270 := n7_; have NB270_260 := n8_; clear n0_ n1_ n2_ n3_ n4_ n5_ n6_ n7_ n8_; clear hb hbox hg; obtain ⟨Ao22, co22, eo22⟩ := Kd.R_slice HO269.out; subst eo22; have hnb23 := NB270_260.out; have hnc23 := NB260_270.out; have hcz24_0 : w21.cell? ⟨gb270, 0, none⟩ = some (.slice none 0 0) := (blk_cell BK270.out 0).trans rfl; have hfz24_0 := blk_frozen BK270.out 0) | ((with_reducible refine gate_callee (f := 31) rfl ?_); refine goesL_ (some 24) rfl rfl Try.func31 (by kernel_rfl) rfl #[.agg #[.slice Ao22 t267.length co22]] rfl q8x3_ ?_; (with_reducible refine (impl_IsProductive.calls k _ _ t267 t271 t272 _ ?side1 ?side2 A10.out).mono ?_); (case side1 => refine (Kd.R_reads' (e := 77) (base := w.heap.size) (ok := fun k_ => (True ∧ some k_ ≠ (.slice Ao17 t262.length co17 : Value).ownBlock)) (n := t267.length) (c := co22) ?_).2.2; exact q8x9_); (case side2 => exact (Kd.R_reads' HO269.out).2.1); rintro e w25 ⟨rfl, hb⟩; refine ⟨_, rfl, ?_⟩; have n0_ := aM8_ (Kd.R_below (by (with_reducible repeat (first | apply Kd.R_alloc | apply Kd.R_drewN | apply Kd.R_drew)); exact (Kd.R_mono (Kd.R_far (p := ⟨gb270, 0, none⟩) (Kd.R_types HO264.out BK270.out (by decide)) (fun _ hk => hk.2) (.slice Ao22 t267.length co22)) (fun _ h_ => h_.1))) hb); have n1_ := aM8_ (Kd.R_below q8x9_ hb); have n2_ := aM8_ (blk_below (g := gb260) (o := .cells #[.slice A0_0 l0_0.length c0_0] 31 (0, 0)) (by (with_reducible repeat (first | refine blk_drewN ?_ _ | refine blk_drew ?_ | refine blk_alloc ?_ _)); refine blk_far ?_ NB260_270.out _; (with_reducible repeat (first | refine blk_drewN ?_ _ | refine blk_drew ?_ | refine blk_alloc ?_ _)); exact BK260.out) hb); have n3_ := aM8_ (blk_below (g := gb270) (o := .cells #[.slice Ao22 t267.length co22] 24 (0, 0)) (by (with_reducible repeat (first | refine blk_drewN ?_ _ | refine blk_drew ?_ | refine blk_alloc ?_ _)); refine blk_put (cs := #[.slice none 0 0]) ?_ 0 _ rfl; (with_reducible repeat (first | refine blk_drewN ?_ _ | refine blk_drew ?_ | refine blk_alloc ?_ _)); exact BK270.out) hb); have n4_ := aM8_ (below_step q8x4_ hb); clear HO264; clear HO269; clear BK260; clear BK270; clear HB; have HO264 := n0_; have HO269 := n1_; have BK260 := n2_; have BK270 := n3_; have HB := n4_; clear n0_ n1_ n2_ n3_ n4_; (try clear hb); (try clear hb2); (try clear hk); (try clear hi)))
 (try simp only [Act.put, List.setIfInBounds_toArray, List.set_cons_zero, List.set_cons_succ])
 go_cut [34] (fun v34 wc => ∃ (kq : Nat) (x34_10 : Bool), v34 = .bool x34_10 ∧ Aside0 (laws_FnExactIsProductive.j0 kq x34_10 l0_0 t267 = some r) ∧ Aside0 (kq ≤ k) ∧ Aside0 (Kd.R k77 77 wc w.heap.size (fun _ => True) (.slice Ao22 t267.length co22) t267) ∧ Aside0 (wc.heap[gb260]? = some (.cells #[(.slice A0_0 l0_0.length c0_0)] 31 (0, 0))) ∧ Aside0 (wc.heap[gb270]? = some (.cells #[(.slice Ao22 t267.length co22)] 24 (0, 0))) ∧ Aside0 (Below w.heap.size w wc))
 case first =>
  have H := HC11.out
  clear HC11
  by_cases c26 : (t271 != t265) = true
  ·rw [if_pos c26] at H
   have c26b0 : (t271 != t265) = true := c26
   (try (have c26b1 : decide (t271 = t265) = false := by simpa using c26))
   (try (have c26b2 : (t271 == t265) = false := by simpa using c26))
   (try (have c26b3 : ¬ (t271 = t265) := by simpa using c26))
   clear c26
   (first | rw [c26b0] | (simp only [i64_w, i32_w]; rw [c26b0]) | skip)
   have H' := aM8_ H
   clear H
   go_wp2
   go_meet
   case rel => exact ⟨_, (true), (by first | rfl | (simp; done) | (simp [*]; done)), H', ⟨by first | omega | exact Nat.le_refl _⟩, ⟨by (with_reducible repeat (first | apply Kd.R_alloc | apply Kd.R_drewN | apply Kd.R_drew)); exact Kd.R_mono HO269.out (fun _ hk => trivial)⟩, ⟨by (with_reducible repeat (first | refine blk_drewN ?_ _ | refine blk_drew ?_ | refine blk_alloc ?_ _)); exact BK260.out⟩, ⟨by (with_reducible repeat (first | refine blk_drewN ?_ _ | refine blk_drew ?_ | refine blk_alloc ?_ _)); exact BK270.out⟩, ⟨by repeat (first | (with_reducible first | exact HB.out | apply below_alloc | apply pw_below_drewN | apply below_drew1 | refine below_set ?_ GE260.out | refine below_set ?_ GE270.out) | exact HB.out)⟩⟩
  rw [if_neg c26] at H
  have c26b0 : (t271 != t265) = false := by simpa using c26
  (try (have c26b1 : decide (t271 = t265) = true := by simpa using c26))
  (try (have c26b2 : (t271 == t265) = true := by simpa using c26))
  clear c26
  (first | rw [c26b0] | (simp only [i64_w, i32_w]; rw [c26b0]) | skip)
  have H' := aM8_ H
  clear H
  go_wp2
  go_meet
  case rel => exact ⟨_, ((t272 != t266)), (by first | rfl | (simp; done) | (simp [*]; done)), H', ⟨by first | omega | exact Nat.le_refl _⟩, ⟨by (with_reducible repeat (first | apply Kd.R_alloc | apply Kd.R_drewN | apply Kd.R_drew)); exact Kd.R_mono HO269.out (fun _ hk => trivial)⟩, ⟨by (with_reducible repeat (first | refine blk_drewN ?_ _ | refine blk_drew ?_ | refine blk_alloc ?_ _)); exact BK260.out⟩, ⟨by (with_reducible repeat (first | refine blk_drewN ?_ _ | refine blk_drew ?_ | refine blk_alloc ?_ _)); exact BK270.out⟩, ⟨by repeat (first | (with_reducible first | exact HB.out | apply below_alloc | apply pw_below_drewN | apply below_drew1 | refine below_set ?_ GE260.out | refine below_set ?_ GE270.out) | exact HB.out)⟩⟩
 case rest =>
  clear HC11
  try clear c2
  try clear p2
  try clear c3
  try clear c3b0
  try clear c8
  try clear c23
  try clear c24
  try clear c26
  try clear c26b0
  try clear c26b1
  try clear c26b2
  try clear hcz13_0
  try clear hcz15_0
  try clear hcz19_0
  try clear hcz24_0
  try clear hcz5_0
  try clear hfz13_0
  try clear hfz15_0
  try clear hfz19_0
  try clear hfz24_0
  try clear hfz5_0
  obtain ⟨kq, x34_10, rfl, HA, HJ10, HO_271000, BK260, BK270, HB⟩ := hcut
  cases kq with
  | zero => exact absurd HA.out (by simp [laws_FnExactIsProductive.j0])
  | succ kj10 =>
   have H := HA.out
   clear HA
   simp only [laws_FnExactIsProductive.j0] at H
   by_cases c27 : x34_10 = true
   ·subst c27
    have H1 : (some false) = some r := by rw [if_pos rfl] at H; exact H
    clear H
    have H := H1
    clear H1
    obtain rfl := Option.some.inj H
    go_wp2
    go_ret
    exact ⟨by first | rfl | (simp [errW_none, errW_some] <;> rfl) | (simp [*, errW_none, errW_some] <;> rfl), by repeat (first | (with_reducible first | exact HB.out | apply below_alloc | apply pw_below_drewN | apply below_drew1 | refine below_set ?_ GE260.out | refine below_set ?_ GE270.out) | exact HB.out)⟩
   replace c27 := Bool.eq_false_iff.mpr c27
   subst c27
   have H1 : ((laws_toTree.f kj10 l0_0).bind fun t273 => ((laws_eqTree.f kj10 t267 t273).bind fun t276 => (if t276 = true then (some true) else (some false)))) = some r := by rw [if_neg (show ¬ (false = true) by decide)] at H; exact H
   clear H
   have H := H1
   clear H1
   replace H := Option.bind_eq_some_iff.mp H
   obtain ⟨t273, A280, H⟩ := H
   replace H : ((laws_eqTree.f kj10 t267 t273).bind fun t276 => (if t276 = true then (some true) else (some false))) = some r := H
   have A28 := aM8_ A280
   clear A280
   replace H := Option.bind_eq_some_iff.mp H
   obtain ⟨t276, A290, H⟩ := H
   replace H : (if t276 = true then (some true) else (some false)) = some r := H
   have A29 := aM8_ A290
   clear A290
   by_cases c30 : t276 = true
   ·subst c30
    have H1 : (some true) = some r := by rw [if_pos rfl] at H; exact H
    clear H
    have H := H1
    clear H1
    obtain rfl := Option.some.inj H
    try go_wp2
    have n0_ := aM8_ (Kd.R_drew HO_271000.out)
    have n1_ := aM8_ (blk_drew BK260.out)
    have n2_ := aM8_ (blk_drew BK270.out)
    have n3_ := aM8_ (below_drew1 HB.out)
    clear HO_271000 BK260 BK270 HB
    have HO_271000 := n0_
    have BK260 := n1_
    have BK270 := n2_
    have HB := n3_
    clear n0_ n1_ n2_ n3_
    refine start_ (n := 5) (S := fun w' => w'.cell? ⟨gb270, 0, none⟩ = some (.slice Ao22 t267.length co22) ∧ w'.cell? ⟨gb260, 0, none⟩ = some (.slice A0_0 l0_0.length c0_0)) (ds := []) #[false, false, false, false, false] (by kernel_rfl) rfl rfl ⟨(blk_cell BK270.out 0).trans rfl, (blk_cell BK260.out 0).trans rfl⟩ (fun hHeld => ?_)
    generalize wc.drew = w31 at HO_271000 BK260 BK270 HB hHeld ⊢
    refine take_ (i := 0) (N := some 35) (v := ?_) (a' := ?_) #[true, false, false, false, false] rfl rfl (by kernel_rfl) (fun _ _ _ h => h) (Or.inl ⟨by rfl, ?_⟩) hHeld ?_ ?_
    rotate_left
    ·rintro w' ⟨s0, s1⟩
     go_simp
     with_reducible rfl
    rotate_left
    ·exact q8x10_
    refine take_ (i := 1) (N := some 36) (v := ?_) (a' := ?_) #[true, true, false, false, false] rfl rfl (by kernel_rfl) (fun _ _ _ h => h) (Or.inl ⟨by rfl, ?_⟩) hHeld ?_ ?_
    rotate_left
    ·rintro w' ⟨s0, s1⟩
     go_simp
     with_reducible rfl
    rotate_left
    ·exact q8x10_
    refine one_ (i := 2) (N := some 37) #[true, true, true, false, false] rfl rfl (by kernel_rfl) (by decide) (fun K hK => ?_)
    refine goes_ Try.func26 (by kernel_rfl) rfl #[.agg #[.slice A0_0 l0_0.length c0_0]] (by rfl) rfl rfl q8x3_ ?_
    with_reducible refine (laws_toTree.calls kj10 _ _ l0_0 t273 _ ?side1 ?side2 A28.out).mono ?_
    (case side1 => repeat (first | exact (Kd.C_below HR0_0.out HB.out) | (with_reducible refine Kd.C_alloc ?_ _) | (with_reducible refine Kd.C_drewN ?_ _) | (with_reducible refine Kd.C_drew ?_)))
    (case side2 => exact HC0_0.out)
    rintro e w32 ⟨v274, rfl, ho0, hb⟩
    refine ⟨_, rfl, ?_⟩
    have n0_ := aM8_ (Kd.R_elder' q8x6_ (Kd.R_base ho0) hb)
    have n1_ := aM8_ (Kd.R_lower (Kd.R_new' ho0 (Kd.R_lt q8x6_)) (below_size q8x4_))
    have n2_ := aM8_ (blk_below (g := gb260) (o := .cells #[.slice A0_0 l0_0.length c0_0] 31 (0, 0)) q8x2_ hb)
    have n3_ := aM8_ (blk_below (g := gb270) (o := .cells #[.slice Ao22 t267.length co22] 24 (0, 0)) q8x7_ hb)
    have n4_ := aM8_ (below_step q8x4_ hb)
    clear HO_271000 BK260 BK270 HB
    have HO_271000 := n0_
    have HO275 := n1_
    have BK260 := n2_
    have BK270 := n3_
    have HB := n4_
    clear n0_ n1_ n2_ n3_ n4_
    (try clear hb)
    (try clear hb2)
    (try clear hk)
    (try clear hi)
    (try clear ho0)
    obtain ⟨Ao33, co33, eo33⟩ := Kd.R_slice HO275.out
    (first | subst eo33 | (injection eo33 with f1_ f2_ f3_; have f4_ := f1_.symm; have f5_ := f3_.symm; clear f1_ f2_ f3_; subst f4_; subst f5_))
    refine hK.out _ _ ⟨(blk_cell BK270.out 0).trans rfl, (blk_cell BK260.out 0).trans rfl⟩ (fun hHeld => ?_)
    clear hK K
    refine norm_ (a' := ?_) ?_ ?_
    rotate_left
    ·show Act.put _ (some 37) _ = _
     simp only [Act.put, List.setIfInBounds_toArray, List.set_cons_zero, List.set_cons_succ, i64_w, i32_w]
     rfl
    refine one_ (i := 3) (N := some 38) #[true, true, true, true, false] rfl rfl (by kernel_rfl) (by decide) (fun K hK => ?_)
    refine goes_ Try.func17 (by kernel_rfl) rfl #[.agg #[.slice Ao22 t267.length co22], .agg #[.slice Ao33 t273.length co33]] (by rfl) rfl rfl q8x3_ ?_
    with_reducible refine (laws_eqTree.calls kj10 _ _ t267 _ _ t273 true _ ?side1 ?side2 ?side3 ?side4 A29.out).mono ?_
    (case side1 => repeat (first | exact (Kd.R_reads' HO_271000.out).2.2 | (with_reducible refine Kd.C_alloc ?_ _) | (with_reducible refine Kd.C_drewN ?_ _) | (with_reducible refine Kd.C_drew ?_)))
    (case side2 => exact (Kd.R_reads' HO_271000.out).2.1)
    (case side3 => repeat (first | exact (Kd.R_reads' HO275.out).2.2 | (with_reducible refine Kd.C_alloc ?_ _) | (with_reducible refine Kd.C_drewN ?_ _) | (with_reducible refine Kd.C_drew ?_)))
    (case side4 => exact (Kd.R_reads' HO275.out).2.1)
    rintro e w34 ⟨rfl, hb⟩
    refine ⟨_, rfl, ?_⟩
    have n0_ := aM8_ (Kd.R_below q8x6_ hb)
    have n1_ := aM8_ (Kd.R_below (by (with_reducible repeat (first | apply Kd.R_alloc | apply Kd.R_drewN | apply Kd.R_drew)); exact HO275.out) hb)
    have n2_ := aM8_ (blk_below (g := gb260) (o := .cells #[.slice A0_0 l0_0.length c0_0] 31 (0, 0)) q8x2_ hb)
    have n3_ := aM8_ (blk_below (g := gb270) (o := .cells #[.slice Ao22 t267.length co22] 24 (0, 0)) q8x7_ hb)
    have n4_ := aM8_ (below_step q8x4_ hb)
    clear HO_271000 HO275 BK260 BK270 HB
    have HO_271000 := n0_
    have HO275 := n1_
    have BK260 := n2_
    have BK270 := n3_
    have HB := n4_
    clear n0_ n1_ n2_ n3_ n4_
    (try clear hb)
    (try clear hb2)
    (try clear hk)
    (try clear hi)
    refine hK.out _ _ ⟨(blk_cell BK270.out 0).trans rfl, (blk_cell BK260.out 0).trans rfl⟩ (fun hHeld => ?_)
    clear hK K
    refine norm_ (a' := ?_) ?_ ?_
    rotate_left
    ·show Act.put _ (some 38) _ = _
     simp only [Act.put, List.setIfInBounds_toArray, List.set_cons_zero, List.set_cons_succ, i64_w, i32_w]
     rfl
    refine pure_ (i := 4) (N := some 39) (v := ?_) (a' := ?_) #[true, true, true, true, true] rfl rfl (by kernel_rfl) (fun _ _ _ h => h) (Or.inl ⟨by rfl, ?_⟩) ?_ ?_
    rotate_left
    ·intro w'
     go_simp
     with_reducible rfl
    rotate_left
    ·exact q8x10_
    refine done_ (by kernel_rfl) ?_
    try go_wp2
    go_ret
    exact ⟨by first | rfl | (simp [errW_none, errW_some] <;> rfl) | (simp [*, errW_none, errW_some] <;> rfl), by repeat (first | (with_reducible first | exact HB.out | apply below_alloc | apply pw_below_drewN | apply below_drew1 | refine below_set ?_ GE260.out | refine below_set ?_ GE270.out) | exact HB.out)⟩
   replace c30 := Bool.eq_false_iff.mpr c30
   subst c30
   have H1 : (some false) = some r := by rw [if_neg (show ¬ (false = true) by decide)] at H; exact H
   clear H
   have H := H1
   clear H1
   obtain rfl := Option.some.inj H
   try go_wp2
   have n0_ := aM8_ (Kd.R_drew HO_271000.out)
   have n1_ := aM8_ (blk_drew BK260.out)
   have n2_ := aM8_ (blk_drew BK270.out)
   have n3_ := aM8_ (below_drew1 HB.out)
   clear HO_271000 BK260 BK270 HB
   have HO_271000 := n0_
   have BK260 := n1_
   have BK270 := n2_
   have HB := n3_
   clear n0_ n1_ n2_ n3_
   refine start_ (n := 5) (S := fun w' => w'.cell? ⟨gb270, 0, none⟩ = some (.slice Ao22 t267.length co22) ∧ w'.cell? ⟨gb260, 0, none⟩ = some (.slice A0_0 l0_0.length c0_0)) (ds := []) #[false, false, false, false, false] (by kernel_rfl) rfl rfl ⟨(blk_cell BK270.out 0).trans rfl, (blk_cell BK260.out 0).trans rfl⟩ (fun hHeld => ?_)
   generalize wc.drew = w35 at HO_271000 BK260 BK270 HB hHeld ⊢
   refine take_ (i := 0) (N := some 35) (v := ?_) (a' := ?_) #[true, false, false, false, false] rfl rfl (by kernel_rfl) (fun _ _ _ h => h) (Or.inl ⟨by rfl, ?_⟩) hHeld ?_ ?_
   rotate_left
   ·rintro w' ⟨s0, s1⟩
    go_simp
    with_reducible rfl
   rotate_left
   ·exact q8x10_
   refine take_ (i := 1) (N := some 36) (v := ?_) (a' := ?_) #[true, true, false, false, false] rfl rfl (by kernel_rfl) (fun _ _ _ h => h) (Or.inl ⟨by rfl, ?_⟩) hHeld ?_ ?_
   rotate_left
   ·rintro w' ⟨s0, s1⟩
    go_simp
    with_reducible rfl
   rotate_left
   ·exact q8x10_
   refine one_ (i := 2) (N := some 37) #[true, true, true, false, false] rfl rfl (by kernel_rfl) (by decide) (fun K hK => ?_)
   refine goes_ Try.func26 (by kernel_rfl) rfl #[.agg #[.slice A0_0 l0_0.length c0_0]] (by rfl) rfl rfl q8x3_ ?_
   with_reducible refine (laws_toTree.calls kj10 _ _ l0_0 t273 _ ?side1 ?side2 A28.out).mono ?_
   (case side1 => repeat (first | exact (Kd.C_below HR0_0.out HB.out) | (with_reducible refine Kd.C_alloc ?_ _) | (with_reducible refine Kd.C_drewN ?_ _) | (with_reducible refine Kd.C_drew ?_)))
   (case side2 => exact HC0_0.out)
   rintro e w36 ⟨v274, rfl, ho0, hb⟩
   refine ⟨_, rfl, ?_⟩
   have n0_ := aM8_ (Kd.R_elder' q8x6_ (Kd.R_base ho0) hb)
   have n1_ := aM8_ (Kd.R_lower (Kd.R_new' ho0 (Kd.R_lt q8x6_)) (below_size q8x4_))
   have n2_ := aM8_ (blk_below (g := gb260) (o := .cells #[.slice A0_0 l0_0.length c0_0] 31 (0, 0)) q8x2_ hb)
   have n3_ := aM8_ (blk_below (g := gb270) (o := .cells #[.slice Ao22 t267.length co22] 24 (0, 0)) q8x7_ hb)
   have n4_ := aM8_ (below_step q8x4_ hb)
   clear HO_271000 BK260 BK270 HB
   have HO_271000 := n0_
   have HO275 := n1_
   have BK260 := n2_
   have BK270 := n3_
   have HB := n4_
   clear n0_ n1_ n2_ n3_ n4_
   (try clear hb)
   (try clear hb2)
   (try clear hk)
   (try clear hi)
   (try clear ho0)
   obtain ⟨Ao37, co37, eo37⟩ := Kd.R_slice HO275.out
   (first | subst eo37 | (injection eo37 with f1_ f2_ f3_; have f4_ := f1_.symm; have f5_ := f3_.symm; clear f1_ f2_ f3_; subst f4_; subst f5_))
   refine hK.out _ _ ⟨(blk_cell BK270.out 0).trans rfl, (blk_cell BK260.out 0).trans rfl⟩ (fun hHeld => ?_)
   clear hK K
   refine norm_ (a' := ?_) ?_ ?_
   rotate_left
   ·show Act.put _ (some 37) _ = _
    simp only [Act.put, List.setIfInBounds_toArray, List.set_cons_zero, List.set_cons_succ, i64_w, i32_w]
    rfl
   refine one_ (i := 3) (N := some 38) #[true, true, true, true, false] rfl rfl (by kernel_rfl) (by decide) (fun K hK => ?_)
   refine goes_ Try.func17 (by kernel_rfl) rfl #[.agg #[.slice Ao22 t267.length co22], .agg #[.slice Ao37 t273.length co37]] (by rfl) rfl rfl q8x3_ ?_
   with_reducible refine (laws_eqTree.calls kj10 _ _ t267 _ _ t273 false _ ?side1 ?side2 ?side3 ?side4 A29.out).mono ?_
   (case side1 => repeat (first | exact (Kd.R_reads' HO_271000.out).2.2 | (with_reducible refine Kd.C_alloc ?_ _) | (with_reducible refine Kd.C_drewN ?_ _) | (with_reducible refine Kd.C_drew ?_)))
   (case side2 => exact (Kd.R_reads' HO_271000.out).2.1)
   (case side3 => repeat (first | exact (Kd.R_reads' HO275.out).2.2 | (with_reducible refine Kd.C_alloc ?_ _) | (with_reducible refine Kd.C_drewN ?_ _) | (with_reducible refine Kd.C_drew ?_)))
   (case side4 => exact (Kd.R_reads' HO275.out).2.1)
   rintro e w38 ⟨rfl, hb⟩
   refine ⟨_, rfl, ?_⟩
   have n0_ := aM8_ (Kd.R_below q8x6_ hb)
   have n1_ := aM8_ (Kd.R_below (by (with_reducible repeat (first | apply Kd.R_alloc | apply Kd.R_drewN | apply Kd.R_drew)); exact HO275.out) hb)
   have n2_ := aM8_ (blk_below (g := gb260) (o := .cells #[.slice A0_0 l0_0.length c0_0] 31 (0, 0)) q8x2_ hb)
   have n3_ := aM8_ (blk_below (g := gb270) (o := .cells #[.slice Ao22 t267.length co22] 24 (0, 0)) q8x7_ hb)
   have n4_ := aM8_ (below_step q8x4_ hb)
   clear HO_271000 HO275 BK260 BK270 HB
   have HO_271000 := n0_
   have HO275 := n1_
   have BK260 := n2_
   have BK270 := n3_
   have HB := n4_
   clear n0_ n1_ n2_ n3_ n4_
   (try clear hb)
   (try clear hb2)
   (try clear hk)
   (try clear hi)
   refine hK.out _ _ ⟨(blk_cell BK270.out 0).trans rfl, (blk_cell BK260.out 0).trans rfl⟩ (fun hHeld => ?_)
   clear hK K
   refine norm_ (a' := ?_) ?_ ?_
   rotate_left
   ·show Act.put _ (some 38) _ = _
    simp only [Act.put, List.setIfInBounds_toArray, List.set_cons_zero, List.set_cons_succ, i64_w, i32_w]
    rfl
   refine pure_ (i := 4) (N := some 39) (v := ?_) (a' := ?_) #[true, true, true, true, true] rfl rfl (by kernel_rfl) (fun _ _ _ h => h) (Or.inl ⟨by rfl, ?_⟩) ?_ ?_
   rotate_left
   ·intro w'
    go_simp
    with_reducible rfl
   rotate_left
   ·exact q8x10_
   refine done_ (by kernel_rfl) ?_
   try go_wp2
   go_ret
   exact ⟨by first | rfl | (simp [errW_none, errW_some] <;> rfl) | (simp [*, errW_none, errW_some] <;> rfl), by repeat (first | (with_reducible first | exact HB.out | apply below_alloc | apply pw_below_drewN | apply below_drew1 | refine below_set ?_ GE260.out | refine below_set ?_ GE270.out) | exact HB.out)⟩

/-! ### the law's arguments -/
def WF75 (x : S75) : Prop := ((-32768) ≤ x.f0 ∧ x.f0 ≤ 32767) ∧ ((-32768) ≤ x.f1 ∧ x.f1 ≤ 32767) ∧ ((-32768) ≤ x.f2 ∧ x.f2 ≤ 32767)
set_option maxRecDepth 100000 in
theorem op75 {H : Type} {enc : TypeId × Value → H} {w : World} : Opens enc Try.prog w 75 k75 WF75 := by
 intro fuel cs x h hz
 obtain ⟨xs, m, rfl, rfl, hl, hn, hf⟩ := DataW.trod_array Try.underlying75 h
 have hl0 : cs.length = 3 := hl.trans (by kernel_rfl)
 have hn0 : xs.length = 3 := hn
 obtain ⟨x0, xs0, rfl, hn1⟩ := consX_of hn0
 obtain ⟨x1, xs1, rfl, hn2⟩ := consX_of hn1
 obtain ⟨x2, xs2, rfl, hn3⟩ := consX_of hn2
 obtain rfl := List.eq_nil_of_length_eq_zero hn3
 obtain ⟨c0, cs0, rfl, hl1⟩ := cons_of hl0
 obtain ⟨c1, cs1, rfl, hl2⟩ := cons_of hl1
 obtain ⟨c2, cs2, rfl, hl3⟩ := cons_of hl2
 obtain rfl := List.eq_nil_of_length_eq_zero hl3
 have h0 : DataW.trod enc Try.prog w 0 (fun _ => true) true m 74 [c0] = some x0 := by
  have h_ := hf 0 (by omega)
  rw [show Try.prog.cellsOf 74 = 1 from by kernel_rfl] at h_
  exact h_
 obtain ⟨a0, hk0, hw0⟩ := (opens_int Try.underlying74 wfB_i16) _ _ _ h0 (weight_array Try.underlying75 hz (j := 0) rfl)
 have h1 : DataW.trod enc Try.prog w 0 (fun _ => true) true m 74 [c1] = some x1 := by
  have h_ := hf 1 (by omega)
  rw [show Try.prog.cellsOf 74 = 1 from by kernel_rfl] at h_
  exact h_
 obtain ⟨a1, hk1, hw1⟩ := (opens_int Try.underlying74 wfB_i16) _ _ _ h1 (weight_array Try.underlying75 hz (j := 1) rfl)
 have h2 : DataW.trod enc Try.prog w 0 (fun _ => true) true m 74 [c2] = some x2 := by
  have h_ := hf 2 (by omega)
  rw [show Try.prog.cellsOf 74 = 1 from by kernel_rfl] at h_
  exact h_
 obtain ⟨a2, hk2, hw2⟩ := (opens_int Try.underlying74 wfB_i16) _ _ _ h2 (weight_array Try.underlying75 hz (j := 2) rfl)
 exact ⟨⟨a0, a1, a2⟩, ⟨[c0], [c1, c2], rfl, hk0, ⟨[c1], [c2], rfl, hk1, hk2⟩⟩, ⟨hw0, hw1, hw2⟩⟩
def WF129 (x : S129) : Prop := ((-128) ≤ x.f0 ∧ x.f0 ≤ 127) ∧ ((-128) ≤ x.f1 ∧ x.f1 ≤ 127) ∧ (WF75 x.f2)
set_option maxRecDepth 100000 in
theorem op129 {H : Type} {enc : TypeId × Value → H} {w : World} : Opens enc Try.prog w 129 k129 WF129 := by
 intro fuel cs x h hz
 obtain ⟨xs, m, rfl, rfl, hl, hn, hf⟩ := DataW.trod_struct Try.underlying129 h
 have hl0 : cs.length = 5 := hl.trans (by kernel_rfl)
 have hn0 : xs.length = 3 := hn
 obtain ⟨x0, xs0, rfl, hn1⟩ := consX_of hn0
 obtain ⟨x1, xs1, rfl, hn2⟩ := consX_of hn1
 obtain ⟨x2, xs2, rfl, hn3⟩ := consX_of hn2
 obtain rfl := List.eq_nil_of_length_eq_zero hn3
 obtain ⟨c0, cs0, rfl, hl1⟩ := cons_of hl0
 obtain ⟨c1, cs1, rfl, hl2⟩ := cons_of hl1
 obtain ⟨c2, cs2, rfl, hl3⟩ := cons_of hl2
 obtain ⟨c3, cs3, rfl, hl4⟩ := cons_of hl3
 obtain ⟨c4, cs4, rfl, hl5⟩ := cons_of hl4
 obtain rfl := List.eq_nil_of_length_eq_zero hl5
 have h0 : DataW.trod enc Try.prog w 0 (fun _ => true) true m 73 [c0] = some x0 := by
  have h_ : DataW.trod enc Try.prog w 0 (fun _ => true) true m 73 (([c0, c1, c2, c3, c4].drop 0).take (Try.prog.cellsOf 73)) = [x0, x1, x2][0]? := by
   have h2_ := hf 0 _ rfl
   exact h2_
  rw [show Try.prog.cellsOf 73 = 1 from by kernel_rfl] at h_
  exact h_
 obtain ⟨a0, hk0, hw0⟩ := (opens_int Try.underlying73 wfB_i8) _ _ _ h0 (weight_struct Try.underlying129 hz (j := 0) rfl rfl)
 have h1 : DataW.trod enc Try.prog w 0 (fun _ => true) true m 73 [c1] = some x1 := by
  have h_ : DataW.trod enc Try.prog w 0 (fun _ => true) true m 73 (([c0, c1, c2, c3, c4].drop 1).take (Try.prog.cellsOf 73)) = [x0, x1, x2][1]? := by
   have h2_ := hf 1 _ rfl
   exact h2_
  rw [show Try.prog.cellsOf 73 = 1 from by kernel_rfl] at h_
  exact h_
 obtain ⟨a1, hk1, hw1⟩ := (opens_int Try.underlying73 wfB_i8) _ _ _ h1 (weight_struct Try.underlying129 hz (j := 1) rfl rfl)
 have h2 : DataW.trod enc Try.prog w 0 (fun _ => true) true m 75 [c2, c3, c4] = some x2 := by
  have h_ : DataW.trod enc Try.prog w 0 (fun _ => true) true m 75 (([c0, c1, c2, c3, c4].drop 2).take (Try.prog.cellsOf 75)) = [x0, x1, x2][2]? := by
   have h2_ := hf 2 _ rfl
   exact h2_
  rw [show Try.prog.cellsOf 75 = 3 from by kernel_rfl] at h_
  exact h_
 obtain ⟨a2, hk2, hw2⟩ := op75 _ _ _ h2 (weight_struct Try.underlying129 hz (j := 2) rfl rfl)
 exact ⟨⟨a0, a1, a2⟩, ⟨[c0], [c1, c2, c3, c4], rfl, hk0, ⟨[c1], [c2, c3, c4], rfl, hk1, hk2⟩⟩, ⟨hw0, hw1, hw2⟩⟩
def WF31 (x : S31) : Prop := (x.f0.length * 8 ≤ 140737488351232 ∧ ∀ z_ ∈ x.f0, WF129 z_)
set_option maxRecDepth 100000 in
theorem op31 {H : Type} {enc : TypeId × Value → H} {w : World} : Opens enc Try.prog w 31 k31 WF31 := by
 intro fuel cs x h hz
 obtain ⟨xs, m, rfl, rfl, hl, hn, hf⟩ := DataW.trod_struct Try.underlying31 h
 have hl0 : cs.length = 1 := hl.trans (by kernel_rfl)
 have hn0 : xs.length = 1 := hn
 obtain ⟨x0, xs0, rfl, hn1⟩ := consX_of hn0
 obtain rfl := List.eq_nil_of_length_eq_zero hn1
 obtain ⟨c0, cs0, rfl, hl1⟩ := cons_of hl0
 obtain rfl := List.eq_nil_of_length_eq_zero hl1
 have h0 : DataW.trod enc Try.prog w 0 (fun _ => true) true m 29 [c0] = some x0 := by
  have h_ : DataW.trod enc Try.prog w 0 (fun _ => true) true m 29 (([c0].drop 0).take (Try.prog.cellsOf 29)) = [x0][0]? := by
   have h2_ := hf 0 _ rfl
   exact h2_
  rw [show Try.prog.cellsOf 29 = 1 from by kernel_rfl] at h_
  exact h_
 obtain ⟨a0, hk0, hw0⟩ := (opens_slice Try.underlying29 (by kernel_rfl) (by kernel_rfl) op129) _ _ _ h0 (weight_struct Try.underlying31 hz (j := 0) rfl rfl)
 exact ⟨⟨a0⟩, hk0, hw0⟩
/-- THE ONE PURE STATEMENT of laws_FnExactIsProductive. -/
def laws_FnExactIsProductive.Pure : Prop := ∀ (x0 : S31), (WF31 x0) → ∃ k, laws_FnExactIsProductive.f k x0.f0 = some true
theorem laws_FnExactIsProductive.walk (P_ : laws_FnExactIsProductive.Pure) (w : World) (x0 : S31) (A0_0 : Option Addr) (c0_0 : Nat) (hr0_0 : Kd.C k129 w A0_0 x0.f0.length x0.f0) (hc0_0 : x0.f0.length ≤ c0_0) (hw0 : WF31 x0) :
  Calls Try.prog 8 #[.agg #[.slice A0_0 x0.f0.length c0_0]] w fun e w' => e = .returned (.bool true) ∧ Below w.heap.size w w' := by
 obtain ⟨k, h⟩ := P_ x0 hw0
 refine (laws_FnExactIsProductive.calls k _ _ x0.f0 true w hr0_0 hc0_0 h).mono ?_
 rintro e w' ⟨rfl, hd⟩
 exact ⟨rfl, hd⟩

end Go.Proofs.Ytlccefmimpmgjaa.MFnExactIsProductive
