/- Functions of the program as Lean functions, and the proof that the code comes to what they say. Written by a program of this session (myprint.py). -/
import Derived.Test.YtfenifdigjcmiaaMFnExactNormalStreamx0
import Derived.Test.YtfenifdigjcmiaaMFnExactNormalStreamx1
import Derived.Test.YtfenifdigjcmiaaMFnExactNormalStreamx3
import Derived.Test.YtfenifdigjcmiaaMFnExactNormalStreamx5
namespace Go.Proofs.Ytfenifdigjcmiaa.MFnExactNormalStream
open Go.RowKit Go.Proofs.Ytfenifdigjcmiaa.MOpen Go.Proofs.YtfenifdigjcmiaaW.PrintWords Go.Proofs.YtfenifdigjcmiaaW.PrintLast Go.Proofs.YtfenifdigjcmiaaW.PrintMore
attribute [local go_sem] max2_int min2_int max_two min_two max_three min_three max_four min_four   -- for this text's walks alone
set_option linter.unusedVariables false
set_option linter.unusedSimpArgs false

set_option linter.defProp false
def rA_ := @Kd.R_alloc
def rN_ := @Kd.R_drewN
def rD_ := @Kd.R_drew
def kA_ := @blk_alloc
def kN_ := @blk_drewN
def kD_ := @blk_drew
def bS_ := @below_set
def aM_ := @Aside0.mk
def bA_ := @below_alloc
def bN_ := @pw_below_drewN
def bD_ := @below_drew1
/-! ### laws_FnExactNormalStream: function 4 -/
mutual
def laws_FnExactNormalStream.j0 : Nat → Int → Int → Bool → List Int → List Int → List Int → List Int → List Int → List Int → List Int → List Int → Option (Bool)
 | 0, _, _, _, _, _, _, _, _, _, _, _ => none
 | k + 1, x5, x8, x40, x234000, x234001, x249000, x249001, x256000, x256001, x264000, x264001 => if x40 = true then (some false) else ((laws_toStream.f k x234000 x234001).bind fun bt265 => ((laws_eqStream.f k x256000 x256001 bt265.1 bt265.2).bind fun t271 => (if t271 = true then ((laws_markStream.f k x256000 x256001 1).bind fun bt272 => (if bt272.1 < 0 then (laws_FnExactNormalStream.j1 k x5 true x234000 x234001 x249000 x249001 x264000 x264001) else ((laws_eqStream.f k x264000 x264001 x249000 x249001).bind fun t275 => (if t275 = true then (laws_FnExactNormalStream.j1 k x5 (x8 != x5) x234000 x234001 x249000 x249001 x264000 x264001) else (laws_FnExactNormalStream.j1 k x5 true x234000 x234001 x249000 x249001 x264000 x264001))))) else (some false))))
def laws_FnExactNormalStream.j1 : Nat → Int → Bool → List Int → List Int → List Int → List Int → List Int → List Int → Option (Bool)
 | 0, _, _, _, _, _, _, _, _ => none
 | k + 1, x5, x61, x234000, x234001, x249000, x249001, x264000, x264001 => if x61 = true then (some false) else ((laws_markStream.f k x264000 x264001 1).bind fun bt276 => ((laws_heldStream.f k bt276.2.1 bt276.2.2 1).bind fun t279 => (if t279 < 0 then (some false) else (if t279 = bt276.1 then ((laws_toStream.f k x234000 x234001).bind fun bt280 => ((impl_NormalStream.f k bt280.1 bt280.2).bind fun bt286 => ((laws_eqStream.f k bt286.1 bt286.2.1 x249000 x249001).bind fun t294 => (if t294 = true then (laws_FnExactNormalStream.j2 k bt276.1 (bt286.2.2 != x5) bt276.2.1 bt276.2.2) else (laws_FnExactNormalStream.j2 k bt276.1 true bt276.2.1 bt276.2.2))))) else (some false)))))
def laws_FnExactNormalStream.j2 : Nat → Int → Bool → List Int → List Int → Option (Bool)
 | 0, _, _, _, _ => none
 | k + 1, x10, x87, x264000, x264001 => if x87 = true then (some false) else ((laws_heldStream.f k x264000 x264001 1).bind fun t295 => (if t295 < 0 then (some false) else (if t295 = x10 then (some true) else (some false))))
end
def laws_FnExactNormalStream.f (k : Nat) (l0_0 : List Int) (l0_1 : List Int) : Option (Bool) := (laws_szStream.f l0_0 l0_1 1048576).bind fun t234 => (if t234 < 0 then (some true) else ((laws_toStream.f k l0_0 l0_1).bind fun bt235 => ((spec_NormalStream.f k bt235.1 bt235.2).bind fun bt241 => ((laws_toStream.f k l0_0 l0_1).bind fun bt249 => ((impl_NormalStream.f k bt249.1 bt249.2).bind fun bt256 => ((laws_eqStream.f k bt256.1 bt256.2.1 bt241.1 bt241.2.1).bind fun t264 => (if t264 = true then (laws_FnExactNormalStream.j0 k bt241.2.2 bt256.2.2 (bt256.2.2 != bt241.2.2) l0_0 l0_1 bt241.1 bt241.2.1 bt249.1 bt249.2 bt256.1 bt256.2.1) else (laws_FnExactNormalStream.j0 k bt241.2.2 bt256.2.2 true l0_0 l0_1 bt241.1 bt241.2.1 bt249.1 bt249.2 bt256.1 bt256.2.1))))))))
theorem laws_FnExactNormalStream.mono_l : ∀ k, (∀ y0 y1 y2 y3 y4 y5 y6 y7 y8 y9 y10, LeO (laws_FnExactNormalStream.j0 k y0 y1 y2 y3 y4 y5 y6 y7 y8 y9 y10) (laws_FnExactNormalStream.j0 (k + 1) y0 y1 y2 y3 y4 y5 y6 y7 y8 y9 y10)) ∧ (∀ y0 y1 y2 y3 y4 y5 y6 y7, LeO (laws_FnExactNormalStream.j1 k y0 y1 y2 y3 y4 y5 y6 y7) (laws_FnExactNormalStream.j1 (k + 1) y0 y1 y2 y3 y4 y5 y6 y7)) ∧ (∀ y0 y1 y2 y3, LeO (laws_FnExactNormalStream.j2 k y0 y1 y2 y3) (laws_FnExactNormalStream.j2 (k + 1) y0 y1 y2 y3))
 | 0 => ⟨fun _ _ _ _ _ _ _ _ _ _ _ r h => by simp [laws_FnExactNormalStream.j0] at h, fun _ _ _ _ _ _ _ _ r h => by simp [laws_FnExactNormalStream.j1] at h, fun _ _ _ _ r h => by simp [laws_FnExactNormalStream.j2] at h⟩
 | k + 1 => by
  obtain ⟨ih0, ih1, ih2⟩ := laws_FnExactNormalStream.mono_l k
  refine ⟨?_, ?_, ?_⟩
  ·intro y0 y1 y2 y3 y4 y5 y6 y7 y8 y9 y10
   unfold laws_FnExactNormalStream.j0
   repeat' first
   | (with_reducible exact ih0 _ _ _ _ _ _ _ _ _ _ _)
   | (with_reducible exact ih1 _ _ _ _ _ _ _ _)
   | (with_reducible exact ih2 _ _ _ _)
   | (with_reducible exact impl_NormalStream.mono _ _ _)
   | (with_reducible exact laws_eqStream.mono _ _ _ _ _)
   | (with_reducible exact laws_heldStream.mono _ _ _ _)
   | (with_reducible exact laws_markStream.mono _ _ _ _)
   | (with_reducible exact laws_toStream.mono _ _ _)
   | (with_reducible exact spec_NormalStream.mono _ _ _)
   | (with_reducible exact LeO.refl _)
   | (with_reducible exact LeO.none _)
   | (with_reducible refine LeO.ite ?_ ?_)
   | (with_reducible refine LeO.bind ?_ (fun _ => ?_))
   | exact ih0 _ _ _ _ _ _ _ _ _ _ _
   | exact ih1 _ _ _ _ _ _ _ _
   | exact ih2 _ _ _ _
   | exact impl_NormalStream.mono _ _ _
   | exact laws_eqStream.mono _ _ _ _ _
   | exact laws_heldStream.mono _ _ _ _
   | exact laws_markStream.mono _ _ _ _
   | exact laws_toStream.mono _ _ _
   | exact spec_NormalStream.mono _ _ _
   | exact LeO.none _
   | refine LeO.ite ?_ ?_
   | refine LeO.bind ?_ (fun _ => ?_)
  ·intro y0 y1 y2 y3 y4 y5 y6 y7
   unfold laws_FnExactNormalStream.j1
   repeat' first
   | (with_reducible exact ih0 _ _ _ _ _ _ _ _ _ _ _)
   | (with_reducible exact ih1 _ _ _ _ _ _ _ _)
   | (with_reducible exact ih2 _ _ _ _)
   | (with_reducible exact impl_NormalStream.mono _ _ _)
   | (with_reducible exact laws_eqStream.mono _ _ _ _ _)
   | (with_reducible exact laws_heldStream.mono _ _ _ _)
   | (with_reducible exact laws_markStream.mono _ _ _ _)
   | (with_reducible exact laws_toStream.mono _ _ _)
   | (with_reducible exact spec_NormalStream.mono _ _ _)
   | (with_reducible exact LeO.refl _)
   | (with_reducible exact LeO.none _)
   | (with_reducible refine LeO.ite ?_ ?_)
   | (with_reducible refine LeO.bind ?_ (fun _ => ?_))
   | exact ih0 _ _ _ _ _ _ _ _ _ _ _
   | exact ih1 _ _ _ _ _ _ _ _
   | exact ih2 _ _ _ _
   | exact impl_NormalStream.mono _ _ _
   | exact laws_eqStream.mono _ _ _ _ _
   | exact laws_heldStream.mono _ _ _ _
   | exact laws_markStream.mono _ _ _ _
   | exact laws_toStream.mono _ _ _
   | exact spec_NormalStream.mono _ _ _
   | exact LeO.none _
   | refine LeO.ite ?_ ?_
   | refine LeO.bind ?_ (fun _ => ?_)
  ·intro y0 y1 y2 y3
   unfold laws_FnExactNormalStream.j2
   repeat' first
   | (with_reducible exact ih0 _ _ _ _ _ _ _ _ _ _ _)
   | (with_reducible exact ih1 _ _ _ _ _ _ _ _)
   | (with_reducible exact ih2 _ _ _ _)
   | (with_reducible exact impl_NormalStream.mono _ _ _)
   | (with_reducible exact laws_eqStream.mono _ _ _ _ _)
   | (with_reducible exact laws_heldStream.mono _ _ _ _)
   | (with_reducible exact laws_markStream.mono _ _ _ _)
   | (with_reducible exact laws_toStream.mono _ _ _)
   | (with_reducible exact spec_NormalStream.mono _ _ _)
   | (with_reducible exact LeO.refl _)
   | (with_reducible exact LeO.none _)
   | (with_reducible refine LeO.ite ?_ ?_)
   | (with_reducible refine LeO.bind ?_ (fun _ => ?_))
   | exact ih0 _ _ _ _ _ _ _ _ _ _ _
   | exact ih1 _ _ _ _ _ _ _ _
   | exact ih2 _ _ _ _
   | exact impl_NormalStream.mono _ _ _
   | exact laws_eqStream.mono _ _ _ _ _
   | exact laws_heldStream.mono _ _ _ _
   | exact laws_markStream.mono _ _ _ _
   | exact laws_toStream.mono _ _ _
   | exact spec_NormalStream.mono _ _ _
   | exact LeO.none _
   | refine LeO.ite ?_ ?_
   | refine LeO.bind ?_ (fun _ => ?_)
theorem laws_FnExactNormalStream.mono : ∀ a0 a1 k, LeO (laws_FnExactNormalStream.f k a0 a1) (laws_FnExactNormalStream.f (k + 1) a0 a1) := by
 intro a0 a1 k
 obtain ⟨ih0, ih1, ih2⟩ := laws_FnExactNormalStream.mono_l k
 unfold laws_FnExactNormalStream.f
 repeat' first
   | (with_reducible exact ih0 _ _ _ _ _ _ _ _ _ _ _)
   | (with_reducible exact ih1 _ _ _ _ _ _ _ _)
   | (with_reducible exact ih2 _ _ _ _)
   | (with_reducible exact impl_NormalStream.mono _ _ _)
   | (with_reducible exact laws_eqStream.mono _ _ _ _ _)
   | (with_reducible exact laws_heldStream.mono _ _ _ _)
   | (with_reducible exact laws_markStream.mono _ _ _ _)
   | (with_reducible exact laws_toStream.mono _ _ _)
   | (with_reducible exact spec_NormalStream.mono _ _ _)
   | (with_reducible exact LeO.refl _)
   | (with_reducible exact LeO.none _)
   | (with_reducible refine LeO.ite ?_ ?_)
   | (with_reducible refine LeO.bind ?_ (fun _ => ?_))
   | exact ih0 _ _ _ _ _ _ _ _ _ _ _
   | exact ih1 _ _ _ _ _ _ _ _
   | exact ih2 _ _ _ _
   | exact impl_NormalStream.mono _ _ _
   | exact laws_eqStream.mono _ _ _ _ _
   | exact laws_heldStream.mono _ _ _ _
   | exact laws_markStream.mono _ _ _ _
   | exact laws_toStream.mono _ _ _
   | exact spec_NormalStream.mono _ _ _
   | exact LeO.none _
   | refine LeO.ite ?_ ?_
   | refine LeO.bind ?_ (fun _ => ?_)
set_option maxHeartbeats 8000000 in
set_option maxRecDepth 100000 in
theorem laws_FnExactNormalStream.calls (k : Nat) (A0_0 : Option Addr) (c0_0 : Nat) (l0_0 : List Int) (A0_1 : Option Addr) (c0_1 : Nat) (l0_1 : List Int) (r : Bool) (w : World) (hr0_0 : Kd.C (Kd.int .i8) w A0_0 l0_0.length l0_0) (hc0_0 : l0_0.length ≤ c0_0) (hr0_1 : Kd.C (Kd.int .i8) w A0_1 l0_1.length l0_1) (hc0_1 : l0_1.length ≤ c0_1) (h : laws_FnExactNormalStream.f k l0_0 l0_1 = some r) :
  Calls Try.prog 4 #[.agg #[.slice A0_0 l0_0.length c0_0, .slice A0_1 l0_1.length c0_1]] w fun e w' => e = .returned (.bool r) ∧ Below w.heap.size w w' := by
 have hu32 := Try.underlying32
 have hu34 := Try.underlying34
 have HR0_0 := aM_ hr0_0
 have HC0_0 := aM_ hc0_0
 clear hr0_0 hc0_0
 have HR0_1 := aM_ hr0_1
 have HC0_1 := aM_ hc0_1
 clear hr0_1 hc0_1
 have HB := aM_ (Below.refl w.heap.size w)
 have H : ((laws_szStream.f l0_0 l0_1 1048576).bind fun t234 => (if t234 < 0 then (some true) else ((laws_toStream.f k l0_0 l0_1).bind fun bt235 => ((spec_NormalStream.f k bt235.1 bt235.2).bind fun bt241 => ((laws_toStream.f k l0_0 l0_1).bind fun bt249 => ((impl_NormalStream.f k bt249.1 bt249.2).bind fun bt256 => ((laws_eqStream.f k bt256.1 bt256.2.1 bt241.1 bt241.2.1).bind fun t264 => (if t264 = true then (laws_FnExactNormalStream.j0 k bt241.2.2 bt256.2.2 (bt256.2.2 != bt241.2.2) l0_0 l0_1 bt241.1 bt241.2.1 bt249.1 bt249.2 bt256.1 bt256.2.1) else (laws_FnExactNormalStream.j0 k bt241.2.2 bt256.2.2 true l0_0 l0_1 bt241.1 bt241.2.1 bt249.1 bt249.2 bt256.1 bt256.2.1))))))))) = some r := h
 clear h
 replace H := Option.bind_eq_some_iff.mp H
 obtain ⟨t234, A20, H⟩ := H
 replace H : (if t234 < 0 then (some true) else ((laws_toStream.f k l0_0 l0_1).bind fun bt235 => ((spec_NormalStream.f k bt235.1 bt235.2).bind fun bt241 => ((laws_toStream.f k l0_0 l0_1).bind fun bt249 => ((impl_NormalStream.f k bt249.1 bt249.2).bind fun bt256 => ((laws_eqStream.f k bt256.1 bt256.2.1 bt241.1 bt241.2.1).bind fun t264 => (if t264 = true then (laws_FnExactNormalStream.j0 k bt241.2.2 bt256.2.2 (bt256.2.2 != bt241.2.2) l0_0 l0_1 bt241.1 bt241.2.1 bt249.1 bt249.2 bt256.1 bt256.2.1) else (laws_FnExactNormalStream.j0 k bt241.2.2 bt256.2.2 true l0_0 l0_1 bt241.1 bt241.2.1 bt249.1 bt249.2 bt256.1 bt256.2.1)))))))) = some r := H
 have A2 := aM_ A20
 clear A20
 by_cases c3 : t234 < 0
 ·rw [if_pos c3] at H
  have c3b0 : decide (t234 < 0) = true := decide_eq_true c3
  clear c3
  obtain rfl := Option.some.inj H
  go_enter Try.func4, Try.ntmps4
  go_wp2_with (first | ((with_reducible refine gate_dst (N := 1) rfl ?_); refine box_event ?hg (N := 1) ?hd (cs := #[.slice A0_0 l0_0.length c0_0, .slice A0_1 l0_1.length c0_1]) (t := 32) ?hr ?_; (case hd => rfl); (case hg => rfl); (case hr => first | (go_simp; done) | (go_simp; rfl)); intro gb233 hg w4 hbox hb; have n0_ := aM_ (below_step (by repeat (first | (with_reducible first | exact HB.out | apply bA_ | apply bN_ | apply bD_) | exact HB.out)) hb); have n1_ := aM_ (hbox); have n2_ := aM_ ((by rw [hg]; exact (below_size (by repeat (first | (with_reducible first | exact HB.out | apply bA_ | apply bN_ | apply bD_) | exact HB.out))) : w.heap.size ≤ gb233)); have n3_ := aM_ ((by rw [hg]; exact (below_size (by repeat (first | (with_reducible first | exact HB.out | apply bA_ | apply bN_ | apply bD_) | exact HB.out))) : w.heap.size ≤ gb233)); clear HB; have HB := n0_; have BK233 := n1_; have GW233 := n2_; have GE233 := n3_; clear n0_ n1_ n2_ n3_; clear hb hbox hg; have hcz5_0 : w4.cell? ⟨gb233, 0, none⟩ = some (.slice A0_0 l0_0.length c0_0) := (blk_cell BK233.out 0).trans rfl; have hcz5_1 : w4.cell? ⟨gb233, 1, none⟩ = some (.slice A0_1 l0_1.length c0_1) := (blk_cell BK233.out 1).trans rfl; have hfz5_0 := blk_frozen BK233.out 0; have hfz5_1 := blk_frozen BK233.out 1) | ((with_reducible refine gate_callee (f := 17) rfl ?_); refine goesL_ (some 16) rfl rfl Try.func17 (by kernel_rfl) rfl #[.agg #[.slice A0_0 l0_0.length c0_0, .slice A0_1 l0_1.length c0_1], .int .i64 1048576] rfl (by (try simp only [List.map_toArray, List.map_cons, List.map_nil]); first | done | rfl | (simp only [List.length_drop, List.length_take]; rfl)) ?_; (with_reducible refine (laws_szStream.calls _ _ l0_0 _ _ l0_1 1048576 t234 _ ?side1 ?side2 ?side3 ?side4 A2.out).mono ?_); (case side1 => repeat (first | exact (Kd.C_below HR0_0.out HB.out) | (with_reducible refine Kd.C_alloc ?_ _) | (with_reducible refine Kd.C_drewN ?_ _) | (with_reducible refine Kd.C_drew ?_))); (case side2 => exact HC0_0.out); (case side3 => repeat (first | exact (Kd.C_below HR0_1.out HB.out) | (with_reducible refine Kd.C_alloc ?_ _) | (with_reducible refine Kd.C_drewN ?_ _) | (with_reducible refine Kd.C_drew ?_))); (case side4 => exact HC0_1.out); rintro e w6 ⟨rfl, hb⟩; refine ⟨_, rfl, ?_⟩; have n0_ := aM_ (blk_below (g := gb233) (o := .cells #[.slice A0_0 l0_0.length c0_0, .slice A0_1 l0_1.length c0_1] 32 (0, 0)) (by (with_reducible repeat (first | refine kN_ ?_ _ | refine kD_ ?_ | refine kA_ ?_ _)); exact BK233.out) hb); have n1_ := aM_ (below_step (by repeat (first | (with_reducible first | exact HB.out | apply bA_ | apply bN_ | apply bD_ | refine bS_ ?_ GE233.out) | exact HB.out)) hb); clear BK233; clear HB; have BK233 := n0_; have HB := n1_; clear n0_ n1_; (try clear hb); (try clear hb2); (try clear hk); (try clear hi)))
  go_ret
  exact ⟨by first | rfl | (simp [errW_none, errW_some] <;> rfl) | (simp [*, errW_none, errW_some] <;> rfl), by repeat (first | (with_reducible first | exact HB.out | apply bA_ | apply bN_ | apply bD_ | refine bS_ ?_ GE233.out) | exact HB.out)⟩
 ·rw [if_neg c3] at H
  have c3b0 : decide (t234 < 0) = false := decide_eq_false c3
  clear c3
  replace H := Option.bind_eq_some_iff.mp H
  obtain ⟨⟨t235, t238⟩, A70, H⟩ := H
  replace H : ((spec_NormalStream.f k t235 t238).bind fun bt241 => ((laws_toStream.f k l0_0 l0_1).bind fun bt249 => ((impl_NormalStream.f k bt249.1 bt249.2).bind fun bt256 => ((laws_eqStream.f k bt256.1 bt256.2.1 bt241.1 bt241.2.1).bind fun t264 => (if t264 = true then (laws_FnExactNormalStream.j0 k bt241.2.2 bt256.2.2 (bt256.2.2 != bt241.2.2) l0_0 l0_1 bt241.1 bt241.2.1 bt249.1 bt249.2 bt256.1 bt256.2.1) else (laws_FnExactNormalStream.j0 k bt241.2.2 bt256.2.2 true l0_0 l0_1 bt241.1 bt241.2.1 bt249.1 bt249.2 bt256.1 bt256.2.1)))))) = some r := H
  have A7 := aM_ A70
  clear A70
  replace H := Option.bind_eq_some_iff.mp H
  obtain ⟨⟨t241, t244, t247⟩, A80, H⟩ := H
  replace H : ((laws_toStream.f k l0_0 l0_1).bind fun bt249 => ((impl_NormalStream.f k bt249.1 bt249.2).bind fun bt256 => ((laws_eqStream.f k bt256.1 bt256.2.1 t241 t244).bind fun t264 => (if t264 = true then (laws_FnExactNormalStream.j0 k t247 bt256.2.2 (bt256.2.2 != t247) l0_0 l0_1 t241 t244 bt249.1 bt249.2 bt256.1 bt256.2.1) else (laws_FnExactNormalStream.j0 k t247 bt256.2.2 true l0_0 l0_1 t241 t244 bt249.1 bt249.2 bt256.1 bt256.2.1))))) = some r := H
  have A8 := aM_ A80
  clear A80
  replace H := Option.bind_eq_some_iff.mp H
  obtain ⟨⟨t249, t252⟩, A90, H⟩ := H
  replace H : ((impl_NormalStream.f k t249 t252).bind fun bt256 => ((laws_eqStream.f k bt256.1 bt256.2.1 t241 t244).bind fun t264 => (if t264 = true then (laws_FnExactNormalStream.j0 k t247 bt256.2.2 (bt256.2.2 != t247) l0_0 l0_1 t241 t244 t249 t252 bt256.1 bt256.2.1) else (laws_FnExactNormalStream.j0 k t247 bt256.2.2 true l0_0 l0_1 t241 t244 t249 t252 bt256.1 bt256.2.1)))) = some r := H
  have A9 := aM_ A90
  clear A90
  replace H := Option.bind_eq_some_iff.mp H
  obtain ⟨⟨t256, t259, t262⟩, A100, H⟩ := H
  replace H : ((laws_eqStream.f k t256 t259 t241 t244).bind fun t264 => (if t264 = true then (laws_FnExactNormalStream.j0 k t247 t262 (t262 != t247) l0_0 l0_1 t241 t244 t249 t252 t256 t259) else (laws_FnExactNormalStream.j0 k t247 t262 true l0_0 l0_1 t241 t244 t249 t252 t256 t259))) = some r := H
  have A10 := aM_ A100
  clear A100
  have HC11 := aM_ H
  clear H
  go_enter Try.func4, Try.ntmps4
  go_upto_region 8 with (first | ((with_reducible refine gate_dst (N := 1) rfl ?_); refine box_event ?hg (N := 1) ?hd (cs := #[.slice A0_0 l0_0.length c0_0, .slice A0_1 l0_1.length c0_1]) (t := 32) ?hr ?_; (case hd => rfl); (case hg => rfl); (case hr => first | (go_simp; done) | (go_simp; rfl)); intro gb233 hg w12 hbox hb; have n0_ := aM_ (below_step (by repeat (first | (with_reducible first | exact HB.out | apply bA_ | apply bN_ | apply bD_) | exact HB.out)) hb); have n1_ := aM_ (hbox); have n2_ := aM_ ((by rw [hg]; exact (below_size (by repeat (first | (with_reducible first | exact HB.out | apply bA_ | apply bN_ | apply bD_) | exact HB.out))) : w.heap.size ≤ gb233)); have n3_ := aM_ ((by rw [hg]; exact (below_size (by repeat (first | (with_reducible first | exact HB.out | apply bA_ | apply bN_ | apply bD_) | exact HB.out))) : w.heap.size ≤ gb233)); clear HB; have HB := n0_; have BK233 := n1_; have GW233 := n2_; have GE233 := n3_; clear n0_ n1_ n2_ n3_; clear hb hbox hg; have hcz13_0 : w12.cell? ⟨gb233, 0, none⟩ = some (.slice A0_0 l0_0.length c0_0) := (blk_cell BK233.out 0).trans rfl; have hcz13_1 : w12.cell? ⟨gb233, 1, none⟩ = some (.slice A0_1 l0_1.length c0_1) := (blk_cell BK233.out 1).trans rfl; have hfz13_0 := blk_frozen BK233.out 0; have hfz13_1 := blk_frozen BK233.out 1) | ((with_reducible refine gate_callee (f := 17) rfl ?_); refine goesL_ (some 16) rfl rfl Try.func17 (by kernel_rfl) rfl #[.agg #[.slice A0_0 l0_0.length c0_0, .slice A0_1 l0_1.length c0_1], .int .i64 1048576] rfl (by (try simp only [List.map_toArray, List.map_cons, List.map_nil]); first | done | rfl | (simp only [List.length_drop, List.length_take]; rfl)) ?_; (with_reducible refine (laws_szStream.calls _ _ l0_0 _ _ l0_1 1048576 t234 _ ?side1 ?side2 ?side3 ?side4 A2.out).mono ?_); (case side1 => repeat (first | exact (Kd.C_below HR0_0.out HB.out) | (with_reducible refine Kd.C_alloc ?_ _) | (with_reducible refine Kd.C_drewN ?_ _) | (with_reducible refine Kd.C_drew ?_))); (case side2 => exact HC0_0.out); (case side3 => repeat (first | exact (Kd.C_below HR0_1.out HB.out) | (with_reducible refine Kd.C_alloc ?_ _) | (with_reducible refine Kd.C_drewN ?_ _) | (with_reducible refine Kd.C_drew ?_))); (case side4 => exact HC0_1.out); rintro e w14 ⟨rfl, hb⟩; refine ⟨_, rfl, ?_⟩; have n0_ := aM_ (blk_below (g := gb233) (o := .cells #[.slice A0_0 l0_0.length c0_0, .slice A0_1 l0_1.length c0_1] 32 (0, 0)) (by (with_reducible repeat (first | refine kN_ ?_ _ | refine kD_ ?_ | refine kA_ ?_ _)); exact BK233.out) hb); have n1_ := aM_ (below_step (by repeat (first | (with_reducible first | exact HB.out | apply bA_ | apply bN_ | apply bD_ | refine bS_ ?_ GE233.out) | exact HB.out)) hb); clear BK233; clear HB; have BK233 := n0_; have HB := n1_; clear n0_ n1_; (try clear hb); (try clear hb2); (try clear hk); (try clear hi); have hcz15_0 : w14.cell? ⟨gb233, 0, none⟩ = some (.slice A0_0 l0_0.length c0_0) := (blk_cell BK233.out 0).trans rfl; have hcz15_1 : w14.cell? ⟨gb233, 1, none⟩ = some (.slice A0_1 l0_1.length c0_1) := (blk_cell BK233.out 1).trans rfl; have hfz15_0 := blk_frozen BK233.out 0; have hfz15_1 := blk_frozen BK233.out 1) | ((with_reducible refine gate_callee (f := 19) rfl ?_); refine goesL_ (some 21) rfl rfl Try.func19 (by kernel_rfl) rfl #[.agg #[.slice A0_0 l0_0.length c0_0, .slice A0_1 l0_1.length c0_1]] rfl (by (try simp only [List.map_toArray, List.map_cons, List.map_nil]); first | done | rfl | (simp only [List.length_drop, List.length_take]; rfl)) ?_; (with_reducible refine (laws_toStream.calls k _ _ l0_0 _ _ l0_1 t235 t238 _ ?side1 ?side2 ?side3 ?side4 A7.out).mono ?_); (case side1 => repeat (first | exact (Kd.C_below HR0_0.out HB.out) | (with_reducible refine Kd.C_alloc ?_ _) | (with_reducible refine Kd.C_drewN ?_ _) | (with_reducible refine Kd.C_drew ?_))); (case side2 => exact HC0_0.out); (case side3 => repeat (first | exact (Kd.C_below HR0_1.out HB.out) | (with_reducible refine Kd.C_alloc ?_ _) | (with_reducible refine Kd.C_drewN ?_ _) | (with_reducible refine Kd.C_drew ?_))); (case side4 => exact HC0_1.out); rintro e w16 ⟨v236, v239, rfl, ho0, ho1, hb⟩; refine ⟨_, rfl, ?_⟩; have n0_ := aM_ (Kd.R_lower ho0 (below_size (by repeat (first | (with_reducible first | exact HB.out | apply bA_ | apply bN_ | apply bD_ | refine bS_ ?_ GE233.out) | exact HB.out)))); have n1_ := aM_ (Kd.R_lower ho1 (below_size (by repeat (first | (with_reducible first | exact HB.out | apply bA_ | apply bN_ | apply bD_ | refine bS_ ?_ GE233.out) | exact HB.out)))); have n2_ := aM_ (blk_below (g := gb233) (o := .cells #[.slice A0_0 l0_0.length c0_0, .slice A0_1 l0_1.length c0_1] 32 (0, 0)) (by (with_reducible repeat (first | refine kN_ ?_ _ | refine kD_ ?_ | refine kA_ ?_ _)); exact BK233.out) hb); have n3_ := aM_ (below_step (by repeat (first | (with_reducible first | exact HB.out | apply bA_ | apply bN_ | apply bD_ | refine bS_ ?_ GE233.out) | exact HB.out)) hb); clear BK233; clear HB; have HO237 := n0_; have HO240 := n1_; have BK233 := n2_; have HB := n3_; clear n0_ n1_ n2_ n3_; (try clear hb); (try clear hb2); (try clear hk); (try clear hi); (try clear ho0); (try clear ho1); obtain ⟨Ao17, co17, eo17⟩ := Kd.R_slice HO237.out; subst eo17; obtain ⟨Ao18, co18, eo18⟩ := Kd.R_slice HO240.out; subst eo18) | ((with_reducible refine gate_callee (f := 18) rfl ?_); refine goesL_ (some 22) rfl rfl Try.func18 (by kernel_rfl) rfl #[.agg #[.slice Ao17 t235.length co17, .slice Ao18 t238.length co18]] rfl (by (try simp only [List.map_toArray, List.map_cons, List.map_nil]); first | done | rfl | (simp only [List.length_drop, List.length_take]; rfl)) ?_; (with_reducible refine (spec_NormalStream.calls k _ _ t235 _ _ t238 t241 t244 t247 _ ?side1 ?side2 ?side3 ?side4 A8.out).mono ?_); (case side1 => repeat (first | exact (Kd.R_reads' HO237.out).2.2 | (with_reducible refine Kd.C_alloc ?_ _) | (with_reducible refine Kd.C_drewN ?_ _) | (with_reducible refine Kd.C_drew ?_))); (case side2 => exact (Kd.R_reads' HO237.out).2.1); (case side3 => repeat (first | exact (Kd.R_reads' HO240.out).2.2 | (with_reducible refine Kd.C_alloc ?_ _) | (with_reducible refine Kd.C_drewN ?_ _) | (with_reducible refine Kd.C_drew ?_))); (case side4 => exact (Kd.R_reads' HO240.out).2.1); rintro e w19 ⟨v242, v245, rfl, ho0, ho1, hb⟩; refine ⟨_, rfl, ?_⟩; have n0_ := aM_ (Kd.R_mono (Kd.R_told (Kd.R_told (Kd.R_old (by (with_reducible repeat (first | apply rA_ | apply rN_ | apply rD_)); exact HO237.out) hb) (Kd.R_base ho0)) (Kd.R_base ho1)) (fun _ h_ => h_.1)); have n1_ := aM_ (Kd.R_mono (Kd.R_told (Kd.R_told (Kd.R_old (by (with_reducible repeat (first | apply rA_ | apply rN_ | apply rD_)); exact HO240.out) hb) (Kd.R_base ho0)) (Kd.R_base ho1)) (fun _ h_ => h_.1)); have n2_ := aM_ (Kd.R_lower (Kd.R_new' (Kd.R_new' ho0 (Kd.R_lt (by (with_reducible repeat (first | apply rA_ | apply rN_ | apply rD_)); exact HO237.out))) (Kd.R_lt (by (with_reducible repeat (first | apply rA_ | apply rN_ | apply rD_)); exact HO240.out))) (below_size (by repeat (first | (with_reducible first | exact HB.out | apply bA_ | apply bN_ | apply bD_ | refine bS_ ?_ GE233.out) | exact HB.out)))); have n3_ := aM_ (Kd.R_lower (Kd.R_new' (Kd.R_new' ho1 (Kd.R_lt (by (with_reducible repeat (first | apply rA_ | apply rN_ | apply rD_)); exact HO237.out))) (Kd.R_lt (by (with_reducible repeat (first | apply rA_ | apply rN_ | apply rD_)); exact HO240.out))) (below_size (by repeat (first | (with_reducible first | exact HB.out | apply bA_ | apply bN_ | apply bD_ | refine bS_ ?_ GE233.out) | exact HB.out)))); have n4_ := aM_ (blk_below (g := gb233) (o := .cells #[.slice A0_0 l0_0.length c0_0, .slice A0_1 l0_1.length c0_1] 32 (0, 0)) (by (with_reducible repeat (first | refine kN_ ?_ _ | refine kD_ ?_ | refine kA_ ?_ _)); exact BK233.out) hb); have n5_ := aM_ (below_step (by repeat (first | (with_reducible first | exact HB.out | apply bA_ | apply bN_ | apply bD_ | refine bS_ ?_ GE233.out) | exact HB.out)) hb); clear HO237; clear HO240; clear BK233; clear HB; have HO237 := n0_; have HO240 := n1_; have HO243 := n2_; have HO246 := n3_; have BK233 := n4_; have HB := n5_; clear n0_ n1_ n2_ n3_ n4_ n5_; (try clear hb); (try clear hb2); (try clear hk); (try clear hi); (try clear ho0); (try clear ho1)) | ((with_reducible refine gate_dst (N := 4) rfl ?_); refine box_event ?hg (N := 4) ?hd (cs := #[.slice none 0 0, .slice none 0 0]) (t := 34) ?hr ?_; (case hd => rfl); (case hg => rfl); (case hr => first | (go_simp; done) | (go_simp; rfl)); intro gb248 hg w20 hbox hb; have n0_ := aM_ (Kd.R_below (by (with_reducible repeat (first | apply rA_ | apply rN_ | apply rD_)); exact HO237.out) hb); have n1_ := aM_ (Kd.R_below (by (with_reducible repeat (first | apply rA_ | apply rN_ | apply rD_)); exact HO240.out) hb); have n2_ := aM_ (Kd.R_below (by (with_reducible repeat (first | apply rA_ | apply rN_ | apply rD_)); exact HO243.out) hb); have n3_ := aM_ (Kd.R_below (by (with_reducible repeat (first | apply rA_ | apply rN_ | apply rD_)); exact HO246.out) hb); have n4_ := aM_ (blk_below (g := gb233) (o := .cells #[.slice A0_0 l0_0.length c0_0, .slice A0_1 l0_1.length c0_1] 32 (0, 0)) (by (with_reducible repeat (first | refine kN_ ?_ _ | refine kD_ ?_ | refine kA_ ?_ _)); exact BK233.out) hb); have n5_ := aM_ (below_step (by repeat (first | (with_reducible first | exact HB.out | apply bA_ | apply bN_ | apply bD_ | refine bS_ ?_ GE233.out) | exact HB.out)) hb); have n6_ := aM_ (hbox); have n7_ := aM_ ((by rw [hg]; exact (below_size (by repeat (first | (with_reducible first | exact HB.out | apply bA_ | apply bN_ | apply bD_ | refine bS_ ?_ GE233.out) | exact HB.out))) : w.heap.size ≤ gb248)); have n8_ := aM_ ((by rw [hg]; exact (below_size (by repeat (first | (with_reducible first | exact HB.out | apply bA_ | apply bN_ | apply bD_ | refine bS_ ?_ GE233.out) | exact HB.out))) : w.heap.size ≤ gb248)); have n9_ := aM_ ((by rw [hg]; exact Nat.ne_of_lt (blk_lt (g := gb233) (o := .cells #[.slice A0_0 l0_0.length c0_0, .slice A0_1 l0_1.length c0_1] 32 (0, 0)) (by (with_reducible repeat (first | refine kN_ ?_ _ | refine kD_ ?_ | refine kA_ ?_ _)); exact BK233.out)) : gb233 ≠ gb248)); have n10_ := aM_ ((by rw [hg]; exact Nat.ne_of_gt (blk_lt (g := gb233) (o := .cells #[.slice A0_0 l0_0.length c0_0, .slice A0_1 l0_1.length c0_1] 32 (0, 0)) (by (with_reducible repeat (first | refine kN_ ?_ _ | refine kD_ ?_ | refine kA_ ?_ _)); exact BK233.out)) : gb248 ≠ gb233)); clear HO237; clear HO240; clear HO243; clear HO246; clear BK233; clear HB; have HO237 := n0_; have HO240 := n1_; have HO243 := n2_; have HO246 := n3_; have BK233 := n4_; have HB := n5_; have BK248 := n6_; have GW248 := n7_; have GE248 := n8_; have NB233_248 := n9_; have NB248_233 := n10_; clear n0_ n1_ n2_ n3_ n4_ n5_ n6_ n7_ n8_ n9_ n10_; clear hb hbox hg; obtain ⟨Ao21, co21, eo21⟩ := Kd.R_slice HO243.out; subst eo21; have hnb22 := NB248_233.out; have hnc22 := NB233_248.out; have hcz23_0 : w20.cell? ⟨gb248, 0, none⟩ = some (.slice none 0 0) := (blk_cell BK248.out 0).trans rfl; have hcz23_1 : w20.cell? ⟨gb248, 1, none⟩ = some (.slice none 0 0) := (blk_cell BK248.out 1).trans rfl; have hfz23_0 := blk_frozen BK248.out 0; have hfz23_1 := blk_frozen BK248.out 1; obtain ⟨Ao24, co24, eo24⟩ := Kd.R_slice HO246.out; subst eo24; have hcz25_0 : w20.cell? ⟨gb233, 0, none⟩ = some (.slice A0_0 l0_0.length c0_0) := (blk_cell BK233.out 0).trans rfl; have hcz25_1 : w20.cell? ⟨gb233, 1, none⟩ = some (.slice A0_1 l0_1.length c0_1) := (blk_cell BK233.out 1).trans rfl; have hfz25_0 := blk_frozen BK233.out 0; have hfz25_1 := blk_frozen BK233.out 1) | ((with_reducible refine gate_callee (f := 19) rfl ?_); refine goesL_ (some 26) rfl rfl Try.func19 (by kernel_rfl) rfl #[.agg #[.slice A0_0 l0_0.length c0_0, .slice A0_1 l0_1.length c0_1]] rfl (by (try simp only [List.map_toArray, List.map_cons, List.map_nil]); first | done | rfl | (simp only [List.length_drop, List.length_take]; rfl)) ?_; (with_reducible refine (laws_toStream.calls k _ _ l0_0 _ _ l0_1 t249 t252 _ ?side1 ?side2 ?side3 ?side4 A9.out).mono ?_); (case side1 => exact Kd.C_below HR0_0.out (by repeat (first | (with_reducible first | exact HB.out | apply bA_ | apply bN_ | apply bD_ | refine bS_ ?_ GE233.out | refine bS_ ?_ GE248.out) | exact HB.out))); (case side2 => exact HC0_0.out); (case side3 => exact Kd.C_below HR0_1.out (by repeat (first | (with_reducible first | exact HB.out | apply bA_ | apply bN_ | apply bD_ | refine bS_ ?_ GE233.out | refine bS_ ?_ GE248.out) | exact HB.out))); (case side4 => exact HC0_1.out); rintro e w26 ⟨v250, v253, rfl, ho0, ho1, hb⟩; refine ⟨_, rfl, ?_⟩; have n0_ := aM_ (Kd.R_mono (Kd.R_told (Kd.R_told (Kd.R_old (by (with_reducible repeat (first | apply rA_ | apply rN_ | apply rD_)); exact (Kd.R_mono (Kd.R_far (p := ⟨gb248, 1, none⟩) (Kd.R_far (p := ⟨gb248, 0, none⟩) (Kd.R_types HO237.out BK248.out (by decide)) (fun _ hk => hk.2) (.slice Ao21 t241.length co21)) (fun _ hk => hk.2) (.slice Ao24 t244.length co24)) (fun _ h_ => h_.1))) hb) (Kd.R_base ho0)) (Kd.R_base ho1)) (fun _ h_ => h_.1)); have n1_ := aM_ (Kd.R_mono (Kd.R_told (Kd.R_told (Kd.R_old (by (with_reducible repeat (first | apply rA_ | apply rN_ | apply rD_)); exact (Kd.R_mono (Kd.R_far (p := ⟨gb248, 1, none⟩) (Kd.R_far (p := ⟨gb248, 0, none⟩) (Kd.R_types HO240.out BK248.out (by decide)) (fun _ hk => hk.2) (.slice Ao21 t241.length co21)) (fun _ hk => hk.2) (.slice Ao24 t244.length co24)) (fun _ h_ => h_.1))) hb) (Kd.R_base ho0)) (Kd.R_base ho1)) (fun _ h_ => h_.1)); have n2_ := aM_ (Kd.R_mono (Kd.R_told (Kd.R_told (Kd.R_old (by (with_reducible repeat (first | apply rA_ | apply rN_ | apply rD_)); exact (Kd.R_mono (Kd.R_far (p := ⟨gb248, 1, none⟩) (Kd.R_far (p := ⟨gb248, 0, none⟩) (Kd.R_types HO243.out BK248.out (by decide)) (fun _ hk => hk.2) (.slice Ao21 t241.length co21)) (fun _ hk => hk.2) (.slice Ao24 t244.length co24)) (fun _ h_ => h_.1))) hb) (Kd.R_base ho0)) (Kd.R_base ho1)) (fun _ h_ => h_.1)); have n3_ := aM_ (Kd.R_mono (Kd.R_told (Kd.R_told (Kd.R_old (by (with_reducible repeat (first | apply rA_ | apply rN_ | apply rD_)); exact (Kd.R_mono (Kd.R_far (p := ⟨gb248, 1, none⟩) (Kd.R_far (p := ⟨gb248, 0, none⟩) (Kd.R_types HO246.out BK248.out (by decide)) (fun _ hk => hk.2) (.slice Ao21 t241.length co21)) (fun _ hk => hk.2) (.slice Ao24 t244.length co24)) (fun _ h_ => h_.1))) hb) (Kd.R_base ho0)) (Kd.R_base ho1)) (fun _ h_ => h_.1)); have n4_ := aM_ (Kd.R_lower (Kd.R_new' (Kd.R_new' (Kd.R_new' (Kd.R_new' ho0 (Kd.R_lt (by (with_reducible repeat (first | apply rA_ | apply rN_ | apply rD_)); exact (Kd.R_mono (Kd.R_far (p := ⟨gb248, 1, none⟩) (Kd.R_far (p := ⟨gb248, 0, none⟩) (Kd.R_types HO237.out BK248.out (by decide)) (fun _ hk => hk.2) (.slice Ao21 t241.length co21)) (fun _ hk => hk.2) (.slice Ao24 t244.length co24)) (fun _ h_ => h_.1))))) (Kd.R_lt (by (with_reducible repeat (first | apply rA_ | apply rN_ | apply rD_)); exact (Kd.R_mono (Kd.R_far (p := ⟨gb248, 1, none⟩) (Kd.R_far (p := ⟨gb248, 0, none⟩) (Kd.R_types HO240.out BK248.out (by decide)) (fun _ hk => hk.2) (.slice Ao21 t241.length co21)) (fun _ hk => hk.2) (.slice Ao24 t244.length co24)) (fun _ h_ => h_.1))))) (Kd.R_lt (by (with_reducible repeat (first | apply rA_ | apply rN_ | apply rD_)); exact (Kd.R_mono (Kd.R_far (p := ⟨gb248, 1, none⟩) (Kd.R_far (p := ⟨gb248, 0, none⟩) (Kd.R_types HO243.out BK248.out (by decide)) (fun _ hk => hk.2) (.slice Ao21 t241.length co21)) (fun _ hk => hk.2) (.slice Ao24 t244.length co24)) (fun _ h_ => h_.1))))) (Kd.R_lt (by (with_reducible repeat (first | apply rA_ | apply rN_ | apply rD_)); exact (Kd.R_mono (Kd.R_far (p := ⟨gb248, 1, none⟩) (Kd.R_far (p := ⟨gb248, 0, none⟩) (Kd.R_types HO246.out BK248.out (by decide)) (fun _ hk => hk.2) (.slice Ao21 t241.length co21)) (fun _ hk => hk.2) (.slice Ao24 t244.length co24)) (fun _ h_ => h_.1))))) (below_size (by repeat (first | (with_reducible first | exact HB.out | apply bA_ | apply bN_ | apply bD_ | refine bS_ ?_ GE233.out | refine bS_ ?_ GE248.out) | exact HB.out)))); have n5_ := aM_ (Kd.R_lower (Kd.R_new' (Kd.R_new' (Kd.R_new' (Kd.R_new' ho1 (Kd.R_lt (by (with_reducible repeat (first | apply rA_ | apply rN_ | apply rD_)); exact (Kd.R_mono (Kd.R_far (p := ⟨gb248, 1, none⟩) (Kd.R_far (p := ⟨gb248, 0, none⟩) (Kd.R_types HO237.out BK248.out (by decide)) (fun _ hk => hk.2) (.slice Ao21 t241.length co21)) (fun _ hk => hk.2) (.slice Ao24 t244.length co24)) (fun _ h_ => h_.1))))) (Kd.R_lt (by (with_reducible repeat (first | apply rA_ | apply rN_ | apply rD_)); exact (Kd.R_mono (Kd.R_far (p := ⟨gb248, 1, none⟩) (Kd.R_far (p := ⟨gb248, 0, none⟩) (Kd.R_types HO240.out BK248.out (by decide)) (fun _ hk => hk.2) (.slice Ao21 t241.length co21)) (fun _ hk => hk.2) (.slice Ao24 t244.length co24)) (fun _ h_ => h_.1))))) (Kd.R_lt (by (with_reducible repeat (first | apply rA_ | apply rN_ | apply rD_)); exact (Kd.R_mono (Kd.R_far (p := ⟨gb248, 1, none⟩) (Kd.R_far (p := ⟨gb248, 0, none⟩) (Kd.R_types HO243.out BK248.out (by decide)) (fun _ hk => hk.2) (.slice Ao21 t241.length co21)) (fun _ hk => hk.2) (.slice Ao24 t244.length co24)) (fun _ h_ => h_.1))))) (Kd.R_lt (by (with_reducible repeat (first | apply rA_ | apply rN_ | apply rD_)); exact (Kd.R_mono (Kd.R_far (p := ⟨gb248, 1, none⟩) (Kd.R_far (p := ⟨gb248, 0, none⟩) (Kd.R_types HO246.out BK248.out (by decide)) (fun _ hk => hk.2) (.slice Ao21 t241.length co21)) (fun _ hk => hk.2) (.slice Ao24 t244.length co24)) (fun _ h_ => h_.1))))) (below_size (by repeat (first | (with_reducible first | exact HB.out | apply bA_ | apply bN_ | apply bD_ | refine bS_ ?_ GE233.out | refine bS_ ?_ GE248.out) | exact HB.out)))); have n6_ := aM_ (blk_below (g := gb233) (o := .cells #[.slice A0_0 l0_0.length c0_0, .slice A0_1 l0_1.length c0_1] 32 (0, 0)) (by (with_reducible repeat (first | refine kN_ ?_ _ | refine kD_ ?_ | refine kA_ ?_ _)); refine blk_far ?_ NB233_248.out _; (with_reducible repeat (first | refine kN_ ?_ _ | refine kD_ ?_ | refine kA_ ?_ _)); refine blk_far ?_ NB233_248.out _; (with_reducible repeat (first | refine kN_ ?_ _ | refine kD_ ?_ | refine kA_ ?_ _)); exact BK233.out) hb); have n7_ := aM_ (blk_below (g := gb248) (o := .cells #[.slice Ao21 t241.length co21, .slice Ao24 t244.length co24] 34 (0, 0)) (by (with_reducible repeat (first | refine kN_ ?_ _ | refine kD_ ?_ | refine kA_ ?_ _)); refine blk_put (cs := #[.slice Ao21 t241.length co21, .slice none 0 0]) ?_ 1 _ rfl; (with_reducible repeat (first | refine kN_ ?_ _ | refine kD_ ?_ | refine kA_ ?_ _)); refine blk_put (cs := #[.slice none 0 0, .slice none 0 0]) ?_ 0 _ rfl; (with_reducible repeat (first | refine kN_ ?_ _ | refine kD_ ?_ | refine kA_ ?_ _)); exact BK248.out) hb); have n8_ := aM_ (below_step (by repeat (first | (with_reducible first | exact HB.out | apply bA_ | apply bN_ | apply bD_ | refine bS_ ?_ GE233.out | refine bS_ ?_ GE248.out) | exact HB.out)) hb); clear HO237; clear HO240; clear HO243; clear HO246; clear BK233; clear BK248; clear HB; have HO237 := n0_; have HO240 := n1_; have HO243 := n2_; have HO246 := n3_; have HO251 := n4_; have HO254 := n5_; have BK233 := n6_; have BK248 := n7_; have HB := n8_; clear n0_ n1_ n2_ n3_ n4_ n5_ n6_ n7_ n8_; (try clear hb); (try clear hb2); (try clear hk); (try clear hi); (try clear ho0); (try clear ho1)) | ((with_reducible refine gate_dst (N := 6) rfl ?_); refine box_event ?hg (N := 6) ?hd (cs := #[.slice none 0 0, .slice none 0 0]) (t := 34) ?hr ?_; (case hd => rfl); (case hg => rfl); (case hr => first | (go_simp; done) | (go_simp; rfl)); intro gb255 hg w27 hbox hb; have n0_ := aM_ (Kd.R_below (by (with_reducible repeat (first | apply rA_ | apply rN_ | apply rD_)); exact HO237.out) hb); have n1_ := aM_ (Kd.R_below (by (with_reducible repeat (first | apply rA_ | apply rN_ | apply rD_)); exact HO240.out) hb); have n2_ := aM_ (Kd.R_below (by (with_reducible repeat (first | apply rA_ | apply rN_ | apply rD_)); exact HO243.out) hb); have n3_ := aM_ (Kd.R_below (by (with_reducible repeat (first | apply rA_ | apply rN_ | apply rD_)); exact HO246.out) hb); have n4_ := aM_ (Kd.R_below (by (with_reducible repeat (first | apply rA_ | apply rN_ | apply rD_)); exact HO251.out) hb); have n5_ := aM_ (Kd.R_below (by (with_reducible repeat (first | apply rA_ | apply rN_ | apply rD_)); exact HO254.out) hb); have n6_ := aM_ (blk_below (g := gb233) (o := .cells #[.slice A0_0 l0_0.length c0_0, .slice A0_1 l0_1.length c0_1] 32 (0, 0)) (by (with_reducible repeat (first | refine kN_ ?_ _ | refine kD_ ?_ | refine kA_ ?_ _)); exact BK233.out) hb); have n7_ := aM_ (blk_below (g := gb248) (o := .cells #[.slice Ao21 t241.length co21, .slice Ao24 t244.length co24] 34 (0, 0)) (by (with_reducible repeat (first | refine kN_ ?_ _ | refine kD_ ?_ | refine kA_ ?_ _)); exact BK248.out) hb); have n8_ := aM_ (below_step (by repeat (first | (with_reducible first | exact HB.out | apply bA_ | apply bN_ | apply bD_ | refine bS_ ?_ GE233.out | refine bS_ ?_ GE248.out) | exact HB.out)) hb); have n9_ := aM_ (hbox); have n10_ := aM_ ((by rw [hg]; exact (below_size (by repeat (first | (with_reducible first | exact HB.out | apply bA_ | apply bN_ | apply bD_ | refine bS_ ?_ GE233.out | refine bS_ ?_ GE248.out) | exact HB.out))) : w.heap.size ≤ gb255)); have n11_ := aM_ ((by rw [hg]; exact (below_size (by repeat (first | (with_reducible first | exact HB.out | apply bA_ | apply bN_ | apply bD_ | refine bS_ ?_ GE233.out | refine bS_ ?_ GE248.out) | exact HB.out))) : w.heap.size ≤ gb255)); have n12_ := aM_ ((by rw [hg]; exact Nat.ne_of_lt (blk_lt (g := gb233) (o := .cells #[.slice A0_0 l0_0.length c0_0, .slice A0_1 l0_1.length c0_1] 32 (0, 0)) (by (with_reducible repeat (first | refine kN_ ?_ _ | refine kD_ ?_ | refine kA_ ?_ _)); exact BK233.out)) : gb233 ≠ gb255)); have n13_ := aM_ ((by rw [hg]; exact Nat.ne_of_gt (blk_lt (g := gb233) (o := .cells #[.slice A0_0 l0_0.length c0_0, .slice A0_1 l0_1.length c0_1] 32 (0, 0)) (by (with_reducible repeat (first | refine kN_ ?_ _ | refine kD_ ?_ | refine kA_ ?_ _)); exact BK233.out)) : gb255 ≠ gb233)); have n14_ := aM_ ((by rw [hg]; exact Nat.ne_of_lt (blk_lt (g := gb248) (o := .cells #[.slice Ao21 t241.length co21, .slice Ao24 t244.length co24] 34 (0, 0)) (by (with_reducible repeat (first | refine kN_ ?_ _ | refine kD_ ?_ | refine kA_ ?_ _)); exact BK248.out)) : gb248 ≠ gb255)); have n15_ := aM_ ((by rw [hg]; exact Nat.ne_of_gt (blk_lt (g := gb248) (o := .cells #[.slice Ao21 t241.length co21, .slice Ao24 t244.length co24] 34 (0, 0)) (by (with_reducible repeat (first | refine kN_ ?_ _ | refine kD_ ?_ | refine kA_ ?_ _)); exact BK248.out)) : gb255 ≠ gb248)); clear HO237; clear HO240; clear HO243; clear HO246; clear HO251; clear HO254; clear BK233; clear BK248; clear HB; have HO237 := n0_; have HO240 := n1_; have HO243 := n2_; have HO246 := n3_; have HO251 := n4_; have HO254 := n5_; have BK233 := n6_; have BK248 := n7_; have HB := n8_; have BK255 := n9_; have GW255 := n10_; have GE255 := n11_; have NB233_255 := n12_; have NB255_233 := n13_; have NB248_255 := n14_; have NB255_248 := n15_; clear n0_ n1_ n2_ n3_ n4_ n5_ n6_ n7_ n8_ n9_ n10_ n11_ n12_ n13_ n14_ n15_; clear hb hbox hg; obtain ⟨Ao28, co28, eo28⟩ := Kd.R_slice HO251.out; subst eo28; have hnb29 := NB255_233.out; have hnc29 := NB233_255.out; have hnb30 := NB255_248.out; have hnc30 := NB248_255.out; have hcz31_0 : w27.cell? ⟨gb255, 0, none⟩ = some (.slice none 0 0) := (blk_cell BK255.out 0).trans rfl; have hcz31_1 : w27.cell? ⟨gb255, 1, none⟩ = some (.slice none 0 0) := (blk_cell BK255.out 1).trans rfl; have hfz31_0 := blk_frozen BK255.out 0; have hfz31_1 := blk_frozen BK255.out 1; obtain ⟨Ao32, co32, eo32⟩ := Kd.R_slice HO254.out; subst eo32) | ((with_reducible refine gate_callee (f := 20) rfl ?_); refine goesL_ (some 29) rfl rfl Try.func20 (by kernel_rfl) rfl #[.agg #[.slice Ao28 t249.length co28, .slice Ao32 t252.length co32]] rfl (by (try simp only [List.map_toArray, List.map_cons, List.map_nil]); first | done | rfl | (simp only [List.length_drop, List.length_take]; rfl)) ?_; (with_reducible refine (impl_NormalStream.calls k _ _ t249 _ _ t252 t256 t259 t262 _ ?side1 ?side2 ?side3 ?side4 A10.out).mono ?_); (case side1 => refine (Kd.R_reads' (e := 69) (base := w.heap.size) (ok := fun k_ => ((((some k_ ≠ (.slice Ao32 t252.length co32 : Value).ownBlock ∧ some k_ ≠ (.slice Ao17 t235.length co17 : Value).ownBlock) ∧ some k_ ≠ (.slice Ao18 t238.length co18 : Value).ownBlock) ∧ some k_ ≠ (.slice Ao21 t241.length co21 : Value).ownBlock) ∧ some k_ ≠ (.slice Ao24 t244.length co24 : Value).ownBlock)) (n := t249.length) (c := co28) ?_).2.2; exact (by (with_reducible repeat (first | apply rA_ | apply rN_ | apply rD_)); exact (Kd.R_mono (Kd.R_far (p := ⟨gb255, 1, none⟩) (Kd.R_far (p := ⟨gb255, 0, none⟩) (Kd.R_types HO251.out BK255.out (by decide)) (fun _ hk => hk.2) (.slice Ao28 t249.length co28)) (fun _ hk => hk.2) (.slice Ao32 t252.length co32)) (fun _ h_ => h_.1)))); (case side2 => exact (Kd.R_reads' HO251.out).2.1); (case side3 => refine (Kd.R_reads' (e := 69) (base := w.heap.size) (ok := fun k_ => ((((some k_ ≠ (.slice Ao28 t249.length co28 : Value).ownBlock ∧ some k_ ≠ (.slice Ao17 t235.length co17 : Value).ownBlock) ∧ some k_ ≠ (.slice Ao18 t238.length co18 : Value).ownBlock) ∧ some k_ ≠ (.slice Ao21 t241.length co21 : Value).ownBlock) ∧ some k_ ≠ (.slice Ao24 t244.length co24 : Value).ownBlock)) (n := t252.length) (c := co32) ?_).2.2; exact (by (with_reducible repeat (first | apply rA_ | apply rN_ | apply rD_)); exact (Kd.R_mono (Kd.R_far (p := ⟨gb255, 1, none⟩) (Kd.R_far (p := ⟨gb255, 0, none⟩) (Kd.R_types HO254.out BK255.out (by decide)) (fun _ hk => hk.2) (.slice Ao28 t249.length co28)) (fun _ hk => hk.2) (.slice Ao32 t252.length co32)) (fun _ h_ => h_.1)))); (case side4 => exact (Kd.R_reads' HO254.out).2.1); rintro e w33 ⟨v257, v260, rfl, ho0, ho1, hb⟩; refine ⟨_, rfl, ?_⟩; have n0_ := aM_ (Kd.R_mono (Kd.R_told (Kd.R_told (Kd.R_old (by (with_reducible repeat (first | apply rA_ | apply rN_ | apply rD_)); exact (Kd.R_mono (Kd.R_far (p := ⟨gb255, 1, none⟩) (Kd.R_far (p := ⟨gb255, 0, none⟩) (Kd.R_types HO237.out BK255.out (by decide)) (fun _ hk => hk.2) (.slice Ao28 t249.length co28)) (fun _ hk => hk.2) (.slice Ao32 t252.length co32)) (fun _ h_ => h_.1))) hb) (Kd.R_base ho0)) (Kd.R_base ho1)) (fun _ h_ => h_.1)); have n1_ := aM_ (Kd.R_mono (Kd.R_told (Kd.R_told (Kd.R_old (by (with_reducible repeat (first | apply rA_ | apply rN_ | apply rD_)); exact (Kd.R_mono (Kd.R_far (p := ⟨gb255, 1, none⟩) (Kd.R_far (p := ⟨gb255, 0, none⟩) (Kd.R_types HO240.out BK255.out (by decide)) (fun _ hk => hk.2) (.slice Ao28 t249.length co28)) (fun _ hk => hk.2) (.slice Ao32 t252.length co32)) (fun _ h_ => h_.1))) hb) (Kd.R_base ho0)) (Kd.R_base ho1)) (fun _ h_ => h_.1)); have n2_ := aM_ (Kd.R_mono (Kd.R_told (Kd.R_told (Kd.R_old (by (with_reducible repeat (first | apply rA_ | apply rN_ | apply rD_)); exact (Kd.R_mono (Kd.R_far (p := ⟨gb255, 1, none⟩) (Kd.R_far (p := ⟨gb255, 0, none⟩) (Kd.R_types HO243.out BK255.out (by decide)) (fun _ hk => hk.2) (.slice Ao28 t249.length co28)) (fun _ hk => hk.2) (.slice Ao32 t252.length co32)) (fun _ h_ => h_.1))) hb) (Kd.R_base ho0)) (Kd.R_base ho1)) (fun _ h_ => h_.1)); have n3_ := aM_ (Kd.R_mono (Kd.R_told (Kd.R_told (Kd.R_old (by (with_reducible repeat (first | apply rA_ | apply rN_ | apply rD_)); exact (Kd.R_mono (Kd.R_far (p := ⟨gb255, 1, none⟩) (Kd.R_far (p := ⟨gb255, 0, none⟩) (Kd.R_types HO246.out BK255.out (by decide)) (fun _ hk => hk.2) (.slice Ao28 t249.length co28)) (fun _ hk => hk.2) (.slice Ao32 t252.length co32)) (fun _ h_ => h_.1))) hb) (Kd.R_base ho0)) (Kd.R_base ho1)) (fun _ h_ => h_.1)); have n4_ := aM_ (Kd.R_mono (Kd.R_told (Kd.R_told (Kd.R_old (by (with_reducible repeat (first | apply rA_ | apply rN_ | apply rD_)); exact (Kd.R_mono (Kd.R_far (p := ⟨gb255, 1, none⟩) (Kd.R_far (p := ⟨gb255, 0, none⟩) (Kd.R_types HO251.out BK255.out (by decide)) (fun _ hk => hk.2) (.slice Ao28 t249.length co28)) (fun _ hk => hk.2) (.slice Ao32 t252.length co32)) (fun _ h_ => h_.1))) hb) (Kd.R_base ho0)) (Kd.R_base ho1)) (fun _ h_ => h_.1)); have n5_ := aM_ (Kd.R_mono (Kd.R_told (Kd.R_told (Kd.R_old (by (with_reducible repeat (first | apply rA_ | apply rN_ | apply rD_)); exact (Kd.R_mono (Kd.R_far (p := ⟨gb255, 1, none⟩) (Kd.R_far (p := ⟨gb255, 0, none⟩) (Kd.R_types HO254.out BK255.out (by decide)) (fun _ hk => hk.2) (.slice Ao28 t249.length co28)) (fun _ hk => hk.2) (.slice Ao32 t252.length co32)) (fun _ h_ => h_.1))) hb) (Kd.R_base ho0)) (Kd.R_base ho1)) (fun _ h_ => h_.1)); have n6_ := aM_ (Kd.R_lower (Kd.R_new' (Kd.R_new' (Kd.R_new' (Kd.R_new' (Kd.R_new' (Kd.R_new' ho0 (Kd.R_lt (by (with_reducible repeat (first | apply rA_ | apply rN_ | apply rD_)); exact (Kd.R_mono (Kd.R_far (p := ⟨gb255, 1, none⟩) (Kd.R_far (p := ⟨gb255, 0, none⟩) (Kd.R_types HO237.out BK255.out (by decide)) (fun _ hk => hk.2) (.slice Ao28 t249.length co28)) (fun _ hk => hk.2) (.slice Ao32 t252.length co32)) (fun _ h_ => h_.1))))) (Kd.R_lt (by (with_reducible repeat (first | apply rA_ | apply rN_ | apply rD_)); exact (Kd.R_mono (Kd.R_far (p := ⟨gb255, 1, none⟩) (Kd.R_far (p := ⟨gb255, 0, none⟩) (Kd.R_types HO240.out BK255.out (by decide)) (fun _ hk => hk.2) (.slice Ao28 t249.length co28)) (fun _ hk => hk.2) (.slice Ao32 t252.length co32)) (fun _ h_ => h_.1))))) (Kd.R_lt (by (with_reducible repeat (first | apply rA_ | apply rN_ | apply rD_)); exact (Kd.R_mono (Kd.R_far (p := ⟨gb255, 1, none⟩) (Kd.R_far (p := ⟨gb255, 0, none⟩) (Kd.R_types HO243.out BK255.out (by decide)) (fun _ hk => hk.2) (.slice Ao28 t249.length co28)) (fun _ hk => hk.2) (.slice Ao32 t252.length co32)) (fun _ h_ => h_.1))))) (Kd.R_lt (by (with_reducible repeat (first | apply rA_ | apply rN_ | apply rD_)); exact (Kd.R_mono (Kd.R_far (p := ⟨gb255, 1, none⟩) (Kd.R_far (p := ⟨gb255, 0, none⟩) (Kd.R_types HO246.out BK255.out (by decide)) (fun _ hk => hk.2) (.slice Ao28 t249.length co28)) (fun _ hk => hk.2) (.slice Ao32 t252.length co32)) (fun _ h_ => h_.1))))) (Kd.R_lt (by (with_reducible repeat (first | apply rA_ | apply rN_ | apply rD_)); exact (Kd.R_mono (Kd.R_far (p := ⟨gb255, 1, none⟩) (Kd.R_far (p := ⟨gb255, 0, none⟩) (Kd.R_types HO251.out BK255.out (by decide)) (fun _ hk => hk.2) (.slice Ao28 t249.length co28)) (fun _ hk => hk.2) (.slice Ao32 t252.length co32)) (fun _ h_ => h_.1))))) (Kd.R_lt (by (with_reducible repeat (first | apply rA_ | apply rN_ | apply rD_)); exact (Kd.R_mono (Kd.R_far (p := ⟨gb255, 1, none⟩) (Kd.R_far (p := ⟨gb255, 0, none⟩) (Kd.R_types HO254.out BK255.out (by decide)) (fun _ hk => hk.2) (.slice Ao28 t249.length co28)) (fun _ hk => hk.2) (.slice Ao32 t252.length co32)) (fun _ h_ => h_.1))))) (below_size (by repeat (first | (with_reducible first | exact HB.out | apply bA_ | apply bN_ | apply bD_ | refine bS_ ?_ GE233.out | refine bS_ ?_ GE248.out | refine bS_ ?_ GE255.out) | exact HB.out)))); have n7_ := aM_ (Kd.R_lower (Kd.R_new' (Kd.R_new' (Kd.R_new' (Kd.R_new' (Kd.R_new' (Kd.R_new' ho1 (Kd.R_lt (by (with_reducible repeat (first | apply rA_ | apply rN_ | apply rD_)); exact (Kd.R_mono (Kd.R_far (p := ⟨gb255, 1, none⟩) (Kd.R_far (p := ⟨gb255, 0, none⟩) (Kd.R_types HO237.out BK255.out (by decide)) (fun _ hk => hk.2) (.slice Ao28 t249.length co28)) (fun _ hk => hk.2) (.slice Ao32 t252.length co32)) (fun _ h_ => h_.1))))) (Kd.R_lt (by (with_reducible repeat (first | apply rA_ | apply rN_ | apply rD_)); exact (Kd.R_mono (Kd.R_far (p := ⟨gb255, 1, none⟩) (Kd.R_far (p := ⟨gb255, 0, none⟩) (Kd.R_types HO240.out BK255.out (by decide)) (fun _ hk => hk.2) (.slice Ao28 t249.length co28)) (fun _ hk => hk.2) (.slice Ao32 t252.length co32)) (fun _ h_ => h_.1))))) (Kd.R_lt (by (with_reducible repeat (first | apply rA_ | apply rN_ | apply rD_)); exact (Kd.R_mono (Kd.R_far (p := ⟨gb255, 1, none⟩) (Kd.R_far (p := ⟨gb255, 0, none⟩) (Kd.R_types HO243.out BK255.out (by decide)) (fun _ hk => hk.2) (.slice Ao28 t249.length co28)) (fun _ hk => hk.2) (.slice Ao32 t252.length co32)) (fun _ h_ => h_.1))))) (Kd.R_lt (by (with_reducible repeat (first | apply rA_ | apply rN_ | apply rD_)); exact (Kd.R_mono (Kd.R_far (p := ⟨gb255, 1, none⟩) (Kd.R_far (p := ⟨gb255, 0, none⟩) (Kd.R_types HO246.out BK255.out (by decide)) (fun _ hk => hk.2) (.slice Ao28 t249.length co28)) (fun _ hk => hk.2) (.slice Ao32 t252.length co32)) (fun _ h_ => h_.1))))) (Kd.R_lt (by (with_reducible repeat (first | apply rA_ | apply rN_ | apply rD_)); exact (Kd.R_mono (Kd.R_far (p := ⟨gb255, 1, none⟩) (Kd.R_far (p := ⟨gb255, 0, none⟩) (Kd.R_types HO251.out BK255.out (by decide)) (fun _ hk => hk.2) (.slice Ao28 t249.length co28)) (fun _ hk => hk.2) (.slice Ao32 t252.length co32)) (fun _ h_ => h_.1))))) (Kd.R_lt (by (with_reducible repeat (first | apply rA_ | apply rN_ | apply rD_)); exact (Kd.R_mono (Kd.R_far (p := ⟨gb255, 1, none⟩) (Kd.R_far (p := ⟨gb255, 0, none⟩) (Kd.R_types HO254.out BK255.out (by decide)) (fun _ hk => hk.2) (.slice Ao28 t249.length co28)) (fun _ hk => hk.2) (.slice Ao32 t252.length co32)) (fun _ h_ => h_.1))))) (below_size (by repeat (first | (with_reducible first | exact HB.out | apply bA_ | apply bN_ | apply bD_ | refine bS_ ?_ GE233.out | refine bS_ ?_ GE248.out | refine bS_ ?_ GE255.out) | exact HB.out)))); have n8_ := aM_ (blk_below (g := gb233) (o := .cells #[.slice A0_0 l0_0.length c0_0, .slice A0_1 l0_1.length c0_1] 32 (0, 0)) (by (with_reducible repeat (first | refine kN_ ?_ _ | refine kD_ ?_ | refine kA_ ?_ _)); refine blk_far ?_ NB233_255.out _; (with_reducible repeat (first | refine kN_ ?_ _ | refine kD_ ?_ | refine kA_ ?_ _)); refine blk_far ?_ NB233_255.out _; (with_reducible repeat (first | refine kN_ ?_ _ | refine kD_ ?_ | refine kA_ ?_ _)); exact BK233.out) hb); have n9_ := aM_ (blk_below (g := gb248) (o := .cells #[.slice Ao21 t241.length co21, .slice Ao24 t244.length co24] 34 (0, 0)) (by (with_reducible repeat (first | refine kN_ ?_ _ | refine kD_ ?_ | refine kA_ ?_ _)); refine blk_far ?_ NB248_255.out _; (with_reducible repeat (first | refine kN_ ?_ _ | refine kD_ ?_ | refine kA_ ?_ _)); refine blk_far ?_ NB248_255.out _; (with_reducible repeat (first | refine kN_ ?_ _ | refine kD_ ?_ | refine kA_ ?_ _)); exact BK248.out) hb); have n10_ := aM_ (blk_below (g := gb255) (o := .cells #[.slice Ao28 t249.length co28, .slice Ao32 t252.length co32] 34 (0, 0)) (by (with_reducible repeat (first | refine kN_ ?_ _ | refine kD_ ?_ | refine kA_ ?_ _)); refine blk_put (cs := #[.slice Ao28 t249.length co28, .slice none 0 0]) ?_ 1 _ rfl; (with_reducible repeat (first | refine kN_ ?_ _ | refine kD_ ?_ | refine kA_ ?_ _)); refine blk_put (cs := #[.slice none 0 0, .slice none 0 0]) ?_ 0 _ rfl; (with_reducible repeat (first | refine kN_ ?_ _ | refine kD_ ?_ | refine kA_ ?_ _)); exact BK255.out) hb); have n11_ := aM_ (below_step (by repeat (first | (with_reducible first | exact HB.out | apply bA_ | apply bN_ | apply bD_ | refine bS_ ?_ GE233.out | refine bS_ ?_ GE248.out | refine bS_ ?_ GE255.out) | exact HB.out)) hb); clear HO237; clear HO240; clear HO243; clear HO246; clear HO251; clear HO254; clear BK233; clear BK248; clear BK255; clear HB; have HO237 := n0_; have HO240 := n1_; have HO243 := n2_; have HO246 := n3_; have HO251 := n4_; have HO254 := n5_; have HO258 := n6_; have HO261 := n7_; have BK233 := n8_; have BK248 := n9_; have BK255 := n10_; have HB := n11_; clear n0_ n1_ n2_ n3_ n4_ n5_ n6_ n7_ n8_ n9_ n10_ n11_; (try clear hb); (try clear hb2); (try clear hk); (try clear hi); (try clear ho0); (try clear ho1)) | ((with_reducible refine gate_dst (N := 7) rfl ?_); refine box_event ?hg (N := 7) ?hd (cs := #[.slice none 0 0, .slice none 0 0]) (t := 34) ?hr ?_; (case hd => rfl); (case hg => rfl); (case hr => first | (go_simp; done) | (go_simp; rfl)); intro gb263 hg w34 hbox hb; have n0_ := aM_ (Kd.R_below (by (with_reducible repeat (first | apply rA_ | apply rN_ | apply rD_)); exact HO237.out) hb); have n1_ := aM_ (Kd.R_below (by (with_reducible repeat (first | apply rA_ | apply rN_ | apply rD_)); exact HO240.out) hb); have n2_ := aM_ (Kd.R_below (by (with_reducible repeat (first | apply rA_ | apply rN_ | apply rD_)); exact HO243.out) hb); have n3_ := aM_ (Kd.R_below (by (with_reducible repeat (first | apply rA_ | apply rN_ | apply rD_)); exact HO246.out) hb); have n4_ := aM_ (Kd.R_below (by (with_reducible repeat (first | apply rA_ | apply rN_ | apply rD_)); exact HO251.out) hb); have n5_ := aM_ (Kd.R_below (by (with_reducible repeat (first | apply rA_ | apply rN_ | apply rD_)); exact HO254.out) hb); have n6_ := aM_ (Kd.R_below (by (with_reducible repeat (first | apply rA_ | apply rN_ | apply rD_)); exact HO258.out) hb); have n7_ := aM_ (Kd.R_below (by (with_reducible repeat (first | apply rA_ | apply rN_ | apply rD_)); exact HO261.out) hb); have n8_ := aM_ (blk_below (g := gb233) (o := .cells #[.slice A0_0 l0_0.length c0_0, .slice A0_1 l0_1.length c0_1] 32 (0, 0)) (by (with_reducible repeat (first | refine kN_ ?_ _ | refine kD_ ?_ | refine kA_ ?_ _)); exact BK233.out) hb); have n9_ := aM_ (blk_below (g := gb248) (o := .cells #[.slice Ao21 t241.length co21, .slice Ao24 t244.length co24] 34 (0, 0)) (by (with_reducible repeat (first | refine kN_ ?_ _ | refine kD_ ?_ | refine kA_ ?_ _)); exact BK248.out) hb); have n10_ := aM_ (blk_below (g := gb255) (o := .cells #[.slice Ao28 t249.length co28, .slice Ao32 t252.length co32] 34 (0, 0)) (by (with_reducible repeat (first | refine kN_ ?_ _ | refine kD_ ?_ | refine kA_ ?_ _)); exact BK255.out) hb); have n11_ := aM_ (below_step (by repeat (first | (with_reducible first | exact HB.out | apply bA_ | apply bN_ | apply bD_ | refine bS_ ?_ GE233.out | refine bS_ ?_ GE248.out | refine bS_ ?_ GE255.out) | exact HB.out)) hb); have n12_ := aM_ (hbox); have n13_ := aM_ ((by rw [hg]; exact (below_size (by repeat (first | (with_reducible first | exact HB.out | apply bA_ | apply bN_ | apply bD_ | refine bS_ ?_ GE233.out | refine bS_ ?_ GE248.out | refine bS_ ?_ GE255.out) | exact HB.out))) : w.heap.size ≤ gb263)); have n14_ := aM_ ((by rw [hg]; exact (below_size (by repeat (first | (with_reducible first | exact HB.out | apply bA_ | apply bN_ | apply bD_ | refine bS_ ?_ GE233.out | refine bS_ ?_ GE248.out | refine bS_ ?_ GE255.out) | exact HB.out))) : w.heap.size ≤ gb263)); have n15_ := aM_ ((by rw [hg]; exact Nat.ne_of_lt (blk_lt (g := gb233) (o := .cells #[.slice A0_0 l0_0.length c0_0, .slice A0_1 l0_1.length c0_1] 32 (0, 0)) (by (with_reducible repeat (first | refine kN_ ?_ _ | refine kD_ ?_ | refine kA_ ?_ _)); exact BK233.out)) : gb233 ≠ gb263)); have n16_ := aM_ ((by rw [hg]; exact Nat.ne_of_gt (blk_lt (g := gb233) (o := .cells #[.slice A0_0 l0_0.length c0_0, .slice A0_1 l0_1.length c0_1] 32 (0, 0)) (by (with_reducible repeat (first | refine kN_ ?_ _ | refine kD_ ?_ | refine kA_ ?_ _)); exact BK233.out)) : gb263 ≠ gb233)); have n17_ := aM_ ((by rw [hg]; exact Nat.ne_of_lt (blk_lt (g := gb248) (o := .cells #[.slice Ao21 t241.length co21, .slice Ao24 t244.length co24] 34 (0, 0)) (by (with_reducible repeat (first | refine kN_ ?_ _ | refine kD_ ?_ | refine kA_ ?_ _)); exact BK248.out)) : gb248 ≠ gb263)); have n18_ := aM_ ((by rw [hg]; exact Nat.ne_of_gt (blk_lt (g := gb248) (o := .cells #[.slice Ao21 t241.length co21, .slice Ao24 t244.length co24] 34 (0, 0)) (by (with_reducible repeat (first | refine kN_ ?_ _ | refine kD_ ?_ | refine kA_ ?_ _)); exact BK248.out)) : gb263 ≠ gb248)); have n19_ := aM_ ((by rw [hg]; exact Nat.ne_of_lt (blk_lt (g := gb255) (o := .cells #[.slice Ao28 t249.length co28, .slice Ao32 t252.length co32] 34 (0, 0)) (by (with_reducible repeat (first | refine kN_ ?_ _ | refine kD_ ?_ | refine kA_ ?_ _)); exact BK255.out)) : gb255 ≠ gb263)); have n20_ := aM_ ((by rw [hg]; exact Nat.ne_of_gt (blk_lt (g := gb255) (o := .cells #[.slice Ao28 t249.length co28, .slice Ao32 t252.length co32] 34 (0, 0)) (by (with_reducible repeat (first | refine kN_ ?_ _ | refine kD_ ?_ | refine kA_ ?_ _)); exact BK255.out)) : gb263 ≠ gb255)); clear HO237; clear HO240; clear HO243; clear HO246; clear HO251; clear HO254; clear HO258; clear HO261; clear BK233; clear BK248; clear BK255; clear HB; have HO237 := n0_; have HO240 := n1_; have HO243 := n2_; have HO246 := n3_; have HO251 := n4_; have HO254 := n5_; have HO258 := n6_; have HO261 := n7_; have BK233 := n8_; have BK248 := n9_; have BK255 := n10_; have HB := n11_; have BK263 := n12_; have GW263 := n13_; have GE263 := n14_; have NB233_263 := n15_; have NB263_233 := n16_; have NB248_263 := n17_; have NB263_248 := n18_; have NB255_263 := n19_; have NB263_255 := n20_; clear n0_ n1_ n2_ n3_ n4_ n5_ n6_ n7_ n8_ n9_ n10_ n11_ n12_ n13_ n14_ n15_ n16_ n17_ n18_ n19_ n20_; clear hb hbox hg; obtain ⟨Ao35, co35, eo35⟩ := Kd.R_slice HO258.out; subst eo35; have hnb36 := NB263_233.out; have hnc36 := NB233_263.out; have hnb37 := NB263_248.out; have hnc37 := NB248_263.out; have hnb38 := NB263_255.out; have hnc38 := NB255_263.out; have hcz39_0 : w34.cell? ⟨gb263, 0, none⟩ = some (.slice none 0 0) := (blk_cell BK263.out 0).trans rfl; have hcz39_1 : w34.cell? ⟨gb263, 1, none⟩ = some (.slice none 0 0) := (blk_cell BK263.out 1).trans rfl; have hfz39_0 := blk_frozen BK263.out 0; have hfz39_1 := blk_frozen BK263.out 1; obtain ⟨Ao40, co40, eo40⟩ := Kd.R_slice HO261.out; subst eo40))
  (try simp only [Act.put, List.setIfInBounds_toArray, List.set_cons_zero, List.set_cons_succ])
  go_cut [40] (fun v40 wc => ∃ (kq : Nat) (x40_10 : Bool), v40 = .bool x40_10 ∧ Aside0 (laws_FnExactNormalStream.j0 kq t247 t262 x40_10 l0_0 l0_1 t241 t244 t249 t252 t256 t259 = some r) ∧ Aside0 (kq ≤ k) ∧ Aside0 (Kd.R (Kd.int .i8) 69 wc w.heap.size (fun k_ => some k_ ≠ ((.slice Ao24 t244.length co24) : Value).ownBlock ∧ some k_ ≠ ((.slice Ao28 t249.length co28) : Value).ownBlock ∧ some k_ ≠ ((.slice Ao32 t252.length co32) : Value).ownBlock ∧ some k_ ≠ ((.slice Ao35 t256.length co35) : Value).ownBlock ∧ some k_ ≠ ((.slice Ao40 t259.length co40) : Value).ownBlock) (.slice Ao21 t241.length co21) t241) ∧ Aside0 (Kd.R (Kd.int .i8) 69 wc w.heap.size (fun k_ => some k_ ≠ ((.slice Ao21 t241.length co21) : Value).ownBlock ∧ some k_ ≠ ((.slice Ao28 t249.length co28) : Value).ownBlock ∧ some k_ ≠ ((.slice Ao32 t252.length co32) : Value).ownBlock ∧ some k_ ≠ ((.slice Ao35 t256.length co35) : Value).ownBlock ∧ some k_ ≠ ((.slice Ao40 t259.length co40) : Value).ownBlock) (.slice Ao24 t244.length co24) t244) ∧ Aside0 (Kd.R (Kd.int .i8) 69 wc w.heap.size (fun k_ => some k_ ≠ ((.slice Ao21 t241.length co21) : Value).ownBlock ∧ some k_ ≠ ((.slice Ao24 t244.length co24) : Value).ownBlock ∧ some k_ ≠ ((.slice Ao32 t252.length co32) : Value).ownBlock ∧ some k_ ≠ ((.slice Ao35 t256.length co35) : Value).ownBlock ∧ some k_ ≠ ((.slice Ao40 t259.length co40) : Value).ownBlock) (.slice Ao28 t249.length co28) t249) ∧ Aside0 (Kd.R (Kd.int .i8) 69 wc w.heap.size (fun k_ => some k_ ≠ ((.slice Ao21 t241.length co21) : Value).ownBlock ∧ some k_ ≠ ((.slice Ao24 t244.length co24) : Value).ownBlock ∧ some k_ ≠ ((.slice Ao28 t249.length co28) : Value).ownBlock ∧ some k_ ≠ ((.slice Ao35 t256.length co35) : Value).ownBlock ∧ some k_ ≠ ((.slice Ao40 t259.length co40) : Value).ownBlock) (.slice Ao32 t252.length co32) t252) ∧ Aside0 (Kd.R (Kd.int .i8) 69 wc w.heap.size (fun k_ => some k_ ≠ ((.slice Ao21 t241.length co21) : Value).ownBlock ∧ some k_ ≠ ((.slice Ao24 t244.length co24) : Value).ownBlock ∧ some k_ ≠ ((.slice Ao28 t249.length co28) : Value).ownBlock ∧ some k_ ≠ ((.slice Ao32 t252.length co32) : Value).ownBlock ∧ some k_ ≠ ((.slice Ao40 t259.length co40) : Value).ownBlock) (.slice Ao35 t256.length co35) t256) ∧ Aside0 (Kd.R (Kd.int .i8) 69 wc w.heap.size (fun k_ => some k_ ≠ ((.slice Ao21 t241.length co21) : Value).ownBlock ∧ some k_ ≠ ((.slice Ao24 t244.length co24) : Value).ownBlock ∧ some k_ ≠ ((.slice Ao28 t249.length co28) : Value).ownBlock ∧ some k_ ≠ ((.slice Ao32 t252.length co32) : Value).ownBlock ∧ some k_ ≠ ((.slice Ao35 t256.length co35) : Value).ownBlock) (.slice Ao40 t259.length co40) t259) ∧ Aside0 (wc.heap[gb233]? = some (.cells #[(.slice A0_0 l0_0.length c0_0), (.slice A0_1 l0_1.length c0_1)] 32 (0, 0))) ∧ Aside0 (wc.heap[gb248]? = some (.cells #[(.slice Ao21 t241.length co21), (.slice Ao24 t244.length co24)] 34 (0, 0))) ∧ Aside0 (wc.heap[gb255]? = some (.cells #[(.slice Ao28 t249.length co28), (.slice Ao32 t252.length co32)] 34 (0, 0))) ∧ Aside0 (wc.heap[gb263]? = some (.cells #[(.slice Ao35 t256.length co35), (.slice Ao40 t259.length co40)] 34 (0, 0))) ∧ Aside0 (Below w.heap.size w wc))
  case first =>
   have H := HC11.out
   clear HC11
   replace H := Option.bind_eq_some_iff.mp H
   obtain ⟨t264, A410, H⟩ := H
   replace H : (if t264 = true then (laws_FnExactNormalStream.j0 k t247 t262 (t262 != t247) l0_0 l0_1 t241 t244 t249 t252 t256 t259) else (laws_FnExactNormalStream.j0 k t247 t262 true l0_0 l0_1 t241 t244 t249 t252 t256 t259)) = some r := H
   have A41 := aM_ A410
   clear A410
   by_cases c42 : t264 = true
   ·subst c42
    have H1 : (laws_FnExactNormalStream.j0 k t247 t262 (t262 != t247) l0_0 l0_1 t241 t244 t249 t252 t256 t259) = some r := by rw [if_pos rfl] at H; exact H
    clear H
    have H := H1
    clear H1
    have H' := aM_ H
    clear H
    have hnb43 := NB263_233.out
    have hnc43 := NB233_263.out
    have hnb44 := NB263_248.out
    have hnc44 := NB248_263.out
    have hnb45 := NB263_255.out
    have hnc45 := NB255_263.out
    have hcz46_0 : w34.cell? ⟨gb263, 0, none⟩ = some (.slice none 0 0) := (blk_cell BK263.out 0).trans rfl
    have hcz46_1 : w34.cell? ⟨gb263, 1, none⟩ = some (.slice none 0 0) := (blk_cell BK263.out 1).trans rfl
    have hfz46_0 := blk_frozen BK263.out 0
    have hfz46_1 := blk_frozen BK263.out 1
    have hnb47 := NB248_233.out
    have hnc47 := NB233_248.out
    have hnb48 := NB248_255.out
    have hnc48 := NB255_248.out
    have hcz49_0 : w34.cell? ⟨gb248, 0, none⟩ = some (.slice Ao21 t241.length co21) := (blk_cell BK248.out 0).trans rfl
    have hcz49_1 : w34.cell? ⟨gb248, 1, none⟩ = some (.slice Ao24 t244.length co24) := (blk_cell BK248.out 1).trans rfl
    have hfz49_0 := blk_frozen BK248.out 0
    have hfz49_1 := blk_frozen BK248.out 1
    go_wp2_with (first | ((with_reducible refine gate_callee (f := 21) rfl ?_); refine goesL_ (some 34) rfl rfl Try.func21 (by kernel_rfl) rfl #[.agg #[.slice Ao35 t256.length co35, .slice Ao40 t259.length co40], .agg #[.slice Ao21 t241.length co21, .slice Ao24 t244.length co24]] rfl (by (try simp only [List.map_toArray, List.map_cons, List.map_nil]); first | done | rfl | (simp only [List.length_drop, List.length_take]; rfl)) ?_; (with_reducible refine (laws_eqStream.calls k _ _ t256 _ _ t259 _ _ t241 _ _ t244 true _ ?side1 ?side2 ?side3 ?side4 ?side5 ?side6 ?side7 ?side8 A41.out).mono ?_); (case side1 => refine (Kd.R_reads' (e := 69) (base := w.heap.size) (ok := fun k_ => ((((((some k_ ≠ (.slice Ao40 t259.length co40 : Value).ownBlock ∧ some k_ ≠ (.slice Ao17 t235.length co17 : Value).ownBlock) ∧ some k_ ≠ (.slice Ao18 t238.length co18 : Value).ownBlock) ∧ some k_ ≠ (.slice Ao21 t241.length co21 : Value).ownBlock) ∧ some k_ ≠ (.slice Ao24 t244.length co24 : Value).ownBlock) ∧ some k_ ≠ (.slice Ao28 t249.length co28 : Value).ownBlock) ∧ some k_ ≠ (.slice Ao32 t252.length co32 : Value).ownBlock)) (n := t256.length) (c := co35) ?_).2.2; exact (by (with_reducible repeat (first | apply rA_ | apply rN_ | apply rD_)); exact (Kd.R_mono (Kd.R_far (p := ⟨gb263, 1, none⟩) (Kd.R_far (p := ⟨gb263, 0, none⟩) (Kd.R_types HO258.out BK263.out (by decide)) (fun _ hk => hk.2) (.slice Ao35 t256.length co35)) (fun _ hk => hk.2) (.slice Ao40 t259.length co40)) (fun _ h_ => h_.1)))); (case side2 => exact (Kd.R_reads' HO258.out).2.1); (case side3 => refine (Kd.R_reads' (e := 69) (base := w.heap.size) (ok := fun k_ => ((((((some k_ ≠ (.slice Ao35 t256.length co35 : Value).ownBlock ∧ some k_ ≠ (.slice Ao17 t235.length co17 : Value).ownBlock) ∧ some k_ ≠ (.slice Ao18 t238.length co18 : Value).ownBlock) ∧ some k_ ≠ (.slice Ao21 t241.length co21 : Value).ownBlock) ∧ some k_ ≠ (.slice Ao24 t244.length co24 : Value).ownBlock) ∧ some k_ ≠ (.slice Ao28 t249.length co28 : Value).ownBlock) ∧ some k_ ≠ (.slice Ao32 t252.length co32 : Value).ownBlock)) (n := t259.length) (c := co40) ?_).2.2; exact (by (with_reducible repeat (first | apply rA_ | apply rN_ | apply rD_)); exact (Kd.R_mono (Kd.R_far (p := ⟨gb263, 1, none⟩) (Kd.R_far (p := ⟨gb263, 0, none⟩) (Kd.R_types HO261.out BK263.out (by decide)) (fun _ hk => hk.2) (.slice Ao35 t256.length co35)) (fun _ hk => hk.2) (.slice Ao40 t259.length co40)) (fun _ h_ => h_.1)))); (case side4 => exact (Kd.R_reads' HO261.out).2.1); (case side5 => refine (Kd.R_reads' (e := 69) (base := w.heap.size) (ok := fun k_ => ((((((some k_ ≠ (.slice Ao24 t244.length co24 : Value).ownBlock ∧ some k_ ≠ (.slice Ao17 t235.length co17 : Value).ownBlock) ∧ some k_ ≠ (.slice Ao18 t238.length co18 : Value).ownBlock) ∧ some k_ ≠ (.slice Ao28 t249.length co28 : Value).ownBlock) ∧ some k_ ≠ (.slice Ao32 t252.length co32 : Value).ownBlock) ∧ some k_ ≠ (.slice Ao35 t256.length co35 : Value).ownBlock) ∧ some k_ ≠ (.slice Ao40 t259.length co40 : Value).ownBlock)) (n := t241.length) (c := co21) ?_).2.2; exact (by (with_reducible repeat (first | apply rA_ | apply rN_ | apply rD_)); exact (Kd.R_mono (Kd.R_far (p := ⟨gb263, 1, none⟩) (Kd.R_far (p := ⟨gb263, 0, none⟩) (Kd.R_types HO243.out BK263.out (by decide)) (fun _ hk => hk.2) (.slice Ao35 t256.length co35)) (fun _ hk => hk.2) (.slice Ao40 t259.length co40)) (fun _ h_ => h_.1)))); (case side6 => exact (Kd.R_reads' HO243.out).2.1); (case side7 => refine (Kd.R_reads' (e := 69) (base := w.heap.size) (ok := fun k_ => ((((((some k_ ≠ (.slice Ao21 t241.length co21 : Value).ownBlock ∧ some k_ ≠ (.slice Ao17 t235.length co17 : Value).ownBlock) ∧ some k_ ≠ (.slice Ao18 t238.length co18 : Value).ownBlock) ∧ some k_ ≠ (.slice Ao28 t249.length co28 : Value).ownBlock) ∧ some k_ ≠ (.slice Ao32 t252.length co32 : Value).ownBlock) ∧ some k_ ≠ (.slice Ao35 t256.length co35 : Value).ownBlock) ∧ some k_ ≠ (.slice Ao40 t259.length co40 : Value).ownBlock)) (n := t244.length) (c := co24) ?_).2.2; exact (by (with_reducible repeat (first | apply rA_ | apply rN_ | apply rD_)); exact (Kd.R_mono (Kd.R_far (p := ⟨gb263, 1, none⟩) (Kd.R_far (p := ⟨gb263, 0, none⟩) (Kd.R_types HO246.out BK263.out (by decide)) (fun _ hk => hk.2) (.slice Ao35 t256.length co35)) (fun _ hk => hk.2) (.slice Ao40 t259.length co40)) (fun _ h_ => h_.1)))); (case side8 => exact (Kd.R_reads' HO246.out).2.1); rintro e w50 ⟨rfl, hb⟩; refine ⟨_, rfl, ?_⟩; have n0_ := aM_ (Kd.R_below (by (with_reducible repeat (first | apply rA_ | apply rN_ | apply rD_)); exact (Kd.R_mono (Kd.R_far (p := ⟨gb263, 1, none⟩) (Kd.R_far (p := ⟨gb263, 0, none⟩) (Kd.R_types HO237.out BK263.out (by decide)) (fun _ hk => hk.2) (.slice Ao35 t256.length co35)) (fun _ hk => hk.2) (.slice Ao40 t259.length co40)) (fun _ h_ => h_.1))) hb); have n1_ := aM_ (Kd.R_below (by (with_reducible repeat (first | apply rA_ | apply rN_ | apply rD_)); exact (Kd.R_mono (Kd.R_far (p := ⟨gb263, 1, none⟩) (Kd.R_far (p := ⟨gb263, 0, none⟩) (Kd.R_types HO240.out BK263.out (by decide)) (fun _ hk => hk.2) (.slice Ao35 t256.length co35)) (fun _ hk => hk.2) (.slice Ao40 t259.length co40)) (fun _ h_ => h_.1))) hb); have n2_ := aM_ (Kd.R_below (by (with_reducible repeat (first | apply rA_ | apply rN_ | apply rD_)); exact (Kd.R_mono (Kd.R_far (p := ⟨gb263, 1, none⟩) (Kd.R_far (p := ⟨gb263, 0, none⟩) (Kd.R_types HO243.out BK263.out (by decide)) (fun _ hk => hk.2) (.slice Ao35 t256.length co35)) (fun _ hk => hk.2) (.slice Ao40 t259.length co40)) (fun _ h_ => h_.1))) hb); have n3_ := aM_ (Kd.R_below (by (with_reducible repeat (first | apply rA_ | apply rN_ | apply rD_)); exact (Kd.R_mono (Kd.R_far (p := ⟨gb263, 1, none⟩) (Kd.R_far (p := ⟨gb263, 0, none⟩) (Kd.R_types HO246.out BK263.out (by decide)) (fun _ hk => hk.2) (.slice Ao35 t256.length co35)) (fun _ hk => hk.2) (.slice Ao40 t259.length co40)) (fun _ h_ => h_.1))) hb); have n4_ := aM_ (Kd.R_below (by (with_reducible repeat (first | apply rA_ | apply rN_ | apply rD_)); exact (Kd.R_mono (Kd.R_far (p := ⟨gb263, 1, none⟩) (Kd.R_far (p := ⟨gb263, 0, none⟩) (Kd.R_types HO251.out BK263.out (by decide)) (fun _ hk => hk.2) (.slice Ao35 t256.length co35)) (fun _ hk => hk.2) (.slice Ao40 t259.length co40)) (fun _ h_ => h_.1))) hb); have n5_ := aM_ (Kd.R_below (by (with_reducible repeat (first | apply rA_ | apply rN_ | apply rD_)); exact (Kd.R_mono (Kd.R_far (p := ⟨gb263, 1, none⟩) (Kd.R_far (p := ⟨gb263, 0, none⟩) (Kd.R_types HO254.out BK263.out (by decide)) (fun _ hk => hk.2) (.slice Ao35 t256.length co35)) (fun _ hk => hk.2) (.slice Ao40 t259.length co40)) (fun _ h_ => h_.1))) hb); have n6_ := aM_ (Kd.R_below (by (with_reducible repeat (first | apply rA_ | apply rN_ | apply rD_)); exact (Kd.R_mono (Kd.R_far (p := ⟨gb263, 1, none⟩) (Kd.R_far (p := ⟨gb263, 0, none⟩) (Kd.R_types HO258.out BK263.out (by decide)) (fun _ hk => hk.2) (.slice Ao35 t256.length co35)) (fun _ hk => hk.2) (.slice Ao40 t259.length co40)) (fun _ h_ => h_.1))) hb); have n7_ := aM_ (Kd.R_below (by (with_reducible repeat (first | apply rA_ | apply rN_ | apply rD_)); exact (Kd.R_mono (Kd.R_far (p := ⟨gb263, 1, none⟩) (Kd.R_far (p := ⟨gb263, 0, none⟩) (Kd.R_types HO261.out BK263.out (by decide)) (fun _ hk => hk.2) (.slice Ao35 t256.length co35)) (fun _ hk => hk.2) (.slice Ao40 t259.length co40)) (fun _ h_ => h_.1))) hb); have n8_ := aM_ (blk_below (g := gb233) (o := .cells #[.slice A0_0 l0_0.length c0_0, .slice A0_1 l0_1.length c0_1] 32 (0, 0)) (by (with_reducible repeat (first | refine kN_ ?_ _ | refine kD_ ?_ | refine kA_ ?_ _)); refine blk_far ?_ NB233_263.out _; (with_reducible repeat (first | refine kN_ ?_ _ | refine kD_ ?_ | refine kA_ ?_ _)); refine blk_far ?_ NB233_263.out _; (with_reducible repeat (first | refine kN_ ?_ _ | refine kD_ ?_ | refine kA_ ?_ _)); exact BK233.out) hb); have n9_ := aM_ (blk_below (g := gb248) (o := .cells #[.slice Ao21 t241.length co21, .slice Ao24 t244.length co24] 34 (0, 0)) (by (with_reducible repeat (first | refine kN_ ?_ _ | refine kD_ ?_ | refine kA_ ?_ _)); refine blk_far ?_ NB248_263.out _; (with_reducible repeat (first | refine kN_ ?_ _ | refine kD_ ?_ | refine kA_ ?_ _)); refine blk_far ?_ NB248_263.out _; (with_reducible repeat (first | refine kN_ ?_ _ | refine kD_ ?_ | refine kA_ ?_ _)); exact BK248.out) hb); have n10_ := aM_ (blk_below (g := gb255) (o := .cells #[.slice Ao28 t249.length co28, .slice Ao32 t252.length co32] 34 (0, 0)) (by (with_reducible repeat (first | refine kN_ ?_ _ | refine kD_ ?_ | refine kA_ ?_ _)); refine blk_far ?_ NB255_263.out _; (with_reducible repeat (first | refine kN_ ?_ _ | refine kD_ ?_ | refine kA_ ?_ _)); refine blk_far ?_ NB255_263.out _; (with_reducible repeat (first | refine kN_ ?_ _ | refine kD_ ?_ | refine kA_ ?_ _)); exact BK255.out) hb); have n11_ := aM_ (blk_below (g := gb263) (o := .cells #[.slice Ao35 t256.length co35, .slice Ao40 t259.length co40] 34 (0, 0)) (by (with_reducible repeat (first | refine kN_ ?_ _ | refine kD_ ?_ | refine kA_ ?_ _)); refine blk_put (cs := #[.slice Ao35 t256.length co35, .slice none 0 0]) ?_ 1 _ rfl; (with_reducible repeat (first | refine kN_ ?_ _ | refine kD_ ?_ | refine kA_ ?_ _)); refine blk_put (cs := #[.slice none 0 0, .slice none 0 0]) ?_ 0 _ rfl; (with_reducible repeat (first | refine kN_ ?_ _ | refine kD_ ?_ | refine kA_ ?_ _)); exact BK263.out) hb); have n12_ := aM_ (below_step (by repeat (first | (with_reducible first | exact HB.out | apply bA_ | apply bN_ | apply bD_ | refine bS_ ?_ GE233.out | refine bS_ ?_ GE248.out | refine bS_ ?_ GE255.out | refine bS_ ?_ GE263.out) | exact HB.out)) hb); clear HO237; clear HO240; clear HO243; clear HO246; clear HO251; clear HO254; clear HO258; clear HO261; clear BK233; clear BK248; clear BK255; clear BK263; clear HB; have HO237 := n0_; have HO240 := n1_; have HO243 := n2_; have HO246 := n3_; have HO251 := n4_; have HO254 := n5_; have HO258 := n6_; have HO261 := n7_; have BK233 := n8_; have BK248 := n9_; have BK255 := n10_; have BK263 := n11_; have HB := n12_; clear n0_ n1_ n2_ n3_ n4_ n5_ n6_ n7_ n8_ n9_ n10_ n11_ n12_; (try clear hb); (try clear hb2); (try clear hk); (try clear hi)))
    go_meet
    case rel => exact ⟨_, ((t262 != t247)), (by first | rfl | (simp; done) | (simp [*]; done)), H', ⟨by first | omega | exact Nat.le_refl _⟩, ⟨by (with_reducible repeat (first | apply rA_ | apply rN_ | apply rD_)); exact Kd.R_mono HO243.out (fun _ hk => ⟨hk.1.1.1.1.1.1, ⟨hk.1.1.1.2, ⟨hk.1.1.2, ⟨hk.1.2, hk.2⟩⟩⟩⟩)⟩, ⟨by (with_reducible repeat (first | apply rA_ | apply rN_ | apply rD_)); exact Kd.R_mono HO246.out (fun _ hk => ⟨hk.1.1.1.1.1.1, ⟨hk.1.1.1.2, ⟨hk.1.1.2, ⟨hk.1.2, hk.2⟩⟩⟩⟩)⟩, ⟨by (with_reducible repeat (first | apply rA_ | apply rN_ | apply rD_)); exact Kd.R_mono HO251.out (fun _ hk => ⟨hk.1.1.1.2, ⟨hk.1.1.2, ⟨hk.1.1.1.1.1.1, ⟨hk.1.2, hk.2⟩⟩⟩⟩)⟩, ⟨by (with_reducible repeat (first | apply rA_ | apply rN_ | apply rD_)); exact Kd.R_mono HO254.out (fun _ hk => ⟨hk.1.1.1.2, ⟨hk.1.1.2, ⟨hk.1.1.1.1.1.1, ⟨hk.1.2, hk.2⟩⟩⟩⟩)⟩, ⟨by (with_reducible repeat (first | apply rA_ | apply rN_ | apply rD_)); exact Kd.R_mono HO258.out (fun _ hk => ⟨hk.1.1.1.2, ⟨hk.1.1.2, ⟨hk.1.2, ⟨hk.2, hk.1.1.1.1.1.1⟩⟩⟩⟩)⟩, ⟨by (with_reducible repeat (first | apply rA_ | apply rN_ | apply rD_)); exact Kd.R_mono HO261.out (fun _ hk => ⟨hk.1.1.1.2, ⟨hk.1.1.2, ⟨hk.1.2, ⟨hk.2, hk.1.1.1.1.1.1⟩⟩⟩⟩)⟩, ⟨by (with_reducible repeat (first | refine kN_ ?_ _ | refine kD_ ?_ | refine kA_ ?_ _)); exact BK233.out⟩, ⟨by (with_reducible repeat (first | refine kN_ ?_ _ | refine kD_ ?_ | refine kA_ ?_ _)); exact BK248.out⟩, ⟨by (with_reducible repeat (first | refine kN_ ?_ _ | refine kD_ ?_ | refine kA_ ?_ _)); exact BK255.out⟩, ⟨by (with_reducible repeat (first | refine kN_ ?_ _ | refine kD_ ?_ | refine kA_ ?_ _)); exact BK263.out⟩, ⟨by repeat (first | (with_reducible first | exact HB.out | apply bA_ | apply bN_ | apply bD_ | refine bS_ ?_ GE233.out | refine bS_ ?_ GE248.out | refine bS_ ?_ GE255.out | refine bS_ ?_ GE263.out) | exact HB.out)⟩⟩
   ·replace c42 := Bool.eq_false_iff.mpr c42
    subst c42
    have H1 : (laws_FnExactNormalStream.j0 k t247 t262 true l0_0 l0_1 t241 t244 t249 t252 t256 t259) = some r := by rw [if_neg (show ¬ (false = true) by decide)] at H; exact H
    clear H
    have H := H1
    clear H1
    have H' := aM_ H
    clear H
    have hnb51 := NB263_233.out
    have hnc51 := NB233_263.out
    have hnb52 := NB263_248.out
    have hnc52 := NB248_263.out
    have hnb53 := NB263_255.out
    have hnc53 := NB255_263.out
    have hcz54_0 : w34.cell? ⟨gb263, 0, none⟩ = some (.slice none 0 0) := (blk_cell BK263.out 0).trans rfl
    have hcz54_1 : w34.cell? ⟨gb263, 1, none⟩ = some (.slice none 0 0) := (blk_cell BK263.out 1).trans rfl
    have hfz54_0 := blk_frozen BK263.out 0
    have hfz54_1 := blk_frozen BK263.out 1
    have hnb55 := NB248_233.out
    have hnc55 := NB233_248.out
    have hnb56 := NB248_255.out
    have hnc56 := NB255_248.out
    have hcz57_0 : w34.cell? ⟨gb248, 0, none⟩ = some (.slice Ao21 t241.length co21) := (blk_cell BK248.out 0).trans rfl
    have hcz57_1 : w34.cell? ⟨gb248, 1, none⟩ = some (.slice Ao24 t244.length co24) := (blk_cell BK248.out 1).trans rfl
    have hfz57_0 := blk_frozen BK248.out 0
    have hfz57_1 := blk_frozen BK248.out 1
    go_wp2_with (first | ((with_reducible refine gate_callee (f := 21) rfl ?_); refine goesL_ (some 34) rfl rfl Try.func21 (by kernel_rfl) rfl #[.agg #[.slice Ao35 t256.length co35, .slice Ao40 t259.length co40], .agg #[.slice Ao21 t241.length co21, .slice Ao24 t244.length co24]] rfl (by (try simp only [List.map_toArray, List.map_cons, List.map_nil]); first | done | rfl | (simp only [List.length_drop, List.length_take]; rfl)) ?_; (with_reducible refine (laws_eqStream.calls k _ _ t256 _ _ t259 _ _ t241 _ _ t244 false _ ?side1 ?side2 ?side3 ?side4 ?side5 ?side6 ?side7 ?side8 A41.out).mono ?_); (case side1 => refine (Kd.R_reads' (e := 69) (base := w.heap.size) (ok := fun k_ => ((((((some k_ ≠ (.slice Ao40 t259.length co40 : Value).ownBlock ∧ some k_ ≠ (.slice Ao17 t235.length co17 : Value).ownBlock) ∧ some k_ ≠ (.slice Ao18 t238.length co18 : Value).ownBlock) ∧ some k_ ≠ (.slice Ao21 t241.length co21 : Value).ownBlock) ∧ some k_ ≠ (.slice Ao24 t244.length co24 : Value).ownBlock) ∧ some k_ ≠ (.slice Ao28 t249.length co28 : Value).ownBlock) ∧ some k_ ≠ (.slice Ao32 t252.length co32 : Value).ownBlock)) (n := t256.length) (c := co35) ?_).2.2; exact (by (with_reducible repeat (first | apply rA_ | apply rN_ | apply rD_)); exact (Kd.R_mono (Kd.R_far (p := ⟨gb263, 1, none⟩) (Kd.R_far (p := ⟨gb263, 0, none⟩) (Kd.R_types HO258.out BK263.out (by decide)) (fun _ hk => hk.2) (.slice Ao35 t256.length co35)) (fun _ hk => hk.2) (.slice Ao40 t259.length co40)) (fun _ h_ => h_.1)))); (case side2 => exact (Kd.R_reads' HO258.out).2.1); (case side3 => refine (Kd.R_reads' (e := 69) (base := w.heap.size) (ok := fun k_ => ((((((some k_ ≠ (.slice Ao35 t256.length co35 : Value).ownBlock ∧ some k_ ≠ (.slice Ao17 t235.length co17 : Value).ownBlock) ∧ some k_ ≠ (.slice Ao18 t238.length co18 : Value).ownBlock) ∧ some k_ ≠ (.slice Ao21 t241.length co21 : Value).ownBlock) ∧ some k_ ≠ (.slice Ao24 t244.length co24 : Value).ownBlock) ∧ some k_ ≠ (.slice Ao28 t249.length co28 : Value).ownBlock) ∧ some k_ ≠ (.slice Ao32 t252.length co32 : Value).ownBlock)) (n := t259.length) (c := co40) ?_).2.2; exact (by (with_reducible repeat (first | apply rA_ | apply rN_ | apply rD_)); exact (Kd.R_mono (Kd.R_far (p := ⟨gb263, 1, none⟩) (Kd.R_far (p := ⟨gb263, 0, none⟩) (Kd.R_types HO261.out BK263.out (by decide)) (fun _ hk => hk.2) (.slice Ao35 t256.length co35)) (fun _ hk => hk.2) (.slice Ao40 t259.length co40)) (fun _ h_ => h_.1)))); (case side4 => exact (Kd.R_reads' HO261.out).2.1); (case side5 => refine (Kd.R_reads' (e := 69) (base := w.heap.size) (ok := fun k_ => ((((((some k_ ≠ (.slice Ao24 t244.length co24 : Value).ownBlock ∧ some k_ ≠ (.slice Ao17 t235.length co17 : Value).ownBlock) ∧ some k_ ≠ (.slice Ao18 t238.length co18 : Value).ownBlock) ∧ some k_ ≠ (.slice Ao28 t249.length co28 : Value).ownBlock) ∧ some k_ ≠ (.slice Ao32 t252.length co32 : Value).ownBlock) ∧ some k_ ≠ (.slice Ao35 t256.length co35 : Value).ownBlock) ∧ some k_ ≠ (.slice Ao40 t259.length co40 : Value).ownBlock)) (n := t241.length) (c := co21) ?_).2.2; exact (by (with_reducible repeat (first | apply rA_ | apply rN_ | apply rD_)); exact (Kd.R_mono (Kd.R_far (p := ⟨gb263, 1, none⟩) (Kd.R_far (p := ⟨gb263, 0, none⟩) (Kd.R_types HO243.out BK263.out (by decide)) (fun _ hk => hk.2) (.slice Ao35 t256.length co35)) (fun _ hk => hk.2) (.slice Ao40 t259.length co40)) (fun _ h_ => h_.1)))); (case side6 => exact (Kd.R_reads' HO243.out).2.1); (case side7 => refine (Kd.R_reads' (e := 69) (base := w.heap.size) (ok := fun k_ => ((((((some k_ ≠ (.slice Ao21 t241.length co21 : Value).ownBlock ∧ some k_ ≠ (.slice Ao17 t235.length co17 : Value).ownBlock) ∧ some k_ ≠ (.slice Ao18 t238.length co18 : Value).ownBlock) ∧ some k_ ≠ (.slice Ao28 t249.length co28 : Value).ownBlock) ∧ some k_ ≠ (.slice Ao32 t252.length co32 : Value).ownBlock) ∧ some k_ ≠ (.slice Ao35 t256.length co35 : Value).ownBlock) ∧ some k_ ≠ (.slice Ao40 t259.length co40 : Value).ownBlock)) (n := t244.length) (c := co24) ?_).2.2; exact (by (with_reducible repeat (first | apply rA_ | apply rN_ | apply rD_)); exact (Kd.R_mono (Kd.R_far (p := ⟨gb263, 1, none⟩) (Kd.R_far (p := ⟨gb263, 0, none⟩) (Kd.R_types HO246.out BK263.out (by decide)) (fun _ hk => hk.2) (.slice Ao35 t256.length co35)) (fun _ hk => hk.2) (.slice Ao40 t259.length co40)) (fun _ h_ => h_.1)))); (case side8 => exact (Kd.R_reads' HO246.out).2.1); rintro e w58 ⟨rfl, hb⟩; refine ⟨_, rfl, ?_⟩; have n0_ := aM_ (Kd.R_below (by (with_reducible repeat (first | apply rA_ | apply rN_ | apply rD_)); exact (Kd.R_mono (Kd.R_far (p := ⟨gb263, 1, none⟩) (Kd.R_far (p := ⟨gb263, 0, none⟩) (Kd.R_types HO237.out BK263.out (by decide)) (fun _ hk => hk.2) (.slice Ao35 t256.length co35)) (fun _ hk => hk.2) (.slice Ao40 t259.length co40)) (fun _ h_ => h_.1))) hb); have n1_ := aM_ (Kd.R_below (by (with_reducible repeat (first | apply rA_ | apply rN_ | apply rD_)); exact (Kd.R_mono (Kd.R_far (p := ⟨gb263, 1, none⟩) (Kd.R_far (p := ⟨gb263, 0, none⟩) (Kd.R_types HO240.out BK263.out (by decide)) (fun _ hk => hk.2) (.slice Ao35 t256.length co35)) (fun _ hk => hk.2) (.slice Ao40 t259.length co40)) (fun _ h_ => h_.1))) hb); have n2_ := aM_ (Kd.R_below (by (with_reducible repeat (first | apply rA_ | apply rN_ | apply rD_)); exact (Kd.R_mono (Kd.R_far (p := ⟨gb263, 1, none⟩) (Kd.R_far (p := ⟨gb263, 0, none⟩) (Kd.R_types HO243.out BK263.out (by decide)) (fun _ hk => hk.2) (.slice Ao35 t256.length co35)) (fun _ hk => hk.2) (.slice Ao40 t259.length co40)) (fun _ h_ => h_.1))) hb); have n3_ := aM_ (Kd.R_below (by (with_reducible repeat (first | apply rA_ | apply rN_ | apply rD_)); exact (Kd.R_mono (Kd.R_far (p := ⟨gb263, 1, none⟩) (Kd.R_far (p := ⟨gb263, 0, none⟩) (Kd.R_types HO246.out BK263.out (by decide)) (fun _ hk => hk.2) (.slice Ao35 t256.length co35)) (fun _ hk => hk.2) (.slice Ao40 t259.length co40)) (fun _ h_ => h_.1))) hb); have n4_ := aM_ (Kd.R_below (by (with_reducible repeat (first | apply rA_ | apply rN_ | apply rD_)); exact (Kd.R_mono (Kd.R_far (p := ⟨gb263, 1, none⟩) (Kd.R_far (p := ⟨gb263, 0, none⟩) (Kd.R_types HO251.out BK263.out (by decide)) (fun _ hk => hk.2) (.slice Ao35 t256.length co35)) (fun _ hk => hk.2) (.slice Ao40 t259.length co40)) (fun _ h_ => h_.1))) hb); have n5_ := aM_ (Kd.R_below (by (with_reducible repeat (first | apply rA_ | apply rN_ | apply rD_)); exact (Kd.R_mono (Kd.R_far (p := ⟨gb263, 1, none⟩) (Kd.R_far (p := ⟨gb263, 0, none⟩) (Kd.R_types HO254.out BK263.out (by decide)) (fun _ hk => hk.2) (.slice Ao35 t256.length co35)) (fun _ hk => hk.2) (.slice Ao40 t259.length co40)) (fun _ h_ => h_.1))) hb); have n6_ := aM_ (Kd.R_below (by (with_reducible repeat (first | apply rA_ | apply rN_ | apply rD_)); exact (Kd.R_mono (Kd.R_far (p := ⟨gb263, 1, none⟩) (Kd.R_far (p := ⟨gb263, 0, none⟩) (Kd.R_types HO258.out BK263.out (by decide)) (fun _ hk => hk.2) (.slice Ao35 t256.length co35)) (fun _ hk => hk.2) (.slice Ao40 t259.length co40)) (fun _ h_ => h_.1))) hb); have n7_ := aM_ (Kd.R_below (by (with_reducible repeat (first | apply rA_ | apply rN_ | apply rD_)); exact (Kd.R_mono (Kd.R_far (p := ⟨gb263, 1, none⟩) (Kd.R_far (p := ⟨gb263, 0, none⟩) (Kd.R_types HO261.out BK263.out (by decide)) (fun _ hk => hk.2) (.slice Ao35 t256.length co35)) (fun _ hk => hk.2) (.slice Ao40 t259.length co40)) (fun _ h_ => h_.1))) hb); have n8_ := aM_ (blk_below (g := gb233) (o := .cells #[.slice A0_0 l0_0.length c0_0, .slice A0_1 l0_1.length c0_1] 32 (0, 0)) (by (with_reducible repeat (first | refine kN_ ?_ _ | refine kD_ ?_ | refine kA_ ?_ _)); refine blk_far ?_ NB233_263.out _; (with_reducible repeat (first | refine kN_ ?_ _ | refine kD_ ?_ | refine kA_ ?_ _)); refine blk_far ?_ NB233_263.out _; (with_reducible repeat (first | refine kN_ ?_ _ | refine kD_ ?_ | refine kA_ ?_ _)); exact BK233.out) hb); have n9_ := aM_ (blk_below (g := gb248) (o := .cells #[.slice Ao21 t241.length co21, .slice Ao24 t244.length co24] 34 (0, 0)) (by (with_reducible repeat (first | refine kN_ ?_ _ | refine kD_ ?_ | refine kA_ ?_ _)); refine blk_far ?_ NB248_263.out _; (with_reducible repeat (first | refine kN_ ?_ _ | refine kD_ ?_ | refine kA_ ?_ _)); refine blk_far ?_ NB248_263.out _; (with_reducible repeat (first | refine kN_ ?_ _ | refine kD_ ?_ | refine kA_ ?_ _)); exact BK248.out) hb); have n10_ := aM_ (blk_below (g := gb255) (o := .cells #[.slice Ao28 t249.length co28, .slice Ao32 t252.length co32] 34 (0, 0)) (by (with_reducible repeat (first | refine kN_ ?_ _ | refine kD_ ?_ | refine kA_ ?_ _)); refine blk_far ?_ NB255_263.out _; (with_reducible repeat (first | refine kN_ ?_ _ | refine kD_ ?_ | refine kA_ ?_ _)); refine blk_far ?_ NB255_263.out _; (with_reducible repeat (first | refine kN_ ?_ _ | refine kD_ ?_ | refine kA_ ?_ _)); exact BK255.out) hb); have n11_ := aM_ (blk_below (g := gb263) (o := .cells #[.slice Ao35 t256.length co35, .slice Ao40 t259.length co40] 34 (0, 0)) (by (with_reducible repeat (first | refine kN_ ?_ _ | refine kD_ ?_ | refine kA_ ?_ _)); refine blk_put (cs := #[.slice Ao35 t256.length co35, .slice none 0 0]) ?_ 1 _ rfl; (with_reducible repeat (first | refine kN_ ?_ _ | refine kD_ ?_ | refine kA_ ?_ _)); refine blk_put (cs := #[.slice none 0 0, .slice none 0 0]) ?_ 0 _ rfl; (with_reducible repeat (first | refine kN_ ?_ _ | refine kD_ ?_ | refine kA_ ?_ _)); exact BK263.out) hb); have n12_ := aM_ (below_step (by repeat (first | (with_reducible first | exact HB.out | apply bA_ | apply bN_ | apply bD_ | refine bS_ ?_ GE233.out | refine bS_ ?_ GE248.out | refine bS_ ?_ GE255.out | refine bS_ ?_ GE263.out) | exact HB.out)) hb); clear HO237; clear HO240; clear HO243; clear HO246; clear HO251; clear HO254; clear HO258; clear HO261; clear BK233; clear BK248; clear BK255; clear BK263; clear HB; have HO237 := n0_; have HO240 := n1_; have HO243 := n2_; have HO246 := n3_; have HO251 := n4_; have HO254 := n5_; have HO258 := n6_; have HO261 := n7_; have BK233 := n8_; have BK248 := n9_; have BK255 := n10_; have BK263 := n11_; have HB := n12_; clear n0_ n1_ n2_ n3_ n4_ n5_ n6_ n7_ n8_ n9_ n10_ n11_ n12_; (try clear hb); (try clear hb2); (try clear hk); (try clear hi)))
    go_meet
    case rel => exact ⟨_, (true), (by first | rfl | (simp; done) | (simp [*]; done)), H', ⟨by first | omega | exact Nat.le_refl _⟩, ⟨by (with_reducible repeat (first | apply rA_ | apply rN_ | apply rD_)); exact Kd.R_mono HO243.out (fun _ hk => ⟨hk.1.1.1.1.1.1, ⟨hk.1.1.1.2, ⟨hk.1.1.2, ⟨hk.1.2, hk.2⟩⟩⟩⟩)⟩, ⟨by (with_reducible repeat (first | apply rA_ | apply rN_ | apply rD_)); exact Kd.R_mono HO246.out (fun _ hk => ⟨hk.1.1.1.1.1.1, ⟨hk.1.1.1.2, ⟨hk.1.1.2, ⟨hk.1.2, hk.2⟩⟩⟩⟩)⟩, ⟨by (with_reducible repeat (first | apply rA_ | apply rN_ | apply rD_)); exact Kd.R_mono HO251.out (fun _ hk => ⟨hk.1.1.1.2, ⟨hk.1.1.2, ⟨hk.1.1.1.1.1.1, ⟨hk.1.2, hk.2⟩⟩⟩⟩)⟩, ⟨by (with_reducible repeat (first | apply rA_ | apply rN_ | apply rD_)); exact Kd.R_mono HO254.out (fun _ hk => ⟨hk.1.1.1.2, ⟨hk.1.1.2, ⟨hk.1.1.1.1.1.1, ⟨hk.1.2, hk.2⟩⟩⟩⟩)⟩, ⟨by (with_reducible repeat (first | apply rA_ | apply rN_ | apply rD_)); exact Kd.R_mono HO258.out (fun _ hk => ⟨hk.1.1.1.2, ⟨hk.1.1.2, ⟨hk.1.2, ⟨hk.2, hk.1.1.1.1.1.1⟩⟩⟩⟩)⟩, ⟨by (with_reducible repeat (first | apply rA_ | apply rN_ | apply rD_)); exact Kd.R_mono HO261.out (fun _ hk => ⟨hk.1.1.1.2, ⟨hk.1.1.2, ⟨hk.1.2, ⟨hk.2, hk.1.1.1.1.1.1⟩⟩⟩⟩)⟩, ⟨by (with_reducible repeat (first | refine kN_ ?_ _ | refine kD_ ?_ | refine kA_ ?_ _)); exact BK233.out⟩, ⟨by (with_reducible repeat (first | refine kN_ ?_ _ | refine kD_ ?_ | refine kA_ ?_ _)); exact BK248.out⟩, ⟨by (with_reducible repeat (first | refine kN_ ?_ _ | refine kD_ ?_ | refine kA_ ?_ _)); exact BK255.out⟩, ⟨by (with_reducible repeat (first | refine kN_ ?_ _ | refine kD_ ?_ | refine kA_ ?_ _)); exact BK263.out⟩, ⟨by repeat (first | (with_reducible first | exact HB.out | apply bA_ | apply bN_ | apply bD_ | refine bS_ ?_ GE233.out | refine bS_ ?_ GE248.out | refine bS_ ?_ GE255.out | refine bS_ ?_ GE263.out) | exact HB.out)⟩⟩
  case rest =>
   clear HC11
   try clear c1
   try clear c2
   try clear p2
   try clear c3
   try clear c3b0
   try clear c4
   try clear c5
   try clear c17
   try clear c18
   try clear c19
   try clear c20
   try clear c21
   try clear c22
   try clear c29
   try clear c30
   try clear c36
   try clear c37
   try clear c38
   try clear c42
   try clear c43
   try clear c44
   try clear c45
   try clear c47
   try clear c48
   try clear c51
   try clear c52
   try clear c53
   try clear c55
   try clear c56
   try clear hcz13_0
   try clear hcz13_1
   try clear hcz15_0
   try clear hcz15_1
   try clear hcz23_0
   try clear hcz23_1
   try clear hcz25_0
   try clear hcz25_1
   try clear hcz31_0
   try clear hcz31_1
   try clear hcz39_0
   try clear hcz39_1
   try clear hcz46_0
   try clear hcz46_1
   try clear hcz49_0
   try clear hcz49_1
   try clear hcz54_0
   try clear hcz54_1
   try clear hcz57_0
   try clear hcz57_1
   try clear hcz5_0
   try clear hcz5_1
   try clear hfz13_0
   try clear hfz13_1
   try clear hfz15_0
   try clear hfz15_1
   try clear hfz23_0
   try clear hfz23_1
   try clear hfz25_0
   try clear hfz25_1
   try clear hfz31_0
   try clear hfz31_1
   try clear hfz39_0
   try clear hfz39_1
   try clear hfz46_0
   try clear hfz46_1
   try clear hfz49_0
   try clear hfz49_1
   try clear hfz54_0
   try clear hfz54_1
   try clear hfz57_0
   try clear hfz57_1
   try clear hfz5_0
   try clear hfz5_1
   obtain ⟨kq, x40_10, rfl, HA, HJ10, HO_249000, HO_249001, HO_256000, HO_256001, HO_264000, HO_264001, BK233, BK248, BK255, BK263, HB⟩ := hcut
   cases kq with
   | zero => exact absurd HA.out (by simp [laws_FnExactNormalStream.j0])
   | succ kj10 =>
    have H := HA.out
    clear HA
    simp only [laws_FnExactNormalStream.j0] at H
    by_cases c59 : x40_10 = true
    ·subst c59
     have H1 : (some false) = some r := by rw [if_pos rfl] at H; exact H
     clear H
     have H := H1
     clear H1
     obtain rfl := Option.some.inj H
     go_wp2
     go_ret
     exact ⟨by first | rfl | (simp [errW_none, errW_some] <;> rfl) | (simp [*, errW_none, errW_some] <;> rfl), by repeat (first | (with_reducible first | exact HB.out | apply bA_ | apply bN_ | apply bD_ | refine bS_ ?_ GE233.out | refine bS_ ?_ GE248.out | refine bS_ ?_ GE255.out | refine bS_ ?_ GE263.out) | exact HB.out)⟩
    ·replace c59 := Bool.eq_false_iff.mpr c59
     subst c59
     have H1 : ((laws_toStream.f kj10 l0_0 l0_1).bind fun bt265 => ((laws_eqStream.f kj10 t249 t252 bt265.1 bt265.2).bind fun t271 => (if t271 = true then ((laws_markStream.f kj10 t249 t252 1).bind fun bt272 => (if bt272.1 < 0 then (laws_FnExactNormalStream.j1 kj10 t247 true l0_0 l0_1 t241 t244 t256 t259) else ((laws_eqStream.f kj10 t256 t259 t241 t244).bind fun t275 => (if t275 = true then (laws_FnExactNormalStream.j1 kj10 t247 (t262 != t247) l0_0 l0_1 t241 t244 t256 t259) else (laws_FnExactNormalStream.j1 kj10 t247 true l0_0 l0_1 t241 t244 t256 t259))))) else (some false)))) = some r := by rw [if_neg (show ¬ (false = true) by decide)] at H; exact H
     clear H
     have H := H1
     clear H1
     replace H := Option.bind_eq_some_iff.mp H
     obtain ⟨⟨t265, t268⟩, A600, H⟩ := H
     replace H : ((laws_eqStream.f kj10 t249 t252 t265 t268).bind fun t271 => (if t271 = true then ((laws_markStream.f kj10 t249 t252 1).bind fun bt272 => (if bt272.1 < 0 then (laws_FnExactNormalStream.j1 kj10 t247 true l0_0 l0_1 t241 t244 t256 t259) else ((laws_eqStream.f kj10 t256 t259 t241 t244).bind fun t275 => (if t275 = true then (laws_FnExactNormalStream.j1 kj10 t247 (t262 != t247) l0_0 l0_1 t241 t244 t256 t259) else (laws_FnExactNormalStream.j1 kj10 t247 true l0_0 l0_1 t241 t244 t256 t259))))) else (some false))) = some r := H
     have A60 := aM_ A600
     clear A600
     replace H := Option.bind_eq_some_iff.mp H
     obtain ⟨t271, A610, H⟩ := H
     replace H : (if t271 = true then ((laws_markStream.f kj10 t249 t252 1).bind fun bt272 => (if bt272.1 < 0 then (laws_FnExactNormalStream.j1 kj10 t247 true l0_0 l0_1 t241 t244 t256 t259) else ((laws_eqStream.f kj10 t256 t259 t241 t244).bind fun t275 => (if t275 = true then (laws_FnExactNormalStream.j1 kj10 t247 (t262 != t247) l0_0 l0_1 t241 t244 t256 t259) else (laws_FnExactNormalStream.j1 kj10 t247 true l0_0 l0_1 t241 t244 t256 t259))))) else (some false)) = some r := H
     have A61 := aM_ A610
     clear A610
     by_cases c62 : t271 = true
     ·subst c62
      have H1 : ((laws_markStream.f kj10 t249 t252 1).bind fun bt272 => (if bt272.1 < 0 then (laws_FnExactNormalStream.j1 kj10 t247 true l0_0 l0_1 t241 t244 t256 t259) else ((laws_eqStream.f kj10 t256 t259 t241 t244).bind fun t275 => (if t275 = true then (laws_FnExactNormalStream.j1 kj10 t247 (t262 != t247) l0_0 l0_1 t241 t244 t256 t259) else (laws_FnExactNormalStream.j1 kj10 t247 true l0_0 l0_1 t241 t244 t256 t259))))) = some r := by rw [if_pos rfl] at H; exact H
      clear H
      have H := H1
      clear H1
      replace H := Option.bind_eq_some_iff.mp H
      obtain ⟨⟨t272, t273, t274⟩, A630, H⟩ := H
      replace H : (if t272 < 0 then (laws_FnExactNormalStream.j1 kj10 t247 true l0_0 l0_1 t241 t244 t256 t259) else ((laws_eqStream.f kj10 t256 t259 t241 t244).bind fun t275 => (if t275 = true then (laws_FnExactNormalStream.j1 kj10 t247 (t262 != t247) l0_0 l0_1 t241 t244 t256 t259) else (laws_FnExactNormalStream.j1 kj10 t247 true l0_0 l0_1 t241 t244 t256 t259)))) = some r := H
      have A63 := aM_ A630
      clear A630
      have HC64 := aM_ H
      clear H
      try go_wp2
      have n0_ := aM_ (rD_ HO_249000.out)
      have n1_ := aM_ (rD_ HO_249001.out)
      have n2_ := aM_ (rD_ HO_256000.out)
      have n3_ := aM_ (rD_ HO_256001.out)
      have n4_ := aM_ (rD_ HO_264000.out)
      have n5_ := aM_ (rD_ HO_264001.out)
      have n6_ := aM_ (kD_ BK233.out)
      have n7_ := aM_ (kD_ BK248.out)
      have n8_ := aM_ (kD_ BK255.out)
      have n9_ := aM_ (kD_ BK263.out)
      have n10_ := aM_ (bD_ HB.out)
      clear HO_249000
      clear HO_249001
      clear HO_256000
      clear HO_256001
      clear HO_264000
      clear HO_264001
      clear BK233
      clear BK248
      clear BK255
      clear BK263
      clear HB
      have HO_249000 := n0_
      have HO_249001 := n1_
      have HO_256000 := n2_
      have HO_256001 := n3_
      have HO_264000 := n4_
      have HO_264001 := n5_
      have BK233 := n6_
      have BK248 := n7_
      have BK255 := n8_
      have BK263 := n9_
      have HB := n10_
      clear n0_ n1_ n2_ n3_ n4_ n5_ n6_ n7_ n8_ n9_ n10_
      refine start_ (n := 5) (S := fun w' => w'.cell? ⟨gb255, 0, none⟩ = some (.slice Ao28 t249.length co28) ∧ w'.cell? ⟨gb255, 1, none⟩ = some (.slice Ao32 t252.length co32) ∧ w'.cell? ⟨gb233, 0, none⟩ = some (.slice A0_0 l0_0.length c0_0) ∧ w'.cell? ⟨gb233, 1, none⟩ = some (.slice A0_1 l0_1.length c0_1)) (ds := []) #[false, false, false, false, false] (by kernel_rfl) rfl rfl ⟨(blk_cell BK255.out 0).trans rfl, (blk_cell BK255.out 1).trans rfl, (blk_cell BK233.out 0).trans rfl, (blk_cell BK233.out 1).trans rfl⟩ (fun hHeld => ?_)
      generalize wc.drew = w65 at HO_249000 HO_249001 HO_256000 HO_256001 HO_264000 HO_264001 BK233 BK248 BK255 BK263 HB hHeld ⊢
      refine take_ (i := 0) (N := some 41) (v := ?_) (a' := ?_) #[true, false, false, false, false] rfl rfl (by kernel_rfl) (fun _ _ _ h => h) (Or.inl ⟨by rfl, ?_⟩) hHeld ?_ ?_
      rotate_left
      ·rintro w' ⟨s0, s1, s2, s3⟩
       go_simp
       with_reducible rfl
      rotate_left
      ·simp only [Act.put, List.setIfInBounds_toArray, List.set_cons_zero, List.set_cons_succ, i64_w, i32_w]
       rfl
      refine take_ (i := 1) (N := some 42) (v := ?_) (a' := ?_) #[true, true, false, false, false] rfl rfl (by kernel_rfl) (fun _ _ _ h => h) (Or.inl ⟨by rfl, ?_⟩) hHeld ?_ ?_
      rotate_left
      ·rintro w' ⟨s0, s1, s2, s3⟩
       go_simp
       with_reducible rfl
      rotate_left
      ·simp only [Act.put, List.setIfInBounds_toArray, List.set_cons_zero, List.set_cons_succ, i64_w, i32_w]
       rfl
      refine one_ (i := 2) (N := some 43) #[true, true, true, false, false] rfl rfl (by kernel_rfl) (by decide) (fun K hK => ?_)
      refine goes_ Try.func19 (by kernel_rfl) rfl #[.agg #[.slice A0_0 l0_0.length c0_0, .slice A0_1 l0_1.length c0_1]] (by rfl) rfl rfl (by (try simp only [List.map_toArray, List.map_cons, List.map_nil]); first | done | rfl | (simp only [List.length_drop, List.length_take]; rfl)) ?_
      with_reducible refine (laws_toStream.calls kj10 _ _ l0_0 _ _ l0_1 t265 t268 _ ?side1 ?side2 ?side3 ?side4 A60.out).mono ?_
      (case side1 => repeat (first | exact (Kd.C_below HR0_0.out HB.out) | (with_reducible refine Kd.C_alloc ?_ _) | (with_reducible refine Kd.C_drewN ?_ _) | (with_reducible refine Kd.C_drew ?_)))
      (case side2 => exact HC0_0.out)
      (case side3 => repeat (first | exact (Kd.C_below HR0_1.out HB.out) | (with_reducible refine Kd.C_alloc ?_ _) | (with_reducible refine Kd.C_drewN ?_ _) | (with_reducible refine Kd.C_drew ?_)))
      (case side4 => exact HC0_1.out)
      rintro e w66 ⟨v266, v269, rfl, ho0, ho1, hb⟩
      refine ⟨_, rfl, ?_⟩
      have n0_ := aM_ (Kd.R_mono (Kd.R_told (Kd.R_told (Kd.R_old (by (with_reducible repeat (first | apply rA_ | apply rN_ | apply rD_)); exact HO_249000.out) hb) (Kd.R_base ho0)) (Kd.R_base ho1)) (fun _ h_ => h_.1))
      have n1_ := aM_ (Kd.R_mono (Kd.R_told (Kd.R_told (Kd.R_old (by (with_reducible repeat (first | apply rA_ | apply rN_ | apply rD_)); exact HO_249001.out) hb) (Kd.R_base ho0)) (Kd.R_base ho1)) (fun _ h_ => h_.1))
      have n2_ := aM_ (Kd.R_mono (Kd.R_told (Kd.R_told (Kd.R_old (by (with_reducible repeat (first | apply rA_ | apply rN_ | apply rD_)); exact HO_256000.out) hb) (Kd.R_base ho0)) (Kd.R_base ho1)) (fun _ h_ => h_.1))
      have n3_ := aM_ (Kd.R_mono (Kd.R_told (Kd.R_told (Kd.R_old (by (with_reducible repeat (first | apply rA_ | apply rN_ | apply rD_)); exact HO_256001.out) hb) (Kd.R_base ho0)) (Kd.R_base ho1)) (fun _ h_ => h_.1))
      have n4_ := aM_ (Kd.R_mono (Kd.R_told (Kd.R_told (Kd.R_old (by (with_reducible repeat (first | apply rA_ | apply rN_ | apply rD_)); exact HO_264000.out) hb) (Kd.R_base ho0)) (Kd.R_base ho1)) (fun _ h_ => h_.1))
      have n5_ := aM_ (Kd.R_mono (Kd.R_told (Kd.R_told (Kd.R_old (by (with_reducible repeat (first | apply rA_ | apply rN_ | apply rD_)); exact HO_264001.out) hb) (Kd.R_base ho0)) (Kd.R_base ho1)) (fun _ h_ => h_.1))
      have n6_ := aM_ (Kd.R_lower (Kd.R_new' (Kd.R_new' (Kd.R_new' (Kd.R_new' (Kd.R_new' (Kd.R_new' ho0 (Kd.R_lt (by (with_reducible repeat (first | apply rA_ | apply rN_ | apply rD_)); exact HO_249000.out))) (Kd.R_lt (by (with_reducible repeat (first | apply rA_ | apply rN_ | apply rD_)); exact HO_249001.out))) (Kd.R_lt (by (with_reducible repeat (first | apply rA_ | apply rN_ | apply rD_)); exact HO_256000.out))) (Kd.R_lt (by (with_reducible repeat (first | apply rA_ | apply rN_ | apply rD_)); exact HO_256001.out))) (Kd.R_lt (by (with_reducible repeat (first | apply rA_ | apply rN_ | apply rD_)); exact HO_264000.out))) (Kd.R_lt (by (with_reducible repeat (first | apply rA_ | apply rN_ | apply rD_)); exact HO_264001.out))) (below_size (by repeat (first | (with_reducible first | exact HB.out | apply bA_ | apply bN_ | apply bD_ | refine bS_ ?_ GE233.out | refine bS_ ?_ GE248.out | refine bS_ ?_ GE255.out | refine bS_ ?_ GE263.out) | exact HB.out))))
      have n7_ := aM_ (Kd.R_lower (Kd.R_new' (Kd.R_new' (Kd.R_new' (Kd.R_new' (Kd.R_new' (Kd.R_new' ho1 (Kd.R_lt (by (with_reducible repeat (first | apply rA_ | apply rN_ | apply rD_)); exact HO_249000.out))) (Kd.R_lt (by (with_reducible repeat (first | apply rA_ | apply rN_ | apply rD_)); exact HO_249001.out))) (Kd.R_lt (by (with_reducible repeat (first | apply rA_ | apply rN_ | apply rD_)); exact HO_256000.out))) (Kd.R_lt (by (with_reducible repeat (first | apply rA_ | apply rN_ | apply rD_)); exact HO_256001.out))) (Kd.R_lt (by (with_reducible repeat (first | apply rA_ | apply rN_ | apply rD_)); exact HO_264000.out))) (Kd.R_lt (by (with_reducible repeat (first | apply rA_ | apply rN_ | apply rD_)); exact HO_264001.out))) (below_size (by repeat (first | (with_reducible first | exact HB.out | apply bA_ | apply bN_ | apply bD_ | refine bS_ ?_ GE233.out | refine bS_ ?_ GE248.out | refine bS_ ?_ GE255.out | refine bS_ ?_ GE263.out) | exact HB.out))))
      have n8_ := aM_ (blk_below (g := gb233) (o := .cells #[.slice A0_0 l0_0.length c0_0, .slice A0_1 l0_1.length c0_1] 32 (0, 0)) (by (with_reducible repeat (first | refine kN_ ?_ _ | refine kD_ ?_ | refine kA_ ?_ _)); exact BK233.out) hb)
      have n9_ := aM_ (blk_below (g := gb248) (o := .cells #[.slice Ao21 t241.length co21, .slice Ao24 t244.length co24] 34 (0, 0)) (by (with_reducible repeat (first | refine kN_ ?_ _ | refine kD_ ?_ | refine kA_ ?_ _)); exact BK248.out) hb)
      have n10_ := aM_ (blk_below (g := gb255) (o := .cells #[.slice Ao28 t249.length co28, .slice Ao32 t252.length co32] 34 (0, 0)) (by (with_reducible repeat (first | refine kN_ ?_ _ | refine kD_ ?_ | refine kA_ ?_ _)); exact BK255.out) hb)
      have n11_ := aM_ (blk_below (g := gb263) (o := .cells #[.slice Ao35 t256.length co35, .slice Ao40 t259.length co40] 34 (0, 0)) (by (with_reducible repeat (first | refine kN_ ?_ _ | refine kD_ ?_ | refine kA_ ?_ _)); exact BK263.out) hb)
      have n12_ := aM_ (below_step (by repeat (first | (with_reducible first | exact HB.out | apply bA_ | apply bN_ | apply bD_ | refine bS_ ?_ GE233.out | refine bS_ ?_ GE248.out | refine bS_ ?_ GE255.out | refine bS_ ?_ GE263.out) | exact HB.out)) hb)
      clear HO_249000
      clear HO_249001
      clear HO_256000
      clear HO_256001
      clear HO_264000
      clear HO_264001
      clear BK233
      clear BK248
      clear BK255
      clear BK263
      clear HB
      have HO_249000 := n0_
      have HO_249001 := n1_
      have HO_256000 := n2_
      have HO_256001 := n3_
      have HO_264000 := n4_
      have HO_264001 := n5_
      have HO267 := n6_
      have HO270 := n7_
      have BK233 := n8_
      have BK248 := n9_
      have BK255 := n10_
      have BK263 := n11_
      have HB := n12_
      clear n0_ n1_ n2_ n3_ n4_ n5_ n6_ n7_ n8_ n9_ n10_ n11_ n12_
      (try clear hb)
      (try clear hb2)
      (try clear hk)
      (try clear hi)
      (try clear ho0)
      (try clear ho1)
      obtain ⟨Ao67, co67, eo67⟩ := Kd.R_slice HO267.out
      (first | subst eo67 | (injection eo67 with f1_ f2_ f3_; have f4_ := f1_.symm; have f5_ := f3_.symm; clear f1_ f2_ f3_; subst f4_; subst f5_))
      obtain ⟨Ao68, co68, eo68⟩ := Kd.R_slice HO270.out
      (first | subst eo68 | (injection eo68 with f1_ f2_ f3_; have f4_ := f1_.symm; have f5_ := f3_.symm; clear f1_ f2_ f3_; subst f4_; subst f5_))
      refine hK.out _ _ ⟨(blk_cell BK255.out 0).trans rfl, (blk_cell BK255.out 1).trans rfl, (blk_cell BK233.out 0).trans rfl, (blk_cell BK233.out 1).trans rfl⟩ (fun hHeld => ?_)
      clear hK K
      refine norm_ (a' := ?_) ?_ ?_
      rotate_left
      ·show Act.put _ (some 43) _ = _
       simp only [Act.put, List.setIfInBounds_toArray, List.set_cons_zero, List.set_cons_succ, i64_w, i32_w]
       rfl
      refine one_ (i := 3) (N := some 44) #[true, true, true, true, false] rfl rfl (by kernel_rfl) (by decide) (fun K hK => ?_)
      refine goes_ Try.func21 (by kernel_rfl) rfl #[.agg #[.slice Ao28 t249.length co28, .slice Ao32 t252.length co32], .agg #[.slice Ao67 t265.length co67, .slice Ao68 t268.length co68]] (by rfl) rfl rfl (by (try simp only [List.map_toArray, List.map_cons, List.map_nil]); first | done | rfl | (simp only [List.length_drop, List.length_take]; rfl)) ?_
      with_reducible refine (laws_eqStream.calls kj10 _ _ t249 _ _ t252 _ _ t265 _ _ t268 true _ ?side1 ?side2 ?side3 ?side4 ?side5 ?side6 ?side7 ?side8 A61.out).mono ?_
      (case side1 => repeat (first | exact (Kd.R_reads' HO_256000.out).2.2 | (with_reducible refine Kd.C_alloc ?_ _) | (with_reducible refine Kd.C_drewN ?_ _) | (with_reducible refine Kd.C_drew ?_)))
      (case side2 => exact (Kd.R_reads' HO_256000.out).2.1)
      (case side3 => repeat (first | exact (Kd.R_reads' HO_256001.out).2.2 | (with_reducible refine Kd.C_alloc ?_ _) | (with_reducible refine Kd.C_drewN ?_ _) | (with_reducible refine Kd.C_drew ?_)))
      (case side4 => exact (Kd.R_reads' HO_256001.out).2.1)
      (case side5 => repeat (first | exact (Kd.R_reads' HO267.out).2.2 | (with_reducible refine Kd.C_alloc ?_ _) | (with_reducible refine Kd.C_drewN ?_ _) | (with_reducible refine Kd.C_drew ?_)))
      (case side6 => exact (Kd.R_reads' HO267.out).2.1)
      (case side7 => repeat (first | exact (Kd.R_reads' HO270.out).2.2 | (with_reducible refine Kd.C_alloc ?_ _) | (with_reducible refine Kd.C_drewN ?_ _) | (with_reducible refine Kd.C_drew ?_)))
      (case side8 => exact (Kd.R_reads' HO270.out).2.1)
      rintro e w69 ⟨rfl, hb⟩
      refine ⟨_, rfl, ?_⟩
      have n0_ := aM_ (Kd.R_below (by (with_reducible repeat (first | apply rA_ | apply rN_ | apply rD_)); exact HO_249000.out) hb)
      have n1_ := aM_ (Kd.R_below (by (with_reducible repeat (first | apply rA_ | apply rN_ | apply rD_)); exact HO_249001.out) hb)
      have n2_ := aM_ (Kd.R_below (by (with_reducible repeat (first | apply rA_ | apply rN_ | apply rD_)); exact HO_256000.out) hb)
      have n3_ := aM_ (Kd.R_below (by (with_reducible repeat (first | apply rA_ | apply rN_ | apply rD_)); exact HO_256001.out) hb)
      have n4_ := aM_ (Kd.R_below (by (with_reducible repeat (first | apply rA_ | apply rN_ | apply rD_)); exact HO_264000.out) hb)
      have n5_ := aM_ (Kd.R_below (by (with_reducible repeat (first | apply rA_ | apply rN_ | apply rD_)); exact HO_264001.out) hb)
      have n6_ := aM_ (Kd.R_below (by (with_reducible repeat (first | apply rA_ | apply rN_ | apply rD_)); exact HO267.out) hb)
      have n7_ := aM_ (Kd.R_below (by (with_reducible repeat (first | apply rA_ | apply rN_ | apply rD_)); exact HO270.out) hb)
      have n8_ := aM_ (blk_below (g := gb233) (o := .cells #[.slice A0_0 l0_0.length c0_0, .slice A0_1 l0_1.length c0_1] 32 (0, 0)) (by (with_reducible repeat (first | refine kN_ ?_ _ | refine kD_ ?_ | refine kA_ ?_ _)); exact BK233.out) hb)
      have n9_ := aM_ (blk_below (g := gb248) (o := .cells #[.slice Ao21 t241.length co21, .slice Ao24 t244.length co24] 34 (0, 0)) (by (with_reducible repeat (first | refine kN_ ?_ _ | refine kD_ ?_ | refine kA_ ?_ _)); exact BK248.out) hb)
      have n10_ := aM_ (blk_below (g := gb255) (o := .cells #[.slice Ao28 t249.length co28, .slice Ao32 t252.length co32] 34 (0, 0)) (by (with_reducible repeat (first | refine kN_ ?_ _ | refine kD_ ?_ | refine kA_ ?_ _)); exact BK255.out) hb)
      have n11_ := aM_ (blk_below (g := gb263) (o := .cells #[.slice Ao35 t256.length co35, .slice Ao40 t259.length co40] 34 (0, 0)) (by (with_reducible repeat (first | refine kN_ ?_ _ | refine kD_ ?_ | refine kA_ ?_ _)); exact BK263.out) hb)
      have n12_ := aM_ (below_step (by repeat (first | (with_reducible first | exact HB.out | apply bA_ | apply bN_ | apply bD_ | refine bS_ ?_ GE233.out | refine bS_ ?_ GE248.out | refine bS_ ?_ GE255.out | refine bS_ ?_ GE263.out) | exact HB.out)) hb)
      clear HO_249000
      clear HO_249001
      clear HO_256000
      clear HO_256001
      clear HO_264000
      clear HO_264001
      clear HO267
      clear HO270
      clear BK233
      clear BK248
      clear BK255
      clear BK263
      clear HB
      have HO_249000 := n0_
      have HO_249001 := n1_
      have HO_256000 := n2_
      have HO_256001 := n3_
      have HO_264000 := n4_
      have HO_264001 := n5_
      have HO267 := n6_
      have HO270 := n7_
      have BK233 := n8_
      have BK248 := n9_
      have BK255 := n10_
      have BK263 := n11_
      have HB := n12_
      clear n0_ n1_ n2_ n3_ n4_ n5_ n6_ n7_ n8_ n9_ n10_ n11_ n12_
      (try clear hb)
      (try clear hb2)
      (try clear hk)
      (try clear hi)
      refine hK.out _ _ ⟨(blk_cell BK255.out 0).trans rfl, (blk_cell BK255.out 1).trans rfl, (blk_cell BK233.out 0).trans rfl, (blk_cell BK233.out 1).trans rfl⟩ (fun hHeld => ?_)
      clear hK K
      refine norm_ (a' := ?_) ?_ ?_
      rotate_left
      ·show Act.put _ (some 44) _ = _
       simp only [Act.put, List.setIfInBounds_toArray, List.set_cons_zero, List.set_cons_succ, i64_w, i32_w]
       rfl
      refine pure_ (i := 4) (N := some 45) (v := ?_) (a' := ?_) #[true, true, true, true, true] rfl rfl (by kernel_rfl) (fun _ _ _ h => h) (Or.inl ⟨by rfl, ?_⟩) ?_ ?_
      rotate_left
      ·intro w'
       go_simp
       with_reducible rfl
      rotate_left
      ·simp only [Act.put, List.setIfInBounds_toArray, List.set_cons_zero, List.set_cons_succ, i64_w, i32_w]
       rfl
      refine done_ (by kernel_rfl) ?_
      have hnb70 := NB255_233.out
      have hnc70 := NB233_255.out
      have hnb71 := NB255_248.out
      have hnc71 := NB248_255.out
      have hnb72 := NB255_263.out
      have hnc72 := NB263_255.out
      have hcz73_0 : w69.cell? ⟨gb255, 0, none⟩ = some (.slice Ao28 t249.length co28) := (blk_cell BK255.out 0).trans rfl
      have hcz73_1 : w69.cell? ⟨gb255, 1, none⟩ = some (.slice Ao32 t252.length co32) := (blk_cell BK255.out 1).trans rfl
      have hfz73_0 := blk_frozen BK255.out 0
      have hfz73_1 := blk_frozen BK255.out 1
      go_upto_region 14 with (first | ((with_reducible refine gate_callee (f := 22) rfl ?_); refine goesL_ (some 48) rfl rfl Try.func22 (by kernel_rfl) rfl #[.agg #[.slice Ao28 t249.length co28, .slice Ao32 t252.length co32], .int .i64 1] rfl (by (try simp only [List.map_toArray, List.map_cons, List.map_nil]); first | done | rfl | (simp only [List.length_drop, List.length_take]; rfl)) ?_; (with_reducible refine (laws_markStream.calls kj10 (fun k_ => some k_ = (.slice Ao28 t249.length co28 : Value).ownBlock) (.slice Ao28 t249.length co28) t249 (fun k_ => some k_ = (.slice Ao32 t252.length co32 : Value).ownBlock) (.slice Ao32 t252.length co32) t252 1 t272 t273 t274 w _ ?side1 ?side2 ?side3 ?side4 ?side5 A63.out).mono ?_); (case side1 => repeat (first | (with_reducible first | exact HB.out | apply bA_ | apply bN_ | apply bD_ | refine bS_ ?_ GE233.out | refine bS_ ?_ GE248.out | refine bS_ ?_ GE255.out | refine bS_ ?_ GE263.out) | exact HB.out)); (case side2 => exact Kd.R_tight rfl HO_256000.out); (case side3 => exact fun k_ e_ => (HO_256000.out.1 k_ e_.symm).1.1.2.2.1); (case side4 => exact Kd.R_tight rfl HO_256001.out); (case side5 => exact fun k_ e_ => (HO_256001.out.1 k_ e_.symm).1.1.2.2.1); rintro e w74 ⟨rfl, hy0, hy1, hb, hkp⟩; refine ⟨_, rfl, ?_⟩; have n0_ := aM_ (Kd.R_mono (ok' := fun k_ => some k_ ≠ (.slice Ao24 t244.length co24 : Value).ownBlock ∧ some k_ ≠ (.slice Ao28 t249.length co28 : Value).ownBlock ∧ some k_ ≠ (.slice Ao32 t252.length co32 : Value).ownBlock ∧ some k_ ≠ (.slice Ao35 t256.length co35 : Value).ownBlock ∧ some k_ ≠ (.slice Ao40 t259.length co40 : Value).ownBlock ∧ some k_ ≠ (.slice Ao67 t265.length co67 : Value).ownBlock ∧ some k_ ≠ (.slice Ao68 t268.length co68 : Value).ownBlock) (Kd.R_keptB (HO_249000.out) hkp (fun k_ hk_ hs_ => Or.elim hs_ (fun e_ => (hk_.1.1.2.1) e_) (fun e_ => (hk_.1.1.2.2.1) e_))) (fun k_ hk_ => ⟨hk_.1.1.1.1, hk_.1.1.1.2.1, hk_.1.1.1.2.2.1, hk_.1.1.1.2.2.2.1, hk_.1.1.1.2.2.2.2, hk_.1.1.2, hk_.1.2⟩)); have n1_ := aM_ (Kd.R_mono (ok' := fun k_ => some k_ ≠ (.slice Ao21 t241.length co21 : Value).ownBlock ∧ some k_ ≠ (.slice Ao28 t249.length co28 : Value).ownBlock ∧ some k_ ≠ (.slice Ao32 t252.length co32 : Value).ownBlock ∧ some k_ ≠ (.slice Ao35 t256.length co35 : Value).ownBlock ∧ some k_ ≠ (.slice Ao40 t259.length co40 : Value).ownBlock ∧ some k_ ≠ (.slice Ao67 t265.length co67 : Value).ownBlock ∧ some k_ ≠ (.slice Ao68 t268.length co68 : Value).ownBlock) (Kd.R_keptB (HO_249001.out) hkp (fun k_ hk_ hs_ => Or.elim hs_ (fun e_ => (hk_.1.1.2.1) e_) (fun e_ => (hk_.1.1.2.2.1) e_))) (fun k_ hk_ => ⟨hk_.1.1.1.1, hk_.1.1.1.2.1, hk_.1.1.1.2.2.1, hk_.1.1.1.2.2.2.1, hk_.1.1.1.2.2.2.2, hk_.1.1.2, hk_.1.2⟩)); have n2_ := aM_ (Kd.R_reok rfl hy0 (fun k_ e_ => HO_256000.out.1 k_ e_)); have n3_ := aM_ (Kd.R_reok rfl hy1 (fun k_ e_ => HO_256001.out.1 k_ e_)); have n4_ := aM_ (Kd.R_mono (ok' := fun k_ => some k_ ≠ (.slice Ao21 t241.length co21 : Value).ownBlock ∧ some k_ ≠ (.slice Ao24 t244.length co24 : Value).ownBlock ∧ some k_ ≠ (.slice Ao28 t249.length co28 : Value).ownBlock ∧ some k_ ≠ (.slice Ao32 t252.length co32 : Value).ownBlock ∧ some k_ ≠ (.slice Ao40 t259.length co40 : Value).ownBlock ∧ some k_ ≠ (.slice Ao67 t265.length co67 : Value).ownBlock ∧ some k_ ≠ (.slice Ao68 t268.length co68 : Value).ownBlock) (Kd.R_keptB (HO_264000.out) hkp (fun k_ hk_ hs_ => Or.elim hs_ (fun e_ => (hk_.1.1.2.2.1) e_) (fun e_ => (hk_.1.1.2.2.2.1) e_))) (fun k_ hk_ => ⟨hk_.1.1.1.1, hk_.1.1.1.2.1, hk_.1.1.1.2.2.1, hk_.1.1.1.2.2.2.1, hk_.1.1.1.2.2.2.2, hk_.1.1.2, hk_.1.2⟩)); have n5_ := aM_ (Kd.R_mono (ok' := fun k_ => some k_ ≠ (.slice Ao21 t241.length co21 : Value).ownBlock ∧ some k_ ≠ (.slice Ao24 t244.length co24 : Value).ownBlock ∧ some k_ ≠ (.slice Ao28 t249.length co28 : Value).ownBlock ∧ some k_ ≠ (.slice Ao32 t252.length co32 : Value).ownBlock ∧ some k_ ≠ (.slice Ao35 t256.length co35 : Value).ownBlock ∧ some k_ ≠ (.slice Ao67 t265.length co67 : Value).ownBlock ∧ some k_ ≠ (.slice Ao68 t268.length co68 : Value).ownBlock) (Kd.R_keptB (HO_264001.out) hkp (fun k_ hk_ hs_ => Or.elim hs_ (fun e_ => (hk_.1.1.2.2.1) e_) (fun e_ => (hk_.1.1.2.2.2.1) e_))) (fun k_ hk_ => ⟨hk_.1.1.1.1, hk_.1.1.1.2.1, hk_.1.1.1.2.2.1, hk_.1.1.1.2.2.2.1, hk_.1.1.1.2.2.2.2, hk_.1.1.2, hk_.1.2⟩)); have n6_ := aM_ (blk_kept (by (with_reducible repeat (first | refine kN_ ?_ _ | refine kD_ ?_ | refine kA_ ?_ _)); exact BK233.out) hkp (fun hs_ => Or.elim hs_ (fun e_ => (fun e_ => (Kd.R_ne HO_256000.out BK233.out (by decide)) e_) e_) (fun e_ => (fun e_ => (Kd.R_ne HO_256001.out BK233.out (by decide)) e_) e_))); have n7_ := aM_ (blk_kept (by (with_reducible repeat (first | refine kN_ ?_ _ | refine kD_ ?_ | refine kA_ ?_ _)); exact BK248.out) hkp (fun hs_ => Or.elim hs_ (fun e_ => (fun e_ => (Kd.R_ne HO_256000.out BK248.out (by decide)) e_) e_) (fun e_ => (fun e_ => (Kd.R_ne HO_256001.out BK248.out (by decide)) e_) e_))); have n8_ := aM_ (blk_kept (by (with_reducible repeat (first | refine kN_ ?_ _ | refine kD_ ?_ | refine kA_ ?_ _)); exact BK255.out) hkp (fun hs_ => Or.elim hs_ (fun e_ => (fun e_ => (Kd.R_ne HO_256000.out BK255.out (by decide)) e_) e_) (fun e_ => (fun e_ => (Kd.R_ne HO_256001.out BK255.out (by decide)) e_) e_))); have n9_ := aM_ (blk_kept (by (with_reducible repeat (first | refine kN_ ?_ _ | refine kD_ ?_ | refine kA_ ?_ _)); exact BK263.out) hkp (fun hs_ => Or.elim hs_ (fun e_ => (fun e_ => (Kd.R_ne HO_256000.out BK263.out (by decide)) e_) e_) (fun e_ => (fun e_ => (Kd.R_ne HO_256001.out BK263.out (by decide)) e_) e_))); have n10_ := aM_ (Kd.R_mono (ok' := fun k_ => some k_ ≠ (.slice Ao21 t241.length co21 : Value).ownBlock ∧ some k_ ≠ (.slice Ao24 t244.length co24 : Value).ownBlock ∧ some k_ ≠ (.slice Ao28 t249.length co28 : Value).ownBlock ∧ some k_ ≠ (.slice Ao32 t252.length co32 : Value).ownBlock ∧ some k_ ≠ (.slice Ao35 t256.length co35 : Value).ownBlock ∧ some k_ ≠ (.slice Ao40 t259.length co40 : Value).ownBlock ∧ some k_ ≠ (.slice Ao68 t268.length co68 : Value).ownBlock) (Kd.R_keptB (HO267.out) hkp (fun k_ hk_ hs_ => Or.elim hs_ (fun e_ => (hk_.1.1.1.2) e_) (fun e_ => (hk_.1.1.2) e_))) (fun k_ hk_ => ⟨hk_.1.1.1.1.1.1.2, hk_.1.1.1.1.1.2, hk_.1.1.1.1.2, hk_.1.1.1.2, hk_.1.1.2, hk_.1.2, hk_.1.1.1.1.1.1.1⟩)); have n11_ := aM_ (Kd.R_mono (ok' := fun k_ => some k_ ≠ (.slice Ao21 t241.length co21 : Value).ownBlock ∧ some k_ ≠ (.slice Ao24 t244.length co24 : Value).ownBlock ∧ some k_ ≠ (.slice Ao28 t249.length co28 : Value).ownBlock ∧ some k_ ≠ (.slice Ao32 t252.length co32 : Value).ownBlock ∧ some k_ ≠ (.slice Ao35 t256.length co35 : Value).ownBlock ∧ some k_ ≠ (.slice Ao40 t259.length co40 : Value).ownBlock ∧ some k_ ≠ (.slice Ao67 t265.length co67 : Value).ownBlock) (Kd.R_keptB (HO270.out) hkp (fun k_ hk_ hs_ => Or.elim hs_ (fun e_ => (hk_.1.1.1.2) e_) (fun e_ => (hk_.1.1.2) e_))) (fun k_ hk_ => ⟨hk_.1.1.1.1.1.1.2, hk_.1.1.1.1.1.2, hk_.1.1.1.1.2, hk_.1.1.1.2, hk_.1.1.2, hk_.1.2, hk_.1.1.1.1.1.1.1⟩)); have n12_ := aM_ (hb); clear HO_249000; clear HO_249001; clear HO_256000; clear HO_256001; clear HO_264000; clear HO_264001; clear BK233; clear BK248; clear BK255; clear BK263; clear HO267; clear HO270; clear HB; have HO_249000 := n0_; have HO_249001 := n1_; have HO_256000 := n2_; have HO_256001 := n3_; have HO_264000 := n4_; have HO_264001 := n5_; have BK233 := n6_; have BK248 := n7_; have BK255 := n8_; have BK263 := n9_; have HO267 := n10_; have HO270 := n11_; have HB := n12_; clear n0_ n1_ n2_ n3_ n4_ n5_ n6_ n7_ n8_ n9_ n10_ n11_ n12_; (try clear hb); (try clear hkp); (try clear hy0); (try clear hy1)))
      (try simp only [Act.put, List.setIfInBounds_toArray, List.set_cons_zero, List.set_cons_succ])
      go_cut [61] (fun v61 wc => ∃ (kq : Nat) (x61_63 : Bool), v61 = .bool x61_63 ∧ Aside0 (laws_FnExactNormalStream.j1 kq t247 x61_63 l0_0 l0_1 t241 t244 t256 t259 = some r) ∧ Aside0 (kq ≤ kj10) ∧ Aside0 (Kd.R (Kd.int .i8) 69 wc w.heap.size (fun k_ => some k_ ≠ ((.slice Ao24 t244.length co24) : Value).ownBlock ∧ some k_ ≠ ((.slice Ao28 t249.length co28) : Value).ownBlock ∧ some k_ ≠ ((.slice Ao32 t252.length co32) : Value).ownBlock ∧ some k_ ≠ ((.slice Ao35 t256.length co35) : Value).ownBlock ∧ some k_ ≠ ((.slice Ao40 t259.length co40) : Value).ownBlock) (.slice Ao21 t241.length co21) t241) ∧ Aside0 (Kd.R (Kd.int .i8) 69 wc w.heap.size (fun k_ => some k_ ≠ ((.slice Ao21 t241.length co21) : Value).ownBlock ∧ some k_ ≠ ((.slice Ao28 t249.length co28) : Value).ownBlock ∧ some k_ ≠ ((.slice Ao32 t252.length co32) : Value).ownBlock ∧ some k_ ≠ ((.slice Ao35 t256.length co35) : Value).ownBlock ∧ some k_ ≠ ((.slice Ao40 t259.length co40) : Value).ownBlock) (.slice Ao24 t244.length co24) t244) ∧ Aside0 (Kd.R (Kd.int .i8) 69 wc w.heap.size (fun k_ => some k_ ≠ ((.slice Ao21 t241.length co21) : Value).ownBlock ∧ some k_ ≠ ((.slice Ao24 t244.length co24) : Value).ownBlock ∧ some k_ ≠ ((.slice Ao32 t252.length co32) : Value).ownBlock ∧ some k_ ≠ ((.slice Ao35 t256.length co35) : Value).ownBlock ∧ some k_ ≠ ((.slice Ao40 t259.length co40) : Value).ownBlock) (.slice Ao28 t249.length co28) t273) ∧ Aside0 (Kd.R (Kd.int .i8) 69 wc w.heap.size (fun k_ => some k_ ≠ ((.slice Ao21 t241.length co21) : Value).ownBlock ∧ some k_ ≠ ((.slice Ao24 t244.length co24) : Value).ownBlock ∧ some k_ ≠ ((.slice Ao28 t249.length co28) : Value).ownBlock ∧ some k_ ≠ ((.slice Ao35 t256.length co35) : Value).ownBlock ∧ some k_ ≠ ((.slice Ao40 t259.length co40) : Value).ownBlock) (.slice Ao32 t252.length co32) t274) ∧ Aside0 (Kd.R (Kd.int .i8) 69 wc w.heap.size (fun k_ => some k_ ≠ ((.slice Ao21 t241.length co21) : Value).ownBlock ∧ some k_ ≠ ((.slice Ao24 t244.length co24) : Value).ownBlock ∧ some k_ ≠ ((.slice Ao28 t249.length co28) : Value).ownBlock ∧ some k_ ≠ ((.slice Ao32 t252.length co32) : Value).ownBlock ∧ some k_ ≠ ((.slice Ao40 t259.length co40) : Value).ownBlock) (.slice Ao35 t256.length co35) t256) ∧ Aside0 (Kd.R (Kd.int .i8) 69 wc w.heap.size (fun k_ => some k_ ≠ ((.slice Ao21 t241.length co21) : Value).ownBlock ∧ some k_ ≠ ((.slice Ao24 t244.length co24) : Value).ownBlock ∧ some k_ ≠ ((.slice Ao28 t249.length co28) : Value).ownBlock ∧ some k_ ≠ ((.slice Ao32 t252.length co32) : Value).ownBlock ∧ some k_ ≠ ((.slice Ao35 t256.length co35) : Value).ownBlock) (.slice Ao40 t259.length co40) t259) ∧ Aside0 (wc.heap[gb233]? = some (.cells #[(.slice A0_0 l0_0.length c0_0), (.slice A0_1 l0_1.length c0_1)] 32 (0, 0))) ∧ Aside0 (wc.heap[gb248]? = some (.cells #[(.slice Ao21 t241.length co21), (.slice Ao24 t244.length co24)] 34 (0, 0))) ∧ Aside0 (wc.heap[gb255]? = some (.cells #[(.slice Ao28 t249.length co28), (.slice Ao32 t252.length co32)] 34 (0, 0))) ∧ Aside0 (wc.heap[gb263]? = some (.cells #[(.slice Ao35 t256.length co35), (.slice Ao40 t259.length co40)] 34 (0, 0))) ∧ Aside0 (Below w.heap.size w wc))
      case first =>
       have H := HC64.out
       clear HC64
       by_cases c75 : t272 < 0
       ·rw [if_pos c75] at H
        have c75b0 : decide (t272 < 0) = true := decide_eq_true c75
        clear c75
        (first | rw [c75b0] | (simp only [i64_w, i32_w]; rw [c75b0]) | skip)
        have H' := aM_ H
        clear H
        go_wp2
        go_meet
        case rel => exact ⟨_, (true), (by first | rfl | (simp; done) | (simp [*]; done)), H', ⟨by have := HJ10.out; first | omega | exact Nat.le_refl _⟩, ⟨by (with_reducible repeat (first | apply rA_ | apply rN_ | apply rD_)); exact Kd.R_mono HO_249000.out (fun _ hk => ⟨hk.1, ⟨hk.2.1, ⟨hk.2.2.1, ⟨hk.2.2.2.1, hk.2.2.2.2.1⟩⟩⟩⟩)⟩, ⟨by (with_reducible repeat (first | apply rA_ | apply rN_ | apply rD_)); exact Kd.R_mono HO_249001.out (fun _ hk => ⟨hk.1, ⟨hk.2.1, ⟨hk.2.2.1, ⟨hk.2.2.2.1, hk.2.2.2.2.1⟩⟩⟩⟩)⟩, ⟨by (with_reducible repeat (first | apply rA_ | apply rN_ | apply rD_)); exact Kd.R_mono HO_256000.out (fun _ hk => ⟨hk.1.1.1, ⟨hk.1.1.2.1, ⟨hk.1.1.2.2.1, ⟨hk.1.1.2.2.2.1, hk.1.1.2.2.2.2⟩⟩⟩⟩)⟩, ⟨by (with_reducible repeat (first | apply rA_ | apply rN_ | apply rD_)); exact Kd.R_mono HO_256001.out (fun _ hk => ⟨hk.1.1.1, ⟨hk.1.1.2.1, ⟨hk.1.1.2.2.1, ⟨hk.1.1.2.2.2.1, hk.1.1.2.2.2.2⟩⟩⟩⟩)⟩, ⟨by (with_reducible repeat (first | apply rA_ | apply rN_ | apply rD_)); exact Kd.R_mono HO_264000.out (fun _ hk => ⟨hk.1, ⟨hk.2.1, ⟨hk.2.2.1, ⟨hk.2.2.2.1, hk.2.2.2.2.1⟩⟩⟩⟩)⟩, ⟨by (with_reducible repeat (first | apply rA_ | apply rN_ | apply rD_)); exact Kd.R_mono HO_264001.out (fun _ hk => ⟨hk.1, ⟨hk.2.1, ⟨hk.2.2.1, ⟨hk.2.2.2.1, hk.2.2.2.2.1⟩⟩⟩⟩)⟩, ⟨by (with_reducible repeat (first | refine kN_ ?_ _ | refine kD_ ?_ | refine kA_ ?_ _)); exact BK233.out⟩, ⟨by (with_reducible repeat (first | refine kN_ ?_ _ | refine kD_ ?_ | refine kA_ ?_ _)); exact BK248.out⟩, ⟨by (with_reducible repeat (first | refine kN_ ?_ _ | refine kD_ ?_ | refine kA_ ?_ _)); exact BK255.out⟩, ⟨by (with_reducible repeat (first | refine kN_ ?_ _ | refine kD_ ?_ | refine kA_ ?_ _)); exact BK263.out⟩, ⟨by repeat (first | (with_reducible first | exact HB.out | apply bA_ | apply bN_ | apply bD_ | refine bS_ ?_ GE233.out | refine bS_ ?_ GE248.out | refine bS_ ?_ GE255.out | refine bS_ ?_ GE263.out) | exact HB.out)⟩⟩
       ·rw [if_neg c75] at H
        have c75b0 : decide (t272 < 0) = false := decide_eq_false c75
        clear c75
        (first | rw [c75b0] | (simp only [i64_w, i32_w]; rw [c75b0]) | skip)
        replace H := Option.bind_eq_some_iff.mp H
        obtain ⟨t275, A760, H⟩ := H
        replace H : (if t275 = true then (laws_FnExactNormalStream.j1 kj10 t247 (t262 != t247) l0_0 l0_1 t241 t244 t256 t259) else (laws_FnExactNormalStream.j1 kj10 t247 true l0_0 l0_1 t241 t244 t256 t259)) = some r := H
        have A76 := aM_ A760
        clear A760
        by_cases c77 : t275 = true
        ·subst c77
         have H1 : (laws_FnExactNormalStream.j1 kj10 t247 (t262 != t247) l0_0 l0_1 t241 t244 t256 t259) = some r := by rw [if_pos rfl] at H; exact H
         clear H
         have H := H1
         clear H1
         have H' := aM_ H
         clear H
         have hnb78 := NB263_233.out
         have hnc78 := NB233_263.out
         have hnb79 := NB263_248.out
         have hnc79 := NB248_263.out
         have hnb80 := NB263_255.out
         have hnc80 := NB255_263.out
         have hcz81_0 : w74.cell? ⟨gb263, 0, none⟩ = some (.slice Ao35 t256.length co35) := (blk_cell BK263.out 0).trans rfl
         have hcz81_1 : w74.cell? ⟨gb263, 1, none⟩ = some (.slice Ao40 t259.length co40) := (blk_cell BK263.out 1).trans rfl
         have hfz81_0 := blk_frozen BK263.out 0
         have hfz81_1 := blk_frozen BK263.out 1
         have hnb82 := NB248_233.out
         have hnc82 := NB233_248.out
         have hnb83 := NB248_255.out
         have hnc83 := NB255_248.out
         have hcz84_0 : w74.cell? ⟨gb248, 0, none⟩ = some (.slice Ao21 t241.length co21) := (blk_cell BK248.out 0).trans rfl
         have hcz84_1 : w74.cell? ⟨gb248, 1, none⟩ = some (.slice Ao24 t244.length co24) := (blk_cell BK248.out 1).trans rfl
         have hfz84_0 := blk_frozen BK248.out 0
         have hfz84_1 := blk_frozen BK248.out 1
         go_wp2_with (first | (go_at_call 21; (with_reducible refine (laws_eqStream.calls kj10 _ _ t256 _ _ t259 _ _ t241 _ _ t244 true _ ?side1 ?side2 ?side3 ?side4 ?side5 ?side6 ?side7 ?side8 A76.out).mono ?_); (case side1 => repeat (first | exact (Kd.R_reads' HO_264000.out).2.2 | (with_reducible refine Kd.C_alloc ?_ _) | (with_reducible refine Kd.C_drewN ?_ _) | (with_reducible refine Kd.C_drew ?_))); (case side2 => exact (Kd.R_reads' HO_264000.out).2.1); (case side3 => repeat (first | exact (Kd.R_reads' HO_264001.out).2.2 | (with_reducible refine Kd.C_alloc ?_ _) | (with_reducible refine Kd.C_drewN ?_ _) | (with_reducible refine Kd.C_drew ?_))); (case side4 => exact (Kd.R_reads' HO_264001.out).2.1); (case side5 => repeat (first | exact (Kd.R_reads' HO_249000.out).2.2 | (with_reducible refine Kd.C_alloc ?_ _) | (with_reducible refine Kd.C_drewN ?_ _) | (with_reducible refine Kd.C_drew ?_))); (case side6 => exact (Kd.R_reads' HO_249000.out).2.1); (case side7 => repeat (first | exact (Kd.R_reads' HO_249001.out).2.2 | (with_reducible refine Kd.C_alloc ?_ _) | (with_reducible refine Kd.C_drewN ?_ _) | (with_reducible refine Kd.C_drew ?_))); (case side8 => exact (Kd.R_reads' HO_249001.out).2.1); rintro e w85 ⟨rfl, hb⟩; have n0_ := aM_ (Kd.R_below (by (with_reducible repeat (first | apply rA_ | apply rN_ | apply rD_)); exact HO_249000.out) hb); have n1_ := aM_ (Kd.R_below (by (with_reducible repeat (first | apply rA_ | apply rN_ | apply rD_)); exact HO_249001.out) hb); have n2_ := aM_ (Kd.R_below (by (with_reducible repeat (first | apply rA_ | apply rN_ | apply rD_)); exact HO_256000.out) hb); have n3_ := aM_ (Kd.R_below (by (with_reducible repeat (first | apply rA_ | apply rN_ | apply rD_)); exact HO_256001.out) hb); have n4_ := aM_ (Kd.R_below (by (with_reducible repeat (first | apply rA_ | apply rN_ | apply rD_)); exact HO_264000.out) hb); have n5_ := aM_ (Kd.R_below (by (with_reducible repeat (first | apply rA_ | apply rN_ | apply rD_)); exact HO_264001.out) hb); have n6_ := aM_ (Kd.R_below (by (with_reducible repeat (first | apply rA_ | apply rN_ | apply rD_)); exact HO267.out) hb); have n7_ := aM_ (Kd.R_below (by (with_reducible repeat (first | apply rA_ | apply rN_ | apply rD_)); exact HO270.out) hb); have n8_ := aM_ (blk_below (g := gb233) (o := .cells #[.slice A0_0 l0_0.length c0_0, .slice A0_1 l0_1.length c0_1] 32 (0, 0)) (by (with_reducible repeat (first | refine kN_ ?_ _ | refine kD_ ?_ | refine kA_ ?_ _)); exact BK233.out) hb); have n9_ := aM_ (blk_below (g := gb248) (o := .cells #[.slice Ao21 t241.length co21, .slice Ao24 t244.length co24] 34 (0, 0)) (by (with_reducible repeat (first | refine kN_ ?_ _ | refine kD_ ?_ | refine kA_ ?_ _)); exact BK248.out) hb); have n10_ := aM_ (blk_below (g := gb255) (o := .cells #[.slice Ao28 t249.length co28, .slice Ao32 t252.length co32] 34 (0, 0)) (by (with_reducible repeat (first | refine kN_ ?_ _ | refine kD_ ?_ | refine kA_ ?_ _)); exact BK255.out) hb); have n11_ := aM_ (blk_below (g := gb263) (o := .cells #[.slice Ao35 t256.length co35, .slice Ao40 t259.length co40] 34 (0, 0)) (by (with_reducible repeat (first | refine kN_ ?_ _ | refine kD_ ?_ | refine kA_ ?_ _)); exact BK263.out) hb); have n12_ := aM_ (below_step (by repeat (first | (with_reducible first | exact HB.out | apply bA_ | apply bN_ | apply bD_ | refine bS_ ?_ GE233.out | refine bS_ ?_ GE248.out | refine bS_ ?_ GE255.out | refine bS_ ?_ GE263.out) | exact HB.out)) hb); clear HO_249000; clear HO_249001; clear HO_256000; clear HO_256001; clear HO_264000; clear HO_264001; clear HO267; clear HO270; clear BK233; clear BK248; clear BK255; clear BK263; clear HB; have HO_249000 := n0_; have HO_249001 := n1_; have HO_256000 := n2_; have HO_256001 := n3_; have HO_264000 := n4_; have HO_264001 := n5_; have HO267 := n6_; have HO270 := n7_; have BK233 := n8_; have BK248 := n9_; have BK255 := n10_; have BK263 := n11_; have HB := n12_; clear n0_ n1_ n2_ n3_ n4_ n5_ n6_ n7_ n8_ n9_ n10_ n11_ n12_; (try clear hb); (try clear hb2); (try clear hk); (try clear hi)))
         go_meet
         case rel => exact ⟨_, ((t262 != t247)), (by first | rfl | (simp; done) | (simp [*]; done)), H', ⟨by have := HJ10.out; first | omega | exact Nat.le_refl _⟩, ⟨by (with_reducible repeat (first | apply rA_ | apply rN_ | apply rD_)); exact Kd.R_mono HO_249000.out (fun _ hk => ⟨hk.1, ⟨hk.2.1, ⟨hk.2.2.1, ⟨hk.2.2.2.1, hk.2.2.2.2.1⟩⟩⟩⟩)⟩, ⟨by (with_reducible repeat (first | apply rA_ | apply rN_ | apply rD_)); exact Kd.R_mono HO_249001.out (fun _ hk => ⟨hk.1, ⟨hk.2.1, ⟨hk.2.2.1, ⟨hk.2.2.2.1, hk.2.2.2.2.1⟩⟩⟩⟩)⟩, ⟨by (with_reducible repeat (first | apply rA_ | apply rN_ | apply rD_)); exact Kd.R_mono HO_256000.out (fun _ hk => ⟨hk.1.1.1, ⟨hk.1.1.2.1, ⟨hk.1.1.2.2.1, ⟨hk.1.1.2.2.2.1, hk.1.1.2.2.2.2⟩⟩⟩⟩)⟩, ⟨by (with_reducible repeat (first | apply rA_ | apply rN_ | apply rD_)); exact Kd.R_mono HO_256001.out (fun _ hk => ⟨hk.1.1.1, ⟨hk.1.1.2.1, ⟨hk.1.1.2.2.1, ⟨hk.1.1.2.2.2.1, hk.1.1.2.2.2.2⟩⟩⟩⟩)⟩, ⟨by (with_reducible repeat (first | apply rA_ | apply rN_ | apply rD_)); exact Kd.R_mono HO_264000.out (fun _ hk => ⟨hk.1, ⟨hk.2.1, ⟨hk.2.2.1, ⟨hk.2.2.2.1, hk.2.2.2.2.1⟩⟩⟩⟩)⟩, ⟨by (with_reducible repeat (first | apply rA_ | apply rN_ | apply rD_)); exact Kd.R_mono HO_264001.out (fun _ hk => ⟨hk.1, ⟨hk.2.1, ⟨hk.2.2.1, ⟨hk.2.2.2.1, hk.2.2.2.2.1⟩⟩⟩⟩)⟩, ⟨by (with_reducible repeat (first | refine kN_ ?_ _ | refine kD_ ?_ | refine kA_ ?_ _)); exact BK233.out⟩, ⟨by (with_reducible repeat (first | refine kN_ ?_ _ | refine kD_ ?_ | refine kA_ ?_ _)); exact BK248.out⟩, ⟨by (with_reducible repeat (first | refine kN_ ?_ _ | refine kD_ ?_ | refine kA_ ?_ _)); exact BK255.out⟩, ⟨by (with_reducible repeat (first | refine kN_ ?_ _ | refine kD_ ?_ | refine kA_ ?_ _)); exact BK263.out⟩, ⟨by repeat (first | (with_reducible first | exact HB.out | apply bA_ | apply bN_ | apply bD_ | refine bS_ ?_ GE233.out | refine bS_ ?_ GE248.out | refine bS_ ?_ GE255.out | refine bS_ ?_ GE263.out) | exact HB.out)⟩⟩
        ·replace c77 := Bool.eq_false_iff.mpr c77
         subst c77
         have H1 : (laws_FnExactNormalStream.j1 kj10 t247 true l0_0 l0_1 t241 t244 t256 t259) = some r := by rw [if_neg (show ¬ (false = true) by decide)] at H; exact H
         clear H
         have H := H1
         clear H1
         have H' := aM_ H
         clear H
         have hnb86 := NB263_233.out
         have hnc86 := NB233_263.out
         have hnb87 := NB263_248.out
         have hnc87 := NB248_263.out
         have hnb88 := NB263_255.out
         have hnc88 := NB255_263.out
         have hcz89_0 : w74.cell? ⟨gb263, 0, none⟩ = some (.slice Ao35 t256.length co35) := (blk_cell BK263.out 0).trans rfl
         have hcz89_1 : w74.cell? ⟨gb263, 1, none⟩ = some (.slice Ao40 t259.length co40) := (blk_cell BK263.out 1).trans rfl
         have hfz89_0 := blk_frozen BK263.out 0
         have hfz89_1 := blk_frozen BK263.out 1
         have hnb90 := NB248_233.out
         have hnc90 := NB233_248.out
         have hnb91 := NB248_255.out
         have hnc91 := NB255_248.out
         have hcz92_0 : w74.cell? ⟨gb248, 0, none⟩ = some (.slice Ao21 t241.length co21) := (blk_cell BK248.out 0).trans rfl
         have hcz92_1 : w74.cell? ⟨gb248, 1, none⟩ = some (.slice Ao24 t244.length co24) := (blk_cell BK248.out 1).trans rfl
         have hfz92_0 := blk_frozen BK248.out 0
         have hfz92_1 := blk_frozen BK248.out 1
         go_wp2_with (first | (go_at_call 21; (with_reducible refine (laws_eqStream.calls kj10 _ _ t256 _ _ t259 _ _ t241 _ _ t244 false _ ?side1 ?side2 ?side3 ?side4 ?side5 ?side6 ?side7 ?side8 A76.out).mono ?_); (case side1 => repeat (first | exact (Kd.R_reads' HO_264000.out).2.2 | (with_reducible refine Kd.C_alloc ?_ _) | (with_reducible refine Kd.C_drewN ?_ _) | (with_reducible refine Kd.C_drew ?_))); (case side2 => exact (Kd.R_reads' HO_264000.out).2.1); (case side3 => repeat (first | exact (Kd.R_reads' HO_264001.out).2.2 | (with_reducible refine Kd.C_alloc ?_ _) | (with_reducible refine Kd.C_drewN ?_ _) | (with_reducible refine Kd.C_drew ?_))); (case side4 => exact (Kd.R_reads' HO_264001.out).2.1); (case side5 => repeat (first | exact (Kd.R_reads' HO_249000.out).2.2 | (with_reducible refine Kd.C_alloc ?_ _) | (with_reducible refine Kd.C_drewN ?_ _) | (with_reducible refine Kd.C_drew ?_))); (case side6 => exact (Kd.R_reads' HO_249000.out).2.1); (case side7 => repeat (first | exact (Kd.R_reads' HO_249001.out).2.2 | (with_reducible refine Kd.C_alloc ?_ _) | (with_reducible refine Kd.C_drewN ?_ _) | (with_reducible refine Kd.C_drew ?_))); (case side8 => exact (Kd.R_reads' HO_249001.out).2.1); rintro e w93 ⟨rfl, hb⟩; have n0_ := aM_ (Kd.R_below (by (with_reducible repeat (first | apply rA_ | apply rN_ | apply rD_)); exact HO_249000.out) hb); have n1_ := aM_ (Kd.R_below (by (with_reducible repeat (first | apply rA_ | apply rN_ | apply rD_)); exact HO_249001.out) hb); have n2_ := aM_ (Kd.R_below (by (with_reducible repeat (first | apply rA_ | apply rN_ | apply rD_)); exact HO_256000.out) hb); have n3_ := aM_ (Kd.R_below (by (with_reducible repeat (first | apply rA_ | apply rN_ | apply rD_)); exact HO_256001.out) hb); have n4_ := aM_ (Kd.R_below (by (with_reducible repeat (first | apply rA_ | apply rN_ | apply rD_)); exact HO_264000.out) hb); have n5_ := aM_ (Kd.R_below (by (with_reducible repeat (first | apply rA_ | apply rN_ | apply rD_)); exact HO_264001.out) hb); have n6_ := aM_ (Kd.R_below (by (with_reducible repeat (first | apply rA_ | apply rN_ | apply rD_)); exact HO267.out) hb); have n7_ := aM_ (Kd.R_below (by (with_reducible repeat (first | apply rA_ | apply rN_ | apply rD_)); exact HO270.out) hb); have n8_ := aM_ (blk_below (g := gb233) (o := .cells #[.slice A0_0 l0_0.length c0_0, .slice A0_1 l0_1.length c0_1] 32 (0, 0)) (by (with_reducible repeat (first | refine kN_ ?_ _ | refine kD_ ?_ | refine kA_ ?_ _)); exact BK233.out) hb); have n9_ := aM_ (blk_below (g := gb248) (o := .cells #[.slice Ao21 t241.length co21, .slice Ao24 t244.length co24] 34 (0, 0)) (by (with_reducible repeat (first | refine kN_ ?_ _ | refine kD_ ?_ | refine kA_ ?_ _)); exact BK248.out) hb); have n10_ := aM_ (blk_below (g := gb255) (o := .cells #[.slice Ao28 t249.length co28, .slice Ao32 t252.length co32] 34 (0, 0)) (by (with_reducible repeat (first | refine kN_ ?_ _ | refine kD_ ?_ | refine kA_ ?_ _)); exact BK255.out) hb); have n11_ := aM_ (blk_below (g := gb263) (o := .cells #[.slice Ao35 t256.length co35, .slice Ao40 t259.length co40] 34 (0, 0)) (by (with_reducible repeat (first | refine kN_ ?_ _ | refine kD_ ?_ | refine kA_ ?_ _)); exact BK263.out) hb); have n12_ := aM_ (below_step (by repeat (first | (with_reducible first | exact HB.out | apply bA_ | apply bN_ | apply bD_ | refine bS_ ?_ GE233.out | refine bS_ ?_ GE248.out | refine bS_ ?_ GE255.out | refine bS_ ?_ GE263.out) | exact HB.out)) hb); clear HO_249000; clear HO_249001; clear HO_256000; clear HO_256001; clear HO_264000; clear HO_264001; clear HO267; clear HO270; clear BK233; clear BK248; clear BK255; clear BK263; clear HB; have HO_249000 := n0_; have HO_249001 := n1_; have HO_256000 := n2_; have HO_256001 := n3_; have HO_264000 := n4_; have HO_264001 := n5_; have HO267 := n6_; have HO270 := n7_; have BK233 := n8_; have BK248 := n9_; have BK255 := n10_; have BK263 := n11_; have HB := n12_; clear n0_ n1_ n2_ n3_ n4_ n5_ n6_ n7_ n8_ n9_ n10_ n11_ n12_; (try clear hb); (try clear hb2); (try clear hk); (try clear hi)))
         go_meet
         case rel => exact ⟨_, (true), (by first | rfl | (simp; done) | (simp [*]; done)), H', ⟨by have := HJ10.out; first | omega | exact Nat.le_refl _⟩, ⟨by (with_reducible repeat (first | apply rA_ | apply rN_ | apply rD_)); exact Kd.R_mono HO_249000.out (fun _ hk => ⟨hk.1, ⟨hk.2.1, ⟨hk.2.2.1, ⟨hk.2.2.2.1, hk.2.2.2.2.1⟩⟩⟩⟩)⟩, ⟨by (with_reducible repeat (first | apply rA_ | apply rN_ | apply rD_)); exact Kd.R_mono HO_249001.out (fun _ hk => ⟨hk.1, ⟨hk.2.1, ⟨hk.2.2.1, ⟨hk.2.2.2.1, hk.2.2.2.2.1⟩⟩⟩⟩)⟩, ⟨by (with_reducible repeat (first | apply rA_ | apply rN_ | apply rD_)); exact Kd.R_mono HO_256000.out (fun _ hk => ⟨hk.1.1.1, ⟨hk.1.1.2.1, ⟨hk.1.1.2.2.1, ⟨hk.1.1.2.2.2.1, hk.1.1.2.2.2.2⟩⟩⟩⟩)⟩, ⟨by (with_reducible repeat (first | apply rA_ | apply rN_ | apply rD_)); exact Kd.R_mono HO_256001.out (fun _ hk => ⟨hk.1.1.1, ⟨hk.1.1.2.1, ⟨hk.1.1.2.2.1, ⟨hk.1.1.2.2.2.1, hk.1.1.2.2.2.2⟩⟩⟩⟩)⟩, ⟨by (with_reducible repeat (first | apply rA_ | apply rN_ | apply rD_)); exact Kd.R_mono HO_264000.out (fun _ hk => ⟨hk.1, ⟨hk.2.1, ⟨hk.2.2.1, ⟨hk.2.2.2.1, hk.2.2.2.2.1⟩⟩⟩⟩)⟩, ⟨by (with_reducible repeat (first | apply rA_ | apply rN_ | apply rD_)); exact Kd.R_mono HO_264001.out (fun _ hk => ⟨hk.1, ⟨hk.2.1, ⟨hk.2.2.1, ⟨hk.2.2.2.1, hk.2.2.2.2.1⟩⟩⟩⟩)⟩, ⟨by (with_reducible repeat (first | refine kN_ ?_ _ | refine kD_ ?_ | refine kA_ ?_ _)); exact BK233.out⟩, ⟨by (with_reducible repeat (first | refine kN_ ?_ _ | refine kD_ ?_ | refine kA_ ?_ _)); exact BK248.out⟩, ⟨by (with_reducible repeat (first | refine kN_ ?_ _ | refine kD_ ?_ | refine kA_ ?_ _)); exact BK255.out⟩, ⟨by (with_reducible repeat (first | refine kN_ ?_ _ | refine kD_ ?_ | refine kA_ ?_ _)); exact BK263.out⟩, ⟨by repeat (first | (with_reducible first | exact HB.out | apply bA_ | apply bN_ | apply bD_ | refine bS_ ?_ GE233.out | refine bS_ ?_ GE248.out | refine bS_ ?_ GE255.out | refine bS_ ?_ GE263.out) | exact HB.out)⟩⟩
      case rest =>
       clear HC64
       try clear c1
       try clear c2
       try clear p2
       try clear c3
       try clear c3b0
       try clear c4
       try clear c5
       try clear c6
       try clear c7
       try clear c8
       try clear c9
       try clear c17
       try clear c18
       try clear c19
       try clear c20
       try clear c21
       try clear c22
       try clear c29
       try clear c30
       try clear c36
       try clear c37
       try clear c38
       try clear c42
       try clear c43
       try clear c44
       try clear c45
       try clear c47
       try clear c48
       try clear c51
       try clear c52
       try clear c53
       try clear c55
       try clear c56
       try clear c59
       try clear c62
       try clear c70
       try clear c71
       try clear c72
       try clear c75
       try clear c75b0
       try clear c77
       try clear c78
       try clear c79
       try clear c80
       try clear c82
       try clear c83
       try clear c86
       try clear c87
       try clear c88
       try clear c90
       try clear c91
       try clear hcz13_0
       try clear hcz13_1
       try clear hcz15_0
       try clear hcz15_1
       try clear hcz23_0
       try clear hcz23_1
       try clear hcz25_0
       try clear hcz25_1
       try clear hcz31_0
       try clear hcz31_1
       try clear hcz39_0
       try clear hcz39_1
       try clear hcz46_0
       try clear hcz46_1
       try clear hcz49_0
       try clear hcz49_1
       try clear hcz54_0
       try clear hcz54_1
       try clear hcz57_0
       try clear hcz57_1
       try clear hcz5_0
       try clear hcz5_1
       try clear hcz73_0
       try clear hcz73_1
       try clear hcz81_0
       try clear hcz81_1
       try clear hcz84_0
       try clear hcz84_1
       try clear hcz89_0
       try clear hcz89_1
       try clear hcz92_0
       try clear hcz92_1
       try clear hfz13_0
       try clear hfz13_1
       try clear hfz15_0
       try clear hfz15_1
       try clear hfz23_0
       try clear hfz23_1
       try clear hfz25_0
       try clear hfz25_1
       try clear hfz31_0
       try clear hfz31_1
       try clear hfz39_0
       try clear hfz39_1
       try clear hfz46_0
       try clear hfz46_1
       try clear hfz49_0
       try clear hfz49_1
       try clear hfz54_0
       try clear hfz54_1
       try clear hfz57_0
       try clear hfz57_1
       try clear hfz5_0
       try clear hfz5_1
       try clear hfz73_0
       try clear hfz73_1
       try clear hfz81_0
       try clear hfz81_1
       try clear hfz84_0
       try clear hfz84_1
       try clear hfz89_0
       try clear hfz89_1
       try clear hfz92_0
       try clear hfz92_1
       try clear p2
       obtain ⟨kq, x61_63, rfl, HA, HJ63, HO_249000, HO_249001, HO_256000, HO_256001, HO_264000, HO_264001, BK233, BK248, BK255, BK263, HB⟩ := hcut
       have hl256000_63 := (Kd.R_reads' HO_256000.out).1
       rw [hl256000_63] at HO_256000
       (try simp only [hl256000_63])
       (try simp only [hl256000_63] at BK233)
       (try simp only [hl256000_63] at BK248)
       (try simp only [hl256000_63] at BK255)
       (try simp only [hl256000_63] at BK263)
       (try simp only [hl256000_63] at HO_249000)
       (try simp only [hl256000_63] at HO_249001)
       (try simp only [hl256000_63] at HO_256001)
       (try simp only [hl256000_63] at HO_264000)
       (try simp only [hl256000_63] at HO_264001)
       have hl256001_63 := (Kd.R_reads' HO_256001.out).1
       rw [hl256001_63] at HO_256001
       (try simp only [hl256001_63])
       (try simp only [hl256001_63] at BK233)
       (try simp only [hl256001_63] at BK248)
       (try simp only [hl256001_63] at BK255)
       (try simp only [hl256001_63] at BK263)
       (try simp only [hl256001_63] at HO_249000)
       (try simp only [hl256001_63] at HO_249001)
       (try simp only [hl256001_63] at HO_256000)
       (try simp only [hl256001_63] at HO_264000)
       (try simp only [hl256001_63] at HO_264001)
       cases kq with
       | zero => exact absurd HA.out (by simp [laws_FnExactNormalStream.j1])
       | succ kj63 =>
        have H := HA.out
        clear HA
        simp only [laws_FnExactNormalStream.j1] at H
        by_cases c94 : x61_63 = true
        ·subst c94
         have H1 : (some false) = some r := by rw [if_pos rfl] at H; exact H
         clear H
         have H := H1
         clear H1
         obtain rfl := Option.some.inj H
         go_wp2
         go_ret
         exact ⟨by first | rfl | (simp [errW_none, errW_some] <;> rfl) | (simp [*, errW_none, errW_some] <;> rfl), by repeat (first | (with_reducible first | exact HB.out | apply bA_ | apply bN_ | apply bD_ | refine bS_ ?_ GE233.out | refine bS_ ?_ GE248.out | refine bS_ ?_ GE255.out | refine bS_ ?_ GE263.out) | exact HB.out)⟩
        ·replace c94 := Bool.eq_false_iff.mpr c94
         subst c94
         have H1 : ((laws_markStream.f kj63 t256 t259 1).bind fun bt276 => ((laws_heldStream.f kj63 bt276.2.1 bt276.2.2 1).bind fun t279 => (if t279 < 0 then (some false) else (if t279 = bt276.1 then ((laws_toStream.f kj63 l0_0 l0_1).bind fun bt280 => ((impl_NormalStream.f kj63 bt280.1 bt280.2).bind fun bt286 => ((laws_eqStream.f kj63 bt286.1 bt286.2.1 t241 t244).bind fun t294 => (if t294 = true then (laws_FnExactNormalStream.j2 kj63 bt276.1 (bt286.2.2 != t247) bt276.2.1 bt276.2.2) else (laws_FnExactNormalStream.j2 kj63 bt276.1 true bt276.2.1 bt276.2.2))))) else (some false))))) = some r := by rw [if_neg (show ¬ (false = true) by decide)] at H; exact H
         clear H
         have H := H1
         clear H1
         replace H := Option.bind_eq_some_iff.mp H
         obtain ⟨⟨t276, t277, t278⟩, A950, H⟩ := H
         replace H : ((laws_heldStream.f kj63 t277 t278 1).bind fun t279 => (if t279 < 0 then (some false) else (if t279 = t276 then ((laws_toStream.f kj63 l0_0 l0_1).bind fun bt280 => ((impl_NormalStream.f kj63 bt280.1 bt280.2).bind fun bt286 => ((laws_eqStream.f kj63 bt286.1 bt286.2.1 t241 t244).bind fun t294 => (if t294 = true then (laws_FnExactNormalStream.j2 kj63 t276 (bt286.2.2 != t247) t277 t278) else (laws_FnExactNormalStream.j2 kj63 t276 true t277 t278))))) else (some false)))) = some r := H
         have A95 := aM_ A950
         clear A950
         replace H := Option.bind_eq_some_iff.mp H
         obtain ⟨t279, A960, H⟩ := H
         replace H : (if t279 < 0 then (some false) else (if t279 = t276 then ((laws_toStream.f kj63 l0_0 l0_1).bind fun bt280 => ((impl_NormalStream.f kj63 bt280.1 bt280.2).bind fun bt286 => ((laws_eqStream.f kj63 bt286.1 bt286.2.1 t241 t244).bind fun t294 => (if t294 = true then (laws_FnExactNormalStream.j2 kj63 t276 (bt286.2.2 != t247) t277 t278) else (laws_FnExactNormalStream.j2 kj63 t276 true t277 t278))))) else (some false))) = some r := H
         have A96 := aM_ A960
         clear A960
         by_cases c97 : t279 < 0
         ·rw [if_pos c97] at H
          have c97b0 : decide (t279 < 0) = true := decide_eq_true c97
          clear c97
          obtain rfl := Option.some.inj H
          have hnb98 := NB263_233.out
          have hnc98 := NB233_263.out
          have hnb99 := NB263_248.out
          have hnc99 := NB248_263.out
          have hnb100 := NB263_255.out
          have hnc100 := NB255_263.out
          have hcz101_0 : wc.cell? ⟨gb263, 0, none⟩ = some (.slice Ao35 t256.length co35) := (blk_cell BK263.out 0).trans rfl
          have hcz101_1 : wc.cell? ⟨gb263, 1, none⟩ = some (.slice Ao40 t259.length co40) := (blk_cell BK263.out 1).trans rfl
          have hfz101_0 := blk_frozen BK263.out 0
          have hfz101_1 := blk_frozen BK263.out 1
          go_wp2_with (first | ((with_reducible refine gate_callee (f := 22) rfl ?_); refine goesL_ (some 64) rfl rfl Try.func22 (by kernel_rfl) rfl #[.agg #[.slice Ao35 t256.length co35, .slice Ao40 t259.length co40], .int .i64 1] rfl (by (try simp only [List.map_toArray, List.map_cons, List.map_nil]); first | done | rfl | (simp only [List.length_drop, List.length_take]; rfl)) ?_; (with_reducible refine (laws_markStream.calls kj63 (fun k_ => some k_ = (.slice Ao35 t256.length co35 : Value).ownBlock) (.slice Ao35 t256.length co35) t256 (fun k_ => some k_ = (.slice Ao40 t259.length co40 : Value).ownBlock) (.slice Ao40 t259.length co40) t259 1 t276 t277 t278 w _ ?side1 ?side2 ?side3 ?side4 ?side5 A95.out).mono ?_); (case side1 => repeat (first | (with_reducible first | exact HB.out | apply bA_ | apply bN_ | apply bD_ | refine bS_ ?_ GE233.out | refine bS_ ?_ GE248.out | refine bS_ ?_ GE255.out | refine bS_ ?_ GE263.out) | exact HB.out)); (case side2 => exact Kd.R_tight rfl HO_264000.out); (case side3 => exact fun k_ e_ => (HO_264000.out.1 k_ e_.symm).2.2.2.2); (case side4 => exact Kd.R_tight rfl HO_264001.out); (case side5 => exact fun k_ e_ => (HO_264001.out.1 k_ e_.symm).2.2.2.2); rintro e w102 ⟨rfl, hy0, hy1, hb, hkp⟩; refine ⟨_, rfl, ?_⟩; have n0_ := aM_ (Kd.R_mono (ok' := fun k_ => some k_ ≠ (.slice Ao24 t244.length co24 : Value).ownBlock ∧ some k_ ≠ (.slice Ao28 t273.length co28 : Value).ownBlock ∧ some k_ ≠ (.slice Ao32 t274.length co32 : Value).ownBlock ∧ some k_ ≠ (.slice Ao35 t256.length co35 : Value).ownBlock ∧ some k_ ≠ (.slice Ao40 t259.length co40 : Value).ownBlock) (Kd.R_keptB (HO_249000.out) hkp (fun k_ hk_ hs_ => Or.elim hs_ (fun e_ => (hk_.2.2.2.1) e_) (fun e_ => (hk_.2.2.2.2) e_))) (fun k_ hk_ => ⟨hk_.1.1, hk_.1.2.1, hk_.1.2.2.1, hk_.1.2.2.2.1, hk_.1.2.2.2.2⟩)); have n1_ := aM_ (Kd.R_mono (ok' := fun k_ => some k_ ≠ (.slice Ao21 t241.length co21 : Value).ownBlock ∧ some k_ ≠ (.slice Ao28 t273.length co28 : Value).ownBlock ∧ some k_ ≠ (.slice Ao32 t274.length co32 : Value).ownBlock ∧ some k_ ≠ (.slice Ao35 t256.length co35 : Value).ownBlock ∧ some k_ ≠ (.slice Ao40 t259.length co40 : Value).ownBlock) (Kd.R_keptB (HO_249001.out) hkp (fun k_ hk_ hs_ => Or.elim hs_ (fun e_ => (hk_.2.2.2.1) e_) (fun e_ => (hk_.2.2.2.2) e_))) (fun k_ hk_ => ⟨hk_.1.1, hk_.1.2.1, hk_.1.2.2.1, hk_.1.2.2.2.1, hk_.1.2.2.2.2⟩)); have n2_ := aM_ (Kd.R_mono (ok' := fun k_ => some k_ ≠ (.slice Ao21 t241.length co21 : Value).ownBlock ∧ some k_ ≠ (.slice Ao24 t244.length co24 : Value).ownBlock ∧ some k_ ≠ (.slice Ao32 t274.length co32 : Value).ownBlock ∧ some k_ ≠ (.slice Ao35 t256.length co35 : Value).ownBlock ∧ some k_ ≠ (.slice Ao40 t259.length co40 : Value).ownBlock) (Kd.R_keptB (HO_256000.out) hkp (fun k_ hk_ hs_ => Or.elim hs_ (fun e_ => (hk_.2.2.2.1) e_) (fun e_ => (hk_.2.2.2.2) e_))) (fun k_ hk_ => ⟨hk_.1.1, hk_.1.2.1, hk_.1.2.2.1, hk_.1.2.2.2.1, hk_.1.2.2.2.2⟩)); have n3_ := aM_ (Kd.R_mono (ok' := fun k_ => some k_ ≠ (.slice Ao21 t241.length co21 : Value).ownBlock ∧ some k_ ≠ (.slice Ao24 t244.length co24 : Value).ownBlock ∧ some k_ ≠ (.slice Ao28 t273.length co28 : Value).ownBlock ∧ some k_ ≠ (.slice Ao35 t256.length co35 : Value).ownBlock ∧ some k_ ≠ (.slice Ao40 t259.length co40 : Value).ownBlock) (Kd.R_keptB (HO_256001.out) hkp (fun k_ hk_ hs_ => Or.elim hs_ (fun e_ => (hk_.2.2.2.1) e_) (fun e_ => (hk_.2.2.2.2) e_))) (fun k_ hk_ => ⟨hk_.1.1, hk_.1.2.1, hk_.1.2.2.1, hk_.1.2.2.2.1, hk_.1.2.2.2.2⟩)); have n4_ := aM_ (Kd.R_reok rfl hy0 (fun k_ e_ => HO_264000.out.1 k_ e_)); have n5_ := aM_ (Kd.R_reok rfl hy1 (fun k_ e_ => HO_264001.out.1 k_ e_)); have n6_ := aM_ (blk_kept (by (with_reducible repeat (first | refine kN_ ?_ _ | refine kD_ ?_ | refine kA_ ?_ _)); exact BK233.out) hkp (fun hs_ => Or.elim hs_ (fun e_ => (fun e_ => (Kd.R_ne HO_264000.out BK233.out (by decide)) e_) e_) (fun e_ => (fun e_ => (Kd.R_ne HO_264001.out BK233.out (by decide)) e_) e_))); have n7_ := aM_ (blk_kept (by (with_reducible repeat (first | refine kN_ ?_ _ | refine kD_ ?_ | refine kA_ ?_ _)); exact BK248.out) hkp (fun hs_ => Or.elim hs_ (fun e_ => (fun e_ => (Kd.R_ne HO_264000.out BK248.out (by decide)) e_) e_) (fun e_ => (fun e_ => (Kd.R_ne HO_264001.out BK248.out (by decide)) e_) e_))); have n8_ := aM_ (blk_kept (by (with_reducible repeat (first | refine kN_ ?_ _ | refine kD_ ?_ | refine kA_ ?_ _)); exact BK255.out) hkp (fun hs_ => Or.elim hs_ (fun e_ => (fun e_ => (Kd.R_ne HO_264000.out BK255.out (by decide)) e_) e_) (fun e_ => (fun e_ => (Kd.R_ne HO_264001.out BK255.out (by decide)) e_) e_))); have n9_ := aM_ (blk_kept (by (with_reducible repeat (first | refine kN_ ?_ _ | refine kD_ ?_ | refine kA_ ?_ _)); exact BK263.out) hkp (fun hs_ => Or.elim hs_ (fun e_ => (fun e_ => (Kd.R_ne HO_264000.out BK263.out (by decide)) e_) e_) (fun e_ => (fun e_ => (Kd.R_ne HO_264001.out BK263.out (by decide)) e_) e_))); have n10_ := aM_ (hb); clear HO_249000; clear HO_249001; clear HO_256000; clear HO_256001; clear HO_264000; clear HO_264001; clear BK233; clear BK248; clear BK255; clear BK263; clear HB; have HO_249000 := n0_; have HO_249001 := n1_; have HO_256000 := n2_; have HO_256001 := n3_; have HO_264000 := n4_; have HO_264001 := n5_; have BK233 := n6_; have BK248 := n7_; have BK255 := n8_; have BK263 := n9_; have HB := n10_; clear n0_ n1_ n2_ n3_ n4_ n5_ n6_ n7_ n8_ n9_ n10_; (try clear hb); (try clear hkp); (try clear hy0); (try clear hy1); have hcz103_0 : w102.cell? ⟨gb263, 0, none⟩ = some (.slice Ao35 t256.length co35) := (blk_cell BK263.out 0).trans rfl; have hcz103_1 : w102.cell? ⟨gb263, 1, none⟩ = some (.slice Ao40 t259.length co40) := (blk_cell BK263.out 1).trans rfl; have hfz103_0 := blk_frozen BK263.out 0; have hfz103_1 := blk_frozen BK263.out 1) | ((with_reducible refine gate_callee (f := 23) rfl ?_); refine goesL_ (some 67) rfl rfl Try.func23 (by kernel_rfl) rfl #[.agg #[.slice Ao35 t277.length co35, .slice Ao40 t278.length co40], .int .i64 1] rfl (by (try simp only [List.map_toArray, List.map_cons, List.map_nil]); first | done | (rw [show t277.length = t256.length from (Kd.R_reads' HO_264000.out).1.symm, show t278.length = t259.length from (Kd.R_reads' HO_264001.out).1.symm] <;> rfl) | rfl | (simp only [List.length_drop, List.length_take]; rfl)) ?_; (with_reducible refine (laws_heldStream.calls kj63 _ _ t277 _ _ t278 1 t279 _ ?side1 ?side2 ?side3 ?side4 A96.out).mono ?_); (case side1 => repeat (first | exact (Kd.R_reads' HO_264000.out).2.2 | (with_reducible refine Kd.C_alloc ?_ _) | (with_reducible refine Kd.C_drewN ?_ _) | (with_reducible refine Kd.C_drew ?_))); (case side2 => rw [show t277.length = t256.length from (Kd.R_reads' HO_264000.out).1.symm]; exact (Kd.R_reads' HO_264000.out).2.1); (case side3 => repeat (first | exact (Kd.R_reads' HO_264001.out).2.2 | (with_reducible refine Kd.C_alloc ?_ _) | (with_reducible refine Kd.C_drewN ?_ _) | (with_reducible refine Kd.C_drew ?_))); (case side4 => rw [show t278.length = t259.length from (Kd.R_reads' HO_264001.out).1.symm]; exact (Kd.R_reads' HO_264001.out).2.1); rintro e w104 ⟨rfl, hb⟩; refine ⟨_, rfl, ?_⟩; have n0_ := aM_ (Kd.R_below (by (with_reducible repeat (first | apply rA_ | apply rN_ | apply rD_)); exact HO_249000.out) hb); have n1_ := aM_ (Kd.R_below (by (with_reducible repeat (first | apply rA_ | apply rN_ | apply rD_)); exact HO_249001.out) hb); have n2_ := aM_ (Kd.R_below (by (with_reducible repeat (first | apply rA_ | apply rN_ | apply rD_)); exact HO_256000.out) hb); have n3_ := aM_ (Kd.R_below (by (with_reducible repeat (first | apply rA_ | apply rN_ | apply rD_)); exact HO_256001.out) hb); have n4_ := aM_ (Kd.R_below (by (with_reducible repeat (first | apply rA_ | apply rN_ | apply rD_)); exact HO_264000.out) hb); have n5_ := aM_ (Kd.R_below (by (with_reducible repeat (first | apply rA_ | apply rN_ | apply rD_)); exact HO_264001.out) hb); have n6_ := aM_ (blk_below (g := gb233) (o := .cells #[.slice A0_0 l0_0.length c0_0, .slice A0_1 l0_1.length c0_1] 32 (0, 0)) (by (with_reducible repeat (first | refine kN_ ?_ _ | refine kD_ ?_ | refine kA_ ?_ _)); exact BK233.out) hb); have n7_ := aM_ (blk_below (g := gb248) (o := .cells #[.slice Ao21 t241.length co21, .slice Ao24 t244.length co24] 34 (0, 0)) (by (with_reducible repeat (first | refine kN_ ?_ _ | refine kD_ ?_ | refine kA_ ?_ _)); exact BK248.out) hb); have n8_ := aM_ (blk_below (g := gb255) (o := .cells #[.slice Ao28 t273.length co28, .slice Ao32 t274.length co32] 34 (0, 0)) (by (with_reducible repeat (first | refine kN_ ?_ _ | refine kD_ ?_ | refine kA_ ?_ _)); exact BK255.out) hb); have n9_ := aM_ (blk_below (g := gb263) (o := .cells #[.slice Ao35 t256.length co35, .slice Ao40 t259.length co40] 34 (0, 0)) (by (with_reducible repeat (first | refine kN_ ?_ _ | refine kD_ ?_ | refine kA_ ?_ _)); exact BK263.out) hb); have n10_ := aM_ (below_step (by repeat (first | (with_reducible first | exact HB.out | apply bA_ | apply bN_ | apply bD_ | refine bS_ ?_ GE233.out | refine bS_ ?_ GE248.out | refine bS_ ?_ GE255.out | refine bS_ ?_ GE263.out) | exact HB.out)) hb); clear HO_249000; clear HO_249001; clear HO_256000; clear HO_256001; clear HO_264000; clear HO_264001; clear BK233; clear BK248; clear BK255; clear BK263; clear HB; have HO_249000 := n0_; have HO_249001 := n1_; have HO_256000 := n2_; have HO_256001 := n3_; have HO_264000 := n4_; have HO_264001 := n5_; have BK233 := n6_; have BK248 := n7_; have BK255 := n8_; have BK263 := n9_; have HB := n10_; clear n0_ n1_ n2_ n3_ n4_ n5_ n6_ n7_ n8_ n9_ n10_; (try clear hb); (try clear hb2); (try clear hk); (try clear hi)))
          go_ret
          exact ⟨by first | rfl | (simp [errW_none, errW_some] <;> rfl) | (simp [*, errW_none, errW_some] <;> rfl), by repeat (first | (with_reducible first | exact HB.out | apply bA_ | apply bN_ | apply bD_ | refine bS_ ?_ GE233.out | refine bS_ ?_ GE248.out | refine bS_ ?_ GE255.out | refine bS_ ?_ GE263.out) | exact HB.out)⟩
         ·rw [if_neg c97] at H
          have c97b0 : decide (t279 < 0) = false := decide_eq_false c97
          clear c97
          by_cases c105 : t279 = t276
          ·rw [if_pos c105] at H
           have c105b0 : (t279 == t276) = true := beq_iff_eq.mpr c105
           have c105b1 : (t279 != t276) = false := bne_eq_false_iff_eq.mpr c105
           clear c105
           replace H := Option.bind_eq_some_iff.mp H
           obtain ⟨⟨t280, t283⟩, A1060, H⟩ := H
           replace H : ((impl_NormalStream.f kj63 t280 t283).bind fun bt286 => ((laws_eqStream.f kj63 bt286.1 bt286.2.1 t241 t244).bind fun t294 => (if t294 = true then (laws_FnExactNormalStream.j2 kj63 t276 (bt286.2.2 != t247) t277 t278) else (laws_FnExactNormalStream.j2 kj63 t276 true t277 t278)))) = some r := H
           have A106 := aM_ A1060
           clear A1060
           replace H := Option.bind_eq_some_iff.mp H
           obtain ⟨⟨t286, t289, t292⟩, A1070, H⟩ := H
           replace H : ((laws_eqStream.f kj63 t286 t289 t241 t244).bind fun t294 => (if t294 = true then (laws_FnExactNormalStream.j2 kj63 t276 (t292 != t247) t277 t278) else (laws_FnExactNormalStream.j2 kj63 t276 true t277 t278))) = some r := H
           have A107 := aM_ A1070
           clear A1070
           have HC108 := aM_ H
           clear H
           have hnb109 := NB263_233.out
           have hnc109 := NB233_263.out
           have hnb110 := NB263_248.out
           have hnc110 := NB248_263.out
           have hnb111 := NB263_255.out
           have hnc111 := NB255_263.out
           have hcz112_0 : wc.cell? ⟨gb263, 0, none⟩ = some (.slice Ao35 t256.length co35) := (blk_cell BK263.out 0).trans rfl
           have hcz112_1 : wc.cell? ⟨gb263, 1, none⟩ = some (.slice Ao40 t259.length co40) := (blk_cell BK263.out 1).trans rfl
           have hfz112_0 := blk_frozen BK263.out 0
           have hfz112_1 := blk_frozen BK263.out 1
           go_upto_region 25 with (first | ((with_reducible refine gate_callee (f := 22) rfl ?_); refine goesL_ (some 64) rfl rfl Try.func22 (by kernel_rfl) rfl #[.agg #[.slice Ao35 t256.length co35, .slice Ao40 t259.length co40], .int .i64 1] rfl (by (try simp only [List.map_toArray, List.map_cons, List.map_nil]); first | done | rfl | (simp only [List.length_drop, List.length_take]; rfl)) ?_; (with_reducible refine (laws_markStream.calls kj63 (fun k_ => some k_ = (.slice Ao35 t256.length co35 : Value).ownBlock) (.slice Ao35 t256.length co35) t256 (fun k_ => some k_ = (.slice Ao40 t259.length co40 : Value).ownBlock) (.slice Ao40 t259.length co40) t259 1 t276 t277 t278 w _ ?side1 ?side2 ?side3 ?side4 ?side5 A95.out).mono ?_); (case side1 => repeat (first | (with_reducible first | exact HB.out | apply bA_ | apply bN_ | apply bD_ | refine bS_ ?_ GE233.out | refine bS_ ?_ GE248.out | refine bS_ ?_ GE255.out | refine bS_ ?_ GE263.out) | exact HB.out)); (case side2 => exact Kd.R_tight rfl HO_264000.out); (case side3 => exact fun k_ e_ => (HO_264000.out.1 k_ e_.symm).2.2.2.2); (case side4 => exact Kd.R_tight rfl HO_264001.out); (case side5 => exact fun k_ e_ => (HO_264001.out.1 k_ e_.symm).2.2.2.2); rintro e w113 ⟨rfl, hy0, hy1, hb, hkp⟩; refine ⟨_, rfl, ?_⟩; have n0_ := aM_ (Kd.R_mono (ok' := fun k_ => some k_ ≠ (.slice Ao24 t244.length co24 : Value).ownBlock ∧ some k_ ≠ (.slice Ao28 t273.length co28 : Value).ownBlock ∧ some k_ ≠ (.slice Ao32 t274.length co32 : Value).ownBlock ∧ some k_ ≠ (.slice Ao35 t256.length co35 : Value).ownBlock ∧ some k_ ≠ (.slice Ao40 t259.length co40 : Value).ownBlock) (Kd.R_keptB (HO_249000.out) hkp (fun k_ hk_ hs_ => Or.elim hs_ (fun e_ => (hk_.2.2.2.1) e_) (fun e_ => (hk_.2.2.2.2) e_))) (fun k_ hk_ => ⟨hk_.1.1, hk_.1.2.1, hk_.1.2.2.1, hk_.1.2.2.2.1, hk_.1.2.2.2.2⟩)); have n1_ := aM_ (Kd.R_mono (ok' := fun k_ => some k_ ≠ (.slice Ao21 t241.length co21 : Value).ownBlock ∧ some k_ ≠ (.slice Ao28 t273.length co28 : Value).ownBlock ∧ some k_ ≠ (.slice Ao32 t274.length co32 : Value).ownBlock ∧ some k_ ≠ (.slice Ao35 t256.length co35 : Value).ownBlock ∧ some k_ ≠ (.slice Ao40 t259.length co40 : Value).ownBlock) (Kd.R_keptB (HO_249001.out) hkp (fun k_ hk_ hs_ => Or.elim hs_ (fun e_ => (hk_.2.2.2.1) e_) (fun e_ => (hk_.2.2.2.2) e_))) (fun k_ hk_ => ⟨hk_.1.1, hk_.1.2.1, hk_.1.2.2.1, hk_.1.2.2.2.1, hk_.1.2.2.2.2⟩)); have n2_ := aM_ (Kd.R_mono (ok' := fun k_ => some k_ ≠ (.slice Ao21 t241.length co21 : Value).ownBlock ∧ some k_ ≠ (.slice Ao24 t244.length co24 : Value).ownBlock ∧ some k_ ≠ (.slice Ao32 t274.length co32 : Value).ownBlock ∧ some k_ ≠ (.slice Ao35 t256.length co35 : Value).ownBlock ∧ some k_ ≠ (.slice Ao40 t259.length co40 : Value).ownBlock) (Kd.R_keptB (HO_256000.out) hkp (fun k_ hk_ hs_ => Or.elim hs_ (fun e_ => (hk_.2.2.2.1) e_) (fun e_ => (hk_.2.2.2.2) e_))) (fun k_ hk_ => ⟨hk_.1.1, hk_.1.2.1, hk_.1.2.2.1, hk_.1.2.2.2.1, hk_.1.2.2.2.2⟩)); have n3_ := aM_ (Kd.R_mono (ok' := fun k_ => some k_ ≠ (.slice Ao21 t241.length co21 : Value).ownBlock ∧ some k_ ≠ (.slice Ao24 t244.length co24 : Value).ownBlock ∧ some k_ ≠ (.slice Ao28 t273.length co28 : Value).ownBlock ∧ some k_ ≠ (.slice Ao35 t256.length co35 : Value).ownBlock ∧ some k_ ≠ (.slice Ao40 t259.length co40 : Value).ownBlock) (Kd.R_keptB (HO_256001.out) hkp (fun k_ hk_ hs_ => Or.elim hs_ (fun e_ => (hk_.2.2.2.1) e_) (fun e_ => (hk_.2.2.2.2) e_))) (fun k_ hk_ => ⟨hk_.1.1, hk_.1.2.1, hk_.1.2.2.1, hk_.1.2.2.2.1, hk_.1.2.2.2.2⟩)); have n4_ := aM_ (Kd.R_reok rfl hy0 (fun k_ e_ => HO_264000.out.1 k_ e_)); have n5_ := aM_ (Kd.R_reok rfl hy1 (fun k_ e_ => HO_264001.out.1 k_ e_)); have n6_ := aM_ (blk_kept (by (with_reducible repeat (first | refine kN_ ?_ _ | refine kD_ ?_ | refine kA_ ?_ _)); exact BK233.out) hkp (fun hs_ => Or.elim hs_ (fun e_ => (fun e_ => (Kd.R_ne HO_264000.out BK233.out (by decide)) e_) e_) (fun e_ => (fun e_ => (Kd.R_ne HO_264001.out BK233.out (by decide)) e_) e_))); have n7_ := aM_ (blk_kept (by (with_reducible repeat (first | refine kN_ ?_ _ | refine kD_ ?_ | refine kA_ ?_ _)); exact BK248.out) hkp (fun hs_ => Or.elim hs_ (fun e_ => (fun e_ => (Kd.R_ne HO_264000.out BK248.out (by decide)) e_) e_) (fun e_ => (fun e_ => (Kd.R_ne HO_264001.out BK248.out (by decide)) e_) e_))); have n8_ := aM_ (blk_kept (by (with_reducible repeat (first | refine kN_ ?_ _ | refine kD_ ?_ | refine kA_ ?_ _)); exact BK255.out) hkp (fun hs_ => Or.elim hs_ (fun e_ => (fun e_ => (Kd.R_ne HO_264000.out BK255.out (by decide)) e_) e_) (fun e_ => (fun e_ => (Kd.R_ne HO_264001.out BK255.out (by decide)) e_) e_))); have n9_ := aM_ (blk_kept (by (with_reducible repeat (first | refine kN_ ?_ _ | refine kD_ ?_ | refine kA_ ?_ _)); exact BK263.out) hkp (fun hs_ => Or.elim hs_ (fun e_ => (fun e_ => (Kd.R_ne HO_264000.out BK263.out (by decide)) e_) e_) (fun e_ => (fun e_ => (Kd.R_ne HO_264001.out BK263.out (by decide)) e_) e_))); have n10_ := aM_ (hb); clear HO_249000; clear HO_249001; clear HO_256000; clear HO_256001; clear HO_264000; clear HO_264001; clear BK233; clear BK248; clear BK255; clear BK263; clear HB; have HO_249000 := n0_; have HO_249001 := n1_; have HO_256000 := n2_; have HO_256001 := n3_; have HO_264000 := n4_; have HO_264001 := n5_; have BK233 := n6_; have BK248 := n7_; have BK255 := n8_; have BK263 := n9_; have HB := n10_; clear n0_ n1_ n2_ n3_ n4_ n5_ n6_ n7_ n8_ n9_ n10_; (try clear hb); (try clear hkp); (try clear hy0); (try clear hy1); have hcz114_0 : w113.cell? ⟨gb263, 0, none⟩ = some (.slice Ao35 t256.length co35) := (blk_cell BK263.out 0).trans rfl; have hcz114_1 : w113.cell? ⟨gb263, 1, none⟩ = some (.slice Ao40 t259.length co40) := (blk_cell BK263.out 1).trans rfl; have hfz114_0 := blk_frozen BK263.out 0; have hfz114_1 := blk_frozen BK263.out 1) | ((with_reducible refine gate_callee (f := 23) rfl ?_); refine goesL_ (some 67) rfl rfl Try.func23 (by kernel_rfl) rfl #[.agg #[.slice Ao35 t277.length co35, .slice Ao40 t278.length co40], .int .i64 1] rfl (by (try simp only [List.map_toArray, List.map_cons, List.map_nil]); first | done | (rw [show t277.length = t256.length from (Kd.R_reads' HO_264000.out).1.symm, show t278.length = t259.length from (Kd.R_reads' HO_264001.out).1.symm] <;> rfl) | rfl | (simp only [List.length_drop, List.length_take]; rfl)) ?_; (with_reducible refine (laws_heldStream.calls kj63 _ _ t277 _ _ t278 1 t279 _ ?side1 ?side2 ?side3 ?side4 A96.out).mono ?_); (case side1 => repeat (first | exact (Kd.R_reads' HO_264000.out).2.2 | (with_reducible refine Kd.C_alloc ?_ _) | (with_reducible refine Kd.C_drewN ?_ _) | (with_reducible refine Kd.C_drew ?_))); (case side2 => rw [show t277.length = t256.length from (Kd.R_reads' HO_264000.out).1.symm]; exact (Kd.R_reads' HO_264000.out).2.1); (case side3 => repeat (first | exact (Kd.R_reads' HO_264001.out).2.2 | (with_reducible refine Kd.C_alloc ?_ _) | (with_reducible refine Kd.C_drewN ?_ _) | (with_reducible refine Kd.C_drew ?_))); (case side4 => rw [show t278.length = t259.length from (Kd.R_reads' HO_264001.out).1.symm]; exact (Kd.R_reads' HO_264001.out).2.1); rintro e w115 ⟨rfl, hb⟩; refine ⟨_, rfl, ?_⟩; have n0_ := aM_ (Kd.R_below (by (with_reducible repeat (first | apply rA_ | apply rN_ | apply rD_)); exact HO_249000.out) hb); have n1_ := aM_ (Kd.R_below (by (with_reducible repeat (first | apply rA_ | apply rN_ | apply rD_)); exact HO_249001.out) hb); have n2_ := aM_ (Kd.R_below (by (with_reducible repeat (first | apply rA_ | apply rN_ | apply rD_)); exact HO_256000.out) hb); have n3_ := aM_ (Kd.R_below (by (with_reducible repeat (first | apply rA_ | apply rN_ | apply rD_)); exact HO_256001.out) hb); have n4_ := aM_ (Kd.R_below (by (with_reducible repeat (first | apply rA_ | apply rN_ | apply rD_)); exact HO_264000.out) hb); have n5_ := aM_ (Kd.R_below (by (with_reducible repeat (first | apply rA_ | apply rN_ | apply rD_)); exact HO_264001.out) hb); have n6_ := aM_ (blk_below (g := gb233) (o := .cells #[.slice A0_0 l0_0.length c0_0, .slice A0_1 l0_1.length c0_1] 32 (0, 0)) (by (with_reducible repeat (first | refine kN_ ?_ _ | refine kD_ ?_ | refine kA_ ?_ _)); exact BK233.out) hb); have n7_ := aM_ (blk_below (g := gb248) (o := .cells #[.slice Ao21 t241.length co21, .slice Ao24 t244.length co24] 34 (0, 0)) (by (with_reducible repeat (first | refine kN_ ?_ _ | refine kD_ ?_ | refine kA_ ?_ _)); exact BK248.out) hb); have n8_ := aM_ (blk_below (g := gb255) (o := .cells #[.slice Ao28 t273.length co28, .slice Ao32 t274.length co32] 34 (0, 0)) (by (with_reducible repeat (first | refine kN_ ?_ _ | refine kD_ ?_ | refine kA_ ?_ _)); exact BK255.out) hb); have n9_ := aM_ (blk_below (g := gb263) (o := .cells #[.slice Ao35 t256.length co35, .slice Ao40 t259.length co40] 34 (0, 0)) (by (with_reducible repeat (first | refine kN_ ?_ _ | refine kD_ ?_ | refine kA_ ?_ _)); exact BK263.out) hb); have n10_ := aM_ (below_step (by repeat (first | (with_reducible first | exact HB.out | apply bA_ | apply bN_ | apply bD_ | refine bS_ ?_ GE233.out | refine bS_ ?_ GE248.out | refine bS_ ?_ GE255.out | refine bS_ ?_ GE263.out) | exact HB.out)) hb); clear HO_249000; clear HO_249001; clear HO_256000; clear HO_256001; clear HO_264000; clear HO_264001; clear BK233; clear BK248; clear BK255; clear BK263; clear HB; have HO_249000 := n0_; have HO_249001 := n1_; have HO_256000 := n2_; have HO_256001 := n3_; have HO_264000 := n4_; have HO_264001 := n5_; have BK233 := n6_; have BK248 := n7_; have BK255 := n8_; have BK263 := n9_; have HB := n10_; clear n0_ n1_ n2_ n3_ n4_ n5_ n6_ n7_ n8_ n9_ n10_; (try clear hb); (try clear hb2); (try clear hk); (try clear hi); have hnb116 := NB233_248.out; have hnc116 := NB248_233.out; have hnb117 := NB233_255.out; have hnc117 := NB255_233.out; have hcz118_0 : w115.cell? ⟨gb233, 0, none⟩ = some (.slice A0_0 l0_0.length c0_0) := (blk_cell BK233.out 0).trans rfl; have hcz118_1 : w115.cell? ⟨gb233, 1, none⟩ = some (.slice A0_1 l0_1.length c0_1) := (blk_cell BK233.out 1).trans rfl; have hfz118_0 := blk_frozen BK233.out 0; have hfz118_1 := blk_frozen BK233.out 1) | ((with_reducible refine gate_callee (f := 19) rfl ?_); refine goesL_ (some 75) rfl rfl Try.func19 (by kernel_rfl) rfl #[.agg #[.slice A0_0 l0_0.length c0_0, .slice A0_1 l0_1.length c0_1]] rfl (by (try simp only [List.map_toArray, List.map_cons, List.map_nil]); first | done | rfl | (simp only [List.length_drop, List.length_take]; rfl)) ?_; (with_reducible refine (laws_toStream.calls kj63 _ _ l0_0 _ _ l0_1 t280 t283 _ ?side1 ?side2 ?side3 ?side4 A106.out).mono ?_); (case side1 => repeat (first | exact (Kd.C_below HR0_0.out HB.out) | (with_reducible refine Kd.C_alloc ?_ _) | (with_reducible refine Kd.C_drewN ?_ _) | (with_reducible refine Kd.C_drew ?_))); (case side2 => exact HC0_0.out); (case side3 => repeat (first | exact (Kd.C_below HR0_1.out HB.out) | (with_reducible refine Kd.C_alloc ?_ _) | (with_reducible refine Kd.C_drewN ?_ _) | (with_reducible refine Kd.C_drew ?_))); (case side4 => exact HC0_1.out); rintro e w119 ⟨v281, v284, rfl, ho0, ho1, hb⟩; refine ⟨_, rfl, ?_⟩; have n0_ := aM_ (Kd.R_mono (Kd.R_told (Kd.R_told (Kd.R_old (by (with_reducible repeat (first | apply rA_ | apply rN_ | apply rD_)); exact HO_249000.out) hb) (Kd.R_base ho0)) (Kd.R_base ho1)) (fun _ h_ => h_.1)); have n1_ := aM_ (Kd.R_mono (Kd.R_told (Kd.R_told (Kd.R_old (by (with_reducible repeat (first | apply rA_ | apply rN_ | apply rD_)); exact HO_249001.out) hb) (Kd.R_base ho0)) (Kd.R_base ho1)) (fun _ h_ => h_.1)); have n2_ := aM_ (Kd.R_mono (Kd.R_told (Kd.R_told (Kd.R_old (by (with_reducible repeat (first | apply rA_ | apply rN_ | apply rD_)); exact HO_256000.out) hb) (Kd.R_base ho0)) (Kd.R_base ho1)) (fun _ h_ => h_.1)); have n3_ := aM_ (Kd.R_mono (Kd.R_told (Kd.R_told (Kd.R_old (by (with_reducible repeat (first | apply rA_ | apply rN_ | apply rD_)); exact HO_256001.out) hb) (Kd.R_base ho0)) (Kd.R_base ho1)) (fun _ h_ => h_.1)); have n4_ := aM_ (Kd.R_mono (Kd.R_told (Kd.R_told (Kd.R_old (by (with_reducible repeat (first | apply rA_ | apply rN_ | apply rD_)); exact HO_264000.out) hb) (Kd.R_base ho0)) (Kd.R_base ho1)) (fun _ h_ => h_.1)); have n5_ := aM_ (Kd.R_mono (Kd.R_told (Kd.R_told (Kd.R_old (by (with_reducible repeat (first | apply rA_ | apply rN_ | apply rD_)); exact HO_264001.out) hb) (Kd.R_base ho0)) (Kd.R_base ho1)) (fun _ h_ => h_.1)); have n6_ := aM_ (Kd.R_lower (Kd.R_new' (Kd.R_new' (Kd.R_new' (Kd.R_new' (Kd.R_new' (Kd.R_new' ho0 (Kd.R_lt (by (with_reducible repeat (first | apply rA_ | apply rN_ | apply rD_)); exact HO_249000.out))) (Kd.R_lt (by (with_reducible repeat (first | apply rA_ | apply rN_ | apply rD_)); exact HO_249001.out))) (Kd.R_lt (by (with_reducible repeat (first | apply rA_ | apply rN_ | apply rD_)); exact HO_256000.out))) (Kd.R_lt (by (with_reducible repeat (first | apply rA_ | apply rN_ | apply rD_)); exact HO_256001.out))) (Kd.R_lt (by (with_reducible repeat (first | apply rA_ | apply rN_ | apply rD_)); exact HO_264000.out))) (Kd.R_lt (by (with_reducible repeat (first | apply rA_ | apply rN_ | apply rD_)); exact HO_264001.out))) (below_size (by repeat (first | (with_reducible first | exact HB.out | apply bA_ | apply bN_ | apply bD_ | refine bS_ ?_ GE233.out | refine bS_ ?_ GE248.out | refine bS_ ?_ GE255.out | refine bS_ ?_ GE263.out) | exact HB.out)))); have n7_ := aM_ (Kd.R_lower (Kd.R_new' (Kd.R_new' (Kd.R_new' (Kd.R_new' (Kd.R_new' (Kd.R_new' ho1 (Kd.R_lt (by (with_reducible repeat (first | apply rA_ | apply rN_ | apply rD_)); exact HO_249000.out))) (Kd.R_lt (by (with_reducible repeat (first | apply rA_ | apply rN_ | apply rD_)); exact HO_249001.out))) (Kd.R_lt (by (with_reducible repeat (first | apply rA_ | apply rN_ | apply rD_)); exact HO_256000.out))) (Kd.R_lt (by (with_reducible repeat (first | apply rA_ | apply rN_ | apply rD_)); exact HO_256001.out))) (Kd.R_lt (by (with_reducible repeat (first | apply rA_ | apply rN_ | apply rD_)); exact HO_264000.out))) (Kd.R_lt (by (with_reducible repeat (first | apply rA_ | apply rN_ | apply rD_)); exact HO_264001.out))) (below_size (by repeat (first | (with_reducible first | exact HB.out | apply bA_ | apply bN_ | apply bD_ | refine bS_ ?_ GE233.out | refine bS_ ?_ GE248.out | refine bS_ ?_ GE255.out | refine bS_ ?_ GE263.out) | exact HB.out)))); have n8_ := aM_ (blk_below (g := gb233) (o := .cells #[.slice A0_0 l0_0.length c0_0, .slice A0_1 l0_1.length c0_1] 32 (0, 0)) (by (with_reducible repeat (first | refine kN_ ?_ _ | refine kD_ ?_ | refine kA_ ?_ _)); exact BK233.out) hb); have n9_ := aM_ (blk_below (g := gb248) (o := .cells #[.slice Ao21 t241.length co21, .slice Ao24 t244.length co24] 34 (0, 0)) (by (with_reducible repeat (first | refine kN_ ?_ _ | refine kD_ ?_ | refine kA_ ?_ _)); exact BK248.out) hb); have n10_ := aM_ (blk_below (g := gb255) (o := .cells #[.slice Ao28 t273.length co28, .slice Ao32 t274.length co32] 34 (0, 0)) (by (with_reducible repeat (first | refine kN_ ?_ _ | refine kD_ ?_ | refine kA_ ?_ _)); exact BK255.out) hb); have n11_ := aM_ (blk_below (g := gb263) (o := .cells #[.slice Ao35 t256.length co35, .slice Ao40 t259.length co40] 34 (0, 0)) (by (with_reducible repeat (first | refine kN_ ?_ _ | refine kD_ ?_ | refine kA_ ?_ _)); exact BK263.out) hb); have n12_ := aM_ (below_step (by repeat (first | (with_reducible first | exact HB.out | apply bA_ | apply bN_ | apply bD_ | refine bS_ ?_ GE233.out | refine bS_ ?_ GE248.out | refine bS_ ?_ GE255.out | refine bS_ ?_ GE263.out) | exact HB.out)) hb); clear HO_249000; clear HO_249001; clear HO_256000; clear HO_256001; clear HO_264000; clear HO_264001; clear BK233; clear BK248; clear BK255; clear BK263; clear HB; have HO_249000 := n0_; have HO_249001 := n1_; have HO_256000 := n2_; have HO_256001 := n3_; have HO_264000 := n4_; have HO_264001 := n5_; have HO282 := n6_; have HO285 := n7_; have BK233 := n8_; have BK248 := n9_; have BK255 := n10_; have BK263 := n11_; have HB := n12_; clear n0_ n1_ n2_ n3_ n4_ n5_ n6_ n7_ n8_ n9_ n10_ n11_ n12_; (try clear hb); (try clear hb2); (try clear hk); (try clear hi); (try clear ho0); (try clear ho1); obtain ⟨Ao120, co120, eo120⟩ := Kd.R_slice HO282.out; subst eo120; obtain ⟨Ao121, co121, eo121⟩ := Kd.R_slice HO285.out; subst eo121) | ((with_reducible refine gate_callee (f := 20) rfl ?_); refine goesL_ (some 76) rfl rfl Try.func20 (by kernel_rfl) rfl #[.agg #[.slice Ao120 t280.length co120, .slice Ao121 t283.length co121]] rfl (by (try simp only [List.map_toArray, List.map_cons, List.map_nil]); first | done | rfl | (simp only [List.length_drop, List.length_take]; rfl)) ?_; (with_reducible refine (impl_NormalStream.calls kj63 _ _ t280 _ _ t283 t286 t289 t292 _ ?side1 ?side2 ?side3 ?side4 A107.out).mono ?_); (case side1 => repeat (first | exact (Kd.R_reads' HO282.out).2.2 | (with_reducible refine Kd.C_alloc ?_ _) | (with_reducible refine Kd.C_drewN ?_ _) | (with_reducible refine Kd.C_drew ?_))); (case side2 => exact (Kd.R_reads' HO282.out).2.1); (case side3 => repeat (first | exact (Kd.R_reads' HO285.out).2.2 | (with_reducible refine Kd.C_alloc ?_ _) | (with_reducible refine Kd.C_drewN ?_ _) | (with_reducible refine Kd.C_drew ?_))); (case side4 => exact (Kd.R_reads' HO285.out).2.1); rintro e w122 ⟨v287, v290, rfl, ho0, ho1, hb⟩; refine ⟨_, rfl, ?_⟩; have n0_ := aM_ (Kd.R_mono (Kd.R_told (Kd.R_told (Kd.R_old (by (with_reducible repeat (first | apply rA_ | apply rN_ | apply rD_)); exact HO_249000.out) hb) (Kd.R_base ho0)) (Kd.R_base ho1)) (fun _ h_ => h_.1)); have n1_ := aM_ (Kd.R_mono (Kd.R_told (Kd.R_told (Kd.R_old (by (with_reducible repeat (first | apply rA_ | apply rN_ | apply rD_)); exact HO_249001.out) hb) (Kd.R_base ho0)) (Kd.R_base ho1)) (fun _ h_ => h_.1)); have n2_ := aM_ (Kd.R_mono (Kd.R_told (Kd.R_told (Kd.R_old (by (with_reducible repeat (first | apply rA_ | apply rN_ | apply rD_)); exact HO_256000.out) hb) (Kd.R_base ho0)) (Kd.R_base ho1)) (fun _ h_ => h_.1)); have n3_ := aM_ (Kd.R_mono (Kd.R_told (Kd.R_told (Kd.R_old (by (with_reducible repeat (first | apply rA_ | apply rN_ | apply rD_)); exact HO_256001.out) hb) (Kd.R_base ho0)) (Kd.R_base ho1)) (fun _ h_ => h_.1)); have n4_ := aM_ (Kd.R_mono (Kd.R_told (Kd.R_told (Kd.R_old (by (with_reducible repeat (first | apply rA_ | apply rN_ | apply rD_)); exact HO_264000.out) hb) (Kd.R_base ho0)) (Kd.R_base ho1)) (fun _ h_ => h_.1)); have n5_ := aM_ (Kd.R_mono (Kd.R_told (Kd.R_told (Kd.R_old (by (with_reducible repeat (first | apply rA_ | apply rN_ | apply rD_)); exact HO_264001.out) hb) (Kd.R_base ho0)) (Kd.R_base ho1)) (fun _ h_ => h_.1)); have n6_ := aM_ (Kd.R_mono (Kd.R_told (Kd.R_told (Kd.R_old (by (with_reducible repeat (first | apply rA_ | apply rN_ | apply rD_)); exact HO282.out) hb) (Kd.R_base ho0)) (Kd.R_base ho1)) (fun _ h_ => h_.1)); have n7_ := aM_ (Kd.R_mono (Kd.R_told (Kd.R_told (Kd.R_old (by (with_reducible repeat (first | apply rA_ | apply rN_ | apply rD_)); exact HO285.out) hb) (Kd.R_base ho0)) (Kd.R_base ho1)) (fun _ h_ => h_.1)); have n8_ := aM_ (Kd.R_lower (Kd.R_new' (Kd.R_new' (Kd.R_new' (Kd.R_new' (Kd.R_new' (Kd.R_new' (Kd.R_new' (Kd.R_new' ho0 (Kd.R_lt (by (with_reducible repeat (first | apply rA_ | apply rN_ | apply rD_)); exact HO_249000.out))) (Kd.R_lt (by (with_reducible repeat (first | apply rA_ | apply rN_ | apply rD_)); exact HO_249001.out))) (Kd.R_lt (by (with_reducible repeat (first | apply rA_ | apply rN_ | apply rD_)); exact HO_256000.out))) (Kd.R_lt (by (with_reducible repeat (first | apply rA_ | apply rN_ | apply rD_)); exact HO_256001.out))) (Kd.R_lt (by (with_reducible repeat (first | apply rA_ | apply rN_ | apply rD_)); exact HO_264000.out))) (Kd.R_lt (by (with_reducible repeat (first | apply rA_ | apply rN_ | apply rD_)); exact HO_264001.out))) (Kd.R_lt (by (with_reducible repeat (first | apply rA_ | apply rN_ | apply rD_)); exact HO282.out))) (Kd.R_lt (by (with_reducible repeat (first | apply rA_ | apply rN_ | apply rD_)); exact HO285.out))) (below_size (by repeat (first | (with_reducible first | exact HB.out | apply bA_ | apply bN_ | apply bD_ | refine bS_ ?_ GE233.out | refine bS_ ?_ GE248.out | refine bS_ ?_ GE255.out | refine bS_ ?_ GE263.out) | exact HB.out)))); have n9_ := aM_ (Kd.R_lower (Kd.R_new' (Kd.R_new' (Kd.R_new' (Kd.R_new' (Kd.R_new' (Kd.R_new' (Kd.R_new' (Kd.R_new' ho1 (Kd.R_lt (by (with_reducible repeat (first | apply rA_ | apply rN_ | apply rD_)); exact HO_249000.out))) (Kd.R_lt (by (with_reducible repeat (first | apply rA_ | apply rN_ | apply rD_)); exact HO_249001.out))) (Kd.R_lt (by (with_reducible repeat (first | apply rA_ | apply rN_ | apply rD_)); exact HO_256000.out))) (Kd.R_lt (by (with_reducible repeat (first | apply rA_ | apply rN_ | apply rD_)); exact HO_256001.out))) (Kd.R_lt (by (with_reducible repeat (first | apply rA_ | apply rN_ | apply rD_)); exact HO_264000.out))) (Kd.R_lt (by (with_reducible repeat (first | apply rA_ | apply rN_ | apply rD_)); exact HO_264001.out))) (Kd.R_lt (by (with_reducible repeat (first | apply rA_ | apply rN_ | apply rD_)); exact HO282.out))) (Kd.R_lt (by (with_reducible repeat (first | apply rA_ | apply rN_ | apply rD_)); exact HO285.out))) (below_size (by repeat (first | (with_reducible first | exact HB.out | apply bA_ | apply bN_ | apply bD_ | refine bS_ ?_ GE233.out | refine bS_ ?_ GE248.out | refine bS_ ?_ GE255.out | refine bS_ ?_ GE263.out) | exact HB.out)))); have n10_ := aM_ (blk_below (g := gb233) (o := .cells #[.slice A0_0 l0_0.length c0_0, .slice A0_1 l0_1.length c0_1] 32 (0, 0)) (by (with_reducible repeat (first | refine kN_ ?_ _ | refine kD_ ?_ | refine kA_ ?_ _)); exact BK233.out) hb); have n11_ := aM_ (blk_below (g := gb248) (o := .cells #[.slice Ao21 t241.length co21, .slice Ao24 t244.length co24] 34 (0, 0)) (by (with_reducible repeat (first | refine kN_ ?_ _ | refine kD_ ?_ | refine kA_ ?_ _)); exact BK248.out) hb); have n12_ := aM_ (blk_below (g := gb255) (o := .cells #[.slice Ao28 t273.length co28, .slice Ao32 t274.length co32] 34 (0, 0)) (by (with_reducible repeat (first | refine kN_ ?_ _ | refine kD_ ?_ | refine kA_ ?_ _)); exact BK255.out) hb); have n13_ := aM_ (blk_below (g := gb263) (o := .cells #[.slice Ao35 t256.length co35, .slice Ao40 t259.length co40] 34 (0, 0)) (by (with_reducible repeat (first | refine kN_ ?_ _ | refine kD_ ?_ | refine kA_ ?_ _)); exact BK263.out) hb); have n14_ := aM_ (below_step (by repeat (first | (with_reducible first | exact HB.out | apply bA_ | apply bN_ | apply bD_ | refine bS_ ?_ GE233.out | refine bS_ ?_ GE248.out | refine bS_ ?_ GE255.out | refine bS_ ?_ GE263.out) | exact HB.out)) hb); clear HO_249000; clear HO_249001; clear HO_256000; clear HO_256001; clear HO_264000; clear HO_264001; clear HO282; clear HO285; clear BK233; clear BK248; clear BK255; clear BK263; clear HB; have HO_249000 := n0_; have HO_249001 := n1_; have HO_256000 := n2_; have HO_256001 := n3_; have HO_264000 := n4_; have HO_264001 := n5_; have HO282 := n6_; have HO285 := n7_; have HO288 := n8_; have HO291 := n9_; have BK233 := n10_; have BK248 := n11_; have BK255 := n12_; have BK263 := n13_; have HB := n14_; clear n0_ n1_ n2_ n3_ n4_ n5_ n6_ n7_ n8_ n9_ n10_ n11_ n12_ n13_ n14_; (try clear hb); (try clear hb2); (try clear hk); (try clear hi); (try clear ho0); (try clear ho1)) | ((with_reducible refine gate_dst (N := 12) rfl ?_); refine box_event ?hg (N := 12) ?hd (cs := #[.slice none 0 0, .slice none 0 0]) (t := 34) ?hr ?_; (case hd => rfl); (case hg => rfl); (case hr => first | (go_simp; done) | (go_simp; rfl)); intro gb293 hg w123 hbox hb; have n0_ := aM_ (Kd.R_below (by (with_reducible repeat (first | apply rA_ | apply rN_ | apply rD_)); exact HO_249000.out) hb); have n1_ := aM_ (Kd.R_below (by (with_reducible repeat (first | apply rA_ | apply rN_ | apply rD_)); exact HO_249001.out) hb); have n2_ := aM_ (Kd.R_below (by (with_reducible repeat (first | apply rA_ | apply rN_ | apply rD_)); exact HO_256000.out) hb); have n3_ := aM_ (Kd.R_below (by (with_reducible repeat (first | apply rA_ | apply rN_ | apply rD_)); exact HO_256001.out) hb); have n4_ := aM_ (Kd.R_below (by (with_reducible repeat (first | apply rA_ | apply rN_ | apply rD_)); exact HO_264000.out) hb); have n5_ := aM_ (Kd.R_below (by (with_reducible repeat (first | apply rA_ | apply rN_ | apply rD_)); exact HO_264001.out) hb); have n6_ := aM_ (Kd.R_below (by (with_reducible repeat (first | apply rA_ | apply rN_ | apply rD_)); exact HO282.out) hb); have n7_ := aM_ (Kd.R_below (by (with_reducible repeat (first | apply rA_ | apply rN_ | apply rD_)); exact HO285.out) hb); have n8_ := aM_ (Kd.R_below (by (with_reducible repeat (first | apply rA_ | apply rN_ | apply rD_)); exact HO288.out) hb); have n9_ := aM_ (Kd.R_below (by (with_reducible repeat (first | apply rA_ | apply rN_ | apply rD_)); exact HO291.out) hb); have n10_ := aM_ (blk_below (g := gb233) (o := .cells #[.slice A0_0 l0_0.length c0_0, .slice A0_1 l0_1.length c0_1] 32 (0, 0)) (by (with_reducible repeat (first | refine kN_ ?_ _ | refine kD_ ?_ | refine kA_ ?_ _)); exact BK233.out) hb); have n11_ := aM_ (blk_below (g := gb248) (o := .cells #[.slice Ao21 t241.length co21, .slice Ao24 t244.length co24] 34 (0, 0)) (by (with_reducible repeat (first | refine kN_ ?_ _ | refine kD_ ?_ | refine kA_ ?_ _)); exact BK248.out) hb); have n12_ := aM_ (blk_below (g := gb255) (o := .cells #[.slice Ao28 t273.length co28, .slice Ao32 t274.length co32] 34 (0, 0)) (by (with_reducible repeat (first | refine kN_ ?_ _ | refine kD_ ?_ | refine kA_ ?_ _)); exact BK255.out) hb); have n13_ := aM_ (blk_below (g := gb263) (o := .cells #[.slice Ao35 t256.length co35, .slice Ao40 t259.length co40] 34 (0, 0)) (by (with_reducible repeat (first | refine kN_ ?_ _ | refine kD_ ?_ | refine kA_ ?_ _)); exact BK263.out) hb); have n14_ := aM_ (below_step (by repeat (first | (with_reducible first | exact HB.out | apply bA_ | apply bN_ | apply bD_ | refine bS_ ?_ GE233.out | refine bS_ ?_ GE248.out | refine bS_ ?_ GE255.out | refine bS_ ?_ GE263.out) | exact HB.out)) hb); have n15_ := aM_ (hbox); have n16_ := aM_ ((by rw [hg]; exact (below_size (by repeat (first | (with_reducible first | exact HB.out | apply bA_ | apply bN_ | apply bD_ | refine bS_ ?_ GE233.out | refine bS_ ?_ GE248.out | refine bS_ ?_ GE255.out | refine bS_ ?_ GE263.out) | exact HB.out))) : w.heap.size ≤ gb293)); have n17_ := aM_ ((by rw [hg]; exact (below_size (by repeat (first | (with_reducible first | exact HB.out | apply bA_ | apply bN_ | apply bD_ | refine bS_ ?_ GE233.out | refine bS_ ?_ GE248.out | refine bS_ ?_ GE255.out | refine bS_ ?_ GE263.out) | exact HB.out))) : w.heap.size ≤ gb293)); have n18_ := aM_ ((by rw [hg]; exact Nat.ne_of_lt (blk_lt (g := gb233) (o := .cells #[.slice A0_0 l0_0.length c0_0, .slice A0_1 l0_1.length c0_1] 32 (0, 0)) (by (with_reducible repeat (first | refine kN_ ?_ _ | refine kD_ ?_ | refine kA_ ?_ _)); exact BK233.out)) : gb233 ≠ gb293)); have n19_ := aM_ ((by rw [hg]; exact Nat.ne_of_gt (blk_lt (g := gb233) (o := .cells #[.slice A0_0 l0_0.length c0_0, .slice A0_1 l0_1.length c0_1] 32 (0, 0)) (by (with_reducible repeat (first | refine kN_ ?_ _ | refine kD_ ?_ | refine kA_ ?_ _)); exact BK233.out)) : gb293 ≠ gb233)); have n20_ := aM_ ((by rw [hg]; exact Nat.ne_of_lt (blk_lt (g := gb248) (o := .cells #[.slice Ao21 t241.length co21, .slice Ao24 t244.length co24] 34 (0, 0)) (by (with_reducible repeat (first | refine kN_ ?_ _ | refine kD_ ?_ | refine kA_ ?_ _)); exact BK248.out)) : gb248 ≠ gb293)); have n21_ := aM_ ((by rw [hg]; exact Nat.ne_of_gt (blk_lt (g := gb248) (o := .cells #[.slice Ao21 t241.length co21, .slice Ao24 t244.length co24] 34 (0, 0)) (by (with_reducible repeat (first | refine kN_ ?_ _ | refine kD_ ?_ | refine kA_ ?_ _)); exact BK248.out)) : gb293 ≠ gb248)); have n22_ := aM_ ((by rw [hg]; exact Nat.ne_of_lt (blk_lt (g := gb255) (o := .cells #[.slice Ao28 t273.length co28, .slice Ao32 t274.length co32] 34 (0, 0)) (by (with_reducible repeat (first | refine kN_ ?_ _ | refine kD_ ?_ | refine kA_ ?_ _)); exact BK255.out)) : gb255 ≠ gb293)); have n23_ := aM_ ((by rw [hg]; exact Nat.ne_of_gt (blk_lt (g := gb255) (o := .cells #[.slice Ao28 t273.length co28, .slice Ao32 t274.length co32] 34 (0, 0)) (by (with_reducible repeat (first | refine kN_ ?_ _ | refine kD_ ?_ | refine kA_ ?_ _)); exact BK255.out)) : gb293 ≠ gb255)); have n24_ := aM_ ((by rw [hg]; exact Nat.ne_of_lt (blk_lt (g := gb263) (o := .cells #[.slice Ao35 t256.length co35, .slice Ao40 t259.length co40] 34 (0, 0)) (by (with_reducible repeat (first | refine kN_ ?_ _ | refine kD_ ?_ | refine kA_ ?_ _)); exact BK263.out)) : gb263 ≠ gb293)); have n25_ := aM_ ((by rw [hg]; exact Nat.ne_of_gt (blk_lt (g := gb263) (o := .cells #[.slice Ao35 t256.length co35, .slice Ao40 t259.length co40] 34 (0, 0)) (by (with_reducible repeat (first | refine kN_ ?_ _ | refine kD_ ?_ | refine kA_ ?_ _)); exact BK263.out)) : gb293 ≠ gb263)); clear HO_249000; clear HO_249001; clear HO_256000; clear HO_256001; clear HO_264000; clear HO_264001; clear HO282; clear HO285; clear HO288; clear HO291; clear BK233; clear BK248; clear BK255; clear BK263; clear HB; have HO_249000 := n0_; have HO_249001 := n1_; have HO_256000 := n2_; have HO_256001 := n3_; have HO_264000 := n4_; have HO_264001 := n5_; have HO282 := n6_; have HO285 := n7_; have HO288 := n8_; have HO291 := n9_; have BK233 := n10_; have BK248 := n11_; have BK255 := n12_; have BK263 := n13_; have HB := n14_; have BK293 := n15_; have GW293 := n16_; have GE293 := n17_; have NB233_293 := n18_; have NB293_233 := n19_; have NB248_293 := n20_; have NB293_248 := n21_; have NB255_293 := n22_; have NB293_255 := n23_; have NB263_293 := n24_; have NB293_263 := n25_; clear n0_ n1_ n2_ n3_ n4_ n5_ n6_ n7_ n8_ n9_ n10_ n11_ n12_ n13_ n14_ n15_ n16_ n17_ n18_ n19_ n20_ n21_ n22_ n23_ n24_ n25_; clear hb hbox hg; obtain ⟨Ao124, co124, eo124⟩ := Kd.R_slice HO288.out; subst eo124; have hnb125 := NB293_233.out; have hnc125 := NB233_293.out; have hnb126 := NB293_248.out; have hnc126 := NB248_293.out; have hnb127 := NB293_255.out; have hnc127 := NB255_293.out; have hnb128 := NB293_263.out; have hnc128 := NB263_293.out; have hcz129_0 : w123.cell? ⟨gb293, 0, none⟩ = some (.slice none 0 0) := (blk_cell BK293.out 0).trans rfl; have hcz129_1 : w123.cell? ⟨gb293, 1, none⟩ = some (.slice none 0 0) := (blk_cell BK293.out 1).trans rfl; have hfz129_0 := blk_frozen BK293.out 0; have hfz129_1 := blk_frozen BK293.out 1; obtain ⟨Ao130, co130, eo130⟩ := Kd.R_slice HO291.out; subst eo130))
           (try simp only [Act.put, List.setIfInBounds_toArray, List.set_cons_zero, List.set_cons_succ])
           go_cut [87] (fun v87 wc => ∃ (kq : Nat) (x87_107 : Bool), v87 = .bool x87_107 ∧ Aside0 (laws_FnExactNormalStream.j2 kq t276 x87_107 t277 t278 = some r) ∧ Aside0 (kq ≤ kj63) ∧ Aside0 (Kd.R (Kd.int .i8) 69 wc w.heap.size (fun k_ => some k_ ≠ ((.slice Ao24 t244.length co24) : Value).ownBlock ∧ some k_ ≠ ((.slice Ao28 t273.length co28) : Value).ownBlock ∧ some k_ ≠ ((.slice Ao32 t274.length co32) : Value).ownBlock ∧ some k_ ≠ ((.slice Ao35 t256.length co35) : Value).ownBlock ∧ some k_ ≠ ((.slice Ao40 t259.length co40) : Value).ownBlock ∧ some k_ ≠ ((.slice Ao124 t286.length co124) : Value).ownBlock ∧ some k_ ≠ ((.slice Ao130 t289.length co130) : Value).ownBlock) (.slice Ao21 t241.length co21) t241) ∧ Aside0 (Kd.R (Kd.int .i8) 69 wc w.heap.size (fun k_ => some k_ ≠ ((.slice Ao21 t241.length co21) : Value).ownBlock ∧ some k_ ≠ ((.slice Ao28 t273.length co28) : Value).ownBlock ∧ some k_ ≠ ((.slice Ao32 t274.length co32) : Value).ownBlock ∧ some k_ ≠ ((.slice Ao35 t256.length co35) : Value).ownBlock ∧ some k_ ≠ ((.slice Ao40 t259.length co40) : Value).ownBlock ∧ some k_ ≠ ((.slice Ao124 t286.length co124) : Value).ownBlock ∧ some k_ ≠ ((.slice Ao130 t289.length co130) : Value).ownBlock) (.slice Ao24 t244.length co24) t244) ∧ Aside0 (Kd.R (Kd.int .i8) 69 wc w.heap.size (fun k_ => some k_ ≠ ((.slice Ao21 t241.length co21) : Value).ownBlock ∧ some k_ ≠ ((.slice Ao24 t244.length co24) : Value).ownBlock ∧ some k_ ≠ ((.slice Ao32 t274.length co32) : Value).ownBlock ∧ some k_ ≠ ((.slice Ao35 t256.length co35) : Value).ownBlock ∧ some k_ ≠ ((.slice Ao40 t259.length co40) : Value).ownBlock ∧ some k_ ≠ ((.slice Ao124 t286.length co124) : Value).ownBlock ∧ some k_ ≠ ((.slice Ao130 t289.length co130) : Value).ownBlock) (.slice Ao28 t273.length co28) t273) ∧ Aside0 (Kd.R (Kd.int .i8) 69 wc w.heap.size (fun k_ => some k_ ≠ ((.slice Ao21 t241.length co21) : Value).ownBlock ∧ some k_ ≠ ((.slice Ao24 t244.length co24) : Value).ownBlock ∧ some k_ ≠ ((.slice Ao28 t273.length co28) : Value).ownBlock ∧ some k_ ≠ ((.slice Ao35 t256.length co35) : Value).ownBlock ∧ some k_ ≠ ((.slice Ao40 t259.length co40) : Value).ownBlock ∧ some k_ ≠ ((.slice Ao124 t286.length co124) : Value).ownBlock ∧ some k_ ≠ ((.slice Ao130 t289.length co130) : Value).ownBlock) (.slice Ao32 t274.length co32) t274) ∧ Aside0 (Kd.R (Kd.int .i8) 69 wc w.heap.size (fun k_ => some k_ ≠ ((.slice Ao21 t241.length co21) : Value).ownBlock ∧ some k_ ≠ ((.slice Ao24 t244.length co24) : Value).ownBlock ∧ some k_ ≠ ((.slice Ao28 t273.length co28) : Value).ownBlock ∧ some k_ ≠ ((.slice Ao32 t274.length co32) : Value).ownBlock ∧ some k_ ≠ ((.slice Ao40 t259.length co40) : Value).ownBlock ∧ some k_ ≠ ((.slice Ao124 t286.length co124) : Value).ownBlock ∧ some k_ ≠ ((.slice Ao130 t289.length co130) : Value).ownBlock) (.slice Ao35 t256.length co35) t277) ∧ Aside0 (Kd.R (Kd.int .i8) 69 wc w.heap.size (fun k_ => some k_ ≠ ((.slice Ao21 t241.length co21) : Value).ownBlock ∧ some k_ ≠ ((.slice Ao24 t244.length co24) : Value).ownBlock ∧ some k_ ≠ ((.slice Ao28 t273.length co28) : Value).ownBlock ∧ some k_ ≠ ((.slice Ao32 t274.length co32) : Value).ownBlock ∧ some k_ ≠ ((.slice Ao35 t256.length co35) : Value).ownBlock ∧ some k_ ≠ ((.slice Ao124 t286.length co124) : Value).ownBlock ∧ some k_ ≠ ((.slice Ao130 t289.length co130) : Value).ownBlock) (.slice Ao40 t259.length co40) t278) ∧ Aside0 (Kd.R (Kd.int .i8) 69 wc w.heap.size (fun k_ => some k_ ≠ ((.slice Ao21 t241.length co21) : Value).ownBlock ∧ some k_ ≠ ((.slice Ao24 t244.length co24) : Value).ownBlock ∧ some k_ ≠ ((.slice Ao28 t273.length co28) : Value).ownBlock ∧ some k_ ≠ ((.slice Ao32 t274.length co32) : Value).ownBlock ∧ some k_ ≠ ((.slice Ao35 t256.length co35) : Value).ownBlock ∧ some k_ ≠ ((.slice Ao40 t259.length co40) : Value).ownBlock ∧ some k_ ≠ ((.slice Ao130 t289.length co130) : Value).ownBlock) (.slice Ao124 t286.length co124) t286) ∧ Aside0 (Kd.R (Kd.int .i8) 69 wc w.heap.size (fun k_ => some k_ ≠ ((.slice Ao21 t241.length co21) : Value).ownBlock ∧ some k_ ≠ ((.slice Ao24 t244.length co24) : Value).ownBlock ∧ some k_ ≠ ((.slice Ao28 t273.length co28) : Value).ownBlock ∧ some k_ ≠ ((.slice Ao32 t274.length co32) : Value).ownBlock ∧ some k_ ≠ ((.slice Ao35 t256.length co35) : Value).ownBlock ∧ some k_ ≠ ((.slice Ao40 t259.length co40) : Value).ownBlock ∧ some k_ ≠ ((.slice Ao124 t286.length co124) : Value).ownBlock) (.slice Ao130 t289.length co130) t289) ∧ Aside0 (wc.heap[gb233]? = some (.cells #[(.slice A0_0 l0_0.length c0_0), (.slice A0_1 l0_1.length c0_1)] 32 (0, 0))) ∧ Aside0 (wc.heap[gb248]? = some (.cells #[(.slice Ao21 t241.length co21), (.slice Ao24 t244.length co24)] 34 (0, 0))) ∧ Aside0 (wc.heap[gb255]? = some (.cells #[(.slice Ao28 t273.length co28), (.slice Ao32 t274.length co32)] 34 (0, 0))) ∧ Aside0 (wc.heap[gb263]? = some (.cells #[(.slice Ao35 t256.length co35), (.slice Ao40 t259.length co40)] 34 (0, 0))) ∧ Aside0 (wc.heap[gb293]? = some (.cells #[(.slice Ao124 t286.length co124), (.slice Ao130 t289.length co130)] 34 (0, 0))) ∧ Aside0 (Below w.heap.size w wc))
           case first =>
            have H := HC108.out
            clear HC108
            replace H := Option.bind_eq_some_iff.mp H
            obtain ⟨t294, A1310, H⟩ := H
            replace H : (if t294 = true then (laws_FnExactNormalStream.j2 kj63 t276 (t292 != t247) t277 t278) else (laws_FnExactNormalStream.j2 kj63 t276 true t277 t278)) = some r := H
            have A131 := aM_ A1310
            clear A1310
            by_cases c132 : t294 = true
            ·subst c132
             have H1 : (laws_FnExactNormalStream.j2 kj63 t276 (t292 != t247) t277 t278) = some r := by rw [if_pos rfl] at H; exact H
             clear H
             have H := H1
             clear H1
             have H' := aM_ H
             clear H
             have hnb133 := NB293_233.out
             have hnc133 := NB233_293.out
             have hnb134 := NB293_248.out
             have hnc134 := NB248_293.out
             have hnb135 := NB293_255.out
             have hnc135 := NB255_293.out
             have hnb136 := NB293_263.out
             have hnc136 := NB263_293.out
             have hcz137_0 : w123.cell? ⟨gb293, 0, none⟩ = some (.slice none 0 0) := (blk_cell BK293.out 0).trans rfl
             have hcz137_1 : w123.cell? ⟨gb293, 1, none⟩ = some (.slice none 0 0) := (blk_cell BK293.out 1).trans rfl
             have hfz137_0 := blk_frozen BK293.out 0
             have hfz137_1 := blk_frozen BK293.out 1
             have hnb138 := NB248_233.out
             have hnc138 := NB233_248.out
             have hnb139 := NB248_255.out
             have hnc139 := NB255_248.out
             have hnb140 := NB248_263.out
             have hnc140 := NB263_248.out
             have hcz141_0 : w123.cell? ⟨gb248, 0, none⟩ = some (.slice Ao21 t241.length co21) := (blk_cell BK248.out 0).trans rfl
             have hcz141_1 : w123.cell? ⟨gb248, 1, none⟩ = some (.slice Ao24 t244.length co24) := (blk_cell BK248.out 1).trans rfl
             have hfz141_0 := blk_frozen BK248.out 0
             have hfz141_1 := blk_frozen BK248.out 1
             go_wp2_with (first | ((with_reducible refine gate_callee (f := 21) rfl ?_); refine goesL_ (some 81) rfl rfl Try.func21 (by kernel_rfl) rfl #[.agg #[.slice Ao124 t286.length co124, .slice Ao130 t289.length co130], .agg #[.slice Ao21 t241.length co21, .slice Ao24 t244.length co24]] rfl (by (try simp only [List.map_toArray, List.map_cons, List.map_nil]); first | done | rfl | (simp only [List.length_drop, List.length_take]; rfl)) ?_; (with_reducible refine (laws_eqStream.calls kj63 _ _ t286 _ _ t289 _ _ t241 _ _ t244 true _ ?side1 ?side2 ?side3 ?side4 ?side5 ?side6 ?side7 ?side8 A131.out).mono ?_); (case side1 => refine (Kd.R_reads' (e := 69) (base := w.heap.size) (ok := fun k_ => ((((((((some k_ ≠ (.slice Ao130 t289.length co130 : Value).ownBlock ∧ some k_ ≠ (.slice Ao21 t241.length co21 : Value).ownBlock) ∧ some k_ ≠ (.slice Ao24 t244.length co24 : Value).ownBlock) ∧ some k_ ≠ (.slice Ao28 t273.length co28 : Value).ownBlock) ∧ some k_ ≠ (.slice Ao32 t274.length co32 : Value).ownBlock) ∧ some k_ ≠ (.slice Ao35 t256.length co35 : Value).ownBlock) ∧ some k_ ≠ (.slice Ao40 t259.length co40 : Value).ownBlock) ∧ some k_ ≠ (.slice Ao120 t280.length co120 : Value).ownBlock) ∧ some k_ ≠ (.slice Ao121 t283.length co121 : Value).ownBlock)) (n := t286.length) (c := co124) ?_).2.2; exact (by (with_reducible repeat (first | apply rA_ | apply rN_ | apply rD_)); exact (Kd.R_mono (Kd.R_far (p := ⟨gb293, 1, none⟩) (Kd.R_far (p := ⟨gb293, 0, none⟩) (Kd.R_types HO288.out BK293.out (by decide)) (fun _ hk => hk.2) (.slice Ao124 t286.length co124)) (fun _ hk => hk.2) (.slice Ao130 t289.length co130)) (fun _ h_ => h_.1)))); (case side2 => exact (Kd.R_reads' HO288.out).2.1); (case side3 => refine (Kd.R_reads' (e := 69) (base := w.heap.size) (ok := fun k_ => ((((((((some k_ ≠ (.slice Ao124 t286.length co124 : Value).ownBlock ∧ some k_ ≠ (.slice Ao21 t241.length co21 : Value).ownBlock) ∧ some k_ ≠ (.slice Ao24 t244.length co24 : Value).ownBlock) ∧ some k_ ≠ (.slice Ao28 t273.length co28 : Value).ownBlock) ∧ some k_ ≠ (.slice Ao32 t274.length co32 : Value).ownBlock) ∧ some k_ ≠ (.slice Ao35 t256.length co35 : Value).ownBlock) ∧ some k_ ≠ (.slice Ao40 t259.length co40 : Value).ownBlock) ∧ some k_ ≠ (.slice Ao120 t280.length co120 : Value).ownBlock) ∧ some k_ ≠ (.slice Ao121 t283.length co121 : Value).ownBlock)) (n := t289.length) (c := co130) ?_).2.2; exact (by (with_reducible repeat (first | apply rA_ | apply rN_ | apply rD_)); exact (Kd.R_mono (Kd.R_far (p := ⟨gb293, 1, none⟩) (Kd.R_far (p := ⟨gb293, 0, none⟩) (Kd.R_types HO291.out BK293.out (by decide)) (fun _ hk => hk.2) (.slice Ao124 t286.length co124)) (fun _ hk => hk.2) (.slice Ao130 t289.length co130)) (fun _ h_ => h_.1)))); (case side4 => exact (Kd.R_reads' HO291.out).2.1); (case side5 => refine (Kd.R_reads' (e := 69) (base := w.heap.size) (ok := fun k_ => (((((some k_ ≠ (.slice Ao24 t244.length co24 : Value).ownBlock ∧ (some k_ ≠ (.slice Ao28 t273.length co28 : Value).ownBlock ∧ (some k_ ≠ (.slice Ao32 t274.length co32 : Value).ownBlock ∧ (some k_ ≠ (.slice Ao35 t256.length co35 : Value).ownBlock ∧ some k_ ≠ (.slice Ao40 t259.length co40 : Value).ownBlock)))) ∧ some k_ ≠ (.slice Ao120 t280.length co120 : Value).ownBlock) ∧ some k_ ≠ (.slice Ao121 t283.length co121 : Value).ownBlock) ∧ some k_ ≠ (.slice Ao124 t286.length co124 : Value).ownBlock) ∧ some k_ ≠ (.slice Ao130 t289.length co130 : Value).ownBlock)) (n := t241.length) (c := co21) ?_).2.2; exact (by (with_reducible repeat (first | apply rA_ | apply rN_ | apply rD_)); exact (Kd.R_mono (Kd.R_far (p := ⟨gb293, 1, none⟩) (Kd.R_far (p := ⟨gb293, 0, none⟩) (Kd.R_types HO_249000.out BK293.out (by decide)) (fun _ hk => hk.2) (.slice Ao124 t286.length co124)) (fun _ hk => hk.2) (.slice Ao130 t289.length co130)) (fun _ h_ => h_.1)))); (case side6 => exact (Kd.R_reads' HO_249000.out).2.1); (case side7 => refine (Kd.R_reads' (e := 69) (base := w.heap.size) (ok := fun k_ => (((((some k_ ≠ (.slice Ao21 t241.length co21 : Value).ownBlock ∧ (some k_ ≠ (.slice Ao28 t273.length co28 : Value).ownBlock ∧ (some k_ ≠ (.slice Ao32 t274.length co32 : Value).ownBlock ∧ (some k_ ≠ (.slice Ao35 t256.length co35 : Value).ownBlock ∧ some k_ ≠ (.slice Ao40 t259.length co40 : Value).ownBlock)))) ∧ some k_ ≠ (.slice Ao120 t280.length co120 : Value).ownBlock) ∧ some k_ ≠ (.slice Ao121 t283.length co121 : Value).ownBlock) ∧ some k_ ≠ (.slice Ao124 t286.length co124 : Value).ownBlock) ∧ some k_ ≠ (.slice Ao130 t289.length co130 : Value).ownBlock)) (n := t244.length) (c := co24) ?_).2.2; exact (by (with_reducible repeat (first | apply rA_ | apply rN_ | apply rD_)); exact (Kd.R_mono (Kd.R_far (p := ⟨gb293, 1, none⟩) (Kd.R_far (p := ⟨gb293, 0, none⟩) (Kd.R_types HO_249001.out BK293.out (by decide)) (fun _ hk => hk.2) (.slice Ao124 t286.length co124)) (fun _ hk => hk.2) (.slice Ao130 t289.length co130)) (fun _ h_ => h_.1)))); (case side8 => exact (Kd.R_reads' HO_249001.out).2.1); rintro e w142 ⟨rfl, hb⟩; refine ⟨_, rfl, ?_⟩; have n0_ := aM_ (Kd.R_below (by (with_reducible repeat (first | apply rA_ | apply rN_ | apply rD_)); exact (Kd.R_mono (Kd.R_far (p := ⟨gb293, 1, none⟩) (Kd.R_far (p := ⟨gb293, 0, none⟩) (Kd.R_types HO_249000.out BK293.out (by decide)) (fun _ hk => hk.2) (.slice Ao124 t286.length co124)) (fun _ hk => hk.2) (.slice Ao130 t289.length co130)) (fun _ h_ => h_.1))) hb); have n1_ := aM_ (Kd.R_below (by (with_reducible repeat (first | apply rA_ | apply rN_ | apply rD_)); exact (Kd.R_mono (Kd.R_far (p := ⟨gb293, 1, none⟩) (Kd.R_far (p := ⟨gb293, 0, none⟩) (Kd.R_types HO_249001.out BK293.out (by decide)) (fun _ hk => hk.2) (.slice Ao124 t286.length co124)) (fun _ hk => hk.2) (.slice Ao130 t289.length co130)) (fun _ h_ => h_.1))) hb); have n2_ := aM_ (Kd.R_below (by (with_reducible repeat (first | apply rA_ | apply rN_ | apply rD_)); exact (Kd.R_mono (Kd.R_far (p := ⟨gb293, 1, none⟩) (Kd.R_far (p := ⟨gb293, 0, none⟩) (Kd.R_types HO_256000.out BK293.out (by decide)) (fun _ hk => hk.2) (.slice Ao124 t286.length co124)) (fun _ hk => hk.2) (.slice Ao130 t289.length co130)) (fun _ h_ => h_.1))) hb); have n3_ := aM_ (Kd.R_below (by (with_reducible repeat (first | apply rA_ | apply rN_ | apply rD_)); exact (Kd.R_mono (Kd.R_far (p := ⟨gb293, 1, none⟩) (Kd.R_far (p := ⟨gb293, 0, none⟩) (Kd.R_types HO_256001.out BK293.out (by decide)) (fun _ hk => hk.2) (.slice Ao124 t286.length co124)) (fun _ hk => hk.2) (.slice Ao130 t289.length co130)) (fun _ h_ => h_.1))) hb); have n4_ := aM_ (Kd.R_below (by (with_reducible repeat (first | apply rA_ | apply rN_ | apply rD_)); exact (Kd.R_mono (Kd.R_far (p := ⟨gb293, 1, none⟩) (Kd.R_far (p := ⟨gb293, 0, none⟩) (Kd.R_types HO_264000.out BK293.out (by decide)) (fun _ hk => hk.2) (.slice Ao124 t286.length co124)) (fun _ hk => hk.2) (.slice Ao130 t289.length co130)) (fun _ h_ => h_.1))) hb); have n5_ := aM_ (Kd.R_below (by (with_reducible repeat (first | apply rA_ | apply rN_ | apply rD_)); exact (Kd.R_mono (Kd.R_far (p := ⟨gb293, 1, none⟩) (Kd.R_far (p := ⟨gb293, 0, none⟩) (Kd.R_types HO_264001.out BK293.out (by decide)) (fun _ hk => hk.2) (.slice Ao124 t286.length co124)) (fun _ hk => hk.2) (.slice Ao130 t289.length co130)) (fun _ h_ => h_.1))) hb); have n6_ := aM_ (Kd.R_below (by (with_reducible repeat (first | apply rA_ | apply rN_ | apply rD_)); exact (Kd.R_mono (Kd.R_far (p := ⟨gb293, 1, none⟩) (Kd.R_far (p := ⟨gb293, 0, none⟩) (Kd.R_types HO282.out BK293.out (by decide)) (fun _ hk => hk.2) (.slice Ao124 t286.length co124)) (fun _ hk => hk.2) (.slice Ao130 t289.length co130)) (fun _ h_ => h_.1))) hb); have n7_ := aM_ (Kd.R_below (by (with_reducible repeat (first | apply rA_ | apply rN_ | apply rD_)); exact (Kd.R_mono (Kd.R_far (p := ⟨gb293, 1, none⟩) (Kd.R_far (p := ⟨gb293, 0, none⟩) (Kd.R_types HO285.out BK293.out (by decide)) (fun _ hk => hk.2) (.slice Ao124 t286.length co124)) (fun _ hk => hk.2) (.slice Ao130 t289.length co130)) (fun _ h_ => h_.1))) hb); have n8_ := aM_ (Kd.R_below (by (with_reducible repeat (first | apply rA_ | apply rN_ | apply rD_)); exact (Kd.R_mono (Kd.R_far (p := ⟨gb293, 1, none⟩) (Kd.R_far (p := ⟨gb293, 0, none⟩) (Kd.R_types HO288.out BK293.out (by decide)) (fun _ hk => hk.2) (.slice Ao124 t286.length co124)) (fun _ hk => hk.2) (.slice Ao130 t289.length co130)) (fun _ h_ => h_.1))) hb); have n9_ := aM_ (Kd.R_below (by (with_reducible repeat (first | apply rA_ | apply rN_ | apply rD_)); exact (Kd.R_mono (Kd.R_far (p := ⟨gb293, 1, none⟩) (Kd.R_far (p := ⟨gb293, 0, none⟩) (Kd.R_types HO291.out BK293.out (by decide)) (fun _ hk => hk.2) (.slice Ao124 t286.length co124)) (fun _ hk => hk.2) (.slice Ao130 t289.length co130)) (fun _ h_ => h_.1))) hb); have n10_ := aM_ (blk_below (g := gb233) (o := .cells #[.slice A0_0 l0_0.length c0_0, .slice A0_1 l0_1.length c0_1] 32 (0, 0)) (by (with_reducible repeat (first | refine kN_ ?_ _ | refine kD_ ?_ | refine kA_ ?_ _)); refine blk_far ?_ NB233_293.out _; (with_reducible repeat (first | refine kN_ ?_ _ | refine kD_ ?_ | refine kA_ ?_ _)); refine blk_far ?_ NB233_293.out _; (with_reducible repeat (first | refine kN_ ?_ _ | refine kD_ ?_ | refine kA_ ?_ _)); exact BK233.out) hb); have n11_ := aM_ (blk_below (g := gb248) (o := .cells #[.slice Ao21 t241.length co21, .slice Ao24 t244.length co24] 34 (0, 0)) (by (with_reducible repeat (first | refine kN_ ?_ _ | refine kD_ ?_ | refine kA_ ?_ _)); refine blk_far ?_ NB248_293.out _; (with_reducible repeat (first | refine kN_ ?_ _ | refine kD_ ?_ | refine kA_ ?_ _)); refine blk_far ?_ NB248_293.out _; (with_reducible repeat (first | refine kN_ ?_ _ | refine kD_ ?_ | refine kA_ ?_ _)); exact BK248.out) hb); have n12_ := aM_ (blk_below (g := gb255) (o := .cells #[.slice Ao28 t273.length co28, .slice Ao32 t274.length co32] 34 (0, 0)) (by (with_reducible repeat (first | refine kN_ ?_ _ | refine kD_ ?_ | refine kA_ ?_ _)); refine blk_far ?_ NB255_293.out _; (with_reducible repeat (first | refine kN_ ?_ _ | refine kD_ ?_ | refine kA_ ?_ _)); refine blk_far ?_ NB255_293.out _; (with_reducible repeat (first | refine kN_ ?_ _ | refine kD_ ?_ | refine kA_ ?_ _)); exact BK255.out) hb); have n13_ := aM_ (blk_below (g := gb263) (o := .cells #[.slice Ao35 t256.length co35, .slice Ao40 t259.length co40] 34 (0, 0)) (by (with_reducible repeat (first | refine kN_ ?_ _ | refine kD_ ?_ | refine kA_ ?_ _)); refine blk_far ?_ NB263_293.out _; (with_reducible repeat (first | refine kN_ ?_ _ | refine kD_ ?_ | refine kA_ ?_ _)); refine blk_far ?_ NB263_293.out _; (with_reducible repeat (first | refine kN_ ?_ _ | refine kD_ ?_ | refine kA_ ?_ _)); exact BK263.out) hb); have n14_ := aM_ (blk_below (g := gb293) (o := .cells #[.slice Ao124 t286.length co124, .slice Ao130 t289.length co130] 34 (0, 0)) (by (with_reducible repeat (first | refine kN_ ?_ _ | refine kD_ ?_ | refine kA_ ?_ _)); refine blk_put (cs := #[.slice Ao124 t286.length co124, .slice none 0 0]) ?_ 1 _ rfl; (with_reducible repeat (first | refine kN_ ?_ _ | refine kD_ ?_ | refine kA_ ?_ _)); refine blk_put (cs := #[.slice none 0 0, .slice none 0 0]) ?_ 0 _ rfl; (with_reducible repeat (first | refine kN_ ?_ _ | refine kD_ ?_ | refine kA_ ?_ _)); exact BK293.out) hb); have n15_ := aM_ (below_step (by repeat (first | (with_reducible first | exact HB.out | apply bA_ | apply bN_ | apply bD_ | refine bS_ ?_ GE233.out | refine bS_ ?_ GE248.out | refine bS_ ?_ GE255.out | refine bS_ ?_ GE263.out | refine bS_ ?_ GE293.out) | exact HB.out)) hb); clear HO_249000; clear HO_249001; clear HO_256000; clear HO_256001; clear HO_264000; clear HO_264001; clear HO282; clear HO285; clear HO288; clear HO291; clear BK233; clear BK248; clear BK255; clear BK263; clear BK293; clear HB; have HO_249000 := n0_; have HO_249001 := n1_; have HO_256000 := n2_; have HO_256001 := n3_; have HO_264000 := n4_; have HO_264001 := n5_; have HO282 := n6_; have HO285 := n7_; have HO288 := n8_; have HO291 := n9_; have BK233 := n10_; have BK248 := n11_; have BK255 := n12_; have BK263 := n13_; have BK293 := n14_; have HB := n15_; clear n0_ n1_ n2_ n3_ n4_ n5_ n6_ n7_ n8_ n9_ n10_ n11_ n12_ n13_ n14_ n15_; (try clear hb); (try clear hb2); (try clear hk); (try clear hi)))
             go_meet
             case rel => exact ⟨_, ((t292 != t247)), (by first | rfl | (simp; done) | (simp [*]; done)), H', ⟨by have := HJ10.out; have := HJ63.out; first | omega | exact Nat.le_refl _⟩, ⟨by (try simp only [hl256000_63]); (try simp only [hl256001_63]); (with_reducible repeat (first | apply rA_ | apply rN_ | apply rD_)); exact Kd.R_mono HO_249000.out (fun _ hk => ⟨hk.1.1.1.1.1, ⟨hk.1.1.1.1.2.1, ⟨hk.1.1.1.1.2.2.1, ⟨hk.1.1.1.1.2.2.2.1, ⟨hk.1.1.1.1.2.2.2.2, ⟨hk.1.2, hk.2⟩⟩⟩⟩⟩⟩)⟩, ⟨by (try simp only [hl256000_63]); (try simp only [hl256001_63]); (with_reducible repeat (first | apply rA_ | apply rN_ | apply rD_)); exact Kd.R_mono HO_249001.out (fun _ hk => ⟨hk.1.1.1.1.1, ⟨hk.1.1.1.1.2.1, ⟨hk.1.1.1.1.2.2.1, ⟨hk.1.1.1.1.2.2.2.1, ⟨hk.1.1.1.1.2.2.2.2, ⟨hk.1.2, hk.2⟩⟩⟩⟩⟩⟩)⟩, ⟨by (try simp only [hl256000_63]); (try simp only [hl256001_63]); (with_reducible repeat (first | apply rA_ | apply rN_ | apply rD_)); exact Kd.R_mono HO_256000.out (fun _ hk => ⟨hk.1.1.1.1.1, ⟨hk.1.1.1.1.2.1, ⟨hk.1.1.1.1.2.2.1, ⟨hk.1.1.1.1.2.2.2.1, ⟨hk.1.1.1.1.2.2.2.2, ⟨hk.1.2, hk.2⟩⟩⟩⟩⟩⟩)⟩, ⟨by (try simp only [hl256000_63]); (try simp only [hl256001_63]); (with_reducible repeat (first | apply rA_ | apply rN_ | apply rD_)); exact Kd.R_mono HO_256001.out (fun _ hk => ⟨hk.1.1.1.1.1, ⟨hk.1.1.1.1.2.1, ⟨hk.1.1.1.1.2.2.1, ⟨hk.1.1.1.1.2.2.2.1, ⟨hk.1.1.1.1.2.2.2.2, ⟨hk.1.2, hk.2⟩⟩⟩⟩⟩⟩)⟩, ⟨by (try simp only [hl256000_63]); (try simp only [hl256001_63]); (with_reducible repeat (first | apply rA_ | apply rN_ | apply rD_)); exact Kd.R_mono HO_264000.out (fun _ hk => ⟨hk.1.1.1.1.1, ⟨hk.1.1.1.1.2.1, ⟨hk.1.1.1.1.2.2.1, ⟨hk.1.1.1.1.2.2.2.1, ⟨hk.1.1.1.1.2.2.2.2, ⟨hk.1.2, hk.2⟩⟩⟩⟩⟩⟩)⟩, ⟨by (try simp only [hl256000_63]); (try simp only [hl256001_63]); (with_reducible repeat (first | apply rA_ | apply rN_ | apply rD_)); exact Kd.R_mono HO_264001.out (fun _ hk => ⟨hk.1.1.1.1.1, ⟨hk.1.1.1.1.2.1, ⟨hk.1.1.1.1.2.2.1, ⟨hk.1.1.1.1.2.2.2.1, ⟨hk.1.1.1.1.2.2.2.2, ⟨hk.1.2, hk.2⟩⟩⟩⟩⟩⟩)⟩, ⟨by (try simp only [hl256000_63]); (try simp only [hl256001_63]); (with_reducible repeat (first | apply rA_ | apply rN_ | apply rD_)); exact Kd.R_mono HO288.out (fun _ hk => ⟨hk.1.1.1.1.1.1.1.2, ⟨hk.1.1.1.1.1.1.2, ⟨hk.1.1.1.1.1.2, ⟨hk.1.1.1.1.2, ⟨hk.1.1.1.2, ⟨hk.1.1.2, hk.1.1.1.1.1.1.1.1⟩⟩⟩⟩⟩⟩)⟩, ⟨by (try simp only [hl256000_63]); (try simp only [hl256001_63]); (with_reducible repeat (first | apply rA_ | apply rN_ | apply rD_)); exact Kd.R_mono HO291.out (fun _ hk => ⟨hk.1.1.1.1.1.1.1.2, ⟨hk.1.1.1.1.1.1.2, ⟨hk.1.1.1.1.1.2, ⟨hk.1.1.1.1.2, ⟨hk.1.1.1.2, ⟨hk.1.1.2, hk.1.1.1.1.1.1.1.1⟩⟩⟩⟩⟩⟩)⟩, ⟨by (try simp only [hl256000_63]); (try simp only [hl256001_63]); (with_reducible repeat (first | refine kN_ ?_ _ | refine kD_ ?_ | refine kA_ ?_ _)); exact BK233.out⟩, ⟨by (try simp only [hl256000_63]); (try simp only [hl256001_63]); (with_reducible repeat (first | refine kN_ ?_ _ | refine kD_ ?_ | refine kA_ ?_ _)); exact BK248.out⟩, ⟨by (try simp only [hl256000_63]); (try simp only [hl256001_63]); (with_reducible repeat (first | refine kN_ ?_ _ | refine kD_ ?_ | refine kA_ ?_ _)); exact BK255.out⟩, ⟨by (try simp only [hl256000_63]); (try simp only [hl256001_63]); (with_reducible repeat (first | refine kN_ ?_ _ | refine kD_ ?_ | refine kA_ ?_ _)); exact BK263.out⟩, ⟨by (try simp only [hl256000_63]); (try simp only [hl256001_63]); (with_reducible repeat (first | refine kN_ ?_ _ | refine kD_ ?_ | refine kA_ ?_ _)); exact BK293.out⟩, ⟨by repeat (first | (with_reducible first | exact HB.out | apply bA_ | apply bN_ | apply bD_ | refine bS_ ?_ GE233.out | refine bS_ ?_ GE248.out | refine bS_ ?_ GE255.out | refine bS_ ?_ GE263.out | refine bS_ ?_ GE293.out) | exact HB.out)⟩⟩
            ·replace c132 := Bool.eq_false_iff.mpr c132
             subst c132
             have H1 : (laws_FnExactNormalStream.j2 kj63 t276 true t277 t278) = some r := by rw [if_neg (show ¬ (false = true) by decide)] at H; exact H
             clear H
             have H := H1
             clear H1
             have H' := aM_ H
             clear H
             have hnb143 := NB293_233.out
             have hnc143 := NB233_293.out
             have hnb144 := NB293_248.out
             have hnc144 := NB248_293.out
             have hnb145 := NB293_255.out
             have hnc145 := NB255_293.out
             have hnb146 := NB293_263.out
             have hnc146 := NB263_293.out
             have hcz147_0 : w123.cell? ⟨gb293, 0, none⟩ = some (.slice none 0 0) := (blk_cell BK293.out 0).trans rfl
             have hcz147_1 : w123.cell? ⟨gb293, 1, none⟩ = some (.slice none 0 0) := (blk_cell BK293.out 1).trans rfl
             have hfz147_0 := blk_frozen BK293.out 0
             have hfz147_1 := blk_frozen BK293.out 1
             have hnb148 := NB248_233.out
             have hnc148 := NB233_248.out
             have hnb149 := NB248_255.out
             have hnc149 := NB255_248.out
             have hnb150 := NB248_263.out
             have hnc150 := NB263_248.out
             have hcz151_0 : w123.cell? ⟨gb248, 0, none⟩ = some (.slice Ao21 t241.length co21) := (blk_cell BK248.out 0).trans rfl
             have hcz151_1 : w123.cell? ⟨gb248, 1, none⟩ = some (.slice Ao24 t244.length co24) := (blk_cell BK248.out 1).trans rfl
             have hfz151_0 := blk_frozen BK248.out 0
             have hfz151_1 := blk_frozen BK248.out 1
             go_wp2_with (first | ((with_reducible refine gate_callee (f := 21) rfl ?_); refine goesL_ (some 81) rfl rfl Try.func21 (by kernel_rfl) rfl #[.agg #[.slice Ao124 t286.length co124, .slice Ao130 t289.length co130], .agg #[.slice Ao21 t241.length co21, .slice Ao24 t244.length co24]] rfl (by (try simp only [List.map_toArray, List.map_cons, List.map_nil]); first | done | rfl | (simp only [List.length_drop, List.length_take]; rfl)) ?_; (with_reducible refine (laws_eqStream.calls kj63 _ _ t286 _ _ t289 _ _ t241 _ _ t244 false _ ?side1 ?side2 ?side3 ?side4 ?side5 ?side6 ?side7 ?side8 A131.out).mono ?_); (case side1 => refine (Kd.R_reads' (e := 69) (base := w.heap.size) (ok := fun k_ => ((((((((some k_ ≠ (.slice Ao130 t289.length co130 : Value).ownBlock ∧ some k_ ≠ (.slice Ao21 t241.length co21 : Value).ownBlock) ∧ some k_ ≠ (.slice Ao24 t244.length co24 : Value).ownBlock) ∧ some k_ ≠ (.slice Ao28 t273.length co28 : Value).ownBlock) ∧ some k_ ≠ (.slice Ao32 t274.length co32 : Value).ownBlock) ∧ some k_ ≠ (.slice Ao35 t256.length co35 : Value).ownBlock) ∧ some k_ ≠ (.slice Ao40 t259.length co40 : Value).ownBlock) ∧ some k_ ≠ (.slice Ao120 t280.length co120 : Value).ownBlock) ∧ some k_ ≠ (.slice Ao121 t283.length co121 : Value).ownBlock)) (n := t286.length) (c := co124) ?_).2.2; exact (by (with_reducible repeat (first | apply rA_ | apply rN_ | apply rD_)); exact (Kd.R_mono (Kd.R_far (p := ⟨gb293, 1, none⟩) (Kd.R_far (p := ⟨gb293, 0, none⟩) (Kd.R_types HO288.out BK293.out (by decide)) (fun _ hk => hk.2) (.slice Ao124 t286.length co124)) (fun _ hk => hk.2) (.slice Ao130 t289.length co130)) (fun _ h_ => h_.1)))); (case side2 => exact (Kd.R_reads' HO288.out).2.1); (case side3 => refine (Kd.R_reads' (e := 69) (base := w.heap.size) (ok := fun k_ => ((((((((some k_ ≠ (.slice Ao124 t286.length co124 : Value).ownBlock ∧ some k_ ≠ (.slice Ao21 t241.length co21 : Value).ownBlock) ∧ some k_ ≠ (.slice Ao24 t244.length co24 : Value).ownBlock) ∧ some k_ ≠ (.slice Ao28 t273.length co28 : Value).ownBlock) ∧ some k_ ≠ (.slice Ao32 t274.length co32 : Value).ownBlock) ∧ some k_ ≠ (.slice Ao35 t256.length co35 : Value).ownBlock) ∧ some k_ ≠ (.slice Ao40 t259.length co40 : Value).ownBlock) ∧ some k_ ≠ (.slice Ao120 t280.length co120 : Value).ownBlock) ∧ some k_ ≠ (.slice Ao121 t283.length co121 : Value).ownBlock)) (n := t289.length) (c := co130) ?_).2.2; exact (by (with_reducible repeat (first | apply rA_ | apply rN_ | apply rD_)); exact (Kd.R_mono (Kd.R_far (p := ⟨gb293, 1, none⟩) (Kd.R_far (p := ⟨gb293, 0, none⟩) (Kd.R_types HO291.out BK293.out (by decide)) (fun _ hk => hk.2) (.slice Ao124 t286.length co124)) (fun _ hk => hk.2) (.slice Ao130 t289.length co130)) (fun _ h_ => h_.1)))); (case side4 => exact (Kd.R_reads' HO291.out).2.1); (case side5 => refine (Kd.R_reads' (e := 69) (base := w.heap.size) (ok := fun k_ => (((((some k_ ≠ (.slice Ao24 t244.length co24 : Value).ownBlock ∧ (some k_ ≠ (.slice Ao28 t273.length co28 : Value).ownBlock ∧ (some k_ ≠ (.slice Ao32 t274.length co32 : Value).ownBlock ∧ (some k_ ≠ (.slice Ao35 t256.length co35 : Value).ownBlock ∧ some k_ ≠ (.slice Ao40 t259.length co40 : Value).ownBlock)))) ∧ some k_ ≠ (.slice Ao120 t280.length co120 : Value).ownBlock) ∧ some k_ ≠ (.slice Ao121 t283.length co121 : Value).ownBlock) ∧ some k_ ≠ (.slice Ao124 t286.length co124 : Value).ownBlock) ∧ some k_ ≠ (.slice Ao130 t289.length co130 : Value).ownBlock)) (n := t241.length) (c := co21) ?_).2.2; exact (by (with_reducible repeat (first | apply rA_ | apply rN_ | apply rD_)); exact (Kd.R_mono (Kd.R_far (p := ⟨gb293, 1, none⟩) (Kd.R_far (p := ⟨gb293, 0, none⟩) (Kd.R_types HO_249000.out BK293.out (by decide)) (fun _ hk => hk.2) (.slice Ao124 t286.length co124)) (fun _ hk => hk.2) (.slice Ao130 t289.length co130)) (fun _ h_ => h_.1)))); (case side6 => exact (Kd.R_reads' HO_249000.out).2.1); (case side7 => refine (Kd.R_reads' (e := 69) (base := w.heap.size) (ok := fun k_ => (((((some k_ ≠ (.slice Ao21 t241.length co21 : Value).ownBlock ∧ (some k_ ≠ (.slice Ao28 t273.length co28 : Value).ownBlock ∧ (some k_ ≠ (.slice Ao32 t274.length co32 : Value).ownBlock ∧ (some k_ ≠ (.slice Ao35 t256.length co35 : Value).ownBlock ∧ some k_ ≠ (.slice Ao40 t259.length co40 : Value).ownBlock)))) ∧ some k_ ≠ (.slice Ao120 t280.length co120 : Value).ownBlock) ∧ some k_ ≠ (.slice Ao121 t283.length co121 : Value).ownBlock) ∧ some k_ ≠ (.slice Ao124 t286.length co124 : Value).ownBlock) ∧ some k_ ≠ (.slice Ao130 t289.length co130 : Value).ownBlock)) (n := t244.length) (c := co24) ?_).2.2; exact (by (with_reducible repeat (first | apply rA_ | apply rN_ | apply rD_)); exact (Kd.R_mono (Kd.R_far (p := ⟨gb293, 1, none⟩) (Kd.R_far (p := ⟨gb293, 0, none⟩) (Kd.R_types HO_249001.out BK293.out (by decide)) (fun _ hk => hk.2) (.slice Ao124 t286.length co124)) (fun _ hk => hk.2) (.slice Ao130 t289.length co130)) (fun _ h_ => h_.1)))); (case side8 => exact (Kd.R_reads' HO_249001.out).2.1); rintro e w152 ⟨rfl, hb⟩; refine ⟨_, rfl, ?_⟩; have n0_ := aM_ (Kd.R_below (by (with_reducible repeat (first | apply rA_ | apply rN_ | apply rD_)); exact (Kd.R_mono (Kd.R_far (p := ⟨gb293, 1, none⟩) (Kd.R_far (p := ⟨gb293, 0, none⟩) (Kd.R_types HO_249000.out BK293.out (by decide)) (fun _ hk => hk.2) (.slice Ao124 t286.length co124)) (fun _ hk => hk.2) (.slice Ao130 t289.length co130)) (fun _ h_ => h_.1))) hb); have n1_ := aM_ (Kd.R_below (by (with_reducible repeat (first | apply rA_ | apply rN_ | apply rD_)); exact (Kd.R_mono (Kd.R_far (p := ⟨gb293, 1, none⟩) (Kd.R_far (p := ⟨gb293, 0, none⟩) (Kd.R_types HO_249001.out BK293.out (by decide)) (fun _ hk => hk.2) (.slice Ao124 t286.length co124)) (fun _ hk => hk.2) (.slice Ao130 t289.length co130)) (fun _ h_ => h_.1))) hb); have n2_ := aM_ (Kd.R_below (by (with_reducible repeat (first | apply rA_ | apply rN_ | apply rD_)); exact (Kd.R_mono (Kd.R_far (p := ⟨gb293, 1, none⟩) (Kd.R_far (p := ⟨gb293, 0, none⟩) (Kd.R_types HO_256000.out BK293.out (by decide)) (fun _ hk => hk.2) (.slice Ao124 t286.length co124)) (fun _ hk => hk.2) (.slice Ao130 t289.length co130)) (fun _ h_ => h_.1))) hb); have n3_ := aM_ (Kd.R_below (by (with_reducible repeat (first | apply rA_ | apply rN_ | apply rD_)); exact (Kd.R_mono (Kd.R_far (p := ⟨gb293, 1, none⟩) (Kd.R_far (p := ⟨gb293, 0, none⟩) (Kd.R_types HO_256001.out BK293.out (by decide)) (fun _ hk => hk.2) (.slice Ao124 t286.length co124)) (fun _ hk => hk.2) (.slice Ao130 t289.length co130)) (fun _ h_ => h_.1))) hb); have n4_ := aM_ (Kd.R_below (by (with_reducible repeat (first | apply rA_ | apply rN_ | apply rD_)); exact (Kd.R_mono (Kd.R_far (p := ⟨gb293, 1, none⟩) (Kd.R_far (p := ⟨gb293, 0, none⟩) (Kd.R_types HO_264000.out BK293.out (by decide)) (fun _ hk => hk.2) (.slice Ao124 t286.length co124)) (fun _ hk => hk.2) (.slice Ao130 t289.length co130)) (fun _ h_ => h_.1))) hb); have n5_ := aM_ (Kd.R_below (by (with_reducible repeat (first | apply rA_ | apply rN_ | apply rD_)); exact (Kd.R_mono (Kd.R_far (p := ⟨gb293, 1, none⟩) (Kd.R_far (p := ⟨gb293, 0, none⟩) (Kd.R_types HO_264001.out BK293.out (by decide)) (fun _ hk => hk.2) (.slice Ao124 t286.length co124)) (fun _ hk => hk.2) (.slice Ao130 t289.length co130)) (fun _ h_ => h_.1))) hb); have n6_ := aM_ (Kd.R_below (by (with_reducible repeat (first | apply rA_ | apply rN_ | apply rD_)); exact (Kd.R_mono (Kd.R_far (p := ⟨gb293, 1, none⟩) (Kd.R_far (p := ⟨gb293, 0, none⟩) (Kd.R_types HO282.out BK293.out (by decide)) (fun _ hk => hk.2) (.slice Ao124 t286.length co124)) (fun _ hk => hk.2) (.slice Ao130 t289.length co130)) (fun _ h_ => h_.1))) hb); have n7_ := aM_ (Kd.R_below (by (with_reducible repeat (first | apply rA_ | apply rN_ | apply rD_)); exact (Kd.R_mono (Kd.R_far (p := ⟨gb293, 1, none⟩) (Kd.R_far (p := ⟨gb293, 0, none⟩) (Kd.R_types HO285.out BK293.out (by decide)) (fun _ hk => hk.2) (.slice Ao124 t286.length co124)) (fun _ hk => hk.2) (.slice Ao130 t289.length co130)) (fun _ h_ => h_.1))) hb); have n8_ := aM_ (Kd.R_below (by (with_reducible repeat (first | apply rA_ | apply rN_ | apply rD_)); exact (Kd.R_mono (Kd.R_far (p := ⟨gb293, 1, none⟩) (Kd.R_far (p := ⟨gb293, 0, none⟩) (Kd.R_types HO288.out BK293.out (by decide)) (fun _ hk => hk.2) (.slice Ao124 t286.length co124)) (fun _ hk => hk.2) (.slice Ao130 t289.length co130)) (fun _ h_ => h_.1))) hb); have n9_ := aM_ (Kd.R_below (by (with_reducible repeat (first | apply rA_ | apply rN_ | apply rD_)); exact (Kd.R_mono (Kd.R_far (p := ⟨gb293, 1, none⟩) (Kd.R_far (p := ⟨gb293, 0, none⟩) (Kd.R_types HO291.out BK293.out (by decide)) (fun _ hk => hk.2) (.slice Ao124 t286.length co124)) (fun _ hk => hk.2) (.slice Ao130 t289.length co130)) (fun _ h_ => h_.1))) hb); have n10_ := aM_ (blk_below (g := gb233) (o := .cells #[.slice A0_0 l0_0.length c0_0, .slice A0_1 l0_1.length c0_1] 32 (0, 0)) (by (with_reducible repeat (first | refine kN_ ?_ _ | refine kD_ ?_ | refine kA_ ?_ _)); refine blk_far ?_ NB233_293.out _; (with_reducible repeat (first | refine kN_ ?_ _ | refine kD_ ?_ | refine kA_ ?_ _)); refine blk_far ?_ NB233_293.out _; (with_reducible repeat (first | refine kN_ ?_ _ | refine kD_ ?_ | refine kA_ ?_ _)); exact BK233.out) hb); have n11_ := aM_ (blk_below (g := gb248) (o := .cells #[.slice Ao21 t241.length co21, .slice Ao24 t244.length co24] 34 (0, 0)) (by (with_reducible repeat (first | refine kN_ ?_ _ | refine kD_ ?_ | refine kA_ ?_ _)); refine blk_far ?_ NB248_293.out _; (with_reducible repeat (first | refine kN_ ?_ _ | refine kD_ ?_ | refine kA_ ?_ _)); refine blk_far ?_ NB248_293.out _; (with_reducible repeat (first | refine kN_ ?_ _ | refine kD_ ?_ | refine kA_ ?_ _)); exact BK248.out) hb); have n12_ := aM_ (blk_below (g := gb255) (o := .cells #[.slice Ao28 t273.length co28, .slice Ao32 t274.length co32] 34 (0, 0)) (by (with_reducible repeat (first | refine kN_ ?_ _ | refine kD_ ?_ | refine kA_ ?_ _)); refine blk_far ?_ NB255_293.out _; (with_reducible repeat (first | refine kN_ ?_ _ | refine kD_ ?_ | refine kA_ ?_ _)); refine blk_far ?_ NB255_293.out _; (with_reducible repeat (first | refine kN_ ?_ _ | refine kD_ ?_ | refine kA_ ?_ _)); exact BK255.out) hb); have n13_ := aM_ (blk_below (g := gb263) (o := .cells #[.slice Ao35 t256.length co35, .slice Ao40 t259.length co40] 34 (0, 0)) (by (with_reducible repeat (first | refine kN_ ?_ _ | refine kD_ ?_ | refine kA_ ?_ _)); refine blk_far ?_ NB263_293.out _; (with_reducible repeat (first | refine kN_ ?_ _ | refine kD_ ?_ | refine kA_ ?_ _)); refine blk_far ?_ NB263_293.out _; (with_reducible repeat (first | refine kN_ ?_ _ | refine kD_ ?_ | refine kA_ ?_ _)); exact BK263.out) hb); have n14_ := aM_ (blk_below (g := gb293) (o := .cells #[.slice Ao124 t286.length co124, .slice Ao130 t289.length co130] 34 (0, 0)) (by (with_reducible repeat (first | refine kN_ ?_ _ | refine kD_ ?_ | refine kA_ ?_ _)); refine blk_put (cs := #[.slice Ao124 t286.length co124, .slice none 0 0]) ?_ 1 _ rfl; (with_reducible repeat (first | refine kN_ ?_ _ | refine kD_ ?_ | refine kA_ ?_ _)); refine blk_put (cs := #[.slice none 0 0, .slice none 0 0]) ?_ 0 _ rfl; (with_reducible repeat (first | refine kN_ ?_ _ | refine kD_ ?_ | refine kA_ ?_ _)); exact BK293.out) hb); have n15_ := aM_ (below_step (by repeat (first | (with_reducible first | exact HB.out | apply bA_ | apply bN_ | apply bD_ | refine bS_ ?_ GE233.out | refine bS_ ?_ GE248.out | refine bS_ ?_ GE255.out | refine bS_ ?_ GE263.out | refine bS_ ?_ GE293.out) | exact HB.out)) hb); clear HO_249000; clear HO_249001; clear HO_256000; clear HO_256001; clear HO_264000; clear HO_264001; clear HO282; clear HO285; clear HO288; clear HO291; clear BK233; clear BK248; clear BK255; clear BK263; clear BK293; clear HB; have HO_249000 := n0_; have HO_249001 := n1_; have HO_256000 := n2_; have HO_256001 := n3_; have HO_264000 := n4_; have HO_264001 := n5_; have HO282 := n6_; have HO285 := n7_; have HO288 := n8_; have HO291 := n9_; have BK233 := n10_; have BK248 := n11_; have BK255 := n12_; have BK263 := n13_; have BK293 := n14_; have HB := n15_; clear n0_ n1_ n2_ n3_ n4_ n5_ n6_ n7_ n8_ n9_ n10_ n11_ n12_ n13_ n14_ n15_; (try clear hb); (try clear hb2); (try clear hk); (try clear hi)))
             go_meet
             case rel => exact ⟨_, (true), (by first | rfl | (simp; done) | (simp [*]; done)), H', ⟨by have := HJ10.out; have := HJ63.out; first | omega | exact Nat.le_refl _⟩, ⟨by (try simp only [hl256000_63]); (try simp only [hl256001_63]); (with_reducible repeat (first | apply rA_ | apply rN_ | apply rD_)); exact Kd.R_mono HO_249000.out (fun _ hk => ⟨hk.1.1.1.1.1, ⟨hk.1.1.1.1.2.1, ⟨hk.1.1.1.1.2.2.1, ⟨hk.1.1.1.1.2.2.2.1, ⟨hk.1.1.1.1.2.2.2.2, ⟨hk.1.2, hk.2⟩⟩⟩⟩⟩⟩)⟩, ⟨by (try simp only [hl256000_63]); (try simp only [hl256001_63]); (with_reducible repeat (first | apply rA_ | apply rN_ | apply rD_)); exact Kd.R_mono HO_249001.out (fun _ hk => ⟨hk.1.1.1.1.1, ⟨hk.1.1.1.1.2.1, ⟨hk.1.1.1.1.2.2.1, ⟨hk.1.1.1.1.2.2.2.1, ⟨hk.1.1.1.1.2.2.2.2, ⟨hk.1.2, hk.2⟩⟩⟩⟩⟩⟩)⟩, ⟨by (try simp only [hl256000_63]); (try simp only [hl256001_63]); (with_reducible repeat (first | apply rA_ | apply rN_ | apply rD_)); exact Kd.R_mono HO_256000.out (fun _ hk => ⟨hk.1.1.1.1.1, ⟨hk.1.1.1.1.2.1, ⟨hk.1.1.1.1.2.2.1, ⟨hk.1.1.1.1.2.2.2.1, ⟨hk.1.1.1.1.2.2.2.2, ⟨hk.1.2, hk.2⟩⟩⟩⟩⟩⟩)⟩, ⟨by (try simp only [hl256000_63]); (try simp only [hl256001_63]); (with_reducible repeat (first | apply rA_ | apply rN_ | apply rD_)); exact Kd.R_mono HO_256001.out (fun _ hk => ⟨hk.1.1.1.1.1, ⟨hk.1.1.1.1.2.1, ⟨hk.1.1.1.1.2.2.1, ⟨hk.1.1.1.1.2.2.2.1, ⟨hk.1.1.1.1.2.2.2.2, ⟨hk.1.2, hk.2⟩⟩⟩⟩⟩⟩)⟩, ⟨by (try simp only [hl256000_63]); (try simp only [hl256001_63]); (with_reducible repeat (first | apply rA_ | apply rN_ | apply rD_)); exact Kd.R_mono HO_264000.out (fun _ hk => ⟨hk.1.1.1.1.1, ⟨hk.1.1.1.1.2.1, ⟨hk.1.1.1.1.2.2.1, ⟨hk.1.1.1.1.2.2.2.1, ⟨hk.1.1.1.1.2.2.2.2, ⟨hk.1.2, hk.2⟩⟩⟩⟩⟩⟩)⟩, ⟨by (try simp only [hl256000_63]); (try simp only [hl256001_63]); (with_reducible repeat (first | apply rA_ | apply rN_ | apply rD_)); exact Kd.R_mono HO_264001.out (fun _ hk => ⟨hk.1.1.1.1.1, ⟨hk.1.1.1.1.2.1, ⟨hk.1.1.1.1.2.2.1, ⟨hk.1.1.1.1.2.2.2.1, ⟨hk.1.1.1.1.2.2.2.2, ⟨hk.1.2, hk.2⟩⟩⟩⟩⟩⟩)⟩, ⟨by (try simp only [hl256000_63]); (try simp only [hl256001_63]); (with_reducible repeat (first | apply rA_ | apply rN_ | apply rD_)); exact Kd.R_mono HO288.out (fun _ hk => ⟨hk.1.1.1.1.1.1.1.2, ⟨hk.1.1.1.1.1.1.2, ⟨hk.1.1.1.1.1.2, ⟨hk.1.1.1.1.2, ⟨hk.1.1.1.2, ⟨hk.1.1.2, hk.1.1.1.1.1.1.1.1⟩⟩⟩⟩⟩⟩)⟩, ⟨by (try simp only [hl256000_63]); (try simp only [hl256001_63]); (with_reducible repeat (first | apply rA_ | apply rN_ | apply rD_)); exact Kd.R_mono HO291.out (fun _ hk => ⟨hk.1.1.1.1.1.1.1.2, ⟨hk.1.1.1.1.1.1.2, ⟨hk.1.1.1.1.1.2, ⟨hk.1.1.1.1.2, ⟨hk.1.1.1.2, ⟨hk.1.1.2, hk.1.1.1.1.1.1.1.1⟩⟩⟩⟩⟩⟩)⟩, ⟨by (try simp only [hl256000_63]); (try simp only [hl256001_63]); (with_reducible repeat (first | refine kN_ ?_ _ | refine kD_ ?_ | refine kA_ ?_ _)); exact BK233.out⟩, ⟨by (try simp only [hl256000_63]); (try simp only [hl256001_63]); (with_reducible repeat (first | refine kN_ ?_ _ | refine kD_ ?_ | refine kA_ ?_ _)); exact BK248.out⟩, ⟨by (try simp only [hl256000_63]); (try simp only [hl256001_63]); (with_reducible repeat (first | refine kN_ ?_ _ | refine kD_ ?_ | refine kA_ ?_ _)); exact BK255.out⟩, ⟨by (try simp only [hl256000_63]); (try simp only [hl256001_63]); (with_reducible repeat (first | refine kN_ ?_ _ | refine kD_ ?_ | refine kA_ ?_ _)); exact BK263.out⟩, ⟨by (try simp only [hl256000_63]); (try simp only [hl256001_63]); (with_reducible repeat (first | refine kN_ ?_ _ | refine kD_ ?_ | refine kA_ ?_ _)); exact BK293.out⟩, ⟨by repeat (first | (with_reducible first | exact HB.out | apply bA_ | apply bN_ | apply bD_ | refine bS_ ?_ GE233.out | refine bS_ ?_ GE248.out | refine bS_ ?_ GE255.out | refine bS_ ?_ GE263.out | refine bS_ ?_ GE293.out) | exact HB.out)⟩⟩
           case rest =>
            clear HC108
            try clear c1
            try clear c2
            try clear p2
            try clear c3
            try clear c3b0
            try clear c4
            try clear c5
            try clear c6
            try clear c7
            try clear c8
            try clear c9
            try clear c10
            try clear c11
            try clear c12
            try clear c13
            try clear c14
            try clear c15
            try clear c17
            try clear c18
            try clear c19
            try clear c20
            try clear c21
            try clear c22
            try clear c23
            try clear c29
            try clear c30
            try clear c36
            try clear c37
            try clear c38
            try clear c42
            try clear c43
            try clear c44
            try clear c45
            try clear c47
            try clear c48
            try clear c51
            try clear c52
            try clear c53
            try clear c55
            try clear c56
            try clear c59
            try clear c62
            try clear c70
            try clear c71
            try clear c72
            try clear c75
            try clear c75b0
            try clear c77
            try clear c78
            try clear c79
            try clear c80
            try clear c82
            try clear c83
            try clear c86
            try clear c87
            try clear c88
            try clear c90
            try clear c91
            try clear c94
            try clear c97
            try clear c97b0
            try clear c98
            try clear c99
            try clear c100
            try clear c105
            try clear c105b0
            try clear c105b1
            try clear c109
            try clear c110
            try clear c111
            try clear c116
            try clear c117
            try clear c125
            try clear c126
            try clear c127
            try clear c128
            try clear c132
            try clear c133
            try clear c134
            try clear c135
            try clear c136
            try clear c138
            try clear c139
            try clear c140
            try clear c143
            try clear c144
            try clear c145
            try clear c146
            try clear c148
            try clear c149
            try clear c150
            try clear hcz101_0
            try clear hcz101_1
            try clear hcz103_0
            try clear hcz103_1
            try clear hcz112_0
            try clear hcz112_1
            try clear hcz114_0
            try clear hcz114_1
            try clear hcz118_0
            try clear hcz118_1
            try clear hcz129_0
            try clear hcz129_1
            try clear hcz137_0
            try clear hcz137_1
            try clear hcz13_0
            try clear hcz13_1
            try clear hcz141_0
            try clear hcz141_1
            try clear hcz147_0
            try clear hcz147_1
            try clear hcz151_0
            try clear hcz151_1
            try clear hcz15_0
            try clear hcz15_1
            try clear hcz23_0
            try clear hcz23_1
            try clear hcz25_0
            try clear hcz25_1
            try clear hcz31_0
            try clear hcz31_1
            try clear hcz39_0
            try clear hcz39_1
            try clear hcz46_0
            try clear hcz46_1
            try clear hcz49_0
            try clear hcz49_1
            try clear hcz54_0
            try clear hcz54_1
            try clear hcz57_0
            try clear hcz57_1
            try clear hcz5_0
            try clear hcz5_1
            try clear hcz73_0
            try clear hcz73_1
            try clear hcz81_0
            try clear hcz81_1
            try clear hcz84_0
            try clear hcz84_1
            try clear hcz89_0
            try clear hcz89_1
            try clear hcz92_0
            try clear hcz92_1
            try clear hfz101_0
            try clear hfz101_1
            try clear hfz103_0
            try clear hfz103_1
            try clear hfz112_0
            try clear hfz112_1
            try clear hfz114_0
            try clear hfz114_1
            try clear hfz118_0
            try clear hfz118_1
            try clear hfz129_0
            try clear hfz129_1
            try clear hfz137_0
            try clear hfz137_1
            try clear hfz13_0
            try clear hfz13_1
            try clear hfz141_0
            try clear hfz141_1
            try clear hfz147_0
            try clear hfz147_1
            try clear hfz151_0
            try clear hfz151_1
            try clear hfz15_0
            try clear hfz15_1
            try clear hfz23_0
            try clear hfz23_1
            try clear hfz25_0
            try clear hfz25_1
            try clear hfz31_0
            try clear hfz31_1
            try clear hfz39_0
            try clear hfz39_1
            try clear hfz46_0
            try clear hfz46_1
            try clear hfz49_0
            try clear hfz49_1
            try clear hfz54_0
            try clear hfz54_1
            try clear hfz57_0
            try clear hfz57_1
            try clear hfz5_0
            try clear hfz5_1
            try clear hfz73_0
            try clear hfz73_1
            try clear hfz81_0
            try clear hfz81_1
            try clear hfz84_0
            try clear hfz84_1
            try clear hfz89_0
            try clear hfz89_1
            try clear hfz92_0
            try clear hfz92_1
            try clear p2
            obtain ⟨kq, x87_107, rfl, HA, HJ107, HO_249000, HO_249001, HO_256000, HO_256001, HO_264000, HO_264001, HO_294000, HO_294001, BK233, BK248, BK255, BK263, BK293, HB⟩ := hcut
            have hl264000_107 := (Kd.R_reads' HO_264000.out).1
            rw [hl264000_107] at HO_264000
            (try simp only [hl264000_107])
            (try simp only [hl264000_107] at BK233)
            (try simp only [hl264000_107] at BK248)
            (try simp only [hl264000_107] at BK255)
            (try simp only [hl264000_107] at BK263)
            (try simp only [hl264000_107] at BK293)
            (try simp only [hl264000_107] at HO_249000)
            (try simp only [hl264000_107] at HO_249001)
            (try simp only [hl264000_107] at HO_256000)
            (try simp only [hl264000_107] at HO_256001)
            (try simp only [hl264000_107] at HO_264001)
            (try simp only [hl264000_107] at HO_294000)
            (try simp only [hl264000_107] at HO_294001)
            have hl264001_107 := (Kd.R_reads' HO_264001.out).1
            rw [hl264001_107] at HO_264001
            (try simp only [hl264001_107])
            (try simp only [hl264001_107] at BK233)
            (try simp only [hl264001_107] at BK248)
            (try simp only [hl264001_107] at BK255)
            (try simp only [hl264001_107] at BK263)
            (try simp only [hl264001_107] at BK293)
            (try simp only [hl264001_107] at HO_249000)
            (try simp only [hl264001_107] at HO_249001)
            (try simp only [hl264001_107] at HO_256000)
            (try simp only [hl264001_107] at HO_256001)
            (try simp only [hl264001_107] at HO_264000)
            (try simp only [hl264001_107] at HO_294000)
            (try simp only [hl264001_107] at HO_294001)
            cases kq with
            | zero => exact absurd HA.out (by simp [laws_FnExactNormalStream.j2])
            | succ kj107 =>
             have H := HA.out
             clear HA
             simp only [laws_FnExactNormalStream.j2] at H
             by_cases c153 : x87_107 = true
             ·subst c153
              have H1 : (some false) = some r := by rw [if_pos rfl] at H; exact H
              clear H
              have H := H1
              clear H1
              obtain rfl := Option.some.inj H
              go_wp2
              go_ret
              exact ⟨by first | rfl | (simp [errW_none, errW_some] <;> rfl) | (simp [*, errW_none, errW_some] <;> rfl), by repeat (first | (with_reducible first | exact HB.out | apply bA_ | apply bN_ | apply bD_ | refine bS_ ?_ GE233.out | refine bS_ ?_ GE248.out | refine bS_ ?_ GE255.out | refine bS_ ?_ GE263.out | refine bS_ ?_ GE293.out) | exact HB.out)⟩
             ·replace c153 := Bool.eq_false_iff.mpr c153
              subst c153
              have H1 : ((laws_heldStream.f kj107 t277 t278 1).bind fun t295 => (if t295 < 0 then (some false) else (if t295 = t276 then (some true) else (some false)))) = some r := by rw [if_neg (show ¬ (false = true) by decide)] at H; exact H
              clear H
              have H := H1
              clear H1
              replace H := Option.bind_eq_some_iff.mp H
              obtain ⟨t295, A1540, H⟩ := H
              replace H : (if t295 < 0 then (some false) else (if t295 = t276 then (some true) else (some false))) = some r := H
              have A154 := aM_ A1540
              clear A1540
              by_cases c155 : t295 < 0
              ·rw [if_pos c155] at H
               have c155b0 : decide (t295 < 0) = true := decide_eq_true c155
               clear c155
               obtain rfl := Option.some.inj H
               have hnb156 := NB263_233.out
               have hnc156 := NB233_263.out
               have hnb157 := NB263_248.out
               have hnc157 := NB248_263.out
               have hnb158 := NB263_255.out
               have hnc158 := NB255_263.out
               have hnb159 := NB263_293.out
               have hnc159 := NB293_263.out
               have hcz160_0 : wc.cell? ⟨gb263, 0, none⟩ = some (.slice Ao35 t277.length co35) := (blk_cell BK263.out 0).trans rfl
               have hcz160_1 : wc.cell? ⟨gb263, 1, none⟩ = some (.slice Ao40 t278.length co40) := (blk_cell BK263.out 1).trans rfl
               have hfz160_0 := blk_frozen BK263.out 0
               have hfz160_1 := blk_frozen BK263.out 1
               go_wp2_with (first | ((with_reducible refine gate_callee (f := 23) rfl ?_); refine goesL_ (some 90) rfl rfl Try.func23 (by kernel_rfl) rfl #[.agg #[.slice Ao35 t277.length co35, .slice Ao40 t278.length co40], .int .i64 1] rfl (by (try simp only [List.map_toArray, List.map_cons, List.map_nil]); first | done | rfl | (simp only [List.length_drop, List.length_take]; rfl)) ?_; (with_reducible refine (laws_heldStream.calls kj107 _ _ t277 _ _ t278 1 t295 _ ?side1 ?side2 ?side3 ?side4 A154.out).mono ?_); (case side1 => repeat (first | exact (Kd.R_reads' HO_264000.out).2.2 | (with_reducible refine Kd.C_alloc ?_ _) | (with_reducible refine Kd.C_drewN ?_ _) | (with_reducible refine Kd.C_drew ?_))); (case side2 => exact (Kd.R_reads' HO_264000.out).2.1); (case side3 => repeat (first | exact (Kd.R_reads' HO_264001.out).2.2 | (with_reducible refine Kd.C_alloc ?_ _) | (with_reducible refine Kd.C_drewN ?_ _) | (with_reducible refine Kd.C_drew ?_))); (case side4 => exact (Kd.R_reads' HO_264001.out).2.1); rintro e w161 ⟨rfl, hb⟩; refine ⟨_, rfl, ?_⟩; have n0_ := aM_ (Kd.R_below (by (with_reducible repeat (first | apply rA_ | apply rN_ | apply rD_)); exact HO_249000.out) hb); have n1_ := aM_ (Kd.R_below (by (with_reducible repeat (first | apply rA_ | apply rN_ | apply rD_)); exact HO_249001.out) hb); have n2_ := aM_ (Kd.R_below (by (with_reducible repeat (first | apply rA_ | apply rN_ | apply rD_)); exact HO_256000.out) hb); have n3_ := aM_ (Kd.R_below (by (with_reducible repeat (first | apply rA_ | apply rN_ | apply rD_)); exact HO_256001.out) hb); have n4_ := aM_ (Kd.R_below (by (with_reducible repeat (first | apply rA_ | apply rN_ | apply rD_)); exact HO_264000.out) hb); have n5_ := aM_ (Kd.R_below (by (with_reducible repeat (first | apply rA_ | apply rN_ | apply rD_)); exact HO_264001.out) hb); have n6_ := aM_ (Kd.R_below (by (with_reducible repeat (first | apply rA_ | apply rN_ | apply rD_)); exact HO_294000.out) hb); have n7_ := aM_ (Kd.R_below (by (with_reducible repeat (first | apply rA_ | apply rN_ | apply rD_)); exact HO_294001.out) hb); have n8_ := aM_ (blk_below (g := gb233) (o := .cells #[.slice A0_0 l0_0.length c0_0, .slice A0_1 l0_1.length c0_1] 32 (0, 0)) (by (with_reducible repeat (first | refine kN_ ?_ _ | refine kD_ ?_ | refine kA_ ?_ _)); exact BK233.out) hb); have n9_ := aM_ (blk_below (g := gb248) (o := .cells #[.slice Ao21 t241.length co21, .slice Ao24 t244.length co24] 34 (0, 0)) (by (with_reducible repeat (first | refine kN_ ?_ _ | refine kD_ ?_ | refine kA_ ?_ _)); exact BK248.out) hb); have n10_ := aM_ (blk_below (g := gb255) (o := .cells #[.slice Ao28 t273.length co28, .slice Ao32 t274.length co32] 34 (0, 0)) (by (with_reducible repeat (first | refine kN_ ?_ _ | refine kD_ ?_ | refine kA_ ?_ _)); exact BK255.out) hb); have n11_ := aM_ (blk_below (g := gb263) (o := .cells #[.slice Ao35 t277.length co35, .slice Ao40 t278.length co40] 34 (0, 0)) (by (with_reducible repeat (first | refine kN_ ?_ _ | refine kD_ ?_ | refine kA_ ?_ _)); exact BK263.out) hb); have n12_ := aM_ (blk_below (g := gb293) (o := .cells #[.slice Ao124 t286.length co124, .slice Ao130 t289.length co130] 34 (0, 0)) (by (with_reducible repeat (first | refine kN_ ?_ _ | refine kD_ ?_ | refine kA_ ?_ _)); exact BK293.out) hb); have n13_ := aM_ (below_step (by repeat (first | (with_reducible first | exact HB.out | apply bA_ | apply bN_ | apply bD_ | refine bS_ ?_ GE233.out | refine bS_ ?_ GE248.out | refine bS_ ?_ GE255.out | refine bS_ ?_ GE263.out | refine bS_ ?_ GE293.out) | exact HB.out)) hb); clear HO_249000; clear HO_249001; clear HO_256000; clear HO_256001; clear HO_264000; clear HO_264001; clear HO_294000; clear HO_294001; clear BK233; clear BK248; clear BK255; clear BK263; clear BK293; clear HB; have HO_249000 := n0_; have HO_249001 := n1_; have HO_256000 := n2_; have HO_256001 := n3_; have HO_264000 := n4_; have HO_264001 := n5_; have HO_294000 := n6_; have HO_294001 := n7_; have BK233 := n8_; have BK248 := n9_; have BK255 := n10_; have BK263 := n11_; have BK293 := n12_; have HB := n13_; clear n0_ n1_ n2_ n3_ n4_ n5_ n6_ n7_ n8_ n9_ n10_ n11_ n12_ n13_; (try clear hb); (try clear hb2); (try clear hk); (try clear hi)))
               go_ret
               exact ⟨by first | rfl | (simp [errW_none, errW_some] <;> rfl) | (simp [*, errW_none, errW_some] <;> rfl), by repeat (first | (with_reducible first | exact HB.out | apply bA_ | apply bN_ | apply bD_ | refine bS_ ?_ GE233.out | refine bS_ ?_ GE248.out | refine bS_ ?_ GE255.out | refine bS_ ?_ GE263.out | refine bS_ ?_ GE293.out) | exact HB.out)⟩
              ·rw [if_neg c155] at H
               have c155b0 : decide (t295 < 0) = false := decide_eq_false c155
               clear c155
               by_cases c162 : t295 = t276
               ·rw [if_pos c162] at H
                have c162b0 : (t295 == t276) = true := beq_iff_eq.mpr c162
                have c162b1 : (t295 != t276) = false := bne_eq_false_iff_eq.mpr c162
                clear c162
                obtain rfl := Option.some.inj H
                have hnb163 := NB263_233.out
                have hnc163 := NB233_263.out
                have hnb164 := NB263_248.out
                have hnc164 := NB248_263.out
                have hnb165 := NB263_255.out
                have hnc165 := NB255_263.out
                have hnb166 := NB263_293.out
                have hnc166 := NB293_263.out
                have hcz167_0 : wc.cell? ⟨gb263, 0, none⟩ = some (.slice Ao35 t277.length co35) := (blk_cell BK263.out 0).trans rfl
                have hcz167_1 : wc.cell? ⟨gb263, 1, none⟩ = some (.slice Ao40 t278.length co40) := (blk_cell BK263.out 1).trans rfl
                have hfz167_0 := blk_frozen BK263.out 0
                have hfz167_1 := blk_frozen BK263.out 1
                go_wp2_with (first | ((with_reducible refine gate_callee (f := 23) rfl ?_); refine goesL_ (some 90) rfl rfl Try.func23 (by kernel_rfl) rfl #[.agg #[.slice Ao35 t277.length co35, .slice Ao40 t278.length co40], .int .i64 1] rfl (by (try simp only [List.map_toArray, List.map_cons, List.map_nil]); first | done | rfl | (simp only [List.length_drop, List.length_take]; rfl)) ?_; (with_reducible refine (laws_heldStream.calls kj107 _ _ t277 _ _ t278 1 t295 _ ?side1 ?side2 ?side3 ?side4 A154.out).mono ?_); (case side1 => repeat (first | exact (Kd.R_reads' HO_264000.out).2.2 | (with_reducible refine Kd.C_alloc ?_ _) | (with_reducible refine Kd.C_drewN ?_ _) | (with_reducible refine Kd.C_drew ?_))); (case side2 => exact (Kd.R_reads' HO_264000.out).2.1); (case side3 => repeat (first | exact (Kd.R_reads' HO_264001.out).2.2 | (with_reducible refine Kd.C_alloc ?_ _) | (with_reducible refine Kd.C_drewN ?_ _) | (with_reducible refine Kd.C_drew ?_))); (case side4 => exact (Kd.R_reads' HO_264001.out).2.1); rintro e w168 ⟨rfl, hb⟩; refine ⟨_, rfl, ?_⟩; have n0_ := aM_ (Kd.R_below (by (with_reducible repeat (first | apply rA_ | apply rN_ | apply rD_)); exact HO_249000.out) hb); have n1_ := aM_ (Kd.R_below (by (with_reducible repeat (first | apply rA_ | apply rN_ | apply rD_)); exact HO_249001.out) hb); have n2_ := aM_ (Kd.R_below (by (with_reducible repeat (first | apply rA_ | apply rN_ | apply rD_)); exact HO_256000.out) hb); have n3_ := aM_ (Kd.R_below (by (with_reducible repeat (first | apply rA_ | apply rN_ | apply rD_)); exact HO_256001.out) hb); have n4_ := aM_ (Kd.R_below (by (with_reducible repeat (first | apply rA_ | apply rN_ | apply rD_)); exact HO_264000.out) hb); have n5_ := aM_ (Kd.R_below (by (with_reducible repeat (first | apply rA_ | apply rN_ | apply rD_)); exact HO_264001.out) hb); have n6_ := aM_ (Kd.R_below (by (with_reducible repeat (first | apply rA_ | apply rN_ | apply rD_)); exact HO_294000.out) hb); have n7_ := aM_ (Kd.R_below (by (with_reducible repeat (first | apply rA_ | apply rN_ | apply rD_)); exact HO_294001.out) hb); have n8_ := aM_ (blk_below (g := gb233) (o := .cells #[.slice A0_0 l0_0.length c0_0, .slice A0_1 l0_1.length c0_1] 32 (0, 0)) (by (with_reducible repeat (first | refine kN_ ?_ _ | refine kD_ ?_ | refine kA_ ?_ _)); exact BK233.out) hb); have n9_ := aM_ (blk_below (g := gb248) (o := .cells #[.slice Ao21 t241.length co21, .slice Ao24 t244.length co24] 34 (0, 0)) (by (with_reducible repeat (first | refine kN_ ?_ _ | refine kD_ ?_ | refine kA_ ?_ _)); exact BK248.out) hb); have n10_ := aM_ (blk_below (g := gb255) (o := .cells #[.slice Ao28 t273.length co28, .slice Ao32 t274.length co32] 34 (0, 0)) (by (with_reducible repeat (first | refine kN_ ?_ _ | refine kD_ ?_ | refine kA_ ?_ _)); exact BK255.out) hb); have n11_ := aM_ (blk_below (g := gb263) (o := .cells #[.slice Ao35 t277.length co35, .slice Ao40 t278.length co40] 34 (0, 0)) (by (with_reducible repeat (first | refine kN_ ?_ _ | refine kD_ ?_ | refine kA_ ?_ _)); exact BK263.out) hb); have n12_ := aM_ (blk_below (g := gb293) (o := .cells #[.slice Ao124 t286.length co124, .slice Ao130 t289.length co130] 34 (0, 0)) (by (with_reducible repeat (first | refine kN_ ?_ _ | refine kD_ ?_ | refine kA_ ?_ _)); exact BK293.out) hb); have n13_ := aM_ (below_step (by repeat (first | (with_reducible first | exact HB.out | apply bA_ | apply bN_ | apply bD_ | refine bS_ ?_ GE233.out | refine bS_ ?_ GE248.out | refine bS_ ?_ GE255.out | refine bS_ ?_ GE263.out | refine bS_ ?_ GE293.out) | exact HB.out)) hb); clear HO_249000; clear HO_249001; clear HO_256000; clear HO_256001; clear HO_264000; clear HO_264001; clear HO_294000; clear HO_294001; clear BK233; clear BK248; clear BK255; clear BK263; clear BK293; clear HB; have HO_249000 := n0_; have HO_249001 := n1_; have HO_256000 := n2_; have HO_256001 := n3_; have HO_264000 := n4_; have HO_264001 := n5_; have HO_294000 := n6_; have HO_294001 := n7_; have BK233 := n8_; have BK248 := n9_; have BK255 := n10_; have BK263 := n11_; have BK293 := n12_; have HB := n13_; clear n0_ n1_ n2_ n3_ n4_ n5_ n6_ n7_ n8_ n9_ n10_ n11_ n12_ n13_; (try clear hb); (try clear hb2); (try clear hk); (try clear hi)))
                go_ret
                exact ⟨by first | rfl | (simp [errW_none, errW_some] <;> rfl) | (simp [*, errW_none, errW_some] <;> rfl), by repeat (first | (with_reducible first | exact HB.out | apply bA_ | apply bN_ | apply bD_ | refine bS_ ?_ GE233.out | refine bS_ ?_ GE248.out | refine bS_ ?_ GE255.out | refine bS_ ?_ GE263.out | refine bS_ ?_ GE293.out) | exact HB.out)⟩
               ·rw [if_neg c162] at H
                have c162b0 : (t295 == t276) = false := beq_eq_false_iff_ne.mpr c162
                have c162b1 : (t295 != t276) = true := bne_iff_ne.mpr c162
                obtain rfl := Option.some.inj H
                have hnb169 := NB263_233.out
                have hnc169 := NB233_263.out
                have hnb170 := NB263_248.out
                have hnc170 := NB248_263.out
                have hnb171 := NB263_255.out
                have hnc171 := NB255_263.out
                have hnb172 := NB263_293.out
                have hnc172 := NB293_263.out
                have hcz173_0 : wc.cell? ⟨gb263, 0, none⟩ = some (.slice Ao35 t277.length co35) := (blk_cell BK263.out 0).trans rfl
                have hcz173_1 : wc.cell? ⟨gb263, 1, none⟩ = some (.slice Ao40 t278.length co40) := (blk_cell BK263.out 1).trans rfl
                have hfz173_0 := blk_frozen BK263.out 0
                have hfz173_1 := blk_frozen BK263.out 1
                go_wp2_with (first | ((with_reducible refine gate_callee (f := 23) rfl ?_); refine goesL_ (some 90) rfl rfl Try.func23 (by kernel_rfl) rfl #[.agg #[.slice Ao35 t277.length co35, .slice Ao40 t278.length co40], .int .i64 1] rfl (by (try simp only [List.map_toArray, List.map_cons, List.map_nil]); first | done | rfl | (simp only [List.length_drop, List.length_take]; rfl)) ?_; (with_reducible refine (laws_heldStream.calls kj107 _ _ t277 _ _ t278 1 t295 _ ?side1 ?side2 ?side3 ?side4 A154.out).mono ?_); (case side1 => repeat (first | exact (Kd.R_reads' HO_264000.out).2.2 | (with_reducible refine Kd.C_alloc ?_ _) | (with_reducible refine Kd.C_drewN ?_ _) | (with_reducible refine Kd.C_drew ?_))); (case side2 => exact (Kd.R_reads' HO_264000.out).2.1); (case side3 => repeat (first | exact (Kd.R_reads' HO_264001.out).2.2 | (with_reducible refine Kd.C_alloc ?_ _) | (with_reducible refine Kd.C_drewN ?_ _) | (with_reducible refine Kd.C_drew ?_))); (case side4 => exact (Kd.R_reads' HO_264001.out).2.1); rintro e w174 ⟨rfl, hb⟩; refine ⟨_, rfl, ?_⟩; have n0_ := aM_ (Kd.R_below (by (with_reducible repeat (first | apply rA_ | apply rN_ | apply rD_)); exact HO_249000.out) hb); have n1_ := aM_ (Kd.R_below (by (with_reducible repeat (first | apply rA_ | apply rN_ | apply rD_)); exact HO_249001.out) hb); have n2_ := aM_ (Kd.R_below (by (with_reducible repeat (first | apply rA_ | apply rN_ | apply rD_)); exact HO_256000.out) hb); have n3_ := aM_ (Kd.R_below (by (with_reducible repeat (first | apply rA_ | apply rN_ | apply rD_)); exact HO_256001.out) hb); have n4_ := aM_ (Kd.R_below (by (with_reducible repeat (first | apply rA_ | apply rN_ | apply rD_)); exact HO_264000.out) hb); have n5_ := aM_ (Kd.R_below (by (with_reducible repeat (first | apply rA_ | apply rN_ | apply rD_)); exact HO_264001.out) hb); have n6_ := aM_ (Kd.R_below (by (with_reducible repeat (first | apply rA_ | apply rN_ | apply rD_)); exact HO_294000.out) hb); have n7_ := aM_ (Kd.R_below (by (with_reducible repeat (first | apply rA_ | apply rN_ | apply rD_)); exact HO_294001.out) hb); have n8_ := aM_ (blk_below (g := gb233) (o := .cells #[.slice A0_0 l0_0.length c0_0, .slice A0_1 l0_1.length c0_1] 32 (0, 0)) (by (with_reducible repeat (first | refine kN_ ?_ _ | refine kD_ ?_ | refine kA_ ?_ _)); exact BK233.out) hb); have n9_ := aM_ (blk_below (g := gb248) (o := .cells #[.slice Ao21 t241.length co21, .slice Ao24 t244.length co24] 34 (0, 0)) (by (with_reducible repeat (first | refine kN_ ?_ _ | refine kD_ ?_ | refine kA_ ?_ _)); exact BK248.out) hb); have n10_ := aM_ (blk_below (g := gb255) (o := .cells #[.slice Ao28 t273.length co28, .slice Ao32 t274.length co32] 34 (0, 0)) (by (with_reducible repeat (first | refine kN_ ?_ _ | refine kD_ ?_ | refine kA_ ?_ _)); exact BK255.out) hb); have n11_ := aM_ (blk_below (g := gb263) (o := .cells #[.slice Ao35 t277.length co35, .slice Ao40 t278.length co40] 34 (0, 0)) (by (with_reducible repeat (first | refine kN_ ?_ _ | refine kD_ ?_ | refine kA_ ?_ _)); exact BK263.out) hb); have n12_ := aM_ (blk_below (g := gb293) (o := .cells #[.slice Ao124 t286.length co124, .slice Ao130 t289.length co130] 34 (0, 0)) (by (with_reducible repeat (first | refine kN_ ?_ _ | refine kD_ ?_ | refine kA_ ?_ _)); exact BK293.out) hb); have n13_ := aM_ (below_step (by repeat (first | (with_reducible first | exact HB.out | apply bA_ | apply bN_ | apply bD_ | refine bS_ ?_ GE233.out | refine bS_ ?_ GE248.out | refine bS_ ?_ GE255.out | refine bS_ ?_ GE263.out | refine bS_ ?_ GE293.out) | exact HB.out)) hb); clear HO_249000; clear HO_249001; clear HO_256000; clear HO_256001; clear HO_264000; clear HO_264001; clear HO_294000; clear HO_294001; clear BK233; clear BK248; clear BK255; clear BK263; clear BK293; clear HB; have HO_249000 := n0_; have HO_249001 := n1_; have HO_256000 := n2_; have HO_256001 := n3_; have HO_264000 := n4_; have HO_264001 := n5_; have HO_294000 := n6_; have HO_294001 := n7_; have BK233 := n8_; have BK248 := n9_; have BK255 := n10_; have BK263 := n11_; have BK293 := n12_; have HB := n13_; clear n0_ n1_ n2_ n3_ n4_ n5_ n6_ n7_ n8_ n9_ n10_ n11_ n12_ n13_; (try clear hb); (try clear hb2); (try clear hk); (try clear hi)))
                go_ret
                exact ⟨by first | rfl | (simp [errW_none, errW_some] <;> rfl) | (simp [*, errW_none, errW_some] <;> rfl), by repeat (first | (with_reducible first | exact HB.out | apply bA_ | apply bN_ | apply bD_ | refine bS_ ?_ GE233.out | refine bS_ ?_ GE248.out | refine bS_ ?_ GE255.out | refine bS_ ?_ GE263.out | refine bS_ ?_ GE293.out) | exact HB.out)⟩
          ·rw [if_neg c105] at H
           have c105b0 : (t279 == t276) = false := beq_eq_false_iff_ne.mpr c105
           have c105b1 : (t279 != t276) = true := bne_iff_ne.mpr c105
           obtain rfl := Option.some.inj H
           have hnb175 := NB263_233.out
           have hnc175 := NB233_263.out
           have hnb176 := NB263_248.out
           have hnc176 := NB248_263.out
           have hnb177 := NB263_255.out
           have hnc177 := NB255_263.out
           have hcz178_0 : wc.cell? ⟨gb263, 0, none⟩ = some (.slice Ao35 t256.length co35) := (blk_cell BK263.out 0).trans rfl
           have hcz178_1 : wc.cell? ⟨gb263, 1, none⟩ = some (.slice Ao40 t259.length co40) := (blk_cell BK263.out 1).trans rfl
           have hfz178_0 := blk_frozen BK263.out 0
           have hfz178_1 := blk_frozen BK263.out 1
           go_wp2_with (first | ((with_reducible refine gate_callee (f := 22) rfl ?_); refine goesL_ (some 64) rfl rfl Try.func22 (by kernel_rfl) rfl #[.agg #[.slice Ao35 t256.length co35, .slice Ao40 t259.length co40], .int .i64 1] rfl (by (try simp only [List.map_toArray, List.map_cons, List.map_nil]); first | done | rfl | (simp only [List.length_drop, List.length_take]; rfl)) ?_; (with_reducible refine (laws_markStream.calls kj63 (fun k_ => some k_ = (.slice Ao35 t256.length co35 : Value).ownBlock) (.slice Ao35 t256.length co35) t256 (fun k_ => some k_ = (.slice Ao40 t259.length co40 : Value).ownBlock) (.slice Ao40 t259.length co40) t259 1 t276 t277 t278 w _ ?side1 ?side2 ?side3 ?side4 ?side5 A95.out).mono ?_); (case side1 => repeat (first | (with_reducible first | exact HB.out | apply bA_ | apply bN_ | apply bD_ | refine bS_ ?_ GE233.out | refine bS_ ?_ GE248.out | refine bS_ ?_ GE255.out | refine bS_ ?_ GE263.out) | exact HB.out)); (case side2 => exact Kd.R_tight rfl HO_264000.out); (case side3 => exact fun k_ e_ => (HO_264000.out.1 k_ e_.symm).2.2.2.2); (case side4 => exact Kd.R_tight rfl HO_264001.out); (case side5 => exact fun k_ e_ => (HO_264001.out.1 k_ e_.symm).2.2.2.2); rintro e w179 ⟨rfl, hy0, hy1, hb, hkp⟩; refine ⟨_, rfl, ?_⟩; have n0_ := aM_ (Kd.R_mono (ok' := fun k_ => some k_ ≠ (.slice Ao24 t244.length co24 : Value).ownBlock ∧ some k_ ≠ (.slice Ao28 t273.length co28 : Value).ownBlock ∧ some k_ ≠ (.slice Ao32 t274.length co32 : Value).ownBlock ∧ some k_ ≠ (.slice Ao35 t256.length co35 : Value).ownBlock ∧ some k_ ≠ (.slice Ao40 t259.length co40 : Value).ownBlock) (Kd.R_keptB (HO_249000.out) hkp (fun k_ hk_ hs_ => Or.elim hs_ (fun e_ => (hk_.2.2.2.1) e_) (fun e_ => (hk_.2.2.2.2) e_))) (fun k_ hk_ => ⟨hk_.1.1, hk_.1.2.1, hk_.1.2.2.1, hk_.1.2.2.2.1, hk_.1.2.2.2.2⟩)); have n1_ := aM_ (Kd.R_mono (ok' := fun k_ => some k_ ≠ (.slice Ao21 t241.length co21 : Value).ownBlock ∧ some k_ ≠ (.slice Ao28 t273.length co28 : Value).ownBlock ∧ some k_ ≠ (.slice Ao32 t274.length co32 : Value).ownBlock ∧ some k_ ≠ (.slice Ao35 t256.length co35 : Value).ownBlock ∧ some k_ ≠ (.slice Ao40 t259.length co40 : Value).ownBlock) (Kd.R_keptB (HO_249001.out) hkp (fun k_ hk_ hs_ => Or.elim hs_ (fun e_ => (hk_.2.2.2.1) e_) (fun e_ => (hk_.2.2.2.2) e_))) (fun k_ hk_ => ⟨hk_.1.1, hk_.1.2.1, hk_.1.2.2.1, hk_.1.2.2.2.1, hk_.1.2.2.2.2⟩)); have n2_ := aM_ (Kd.R_mono (ok' := fun k_ => some k_ ≠ (.slice Ao21 t241.length co21 : Value).ownBlock ∧ some k_ ≠ (.slice Ao24 t244.length co24 : Value).ownBlock ∧ some k_ ≠ (.slice Ao32 t274.length co32 : Value).ownBlock ∧ some k_ ≠ (.slice Ao35 t256.length co35 : Value).ownBlock ∧ some k_ ≠ (.slice Ao40 t259.length co40 : Value).ownBlock) (Kd.R_keptB (HO_256000.out) hkp (fun k_ hk_ hs_ => Or.elim hs_ (fun e_ => (hk_.2.2.2.1) e_) (fun e_ => (hk_.2.2.2.2) e_))) (fun k_ hk_ => ⟨hk_.1.1, hk_.1.2.1, hk_.1.2.2.1, hk_.1.2.2.2.1, hk_.1.2.2.2.2⟩)); have n3_ := aM_ (Kd.R_mono (ok' := fun k_ => some k_ ≠ (.slice Ao21 t241.length co21 : Value).ownBlock ∧ some k_ ≠ (.slice Ao24 t244.length co24 : Value).ownBlock ∧ some k_ ≠ (.slice Ao28 t273.length co28 : Value).ownBlock ∧ some k_ ≠ (.slice Ao35 t256.length co35 : Value).ownBlock ∧ some k_ ≠ (.slice Ao40 t259.length co40 : Value).ownBlock) (Kd.R_keptB (HO_256001.out) hkp (fun k_ hk_ hs_ => Or.elim hs_ (fun e_ => (hk_.2.2.2.1) e_) (fun e_ => (hk_.2.2.2.2) e_))) (fun k_ hk_ => ⟨hk_.1.1, hk_.1.2.1, hk_.1.2.2.1, hk_.1.2.2.2.1, hk_.1.2.2.2.2⟩)); have n4_ := aM_ (Kd.R_reok rfl hy0 (fun k_ e_ => HO_264000.out.1 k_ e_)); have n5_ := aM_ (Kd.R_reok rfl hy1 (fun k_ e_ => HO_264001.out.1 k_ e_)); have n6_ := aM_ (blk_kept (by (with_reducible repeat (first | refine kN_ ?_ _ | refine kD_ ?_ | refine kA_ ?_ _)); exact BK233.out) hkp (fun hs_ => Or.elim hs_ (fun e_ => (fun e_ => (Kd.R_ne HO_264000.out BK233.out (by decide)) e_) e_) (fun e_ => (fun e_ => (Kd.R_ne HO_264001.out BK233.out (by decide)) e_) e_))); have n7_ := aM_ (blk_kept (by (with_reducible repeat (first | refine kN_ ?_ _ | refine kD_ ?_ | refine kA_ ?_ _)); exact BK248.out) hkp (fun hs_ => Or.elim hs_ (fun e_ => (fun e_ => (Kd.R_ne HO_264000.out BK248.out (by decide)) e_) e_) (fun e_ => (fun e_ => (Kd.R_ne HO_264001.out BK248.out (by decide)) e_) e_))); have n8_ := aM_ (blk_kept (by (with_reducible repeat (first | refine kN_ ?_ _ | refine kD_ ?_ | refine kA_ ?_ _)); exact BK255.out) hkp (fun hs_ => Or.elim hs_ (fun e_ => (fun e_ => (Kd.R_ne HO_264000.out BK255.out (by decide)) e_) e_) (fun e_ => (fun e_ => (Kd.R_ne HO_264001.out BK255.out (by decide)) e_) e_))); have n9_ := aM_ (blk_kept (by (with_reducible repeat (first | refine kN_ ?_ _ | refine kD_ ?_ | refine kA_ ?_ _)); exact BK263.out) hkp (fun hs_ => Or.elim hs_ (fun e_ => (fun e_ => (Kd.R_ne HO_264000.out BK263.out (by decide)) e_) e_) (fun e_ => (fun e_ => (Kd.R_ne HO_264001.out BK263.out (by decide)) e_) e_))); have n10_ := aM_ (hb); clear HO_249000; clear HO_249001; clear HO_256000; clear HO_256001; clear HO_264000; clear HO_264001; clear BK233; clear BK248; clear BK255; clear BK263; clear HB; have HO_249000 := n0_; have HO_249001 := n1_; have HO_256000 := n2_; have HO_256001 := n3_; have HO_264000 := n4_; have HO_264001 := n5_; have BK233 := n6_; have BK248 := n7_; have BK255 := n8_; have BK263 := n9_; have HB := n10_; clear n0_ n1_ n2_ n3_ n4_ n5_ n6_ n7_ n8_ n9_ n10_; (try clear hb); (try clear hkp); (try clear hy0); (try clear hy1); have hcz180_0 : w179.cell? ⟨gb263, 0, none⟩ = some (.slice Ao35 t256.length co35) := (blk_cell BK263.out 0).trans rfl; have hcz180_1 : w179.cell? ⟨gb263, 1, none⟩ = some (.slice Ao40 t259.length co40) := (blk_cell BK263.out 1).trans rfl; have hfz180_0 := blk_frozen BK263.out 0; have hfz180_1 := blk_frozen BK263.out 1) | ((with_reducible refine gate_callee (f := 23) rfl ?_); refine goesL_ (some 67) rfl rfl Try.func23 (by kernel_rfl) rfl #[.agg #[.slice Ao35 t277.length co35, .slice Ao40 t278.length co40], .int .i64 1] rfl (by (try simp only [List.map_toArray, List.map_cons, List.map_nil]); first | done | (rw [show t277.length = t256.length from (Kd.R_reads' HO_264000.out).1.symm, show t278.length = t259.length from (Kd.R_reads' HO_264001.out).1.symm] <;> rfl) | rfl | (simp only [List.length_drop, List.length_take]; rfl)) ?_; (with_reducible refine (laws_heldStream.calls kj63 _ _ t277 _ _ t278 1 t279 _ ?side1 ?side2 ?side3 ?side4 A96.out).mono ?_); (case side1 => repeat (first | exact (Kd.R_reads' HO_264000.out).2.2 | (with_reducible refine Kd.C_alloc ?_ _) | (with_reducible refine Kd.C_drewN ?_ _) | (with_reducible refine Kd.C_drew ?_))); (case side2 => rw [show t277.length = t256.length from (Kd.R_reads' HO_264000.out).1.symm]; exact (Kd.R_reads' HO_264000.out).2.1); (case side3 => repeat (first | exact (Kd.R_reads' HO_264001.out).2.2 | (with_reducible refine Kd.C_alloc ?_ _) | (with_reducible refine Kd.C_drewN ?_ _) | (with_reducible refine Kd.C_drew ?_))); (case side4 => rw [show t278.length = t259.length from (Kd.R_reads' HO_264001.out).1.symm]; exact (Kd.R_reads' HO_264001.out).2.1); rintro e w181 ⟨rfl, hb⟩; refine ⟨_, rfl, ?_⟩; have n0_ := aM_ (Kd.R_below (by (with_reducible repeat (first | apply rA_ | apply rN_ | apply rD_)); exact HO_249000.out) hb); have n1_ := aM_ (Kd.R_below (by (with_reducible repeat (first | apply rA_ | apply rN_ | apply rD_)); exact HO_249001.out) hb); have n2_ := aM_ (Kd.R_below (by (with_reducible repeat (first | apply rA_ | apply rN_ | apply rD_)); exact HO_256000.out) hb); have n3_ := aM_ (Kd.R_below (by (with_reducible repeat (first | apply rA_ | apply rN_ | apply rD_)); exact HO_256001.out) hb); have n4_ := aM_ (Kd.R_below (by (with_reducible repeat (first | apply rA_ | apply rN_ | apply rD_)); exact HO_264000.out) hb); have n5_ := aM_ (Kd.R_below (by (with_reducible repeat (first | apply rA_ | apply rN_ | apply rD_)); exact HO_264001.out) hb); have n6_ := aM_ (blk_below (g := gb233) (o := .cells #[.slice A0_0 l0_0.length c0_0, .slice A0_1 l0_1.length c0_1] 32 (0, 0)) (by (with_reducible repeat (first | refine kN_ ?_ _ | refine kD_ ?_ | refine kA_ ?_ _)); exact BK233.out) hb); have n7_ := aM_ (blk_below (g := gb248) (o := .cells #[.slice Ao21 t241.length co21, .slice Ao24 t244.length co24] 34 (0, 0)) (by (with_reducible repeat (first | refine kN_ ?_ _ | refine kD_ ?_ | refine kA_ ?_ _)); exact BK248.out) hb); have n8_ := aM_ (blk_below (g := gb255) (o := .cells #[.slice Ao28 t273.length co28, .slice Ao32 t274.length co32] 34 (0, 0)) (by (with_reducible repeat (first | refine kN_ ?_ _ | refine kD_ ?_ | refine kA_ ?_ _)); exact BK255.out) hb); have n9_ := aM_ (blk_below (g := gb263) (o := .cells #[.slice Ao35 t256.length co35, .slice Ao40 t259.length co40] 34 (0, 0)) (by (with_reducible repeat (first | refine kN_ ?_ _ | refine kD_ ?_ | refine kA_ ?_ _)); exact BK263.out) hb); have n10_ := aM_ (below_step (by repeat (first | (with_reducible first | exact HB.out | apply bA_ | apply bN_ | apply bD_ | refine bS_ ?_ GE233.out | refine bS_ ?_ GE248.out | refine bS_ ?_ GE255.out | refine bS_ ?_ GE263.out) | exact HB.out)) hb); clear HO_249000; clear HO_249001; clear HO_256000; clear HO_256001; clear HO_264000; clear HO_264001; clear BK233; clear BK248; clear BK255; clear BK263; clear HB; have HO_249000 := n0_; have HO_249001 := n1_; have HO_256000 := n2_; have HO_256001 := n3_; have HO_264000 := n4_; have HO_264001 := n5_; have BK233 := n6_; have BK248 := n7_; have BK255 := n8_; have BK263 := n9_; have HB := n10_; clear n0_ n1_ n2_ n3_ n4_ n5_ n6_ n7_ n8_ n9_ n10_; (try clear hb); (try clear hb2); (try clear hk); (try clear hi)))
           go_ret
           exact ⟨by first | rfl | (simp [errW_none, errW_some] <;> rfl) | (simp [*, errW_none, errW_some] <;> rfl), by repeat (first | (with_reducible first | exact HB.out | apply bA_ | apply bN_ | apply bD_ | refine bS_ ?_ GE233.out | refine bS_ ?_ GE248.out | refine bS_ ?_ GE255.out | refine bS_ ?_ GE263.out) | exact HB.out)⟩
     ·replace c62 := Bool.eq_false_iff.mpr c62
      subst c62
      have H1 : (some false) = some r := by rw [if_neg (show ¬ (false = true) by decide)] at H; exact H
      clear H
      have H := H1
      clear H1
      obtain rfl := Option.some.inj H
      try go_wp2
      have n0_ := aM_ (rD_ HO_249000.out)
      have n1_ := aM_ (rD_ HO_249001.out)
      have n2_ := aM_ (rD_ HO_256000.out)
      have n3_ := aM_ (rD_ HO_256001.out)
      have n4_ := aM_ (rD_ HO_264000.out)
      have n5_ := aM_ (rD_ HO_264001.out)
      have n6_ := aM_ (kD_ BK233.out)
      have n7_ := aM_ (kD_ BK248.out)
      have n8_ := aM_ (kD_ BK255.out)
      have n9_ := aM_ (kD_ BK263.out)
      have n10_ := aM_ (bD_ HB.out)
      clear HO_249000
      clear HO_249001
      clear HO_256000
      clear HO_256001
      clear HO_264000
      clear HO_264001
      clear BK233
      clear BK248
      clear BK255
      clear BK263
      clear HB
      have HO_249000 := n0_
      have HO_249001 := n1_
      have HO_256000 := n2_
      have HO_256001 := n3_
      have HO_264000 := n4_
      have HO_264001 := n5_
      have BK233 := n6_
      have BK248 := n7_
      have BK255 := n8_
      have BK263 := n9_
      have HB := n10_
      clear n0_ n1_ n2_ n3_ n4_ n5_ n6_ n7_ n8_ n9_ n10_
      refine start_ (n := 5) (S := fun w' => w'.cell? ⟨gb255, 0, none⟩ = some (.slice Ao28 t249.length co28) ∧ w'.cell? ⟨gb255, 1, none⟩ = some (.slice Ao32 t252.length co32) ∧ w'.cell? ⟨gb233, 0, none⟩ = some (.slice A0_0 l0_0.length c0_0) ∧ w'.cell? ⟨gb233, 1, none⟩ = some (.slice A0_1 l0_1.length c0_1)) (ds := []) #[false, false, false, false, false] (by kernel_rfl) rfl rfl ⟨(blk_cell BK255.out 0).trans rfl, (blk_cell BK255.out 1).trans rfl, (blk_cell BK233.out 0).trans rfl, (blk_cell BK233.out 1).trans rfl⟩ (fun hHeld => ?_)
      generalize wc.drew = w182 at HO_249000 HO_249001 HO_256000 HO_256001 HO_264000 HO_264001 BK233 BK248 BK255 BK263 HB hHeld ⊢
      refine take_ (i := 0) (N := some 41) (v := ?_) (a' := ?_) #[true, false, false, false, false] rfl rfl (by kernel_rfl) (fun _ _ _ h => h) (Or.inl ⟨by rfl, ?_⟩) hHeld ?_ ?_
      rotate_left
      ·rintro w' ⟨s0, s1, s2, s3⟩
       go_simp
       with_reducible rfl
      rotate_left
      ·simp only [Act.put, List.setIfInBounds_toArray, List.set_cons_zero, List.set_cons_succ, i64_w, i32_w]
       rfl
      refine take_ (i := 1) (N := some 42) (v := ?_) (a' := ?_) #[true, true, false, false, false] rfl rfl (by kernel_rfl) (fun _ _ _ h => h) (Or.inl ⟨by rfl, ?_⟩) hHeld ?_ ?_
      rotate_left
      ·rintro w' ⟨s0, s1, s2, s3⟩
       go_simp
       with_reducible rfl
      rotate_left
      ·simp only [Act.put, List.setIfInBounds_toArray, List.set_cons_zero, List.set_cons_succ, i64_w, i32_w]
       rfl
      refine one_ (i := 2) (N := some 43) #[true, true, true, false, false] rfl rfl (by kernel_rfl) (by decide) (fun K hK => ?_)
      refine goes_ Try.func19 (by kernel_rfl) rfl #[.agg #[.slice A0_0 l0_0.length c0_0, .slice A0_1 l0_1.length c0_1]] (by rfl) rfl rfl (by (try simp only [List.map_toArray, List.map_cons, List.map_nil]); first | done | rfl | (simp only [List.length_drop, List.length_take]; rfl)) ?_
      with_reducible refine (laws_toStream.calls kj10 _ _ l0_0 _ _ l0_1 t265 t268 _ ?side1 ?side2 ?side3 ?side4 A60.out).mono ?_
      (case side1 => repeat (first | exact (Kd.C_below HR0_0.out HB.out) | (with_reducible refine Kd.C_alloc ?_ _) | (with_reducible refine Kd.C_drewN ?_ _) | (with_reducible refine Kd.C_drew ?_)))
      (case side2 => exact HC0_0.out)
      (case side3 => repeat (first | exact (Kd.C_below HR0_1.out HB.out) | (with_reducible refine Kd.C_alloc ?_ _) | (with_reducible refine Kd.C_drewN ?_ _) | (with_reducible refine Kd.C_drew ?_)))
      (case side4 => exact HC0_1.out)
      rintro e w183 ⟨v266, v269, rfl, ho0, ho1, hb⟩
      refine ⟨_, rfl, ?_⟩
      have n0_ := aM_ (Kd.R_mono (Kd.R_told (Kd.R_told (Kd.R_old (by (with_reducible repeat (first | apply rA_ | apply rN_ | apply rD_)); exact HO_249000.out) hb) (Kd.R_base ho0)) (Kd.R_base ho1)) (fun _ h_ => h_.1))
      have n1_ := aM_ (Kd.R_mono (Kd.R_told (Kd.R_told (Kd.R_old (by (with_reducible repeat (first | apply rA_ | apply rN_ | apply rD_)); exact HO_249001.out) hb) (Kd.R_base ho0)) (Kd.R_base ho1)) (fun _ h_ => h_.1))
      have n2_ := aM_ (Kd.R_mono (Kd.R_told (Kd.R_told (Kd.R_old (by (with_reducible repeat (first | apply rA_ | apply rN_ | apply rD_)); exact HO_256000.out) hb) (Kd.R_base ho0)) (Kd.R_base ho1)) (fun _ h_ => h_.1))
      have n3_ := aM_ (Kd.R_mono (Kd.R_told (Kd.R_told (Kd.R_old (by (with_reducible repeat (first | apply rA_ | apply rN_ | apply rD_)); exact HO_256001.out) hb) (Kd.R_base ho0)) (Kd.R_base ho1)) (fun _ h_ => h_.1))
      have n4_ := aM_ (Kd.R_mono (Kd.R_told (Kd.R_told (Kd.R_old (by (with_reducible repeat (first | apply rA_ | apply rN_ | apply rD_)); exact HO_264000.out) hb) (Kd.R_base ho0)) (Kd.R_base ho1)) (fun _ h_ => h_.1))
      have n5_ := aM_ (Kd.R_mono (Kd.R_told (Kd.R_told (Kd.R_old (by (with_reducible repeat (first | apply rA_ | apply rN_ | apply rD_)); exact HO_264001.out) hb) (Kd.R_base ho0)) (Kd.R_base ho1)) (fun _ h_ => h_.1))
      have n6_ := aM_ (Kd.R_lower (Kd.R_new' (Kd.R_new' (Kd.R_new' (Kd.R_new' (Kd.R_new' (Kd.R_new' ho0 (Kd.R_lt (by (with_reducible repeat (first | apply rA_ | apply rN_ | apply rD_)); exact HO_249000.out))) (Kd.R_lt (by (with_reducible repeat (first | apply rA_ | apply rN_ | apply rD_)); exact HO_249001.out))) (Kd.R_lt (by (with_reducible repeat (first | apply rA_ | apply rN_ | apply rD_)); exact HO_256000.out))) (Kd.R_lt (by (with_reducible repeat (first | apply rA_ | apply rN_ | apply rD_)); exact HO_256001.out))) (Kd.R_lt (by (with_reducible repeat (first | apply rA_ | apply rN_ | apply rD_)); exact HO_264000.out))) (Kd.R_lt (by (with_reducible repeat (first | apply rA_ | apply rN_ | apply rD_)); exact HO_264001.out))) (below_size (by repeat (first | (with_reducible first | exact HB.out | apply bA_ | apply bN_ | apply bD_ | refine bS_ ?_ GE233.out | refine bS_ ?_ GE248.out | refine bS_ ?_ GE255.out | refine bS_ ?_ GE263.out) | exact HB.out))))
      have n7_ := aM_ (Kd.R_lower (Kd.R_new' (Kd.R_new' (Kd.R_new' (Kd.R_new' (Kd.R_new' (Kd.R_new' ho1 (Kd.R_lt (by (with_reducible repeat (first | apply rA_ | apply rN_ | apply rD_)); exact HO_249000.out))) (Kd.R_lt (by (with_reducible repeat (first | apply rA_ | apply rN_ | apply rD_)); exact HO_249001.out))) (Kd.R_lt (by (with_reducible repeat (first | apply rA_ | apply rN_ | apply rD_)); exact HO_256000.out))) (Kd.R_lt (by (with_reducible repeat (first | apply rA_ | apply rN_ | apply rD_)); exact HO_256001.out))) (Kd.R_lt (by (with_reducible repeat (first | apply rA_ | apply rN_ | apply rD_)); exact HO_264000.out))) (Kd.R_lt (by (with_reducible repeat (first | apply rA_ | apply rN_ | apply rD_)); exact HO_264001.out))) (below_size (by repeat (first | (with_reducible first | exact HB.out | apply bA_ | apply bN_ | apply bD_ | refine bS_ ?_ GE233.out | refine bS_ ?_ GE248.out | refine bS_ ?_ GE255.out | refine bS_ ?_ GE263.out) | exact HB.out))))
      have n8_ := aM_ (blk_below (g := gb233) (o := .cells #[.slice A0_0 l0_0.length c0_0, .slice A0_1 l0_1.length c0_1] 32 (0, 0)) (by (with_reducible repeat (first | refine kN_ ?_ _ | refine kD_ ?_ | refine kA_ ?_ _)); exact BK233.out) hb)
      have n9_ := aM_ (blk_below (g := gb248) (o := .cells #[.slice Ao21 t241.length co21, .slice Ao24 t244.length co24] 34 (0, 0)) (by (with_reducible repeat (first | refine kN_ ?_ _ | refine kD_ ?_ | refine kA_ ?_ _)); exact BK248.out) hb)
      have n10_ := aM_ (blk_below (g := gb255) (o := .cells #[.slice Ao28 t249.length co28, .slice Ao32 t252.length co32] 34 (0, 0)) (by (with_reducible repeat (first | refine kN_ ?_ _ | refine kD_ ?_ | refine kA_ ?_ _)); exact BK255.out) hb)
      have n11_ := aM_ (blk_below (g := gb263) (o := .cells #[.slice Ao35 t256.length co35, .slice Ao40 t259.length co40] 34 (0, 0)) (by (with_reducible repeat (first | refine kN_ ?_ _ | refine kD_ ?_ | refine kA_ ?_ _)); exact BK263.out) hb)
      have n12_ := aM_ (below_step (by repeat (first | (with_reducible first | exact HB.out | apply bA_ | apply bN_ | apply bD_ | refine bS_ ?_ GE233.out | refine bS_ ?_ GE248.out | refine bS_ ?_ GE255.out | refine bS_ ?_ GE263.out) | exact HB.out)) hb)
      clear HO_249000
      clear HO_249001
      clear HO_256000
      clear HO_256001
      clear HO_264000
      clear HO_264001
      clear BK233
      clear BK248
      clear BK255
      clear BK263
      clear HB
      have HO_249000 := n0_
      have HO_249001 := n1_
      have HO_256000 := n2_
      have HO_256001 := n3_
      have HO_264000 := n4_
      have HO_264001 := n5_
      have HO267 := n6_
      have HO270 := n7_
      have BK233 := n8_
      have BK248 := n9_
      have BK255 := n10_
      have BK263 := n11_
      have HB := n12_
      clear n0_ n1_ n2_ n3_ n4_ n5_ n6_ n7_ n8_ n9_ n10_ n11_ n12_
      (try clear hb)
      (try clear hb2)
      (try clear hk)
      (try clear hi)
      (try clear ho0)
      (try clear ho1)
      obtain ⟨Ao184, co184, eo184⟩ := Kd.R_slice HO267.out
      (first | subst eo184 | (injection eo184 with f1_ f2_ f3_; have f4_ := f1_.symm; have f5_ := f3_.symm; clear f1_ f2_ f3_; subst f4_; subst f5_))
      obtain ⟨Ao185, co185, eo185⟩ := Kd.R_slice HO270.out
      (first | subst eo185 | (injection eo185 with f1_ f2_ f3_; have f4_ := f1_.symm; have f5_ := f3_.symm; clear f1_ f2_ f3_; subst f4_; subst f5_))
      refine hK.out _ _ ⟨(blk_cell BK255.out 0).trans rfl, (blk_cell BK255.out 1).trans rfl, (blk_cell BK233.out 0).trans rfl, (blk_cell BK233.out 1).trans rfl⟩ (fun hHeld => ?_)
      clear hK K
      refine norm_ (a' := ?_) ?_ ?_
      rotate_left
      ·show Act.put _ (some 43) _ = _
       simp only [Act.put, List.setIfInBounds_toArray, List.set_cons_zero, List.set_cons_succ, i64_w, i32_w]
       rfl
      refine one_ (i := 3) (N := some 44) #[true, true, true, true, false] rfl rfl (by kernel_rfl) (by decide) (fun K hK => ?_)
      refine goes_ Try.func21 (by kernel_rfl) rfl #[.agg #[.slice Ao28 t249.length co28, .slice Ao32 t252.length co32], .agg #[.slice Ao184 t265.length co184, .slice Ao185 t268.length co185]] (by rfl) rfl rfl (by (try simp only [List.map_toArray, List.map_cons, List.map_nil]); first | done | rfl | (simp only [List.length_drop, List.length_take]; rfl)) ?_
      with_reducible refine (laws_eqStream.calls kj10 _ _ t249 _ _ t252 _ _ t265 _ _ t268 false _ ?side1 ?side2 ?side3 ?side4 ?side5 ?side6 ?side7 ?side8 A61.out).mono ?_
      (case side1 => repeat (first | exact (Kd.R_reads' HO_256000.out).2.2 | (with_reducible refine Kd.C_alloc ?_ _) | (with_reducible refine Kd.C_drewN ?_ _) | (with_reducible refine Kd.C_drew ?_)))
      (case side2 => exact (Kd.R_reads' HO_256000.out).2.1)
      (case side3 => repeat (first | exact (Kd.R_reads' HO_256001.out).2.2 | (with_reducible refine Kd.C_alloc ?_ _) | (with_reducible refine Kd.C_drewN ?_ _) | (with_reducible refine Kd.C_drew ?_)))
      (case side4 => exact (Kd.R_reads' HO_256001.out).2.1)
      (case side5 => repeat (first | exact (Kd.R_reads' HO267.out).2.2 | (with_reducible refine Kd.C_alloc ?_ _) | (with_reducible refine Kd.C_drewN ?_ _) | (with_reducible refine Kd.C_drew ?_)))
      (case side6 => exact (Kd.R_reads' HO267.out).2.1)
      (case side7 => repeat (first | exact (Kd.R_reads' HO270.out).2.2 | (with_reducible refine Kd.C_alloc ?_ _) | (with_reducible refine Kd.C_drewN ?_ _) | (with_reducible refine Kd.C_drew ?_)))
      (case side8 => exact (Kd.R_reads' HO270.out).2.1)
      rintro e w186 ⟨rfl, hb⟩
      refine ⟨_, rfl, ?_⟩
      have n0_ := aM_ (Kd.R_below (by (with_reducible repeat (first | apply rA_ | apply rN_ | apply rD_)); exact HO_249000.out) hb)
      have n1_ := aM_ (Kd.R_below (by (with_reducible repeat (first | apply rA_ | apply rN_ | apply rD_)); exact HO_249001.out) hb)
      have n2_ := aM_ (Kd.R_below (by (with_reducible repeat (first | apply rA_ | apply rN_ | apply rD_)); exact HO_256000.out) hb)
      have n3_ := aM_ (Kd.R_below (by (with_reducible repeat (first | apply rA_ | apply rN_ | apply rD_)); exact HO_256001.out) hb)
      have n4_ := aM_ (Kd.R_below (by (with_reducible repeat (first | apply rA_ | apply rN_ | apply rD_)); exact HO_264000.out) hb)
      have n5_ := aM_ (Kd.R_below (by (with_reducible repeat (first | apply rA_ | apply rN_ | apply rD_)); exact HO_264001.out) hb)
      have n6_ := aM_ (Kd.R_below (by (with_reducible repeat (first | apply rA_ | apply rN_ | apply rD_)); exact HO267.out) hb)
      have n7_ := aM_ (Kd.R_below (by (with_reducible repeat (first | apply rA_ | apply rN_ | apply rD_)); exact HO270.out) hb)
      have n8_ := aM_ (blk_below (g := gb233) (o := .cells #[.slice A0_0 l0_0.length c0_0, .slice A0_1 l0_1.length c0_1] 32 (0, 0)) (by (with_reducible repeat (first | refine kN_ ?_ _ | refine kD_ ?_ | refine kA_ ?_ _)); exact BK233.out) hb)
      have n9_ := aM_ (blk_below (g := gb248) (o := .cells #[.slice Ao21 t241.length co21, .slice Ao24 t244.length co24] 34 (0, 0)) (by (with_reducible repeat (first | refine kN_ ?_ _ | refine kD_ ?_ | refine kA_ ?_ _)); exact BK248.out) hb)
      have n10_ := aM_ (blk_below (g := gb255) (o := .cells #[.slice Ao28 t249.length co28, .slice Ao32 t252.length co32] 34 (0, 0)) (by (with_reducible repeat (first | refine kN_ ?_ _ | refine kD_ ?_ | refine kA_ ?_ _)); exact BK255.out) hb)
      have n11_ := aM_ (blk_below (g := gb263) (o := .cells #[.slice Ao35 t256.length co35, .slice Ao40 t259.length co40] 34 (0, 0)) (by (with_reducible repeat (first | refine kN_ ?_ _ | refine kD_ ?_ | refine kA_ ?_ _)); exact BK263.out) hb)
      have n12_ := aM_ (below_step (by repeat (first | (with_reducible first | exact HB.out | apply bA_ | apply bN_ | apply bD_ | refine bS_ ?_ GE233.out | refine bS_ ?_ GE248.out | refine bS_ ?_ GE255.out | refine bS_ ?_ GE263.out) | exact HB.out)) hb)
      clear HO_249000
      clear HO_249001
      clear HO_256000
      clear HO_256001
      clear HO_264000
      clear HO_264001
      clear HO267
      clear HO270
      clear BK233
      clear BK248
      clear BK255
      clear BK263
      clear HB
      have HO_249000 := n0_
      have HO_249001 := n1_
      have HO_256000 := n2_
      have HO_256001 := n3_
      have HO_264000 := n4_
      have HO_264001 := n5_
      have HO267 := n6_
      have HO270 := n7_
      have BK233 := n8_
      have BK248 := n9_
      have BK255 := n10_
      have BK263 := n11_
      have HB := n12_
      clear n0_ n1_ n2_ n3_ n4_ n5_ n6_ n7_ n8_ n9_ n10_ n11_ n12_
      (try clear hb)
      (try clear hb2)
      (try clear hk)
      (try clear hi)
      refine hK.out _ _ ⟨(blk_cell BK255.out 0).trans rfl, (blk_cell BK255.out 1).trans rfl, (blk_cell BK233.out 0).trans rfl, (blk_cell BK233.out 1).trans rfl⟩ (fun hHeld => ?_)
      clear hK K
      refine norm_ (a' := ?_) ?_ ?_
      rotate_left
      ·show Act.put _ (some 44) _ = _
       simp only [Act.put, List.setIfInBounds_toArray, List.set_cons_zero, List.set_cons_succ, i64_w, i32_w]
       rfl
      refine pure_ (i := 4) (N := some 45) (v := ?_) (a' := ?_) #[true, true, true, true, true] rfl rfl (by kernel_rfl) (fun _ _ _ h => h) (Or.inl ⟨by rfl, ?_⟩) ?_ ?_
      rotate_left
      ·intro w'
       go_simp
       with_reducible rfl
      rotate_left
      ·simp only [Act.put, List.setIfInBounds_toArray, List.set_cons_zero, List.set_cons_succ, i64_w, i32_w]
       rfl
      refine done_ (by kernel_rfl) ?_
      try go_wp2
      go_ret
      exact ⟨by first | rfl | (simp [errW_none, errW_some] <;> rfl) | (simp [*, errW_none, errW_some] <;> rfl), by repeat (first | (with_reducible first | exact HB.out | apply bA_ | apply bN_ | apply bD_ | refine bS_ ?_ GE233.out | refine bS_ ?_ GE248.out | refine bS_ ?_ GE255.out | refine bS_ ?_ GE263.out) | exact HB.out)⟩

/-! ### the law's arguments -/
def WF32 (x : S32) : Prop := (x.f0.length * 1 ≤ 140737488351232 ∧ ∀ z_ ∈ x.f0, (-128) ≤ z_ ∧ z_ ≤ 127) ∧ (x.f1.length * 1 ≤ 140737488351232 ∧ ∀ z_ ∈ x.f1, (-128) ≤ z_ ∧ z_ ≤ 127)
set_option maxRecDepth 100000 in
theorem op32 {H : Type} {enc : TypeId × Value → H} {w : World} : Opens enc Try.prog w 32 k32 WF32 := by
 intro fuel cs x h hz
 obtain ⟨xs, m, rfl, rfl, hl, hn, hf⟩ := DataW.trod_struct Try.underlying32 h
 have hl0 : cs.length = 2 := hl.trans (by kernel_rfl)
 have hn0 : xs.length = 2 := hn
 obtain ⟨x0, xs0, rfl, hn1⟩ := consX_of hn0
 obtain ⟨x1, xs1, rfl, hn2⟩ := consX_of hn1
 obtain rfl := List.eq_nil_of_length_eq_zero hn2
 obtain ⟨c0, cs0, rfl, hl1⟩ := cons_of hl0
 obtain ⟨c1, cs1, rfl, hl2⟩ := cons_of hl1
 obtain rfl := List.eq_nil_of_length_eq_zero hl2
 have h0 : DataW.trod enc Try.prog w 0 (fun _ => true) true m 22 [c0] = some x0 := by
  have h_ : DataW.trod enc Try.prog w 0 (fun _ => true) true m 22 (([c0, c1].drop 0).take (Try.prog.cellsOf 22)) = [x0, x1][0]? := by
   have h2_ := hf 0 _ rfl
   exact h2_
  rw [show Try.prog.cellsOf 22 = 1 from by kernel_rfl] at h_
  exact h_
 obtain ⟨a0, hk0, hw0⟩ := (opens_slice Try.underlying22 (by kernel_rfl) (by kernel_rfl) (opens_int Try.underlying69 wfB_i8)) _ _ _ h0 (weight_struct Try.underlying32 hz (j := 0) rfl rfl)
 have h1 : DataW.trod enc Try.prog w 0 (fun _ => true) true m 22 [c1] = some x1 := by
  have h_ : DataW.trod enc Try.prog w 0 (fun _ => true) true m 22 (([c0, c1].drop 1).take (Try.prog.cellsOf 22)) = [x0, x1][1]? := by
   have h2_ := hf 1 _ rfl
   exact h2_
  rw [show Try.prog.cellsOf 22 = 1 from by kernel_rfl] at h_
  exact h_
 obtain ⟨a1, hk1, hw1⟩ := (opens_slice Try.underlying22 (by kernel_rfl) (by kernel_rfl) (opens_int Try.underlying69 wfB_i8)) _ _ _ h1 (weight_struct Try.underlying32 hz (j := 1) rfl rfl)
 exact ⟨⟨a0, a1⟩, ⟨[c0], [c1], rfl, hk0, hk1⟩, ⟨hw0, hw1⟩⟩
/-- THE ONE PURE STATEMENT of laws_FnExactNormalStream. -/
def laws_FnExactNormalStream.Pure : Prop := ∀ (x0 : S32), (WF32 x0) → ∃ k, laws_FnExactNormalStream.f k x0.f0 x0.f1 = some true
theorem laws_FnExactNormalStream.walk (P_ : laws_FnExactNormalStream.Pure) (w : World) (x0 : S32) (A0_0 : Option Addr) (c0_0 : Nat) (hr0_0 : Kd.C (Kd.int .i8) w A0_0 x0.f0.length x0.f0) (hc0_0 : x0.f0.length ≤ c0_0) (A0_1 : Option Addr) (c0_1 : Nat) (hr0_1 : Kd.C (Kd.int .i8) w A0_1 x0.f1.length x0.f1) (hc0_1 : x0.f1.length ≤ c0_1) (hw0 : WF32 x0) :
  Calls Try.prog 4 #[.agg #[.slice A0_0 x0.f0.length c0_0, .slice A0_1 x0.f1.length c0_1]] w fun e w' => e = .returned (.bool true) ∧ Below w.heap.size w w' := by
 obtain ⟨k, h⟩ := P_ x0 hw0
 refine (laws_FnExactNormalStream.calls k _ _ x0.f0 _ _ x0.f1 true w hr0_0 hc0_0 hr0_1 hc0_1 h).mono ?_
 rintro e w' ⟨rfl, hd⟩
 exact ⟨rfl, hd⟩

end Go.Proofs.Ytfenifdigjcmiaa.MFnExactNormalStream
