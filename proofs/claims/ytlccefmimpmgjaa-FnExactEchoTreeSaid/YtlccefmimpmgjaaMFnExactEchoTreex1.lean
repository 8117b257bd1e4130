/- Functions of the program as Lean functions, and the proof that the code comes to what they say. Written by a program of this session (myprint.py). -/
import Derived.Test.YtlccefmimpmgjaaMFnExactEchoTreex0
namespace Go.Proofs.Ytlccefmimpmgjaa.MFnExactEchoTree
open Go.RowKit Go.Proofs.Ytlccefmimpmgjaa.MOpen Go.Proofs.YtlccefmimpmgjaaW.PrintWords Go.Proofs.YtlccefmimpmgjaaW.PrintLast Go.Proofs.YtlccefmimpmgjaaW.PrintMore
attribute [local go_sem] max2_int min2_int max_two min_two max_three min_three max_four min_four   -- for this text's walks alone
set_option linter.unusedVariables false
set_option linter.unusedSimpArgs false

/-! ### spec_l06Copies: function 54 -/
def spec_l06Copies.l0 : Nat → Int → List (S77) → Int → Int → Int → Int → Option ((List (S77)))
  | 0, _, _, _, _, _, _ => none
  | k + 1, x1, x5, x6, x102000, x102001, x102002 => if x6 < 3 then (if 0 ≤ x6 then (if x5.length < 17592186044416 then (spec_l06Copies.l0 k x1 (x5 ++ [(⟨2, (rd [x102000, x102001, x102002] x6), (⟨x1, 0, 0⟩ : S75)⟩ : S77)]) (wrap64 (x6 + 1)) x102000 x102001 x102002) else (none)) else (none)) else (some x5)
def spec_l06Copies.f (k : Nat) (a0_0 : Int) (a0_1 : Int) (a0_2 : Int) (a1 : Int) : Option ((List (S77))) := spec_l06Copies.l0 k a1 (([] : List (S77))) 0 a0_0 a0_1 a0_2
theorem spec_l06Copies.mono_l : ∀ k, (∀ y0 y1 y2 y3 y4 y5, LeO (spec_l06Copies.l0 k y0 y1 y2 y3 y4 y5) (spec_l06Copies.l0 (k + 1) y0 y1 y2 y3 y4 y5))
  | 0 => fun _ _ _ _ _ _ r h => by simp [spec_l06Copies.l0] at h
  | k + 1 => by
    have ih0 := spec_l06Copies.mono_l k
    · intro y0 y1 y2 y3 y4 y5
      unfold spec_l06Copies.l0
      repeat' first
      | (with_reducible exact ih0 _ _ _ _ _ _)
      | (with_reducible exact LeO.refl _)
      | (with_reducible exact LeO.none _)
      | (with_reducible refine LeO.ite ?_ ?_)
      | (with_reducible refine LeO.bind ?_ (fun _ => ?_))
      | exact ih0 _ _ _ _ _ _
      | exact LeO.none _
      | refine LeO.ite ?_ ?_
      | refine LeO.bind ?_ (fun _ => ?_)
theorem spec_l06Copies.mono : ∀ a0 a1 a2 a3 k, LeO (spec_l06Copies.f k a0 a1 a2 a3) (spec_l06Copies.f (k + 1) a0 a1 a2 a3) := by
  intro a0 a1 a2 a3 k
  have ih0 := spec_l06Copies.mono_l k
  unfold spec_l06Copies.f
  repeat' first
      | (with_reducible exact ih0 _ _ _ _ _ _)
      | (with_reducible exact LeO.refl _)
      | (with_reducible exact LeO.none _)
      | (with_reducible refine LeO.ite ?_ ?_)
      | (with_reducible refine LeO.bind ?_ (fun _ => ?_))
      | exact ih0 _ _ _ _ _ _
      | exact LeO.none _
      | refine LeO.ite ?_ ?_
      | refine LeO.bind ?_ (fun _ => ?_)
set_option maxHeartbeats 8000000 in
set_option maxRecDepth 100000 in
theorem spec_l06Copies.calls (k : Nat) (a0_0 : Int) (a0_1 : Int) (a0_2 : Int) (a1 : Int) (r : List (S77)) (w : World) (h : spec_l06Copies.f k a0_0 a0_1 a0_2 a1 = some r) :
    Calls Try.prog 54 #[.agg #[.int .i8 a0_0, .int .i8 a0_1, .int .i8 a0_2], .int .i16 a1] w fun e w' => ∃ v0_ : Value, e = .returned (v0_) ∧ Kd.R k77 77 w' w.heap.size (fun _ => True) v0_ r ∧ Below w.heap.size w w' := by
  have hu79 := Try.underlying79
  have hu75 := Try.underlying75
  have hu77 := Try.underlying77
  have HB := Aside0.mk (Below.refl w.heap.size w)
  have H : (spec_l06Copies.l0 k a1 (([] : List (S77))) 0 a0_0 a0_1 a0_2) = some r := h
  clear h
  obtain ⟨y102, hy102⟩ : ∃ y_ : List (S77), y_ = (([] : List (S77))) := ⟨_, rfl⟩
  replace H : (spec_l06Copies.l0 k a1 y102 0 a0_0 a0_1 a0_2) = some r := by first | (rw [hy102]; with_reducible exact H) | (have H2_ := (Option.bind_some _ _).symm.trans H; rw [hy102]; with_reducible exact H2_) | (have H2_ := (Option.bind_some _ _).symm.trans H; with_reducible exact H2_) | with_reducible exact H | (rw [hy102]; exact H) | exact H
  have Ny102 := Aside0.mk hy102
  clear hy102
  have H' := Aside0.mk H
  clear H
  go_enter Try.func54, Try.ntmps54
  go_wp2_with (first | ((with_reducible refine gate_dst (N := 2) rfl ?_); refine box_event ?hg (N := 2) ?hd (cs := #[.int .i8 a0_0, .int .i8 a0_1, .int .i8 a0_2]) (t := 79) ?hr ?_; (case hd => rfl); (case hg => rfl); (case hr => first | (go_simp; done) | (go_simp; rfl)); intro gb101 hg w3 hbox hb; have n0_ := Aside0.mk (below_step (by repeat (first | (with_reducible first | exact HB.out | apply below_alloc | apply pw_below_drewN | apply below_drew1) | exact HB.out)) hb); have n1_ := Aside0.mk (hbox); have n2_ := Aside0.mk ((by rw [hg]; exact (below_size (by repeat (first | (with_reducible first | exact HB.out | apply below_alloc | apply pw_below_drewN | apply below_drew1) | exact HB.out))) : w.heap.size ≤ gb101)); have n3_ := Aside0.mk ((by rw [hg]; exact (below_size (by repeat (first | (with_reducible first | exact HB.out | apply below_alloc | apply pw_below_drewN | apply below_drew1) | exact HB.out))) : w.heap.size ≤ gb101)); clear HB; have HB := n0_; have BK101 := n1_; have GW101 := n2_; have GE101 := n3_; clear n0_ n1_ n2_ n3_; clear hb hbox hg) | ((with_reducible refine gate_dst (N := 7) rfl ?_); refine Kd.R_lit k77 _ 77 ?hg (N := 7) ?hd (xs := ([] : List (S77))) (inner := []) (ok := fun _ => True) (okp := fun _ => True) ?hr ?hp (fun _ hk => hk) trivial (Below.refl _ _) (Nat.le_refl _) (by simp) ?_; (case hd => rfl); (case hg => rfl); (case hr => first | (go_simp; done) | (go_simp; rfl)); (case hp => exact (Reps.none _ _)); intro v103 w4 ho5 hb hg_ hnew_; clear hg_ hnew_; (first | rw [← Ny102.out] at ho5 | (simp only [Int.reduceToNat] at ho5; rw [← Ny102.out] at ho5)); have n0_ := Aside0.mk (Kd.R_lower ho5 (below_size (by repeat (first | (with_reducible first | exact HB.out | apply below_alloc | apply pw_below_drewN | apply below_drew1 | refine below_set ?_ GE101.out) | exact HB.out)))); have n1_ := Aside0.mk (blk_below (g := gb101) (o := .cells #[.int .i8 a0_0, .int .i8 a0_1, .int .i8 a0_2] 79 (0, 0)) (by (with_reducible repeat (first | refine blk_drewN ?_ _ | refine blk_drew ?_ | refine blk_alloc ?_ _)); exact BK101.out) hb); have n2_ := Aside0.mk (below_step (by repeat (first | (with_reducible first | exact HB.out | apply below_alloc | apply pw_below_drewN | apply below_drew1 | refine below_set ?_ GE101.out) | exact HB.out)) hb); clear BK101; clear HB; have HO104 := n0_; have BK101 := n1_; have HB := n2_; clear n0_ n1_ n2_; clear hb ho5))
  go_loopg [5, 6] k (fun kq v5 v6 w' => ∃ (x5_1 : List (S77)) (x6_1 : Int), v6 = .int .i64 x6_1 ∧ Aside0 (spec_l06Copies.l0 kq a1 x5_1 x6_1 a0_0 a0_1 a0_2 = some r) ∧ Aside0 (kq ≤ k) ∧ Aside0 (Kd.R k77 77 w' w.heap.size (fun _ => True) v5 x5_1) ∧ Aside0 (w'.heap[gb101]? = some (.cells #[.int .i8 a0_0, .int .i8 a0_1, .int .i8 a0_2] 79 (0, 0))) ∧ Aside0 (Below w.heap.size w w'))
  case atStart => exact ⟨(y102), (0), (by first | rfl | (simp; done) | (simp [*]; done)), H', ⟨Nat.le_refl _⟩, ⟨by (with_reducible repeat (first | apply Kd.R_alloc | apply Kd.R_drewN | apply Kd.R_drew)); exact HO104.out⟩, ⟨by (with_reducible repeat (first | refine blk_drewN ?_ _ | refine blk_drew ?_ | refine blk_alloc ?_ _)); exact BK101.out⟩, ⟨by repeat (first | (with_reducible first | exact HB.out | apply below_alloc | apply pw_below_drewN | apply below_drew1 | refine below_set ?_ GE101.out) | exact HB.out)⟩⟩
  case round =>
    clear H'
    try clear p2
    try clear c5
    obtain ⟨x5_1, x6_1, rfl, HA, HK1, HO_5, BK101, HB⟩ := hrel
    cases gk with
    | zero => exact absurd HA.out (by simp [spec_l06Copies.l0])
    | succ k1 =>
      have H := HA.out
      clear HA
      simp only [spec_l06Copies.l0] at H
      by_cases c6 : x6_1 < 3
      · rw [if_pos c6] at H
        have c6b0 : decide (x6_1 < 3) = true := decide_eq_true c6
        clear c6
        by_cases c7 : 0 ≤ x6_1
        · rw [if_pos c7] at H
          have c7b0 : decide (0 ≤ x6_1) = true := decide_eq_true c7
          clear c7
          by_cases c8 : x5_1.length < 17592186044416
          · rw [if_pos c8] at H
            have LMc8 := Aside0.mk c8
            clear c8
            obtain ⟨y106, hy106⟩ : ∃ y_ : List (S77), y_ = (x5_1 ++ [(⟨2, (rd [a0_0, a0_1, a0_2] x6_1), (⟨a1, 0, 0⟩ : S75)⟩ : S77)]) := ⟨_, rfl⟩
            replace H : (spec_l06Copies.l0 k1 a1 y106 (wrap64 (x6_1 + 1)) a0_0 a0_1 a0_2) = some r := by first | (rw [hy106]; with_reducible exact H) | (have H2_ := (Option.bind_some _ _).symm.trans H; rw [hy106]; with_reducible exact H2_) | (have H2_ := (Option.bind_some _ _).symm.trans H; with_reducible exact H2_) | with_reducible exact H | (rw [hy106]; exact H) | exact H
            have Ny106 := Aside0.mk hy106
            clear hy106
            have H' := Aside0.mk H
            clear H
            have hcz9_0 : wr.cell? ⟨gb101, 0, none⟩ = some (.int .i8 a0_0) := (blk_cell BK101.out 0).trans rfl
            have hcz9_1 : wr.cell? ⟨gb101, 1, none⟩ = some (.int .i8 a0_1) := (blk_cell BK101.out 1).trans rfl
            have hcz9_2 : wr.cell? ⟨gb101, 2, none⟩ = some (.int .i8 a0_2) := (blk_cell BK101.out 2).trans rfl
            have hfz9_0 := blk_frozen BK101.out 0
            have hfz9_1 := blk_frozen BK101.out 1
            have hfz9_2 := blk_frozen BK101.out 2
            have HP105 := Aside0.mk (show 0 ≤ (x6_1 : Int) ∧ (x6_1 : Int) < 3 from ⟨of_decide_eq_true (by first | (with_reducible assumption) | assumption), of_decide_eq_true (by first | (with_reducible assumption) | assumption)⟩)
            have hx105_0 : wr.cell? ⟨gb101, (x6_1 : Int).toNat, none⟩ = some (.int .i8 (rd [a0_0, a0_1, a0_2] x6_1)) := by (rcases (show x6_1 = 0 ∨ x6_1 = 1 ∨ x6_1 = 2 from (by have h_ := HP105.out; omega)) with rfl | rfl | rfl <;> first | exact (blk_cell BK101.out 0).trans rfl | exact (blk_cell BK101.out 1).trans rfl | exact (blk_cell BK101.out 2).trans rfl)
            have hx105_1 : wr.cell? ((⟨gb101, 0, none⟩ : Addr).add (x6_1 : Int).toNat) = some (.int .i8 (rd [a0_0, a0_1, a0_2] x6_1)) := (congrArg _ (add_plain _ _)).trans hx105_0
            have hpz105 := eq_true HP105.out.1
            have hpy105 := eq_true HP105.out.2
            go_wp2_with (first | ((with_reducible refine gate_builtin (b := .append) (xs := #[.tmp 12, .tmp 19]) rfl ?_); at_builtin; refine Kd.R_append k77 (w0 := w) w.heap.size rfl (.tmp 12) (.tmp 19) 22 77 (.agg #[(.int .i8 0), (.int .i8 0), (.int .i16 0), (.int .i16 0), (.int .i16 0)]) 8 rfl Try.underlying22 info77 rfl (by decide) (by omega) u5 x5_1 (⟨2, (rd [a0_0, a0_1, a0_2] x6_1), (⟨a1, 0, 0⟩ : S75)⟩ : S77) [.int .i8 2, .int .i8 (rd [a0_0, a0_1, a0_2] x6_1), .int .i16 a1, .int .i16 0, .int .i16 0] (fun _ => True) (fun _ => False) rfl rfl ?aP (fun _ hk => hk.elim) ?aF ?aO ?aB ?aS ?aL ?_; (case aP => exact k77_mkM _ _ _ (⟨2, (rd [a0_0, a0_1, a0_2] x6_1), (⟨a1, 0, 0⟩ : S75)⟩ : S77)); (case aB => exact (by repeat (first | (with_reducible first | exact HB.out | apply below_alloc | apply pw_below_drewN | apply below_drew1 | refine below_set ?_ GE101.out) | exact HB.out))); (case aF => exact (fun _ _ => trivial)); (case aO => exact (by (with_reducible repeat (first | apply Kd.R_alloc | apply Kd.R_drewN | apply Kd.R_drew)); exact HO_5.out)); (case aS => exact (below_size (by repeat (first | (with_reducible first | exact HB.out | apply below_alloc | apply pw_below_drewN | apply below_drew1 | refine below_set ?_ GE101.out) | exact HB.out)))); (case aL => have := LMc8.out; omega); intro v107 w10 ho hb hg hat; rw [← Ny106.out] at ho; have n0_ := Aside0.mk (blk_grown (g := gb101) (o := .cells #[.int .i8 a0_0, .int .i8 a0_1, .int .i8 a0_2] 79 (0, 0)) (by (with_reducible repeat (first | refine blk_drewN ?_ _ | refine blk_drew ?_ | refine blk_alloc ?_ _)); exact BK101.out) hg (Kd.R_ne HO_5.out BK101.out (by decide))); have n1_ := Aside0.mk (hb); have n2_ := Aside0.mk (ho); clear BK101; clear HB; clear HO_5; have BK101 := n0_; have HB := n1_; have HO108 := n2_; clear n0_ n1_ n2_; clear ho hb hg hat))
            go_roundg k1
            case measure => have := HK1.out; omega
            case rel => exact ⟨(y106), (wrap64 (x6_1 + 1)), (by first | rfl | (simp; done) | (simp [*]; done)), H', ⟨by have := HK1.out; omega⟩, ⟨by (with_reducible repeat (first | apply Kd.R_alloc | apply Kd.R_drewN | apply Kd.R_drew)); exact HO108.out⟩, ⟨by (with_reducible repeat (first | refine blk_drewN ?_ _ | refine blk_drew ?_ | refine blk_alloc ?_ _)); exact BK101.out⟩, ⟨by repeat (first | (with_reducible first | exact HB.out | apply below_alloc | apply pw_below_drewN | apply below_drew1 | refine below_set ?_ GE101.out) | exact HB.out)⟩⟩
          · rw [if_neg c8] at H
            exact absurd H (by simp)
        · rw [if_neg c7] at H
          exact absurd H (by simp)
      · rw [if_neg c6] at H
        have c6b0 : decide (x6_1 < 3) = false := decide_eq_false c6
        clear c6
        obtain rfl := Option.some.inj H
        go_wp2
        go_ret
        exact ⟨_, by first | rfl | (simp [errW_none, errW_some] <;> rfl) | (simp [*, errW_none, errW_some] <;> rfl), by (with_reducible repeat (first | apply Kd.R_alloc | apply Kd.R_drewN | apply Kd.R_drew)); exact HO_5.out, by repeat (first | (with_reducible first | exact HB.out | apply below_alloc | apply pw_below_drewN | apply below_drew1 | refine below_set ?_ GE101.out) | exact HB.out)⟩

/-! ### spec_EchoTree: function 15 -/
def spec_EchoTree.f (k : Nat)  : Option ((List (S77))) := (some (([(⟨1, 0, (⟨1, 2, 3⟩ : S75)⟩ : S77)] : List (S77)) : List (S77))).bind fun y110 => ((spec_l06Copies.f k (-1) 0 1 0).bind fun t113 => (if y110.length + t113.length < 17592186044416 then (some (y110 ++ t113)) else (none)))
theorem spec_EchoTree.mono : ∀ k, LeO (spec_EchoTree.f k ) (spec_EchoTree.f (k + 1) ) := by
  intro  k
  unfold spec_EchoTree.f
  repeat' first
      | (with_reducible exact spec_l06Copies.mono _ _ _ _ _)
      | (with_reducible exact LeO.refl _)
      | (with_reducible exact LeO.none _)
      | (with_reducible refine LeO.ite ?_ ?_)
      | (with_reducible refine LeO.bind ?_ (fun _ => ?_))
      | exact spec_l06Copies.mono _ _ _ _ _
      | exact LeO.none _
      | refine LeO.ite ?_ ?_
      | refine LeO.bind ?_ (fun _ => ?_)
set_option maxHeartbeats 8000000 in
set_option maxRecDepth 100000 in
theorem spec_EchoTree.calls (k : Nat)  (r : List (S77)) (w : World) (h : spec_EchoTree.f k  = some r) :
    Calls Try.prog 15 #[] w fun e w' => ∃ v0_ : Value, e = .returned (.agg #[v0_]) ∧ Kd.R k77 77 w' w.heap.size (fun _ => True) v0_ r ∧ Below w.heap.size w w' := by
  have hu24 := Try.underlying24
  have hu75 := Try.underlying75
  have hu77 := Try.underlying77
  have hu79 := Try.underlying79
  have HB := Aside0.mk (Below.refl w.heap.size w)
  have H : ((some (([(⟨1, 0, (⟨1, 2, 3⟩ : S75)⟩ : S77)] : List (S77)) : List (S77))).bind fun y110 => ((spec_l06Copies.f k (-1) 0 1 0).bind fun t113 => (if y110.length + t113.length < 17592186044416 then (some (y110 ++ t113)) else (none)))) = some r := h
  clear h
  obtain ⟨y110, hy110⟩ : ∃ y_ : List (S77), y_ = (([(⟨1, 0, (⟨1, 2, 3⟩ : S75)⟩ : S77)] : List (S77))) := ⟨_, rfl⟩
  replace H : ((spec_l06Copies.f k (-1) 0 1 0).bind fun t113 => (if y110.length + t113.length < 17592186044416 then (some (y110 ++ t113)) else (none))) = some r := by first | (rw [hy110]; with_reducible exact H) | (have H2_ := (Option.bind_some _ _).symm.trans H; rw [hy110]; with_reducible exact H2_) | (have H2_ := (Option.bind_some _ _).symm.trans H; with_reducible exact H2_) | with_reducible exact H | (rw [hy110]; exact H) | exact H
  have Ny110 := Aside0.mk hy110
  clear hy110
  replace H := Option.bind_eq_some_iff.mp H
  obtain ⟨t113, A10, H⟩ := H
  replace H : (if y110.length + t113.length < 17592186044416 then (some (y110 ++ t113)) else (none)) = some r := H
  have A1 := Aside0.mk A10
  clear A10
  by_cases c2 : y110.length + t113.length < 17592186044416
  · rw [if_pos c2] at H
    have LMc2 := Aside0.mk c2
    clear c2
    obtain ⟨y116, hy116⟩ : ∃ y_ : List (S77), y_ = (y110 ++ t113) := ⟨_, rfl⟩
    replace H : (some y116) = some r := by first | (rw [hy116]; with_reducible exact H) | (have H2_ := (Option.bind_some _ _).symm.trans H; rw [hy116]; with_reducible exact H2_) | (have H2_ := (Option.bind_some _ _).symm.trans H; with_reducible exact H2_) | with_reducible exact H | (rw [hy116]; exact H) | exact H
    have Ny116 := Aside0.mk hy116
    clear hy116
    obtain rfl := Option.some.inj H
    go_enter Try.func15, Try.ntmps15
    go_wp2_with (first | ((with_reducible refine gate_dst (N := 0) rfl ?_); refine box_event ?hg (N := 0) ?hd (cs := #[.slice none 0 0]) (t := 24) ?hr ?_; (case hd => rfl); (case hg => rfl); (case hr => first | (go_simp; done) | (go_simp; rfl)); intro gb109 hg w3 hbox hb; have n0_ := Aside0.mk (below_step (by repeat (first | (with_reducible first | exact HB.out | apply below_alloc | apply pw_below_drewN | apply below_drew1) | exact HB.out)) hb); have n1_ := Aside0.mk (hbox); have n2_ := Aside0.mk ((by rw [hg]; exact (below_size (by repeat (first | (with_reducible first | exact HB.out | apply below_alloc | apply pw_below_drewN | apply below_drew1) | exact HB.out))) : w.heap.size ≤ gb109)); have n3_ := Aside0.mk ((by rw [hg]; exact (below_size (by repeat (first | (with_reducible first | exact HB.out | apply below_alloc | apply pw_below_drewN | apply below_drew1) | exact HB.out))) : w.heap.size ≤ gb109)); clear HB; have HB := n0_; have BK109 := n1_; have GW109 := n2_; have GE109 := n3_; clear n0_ n1_ n2_ n3_; clear hb hbox hg) | ((with_reducible refine gate_dst (N := 3) rfl ?_); refine Kd.R_lit k77 _ 77 ?hg (N := 3) ?hd (xs := ([(⟨1, 0, (⟨1, 2, 3⟩ : S75)⟩ : S77)] : List (S77))) (inner := [.int .i8 1, .int .i8 0, .int .i16 1, .int .i16 2, .int .i16 3]) (ok := fun _ => True) (okp := fun _ => True) ?hr ?hp (fun _ hk => hk) trivial (Below.refl _ _) (Nat.le_refl _) (by simp) ?_; (case hd => rfl); (case hg => rfl); (case hr => first | (go_simp; done) | (go_simp; rfl)); (case hp => exact (Reps.c5 (show Kd.M k77 _ _ _ (⟨1, 0, (⟨1, 2, 3⟩ : S75)⟩ : S77) [.int .i8 1, .int .i8 0, .int .i16 1, .int .i16 2, .int .i16 3] from (k77_mkM _ _ _ (⟨1, 0, (⟨1, 2, 3⟩ : S75)⟩ : S77) )) (Reps.none _ _))); intro v111 w4 ho5 hb hg_ hnew_; clear hg_ hnew_; (first | rw [← Ny110.out] at ho5 | (simp only [Int.reduceToNat] at ho5; rw [← Ny110.out] at ho5)); have n0_ := Aside0.mk (Kd.R_lower ho5 (below_size (by repeat (first | (with_reducible first | exact HB.out | apply below_alloc | apply pw_below_drewN | apply below_drew1 | refine below_set ?_ GE109.out) | exact HB.out)))); have n1_ := Aside0.mk (blk_below (g := gb109) (o := .cells #[.slice none 0 0] 24 (0, 0)) (by (with_reducible repeat (first | refine blk_drewN ?_ _ | refine blk_drew ?_ | refine blk_alloc ?_ _)); exact BK109.out) hb); have n2_ := Aside0.mk (below_step (by repeat (first | (with_reducible first | exact HB.out | apply below_alloc | apply pw_below_drewN | apply below_drew1 | refine below_set ?_ GE109.out) | exact HB.out)) hb); clear BK109; clear HB; have HO112 := n0_; have BK109 := n1_; have HB := n2_; clear n0_ n1_ n2_; clear hb ho5) | ((with_reducible refine gate_callee (f := 54) rfl ?_); refine goesL_ (some 5) rfl rfl Try.func54 (by kernel_rfl) rfl #[.agg #[.int .i8 (-1), .int .i8 0, .int .i8 1], .int .i16 0] rfl (by (try simp only [List.map_toArray, List.map_cons, List.map_nil]); first | done | rfl | (simp only [List.length_drop, List.length_take]; rfl)) ?_; (with_reducible refine (spec_l06Copies.calls k (-1) 0 1 0 t113 _ A1.out).mono ?_); rintro e w6 ⟨v114, rfl, ho0, hb⟩; refine ⟨_, rfl, ?_⟩; have n0_ := Aside0.mk (Kd.R_elder' (by (with_reducible repeat (first | apply Kd.R_alloc | apply Kd.R_drewN | apply Kd.R_drew)); exact HO112.out) (Kd.R_base ho0) hb); have n1_ := Aside0.mk (Kd.R_lower (Kd.R_new' ho0 (Kd.R_lt (by (with_reducible repeat (first | apply Kd.R_alloc | apply Kd.R_drewN | apply Kd.R_drew)); exact HO112.out))) (below_size (by repeat (first | (with_reducible first | exact HB.out | apply below_alloc | apply pw_below_drewN | apply below_drew1 | refine below_set ?_ GE109.out) | exact HB.out)))); have n2_ := Aside0.mk (blk_below (g := gb109) (o := .cells #[.slice none 0 0] 24 (0, 0)) (by (with_reducible repeat (first | refine blk_drewN ?_ _ | refine blk_drew ?_ | refine blk_alloc ?_ _)); exact BK109.out) hb); have n3_ := Aside0.mk (below_step (by repeat (first | (with_reducible first | exact HB.out | apply below_alloc | apply pw_below_drewN | apply below_drew1 | refine below_set ?_ GE109.out) | exact HB.out)) hb); clear HO112; clear BK109; clear HB; have HO112 := n0_; have HO115 := n1_; have BK109 := n2_; have HB := n3_; clear n0_ n1_ n2_ n3_; (try clear hb); (try clear hb2); (try clear hk); (try clear hi); (try clear ho0); obtain ⟨Ao8, co8, eo8⟩ := Kd.R_slice HO115.out; subst eo8) | ((with_reducible refine gate_builtin (b := .append) (xs := #[.tmp 3, .tmp 5]) rfl ?_); at_builtin; refine Kd.R_append_rows k77 (w0 := w) w.heap.size rfl (.tmp 3) (.tmp 5) 22 77 (.agg #[(.int .i8 0), (.int .i8 0), (.int .i16 0), (.int .i16 0), (.int .i16 0)]) 8 rfl Try.underlying22 info77 rfl (by decide) (by omega) v111 y110 t113 _ _ _ (fun k_ => some k_ ≠ (.slice Ao8 t113.length co8 : Value).ownBlock) (fun _ => False) rfl rfl ?aO ?aR (fun _ _ h => h) (fun _ h => h.elim) ?aF ?aB ?aS ?aL ?_; (case aR => repeat (first | exact (Kd.R_reads' HO115.out).2.2 | (with_reducible refine Kd.C_alloc ?_ _) | (with_reducible refine Kd.C_drewN ?_ _) | (with_reducible refine Kd.C_drew ?_))); (case aB => exact (by repeat (first | (with_reducible first | exact HB.out | apply below_alloc | apply pw_below_drewN | apply below_drew1 | refine below_set ?_ GE109.out) | exact HB.out))); (case aF => exact (fun k_ hk => Kd.fresh' (Kd.R_lt (by (with_reducible repeat (first | apply Kd.R_alloc | apply Kd.R_drewN | apply Kd.R_drew)); exact HO115.out)) k_ hk)); (case aO => exact (by (with_reducible repeat (first | apply Kd.R_alloc | apply Kd.R_drewN | apply Kd.R_drew)); exact Kd.R_mono HO112.out (fun _ hk => hk.2))); (case aS => exact (below_size (by repeat (first | (with_reducible first | exact HB.out | apply below_alloc | apply pw_below_drewN | apply below_drew1 | refine below_set ?_ GE109.out) | exact HB.out)))); (case aL => have := LMc2.out; omega); intro v117 w7 ho hb hg hat; rw [← Ny116.out] at ho; have n0_ := Aside0.mk (blk_grown (g := gb109) (o := .cells #[.slice none 0 0] 24 (0, 0)) (by (with_reducible repeat (first | refine blk_drewN ?_ _ | refine blk_drew ?_ | refine blk_alloc ?_ _)); exact BK109.out) hg (Kd.R_ne HO112.out BK109.out (by decide))); have n1_ := Aside0.mk (Kd.R_after (ok := (fun _ => True)) (by (with_reducible repeat (first | apply Kd.R_alloc | apply Kd.R_drewN | apply Kd.R_drew)); exact HO115.out) hg hat); have n2_ := Aside0.mk (hb); have n3_ := Aside0.mk (ho); clear BK109; clear HO115; clear HB; clear HO112; have BK109 := n0_; have HO115 := n1_; have HB := n2_; have HO118 := n3_; clear n0_ n1_ n2_ n3_; clear ho hb hg hat; obtain ⟨Ao9, co9, eo9⟩ := Kd.R_slice HO118.out; subst eo9; have hcz10_0 : w7.cell? ⟨gb109, 0, none⟩ = some (.slice none 0 0) := (blk_cell BK109.out 0).trans rfl; have hfz10_0 := blk_frozen BK109.out 0))
    refine bodyPost_ret (results_cell_row rfl _ _ gb109 24 #[.slice Ao9 y116.length co9] (0, 0) _ rfl (by (with_reducible repeat (first | refine blk_drewN ?_ _ | refine blk_drew ?_ | refine blk_alloc ?_ _)); refine blk_put (cs := #[.slice none 0 0]) ?_ 0 _ rfl; (with_reducible repeat (first | refine blk_drewN ?_ _ | refine blk_drew ?_ | refine blk_alloc ?_ _)); exact BK109.out) Try.underlying24 rfl (by kernel_rfl)) rfl ?_
    exact ⟨_, by first | rfl | (simp [errW_none, errW_some] <;> rfl) | (simp [*, errW_none, errW_some] <;> rfl), by (with_reducible repeat (first | apply Kd.R_alloc | apply Kd.R_drewN | apply Kd.R_drew)); exact Kd.R_mono (Kd.R_far (p := ⟨gb109, 0, none⟩) (Kd.R_types HO118.out BK109.out (by decide)) (fun _ hk => hk.2) (.slice Ao9 y116.length co9)) (fun _ hk => trivial), by repeat (first | (with_reducible first | exact HB.out | apply below_alloc | apply pw_below_drewN | apply below_drew1 | refine below_set ?_ GE109.out) | exact HB.out)⟩
  · rw [if_neg c2] at H
    exact absurd H (by simp)

/-! ### impl_asks: function 55 -/
def impl_asks.f (a0 : Int) (a1 : Int) (a2 : Int) : Option (Int × Int × Int × Int × Int) := some (1, 0, a0, a1, a2)
set_option maxHeartbeats 8000000 in
set_option maxRecDepth 100000 in
theorem impl_asks.calls (a0 : Int) (a1 : Int) (a2 : Int) (r1 : Int) (r2 : Int) (r3 : Int) (r4 : Int) (r5 : Int) (w : World) (h : impl_asks.f a0 a1 a2 = some (r1, r2, r3, r4, r5)) :
    Calls Try.prog 55 #[.int .i16 a0, .int .i16 a1, .int .i16 a2] w fun e w' => e = .returned (.agg #[.int .i8 r1, .int .i8 r2, .int .i16 r3, .int .i16 r4, .int .i16 r5]) ∧ Below w.heap.size w w' := by
  have hu77 := Try.underlying77
  have hu75 := Try.underlying75
  have HB := Aside0.mk (Below.refl w.heap.size w)
  have H : (some (1, 0, a0, a1, a2)) = some (r1, r2, r3, r4, r5) := h
  clear h
  simp only [Option.some.injEq, Prod.mk.injEq] at H
  obtain ⟨rfl, rfl, rfl, rfl, rfl⟩ := H
  go_enter Try.func55, Try.ntmps55
  go_wp2_with (first | ((with_reducible refine gate_dst (N := 6) rfl ?_); refine box_event ?hg (N := 6) ?hd (cs := #[.int .i8 0, .int .i8 0, .int .i16 0, .int .i16 0, .int .i16 0]) (t := 77) ?hr ?_; (case hd => rfl); (case hg => rfl); (case hr => first | (go_simp; done) | (go_simp; rfl)); intro gb119 hg w4 hbox hb; have n0_ := Aside0.mk (below_step (by repeat (first | (with_reducible first | exact HB.out | apply below_alloc | apply pw_below_drewN | apply below_drew1) | exact HB.out)) hb); have n1_ := Aside0.mk (hbox); have n2_ := Aside0.mk ((by rw [hg]; exact (below_size (by repeat (first | (with_reducible first | exact HB.out | apply below_alloc | apply pw_below_drewN | apply below_drew1) | exact HB.out))) : w.heap.size ≤ gb119)); have n3_ := Aside0.mk ((by rw [hg]; exact (below_size (by repeat (first | (with_reducible first | exact HB.out | apply below_alloc | apply pw_below_drewN | apply below_drew1) | exact HB.out))) : w.heap.size ≤ gb119)); clear HB; have HB := n0_; have BK119 := n1_; have GW119 := n2_; have GE119 := n3_; clear n0_ n1_ n2_ n3_; clear hb hbox hg; have hcz5_0 : w4.cell? ⟨gb119, 0, none⟩ = some (.int .i8 0) := (blk_cell BK119.out 0).trans rfl; have hcz5_1 : w4.cell? ⟨gb119, 1, none⟩ = some (.int .i8 0) := (blk_cell BK119.out 1).trans rfl; have hcz5_2 : w4.cell? ⟨gb119, 2, none⟩ = some (.int .i16 0) := (blk_cell BK119.out 2).trans rfl; have hcz5_3 : w4.cell? ⟨gb119, 3, none⟩ = some (.int .i16 0) := (blk_cell BK119.out 3).trans rfl; have hcz5_4 : w4.cell? ⟨gb119, 4, none⟩ = some (.int .i16 0) := (blk_cell BK119.out 4).trans rfl; have hfz5_0 := blk_frozen BK119.out 0; have hfz5_1 := blk_frozen BK119.out 1; have hfz5_2 := blk_frozen BK119.out 2; have hfz5_3 := blk_frozen BK119.out 3; have hfz5_4 := blk_frozen BK119.out 4))
  refine bodyPost_ret (results_cell_row rfl _ _ gb119 77 #[.int .i8 1, .int .i8 0, .int .i16 a0, .int .i16 a1, .int .i16 a2] (0, 0) _ rfl (by (with_reducible repeat (first | refine blk_drewN ?_ _ | refine blk_drew ?_ | refine blk_alloc ?_ _)); refine blk_put (cs := #[.int .i8 1, .int .i8 0, .int .i16 a0, .int .i16 a1, .int .i16 0]) ?_ 4 _ rfl; (with_reducible repeat (first | refine blk_drewN ?_ _ | refine blk_drew ?_ | refine blk_alloc ?_ _)); refine blk_put (cs := #[.int .i8 1, .int .i8 0, .int .i16 a0, .int .i16 0, .int .i16 0]) ?_ 3 _ rfl; (with_reducible repeat (first | refine blk_drewN ?_ _ | refine blk_drew ?_ | refine blk_alloc ?_ _)); refine blk_put (cs := #[.int .i8 1, .int .i8 0, .int .i16 0, .int .i16 0, .int .i16 0]) ?_ 2 _ rfl; (with_reducible repeat (first | refine blk_drewN ?_ _ | refine blk_drew ?_ | refine blk_alloc ?_ _)); refine blk_put (cs := #[.int .i8 1, .int .i8 0, .int .i16 0, .int .i16 0, .int .i16 0]) ?_ 1 _ rfl; (with_reducible repeat (first | refine blk_drewN ?_ _ | refine blk_drew ?_ | refine blk_alloc ?_ _)); refine blk_put (cs := #[.int .i8 0, .int .i8 0, .int .i16 0, .int .i16 0, .int .i16 0]) ?_ 0 _ rfl; (with_reducible repeat (first | refine blk_drewN ?_ _ | refine blk_drew ?_ | refine blk_alloc ?_ _)); exact BK119.out) Try.underlying77 rfl (by kernel_rfl)) rfl ?_
  exact ⟨by first | rfl | (simp [errW_none, errW_some] <;> rfl) | (simp [*, errW_none, errW_some] <;> rfl), by repeat (first | (with_reducible first | exact HB.out | apply below_alloc | apply pw_below_drewN | apply below_drew1 | refine below_set ?_ GE119.out) | exact HB.out)⟩

/-! ### impl_tells: function 56 -/
def impl_tells.f (a0 : Int) (a1 : Int) : Option (Int × Int × Int × Int × Int) := some (2, a0, a1, 0, 0)
set_option maxHeartbeats 8000000 in
set_option maxRecDepth 100000 in
theorem impl_tells.calls (a0 : Int) (a1 : Int) (r1 : Int) (r2 : Int) (r3 : Int) (r4 : Int) (r5 : Int) (w : World) (h : impl_tells.f a0 a1 = some (r1, r2, r3, r4, r5)) :
    Calls Try.prog 56 #[.int .i8 a0, .int .i16 a1] w fun e w' => e = .returned (.agg #[.int .i8 r1, .int .i8 r2, .int .i16 r3, .int .i16 r4, .int .i16 r5]) ∧ Below w.heap.size w w' := by
  have hu77 := Try.underlying77
  have hu75 := Try.underlying75
  have HB := Aside0.mk (Below.refl w.heap.size w)
  have H : (some (2, a0, a1, 0, 0)) = some (r1, r2, r3, r4, r5) := h
  clear h
  simp only [Option.some.injEq, Prod.mk.injEq] at H
  obtain ⟨rfl, rfl, rfl, rfl, rfl⟩ := H
  go_enter Try.func56, Try.ntmps56
  go_wp2_with (first | ((with_reducible refine gate_dst (N := 4) rfl ?_); refine box_event ?hg (N := 4) ?hd (cs := #[.int .i8 0, .int .i8 0, .int .i16 0, .int .i16 0, .int .i16 0]) (t := 77) ?hr ?_; (case hd => rfl); (case hg => rfl); (case hr => first | (go_simp; done) | (go_simp; rfl)); intro gb120 hg w3 hbox hb; have n0_ := Aside0.mk (below_step (by repeat (first | (with_reducible first | exact HB.out | apply below_alloc | apply pw_below_drewN | apply below_drew1) | exact HB.out)) hb); have n1_ := Aside0.mk (hbox); have n2_ := Aside0.mk ((by rw [hg]; exact (below_size (by repeat (first | (with_reducible first | exact HB.out | apply below_alloc | apply pw_below_drewN | apply below_drew1) | exact HB.out))) : w.heap.size ≤ gb120)); have n3_ := Aside0.mk ((by rw [hg]; exact (below_size (by repeat (first | (with_reducible first | exact HB.out | apply below_alloc | apply pw_below_drewN | apply below_drew1) | exact HB.out))) : w.heap.size ≤ gb120)); clear HB; have HB := n0_; have BK120 := n1_; have GW120 := n2_; have GE120 := n3_; clear n0_ n1_ n2_ n3_; clear hb hbox hg; have hcz4_0 : w3.cell? ⟨gb120, 0, none⟩ = some (.int .i8 0) := (blk_cell BK120.out 0).trans rfl; have hcz4_1 : w3.cell? ⟨gb120, 1, none⟩ = some (.int .i8 0) := (blk_cell BK120.out 1).trans rfl; have hcz4_2 : w3.cell? ⟨gb120, 2, none⟩ = some (.int .i16 0) := (blk_cell BK120.out 2).trans rfl; have hcz4_3 : w3.cell? ⟨gb120, 3, none⟩ = some (.int .i16 0) := (blk_cell BK120.out 3).trans rfl; have hcz4_4 : w3.cell? ⟨gb120, 4, none⟩ = some (.int .i16 0) := (blk_cell BK120.out 4).trans rfl; have hfz4_0 := blk_frozen BK120.out 0; have hfz4_1 := blk_frozen BK120.out 1; have hfz4_2 := blk_frozen BK120.out 2; have hfz4_3 := blk_frozen BK120.out 3; have hfz4_4 := blk_frozen BK120.out 4))
  refine bodyPost_ret (results_cell_row rfl _ _ gb120 77 #[.int .i8 2, .int .i8 a0, .int .i16 a1, .int .i16 0, .int .i16 0] (0, 0) _ rfl (by (with_reducible repeat (first | refine blk_drewN ?_ _ | refine blk_drew ?_ | refine blk_alloc ?_ _)); refine blk_put (cs := #[.int .i8 2, .int .i8 a0, .int .i16 a1, .int .i16 0, .int .i16 0]) ?_ 4 _ rfl; (with_reducible repeat (first | refine blk_drewN ?_ _ | refine blk_drew ?_ | refine blk_alloc ?_ _)); refine blk_put (cs := #[.int .i8 2, .int .i8 a0, .int .i16 a1, .int .i16 0, .int .i16 0]) ?_ 3 _ rfl; (with_reducible repeat (first | refine blk_drewN ?_ _ | refine blk_drew ?_ | refine blk_alloc ?_ _)); refine blk_put (cs := #[.int .i8 2, .int .i8 a0, .int .i16 0, .int .i16 0, .int .i16 0]) ?_ 2 _ rfl; (with_reducible repeat (first | refine blk_drewN ?_ _ | refine blk_drew ?_ | refine blk_alloc ?_ _)); refine blk_put (cs := #[.int .i8 2, .int .i8 0, .int .i16 0, .int .i16 0, .int .i16 0]) ?_ 1 _ rfl; (with_reducible repeat (first | refine blk_drewN ?_ _ | refine blk_drew ?_ | refine blk_alloc ?_ _)); refine blk_put (cs := #[.int .i8 0, .int .i8 0, .int .i16 0, .int .i16 0, .int .i16 0]) ?_ 0 _ rfl; (with_reducible repeat (first | refine blk_drewN ?_ _ | refine blk_drew ?_ | refine blk_alloc ?_ _)); exact BK120.out) Try.underlying77 rfl (by kernel_rfl)) rfl ?_
  exact ⟨by first | rfl | (simp [errW_none, errW_some] <;> rfl) | (simp [*, errW_none, errW_some] <;> rfl), by repeat (first | (with_reducible first | exact HB.out | apply below_alloc | apply pw_below_drewN | apply below_drew1 | refine below_set ?_ GE120.out) | exact HB.out)⟩

/-! ### impl_EchoTree: function 16 -/
def impl_EchoTree.f  : Option ((List (S77))) := (impl_asks.f 1 2 3).bind fun bt122 => ((impl_tells.f (-1) 0).bind fun bt127 => ((impl_tells.f 0 0).bind fun bt132 => ((impl_tells.f 1 0).bind fun bt137 => (some (([(⟨bt122.1, bt122.2.1, (⟨bt122.2.2.1, bt122.2.2.2.1, bt122.2.2.2.2⟩ : S75)⟩ : S77), (⟨bt127.1, bt127.2.1, (⟨bt127.2.2.1, bt127.2.2.2.1, bt127.2.2.2.2⟩ : S75)⟩ : S77), (⟨bt132.1, bt132.2.1, (⟨bt132.2.2.1, bt132.2.2.2.1, bt132.2.2.2.2⟩ : S75)⟩ : S77), (⟨bt137.1, bt137.2.1, (⟨bt137.2.2.1, bt137.2.2.2.1, bt137.2.2.2.2⟩ : S75)⟩ : S77)] : List (S77)))))))
set_option maxHeartbeats 8000000 in
set_option maxRecDepth 100000 in
theorem impl_EchoTree.calls  (r : List (S77)) (w : World) (h : impl_EchoTree.f  = some r) :
    Calls Try.prog 16 #[] w fun e w' => ∃ v0_ : Value, e = .returned (.agg #[v0_]) ∧ Kd.R k77 77 w' w.heap.size (fun _ => True) v0_ r ∧ Below w.heap.size w w' := by
  have hu24 := Try.underlying24
  have HB := Aside0.mk (Below.refl w.heap.size w)
  have H : ((impl_asks.f 1 2 3).bind fun bt122 => ((impl_tells.f (-1) 0).bind fun bt127 => ((impl_tells.f 0 0).bind fun bt132 => ((impl_tells.f 1 0).bind fun bt137 => (some (([(⟨bt122.1, bt122.2.1, (⟨bt122.2.2.1, bt122.2.2.2.1, bt122.2.2.2.2⟩ : S75)⟩ : S77), (⟨bt127.1, bt127.2.1, (⟨bt127.2.2.1, bt127.2.2.2.1, bt127.2.2.2.2⟩ : S75)⟩ : S77), (⟨bt132.1, bt132.2.1, (⟨bt132.2.2.1, bt132.2.2.2.1, bt132.2.2.2.2⟩ : S75)⟩ : S77), (⟨bt137.1, bt137.2.1, (⟨bt137.2.2.1, bt137.2.2.2.1, bt137.2.2.2.2⟩ : S75)⟩ : S77)] : List (S77)))))))) = some r := h
  clear h
  replace H := Option.bind_eq_some_iff.mp H
  obtain ⟨⟨t122, t123, t124, t125, t126⟩, A10, H⟩ := H
  replace H : ((impl_tells.f (-1) 0).bind fun bt127 => ((impl_tells.f 0 0).bind fun bt132 => ((impl_tells.f 1 0).bind fun bt137 => (some (([(⟨t122, t123, (⟨t124, t125, t126⟩ : S75)⟩ : S77), (⟨bt127.1, bt127.2.1, (⟨bt127.2.2.1, bt127.2.2.2.1, bt127.2.2.2.2⟩ : S75)⟩ : S77), (⟨bt132.1, bt132.2.1, (⟨bt132.2.2.1, bt132.2.2.2.1, bt132.2.2.2.2⟩ : S75)⟩ : S77), (⟨bt137.1, bt137.2.1, (⟨bt137.2.2.1, bt137.2.2.2.1, bt137.2.2.2.2⟩ : S75)⟩ : S77)] : List (S77))))))) = some r := H
  have A1 := Aside0.mk A10
  clear A10
  replace H := Option.bind_eq_some_iff.mp H
  obtain ⟨⟨t127, t128, t129, t130, t131⟩, A20, H⟩ := H
  replace H : ((impl_tells.f 0 0).bind fun bt132 => ((impl_tells.f 1 0).bind fun bt137 => (some (([(⟨t122, t123, (⟨t124, t125, t126⟩ : S75)⟩ : S77), (⟨t127, t128, (⟨t129, t130, t131⟩ : S75)⟩ : S77), (⟨bt132.1, bt132.2.1, (⟨bt132.2.2.1, bt132.2.2.2.1, bt132.2.2.2.2⟩ : S75)⟩ : S77), (⟨bt137.1, bt137.2.1, (⟨bt137.2.2.1, bt137.2.2.2.1, bt137.2.2.2.2⟩ : S75)⟩ : S77)] : List (S77)))))) = some r := H
  have A2 := Aside0.mk A20
  clear A20
  replace H := Option.bind_eq_some_iff.mp H
  obtain ⟨⟨t132, t133, t134, t135, t136⟩, A30, H⟩ := H
  replace H : ((impl_tells.f 1 0).bind fun bt137 => (some (([(⟨t122, t123, (⟨t124, t125, t126⟩ : S75)⟩ : S77), (⟨t127, t128, (⟨t129, t130, t131⟩ : S75)⟩ : S77), (⟨t132, t133, (⟨t134, t135, t136⟩ : S75)⟩ : S77), (⟨bt137.1, bt137.2.1, (⟨bt137.2.2.1, bt137.2.2.2.1, bt137.2.2.2.2⟩ : S75)⟩ : S77)] : List (S77))))) = some r := H
  have A3 := Aside0.mk A30
  clear A30
  replace H := Option.bind_eq_some_iff.mp H
  obtain ⟨⟨t137, t138, t139, t140, t141⟩, A40, H⟩ := H
  replace H : (some (([(⟨t122, t123, (⟨t124, t125, t126⟩ : S75)⟩ : S77), (⟨t127, t128, (⟨t129, t130, t131⟩ : S75)⟩ : S77), (⟨t132, t133, (⟨t134, t135, t136⟩ : S75)⟩ : S77), (⟨t137, t138, (⟨t139, t140, t141⟩ : S75)⟩ : S77)] : List (S77)))) = some r := H
  have A4 := Aside0.mk A40
  clear A40
  obtain ⟨y142, hy142⟩ : ∃ y_ : List (S77), y_ = (([(⟨t122, t123, (⟨t124, t125, t126⟩ : S75)⟩ : S77), (⟨t127, t128, (⟨t129, t130, t131⟩ : S75)⟩ : S77), (⟨t132, t133, (⟨t134, t135, t136⟩ : S75)⟩ : S77), (⟨t137, t138, (⟨t139, t140, t141⟩ : S75)⟩ : S77)] : List (S77))) := ⟨_, rfl⟩
  replace H : (some y142) = some r := by first | (rw [hy142]; with_reducible exact H) | (have H2_ := (Option.bind_some _ _).symm.trans H; rw [hy142]; with_reducible exact H2_) | (have H2_ := (Option.bind_some _ _).symm.trans H; with_reducible exact H2_) | with_reducible exact H | (rw [hy142]; exact H) | exact H
  have Ny142 := Aside0.mk hy142
  clear hy142
  obtain rfl := Option.some.inj H
  go_enter Try.func16, Try.ntmps16
  go_wp2_with (first | ((with_reducible refine gate_dst (N := 0) rfl ?_); refine box_event ?hg (N := 0) ?hd (cs := #[.slice none 0 0]) (t := 24) ?hr ?_; (case hd => rfl); (case hg => rfl); (case hr => first | (go_simp; done) | (go_simp; rfl)); intro gb121 hg w5 hbox hb; have n0_ := Aside0.mk (below_step (by repeat (first | (with_reducible first | exact HB.out | apply below_alloc | apply pw_below_drewN | apply below_drew1) | exact HB.out)) hb); have n1_ := Aside0.mk (hbox); have n2_ := Aside0.mk ((by rw [hg]; exact (below_size (by repeat (first | (with_reducible first | exact HB.out | apply below_alloc | apply pw_below_drewN | apply below_drew1) | exact HB.out))) : w.heap.size ≤ gb121)); have n3_ := Aside0.mk ((by rw [hg]; exact (below_size (by repeat (first | (with_reducible first | exact HB.out | apply below_alloc | apply pw_below_drewN | apply below_drew1) | exact HB.out))) : w.heap.size ≤ gb121)); clear HB; have HB := n0_; have BK121 := n1_; have GW121 := n2_; have GE121 := n3_; clear n0_ n1_ n2_ n3_; clear hb hbox hg) | ((with_reducible refine gate_callee (f := 55) rfl ?_); refine goesL_ (some 1) rfl rfl Try.func55 (by kernel_rfl) rfl #[.int .i16 1, .int .i16 2, .int .i16 3] rfl (by (try simp only [List.map_toArray, List.map_cons, List.map_nil]); first | done | rfl | (simp only [List.length_drop, List.length_take]; rfl)) ?_; (with_reducible refine (impl_asks.calls 1 2 3 t122 t123 t124 t125 t126 _ A1.out).mono ?_); rintro e w6 ⟨rfl, hb⟩; refine ⟨_, rfl, ?_⟩; have n0_ := Aside0.mk (blk_below (g := gb121) (o := .cells #[.slice none 0 0] 24 (0, 0)) (by (with_reducible repeat (first | refine blk_drewN ?_ _ | refine blk_drew ?_ | refine blk_alloc ?_ _)); exact BK121.out) hb); have n1_ := Aside0.mk (below_step (by repeat (first | (with_reducible first | exact HB.out | apply below_alloc | apply pw_below_drewN | apply below_drew1 | refine below_set ?_ GE121.out) | exact HB.out)) hb); clear BK121; clear HB; have BK121 := n0_; have HB := n1_; clear n0_ n1_; (try clear hb); (try clear hb2); (try clear hk); (try clear hi)) | ((with_reducible refine gate_callee (f := 56) rfl ?_); refine goesL_ (some 2) rfl rfl Try.func56 (by kernel_rfl) rfl #[.int .i8 (-1), .int .i16 0] rfl (by (try simp only [List.map_toArray, List.map_cons, List.map_nil]); first | done | rfl | (simp only [List.length_drop, List.length_take]; rfl)) ?_; (with_reducible refine (impl_tells.calls (-1) 0 t127 t128 t129 t130 t131 _ A2.out).mono ?_); rintro e w7 ⟨rfl, hb⟩; refine ⟨_, rfl, ?_⟩; have n0_ := Aside0.mk (blk_below (g := gb121) (o := .cells #[.slice none 0 0] 24 (0, 0)) (by (with_reducible repeat (first | refine blk_drewN ?_ _ | refine blk_drew ?_ | refine blk_alloc ?_ _)); exact BK121.out) hb); have n1_ := Aside0.mk (below_step (by repeat (first | (with_reducible first | exact HB.out | apply below_alloc | apply pw_below_drewN | apply below_drew1 | refine below_set ?_ GE121.out) | exact HB.out)) hb); clear BK121; clear HB; have BK121 := n0_; have HB := n1_; clear n0_ n1_; (try clear hb); (try clear hb2); (try clear hk); (try clear hi)) | ((with_reducible refine gate_callee (f := 56) rfl ?_); refine goesL_ (some 3) rfl rfl Try.func56 (by kernel_rfl) rfl #[.int .i8 0, .int .i16 0] rfl (by (try simp only [List.map_toArray, List.map_cons, List.map_nil]); first | done | rfl | (simp only [List.length_drop, List.length_take]; rfl)) ?_; (with_reducible refine (impl_tells.calls 0 0 t132 t133 t134 t135 t136 _ A3.out).mono ?_); rintro e w8 ⟨rfl, hb⟩; refine ⟨_, rfl, ?_⟩; have n0_ := Aside0.mk (blk_below (g := gb121) (o := .cells #[.slice none 0 0] 24 (0, 0)) (by (with_reducible repeat (first | refine blk_drewN ?_ _ | refine blk_drew ?_ | refine blk_alloc ?_ _)); exact BK121.out) hb); have n1_ := Aside0.mk (below_step (by repeat (first | (with_reducible first | exact HB.out | apply below_alloc | apply pw_below_drewN | apply below_drew1 | refine below_set ?_ GE121.out) | exact HB.out)) hb); clear BK121; clear HB; have BK121 := n0_; have HB := n1_; clear n0_ n1_; (try clear hb); (try clear hb2); (try clear hk); (try clear hi)) | ((with_reducible refine gate_callee (f := 56) rfl ?_); refine goesL_ (some 4) rfl rfl Try.func56 (by kernel_rfl) rfl #[.int .i8 1, .int .i16 0] rfl (by (try simp only [List.map_toArray, List.map_cons, List.map_nil]); first | done | rfl | (simp only [List.length_drop, List.length_take]; rfl)) ?_; (with_reducible refine (impl_tells.calls 1 0 t137 t138 t139 t140 t141 _ A4.out).mono ?_); rintro e w9 ⟨rfl, hb⟩; refine ⟨_, rfl, ?_⟩; have n0_ := Aside0.mk (blk_below (g := gb121) (o := .cells #[.slice none 0 0] 24 (0, 0)) (by (with_reducible repeat (first | refine blk_drewN ?_ _ | refine blk_drew ?_ | refine blk_alloc ?_ _)); exact BK121.out) hb); have n1_ := Aside0.mk (below_step (by repeat (first | (with_reducible first | exact HB.out | apply below_alloc | apply pw_below_drewN | apply below_drew1 | refine below_set ?_ GE121.out) | exact HB.out)) hb); clear BK121; clear HB; have BK121 := n0_; have HB := n1_; clear n0_ n1_; (try clear hb); (try clear hb2); (try clear hk); (try clear hi)) | ((with_reducible refine gate_dst (N := 5) rfl ?_); refine Kd.R_lit k77 _ 77 ?hg (N := 5) ?hd (xs := ([(⟨t122, t123, (⟨t124, t125, t126⟩ : S75)⟩ : S77), (⟨t127, t128, (⟨t129, t130, t131⟩ : S75)⟩ : S77), (⟨t132, t133, (⟨t134, t135, t136⟩ : S75)⟩ : S77), (⟨t137, t138, (⟨t139, t140, t141⟩ : S75)⟩ : S77)] : List (S77))) (inner := [.int .i8 t122, .int .i8 t123, .int .i16 t124, .int .i16 t125, .int .i16 t126, .int .i8 t127, .int .i8 t128, .int .i16 t129, .int .i16 t130, .int .i16 t131, .int .i8 t132, .int .i8 t133, .int .i16 t134, .int .i16 t135, .int .i16 t136, .int .i8 t137, .int .i8 t138, .int .i16 t139, .int .i16 t140, .int .i16 t141]) (ok := fun _ => True) (okp := fun _ => True) ?hr ?hp (fun _ hk => hk) trivial (Below.refl _ _) (Nat.le_refl _) (by simp) ?_; (case hd => rfl); (case hg => rfl); (case hr => first | (go_simp; done) | (go_simp; rfl)); (case hp => exact (Reps.c5 (show Kd.M k77 _ _ _ (⟨t122, t123, (⟨t124, t125, t126⟩ : S75)⟩ : S77) [.int .i8 t122, .int .i8 t123, .int .i16 t124, .int .i16 t125, .int .i16 t126] from (k77_mkM _ _ _ (⟨t122, t123, (⟨t124, t125, t126⟩ : S75)⟩ : S77) )) (Reps.c5 (show Kd.M k77 _ _ _ (⟨t127, t128, (⟨t129, t130, t131⟩ : S75)⟩ : S77) [.int .i8 t127, .int .i8 t128, .int .i16 t129, .int .i16 t130, .int .i16 t131] from (k77_mkM _ _ _ (⟨t127, t128, (⟨t129, t130, t131⟩ : S75)⟩ : S77) )) (Reps.c5 (show Kd.M k77 _ _ _ (⟨t132, t133, (⟨t134, t135, t136⟩ : S75)⟩ : S77) [.int .i8 t132, .int .i8 t133, .int .i16 t134, .int .i16 t135, .int .i16 t136] from (k77_mkM _ _ _ (⟨t132, t133, (⟨t134, t135, t136⟩ : S75)⟩ : S77) )) (Reps.c5 (show Kd.M k77 _ _ _ (⟨t137, t138, (⟨t139, t140, t141⟩ : S75)⟩ : S77) [.int .i8 t137, .int .i8 t138, .int .i16 t139, .int .i16 t140, .int .i16 t141] from (k77_mkM _ _ _ (⟨t137, t138, (⟨t139, t140, t141⟩ : S75)⟩ : S77) )) (Reps.none _ _)))))); intro v143 w10 ho11 hb hg_ hnew_; clear hg_ hnew_; (first | rw [← Ny142.out] at ho11 | (simp only [Int.reduceToNat] at ho11; rw [← Ny142.out] at ho11)); have n0_ := Aside0.mk (Kd.R_lower ho11 (below_size (by repeat (first | (with_reducible first | exact HB.out | apply below_alloc | apply pw_below_drewN | apply below_drew1 | refine below_set ?_ GE121.out) | exact HB.out)))); have n1_ := Aside0.mk (blk_below (g := gb121) (o := .cells #[.slice none 0 0] 24 (0, 0)) (by (with_reducible repeat (first | refine blk_drewN ?_ _ | refine blk_drew ?_ | refine blk_alloc ?_ _)); exact BK121.out) hb); have n2_ := Aside0.mk (below_step (by repeat (first | (with_reducible first | exact HB.out | apply below_alloc | apply pw_below_drewN | apply below_drew1 | refine below_set ?_ GE121.out) | exact HB.out)) hb); clear BK121; clear HB; have HO144 := n0_; have BK121 := n1_; have HB := n2_; clear n0_ n1_ n2_; clear hb ho11; obtain ⟨Ao12, co12, eo12⟩ := Kd.R_slice HO144.out; subst eo12; have hcz13_0 : w10.cell? ⟨gb121, 0, none⟩ = some (.slice none 0 0) := (blk_cell BK121.out 0).trans rfl; have hfz13_0 := blk_frozen BK121.out 0))
  refine bodyPost_ret (results_cell_row rfl _ _ gb121 24 #[.slice Ao12 y142.length co12] (0, 0) _ rfl (by (with_reducible repeat (first | refine blk_drewN ?_ _ | refine blk_drew ?_ | refine blk_alloc ?_ _)); refine blk_put (cs := #[.slice none 0 0]) ?_ 0 _ rfl; (with_reducible repeat (first | refine blk_drewN ?_ _ | refine blk_drew ?_ | refine blk_alloc ?_ _)); exact BK121.out) Try.underlying24 rfl (by kernel_rfl)) rfl ?_
  exact ⟨_, by first | rfl | (simp [errW_none, errW_some] <;> rfl) | (simp [*, errW_none, errW_some] <;> rfl), by (with_reducible repeat (first | apply Kd.R_alloc | apply Kd.R_drewN | apply Kd.R_drew)); exact Kd.R_mono (Kd.R_far (p := ⟨gb121, 0, none⟩) (Kd.R_types HO144.out BK121.out (by decide)) (fun _ hk => hk.2) (.slice Ao12 y142.length co12)) (fun _ hk => trivial), by repeat (first | (with_reducible first | exact HB.out | apply below_alloc | apply pw_below_drewN | apply below_drew1 | refine below_set ?_ GE121.out) | exact HB.out)⟩

/-! ### laws_eqInt16A3: function 144 -/
def laws_eqInt16A3.l0 : Nat → Int → Int → Int → Int → Int → Int → Int → Option (Bool)
  | 0, _, _, _, _, _, _, _ => none
  | k + 1, x5, x146000, x146001, x146002, x147000, x147001, x147002 => if x5 < 3 then (if 0 ≤ x5 then (if (rd [x146000, x146001, x146002] x5) = (rd [x147000, x147001, x147002] x5) then (laws_eqInt16A3.l0 k (wrap64 (x5 + 1)) x146000 x146001 x146002 x147000 x147001 x147002) else (some false)) else (none)) else (some true)
def laws_eqInt16A3.f (k : Nat) (a0_0 : Int) (a0_1 : Int) (a0_2 : Int) (a1_0 : Int) (a1_1 : Int) (a1_2 : Int) : Option (Bool) := laws_eqInt16A3.l0 k 0 a0_0 a0_1 a0_2 a1_0 a1_1 a1_2
theorem laws_eqInt16A3.mono_l : ∀ k, (∀ y0 y1 y2 y3 y4 y5 y6, LeO (laws_eqInt16A3.l0 k y0 y1 y2 y3 y4 y5 y6) (laws_eqInt16A3.l0 (k + 1) y0 y1 y2 y3 y4 y5 y6))
  | 0 => fun _ _ _ _ _ _ _ r h => by simp [laws_eqInt16A3.l0] at h
  | k + 1 => by
    have ih0 := laws_eqInt16A3.mono_l k
    · intro y0 y1 y2 y3 y4 y5 y6
      unfold laws_eqInt16A3.l0
      repeat' first
      | (with_reducible exact ih0 _ _ _ _ _ _ _)
      | (with_reducible exact LeO.refl _)
      | (with_reducible exact LeO.none _)
      | (with_reducible refine LeO.ite ?_ ?_)
      | (with_reducible refine LeO.bind ?_ (fun _ => ?_))
      | exact ih0 _ _ _ _ _ _ _
      | exact LeO.none _
      | refine LeO.ite ?_ ?_
      | refine LeO.bind ?_ (fun _ => ?_)
theorem laws_eqInt16A3.mono : ∀ a0 a1 a2 a3 a4 a5 k, LeO (laws_eqInt16A3.f k a0 a1 a2 a3 a4 a5) (laws_eqInt16A3.f (k + 1) a0 a1 a2 a3 a4 a5) := by
  intro a0 a1 a2 a3 a4 a5 k
  have ih0 := laws_eqInt16A3.mono_l k
  unfold laws_eqInt16A3.f
  repeat' first
      | (with_reducible exact ih0 _ _ _ _ _ _ _)
      | (with_reducible exact LeO.refl _)
      | (with_reducible exact LeO.none _)
      | (with_reducible refine LeO.ite ?_ ?_)
      | (with_reducible refine LeO.bind ?_ (fun _ => ?_))
      | exact ih0 _ _ _ _ _ _ _
      | exact LeO.none _
      | refine LeO.ite ?_ ?_
      | refine LeO.bind ?_ (fun _ => ?_)
set_option maxHeartbeats 8000000 in
set_option maxRecDepth 100000 in
theorem laws_eqInt16A3.calls (k : Nat) (a0_0 : Int) (a0_1 : Int) (a0_2 : Int) (a1_0 : Int) (a1_1 : Int) (a1_2 : Int) (r : Bool) (w : World) (h : laws_eqInt16A3.f k a0_0 a0_1 a0_2 a1_0 a1_1 a1_2 = some r) :
    Calls Try.prog 144 #[.agg #[.int .i16 a0_0, .int .i16 a0_1, .int .i16 a0_2], .agg #[.int .i16 a1_0, .int .i16 a1_1, .int .i16 a1_2]] w fun e w' => e = .returned (.bool r) ∧ Below w.heap.size w w' := by
  have hu75 := Try.underlying75
  have HB := Aside0.mk (Below.refl w.heap.size w)
  have H : (laws_eqInt16A3.l0 k 0 a0_0 a0_1 a0_2 a1_0 a1_1 a1_2) = some r := h
  clear h
  have H' := Aside0.mk H
  clear H
  go_enter Try.func144, Try.ntmps144
  go_wp2_with (first | ((with_reducible refine gate_dst (N := 2) rfl ?_); refine box_event ?hg (N := 2) ?hd (cs := #[.int .i16 a0_0, .int .i16 a0_1, .int .i16 a0_2]) (t := 75) ?hr ?_; (case hd => rfl); (case hg => rfl); (case hr => first | (go_simp; done) | (go_simp; rfl)); intro gb145 hg w3 hbox hb; have n0_ := Aside0.mk (below_step (by repeat (first | (with_reducible first | exact HB.out | apply below_alloc | apply pw_below_drewN | apply below_drew1) | exact HB.out)) hb); have n1_ := Aside0.mk (hbox); have n2_ := Aside0.mk ((by rw [hg]; exact (below_size (by repeat (first | (with_reducible first | exact HB.out | apply below_alloc | apply pw_below_drewN | apply below_drew1) | exact HB.out))) : w.heap.size ≤ gb145)); have n3_ := Aside0.mk ((by rw [hg]; exact (below_size (by repeat (first | (with_reducible first | exact HB.out | apply below_alloc | apply pw_below_drewN | apply below_drew1) | exact HB.out))) : w.heap.size ≤ gb145)); clear HB; have HB := n0_; have BK145 := n1_; have GW145 := n2_; have GE145 := n3_; clear n0_ n1_ n2_ n3_; clear hb hbox hg) | ((with_reducible refine gate_dst (N := 3) rfl ?_); refine box_event ?hg (N := 3) ?hd (cs := #[.int .i16 a1_0, .int .i16 a1_1, .int .i16 a1_2]) (t := 75) ?hr ?_; (case hd => rfl); (case hg => rfl); (case hr => first | (go_simp; done) | (go_simp; rfl)); intro gb146 hg w4 hbox hb; have n0_ := Aside0.mk (blk_below (g := gb145) (o := .cells #[.int .i16 a0_0, .int .i16 a0_1, .int .i16 a0_2] 75 (0, 0)) (by (with_reducible repeat (first | refine blk_drewN ?_ _ | refine blk_drew ?_ | refine blk_alloc ?_ _)); exact BK145.out) hb); have n1_ := Aside0.mk (below_step (by repeat (first | (with_reducible first | exact HB.out | apply below_alloc | apply pw_below_drewN | apply below_drew1 | refine below_set ?_ GE145.out) | exact HB.out)) hb); have n2_ := Aside0.mk (hbox); have n3_ := Aside0.mk ((by rw [hg]; exact (below_size (by repeat (first | (with_reducible first | exact HB.out | apply below_alloc | apply pw_below_drewN | apply below_drew1 | refine below_set ?_ GE145.out) | exact HB.out))) : w.heap.size ≤ gb146)); have n4_ := Aside0.mk ((by rw [hg]; exact (below_size (by repeat (first | (with_reducible first | exact HB.out | apply below_alloc | apply pw_below_drewN | apply below_drew1 | refine below_set ?_ GE145.out) | exact HB.out))) : w.heap.size ≤ gb146)); have n5_ := Aside0.mk ((by rw [hg]; exact Nat.ne_of_lt (blk_lt (g := gb145) (o := .cells #[.int .i16 a0_0, .int .i16 a0_1, .int .i16 a0_2] 75 (0, 0)) (by (with_reducible repeat (first | refine blk_drewN ?_ _ | refine blk_drew ?_ | refine blk_alloc ?_ _)); exact BK145.out)) : gb145 ≠ gb146)); have n6_ := Aside0.mk ((by rw [hg]; exact Nat.ne_of_gt (blk_lt (g := gb145) (o := .cells #[.int .i16 a0_0, .int .i16 a0_1, .int .i16 a0_2] 75 (0, 0)) (by (with_reducible repeat (first | refine blk_drewN ?_ _ | refine blk_drew ?_ | refine blk_alloc ?_ _)); exact BK145.out)) : gb146 ≠ gb145)); clear BK145; clear HB; have BK145 := n0_; have HB := n1_; have BK146 := n2_; have GW146 := n3_; have GE146 := n4_; have NB145_146 := n5_; have NB146_145 := n6_; clear n0_ n1_ n2_ n3_ n4_ n5_ n6_; clear hb hbox hg))
  repeat (go_quiet (first | ((with_reducible refine gate_dst (N := 2) rfl ?_); refine box_event ?hg (N := 2) ?hd (cs := #[.int .i16 a0_0, .int .i16 a0_1, .int .i16 a0_2]) (t := 75) ?hr ?_; (case hd => rfl); (case hg => rfl); (case hr => first | (go_simp; done) | (go_simp; rfl)); intro gb145 hg w3 hbox hb; have n0_ := Aside0.mk (below_step (by repeat (first | (with_reducible first | exact HB.out | apply below_alloc | apply pw_below_drewN | apply below_drew1) | exact HB.out)) hb); have n1_ := Aside0.mk (hbox); have n2_ := Aside0.mk ((by rw [hg]; exact (below_size (by repeat (first | (with_reducible first | exact HB.out | apply below_alloc | apply pw_below_drewN | apply below_drew1) | exact HB.out))) : w.heap.size ≤ gb145)); have n3_ := Aside0.mk ((by rw [hg]; exact (below_size (by repeat (first | (with_reducible first | exact HB.out | apply below_alloc | apply pw_below_drewN | apply below_drew1) | exact HB.out))) : w.heap.size ≤ gb145)); clear HB; have HB := n0_; have BK145 := n1_; have GW145 := n2_; have GE145 := n3_; clear n0_ n1_ n2_ n3_; clear hb hbox hg) | ((with_reducible refine gate_dst (N := 3) rfl ?_); refine box_event ?hg (N := 3) ?hd (cs := #[.int .i16 a1_0, .int .i16 a1_1, .int .i16 a1_2]) (t := 75) ?hr ?_; (case hd => rfl); (case hg => rfl); (case hr => first | (go_simp; done) | (go_simp; rfl)); intro gb146 hg w4 hbox hb; have n0_ := Aside0.mk (blk_below (g := gb145) (o := .cells #[.int .i16 a0_0, .int .i16 a0_1, .int .i16 a0_2] 75 (0, 0)) (by (with_reducible repeat (first | refine blk_drewN ?_ _ | refine blk_drew ?_ | refine blk_alloc ?_ _)); exact BK145.out) hb); have n1_ := Aside0.mk (below_step (by repeat (first | (with_reducible first | exact HB.out | apply below_alloc | apply pw_below_drewN | apply below_drew1 | refine below_set ?_ GE145.out) | exact HB.out)) hb); have n2_ := Aside0.mk (hbox); have n3_ := Aside0.mk ((by rw [hg]; exact (below_size (by repeat (first | (with_reducible first | exact HB.out | apply below_alloc | apply pw_below_drewN | apply below_drew1 | refine below_set ?_ GE145.out) | exact HB.out))) : w.heap.size ≤ gb146)); have n4_ := Aside0.mk ((by rw [hg]; exact (below_size (by repeat (first | (with_reducible first | exact HB.out | apply below_alloc | apply pw_below_drewN | apply below_drew1 | refine below_set ?_ GE145.out) | exact HB.out))) : w.heap.size ≤ gb146)); have n5_ := Aside0.mk ((by rw [hg]; exact Nat.ne_of_lt (blk_lt (g := gb145) (o := .cells #[.int .i16 a0_0, .int .i16 a0_1, .int .i16 a0_2] 75 (0, 0)) (by (with_reducible repeat (first | refine blk_drewN ?_ _ | refine blk_drew ?_ | refine blk_alloc ?_ _)); exact BK145.out)) : gb145 ≠ gb146)); have n6_ := Aside0.mk ((by rw [hg]; exact Nat.ne_of_gt (blk_lt (g := gb145) (o := .cells #[.int .i16 a0_0, .int .i16 a0_1, .int .i16 a0_2] 75 (0, 0)) (by (with_reducible repeat (first | refine blk_drewN ?_ _ | refine blk_drew ?_ | refine blk_alloc ?_ _)); exact BK145.out)) : gb146 ≠ gb145)); clear BK145; clear HB; have BK145 := n0_; have HB := n1_; have BK146 := n2_; have GW146 := n3_; have GE146 := n4_; have NB145_146 := n5_; have NB146_145 := n6_; clear n0_ n1_ n2_ n3_ n4_ n5_ n6_; clear hb hbox hg)); try go_wp2_with (first | ((with_reducible refine gate_dst (N := 2) rfl ?_); refine box_event ?hg (N := 2) ?hd (cs := #[.int .i16 a0_0, .int .i16 a0_1, .int .i16 a0_2]) (t := 75) ?hr ?_; (case hd => rfl); (case hg => rfl); (case hr => first | (go_simp; done) | (go_simp; rfl)); intro gb145 hg w3 hbox hb; have n0_ := Aside0.mk (below_step (by repeat (first | (with_reducible first | exact HB.out | apply below_alloc | apply pw_below_drewN | apply below_drew1) | exact HB.out)) hb); have n1_ := Aside0.mk (hbox); have n2_ := Aside0.mk ((by rw [hg]; exact (below_size (by repeat (first | (with_reducible first | exact HB.out | apply below_alloc | apply pw_below_drewN | apply below_drew1) | exact HB.out))) : w.heap.size ≤ gb145)); have n3_ := Aside0.mk ((by rw [hg]; exact (below_size (by repeat (first | (with_reducible first | exact HB.out | apply below_alloc | apply pw_below_drewN | apply below_drew1) | exact HB.out))) : w.heap.size ≤ gb145)); clear HB; have HB := n0_; have BK145 := n1_; have GW145 := n2_; have GE145 := n3_; clear n0_ n1_ n2_ n3_; clear hb hbox hg) | ((with_reducible refine gate_dst (N := 3) rfl ?_); refine box_event ?hg (N := 3) ?hd (cs := #[.int .i16 a1_0, .int .i16 a1_1, .int .i16 a1_2]) (t := 75) ?hr ?_; (case hd => rfl); (case hg => rfl); (case hr => first | (go_simp; done) | (go_simp; rfl)); intro gb146 hg w4 hbox hb; have n0_ := Aside0.mk (blk_below (g := gb145) (o := .cells #[.int .i16 a0_0, .int .i16 a0_1, .int .i16 a0_2] 75 (0, 0)) (by (with_reducible repeat (first | refine blk_drewN ?_ _ | refine blk_drew ?_ | refine blk_alloc ?_ _)); exact BK145.out) hb); have n1_ := Aside0.mk (below_step (by repeat (first | (with_reducible first | exact HB.out | apply below_alloc | apply pw_below_drewN | apply below_drew1 | refine below_set ?_ GE145.out) | exact HB.out)) hb); have n2_ := Aside0.mk (hbox); have n3_ := Aside0.mk ((by rw [hg]; exact (below_size (by repeat (first | (with_reducible first | exact HB.out | apply below_alloc | apply pw_below_drewN | apply below_drew1 | refine below_set ?_ GE145.out) | exact HB.out))) : w.heap.size ≤ gb146)); have n4_ := Aside0.mk ((by rw [hg]; exact (below_size (by repeat (first | (with_reducible first | exact HB.out | apply below_alloc | apply pw_below_drewN | apply below_drew1 | refine below_set ?_ GE145.out) | exact HB.out))) : w.heap.size ≤ gb146)); have n5_ := Aside0.mk ((by rw [hg]; exact Nat.ne_of_lt (blk_lt (g := gb145) (o := .cells #[.int .i16 a0_0, .int .i16 a0_1, .int .i16 a0_2] 75 (0, 0)) (by (with_reducible repeat (first | refine blk_drewN ?_ _ | refine blk_drew ?_ | refine blk_alloc ?_ _)); exact BK145.out)) : gb145 ≠ gb146)); have n6_ := Aside0.mk ((by rw [hg]; exact Nat.ne_of_gt (blk_lt (g := gb145) (o := .cells #[.int .i16 a0_0, .int .i16 a0_1, .int .i16 a0_2] 75 (0, 0)) (by (with_reducible repeat (first | refine blk_drewN ?_ _ | refine blk_drew ?_ | refine blk_alloc ?_ _)); exact BK145.out)) : gb146 ≠ gb145)); clear BK145; clear HB; have BK145 := n0_; have HB := n1_; have BK146 := n2_; have GW146 := n3_; have GE146 := n4_; have NB145_146 := n5_; have NB146_145 := n6_; clear n0_ n1_ n2_ n3_ n4_ n5_ n6_; clear hb hbox hg)))
  go_loopg [5] k (fun kq v5 w' => ∃ (x5_1 : Int), v5 = .int .i64 x5_1 ∧ Aside0 (laws_eqInt16A3.l0 kq x5_1 a0_0 a0_1 a0_2 a1_0 a1_1 a1_2 = some r) ∧ Aside0 (kq ≤ k) ∧ Aside0 (w'.heap[gb145]? = some (.cells #[.int .i16 a0_0, .int .i16 a0_1, .int .i16 a0_2] 75 (0, 0))) ∧ Aside0 (w'.heap[gb146]? = some (.cells #[.int .i16 a1_0, .int .i16 a1_1, .int .i16 a1_2] 75 (0, 0))) ∧ Aside0 (Below w.heap.size w w'))
  case atStart => exact ⟨(0), (by first | rfl | (simp; done) | (simp [*]; done)), H', ⟨Nat.le_refl _⟩, ⟨by (with_reducible repeat (first | refine blk_drewN ?_ _ | refine blk_drew ?_ | refine blk_alloc ?_ _)); exact BK145.out⟩, ⟨by (with_reducible repeat (first | refine blk_drewN ?_ _ | refine blk_drew ?_ | refine blk_alloc ?_ _)); exact BK146.out⟩, ⟨by repeat (first | (with_reducible first | exact HB.out | apply below_alloc | apply pw_below_drewN | apply below_drew1 | refine below_set ?_ GE145.out | refine below_set ?_ GE146.out) | exact HB.out)⟩⟩
  case round =>
    clear H'
    try clear c1
    try clear p2
    obtain ⟨x5_1, rfl, HA, HK1, BK145, BK146, HB⟩ := hrel
    cases gk with
    | zero => exact absurd HA.out (by simp [laws_eqInt16A3.l0])
    | succ k1 =>
      have H := HA.out
      clear HA
      simp only [laws_eqInt16A3.l0] at H
      by_cases c5 : x5_1 < 3
      · rw [if_pos c5] at H
        have c5b0 : decide (x5_1 < 3) = true := decide_eq_true c5
        clear c5
        by_cases c6 : 0 ≤ x5_1
        · rw [if_pos c6] at H
          have c6b0 : decide (0 ≤ x5_1) = true := decide_eq_true c6
          clear c6
          by_cases c7 : (rd [a0_0, a0_1, a0_2] x5_1) = (rd [a1_0, a1_1, a1_2] x5_1)
          · rw [if_pos c7] at H
            have c7b0 : ((rd [a0_0, a0_1, a0_2] x5_1) == (rd [a1_0, a1_1, a1_2] x5_1)) = true := beq_iff_eq.mpr c7
            have c7b1 : ((rd [a0_0, a0_1, a0_2] x5_1) != (rd [a1_0, a1_1, a1_2] x5_1)) = false := bne_eq_false_iff_eq.mpr c7
            clear c7
            have H' := Aside0.mk H
            clear H
            have hnb8 := NB145_146.out
            have hnc8 := NB146_145.out
            have hcz9_0 : wr.cell? ⟨gb145, 0, none⟩ = some (.int .i16 a0_0) := (blk_cell BK145.out 0).trans rfl
            have hcz9_1 : wr.cell? ⟨gb145, 1, none⟩ = some (.int .i16 a0_1) := (blk_cell BK145.out 1).trans rfl
            have hcz9_2 : wr.cell? ⟨gb145, 2, none⟩ = some (.int .i16 a0_2) := (blk_cell BK145.out 2).trans rfl
            have hfz9_0 := blk_frozen BK145.out 0
            have hfz9_1 := blk_frozen BK145.out 1
            have hfz9_2 := blk_frozen BK145.out 2
            have HP147 := Aside0.mk (show 0 ≤ (x5_1 : Int) ∧ (x5_1 : Int) < 3 from ⟨of_decide_eq_true (by first | (with_reducible assumption) | assumption), of_decide_eq_true (by first | (with_reducible assumption) | assumption)⟩)
            have hx147_0 : wr.cell? ⟨gb145, (x5_1 : Int).toNat, none⟩ = some (.int .i16 (rd [a0_0, a0_1, a0_2] x5_1)) := by (rcases (show x5_1 = 0 ∨ x5_1 = 1 ∨ x5_1 = 2 from (by have h_ := HP147.out; omega)) with rfl | rfl | rfl <;> first | exact (blk_cell BK145.out 0).trans rfl | exact (blk_cell BK145.out 1).trans rfl | exact (blk_cell BK145.out 2).trans rfl)
            have hx147_1 : wr.cell? ((⟨gb145, 0, none⟩ : Addr).add (x5_1 : Int).toNat) = some (.int .i16 (rd [a0_0, a0_1, a0_2] x5_1)) := (congrArg _ (add_plain _ _)).trans hx147_0
            have hpz147 := eq_true HP147.out.1
            have hpy147 := eq_true HP147.out.2
            have hcz10_0 : wr.cell? ⟨gb146, 0, none⟩ = some (.int .i16 a1_0) := (blk_cell BK146.out 0).trans rfl
            have hcz10_1 : wr.cell? ⟨gb146, 1, none⟩ = some (.int .i16 a1_1) := (blk_cell BK146.out 1).trans rfl
            have hcz10_2 : wr.cell? ⟨gb146, 2, none⟩ = some (.int .i16 a1_2) := (blk_cell BK146.out 2).trans rfl
            have hfz10_0 := blk_frozen BK146.out 0
            have hfz10_1 := blk_frozen BK146.out 1
            have hfz10_2 := blk_frozen BK146.out 2
            have HP148 := Aside0.mk (show 0 ≤ (x5_1 : Int) ∧ (x5_1 : Int) < 3 from ⟨of_decide_eq_true (by first | (with_reducible assumption) | assumption), of_decide_eq_true (by first | (with_reducible assumption) | assumption)⟩)
            have hx148_0 : wr.cell? ⟨gb146, (x5_1 : Int).toNat, none⟩ = some (.int .i16 (rd [a1_0, a1_1, a1_2] x5_1)) := by (rcases (show x5_1 = 0 ∨ x5_1 = 1 ∨ x5_1 = 2 from (by have h_ := HP148.out; omega)) with rfl | rfl | rfl <;> first | exact (blk_cell BK146.out 0).trans rfl | exact (blk_cell BK146.out 1).trans rfl | exact (blk_cell BK146.out 2).trans rfl)
            have hx148_1 : wr.cell? ((⟨gb146, 0, none⟩ : Addr).add (x5_1 : Int).toNat) = some (.int .i16 (rd [a1_0, a1_1, a1_2] x5_1)) := (congrArg _ (add_plain _ _)).trans hx148_0
            have hpz148 := eq_true HP148.out.1
            have hpy148 := eq_true HP148.out.2
            go_wp2
            repeat (go_quiet (fail); try go_wp2)
            go_roundg k1
            case measure => have := HK1.out; omega
            case rel => exact ⟨(wrap64 (x5_1 + 1)), (by first | rfl | (simp; done) | (simp [*]; done)), H', ⟨by have := HK1.out; omega⟩, ⟨by (with_reducible repeat (first | refine blk_drewN ?_ _ | refine blk_drew ?_ | refine blk_alloc ?_ _)); exact BK145.out⟩, ⟨by (with_reducible repeat (first | refine blk_drewN ?_ _ | refine blk_drew ?_ | refine blk_alloc ?_ _)); exact BK146.out⟩, ⟨by repeat (first | (with_reducible first | exact HB.out | apply below_alloc | apply pw_below_drewN | apply below_drew1 | refine below_set ?_ GE145.out | refine below_set ?_ GE146.out) | exact HB.out)⟩⟩
          · rw [if_neg c7] at H
            have c7b0 : ((rd [a0_0, a0_1, a0_2] x5_1) == (rd [a1_0, a1_1, a1_2] x5_1)) = false := beq_eq_false_iff_ne.mpr c7
            have c7b1 : ((rd [a0_0, a0_1, a0_2] x5_1) != (rd [a1_0, a1_1, a1_2] x5_1)) = true := bne_iff_ne.mpr c7
            obtain rfl := Option.some.inj H
            have hnb11 := NB145_146.out
            have hnc11 := NB146_145.out
            have hcz12_0 : wr.cell? ⟨gb145, 0, none⟩ = some (.int .i16 a0_0) := (blk_cell BK145.out 0).trans rfl
            have hcz12_1 : wr.cell? ⟨gb145, 1, none⟩ = some (.int .i16 a0_1) := (blk_cell BK145.out 1).trans rfl
            have hcz12_2 : wr.cell? ⟨gb145, 2, none⟩ = some (.int .i16 a0_2) := (blk_cell BK145.out 2).trans rfl
            have hfz12_0 := blk_frozen BK145.out 0
            have hfz12_1 := blk_frozen BK145.out 1
            have hfz12_2 := blk_frozen BK145.out 2
            have HP147 := Aside0.mk (show 0 ≤ (x5_1 : Int) ∧ (x5_1 : Int) < 3 from ⟨of_decide_eq_true (by first | (with_reducible assumption) | assumption), of_decide_eq_true (by first | (with_reducible assumption) | assumption)⟩)
            have hx147_0 : wr.cell? ⟨gb145, (x5_1 : Int).toNat, none⟩ = some (.int .i16 (rd [a0_0, a0_1, a0_2] x5_1)) := by (rcases (show x5_1 = 0 ∨ x5_1 = 1 ∨ x5_1 = 2 from (by have h_ := HP147.out; omega)) with rfl | rfl | rfl <;> first | exact (blk_cell BK145.out 0).trans rfl | exact (blk_cell BK145.out 1).trans rfl | exact (blk_cell BK145.out 2).trans rfl)
            have hx147_1 : wr.cell? ((⟨gb145, 0, none⟩ : Addr).add (x5_1 : Int).toNat) = some (.int .i16 (rd [a0_0, a0_1, a0_2] x5_1)) := (congrArg _ (add_plain _ _)).trans hx147_0
            have hpz147 := eq_true HP147.out.1
            have hpy147 := eq_true HP147.out.2
            have hcz13_0 : wr.cell? ⟨gb146, 0, none⟩ = some (.int .i16 a1_0) := (blk_cell BK146.out 0).trans rfl
            have hcz13_1 : wr.cell? ⟨gb146, 1, none⟩ = some (.int .i16 a1_1) := (blk_cell BK146.out 1).trans rfl
            have hcz13_2 : wr.cell? ⟨gb146, 2, none⟩ = some (.int .i16 a1_2) := (blk_cell BK146.out 2).trans rfl
            have hfz13_0 := blk_frozen BK146.out 0
            have hfz13_1 := blk_frozen BK146.out 1
            have hfz13_2 := blk_frozen BK146.out 2
            have HP148 := Aside0.mk (show 0 ≤ (x5_1 : Int) ∧ (x5_1 : Int) < 3 from ⟨of_decide_eq_true (by first | (with_reducible assumption) | assumption), of_decide_eq_true (by first | (with_reducible assumption) | assumption)⟩)
            have hx148_0 : wr.cell? ⟨gb146, (x5_1 : Int).toNat, none⟩ = some (.int .i16 (rd [a1_0, a1_1, a1_2] x5_1)) := by (rcases (show x5_1 = 0 ∨ x5_1 = 1 ∨ x5_1 = 2 from (by have h_ := HP148.out; omega)) with rfl | rfl | rfl <;> first | exact (blk_cell BK146.out 0).trans rfl | exact (blk_cell BK146.out 1).trans rfl | exact (blk_cell BK146.out 2).trans rfl)
            have hx148_1 : wr.cell? ((⟨gb146, 0, none⟩ : Addr).add (x5_1 : Int).toNat) = some (.int .i16 (rd [a1_0, a1_1, a1_2] x5_1)) := (congrArg _ (add_plain _ _)).trans hx148_0
            have hpz148 := eq_true HP148.out.1
            have hpy148 := eq_true HP148.out.2
            go_wp2
            repeat (go_quiet (fail); try go_wp2)
            go_ret
            exact ⟨by first | rfl | (simp [errW_none, errW_some] <;> rfl) | (simp [*, errW_none, errW_some] <;> rfl), by repeat (first | (with_reducible first | exact HB.out | apply below_alloc | apply pw_below_drewN | apply below_drew1 | refine below_set ?_ GE145.out | refine below_set ?_ GE146.out) | exact HB.out)⟩
        · rw [if_neg c6] at H
          exact absurd H (by simp)
      · rw [if_neg c5] at H
        have c5b0 : decide (x5_1 < 3) = false := decide_eq_false c5
        clear c5
        obtain rfl := Option.some.inj H
        go_wp2
        repeat (go_quiet (fail); try go_wp2)
        go_ret
        exact ⟨by first | rfl | (simp [errW_none, errW_some] <;> rfl) | (simp [*, errW_none, errW_some] <;> rfl), by repeat (first | (with_reducible first | exact HB.out | apply below_alloc | apply pw_below_drewN | apply below_drew1 | refine below_set ?_ GE145.out | refine below_set ?_ GE146.out) | exact HB.out)⟩

/-! ### laws_eqFork: function 96 -/
def laws_eqFork.f (k : Nat) (a0_0 : Int) (a0_1 : Int) (a0_2 : Int) (a0_3 : Int) (a0_4 : Int) (a1_0 : Int) (a1_1 : Int) (a1_2 : Int) (a1_3 : Int) (a1_4 : Int) : Option (Bool) := if a0_0 = a1_0 then (if a0_1 = a1_1 then ((laws_eqInt16A3.f k a0_2 a0_3 a0_4 a1_2 a1_3 a1_4).bind fun t151 => (if t151 = true then (some true) else (some false))) else (some false)) else (some false)
theorem laws_eqFork.mono : ∀ a0 a1 a2 a3 a4 a5 a6 a7 a8 a9 k, LeO (laws_eqFork.f k a0 a1 a2 a3 a4 a5 a6 a7 a8 a9) (laws_eqFork.f (k + 1) a0 a1 a2 a3 a4 a5 a6 a7 a8 a9) := by
  intro a0 a1 a2 a3 a4 a5 a6 a7 a8 a9 k
  unfold laws_eqFork.f
  repeat' first
      | (with_reducible exact laws_eqInt16A3.mono _ _ _ _ _ _ _)
      | (with_reducible exact LeO.refl _)
      | (with_reducible exact LeO.none _)
      | (with_reducible refine LeO.ite ?_ ?_)
      | (with_reducible refine LeO.bind ?_ (fun _ => ?_))
      | exact laws_eqInt16A3.mono _ _ _ _ _ _ _
      | exact LeO.none _
      | refine LeO.ite ?_ ?_
      | refine LeO.bind ?_ (fun _ => ?_)
set_option maxHeartbeats 8000000 in
set_option maxRecDepth 100000 in
theorem laws_eqFork.calls (k : Nat) (a0_0 : Int) (a0_1 : Int) (a0_2 : Int) (a0_3 : Int) (a0_4 : Int) (a1_0 : Int) (a1_1 : Int) (a1_2 : Int) (a1_3 : Int) (a1_4 : Int) (r : Bool) (w : World) (h : laws_eqFork.f k a0_0 a0_1 a0_2 a0_3 a0_4 a1_0 a1_1 a1_2 a1_3 a1_4 = some r) :
    Calls Try.prog 96 #[.agg #[.int .i8 a0_0, .int .i8 a0_1, .int .i16 a0_2, .int .i16 a0_3, .int .i16 a0_4], .agg #[.int .i8 a1_0, .int .i8 a1_1, .int .i16 a1_2, .int .i16 a1_3, .int .i16 a1_4]] w fun e w' => e = .returned (.bool r) ∧ Below w.heap.size w w' := by
  have hu77 := Try.underlying77
  have hu75 := Try.underlying75
  have HB := Aside0.mk (Below.refl w.heap.size w)
  have H : (if a0_0 = a1_0 then (if a0_1 = a1_1 then ((laws_eqInt16A3.f k a0_2 a0_3 a0_4 a1_2 a1_3 a1_4).bind fun t151 => (if t151 = true then (some true) else (some false))) else (some false)) else (some false)) = some r := h
  clear h
  by_cases c3 : a0_0 = a1_0
  · rw [if_pos c3] at H
    have c3b0 : (a0_0 == a1_0) = true := beq_iff_eq.mpr c3
    have c3b1 : (a0_0 != a1_0) = false := bne_eq_false_iff_eq.mpr c3
    clear c3
    by_cases c4 : a0_1 = a1_1
    · rw [if_pos c4] at H
      have c4b0 : (a0_1 == a1_1) = true := beq_iff_eq.mpr c4
      have c4b1 : (a0_1 != a1_1) = false := bne_eq_false_iff_eq.mpr c4
      clear c4
      replace H := Option.bind_eq_some_iff.mp H
      obtain ⟨t151, A50, H⟩ := H
      replace H : (if t151 = true then (some true) else (some false)) = some r := H
      have A5 := Aside0.mk A50
      clear A50
      by_cases c6 : t151 = true
      · subst c6
        have H1 : (some true) = some r := by rw [if_pos rfl] at H; exact H
        clear H
        have H := H1
        clear H1
        obtain rfl := Option.some.inj H
        go_enter Try.func96, Try.ntmps96
        go_wp2_with (first | ((with_reducible refine gate_dst (N := 2) rfl ?_); refine box_event ?hg (N := 2) ?hd (cs := #[.int .i8 a0_0, .int .i8 a0_1, .int .i16 a0_2, .int .i16 a0_3, .int .i16 a0_4]) (t := 77) ?hr ?_; (case hd => rfl); (case hg => rfl); (case hr => first | (go_simp; done) | (go_simp; rfl)); intro gb149 hg w7 hbox hb; have n0_ := Aside0.mk (below_step (by repeat (first | (with_reducible first | exact HB.out | apply below_alloc | apply pw_below_drewN | apply below_drew1) | exact HB.out)) hb); have n1_ := Aside0.mk (hbox); have n2_ := Aside0.mk ((by rw [hg]; exact (below_size (by repeat (first | (with_reducible first | exact HB.out | apply below_alloc | apply pw_below_drewN | apply below_drew1) | exact HB.out))) : w.heap.size ≤ gb149)); have n3_ := Aside0.mk ((by rw [hg]; exact (below_size (by repeat (first | (with_reducible first | exact HB.out | apply below_alloc | apply pw_below_drewN | apply below_drew1) | exact HB.out))) : w.heap.size ≤ gb149)); clear HB; have HB := n0_; have BK149 := n1_; have GW149 := n2_; have GE149 := n3_; clear n0_ n1_ n2_ n3_; clear hb hbox hg) | ((with_reducible refine gate_dst (N := 3) rfl ?_); refine box_event ?hg (N := 3) ?hd (cs := #[.int .i8 a1_0, .int .i8 a1_1, .int .i16 a1_2, .int .i16 a1_3, .int .i16 a1_4]) (t := 77) ?hr ?_; (case hd => rfl); (case hg => rfl); (case hr => first | (go_simp; done) | (go_simp; rfl)); intro gb150 hg w8 hbox hb; have n0_ := Aside0.mk (blk_below (g := gb149) (o := .cells #[.int .i8 a0_0, .int .i8 a0_1, .int .i16 a0_2, .int .i16 a0_3, .int .i16 a0_4] 77 (0, 0)) (by (with_reducible repeat (first | refine blk_drewN ?_ _ | refine blk_drew ?_ | refine blk_alloc ?_ _)); exact BK149.out) hb); have n1_ := Aside0.mk (below_step (by repeat (first | (with_reducible first | exact HB.out | apply below_alloc | apply pw_below_drewN | apply below_drew1 | refine below_set ?_ GE149.out) | exact HB.out)) hb); have n2_ := Aside0.mk (hbox); have n3_ := Aside0.mk ((by rw [hg]; exact (below_size (by repeat (first | (with_reducible first | exact HB.out | apply below_alloc | apply pw_below_drewN | apply below_drew1 | refine below_set ?_ GE149.out) | exact HB.out))) : w.heap.size ≤ gb150)); have n4_ := Aside0.mk ((by rw [hg]; exact (below_size (by repeat (first | (with_reducible first | exact HB.out | apply below_alloc | apply pw_below_drewN | apply below_drew1 | refine below_set ?_ GE149.out) | exact HB.out))) : w.heap.size ≤ gb150)); have n5_ := Aside0.mk ((by rw [hg]; exact Nat.ne_of_lt (blk_lt (g := gb149) (o := .cells #[.int .i8 a0_0, .int .i8 a0_1, .int .i16 a0_2, .int .i16 a0_3, .int .i16 a0_4] 77 (0, 0)) (by (with_reducible repeat (first | refine blk_drewN ?_ _ | refine blk_drew ?_ | refine blk_alloc ?_ _)); exact BK149.out)) : gb149 ≠ gb150)); have n6_ := Aside0.mk ((by rw [hg]; exact Nat.ne_of_gt (blk_lt (g := gb149) (o := .cells #[.int .i8 a0_0, .int .i8 a0_1, .int .i16 a0_2, .int .i16 a0_3, .int .i16 a0_4] 77 (0, 0)) (by (with_reducible repeat (first | refine blk_drewN ?_ _ | refine blk_drew ?_ | refine blk_alloc ?_ _)); exact BK149.out)) : gb150 ≠ gb149)); clear BK149; clear HB; have BK149 := n0_; have HB := n1_; have BK150 := n2_; have GW150 := n3_; have GE150 := n4_; have NB149_150 := n5_; have NB150_149 := n6_; clear n0_ n1_ n2_ n3_ n4_ n5_ n6_; clear hb hbox hg; have hnb9 := NB149_150.out; have hnc9 := NB150_149.out; have hcz10_0 : w8.cell? ⟨gb149, 0, none⟩ = some (.int .i8 a0_0) := (blk_cell BK149.out 0).trans rfl; have hcz10_1 : w8.cell? ⟨gb149, 1, none⟩ = some (.int .i8 a0_1) := (blk_cell BK149.out 1).trans rfl; have hcz10_2 : w8.cell? ⟨gb149, 2, none⟩ = some (.int .i16 a0_2) := (blk_cell BK149.out 2).trans rfl; have hcz10_3 : w8.cell? ⟨gb149, 3, none⟩ = some (.int .i16 a0_3) := (blk_cell BK149.out 3).trans rfl; have hcz10_4 : w8.cell? ⟨gb149, 4, none⟩ = some (.int .i16 a0_4) := (blk_cell BK149.out 4).trans rfl; have hfz10_0 := blk_frozen BK149.out 0; have hfz10_1 := blk_frozen BK149.out 1; have hfz10_2 := blk_frozen BK149.out 2; have hfz10_3 := blk_frozen BK149.out 3; have hfz10_4 := blk_frozen BK149.out 4; have hcz11_0 : w8.cell? ⟨gb150, 0, none⟩ = some (.int .i8 a1_0) := (blk_cell BK150.out 0).trans rfl; have hcz11_1 : w8.cell? ⟨gb150, 1, none⟩ = some (.int .i8 a1_1) := (blk_cell BK150.out 1).trans rfl; have hcz11_2 : w8.cell? ⟨gb150, 2, none⟩ = some (.int .i16 a1_2) := (blk_cell BK150.out 2).trans rfl; have hcz11_3 : w8.cell? ⟨gb150, 3, none⟩ = some (.int .i16 a1_3) := (blk_cell BK150.out 3).trans rfl; have hcz11_4 : w8.cell? ⟨gb150, 4, none⟩ = some (.int .i16 a1_4) := (blk_cell BK150.out 4).trans rfl; have hfz11_0 := blk_frozen BK150.out 0; have hfz11_1 := blk_frozen BK150.out 1; have hfz11_2 := blk_frozen BK150.out 2; have hfz11_3 := blk_frozen BK150.out 3; have hfz11_4 := blk_frozen BK150.out 4) | ((with_reducible refine gate_callee (f := 144) rfl ?_); refine goesL_ (some 19) rfl rfl Try.func144 (by kernel_rfl) rfl #[.agg #[.int .i16 a0_2, .int .i16 a0_3, .int .i16 a0_4], .agg #[.int .i16 a1_2, .int .i16 a1_3, .int .i16 a1_4]] rfl (by (try simp only [List.map_toArray, List.map_cons, List.map_nil]); first | done | rfl | (simp only [List.length_drop, List.length_take]; rfl)) ?_; (with_reducible refine (laws_eqInt16A3.calls k a0_2 a0_3 a0_4 a1_2 a1_3 a1_4 true _ A5.out).mono ?_); rintro e w12 ⟨rfl, hb⟩; refine ⟨_, rfl, ?_⟩; have n0_ := Aside0.mk (blk_below (g := gb149) (o := .cells #[.int .i8 a0_0, .int .i8 a0_1, .int .i16 a0_2, .int .i16 a0_3, .int .i16 a0_4] 77 (0, 0)) (by (with_reducible repeat (first | refine blk_drewN ?_ _ | refine blk_drew ?_ | refine blk_alloc ?_ _)); exact BK149.out) hb); have n1_ := Aside0.mk (blk_below (g := gb150) (o := .cells #[.int .i8 a1_0, .int .i8 a1_1, .int .i16 a1_2, .int .i16 a1_3, .int .i16 a1_4] 77 (0, 0)) (by (with_reducible repeat (first | refine blk_drewN ?_ _ | refine blk_drew ?_ | refine blk_alloc ?_ _)); exact BK150.out) hb); have n2_ := Aside0.mk (below_step (by repeat (first | (with_reducible first | exact HB.out | apply below_alloc | apply pw_below_drewN | apply below_drew1 | refine below_set ?_ GE149.out | refine below_set ?_ GE150.out) | exact HB.out)) hb); clear BK149; clear BK150; clear HB; have BK149 := n0_; have BK150 := n1_; have HB := n2_; clear n0_ n1_ n2_; (try clear hb); (try clear hb2); (try clear hk); (try clear hi)))
        go_ret
        exact ⟨by first | rfl | (simp [errW_none, errW_some] <;> rfl) | (simp [*, errW_none, errW_some] <;> rfl), by repeat (first | (with_reducible first | exact HB.out | apply below_alloc | apply pw_below_drewN | apply below_drew1 | refine below_set ?_ GE149.out | refine below_set ?_ GE150.out) | exact HB.out)⟩
      · replace c6 := Bool.eq_false_iff.mpr c6
        subst c6
        have H1 : (some false) = some r := by rw [if_neg (show ¬ (false = true) by decide)] at H; exact H
        clear H
        have H := H1
        clear H1
        obtain rfl := Option.some.inj H
        go_enter Try.func96, Try.ntmps96
        go_wp2_with (first | ((with_reducible refine gate_dst (N := 2) rfl ?_); refine box_event ?hg (N := 2) ?hd (cs := #[.int .i8 a0_0, .int .i8 a0_1, .int .i16 a0_2, .int .i16 a0_3, .int .i16 a0_4]) (t := 77) ?hr ?_; (case hd => rfl); (case hg => rfl); (case hr => first | (go_simp; done) | (go_simp; rfl)); intro gb149 hg w13 hbox hb; have n0_ := Aside0.mk (below_step (by repeat (first | (with_reducible first | exact HB.out | apply below_alloc | apply pw_below_drewN | apply below_drew1) | exact HB.out)) hb); have n1_ := Aside0.mk (hbox); have n2_ := Aside0.mk ((by rw [hg]; exact (below_size (by repeat (first | (with_reducible first | exact HB.out | apply below_alloc | apply pw_below_drewN | apply below_drew1) | exact HB.out))) : w.heap.size ≤ gb149)); have n3_ := Aside0.mk ((by rw [hg]; exact (below_size (by repeat (first | (with_reducible first | exact HB.out | apply below_alloc | apply pw_below_drewN | apply below_drew1) | exact HB.out))) : w.heap.size ≤ gb149)); clear HB; have HB := n0_; have BK149 := n1_; have GW149 := n2_; have GE149 := n3_; clear n0_ n1_ n2_ n3_; clear hb hbox hg) | ((with_reducible refine gate_dst (N := 3) rfl ?_); refine box_event ?hg (N := 3) ?hd (cs := #[.int .i8 a1_0, .int .i8 a1_1, .int .i16 a1_2, .int .i16 a1_3, .int .i16 a1_4]) (t := 77) ?hr ?_; (case hd => rfl); (case hg => rfl); (case hr => first | (go_simp; done) | (go_simp; rfl)); intro gb150 hg w14 hbox hb; have n0_ := Aside0.mk (blk_below (g := gb149) (o := .cells #[.int .i8 a0_0, .int .i8 a0_1, .int .i16 a0_2, .int .i16 a0_3, .int .i16 a0_4] 77 (0, 0)) (by (with_reducible repeat (first | refine blk_drewN ?_ _ | refine blk_drew ?_ | refine blk_alloc ?_ _)); exact BK149.out) hb); have n1_ := Aside0.mk (below_step (by repeat (first | (with_reducible first | exact HB.out | apply below_alloc | apply pw_below_drewN | apply below_drew1 | refine below_set ?_ GE149.out) | exact HB.out)) hb); have n2_ := Aside0.mk (hbox); have n3_ := Aside0.mk ((by rw [hg]; exact (below_size (by repeat (first | (with_reducible first | exact HB.out | apply below_alloc | apply pw_below_drewN | apply below_drew1 | refine below_set ?_ GE149.out) | exact HB.out))) : w.heap.size ≤ gb150)); have n4_ := Aside0.mk ((by rw [hg]; exact (below_size (by repeat (first | (with_reducible first | exact HB.out | apply below_alloc | apply pw_below_drewN | apply below_drew1 | refine below_set ?_ GE149.out) | exact HB.out))) : w.heap.size ≤ gb150)); have n5_ := Aside0.mk ((by rw [hg]; exact Nat.ne_of_lt (blk_lt (g := gb149) (o := .cells #[.int .i8 a0_0, .int .i8 a0_1, .int .i16 a0_2, .int .i16 a0_3, .int .i16 a0_4] 77 (0, 0)) (by (with_reducible repeat (first | refine blk_drewN ?_ _ | refine blk_drew ?_ | refine blk_alloc ?_ _)); exact BK149.out)) : gb149 ≠ gb150)); have n6_ := Aside0.mk ((by rw [hg]; exact Nat.ne_of_gt (blk_lt (g := gb149) (o := .cells #[.int .i8 a0_0, .int .i8 a0_1, .int .i16 a0_2, .int .i16 a0_3, .int .i16 a0_4] 77 (0, 0)) (by (with_reducible repeat (first | refine blk_drewN ?_ _ | refine blk_drew ?_ | refine blk_alloc ?_ _)); exact BK149.out)) : gb150 ≠ gb149)); clear BK149; clear HB; have BK149 := n0_; have HB := n1_; have BK150 := n2_; have GW150 := n3_; have GE150 := n4_; have NB149_150 := n5_; have NB150_149 := n6_; clear n0_ n1_ n2_ n3_ n4_ n5_ n6_; clear hb hbox hg; have hnb15 := NB149_150.out; have hnc15 := NB150_149.out; have hcz16_0 : w14.cell? ⟨gb149, 0, none⟩ = some (.int .i8 a0_0) := (blk_cell BK149.out 0).trans rfl; have hcz16_1 : w14.cell? ⟨gb149, 1, none⟩ = some (.int .i8 a0_1) := (blk_cell BK149.out 1).trans rfl; have hcz16_2 : w14.cell? ⟨gb149, 2, none⟩ = some (.int .i16 a0_2) := (blk_cell BK149.out 2).trans rfl; have hcz16_3 : w14.cell? ⟨gb149, 3, none⟩ = some (.int .i16 a0_3) := (blk_cell BK149.out 3).trans rfl; have hcz16_4 : w14.cell? ⟨gb149, 4, none⟩ = some (.int .i16 a0_4) := (blk_cell BK149.out 4).trans rfl; have hfz16_0 := blk_frozen BK149.out 0; have hfz16_1 := blk_frozen BK149.out 1; have hfz16_2 := blk_frozen BK149.out 2; have hfz16_3 := blk_frozen BK149.out 3; have hfz16_4 := blk_frozen BK149.out 4; have hcz17_0 : w14.cell? ⟨gb150, 0, none⟩ = some (.int .i8 a1_0) := (blk_cell BK150.out 0).trans rfl; have hcz17_1 : w14.cell? ⟨gb150, 1, none⟩ = some (.int .i8 a1_1) := (blk_cell BK150.out 1).trans rfl; have hcz17_2 : w14.cell? ⟨gb150, 2, none⟩ = some (.int .i16 a1_2) := (blk_cell BK150.out 2).trans rfl; have hcz17_3 : w14.cell? ⟨gb150, 3, none⟩ = some (.int .i16 a1_3) := (blk_cell BK150.out 3).trans rfl; have hcz17_4 : w14.cell? ⟨gb150, 4, none⟩ = some (.int .i16 a1_4) := (blk_cell BK150.out 4).trans rfl; have hfz17_0 := blk_frozen BK150.out 0; have hfz17_1 := blk_frozen BK150.out 1; have hfz17_2 := blk_frozen BK150.out 2; have hfz17_3 := blk_frozen BK150.out 3; have hfz17_4 := blk_frozen BK150.out 4) | ((with_reducible refine gate_callee (f := 144) rfl ?_); refine goesL_ (some 19) rfl rfl Try.func144 (by kernel_rfl) rfl #[.agg #[.int .i16 a0_2, .int .i16 a0_3, .int .i16 a0_4], .agg #[.int .i16 a1_2, .int .i16 a1_3, .int .i16 a1_4]] rfl (by (try simp only [List.map_toArray, List.map_cons, List.map_nil]); first | done | rfl | (simp only [List.length_drop, List.length_take]; rfl)) ?_; (with_reducible refine (laws_eqInt16A3.calls k a0_2 a0_3 a0_4 a1_2 a1_3 a1_4 false _ A5.out).mono ?_); rintro e w18 ⟨rfl, hb⟩; refine ⟨_, rfl, ?_⟩; have n0_ := Aside0.mk (blk_below (g := gb149) (o := .cells #[.int .i8 a0_0, .int .i8 a0_1, .int .i16 a0_2, .int .i16 a0_3, .int .i16 a0_4] 77 (0, 0)) (by (with_reducible repeat (first | refine blk_drewN ?_ _ | refine blk_drew ?_ | refine blk_alloc ?_ _)); exact BK149.out) hb); have n1_ := Aside0.mk (blk_below (g := gb150) (o := .cells #[.int .i8 a1_0, .int .i8 a1_1, .int .i16 a1_2, .int .i16 a1_3, .int .i16 a1_4] 77 (0, 0)) (by (with_reducible repeat (first | refine blk_drewN ?_ _ | refine blk_drew ?_ | refine blk_alloc ?_ _)); exact BK150.out) hb); have n2_ := Aside0.mk (below_step (by repeat (first | (with_reducible first | exact HB.out | apply below_alloc | apply pw_below_drewN | apply below_drew1 | refine below_set ?_ GE149.out | refine below_set ?_ GE150.out) | exact HB.out)) hb); clear BK149; clear BK150; clear HB; have BK149 := n0_; have BK150 := n1_; have HB := n2_; clear n0_ n1_ n2_; (try clear hb); (try clear hb2); (try clear hk); (try clear hi)))
        go_ret
        exact ⟨by first | rfl | (simp [errW_none, errW_some] <;> rfl) | (simp [*, errW_none, errW_some] <;> rfl), by repeat (first | (with_reducible first | exact HB.out | apply below_alloc | apply pw_below_drewN | apply below_drew1 | refine below_set ?_ GE149.out | refine below_set ?_ GE150.out) | exact HB.out)⟩
    · rw [if_neg c4] at H
      have c4b0 : (a0_1 == a1_1) = false := beq_eq_false_iff_ne.mpr c4
      have c4b1 : (a0_1 != a1_1) = true := bne_iff_ne.mpr c4
      obtain rfl := Option.some.inj H
      go_enter Try.func96, Try.ntmps96
      go_wp2_with (first | ((with_reducible refine gate_dst (N := 2) rfl ?_); refine box_event ?hg (N := 2) ?hd (cs := #[.int .i8 a0_0, .int .i8 a0_1, .int .i16 a0_2, .int .i16 a0_3, .int .i16 a0_4]) (t := 77) ?hr ?_; (case hd => rfl); (case hg => rfl); (case hr => first | (go_simp; done) | (go_simp; rfl)); intro gb149 hg w19 hbox hb; have n0_ := Aside0.mk (below_step (by repeat (first | (with_reducible first | exact HB.out | apply below_alloc | apply pw_below_drewN | apply below_drew1) | exact HB.out)) hb); have n1_ := Aside0.mk (hbox); have n2_ := Aside0.mk ((by rw [hg]; exact (below_size (by repeat (first | (with_reducible first | exact HB.out | apply below_alloc | apply pw_below_drewN | apply below_drew1) | exact HB.out))) : w.heap.size ≤ gb149)); have n3_ := Aside0.mk ((by rw [hg]; exact (below_size (by repeat (first | (with_reducible first | exact HB.out | apply below_alloc | apply pw_below_drewN | apply below_drew1) | exact HB.out))) : w.heap.size ≤ gb149)); clear HB; have HB := n0_; have BK149 := n1_; have GW149 := n2_; have GE149 := n3_; clear n0_ n1_ n2_ n3_; clear hb hbox hg) | ((with_reducible refine gate_dst (N := 3) rfl ?_); refine box_event ?hg (N := 3) ?hd (cs := #[.int .i8 a1_0, .int .i8 a1_1, .int .i16 a1_2, .int .i16 a1_3, .int .i16 a1_4]) (t := 77) ?hr ?_; (case hd => rfl); (case hg => rfl); (case hr => first | (go_simp; done) | (go_simp; rfl)); intro gb150 hg w20 hbox hb; have n0_ := Aside0.mk (blk_below (g := gb149) (o := .cells #[.int .i8 a0_0, .int .i8 a0_1, .int .i16 a0_2, .int .i16 a0_3, .int .i16 a0_4] 77 (0, 0)) (by (with_reducible repeat (first | refine blk_drewN ?_ _ | refine blk_drew ?_ | refine blk_alloc ?_ _)); exact BK149.out) hb); have n1_ := Aside0.mk (below_step (by repeat (first | (with_reducible first | exact HB.out | apply below_alloc | apply pw_below_drewN | apply below_drew1 | refine below_set ?_ GE149.out) | exact HB.out)) hb); have n2_ := Aside0.mk (hbox); have n3_ := Aside0.mk ((by rw [hg]; exact (below_size (by repeat (first | (with_reducible first | exact HB.out | apply below_alloc | apply pw_below_drewN | apply below_drew1 | refine below_set ?_ GE149.out) | exact HB.out))) : w.heap.size ≤ gb150)); have n4_ := Aside0.mk ((by rw [hg]; exact (below_size (by repeat (first | (with_reducible first | exact HB.out | apply below_alloc | apply pw_below_drewN | apply below_drew1 | refine below_set ?_ GE149.out) | exact HB.out))) : w.heap.size ≤ gb150)); have n5_ := Aside0.mk ((by rw [hg]; exact Nat.ne_of_lt (blk_lt (g := gb149) (o := .cells #[.int .i8 a0_0, .int .i8 a0_1, .int .i16 a0_2, .int .i16 a0_3, .int .i16 a0_4] 77 (0, 0)) (by (with_reducible repeat (first | refine blk_drewN ?_ _ | refine blk_drew ?_ | refine blk_alloc ?_ _)); exact BK149.out)) : gb149 ≠ gb150)); have n6_ := Aside0.mk ((by rw [hg]; exact Nat.ne_of_gt (blk_lt (g := gb149) (o := .cells #[.int .i8 a0_0, .int .i8 a0_1, .int .i16 a0_2, .int .i16 a0_3, .int .i16 a0_4] 77 (0, 0)) (by (with_reducible repeat (first | refine blk_drewN ?_ _ | refine blk_drew ?_ | refine blk_alloc ?_ _)); exact BK149.out)) : gb150 ≠ gb149)); clear BK149; clear HB; have BK149 := n0_; have HB := n1_; have BK150 := n2_; have GW150 := n3_; have GE150 := n4_; have NB149_150 := n5_; have NB150_149 := n6_; clear n0_ n1_ n2_ n3_ n4_ n5_ n6_; clear hb hbox hg; have hnb21 := NB149_150.out; have hnc21 := NB150_149.out; have hcz22_0 : w20.cell? ⟨gb149, 0, none⟩ = some (.int .i8 a0_0) := (blk_cell BK149.out 0).trans rfl; have hcz22_1 : w20.cell? ⟨gb149, 1, none⟩ = some (.int .i8 a0_1) := (blk_cell BK149.out 1).trans rfl; have hcz22_2 : w20.cell? ⟨gb149, 2, none⟩ = some (.int .i16 a0_2) := (blk_cell BK149.out 2).trans rfl; have hcz22_3 : w20.cell? ⟨gb149, 3, none⟩ = some (.int .i16 a0_3) := (blk_cell BK149.out 3).trans rfl; have hcz22_4 : w20.cell? ⟨gb149, 4, none⟩ = some (.int .i16 a0_4) := (blk_cell BK149.out 4).trans rfl; have hfz22_0 := blk_frozen BK149.out 0; have hfz22_1 := blk_frozen BK149.out 1; have hfz22_2 := blk_frozen BK149.out 2; have hfz22_3 := blk_frozen BK149.out 3; have hfz22_4 := blk_frozen BK149.out 4; have hcz23_0 : w20.cell? ⟨gb150, 0, none⟩ = some (.int .i8 a1_0) := (blk_cell BK150.out 0).trans rfl; have hcz23_1 : w20.cell? ⟨gb150, 1, none⟩ = some (.int .i8 a1_1) := (blk_cell BK150.out 1).trans rfl; have hcz23_2 : w20.cell? ⟨gb150, 2, none⟩ = some (.int .i16 a1_2) := (blk_cell BK150.out 2).trans rfl; have hcz23_3 : w20.cell? ⟨gb150, 3, none⟩ = some (.int .i16 a1_3) := (blk_cell BK150.out 3).trans rfl; have hcz23_4 : w20.cell? ⟨gb150, 4, none⟩ = some (.int .i16 a1_4) := (blk_cell BK150.out 4).trans rfl; have hfz23_0 := blk_frozen BK150.out 0; have hfz23_1 := blk_frozen BK150.out 1; have hfz23_2 := blk_frozen BK150.out 2; have hfz23_3 := blk_frozen BK150.out 3; have hfz23_4 := blk_frozen BK150.out 4))
      go_ret
      exact ⟨by first | rfl | (simp [errW_none, errW_some] <;> rfl) | (simp [*, errW_none, errW_some] <;> rfl), by repeat (first | (with_reducible first | exact HB.out | apply below_alloc | apply pw_below_drewN | apply below_drew1 | refine below_set ?_ GE149.out | refine below_set ?_ GE150.out) | exact HB.out)⟩
  · rw [if_neg c3] at H
    have c3b0 : (a0_0 == a1_0) = false := beq_eq_false_iff_ne.mpr c3
    have c3b1 : (a0_0 != a1_0) = true := bne_iff_ne.mpr c3
    obtain rfl := Option.some.inj H
    go_enter Try.func96, Try.ntmps96
    go_wp2_with (first | ((with_reducible refine gate_dst (N := 2) rfl ?_); refine box_event ?hg (N := 2) ?hd (cs := #[.int .i8 a0_0, .int .i8 a0_1, .int .i16 a0_2, .int .i16 a0_3, .int .i16 a0_4]) (t := 77) ?hr ?_; (case hd => rfl); (case hg => rfl); (case hr => first | (go_simp; done) | (go_simp; rfl)); intro gb149 hg w24 hbox hb; have n0_ := Aside0.mk (below_step (by repeat (first | (with_reducible first | exact HB.out | apply below_alloc | apply pw_below_drewN | apply below_drew1) | exact HB.out)) hb); have n1_ := Aside0.mk (hbox); have n2_ := Aside0.mk ((by rw [hg]; exact (below_size (by repeat (first | (with_reducible first | exact HB.out | apply below_alloc | apply pw_below_drewN | apply below_drew1) | exact HB.out))) : w.heap.size ≤ gb149)); have n3_ := Aside0.mk ((by rw [hg]; exact (below_size (by repeat (first | (with_reducible first | exact HB.out | apply below_alloc | apply pw_below_drewN | apply below_drew1) | exact HB.out))) : w.heap.size ≤ gb149)); clear HB; have HB := n0_; have BK149 := n1_; have GW149 := n2_; have GE149 := n3_; clear n0_ n1_ n2_ n3_; clear hb hbox hg) | ((with_reducible refine gate_dst (N := 3) rfl ?_); refine box_event ?hg (N := 3) ?hd (cs := #[.int .i8 a1_0, .int .i8 a1_1, .int .i16 a1_2, .int .i16 a1_3, .int .i16 a1_4]) (t := 77) ?hr ?_; (case hd => rfl); (case hg => rfl); (case hr => first | (go_simp; done) | (go_simp; rfl)); intro gb150 hg w25 hbox hb; have n0_ := Aside0.mk (blk_below (g := gb149) (o := .cells #[.int .i8 a0_0, .int .i8 a0_1, .int .i16 a0_2, .int .i16 a0_3, .int .i16 a0_4] 77 (0, 0)) (by (with_reducible repeat (first | refine blk_drewN ?_ _ | refine blk_drew ?_ | refine blk_alloc ?_ _)); exact BK149.out) hb); have n1_ := Aside0.mk (below_step (by repeat (first | (with_reducible first | exact HB.out | apply below_alloc | apply pw_below_drewN | apply below_drew1 | refine below_set ?_ GE149.out) | exact HB.out)) hb); have n2_ := Aside0.mk (hbox); have n3_ := Aside0.mk ((by rw [hg]; exact (below_size (by repeat (first | (with_reducible first | exact HB.out | apply below_alloc | apply pw_below_drewN | apply below_drew1 | refine below_set ?_ GE149.out) | exact HB.out))) : w.heap.size ≤ gb150)); have n4_ := Aside0.mk ((by rw [hg]; exact (below_size (by repeat (first | (with_reducible first | exact HB.out | apply below_alloc | apply pw_below_drewN | apply below_drew1 | refine below_set ?_ GE149.out) | exact HB.out))) : w.heap.size ≤ gb150)); have n5_ := Aside0.mk ((by rw [hg]; exact Nat.ne_of_lt (blk_lt (g := gb149) (o := .cells #[.int .i8 a0_0, .int .i8 a0_1, .int .i16 a0_2, .int .i16 a0_3, .int .i16 a0_4] 77 (0, 0)) (by (with_reducible repeat (first | refine blk_drewN ?_ _ | refine blk_drew ?_ | refine blk_alloc ?_ _)); exact BK149.out)) : gb149 ≠ gb150)); have n6_ := Aside0.mk ((by rw [hg]; exact Nat.ne_of_gt (blk_lt (g := gb149) (o := .cells #[.int .i8 a0_0, .int .i8 a0_1, .int .i16 a0_2, .int .i16 a0_3, .int .i16 a0_4] 77 (0, 0)) (by (with_reducible repeat (first | refine blk_drewN ?_ _ | refine blk_drew ?_ | refine blk_alloc ?_ _)); exact BK149.out)) : gb150 ≠ gb149)); clear BK149; clear HB; have BK149 := n0_; have HB := n1_; have BK150 := n2_; have GW150 := n3_; have GE150 := n4_; have NB149_150 := n5_; have NB150_149 := n6_; clear n0_ n1_ n2_ n3_ n4_ n5_ n6_; clear hb hbox hg; have hnb26 := NB149_150.out; have hnc26 := NB150_149.out; have hcz27_0 : w25.cell? ⟨gb149, 0, none⟩ = some (.int .i8 a0_0) := (blk_cell BK149.out 0).trans rfl; have hcz27_1 : w25.cell? ⟨gb149, 1, none⟩ = some (.int .i8 a0_1) := (blk_cell BK149.out 1).trans rfl; have hcz27_2 : w25.cell? ⟨gb149, 2, none⟩ = some (.int .i16 a0_2) := (blk_cell BK149.out 2).trans rfl; have hcz27_3 : w25.cell? ⟨gb149, 3, none⟩ = some (.int .i16 a0_3) := (blk_cell BK149.out 3).trans rfl; have hcz27_4 : w25.cell? ⟨gb149, 4, none⟩ = some (.int .i16 a0_4) := (blk_cell BK149.out 4).trans rfl; have hfz27_0 := blk_frozen BK149.out 0; have hfz27_1 := blk_frozen BK149.out 1; have hfz27_2 := blk_frozen BK149.out 2; have hfz27_3 := blk_frozen BK149.out 3; have hfz27_4 := blk_frozen BK149.out 4; have hcz28_0 : w25.cell? ⟨gb150, 0, none⟩ = some (.int .i8 a1_0) := (blk_cell BK150.out 0).trans rfl; have hcz28_1 : w25.cell? ⟨gb150, 1, none⟩ = some (.int .i8 a1_1) := (blk_cell BK150.out 1).trans rfl; have hcz28_2 : w25.cell? ⟨gb150, 2, none⟩ = some (.int .i16 a1_2) := (blk_cell BK150.out 2).trans rfl; have hcz28_3 : w25.cell? ⟨gb150, 3, none⟩ = some (.int .i16 a1_3) := (blk_cell BK150.out 3).trans rfl; have hcz28_4 : w25.cell? ⟨gb150, 4, none⟩ = some (.int .i16 a1_4) := (blk_cell BK150.out 4).trans rfl; have hfz28_0 := blk_frozen BK150.out 0; have hfz28_1 := blk_frozen BK150.out 1; have hfz28_2 := blk_frozen BK150.out 2; have hfz28_3 := blk_frozen BK150.out 3; have hfz28_4 := blk_frozen BK150.out 4))
    go_ret
    exact ⟨by first | rfl | (simp [errW_none, errW_some] <;> rfl) | (simp [*, errW_none, errW_some] <;> rfl), by repeat (first | (with_reducible first | exact HB.out | apply below_alloc | apply pw_below_drewN | apply below_drew1 | refine below_set ?_ GE149.out | refine below_set ?_ GE150.out) | exact HB.out)⟩

/-! ### laws_eqForkS: function 57 -/
def laws_eqForkS.l0 : Nat → List (S77) → List (S77) → Int → Option (Bool)
  | 0, _, _, _ => none
  | k + 1, x0, x1, x5 => if x5 < (x0.length : Int) then (if 0 ≤ x5 then (if x5 < (x1.length : Int) then ((laws_eqFork.f k ((rd_T77 x0 x5).f0) ((rd_T77 x0 x5).f1) ((rd_T77 x0 x5).f2.f0) ((rd_T77 x0 x5).f2.f1) ((rd_T77 x0 x5).f2.f2) ((rd_T77 x1 x5).f0) ((rd_T77 x1 x5).f1) ((rd_T77 x1 x5).f2.f0) ((rd_T77 x1 x5).f2.f1) ((rd_T77 x1 x5).f2.f2)).bind fun t154 => (if t154 = true then (laws_eqForkS.l0 k x0 x1 (wrap64 (x5 + 1))) else (some false))) else (none)) else (none)) else (some true)
def laws_eqForkS.f (k : Nat) (l0 : List (S77)) (l1 : List (S77)) : Option (Bool) := if (l0.length : Int) = (l1.length : Int) then (laws_eqForkS.l0 k l0 l1 0) else (some false)
theorem laws_eqForkS.mono_l : ∀ k, (∀ y0 y1 y2, LeO (laws_eqForkS.l0 k y0 y1 y2) (laws_eqForkS.l0 (k + 1) y0 y1 y2))
  | 0 => fun _ _ _ r h => by simp [laws_eqForkS.l0] at h
  | k + 1 => by
    have ih0 := laws_eqForkS.mono_l k
    · intro y0 y1 y2
      unfold laws_eqForkS.l0
      repeat' first
      | (with_reducible exact ih0 _ _ _)
      | (with_reducible exact laws_eqFork.mono _ _ _ _ _ _ _ _ _ _ _)
      | (with_reducible exact LeO.refl _)
      | (with_reducible exact LeO.none _)
      | (with_reducible refine LeO.ite ?_ ?_)
      | (with_reducible refine LeO.bind ?_ (fun _ => ?_))
      | exact ih0 _ _ _
      | exact laws_eqFork.mono _ _ _ _ _ _ _ _ _ _ _
      | exact LeO.none _
      | refine LeO.ite ?_ ?_
      | refine LeO.bind ?_ (fun _ => ?_)
theorem laws_eqForkS.mono : ∀ a0 a1 k, LeO (laws_eqForkS.f k a0 a1) (laws_eqForkS.f (k + 1) a0 a1) := by
  intro a0 a1 k
  have ih0 := laws_eqForkS.mono_l k
  unfold laws_eqForkS.f
  repeat' first
      | (with_reducible exact ih0 _ _ _)
      | (with_reducible exact laws_eqFork.mono _ _ _ _ _ _ _ _ _ _ _)
      | (with_reducible exact LeO.refl _)
      | (with_reducible exact LeO.none _)
      | (with_reducible refine LeO.ite ?_ ?_)
      | (with_reducible refine LeO.bind ?_ (fun _ => ?_))
      | exact ih0 _ _ _
      | exact laws_eqFork.mono _ _ _ _ _ _ _ _ _ _ _
      | exact LeO.none _
      | refine LeO.ite ?_ ?_
      | refine LeO.bind ?_ (fun _ => ?_)
def laws_eqForkS.T6 : Bool × List (List Nat × List Nat) := (true, [([], []), ([], []), ([0, 1], [0, 1]), ([2], [2]), ([], []), ([], []), ([4, 5], [4, 5]), ([6], [6]), ([3, 7], [3, 7]), ([8], [8])])
def laws_eqForkS.B6 : List Nat := [0, 0, 3, 7, 0, 0, 48, 112, 255, 511]
theorem laws_eqForkS.tab6 : rtab .any (opsOf Try.f57 6) = laws_eqForkS.T6 := by kernel_rfl
theorem laws_eqForkS.bits6 : waitsOk laws_eqForkS.T6.2 laws_eqForkS.B6 = true := by kernel_rfl
set_option maxHeartbeats 8000000 in
set_option maxRecDepth 100000 in
theorem laws_eqForkS.calls (k : Nat) (A0 : Option Addr) (c0 : Nat) (l0 : List (S77)) (A1 : Option Addr) (c1 : Nat) (l1 : List (S77)) (r : Bool) (w : World) (hr0 : Kd.C k77 w A0 l0.length l0) (hc0 : l0.length ≤ c0) (hr1 : Kd.C k77 w A1 l1.length l1) (hc1 : l1.length ≤ c1) (h : laws_eqForkS.f k l0 l1 = some r) :
    Calls Try.prog 57 #[.slice A0 l0.length c0, .slice A1 l1.length c1] w fun e w' => e = .returned (.bool r) ∧ Below w.heap.size w w' := by
  have hu77 := Try.underlying77
  have HR0 := Aside0.mk hr0
  have HC0 := Aside0.mk hc0
  clear hr0 hc0
  have HR1 := Aside0.mk hr1
  have HC1 := Aside0.mk hc1
  clear hr1 hc1
  have HB := Aside0.mk (Below.refl w.heap.size w)
  have H : (if (l0.length : Int) = (l1.length : Int) then (laws_eqForkS.l0 k l0 l1 0) else (some false)) = some r := h
  clear h
  by_cases c3 : (l0.length : Int) = (l1.length : Int)
  · rw [if_pos c3] at H
    have c3b0 : ((l0.length : Int) == (l1.length : Int)) = true := beq_iff_eq.mpr c3
    have c3b1 : ((l0.length : Int) != (l1.length : Int)) = false := bne_eq_false_iff_eq.mpr c3
    have c3b2 : (l0.length == l1.length) = true := by first | simpa using c3 | (simp at c3 ⊢; omega)
    clear c3
    have H' := Aside0.mk H
    clear H
    go_enter Try.func57, Try.ntmps57
    go_wp2
    go_loopg [5] k (fun kq v5 w' => ∃ (x5_1 : Int), v5 = .int .i64 x5_1 ∧ Aside0 (laws_eqForkS.l0 kq l0 l1 x5_1 = some r) ∧ Aside0 (kq ≤ k) ∧ Aside0 (Below w.heap.size w w'))
    case atStart => exact ⟨(0), (by first | rfl | (simp; done) | (simp [*]; done)), H', ⟨Nat.le_refl _⟩, ⟨by repeat (first | (with_reducible first | exact HB.out | apply below_alloc | apply pw_below_drewN | apply below_drew1) | exact HB.out)⟩⟩
    case round =>
      clear H'
      try clear c1
      try clear p2
      try clear c3
      try clear c3b0
      try clear c3b1
      try clear c3b2
      obtain ⟨x5_1, rfl, HA, HK1, HB⟩ := hrel
      cases gk with
      | zero => exact absurd HA.out (by simp [laws_eqForkS.l0])
      | succ k1 =>
        have H := HA.out
        clear HA
        simp only [laws_eqForkS.l0] at H
        by_cases c4 : x5_1 < (l0.length : Int)
        · rw [if_pos c4] at H
          have c4b0 : decide (x5_1 < (l0.length : Int)) = true := decide_eq_true c4
          clear c4
          by_cases c5 : 0 ≤ x5_1
          · rw [if_pos c5] at H
            have c5b0 : decide (0 ≤ x5_1) = true := decide_eq_true c5
            clear c5
            by_cases c6 : x5_1 < (l1.length : Int)
            · rw [if_pos c6] at H
              have c6b0 : decide (x5_1 < (l1.length : Int)) = true := decide_eq_true c6
              clear c6
              replace H := Option.bind_eq_some_iff.mp H
              obtain ⟨t154, A70, H⟩ := H
              replace H : (if t154 = true then (laws_eqForkS.l0 k1 l0 l1 (wrap64 (x5_1 + 1))) else (some false)) = some r := H
              have A7 := Aside0.mk A70
              clear A70
              by_cases c8 : t154 = true
              · subst c8
                have H1 : (laws_eqForkS.l0 k1 l0 l1 (wrap64 (x5_1 + 1))) = some r := by rw [if_pos rfl] at H; exact H
                clear H
                have H := H1
                clear H1
                have H' := Aside0.mk H
                clear H
                try go_wp2
                have n0_ := Aside0.mk (below_drew1 HB.out)
                clear HB
                have HB := n0_
                clear n0_
                have p152 : 0 ≤ (x5_1 : Int) := of_decide_eq_true (by first | (with_reducible assumption) | assumption)
                have q152 : x5_1 < (l0.length : Int) := of_decide_eq_true (by first | (with_reducible assumption) | assumption)
                obtain ⟨ad152, e152, hx152_0, hx152_1, hx152_2, hx152_3, hx152_4⟩ := at_T77 HR0.out x5_1 p152 q152
                have hw152_4 := hx152_4
                have hw152_3 := hx152_3
                have hw152_2 := hx152_2
                have hw152_1 := hx152_1
                have hw152_0 := hx152_0
                cases e152
                replace hx152_0 := (HB.out.cell (World.block_lt_of_cell? w _ hx152_0)).trans hx152_0
                replace hx152_1 := (HB.out.cell (World.block_lt_of_cell? w _ hx152_1)).trans hx152_1
                replace hx152_2 := (HB.out.cell (World.block_lt_of_cell? w _ hx152_2)).trans hx152_2
                replace hx152_3 := (HB.out.cell (World.block_lt_of_cell? w _ hx152_3)).trans hx152_3
                replace hx152_4 := (HB.out.cell (World.block_lt_of_cell? w _ hx152_4)).trans hx152_4
                replace p152 := eq_true p152
                replace q152 := eq_true q152
                have p153 : 0 ≤ (x5_1 : Int) := of_decide_eq_true (by first | (with_reducible assumption) | assumption)
                have q153 : x5_1 < (l1.length : Int) := of_decide_eq_true (by first | (with_reducible assumption) | assumption)
                obtain ⟨ad153, e153, hx153_0, hx153_1, hx153_2, hx153_3, hx153_4⟩ := at_T77 HR1.out x5_1 p153 q153
                have hw153_4 := hx153_4
                have hw153_3 := hx153_3
                have hw153_2 := hx153_2
                have hw153_1 := hx153_1
                have hw153_0 := hx153_0
                cases e153
                replace hx153_0 := (HB.out.cell (World.block_lt_of_cell? w _ hx153_0)).trans hx153_0
                replace hx153_1 := (HB.out.cell (World.block_lt_of_cell? w _ hx153_1)).trans hx153_1
                replace hx153_2 := (HB.out.cell (World.block_lt_of_cell? w _ hx153_2)).trans hx153_2
                replace hx153_3 := (HB.out.cell (World.block_lt_of_cell? w _ hx153_3)).trans hx153_3
                replace hx153_4 := (HB.out.cell (World.block_lt_of_cell? w _ hx153_4)).trans hx153_4
                replace p153 := eq_true p153
                replace q153 := eq_true q153
                refine start_ (n := 10) (S := fun w' => w'.cell? (ad152.add ((x5_1).toNat * 5)) = some (.int .i8 ((rd_T77 l0 x5_1).f0)) ∧ w'.cell? ⟨(ad152.add ((x5_1).toNat * 5)).block, (ad152.add ((x5_1).toNat * 5)).off + 1, none⟩ = some (.int .i8 ((rd_T77 l0 x5_1).f1)) ∧ w'.cell? ⟨(ad152.add ((x5_1).toNat * 5)).block, (ad152.add ((x5_1).toNat * 5)).off + 2, none⟩ = some (.int .i16 ((rd_T77 l0 x5_1).f2.f0)) ∧ w'.cell? ⟨(ad152.add ((x5_1).toNat * 5)).block, (ad152.add ((x5_1).toNat * 5)).off + 3, none⟩ = some (.int .i16 ((rd_T77 l0 x5_1).f2.f1)) ∧ w'.cell? ⟨(ad152.add ((x5_1).toNat * 5)).block, (ad152.add ((x5_1).toNat * 5)).off + 4, none⟩ = some (.int .i16 ((rd_T77 l0 x5_1).f2.f2)) ∧ w'.cell? (ad153.add ((x5_1).toNat * 5)) = some (.int .i8 ((rd_T77 l1 x5_1).f0)) ∧ w'.cell? ⟨(ad153.add ((x5_1).toNat * 5)).block, (ad153.add ((x5_1).toNat * 5)).off + 1, none⟩ = some (.int .i8 ((rd_T77 l1 x5_1).f1)) ∧ w'.cell? ⟨(ad153.add ((x5_1).toNat * 5)).block, (ad153.add ((x5_1).toNat * 5)).off + 2, none⟩ = some (.int .i16 ((rd_T77 l1 x5_1).f2.f0)) ∧ w'.cell? ⟨(ad153.add ((x5_1).toNat * 5)).block, (ad153.add ((x5_1).toNat * 5)).off + 3, none⟩ = some (.int .i16 ((rd_T77 l1 x5_1).f2.f1)) ∧ w'.cell? ⟨(ad153.add ((x5_1).toNat * 5)).block, (ad153.add ((x5_1).toNat * 5)).off + 4, none⟩ = some (.int .i16 ((rd_T77 l1 x5_1).f2.f2))) (ds := []) #[false, false, false, false, false, false, false, false, false, false] (by kernel_rfl) rfl rfl ⟨((HB.out.cell (World.block_lt_of_cell? w _ hw152_0)).trans hw152_0), ((HB.out.cell (World.block_lt_of_cell? w _ hw152_1)).trans hw152_1), ((HB.out.cell (World.block_lt_of_cell? w _ hw152_2)).trans hw152_2), ((HB.out.cell (World.block_lt_of_cell? w _ hw152_3)).trans hw152_3), ((HB.out.cell (World.block_lt_of_cell? w _ hw152_4)).trans hw152_4), ((HB.out.cell (World.block_lt_of_cell? w _ hw153_0)).trans hw153_0), ((HB.out.cell (World.block_lt_of_cell? w _ hw153_1)).trans hw153_1), ((HB.out.cell (World.block_lt_of_cell? w _ hw153_2)).trans hw153_2), ((HB.out.cell (World.block_lt_of_cell? w _ hw153_3)).trans hw153_3), ((HB.out.cell (World.block_lt_of_cell? w _ hw153_4)).trans hw153_4)⟩ (fun hHeld => ?_); refine with_tabW laws_eqForkS.tab6 laws_eqForkS.bits6 (fun HT_ HW_ => ?_)
                generalize wr.drew = w9 at HB hx152_0 hx152_1 hx152_2 hx152_3 hx152_4 hx153_0 hx153_1 hx153_2 hx153_3 hx153_4 hHeld ⊢
                refine pure_ (i := 0) (N := some 17) (v := ?_) (a' := ?_) #[true, false, false, false, false, false, false, false, false, false] rfl rfl (any_of HT_.out (by kernel_rfl)) (fun _ _ _ h => h) (Or.inl ⟨by rfl, ?_⟩) ?_ ?_
                rotate_left
                · intro w'
                  go_simp
                  with_reducible rfl
                rotate_left
                · simp only [Act.put, List.setIfInBounds_toArray, List.set_cons_zero, List.set_cons_succ, i64_w, i32_w]
                  rfl
                refine pure_ (i := 1) (N := some 18) (v := ?_) (a' := ?_) #[true, true, false, false, false, false, false, false, false, false] rfl rfl (any_of HT_.out (by kernel_rfl)) (fun _ _ _ h => h) (Or.inl ⟨by rfl, ?_⟩) ?_ ?_
                rotate_left
                · intro w'
                  go_simp
                  with_reducible rfl
                rotate_left
                · simp only [Act.put, List.setIfInBounds_toArray, List.set_cons_zero, List.set_cons_succ, i64_w, i32_w]
                  rfl
                refine pure_ (i := 2) (N := some 19) (v := ?_) (a' := ?_) #[true, true, true, false, false, false, false, false, false, false] rfl rfl (any_of HT_.out (by kernel_rfl)) (fun _ _ _ h => h) (Or.inl ⟨by rfl, ?_⟩) ?_ ?_
                rotate_left
                · intro w'
                  go_simp
                  with_reducible rfl
                rotate_left
                · simp only [Act.put, List.setIfInBounds_toArray, List.set_cons_zero, List.set_cons_succ, i64_w, i32_w]
                  rfl
                refine pure_ (i := 4) (N := some 21) (v := ?_) (a' := ?_) #[true, true, true, false, true, false, false, false, false, false] rfl rfl (any_of HT_.out (by kernel_rfl)) (fun _ _ _ h => h) (Or.inl ⟨by rfl, ?_⟩) ?_ ?_
                rotate_left
                · intro w'
                  go_simp
                  with_reducible rfl
                rotate_left
                · simp only [Act.put, List.setIfInBounds_toArray, List.set_cons_zero, List.set_cons_succ, i64_w, i32_w]
                  rfl
                refine pure_ (i := 5) (N := some 22) (v := ?_) (a' := ?_) #[true, true, true, false, true, true, false, false, false, false] rfl rfl (any_of HT_.out (by kernel_rfl)) (fun _ _ _ h => h) (Or.inl ⟨by rfl, ?_⟩) ?_ ?_
                rotate_left
                · intro w'
                  go_simp
                  with_reducible rfl
                rotate_left
                · simp only [Act.put, List.setIfInBounds_toArray, List.set_cons_zero, List.set_cons_succ, i64_w, i32_w]
                  rfl
                refine pure_ (i := 6) (N := some 23) (v := ?_) (a' := ?_) #[true, true, true, false, true, true, true, false, false, false] rfl rfl (any_of HT_.out (by kernel_rfl)) (fun _ _ _ h => h) (Or.inl ⟨by rfl, ?_⟩) ?_ ?_
                rotate_left
                · intro w'
                  go_simp
                  with_reducible rfl
                rotate_left
                · simp only [Act.put, List.setIfInBounds_toArray, List.set_cons_zero, List.set_cons_succ, i64_w, i32_w]
                  rfl
                refine take_ (i := 3) (N := some 20) (v := ?_) (a' := ?_) #[true, true, true, true, true, true, true, false, false, false] rfl rfl (take_ofW HT_.out HW_.out (by kernel_rfl)) (fun _ _ _ h => h) (Or.inl ⟨by rfl, ?_⟩) hHeld ?_ ?_
                rotate_left
                · rintro w' ⟨s0, s1, s2, s3, s4, s5, s6, s7, s8, s9⟩
                  go_simp
                  with_reducible rfl
                rotate_left
                · simp only [Act.put, List.setIfInBounds_toArray, List.set_cons_zero, List.set_cons_succ, i64_w, i32_w]
                  rfl
                refine take_ (i := 7) (N := some 24) (v := ?_) (a' := ?_) #[true, true, true, true, true, true, true, true, false, false] rfl rfl (take_ofW HT_.out HW_.out (by kernel_rfl)) (fun _ _ _ h => h) (Or.inl ⟨by rfl, ?_⟩) hHeld ?_ ?_
                rotate_left
                · rintro w' ⟨s0, s1, s2, s3, s4, s5, s6, s7, s8, s9⟩
                  go_simp
                  with_reducible rfl
                rotate_left
                · simp only [Act.put, List.setIfInBounds_toArray, List.set_cons_zero, List.set_cons_succ, i64_w, i32_w]
                  rfl
                refine one_ (i := 8) (N := some 25) #[true, true, true, true, true, true, true, true, true, false] rfl rfl (one_of HT_.out (by kernel_rfl)) (by decide) (fun K hK => ?_)
                refine goes_ Try.func96 (by kernel_rfl) rfl #[.agg #[.int .i8 ((rd_T77 l0 x5_1).f0), .int .i8 ((rd_T77 l0 x5_1).f1), .int .i16 ((rd_T77 l0 x5_1).f2.f0), .int .i16 ((rd_T77 l0 x5_1).f2.f1), .int .i16 ((rd_T77 l0 x5_1).f2.f2)], .agg #[.int .i8 ((rd_T77 l1 x5_1).f0), .int .i8 ((rd_T77 l1 x5_1).f1), .int .i16 ((rd_T77 l1 x5_1).f2.f0), .int .i16 ((rd_T77 l1 x5_1).f2.f1), .int .i16 ((rd_T77 l1 x5_1).f2.f2)]] (by rfl) rfl rfl (by (try simp only [List.map_toArray, List.map_cons, List.map_nil]); first | done | rfl | (simp only [List.length_drop, List.length_take]; rfl)) ?_
                with_reducible refine (laws_eqFork.calls k1 ((rd_T77 l0 x5_1).f0) ((rd_T77 l0 x5_1).f1) ((rd_T77 l0 x5_1).f2.f0) ((rd_T77 l0 x5_1).f2.f1) ((rd_T77 l0 x5_1).f2.f2) ((rd_T77 l1 x5_1).f0) ((rd_T77 l1 x5_1).f1) ((rd_T77 l1 x5_1).f2.f0) ((rd_T77 l1 x5_1).f2.f1) ((rd_T77 l1 x5_1).f2.f2) true _ A7.out).mono ?_
                rintro e w10 ⟨rfl, hb⟩
                refine ⟨_, rfl, ?_⟩
                have n0_ := Aside0.mk (below_step (by repeat (first | (with_reducible first | exact HB.out | apply below_alloc | apply pw_below_drewN | apply below_drew1) | exact HB.out)) hb)
                clear HB
                have HB := n0_
                clear n0_
                (try clear hb)
                (try clear hb2)
                (try clear hk)
                (try clear hi)
                refine hK.out _ _ ⟨((HB.out.cell (World.block_lt_of_cell? w _ hw152_0)).trans hw152_0), ((HB.out.cell (World.block_lt_of_cell? w _ hw152_1)).trans hw152_1), ((HB.out.cell (World.block_lt_of_cell? w _ hw152_2)).trans hw152_2), ((HB.out.cell (World.block_lt_of_cell? w _ hw152_3)).trans hw152_3), ((HB.out.cell (World.block_lt_of_cell? w _ hw152_4)).trans hw152_4), ((HB.out.cell (World.block_lt_of_cell? w _ hw153_0)).trans hw153_0), ((HB.out.cell (World.block_lt_of_cell? w _ hw153_1)).trans hw153_1), ((HB.out.cell (World.block_lt_of_cell? w _ hw153_2)).trans hw153_2), ((HB.out.cell (World.block_lt_of_cell? w _ hw153_3)).trans hw153_3), ((HB.out.cell (World.block_lt_of_cell? w _ hw153_4)).trans hw153_4)⟩ (fun hHeld => ?_)
                clear hK K
                refine norm_ (a' := ?_) ?_ ?_
                rotate_left
                · show Act.put _ (some 25) _ = _
                  simp only [Act.put, List.setIfInBounds_toArray, List.set_cons_zero, List.set_cons_succ, i64_w, i32_w]
                  rfl
                refine pure_ (i := 9) (N := some 26) (v := ?_) (a' := ?_) #[true, true, true, true, true, true, true, true, true, true] rfl rfl (any_of HT_.out (by kernel_rfl)) (fun _ _ _ h => h) (Or.inl ⟨by rfl, ?_⟩) ?_ ?_
                rotate_left
                · intro w'
                  go_simp
                  with_reducible rfl
                rotate_left
                · simp only [Act.put, List.setIfInBounds_toArray, List.set_cons_zero, List.set_cons_succ, i64_w, i32_w]
                  rfl
                refine done_ (done_of HT_.out (by kernel_rfl)) ?_
                try go_wp2
                go_roundg k1
                case measure => have := HK1.out; omega
                case rel => exact ⟨(wrap64 (x5_1 + 1)), (by first | rfl | (simp; done) | (simp [*]; done)), H', ⟨by have := HK1.out; omega⟩, ⟨by repeat (first | (with_reducible first | exact HB.out | apply below_alloc | apply pw_below_drewN | apply below_drew1) | exact HB.out)⟩⟩
              · replace c8 := Bool.eq_false_iff.mpr c8
                subst c8
                have H1 : (some false) = some r := by rw [if_neg (show ¬ (false = true) by decide)] at H; exact H
                clear H
                have H := H1
                clear H1
                obtain rfl := Option.some.inj H
                try go_wp2
                have n0_ := Aside0.mk (below_drew1 HB.out)
                clear HB
                have HB := n0_
                clear n0_
                have p152 : 0 ≤ (x5_1 : Int) := of_decide_eq_true (by first | (with_reducible assumption) | assumption)
                have q152 : x5_1 < (l0.length : Int) := of_decide_eq_true (by first | (with_reducible assumption) | assumption)
                obtain ⟨ad152, e152, hx152_0, hx152_1, hx152_2, hx152_3, hx152_4⟩ := at_T77 HR0.out x5_1 p152 q152
                have hw152_4 := hx152_4
                have hw152_3 := hx152_3
                have hw152_2 := hx152_2
                have hw152_1 := hx152_1
                have hw152_0 := hx152_0
                cases e152
                replace hx152_0 := (HB.out.cell (World.block_lt_of_cell? w _ hx152_0)).trans hx152_0
                replace hx152_1 := (HB.out.cell (World.block_lt_of_cell? w _ hx152_1)).trans hx152_1
                replace hx152_2 := (HB.out.cell (World.block_lt_of_cell? w _ hx152_2)).trans hx152_2
                replace hx152_3 := (HB.out.cell (World.block_lt_of_cell? w _ hx152_3)).trans hx152_3
                replace hx152_4 := (HB.out.cell (World.block_lt_of_cell? w _ hx152_4)).trans hx152_4
                replace p152 := eq_true p152
                replace q152 := eq_true q152
                have p153 : 0 ≤ (x5_1 : Int) := of_decide_eq_true (by first | (with_reducible assumption) | assumption)
                have q153 : x5_1 < (l1.length : Int) := of_decide_eq_true (by first | (with_reducible assumption) | assumption)
                obtain ⟨ad153, e153, hx153_0, hx153_1, hx153_2, hx153_3, hx153_4⟩ := at_T77 HR1.out x5_1 p153 q153
                have hw153_4 := hx153_4
                have hw153_3 := hx153_3
                have hw153_2 := hx153_2
                have hw153_1 := hx153_1
                have hw153_0 := hx153_0
                cases e153
                replace hx153_0 := (HB.out.cell (World.block_lt_of_cell? w _ hx153_0)).trans hx153_0
                replace hx153_1 := (HB.out.cell (World.block_lt_of_cell? w _ hx153_1)).trans hx153_1
                replace hx153_2 := (HB.out.cell (World.block_lt_of_cell? w _ hx153_2)).trans hx153_2
                replace hx153_3 := (HB.out.cell (World.block_lt_of_cell? w _ hx153_3)).trans hx153_3
                replace hx153_4 := (HB.out.cell (World.block_lt_of_cell? w _ hx153_4)).trans hx153_4
                replace p153 := eq_true p153
                replace q153 := eq_true q153
                refine start_ (n := 10) (S := fun w' => w'.cell? (ad152.add ((x5_1).toNat * 5)) = some (.int .i8 ((rd_T77 l0 x5_1).f0)) ∧ w'.cell? ⟨(ad152.add ((x5_1).toNat * 5)).block, (ad152.add ((x5_1).toNat * 5)).off + 1, none⟩ = some (.int .i8 ((rd_T77 l0 x5_1).f1)) ∧ w'.cell? ⟨(ad152.add ((x5_1).toNat * 5)).block, (ad152.add ((x5_1).toNat * 5)).off + 2, none⟩ = some (.int .i16 ((rd_T77 l0 x5_1).f2.f0)) ∧ w'.cell? ⟨(ad152.add ((x5_1).toNat * 5)).block, (ad152.add ((x5_1).toNat * 5)).off + 3, none⟩ = some (.int .i16 ((rd_T77 l0 x5_1).f2.f1)) ∧ w'.cell? ⟨(ad152.add ((x5_1).toNat * 5)).block, (ad152.add ((x5_1).toNat * 5)).off + 4, none⟩ = some (.int .i16 ((rd_T77 l0 x5_1).f2.f2)) ∧ w'.cell? (ad153.add ((x5_1).toNat * 5)) = some (.int .i8 ((rd_T77 l1 x5_1).f0)) ∧ w'.cell? ⟨(ad153.add ((x5_1).toNat * 5)).block, (ad153.add ((x5_1).toNat * 5)).off + 1, none⟩ = some (.int .i8 ((rd_T77 l1 x5_1).f1)) ∧ w'.cell? ⟨(ad153.add ((x5_1).toNat * 5)).block, (ad153.add ((x5_1).toNat * 5)).off + 2, none⟩ = some (.int .i16 ((rd_T77 l1 x5_1).f2.f0)) ∧ w'.cell? ⟨(ad153.add ((x5_1).toNat * 5)).block, (ad153.add ((x5_1).toNat * 5)).off + 3, none⟩ = some (.int .i16 ((rd_T77 l1 x5_1).f2.f1)) ∧ w'.cell? ⟨(ad153.add ((x5_1).toNat * 5)).block, (ad153.add ((x5_1).toNat * 5)).off + 4, none⟩ = some (.int .i16 ((rd_T77 l1 x5_1).f2.f2))) (ds := []) #[false, false, false, false, false, false, false, false, false, false] (by kernel_rfl) rfl rfl ⟨((HB.out.cell (World.block_lt_of_cell? w _ hw152_0)).trans hw152_0), ((HB.out.cell (World.block_lt_of_cell? w _ hw152_1)).trans hw152_1), ((HB.out.cell (World.block_lt_of_cell? w _ hw152_2)).trans hw152_2), ((HB.out.cell (World.block_lt_of_cell? w _ hw152_3)).trans hw152_3), ((HB.out.cell (World.block_lt_of_cell? w _ hw152_4)).trans hw152_4), ((HB.out.cell (World.block_lt_of_cell? w _ hw153_0)).trans hw153_0), ((HB.out.cell (World.block_lt_of_cell? w _ hw153_1)).trans hw153_1), ((HB.out.cell (World.block_lt_of_cell? w _ hw153_2)).trans hw153_2), ((HB.out.cell (World.block_lt_of_cell? w _ hw153_3)).trans hw153_3), ((HB.out.cell (World.block_lt_of_cell? w _ hw153_4)).trans hw153_4)⟩ (fun hHeld => ?_); refine with_tabW laws_eqForkS.tab6 laws_eqForkS.bits6 (fun HT_ HW_ => ?_)
                generalize wr.drew = w11 at HB hx152_0 hx152_1 hx152_2 hx152_3 hx152_4 hx153_0 hx153_1 hx153_2 hx153_3 hx153_4 hHeld ⊢
                refine pure_ (i := 0) (N := some 17) (v := ?_) (a' := ?_) #[true, false, false, false, false, false, false, false, false, false] rfl rfl (any_of HT_.out (by kernel_rfl)) (fun _ _ _ h => h) (Or.inl ⟨by rfl, ?_⟩) ?_ ?_
                rotate_left
                · intro w'
                  go_simp
                  with_reducible rfl
                rotate_left
                · simp only [Act.put, List.setIfInBounds_toArray, List.set_cons_zero, List.set_cons_succ, i64_w, i32_w]
                  rfl
                refine pure_ (i := 1) (N := some 18) (v := ?_) (a' := ?_) #[true, true, false, false, false, false, false, false, false, false] rfl rfl (any_of HT_.out (by kernel_rfl)) (fun _ _ _ h => h) (Or.inl ⟨by rfl, ?_⟩) ?_ ?_
                rotate_left
                · intro w'
                  go_simp
                  with_reducible rfl
                rotate_left
                · simp only [Act.put, List.setIfInBounds_toArray, List.set_cons_zero, List.set_cons_succ, i64_w, i32_w]
                  rfl
                refine pure_ (i := 2) (N := some 19) (v := ?_) (a' := ?_) #[true, true, true, false, false, false, false, false, false, false] rfl rfl (any_of HT_.out (by kernel_rfl)) (fun _ _ _ h => h) (Or.inl ⟨by rfl, ?_⟩) ?_ ?_
                rotate_left
                · intro w'
                  go_simp
                  with_reducible rfl
                rotate_left
                · simp only [Act.put, List.setIfInBounds_toArray, List.set_cons_zero, List.set_cons_succ, i64_w, i32_w]
                  rfl
                refine pure_ (i := 4) (N := some 21) (v := ?_) (a' := ?_) #[true, true, true, false, true, false, false, false, false, false] rfl rfl (any_of HT_.out (by kernel_rfl)) (fun _ _ _ h => h) (Or.inl ⟨by rfl, ?_⟩) ?_ ?_
                rotate_left
                · intro w'
                  go_simp
                  with_reducible rfl
                rotate_left
                · simp only [Act.put, List.setIfInBounds_toArray, List.set_cons_zero, List.set_cons_succ, i64_w, i32_w]
                  rfl
                refine pure_ (i := 5) (N := some 22) (v := ?_) (a' := ?_) #[true, true, true, false, true, true, false, false, false, false] rfl rfl (any_of HT_.out (by kernel_rfl)) (fun _ _ _ h => h) (Or.inl ⟨by rfl, ?_⟩) ?_ ?_
                rotate_left
                · intro w'
                  go_simp
                  with_reducible rfl
                rotate_left
                · simp only [Act.put, List.setIfInBounds_toArray, List.set_cons_zero, List.set_cons_succ, i64_w, i32_w]
                  rfl
                refine pure_ (i := 6) (N := some 23) (v := ?_) (a' := ?_) #[true, true, true, false, true, true, true, false, false, false] rfl rfl (any_of HT_.out (by kernel_rfl)) (fun _ _ _ h => h) (Or.inl ⟨by rfl, ?_⟩) ?_ ?_
                rotate_left
                · intro w'
                  go_simp
                  with_reducible rfl
                rotate_left
                · simp only [Act.put, List.setIfInBounds_toArray, List.set_cons_zero, List.set_cons_succ, i64_w, i32_w]
                  rfl
                refine take_ (i := 3) (N := some 20) (v := ?_) (a' := ?_) #[true, true, true, true, true, true, true, false, false, false] rfl rfl (take_ofW HT_.out HW_.out (by kernel_rfl)) (fun _ _ _ h => h) (Or.inl ⟨by rfl, ?_⟩) hHeld ?_ ?_
                rotate_left
                · rintro w' ⟨s0, s1, s2, s3, s4, s5, s6, s7, s8, s9⟩
                  go_simp
                  with_reducible rfl
                rotate_left
                · simp only [Act.put, List.setIfInBounds_toArray, List.set_cons_zero, List.set_cons_succ, i64_w, i32_w]
                  rfl
                refine take_ (i := 7) (N := some 24) (v := ?_) (a' := ?_) #[true, true, true, true, true, true, true, true, false, false] rfl rfl (take_ofW HT_.out HW_.out (by kernel_rfl)) (fun _ _ _ h => h) (Or.inl ⟨by rfl, ?_⟩) hHeld ?_ ?_
                rotate_left
                · rintro w' ⟨s0, s1, s2, s3, s4, s5, s6, s7, s8, s9⟩
                  go_simp
                  with_reducible rfl
                rotate_left
                · simp only [Act.put, List.setIfInBounds_toArray, List.set_cons_zero, List.set_cons_succ, i64_w, i32_w]
                  rfl
                refine one_ (i := 8) (N := some 25) #[true, true, true, true, true, true, true, true, true, false] rfl rfl (one_of HT_.out (by kernel_rfl)) (by decide) (fun K hK => ?_)
                refine goes_ Try.func96 (by kernel_rfl) rfl #[.agg #[.int .i8 ((rd_T77 l0 x5_1).f0), .int .i8 ((rd_T77 l0 x5_1).f1), .int .i16 ((rd_T77 l0 x5_1).f2.f0), .int .i16 ((rd_T77 l0 x5_1).f2.f1), .int .i16 ((rd_T77 l0 x5_1).f2.f2)], .agg #[.int .i8 ((rd_T77 l1 x5_1).f0), .int .i8 ((rd_T77 l1 x5_1).f1), .int .i16 ((rd_T77 l1 x5_1).f2.f0), .int .i16 ((rd_T77 l1 x5_1).f2.f1), .int .i16 ((rd_T77 l1 x5_1).f2.f2)]] (by rfl) rfl rfl (by (try simp only [List.map_toArray, List.map_cons, List.map_nil]); first | done | rfl | (simp only [List.length_drop, List.length_take]; rfl)) ?_
                with_reducible refine (laws_eqFork.calls k1 ((rd_T77 l0 x5_1).f0) ((rd_T77 l0 x5_1).f1) ((rd_T77 l0 x5_1).f2.f0) ((rd_T77 l0 x5_1).f2.f1) ((rd_T77 l0 x5_1).f2.f2) ((rd_T77 l1 x5_1).f0) ((rd_T77 l1 x5_1).f1) ((rd_T77 l1 x5_1).f2.f0) ((rd_T77 l1 x5_1).f2.f1) ((rd_T77 l1 x5_1).f2.f2) false _ A7.out).mono ?_
                rintro e w12 ⟨rfl, hb⟩
                refine ⟨_, rfl, ?_⟩
                have n0_ := Aside0.mk (below_step (by repeat (first | (with_reducible first | exact HB.out | apply below_alloc | apply pw_below_drewN | apply below_drew1) | exact HB.out)) hb)
                clear HB
                have HB := n0_
                clear n0_
                (try clear hb)
                (try clear hb2)
                (try clear hk)
                (try clear hi)
                refine hK.out _ _ ⟨((HB.out.cell (World.block_lt_of_cell? w _ hw152_0)).trans hw152_0), ((HB.out.cell (World.block_lt_of_cell? w _ hw152_1)).trans hw152_1), ((HB.out.cell (World.block_lt_of_cell? w _ hw152_2)).trans hw152_2), ((HB.out.cell (World.block_lt_of_cell? w _ hw152_3)).trans hw152_3), ((HB.out.cell (World.block_lt_of_cell? w _ hw152_4)).trans hw152_4), ((HB.out.cell (World.block_lt_of_cell? w _ hw153_0)).trans hw153_0), ((HB.out.cell (World.block_lt_of_cell? w _ hw153_1)).trans hw153_1), ((HB.out.cell (World.block_lt_of_cell? w _ hw153_2)).trans hw153_2), ((HB.out.cell (World.block_lt_of_cell? w _ hw153_3)).trans hw153_3), ((HB.out.cell (World.block_lt_of_cell? w _ hw153_4)).trans hw153_4)⟩ (fun hHeld => ?_)
                clear hK K
                refine norm_ (a' := ?_) ?_ ?_
                rotate_left
                · show Act.put _ (some 25) _ = _
                  simp only [Act.put, List.setIfInBounds_toArray, List.set_cons_zero, List.set_cons_succ, i64_w, i32_w]
                  rfl
                refine pure_ (i := 9) (N := some 26) (v := ?_) (a' := ?_) #[true, true, true, true, true, true, true, true, true, true] rfl rfl (any_of HT_.out (by kernel_rfl)) (fun _ _ _ h => h) (Or.inl ⟨by rfl, ?_⟩) ?_ ?_
                rotate_left
                · intro w'
                  go_simp
                  with_reducible rfl
                rotate_left
                · simp only [Act.put, List.setIfInBounds_toArray, List.set_cons_zero, List.set_cons_succ, i64_w, i32_w]
                  rfl
                refine done_ (done_of HT_.out (by kernel_rfl)) ?_
                try go_wp2
                go_ret
                exact ⟨by first | rfl | (simp [errW_none, errW_some] <;> rfl) | (simp [*, errW_none, errW_some] <;> rfl), by repeat (first | (with_reducible first | exact HB.out | apply below_alloc | apply pw_below_drewN | apply below_drew1) | exact HB.out)⟩
            · rw [if_neg c6] at H
              exact absurd H (by simp)
          · rw [if_neg c5] at H
            exact absurd H (by simp)
        · rw [if_neg c4] at H
          have c4b0 : decide (x5_1 < (l0.length : Int)) = false := decide_eq_false c4
          clear c4
          obtain rfl := Option.some.inj H
          go_wp2
          go_ret
          exact ⟨by first | rfl | (simp [errW_none, errW_some] <;> rfl) | (simp [*, errW_none, errW_some] <;> rfl), by repeat (first | (with_reducible first | exact HB.out | apply below_alloc | apply pw_below_drewN | apply below_drew1) | exact HB.out)⟩
  · rw [if_neg c3] at H
    have c3b0 : ((l0.length : Int) == (l1.length : Int)) = false := beq_eq_false_iff_ne.mpr c3
    have c3b1 : ((l0.length : Int) != (l1.length : Int)) = true := bne_iff_ne.mpr c3
    have c3b2 : (l0.length == l1.length) = false := by first | simpa using c3 | (simp at c3 ⊢; omega)
    obtain rfl := Option.some.inj H
    go_enter Try.func57, Try.ntmps57
    go_wp2
    go_ret
    exact ⟨by first | rfl | (simp [errW_none, errW_some] <;> rfl) | (simp [*, errW_none, errW_some] <;> rfl), by repeat (first | (with_reducible first | exact HB.out | apply below_alloc | apply pw_below_drewN | apply below_drew1) | exact HB.out)⟩

end Go.Proofs.Ytlccefmimpmgjaa.MFnExactEchoTree
