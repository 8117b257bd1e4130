/- Functions of the program as Lean functions, and the proof that the code comes to what they say. Written by a program of this session (myprint.py). -/
import Derived.Test.YtfenifdigjcmiaaMFnExactStreamTreex0
import Derived.Test.YtfenifdigjcmiaaMFnExactStreamTreex2
namespace Go.Proofs.Ytfenifdigjcmiaa.MFnExactStreamTree
open Go.RowKit Go.Proofs.Ytfenifdigjcmiaa.MOpen Go.Proofs.YtfenifdigjcmiaaW.PrintWords Go.Proofs.YtfenifdigjcmiaaW.PrintLast Go.Proofs.YtfenifdigjcmiaaW.PrintMore
attribute [local go_sem] max2_int min2_int max_two min_two max_three min_three max_four min_four   -- for this text's walks alone
set_option linter.unusedVariables false
set_option linter.unusedSimpArgs false

/-! ### impl_digitsOk: function 46 -/
def impl_digitsOk.f (k : Nat) (l0 : List Int) : Option (Bool) := (slices_ContainsFunc_int8_int8_f84.f k l0).bind fun t153 => (some (!t153))
theorem impl_digitsOk.mono : ∀ a0 k, LeO (impl_digitsOk.f k a0) (impl_digitsOk.f (k + 1) a0) := by
  intro a0 k
  unfold impl_digitsOk.f
  repeat' first
      | (with_reducible exact slices_ContainsFunc_int8_int8_f84.mono _ _)
      | (with_reducible exact LeO.refl _)
      | (with_reducible exact LeO.none _)
      | (with_reducible refine LeO.ite ?_ ?_)
      | (with_reducible refine LeO.bind ?_ (fun _ => ?_))
      | exact slices_ContainsFunc_int8_int8_f84.mono _ _
      | exact LeO.none _
      | refine LeO.ite ?_ ?_
      | refine LeO.bind ?_ (fun _ => ?_)
set_option maxHeartbeats 8000000 in
set_option maxRecDepth 100000 in
theorem impl_digitsOk.calls (k : Nat) (A0 : Option Addr) (c0 : Nat) (l0 : List Int) (r : Bool) (w : World) (hr0 : Kd.C (Kd.int .i8) w A0 l0.length l0) (hc0 : l0.length ≤ c0) (h : impl_digitsOk.f k l0 = some r) :
    Calls Try.prog 46 #[.slice A0 l0.length c0] w fun e w' => e = .returned (.bool r) ∧ Drawn0 w w' := by
  have HR0 := Aside0.mk hr0
  have HC0 := Aside0.mk hc0
  clear hr0 hc0
  have H : ((slices_ContainsFunc_int8_int8_f84.f k l0).bind fun t153 => (some (!t153))) = some r := h
  clear h
  replace H := Option.bind_eq_some_iff.mp H
  obtain ⟨t153, A20, H⟩ := H
  replace H : (some (!t153)) = some r := H
  have A2 := Aside0.mk A20
  clear A20
  obtain rfl := Option.some.inj H
  go_enter Try.func46, Try.ntmps46
  go_wp2_with (first | ((with_reducible refine gate_callee (f := 83) rfl ?_); refine goesL_ (some 4) rfl rfl Try.func83 (by kernel_rfl) rfl #[.slice A0 l0.length c0, .func (.func 84) #[] #[]] rfl (by (try simp only [List.map_toArray, List.map_cons, List.map_nil]); first | done | rfl | (simp only [List.length_drop, List.length_take]; rfl)) ?_; (with_reducible refine (slices_ContainsFunc_int8_int8_f84.calls k _ _ l0  t153 _ ?side1 ?side2 A2.out).mono ?_); (case side1 => repeat (first | exact HR0.out | (with_reducible refine Kd.C_alloc ?_ _) | (with_reducible refine Kd.C_drewN ?_ _) | (with_reducible refine Kd.C_drew ?_))); (case side2 => exact HC0.out); rintro e w' ⟨rfl, ⟨nd, rfl⟩⟩; refine ⟨_, rfl, ?_⟩))
  go_ret
  exact ⟨by first | rfl | (simp; done) | (simp [*]; done), by repeat (first | exact Drawn0.refl _ | apply Drawn0.step)⟩

/-! ### impl_ValidStream: function 52 -/
def impl_ValidStream.f (k : Nat) (l0_0 : List Int) (l0_1 : List Int) : Option (Bool) := if (l0_0.length : Int) ≤ 16 then (if (l0_1.length : Int) ≥ 1 then (if (l0_1.length : Int) ≤ 14 then ((impl_digitsOk.f k l0_0).bind fun t155 => (if t155 = true then ((impl_digitsOk.f k l0_1).bind fun t156 => (some t156)) else (some false))) else (some false)) else (some false)) else (some false)
theorem impl_ValidStream.mono : ∀ a0 a1 k, LeO (impl_ValidStream.f k a0 a1) (impl_ValidStream.f (k + 1) a0 a1) := by
  intro a0 a1 k
  unfold impl_ValidStream.f
  repeat' first
      | (with_reducible exact impl_digitsOk.mono _ _)
      | (with_reducible exact LeO.refl _)
      | (with_reducible exact LeO.none _)
      | (with_reducible refine LeO.ite ?_ ?_)
      | (with_reducible refine LeO.bind ?_ (fun _ => ?_))
      | exact impl_digitsOk.mono _ _
      | exact LeO.none _
      | refine LeO.ite ?_ ?_
      | refine LeO.bind ?_ (fun _ => ?_)
set_option maxHeartbeats 8000000 in
set_option maxRecDepth 100000 in
theorem impl_ValidStream.calls (k : Nat) (A0_0 : Option Addr) (c0_0 : Nat) (l0_0 : List Int) (A0_1 : Option Addr) (c0_1 : Nat) (l0_1 : List Int) (r : Bool) (w : World) (hr0_0 : Kd.C (Kd.int .i8) w A0_0 l0_0.length l0_0) (hc0_0 : l0_0.length ≤ c0_0) (hr0_1 : Kd.C (Kd.int .i8) w A0_1 l0_1.length l0_1) (hc0_1 : l0_1.length ≤ c0_1) (h : impl_ValidStream.f k l0_0 l0_1 = some r) :
    Calls Try.prog 52 #[.agg #[.slice A0_0 l0_0.length c0_0, .slice A0_1 l0_1.length c0_1]] w fun e w' => e = .returned (.bool r) ∧ Below w.heap.size w w' := by
  have hu34 := Try.underlying34
  have HR0_0 := Aside0.mk hr0_0
  have HC0_0 := Aside0.mk hc0_0
  clear hr0_0 hc0_0
  have HR0_1 := Aside0.mk hr0_1
  have HC0_1 := Aside0.mk hc0_1
  clear hr0_1 hc0_1
  have HB := Aside0.mk (Below.refl w.heap.size w)
  have H : (if (l0_0.length : Int) ≤ 16 then (if (l0_1.length : Int) ≥ 1 then (if (l0_1.length : Int) ≤ 14 then ((impl_digitsOk.f k l0_0).bind fun t155 => (if t155 = true then ((impl_digitsOk.f k l0_1).bind fun t156 => (some t156)) else (some false))) else (some false)) else (some false)) else (some false)) = some r := h
  clear h
  by_cases c2 : (l0_0.length : Int) ≤ 16
  · rw [if_pos c2] at H
    have c2b0 : decide ((l0_0.length : Int) ≤ 16) = true := decide_eq_true c2
    have c2b1 : decide (l0_0.length ≤ 16) = true := decide_eq_true (by omega)
    clear c2
    by_cases c3 : (l0_1.length : Int) ≥ 1
    · rw [if_pos c3] at H
      have c3b0 : decide (1 ≤ (l0_1.length : Int)) = true := decide_eq_true c3
      have c3b1 : decide (1 ≤ l0_1.length) = true := decide_eq_true (by omega)
      clear c3
      by_cases c4 : (l0_1.length : Int) ≤ 14
      · rw [if_pos c4] at H
        have c4b0 : decide ((l0_1.length : Int) ≤ 14) = true := decide_eq_true c4
        have c4b1 : decide (l0_1.length ≤ 14) = true := decide_eq_true (by omega)
        clear c4
        replace H := Option.bind_eq_some_iff.mp H
        obtain ⟨t155, A50, H⟩ := H
        replace H : (if t155 = true then ((impl_digitsOk.f k l0_1).bind fun t156 => (some t156)) else (some false)) = some r := H
        have A5 := Aside0.mk A50
        clear A50
        by_cases c6 : t155 = true
        · subst c6
          have H1 : ((impl_digitsOk.f k l0_1).bind fun t156 => (some t156)) = some r := by rw [if_pos rfl] at H; exact H
          clear H
          have H := H1
          clear H1
          replace H := Option.bind_eq_some_iff.mp H
          obtain ⟨t156, A70, H⟩ := H
          replace H : (some t156) = some r := H
          have A7 := Aside0.mk A70
          clear A70
          obtain rfl := Option.some.inj H
          go_enter Try.func52, Try.ntmps52
          go_wp2_with (first | ((with_reducible refine gate_dst (N := 1) rfl ?_); (try (refine gate_guard (by rfl) ?_; dsimp only)); refine box_event ?hg (N := 1) ?hd (cs := #[.slice A0_0 l0_0.length c0_0, .slice A0_1 l0_1.length c0_1]) (t := 34) ?hr ?_; (case hd => rfl); (case hg => rfl); (case hr => first | (go_simp; done) | (go_simp; rfl)); intro gb154 hg w8 hbox hb; have n0_ := Aside0.mk (below_step (by repeat (first | (with_reducible first | exact HB.out | apply below_alloc | apply pw_below_drewN | apply below_drew1) | exact HB.out)) hb); have n1_ := Aside0.mk (hbox); have n2_ := Aside0.mk ((by rw [hg]; exact (below_size (by repeat (first | (with_reducible first | exact HB.out | apply below_alloc | apply pw_below_drewN | apply below_drew1) | exact HB.out))) : w.heap.size ≤ gb154)); have n3_ := Aside0.mk ((by rw [hg]; exact (below_size (by repeat (first | (with_reducible first | exact HB.out | apply below_alloc | apply pw_below_drewN | apply below_drew1) | exact HB.out))) : w.heap.size ≤ gb154)); clear HB; have HB := n0_; have BK154 := n1_; have GW154 := n2_; have GE154 := n3_; clear n0_ n1_ n2_ n3_; clear hb hbox hg; have hcz9_0 : w8.cell? ⟨gb154, 0, none⟩ = some (.slice A0_0 l0_0.length c0_0) := (blk_cell BK154.out 0).trans rfl; have hcz9_1 : w8.cell? ⟨gb154, 1, none⟩ = some (.slice A0_1 l0_1.length c0_1) := (blk_cell BK154.out 1).trans rfl; have hfz9_0 := blk_frozen BK154.out 0; have hfz9_1 := blk_frozen BK154.out 1) | (go_at_call 46; (with_reducible refine (impl_digitsOk.calls k _ _ l0_0 true _ ?side1 ?side2 A5.out).mono ?_); (case side1 => repeat (first | exact (Kd.C_below HR0_0.out HB.out) | (with_reducible refine Kd.C_alloc ?_ _) | (with_reducible refine Kd.C_drewN ?_ _) | (with_reducible refine Kd.C_drew ?_))); (case side2 => exact HC0_0.out); rintro e w' ⟨rfl, ⟨nd, rfl⟩⟩) | (go_at_call 46; (with_reducible refine (impl_digitsOk.calls k _ _ l0_1 t156 _ ?side1 ?side2 A7.out).mono ?_); (case side1 => repeat (first | exact (Kd.C_below HR0_1.out (by repeat (first | (with_reducible first | exact HB.out | apply below_alloc | apply pw_below_drewN | apply below_drew1 | refine below_set ?_ GE154.out) | exact HB.out))) | (with_reducible refine Kd.C_alloc ?_ _) | (with_reducible refine Kd.C_drewN ?_ _) | (with_reducible refine Kd.C_drew ?_))); (case side2 => exact HC0_1.out); rintro e w' ⟨rfl, ⟨nd, rfl⟩⟩))
          go_ret
          exact ⟨by first | rfl | (simp [errW_none, errW_some] <;> rfl) | (simp [*, errW_none, errW_some] <;> rfl), by repeat (first | (with_reducible first | exact HB.out | apply below_alloc | apply pw_below_drewN | apply below_drew1 | refine below_set ?_ GE154.out) | exact HB.out)⟩
        · replace c6 := Bool.eq_false_iff.mpr c6
          subst c6
          have H1 : (some false) = some r := by rw [if_neg (show ¬ (false = true) by decide)] at H; exact H
          clear H
          have H := H1
          clear H1
          obtain rfl := Option.some.inj H
          go_enter Try.func52, Try.ntmps52
          go_wp2_with (first | ((with_reducible refine gate_dst (N := 1) rfl ?_); (try (refine gate_guard (by rfl) ?_; dsimp only)); refine box_event ?hg (N := 1) ?hd (cs := #[.slice A0_0 l0_0.length c0_0, .slice A0_1 l0_1.length c0_1]) (t := 34) ?hr ?_; (case hd => rfl); (case hg => rfl); (case hr => first | (go_simp; done) | (go_simp; rfl)); intro gb154 hg w10 hbox hb; have n0_ := Aside0.mk (below_step (by repeat (first | (with_reducible first | exact HB.out | apply below_alloc | apply pw_below_drewN | apply below_drew1) | exact HB.out)) hb); have n1_ := Aside0.mk (hbox); have n2_ := Aside0.mk ((by rw [hg]; exact (below_size (by repeat (first | (with_reducible first | exact HB.out | apply below_alloc | apply pw_below_drewN | apply below_drew1) | exact HB.out))) : w.heap.size ≤ gb154)); have n3_ := Aside0.mk ((by rw [hg]; exact (below_size (by repeat (first | (with_reducible first | exact HB.out | apply below_alloc | apply pw_below_drewN | apply below_drew1) | exact HB.out))) : w.heap.size ≤ gb154)); clear HB; have HB := n0_; have BK154 := n1_; have GW154 := n2_; have GE154 := n3_; clear n0_ n1_ n2_ n3_; clear hb hbox hg; have hcz11_0 : w10.cell? ⟨gb154, 0, none⟩ = some (.slice A0_0 l0_0.length c0_0) := (blk_cell BK154.out 0).trans rfl; have hcz11_1 : w10.cell? ⟨gb154, 1, none⟩ = some (.slice A0_1 l0_1.length c0_1) := (blk_cell BK154.out 1).trans rfl; have hfz11_0 := blk_frozen BK154.out 0; have hfz11_1 := blk_frozen BK154.out 1) | (go_at_call 46; (with_reducible refine (impl_digitsOk.calls k _ _ l0_0 false _ ?side1 ?side2 A5.out).mono ?_); (case side1 => repeat (first | exact (Kd.C_below HR0_0.out HB.out) | (with_reducible refine Kd.C_alloc ?_ _) | (with_reducible refine Kd.C_drewN ?_ _) | (with_reducible refine Kd.C_drew ?_))); (case side2 => exact HC0_0.out); rintro e w' ⟨rfl, ⟨nd, rfl⟩⟩))
          go_ret
          exact ⟨by first | rfl | (simp [errW_none, errW_some] <;> rfl) | (simp [*, errW_none, errW_some] <;> rfl), by repeat (first | (with_reducible first | exact HB.out | apply below_alloc | apply pw_below_drewN | apply below_drew1 | refine below_set ?_ GE154.out) | exact HB.out)⟩
      · rw [if_neg c4] at H
        have c4b0 : decide ((l0_1.length : Int) ≤ 14) = false := decide_eq_false c4
        have c4b1 : decide (l0_1.length ≤ 14) = false := decide_eq_false (by omega)
        clear c4
        obtain rfl := Option.some.inj H
        go_enter Try.func52, Try.ntmps52
        go_wp2_with (first | ((with_reducible refine gate_dst (N := 1) rfl ?_); (try (refine gate_guard (by rfl) ?_; dsimp only)); refine box_event ?hg (N := 1) ?hd (cs := #[.slice A0_0 l0_0.length c0_0, .slice A0_1 l0_1.length c0_1]) (t := 34) ?hr ?_; (case hd => rfl); (case hg => rfl); (case hr => first | (go_simp; done) | (go_simp; rfl)); intro gb154 hg w12 hbox hb; have n0_ := Aside0.mk (below_step (by repeat (first | (with_reducible first | exact HB.out | apply below_alloc | apply pw_below_drewN | apply below_drew1) | exact HB.out)) hb); have n1_ := Aside0.mk (hbox); have n2_ := Aside0.mk ((by rw [hg]; exact (below_size (by repeat (first | (with_reducible first | exact HB.out | apply below_alloc | apply pw_below_drewN | apply below_drew1) | exact HB.out))) : w.heap.size ≤ gb154)); have n3_ := Aside0.mk ((by rw [hg]; exact (below_size (by repeat (first | (with_reducible first | exact HB.out | apply below_alloc | apply pw_below_drewN | apply below_drew1) | exact HB.out))) : w.heap.size ≤ gb154)); clear HB; have HB := n0_; have BK154 := n1_; have GW154 := n2_; have GE154 := n3_; clear n0_ n1_ n2_ n3_; clear hb hbox hg; have hcz13_0 : w12.cell? ⟨gb154, 0, none⟩ = some (.slice A0_0 l0_0.length c0_0) := (blk_cell BK154.out 0).trans rfl; have hcz13_1 : w12.cell? ⟨gb154, 1, none⟩ = some (.slice A0_1 l0_1.length c0_1) := (blk_cell BK154.out 1).trans rfl; have hfz13_0 := blk_frozen BK154.out 0; have hfz13_1 := blk_frozen BK154.out 1))
        go_ret
        exact ⟨by first | rfl | (simp [errW_none, errW_some] <;> rfl) | (simp [*, errW_none, errW_some] <;> rfl), by repeat (first | (with_reducible first | exact HB.out | apply below_alloc | apply pw_below_drewN | apply below_drew1 | refine below_set ?_ GE154.out) | exact HB.out)⟩
    · rw [if_neg c3] at H
      have c3b0 : decide (1 ≤ (l0_1.length : Int)) = false := decide_eq_false c3
      have c3b1 : decide (1 ≤ l0_1.length) = false := decide_eq_false (by omega)
      clear c3
      obtain rfl := Option.some.inj H
      go_enter Try.func52, Try.ntmps52
      go_wp2_with (first | ((with_reducible refine gate_dst (N := 1) rfl ?_); (try (refine gate_guard (by rfl) ?_; dsimp only)); refine box_event ?hg (N := 1) ?hd (cs := #[.slice A0_0 l0_0.length c0_0, .slice A0_1 l0_1.length c0_1]) (t := 34) ?hr ?_; (case hd => rfl); (case hg => rfl); (case hr => first | (go_simp; done) | (go_simp; rfl)); intro gb154 hg w14 hbox hb; have n0_ := Aside0.mk (below_step (by repeat (first | (with_reducible first | exact HB.out | apply below_alloc | apply pw_below_drewN | apply below_drew1) | exact HB.out)) hb); have n1_ := Aside0.mk (hbox); have n2_ := Aside0.mk ((by rw [hg]; exact (below_size (by repeat (first | (with_reducible first | exact HB.out | apply below_alloc | apply pw_below_drewN | apply below_drew1) | exact HB.out))) : w.heap.size ≤ gb154)); have n3_ := Aside0.mk ((by rw [hg]; exact (below_size (by repeat (first | (with_reducible first | exact HB.out | apply below_alloc | apply pw_below_drewN | apply below_drew1) | exact HB.out))) : w.heap.size ≤ gb154)); clear HB; have HB := n0_; have BK154 := n1_; have GW154 := n2_; have GE154 := n3_; clear n0_ n1_ n2_ n3_; clear hb hbox hg; have hcz15_0 : w14.cell? ⟨gb154, 0, none⟩ = some (.slice A0_0 l0_0.length c0_0) := (blk_cell BK154.out 0).trans rfl; have hcz15_1 : w14.cell? ⟨gb154, 1, none⟩ = some (.slice A0_1 l0_1.length c0_1) := (blk_cell BK154.out 1).trans rfl; have hfz15_0 := blk_frozen BK154.out 0; have hfz15_1 := blk_frozen BK154.out 1))
      go_ret
      exact ⟨by first | rfl | (simp [errW_none, errW_some] <;> rfl) | (simp [*, errW_none, errW_some] <;> rfl), by repeat (first | (with_reducible first | exact HB.out | apply below_alloc | apply pw_below_drewN | apply below_drew1 | refine below_set ?_ GE154.out) | exact HB.out)⟩
  · rw [if_neg c2] at H
    have c2b0 : decide ((l0_0.length : Int) ≤ 16) = false := decide_eq_false c2
    have c2b1 : decide (l0_0.length ≤ 16) = false := decide_eq_false (by omega)
    clear c2
    obtain rfl := Option.some.inj H
    go_enter Try.func52, Try.ntmps52
    go_wp2_with (first | ((with_reducible refine gate_dst (N := 1) rfl ?_); (try (refine gate_guard (by rfl) ?_; dsimp only)); refine box_event ?hg (N := 1) ?hd (cs := #[.slice A0_0 l0_0.length c0_0, .slice A0_1 l0_1.length c0_1]) (t := 34) ?hr ?_; (case hd => rfl); (case hg => rfl); (case hr => first | (go_simp; done) | (go_simp; rfl)); intro gb154 hg w16 hbox hb; have n0_ := Aside0.mk (below_step (by repeat (first | (with_reducible first | exact HB.out | apply below_alloc | apply pw_below_drewN | apply below_drew1) | exact HB.out)) hb); have n1_ := Aside0.mk (hbox); have n2_ := Aside0.mk ((by rw [hg]; exact (below_size (by repeat (first | (with_reducible first | exact HB.out | apply below_alloc | apply pw_below_drewN | apply below_drew1) | exact HB.out))) : w.heap.size ≤ gb154)); have n3_ := Aside0.mk ((by rw [hg]; exact (below_size (by repeat (first | (with_reducible first | exact HB.out | apply below_alloc | apply pw_below_drewN | apply below_drew1) | exact HB.out))) : w.heap.size ≤ gb154)); clear HB; have HB := n0_; have BK154 := n1_; have GW154 := n2_; have GE154 := n3_; clear n0_ n1_ n2_ n3_; clear hb hbox hg; have hcz17_0 : w16.cell? ⟨gb154, 0, none⟩ = some (.slice A0_0 l0_0.length c0_0) := (blk_cell BK154.out 0).trans rfl; have hcz17_1 : w16.cell? ⟨gb154, 1, none⟩ = some (.slice A0_1 l0_1.length c0_1) := (blk_cell BK154.out 1).trans rfl; have hfz17_0 := blk_frozen BK154.out 0; have hfz17_1 := blk_frozen BK154.out 1))
    go_ret
    exact ⟨by first | rfl | (simp [errW_none, errW_some] <;> rfl) | (simp [*, errW_none, errW_some] <;> rfl), by repeat (first | (with_reducible first | exact HB.out | apply below_alloc | apply pw_below_drewN | apply below_drew1 | refine below_set ?_ GE154.out) | exact HB.out)⟩

/-! ### slices_Grow_int8_int8_nil: function 94 -/
def slices_Grow_int8_int8_nil.f  (a1 : Int) : Option (List Int) := if a1 < 0 then (none) else (if (wrap64 (a1)) > 0 then (if 0 ≤ (wrap64 (a1)) then (if ([] : List Int).length + (wrap64 (a1) : Int).toNat < 140737488355328 then ((some (([] : List Int) ++ List.replicate (wrap64 (a1) : Int).toNat 0 : List Int)).bind fun y157 => (if 0 ≤ (y157.length : Int) then (some (y157.take (0 : Int).toNat)) else (none))) else (none)) else (none)) else (some ([] : List Int)))
set_option maxHeartbeats 8000000 in
set_option maxRecDepth 100000 in
theorem slices_Grow_int8_int8_nil.calls  (a1 : Int) (r : List Int) (w : World) (h : slices_Grow_int8_int8_nil.f a1 = some r) :
    Calls Try.prog 94 #[.slice none 0 0, .int .i64 a1] w fun e w' => ∃ v0_ : Value, e = .returned (v0_) ∧ Kd.R (Kd.int .i8) 69 w' w.heap.size (fun _ => True) v0_ r ∧ Below w.heap.size w w' := by
  have HB := Aside0.mk (Below.refl w.heap.size w)
  have H : (if a1 < 0 then (none) else (if (wrap64 (a1)) > 0 then (if 0 ≤ (wrap64 (a1)) then (if ([] : List Int).length + (wrap64 (a1) : Int).toNat < 140737488355328 then ((some (([] : List Int) ++ List.replicate (wrap64 (a1) : Int).toNat 0 : List Int)).bind fun y157 => (if 0 ≤ (y157.length : Int) then (some (y157.take (0 : Int).toNat)) else (none))) else (none)) else (none)) else (some ([] : List Int)))) = some r := h
  clear h
  by_cases c3 : a1 < 0
  · rw [if_pos c3] at H
    exact absurd H (by simp)
  · rw [if_neg c3] at H
    have c3b0 : decide (a1 < 0) = false := decide_eq_false c3
    clear c3
    by_cases c4 : (wrap64 (a1)) > 0
    · rw [if_pos c4] at H
      have c4b0 : decide (0 < (wrap64 (a1))) = true := decide_eq_true c4
      clear c4
      obtain ⟨ji5, hji5⟩ : ∃ j_ : Int, (wrap64 (a1)) = j_ := ⟨_, rfl⟩
      replace H : (if 0 ≤ (ji5) then (if ([] : List Int).length + (ji5 : Int).toNat < 140737488355328 then ((some (([] : List Int) ++ List.replicate (ji5 : Int).toNat 0 : List Int)).bind fun y157 => (if 0 ≤ (y157.length : Int) then (some (y157.take (0 : Int).toNat)) else (none))) else (none)) else (none)) = some r := by first | (rw [hji5] at H; exact H) | (simp only [hji5] at H ⊢; exact H)
      (try rw [hji5] at c4b0)
      have hji5w : (IntKind.i64.wrap (a1)) = ji5 := (i64_w _).trans hji5
      by_cases c6 : 0 ≤ (ji5)
      · rw [if_pos c6] at H
        have c6b0 := eq_true c6
        have c6b1 : decide (0 ≤ (ji5)) = true := decide_eq_true c6
        clear c6
        by_cases c7 : ([] : List Int).length + (ji5 : Int).toNat < 140737488355328
        · rw [if_pos c7] at H
          have LMc7 := Aside0.mk c7
          clear c7
          obtain ⟨y157, hy157⟩ : ∃ y_ : List Int, y_ = (([] : List Int) ++ List.replicate (ji5 : Int).toNat 0) := ⟨_, rfl⟩
          replace H : (if 0 ≤ (y157.length : Int) then (some (y157.take (0 : Int).toNat)) else (none)) = some r := by first | (rw [hy157]; with_reducible exact H) | (have H2_ := (Option.bind_some _ _).symm.trans H; rw [hy157]; with_reducible exact H2_) | (have H2_ := (Option.bind_some _ _).symm.trans H; with_reducible exact H2_) | with_reducible exact H | (rw [hy157]; exact H) | exact H
          have Ny157 := Aside0.mk hy157
          clear hy157
          by_cases c8 : 0 ≤ (y157.length : Int)
          · rw [if_pos c8] at H
            have c8b0 := eq_true c8
            have c8b1 : decide (0 ≤ (y157.length : Int)) = true := decide_eq_true c8
            clear c8
            obtain ⟨y160, hy160⟩ : ∃ y_ : List Int, y_ = (y157.take (0 : Int).toNat) := ⟨_, rfl⟩
            replace H : (some y160) = some r := by first | (rw [hy160]; with_reducible exact H) | (have H2_ := (Option.bind_some _ _).symm.trans H; rw [hy160]; with_reducible exact H2_) | (have H2_ := (Option.bind_some _ _).symm.trans H; with_reducible exact H2_) | with_reducible exact H | (rw [hy160]; exact H) | exact H
            have Ny160 := Aside0.mk hy160
            clear hy160
            obtain rfl := Option.some.inj H
            go_enter Try.func94, Try.ntmps94
            go_wp2_with (first | (at_builtin; refine Kd.R_append_zeros (Kd.int .i8) (w0 := w) w.heap.size rfl (.tmp 20) (.tmp 21) 22 3 69 (.int .i8 0) 1 rfl Try.underlying22 Try.underlying3 info69 rfl (by decide) (by omega) (.slice none 0 0) ([] : List Int) 0 (ji5 : Int) (fun _ => True) rfl rfl rfl ?aF ?aO (of_decide_eq_true (by first | (with_reducible assumption) | assumption)) ?aB ?aS ?aL ?_; (case aB => exact (by repeat (first | (with_reducible first | exact HB.out | apply below_alloc | apply pw_below_drewN | apply below_drew1) | exact HB.out))); (case aF => exact (fun _ _ => trivial)); (case aO => exact ((Kd.R_nil _ _ _ _ (fun _ => True)))); (case aS => exact (below_size (by repeat (first | (with_reducible first | exact HB.out | apply below_alloc | apply pw_below_drewN | apply below_drew1) | exact HB.out)))); (case aL => have := LMc7.out; omega); intro v158 w9 ho hb hg hat; rw [← Ny157.out] at ho; have n0_ := Aside0.mk (hb); have n1_ := Aside0.mk (ho); clear HB; have HB := n0_; have HO159 := n1_; clear n0_ n1_; clear ho hb hg hat; obtain ⟨Ao10, co10, eo10⟩ := Kd.R_slice HO159.out; subst eo10; have q11 : (0 : Int) ≤ ((y157.length : Int) : Int) := of_decide_eq_true (by first | (with_reducible assumption) | assumption); obtain ⟨i011, hi011, _, hsz11, _⟩ := info_parts info69; have hcut11 := cut_to (P := Try.prog) 22 69 .i64 Try.underlying22 hi011 Ao10 y157.length co10 0 (by omega) q11 (Kd.R_reads' HO159.out).2.1; have hr11 := Kd.R_take (m := (0 : Int).toNat) HO159.out (by omega); have hy11 : y160.length = (0 : Int).toNat := (by rw [Ny160.out, List.length_take]; omega); rw [← Ny160.out] at hr11; rw [← hy11] at hr11 hcut11; clear hy11 hi011 hsz11 HO159; have HO162 := Aside0.mk hr11; clear hr11; replace q11 := eq_true q11))
            go_ret
            exact ⟨_, by first | rfl | (simp [errW_none, errW_some] <;> rfl) | (simp only [← hji5]; first | rfl | (simp [errW_none, errW_some] <;> rfl)) | (simp [*, errW_none, errW_some] <;> rfl), by (with_reducible repeat (first | apply Kd.R_alloc | apply Kd.R_drewN | apply Kd.R_drew)); exact HO162.out, by repeat (first | (with_reducible first | exact HB.out | apply below_alloc | apply pw_below_drewN | apply below_drew1) | exact HB.out)⟩
          · rw [if_neg c8] at H
            exact absurd H (by simp)
        · rw [if_neg c7] at H
          exact absurd H (by simp)
      · rw [if_neg c6] at H
        exact absurd H (by simp)
    · rw [if_neg c4] at H
      have c4b0 : decide (0 < (wrap64 (a1))) = false := decide_eq_false c4
      clear c4
      obtain rfl := Option.some.inj H
      go_enter Try.func94, Try.ntmps94
      go_wp2
      go_ret
      exact ⟨_, by first | rfl | (simp [errW_none, errW_some] <;> rfl) | (simp [*, errW_none, errW_some] <;> rfl), by first | exact Kd.R_nil _ _ _ _ _ | exact Kd.N_nil _ _ _ _ _ | exact Kd.V_nil _ _ _ _ _ | exact Kd.Q_nil _ _ _ _ _ | exact Kd.S_nil _ _ _ _ _, by repeat (first | (with_reducible first | exact HB.out | apply below_alloc | apply pw_below_drewN | apply below_drew1) | exact HB.out)⟩

/-! ### slices_Concat_int8_int8: function 72 -/
mutual
def slices_Concat_int8_int8.l0 : Nat → List (List Int) → Int → List (List Int) → Int → Int → Option (List Int)
  | 0, _, _, _, _, _ => none
  | k + 1, x0, x3, x9, x10, x11 => if x11 < x10 then (if 0 ≤ x11 then (if x11 < (x9.length : Int) then (if (wrap64 (x3 + ((rd_L4 x9 x11).length : Int))) < 0 then (none) else (slices_Concat_int8_int8.l0 k x0 (wrap64 (x3 + ((rd_L4 x9 x11).length : Int))) x9 x10 (wrap64 (x11 + 1)))) else (none)) else (none)) else ((slices_Grow_int8_int8_nil.f x3).bind fun t164 => (slices_Concat_int8_int8.l1 k t164 x0 (x0.length : Int) 0))
def slices_Concat_int8_int8.l1 : Nat → List Int → List (List Int) → Int → Int → Option (List Int)
  | 0, _, _, _, _ => none
  | k + 1, x6, x25, x26, x27 => if x27 < x26 then (if 0 ≤ x27 then (if x27 < (x25.length : Int) then (if x6.length + (rd_L4 x25 x27).length < 140737488355328 then (slices_Concat_int8_int8.l1 k (x6 ++ (rd_L4 x25 x27)) x25 x26 (wrap64 (x27 + 1))) else (none)) else (none)) else (none)) else (some x6)
end
def slices_Concat_int8_int8.f (k : Nat) (l0 : List (List Int)) : Option (List Int) := slices_Concat_int8_int8.l0 k l0 0 l0 (l0.length : Int) 0
theorem slices_Concat_int8_int8.mono_l : ∀ k, (∀ y0 y1 y2 y3 y4, LeO (slices_Concat_int8_int8.l0 k y0 y1 y2 y3 y4) (slices_Concat_int8_int8.l0 (k + 1) y0 y1 y2 y3 y4)) ∧ (∀ y0 y1 y2 y3, LeO (slices_Concat_int8_int8.l1 k y0 y1 y2 y3) (slices_Concat_int8_int8.l1 (k + 1) y0 y1 y2 y3))
  | 0 => ⟨fun _ _ _ _ _ r h => by simp [slices_Concat_int8_int8.l0] at h, fun _ _ _ _ r h => by simp [slices_Concat_int8_int8.l1] at h⟩
  | k + 1 => by
    obtain ⟨ih0, ih1⟩ := slices_Concat_int8_int8.mono_l k
    refine ⟨?_, ?_⟩
    · intro y0 y1 y2 y3 y4
      unfold slices_Concat_int8_int8.l0
      repeat' first
      | (with_reducible exact ih0 _ _ _ _ _)
      | (with_reducible exact ih1 _ _ _ _)
      | (with_reducible exact LeO.refl _)
      | (with_reducible exact LeO.none _)
      | (with_reducible refine LeO.ite ?_ ?_)
      | (with_reducible refine LeO.bind ?_ (fun _ => ?_))
      | exact ih0 _ _ _ _ _
      | exact ih1 _ _ _ _
      | exact LeO.none _
      | refine LeO.ite ?_ ?_
      | refine LeO.bind ?_ (fun _ => ?_)
    · intro y0 y1 y2 y3
      unfold slices_Concat_int8_int8.l1
      repeat' first
      | (with_reducible exact ih0 _ _ _ _ _)
      | (with_reducible exact ih1 _ _ _ _)
      | (with_reducible exact LeO.refl _)
      | (with_reducible exact LeO.none _)
      | (with_reducible refine LeO.ite ?_ ?_)
      | (with_reducible refine LeO.bind ?_ (fun _ => ?_))
      | exact ih0 _ _ _ _ _
      | exact ih1 _ _ _ _
      | exact LeO.none _
      | refine LeO.ite ?_ ?_
      | refine LeO.bind ?_ (fun _ => ?_)
theorem slices_Concat_int8_int8.mono : ∀ a0 k, LeO (slices_Concat_int8_int8.f k a0) (slices_Concat_int8_int8.f (k + 1) a0) := by
  intro a0 k
  obtain ⟨ih0, ih1⟩ := slices_Concat_int8_int8.mono_l k
  unfold slices_Concat_int8_int8.f
  repeat' first
      | (with_reducible exact ih0 _ _ _ _ _)
      | (with_reducible exact ih1 _ _ _ _)
      | (with_reducible exact LeO.refl _)
      | (with_reducible exact LeO.none _)
      | (with_reducible refine LeO.ite ?_ ?_)
      | (with_reducible refine LeO.bind ?_ (fun _ => ?_))
      | exact ih0 _ _ _ _ _
      | exact ih1 _ _ _ _
      | exact LeO.none _
      | refine LeO.ite ?_ ?_
      | refine LeO.bind ?_ (fun _ => ?_)
set_option maxHeartbeats 8000000 in
set_option maxRecDepth 100000 in
theorem slices_Concat_int8_int8.calls (k : Nat) (A0 : Option Addr) (c0 : Nat) (l0 : List (List Int)) (r : List Int) (w : World) (hr0 : Kd.C (Kd.slice 69 (Kd.int .i8)) w A0 l0.length l0) (hc0 : l0.length ≤ c0) (h : slices_Concat_int8_int8.f k l0 = some r) :
    Calls Try.prog 72 #[.slice A0 l0.length c0] w fun e w' => ∃ v0_ : Value, e = .returned (v0_) ∧ Kd.R (Kd.int .i8) 69 w' w.heap.size (fun _ => True) v0_ r ∧ Below w.heap.size w w' := by
  have HR0 := Aside0.mk hr0
  have HC0 := Aside0.mk hc0
  clear hr0 hc0
  have HB := Aside0.mk (Below.refl w.heap.size w)
  have H : (slices_Concat_int8_int8.l0 k l0 0 l0 (l0.length : Int) 0) = some r := h
  clear h
  have H' := Aside0.mk H
  clear H
  go_enter Try.func72, Try.ntmps72
  go_wp2
  go_loopg [3, 11] k (fun kq v3 v11 w' => ∃ (x3_1 : Int) (x11_1 : Int), v3 = .int .i64 x3_1 ∧ v11 = .int .i64 x11_1 ∧ Aside0 (slices_Concat_int8_int8.l0 kq l0 x3_1 l0 (l0.length : Int) x11_1 = some r) ∧ Aside0 (kq ≤ k) ∧ Aside0 (Below w.heap.size w w'))
  case atStart => exact ⟨(0), (0), (by first | rfl | (simp; done) | (simp [*]; done)), (by first | rfl | (simp; done) | (simp [*]; done)), H', ⟨Nat.le_refl _⟩, ⟨by repeat (first | (with_reducible first | exact HB.out | apply below_alloc | apply pw_below_drewN | apply below_drew1) | exact HB.out)⟩⟩
  case round =>
    clear H'
    obtain ⟨x3_1, x11_1, rfl, rfl, HA, HK1, HB⟩ := hrel
    cases gk with
    | zero => exact absurd HA.out (by simp [slices_Concat_int8_int8.l0])
    | succ k1 =>
      have H := HA.out
      clear HA
      simp only [slices_Concat_int8_int8.l0] at H
      by_cases c2 : x11_1 < (l0.length : Int)
      · rw [if_pos c2] at H
        have c2b0 : decide (x11_1 < (l0.length : Int)) = true := decide_eq_true c2
        clear c2
        by_cases c3 : 0 ≤ x11_1
        · rw [if_pos c3] at H
          have c3b0 : decide (0 ≤ x11_1) = true := decide_eq_true c3
          clear c3
          have c4 : x11_1 < (l0.length : Int) := of_decide_eq_true c2b0
          rw [if_pos c4] at H
          clear c4
          by_cases c5 : (wrap64 (x3_1 + ((rd_L4 l0 x11_1).length : Int))) < 0
          · rw [if_pos c5] at H
            exact absurd H (by simp)
          · rw [if_neg c5] at H
            have c5b0 : decide ((wrap64 (x3_1 + ((rd_L4 l0 x11_1).length : Int))) < 0) = false := decide_eq_false c5
            clear c5
            have H' := Aside0.mk H
            clear H
            have p163 : 0 ≤ (x11_1 : Int) := of_decide_eq_true (by first | (with_reducible assumption) | assumption)
            have q163 : x11_1 < (l0.length : Int) := of_decide_eq_true (by first | (with_reducible assumption) | assumption)
            obtain ⟨ad163, A163_0, c163_0, e163, hx163_0, hl163_0, hi163_0⟩ := at_L4 HR0.out x11_1 p163 q163
            cases e163
            replace hx163_0 := (HB.out.cell (World.block_lt_of_cell? w _ hx163_0)).trans hx163_0
            have HR163_0 := Aside0.mk hi163_0
            have HC163_0 := Aside0.mk hl163_0
            clear hi163_0 hl163_0
            replace p163 := eq_true p163
            replace q163 := eq_true q163
            go_wp2
            go_roundg k1
            case measure => have := HK1.out; omega
            case rel => exact ⟨(wrap64 (x3_1 + ((rd_L4 l0 x11_1).length : Int))), (wrap64 (x11_1 + 1)), (by first | rfl | (simp; done) | (simp [*]; done)), (by first | rfl | (simp; done) | (simp [*]; done)), H', ⟨by have := HK1.out; omega⟩, ⟨by repeat (first | (with_reducible first | exact HB.out | apply below_alloc | apply pw_below_drewN | apply below_drew1) | exact HB.out)⟩⟩
        · rw [if_neg c3] at H
          exact absurd H (by simp)
      · rw [if_neg c2] at H
        have c2b0 : decide (x11_1 < (l0.length : Int)) = false := decide_eq_false c2
        clear c2
        replace H := Option.bind_eq_some_iff.mp H
        obtain ⟨t164, A60, H⟩ := H
        replace H : (slices_Concat_int8_int8.l1 k1 t164 l0 (l0.length : Int) 0) = some r := H
        have A6 := Aside0.mk A60
        clear A60
        have H' := Aside0.mk H
        clear H
        go_wp2_with (first | ((with_reducible refine gate_callee (f := 94) rfl ?_); refine goesL_ (some 24) rfl rfl Try.func94 (by kernel_rfl) rfl #[.slice none 0 0, .int .i64 x3_1] rfl (by (try simp only [List.map_toArray, List.map_cons, List.map_nil]); first | done | rfl | (simp only [List.length_drop, List.length_take]; rfl)) ?_; (with_reducible refine (slices_Grow_int8_int8_nil.calls  x3_1 t164 _ A6.out).mono ?_); rintro e w7 ⟨v165, rfl, ho0, hb⟩; refine ⟨_, rfl, ?_⟩; have n0_ := Aside0.mk (Kd.R_lower ho0 (below_size (by repeat (first | (with_reducible first | exact HB.out | apply below_alloc | apply pw_below_drewN | apply below_drew1) | exact HB.out)))); have n1_ := Aside0.mk (below_step (by repeat (first | (with_reducible first | exact HB.out | apply below_alloc | apply pw_below_drewN | apply below_drew1) | exact HB.out)) hb); clear HB; have HO166 := n0_; have HB := n1_; clear n0_ n1_; (try clear hb); (try clear hb2); (try clear hk); (try clear hi); (try clear ho0)))
        go_loopg [6, 27] k1 (fun kq v6 v27 w' => ∃ (x6_2 : List Int) (x27_2 : Int), v27 = .int .i64 x27_2 ∧ Aside0 (slices_Concat_int8_int8.l1 kq x6_2 l0 (l0.length : Int) x27_2 = some r) ∧ Aside0 (kq ≤ k1) ∧ Aside0 (Kd.R (Kd.int .i8) 69 w' w.heap.size (fun _ => True) v6 x6_2) ∧ Aside0 (Below w.heap.size w w'))
        case atStart => exact ⟨(t164), (0), (by first | rfl | (simp; done) | (simp [*]; done)), H', ⟨Nat.le_refl _⟩, ⟨by (with_reducible repeat (first | apply Kd.R_alloc | apply Kd.R_drewN | apply Kd.R_drew)); exact HO166.out⟩, ⟨by repeat (first | (with_reducible first | exact HB.out | apply below_alloc | apply pw_below_drewN | apply below_drew1) | exact HB.out)⟩⟩
        case round =>
          clear H'
          try clear c1
          try clear p1
          try clear q1
          try clear hx1
          try clear c2
          try clear c2b0
          try clear p2
          try clear c3
          try clear c3b0
          try clear c4
          try clear c5
          try clear c5b0
          try clear p6
          try clear c7
          try clear hx163_0
          try clear p163
          try clear q163
          obtain ⟨x6_2, x27_2, rfl, HA, HK2, HO_6, HB⟩ := hrel
          cases gk with
          | zero => exact absurd HA.out (by simp [slices_Concat_int8_int8.l1])
          | succ k2 =>
            have H := HA.out
            clear HA
            simp only [slices_Concat_int8_int8.l1] at H
            by_cases c8 : x27_2 < (l0.length : Int)
            · rw [if_pos c8] at H
              have c8b0 : decide (x27_2 < (l0.length : Int)) = true := decide_eq_true c8
              clear c8
              by_cases c9 : 0 ≤ x27_2
              · rw [if_pos c9] at H
                have c9b0 : decide (0 ≤ x27_2) = true := decide_eq_true c9
                clear c9
                have c10 : x27_2 < (l0.length : Int) := of_decide_eq_true c8b0
                rw [if_pos c10] at H
                clear c10
                by_cases c11 : x6_2.length + (rd_L4 l0 x27_2).length < 140737488355328
                · rw [if_pos c11] at H
                  have LMc11 := Aside0.mk c11
                  clear c11
                  obtain ⟨y168, hy168⟩ : ∃ y_ : List Int, y_ = (x6_2 ++ (rd_L4 l0 x27_2)) := ⟨_, rfl⟩
                  replace H : (slices_Concat_int8_int8.l1 k2 y168 l0 (l0.length : Int) (wrap64 (x27_2 + 1))) = some r := by first | (rw [hy168]; with_reducible exact H) | (have H2_ := (Option.bind_some _ _).symm.trans H; rw [hy168]; with_reducible exact H2_) | (have H2_ := (Option.bind_some _ _).symm.trans H; with_reducible exact H2_) | with_reducible exact H | (rw [hy168]; exact H) | exact H
                  have Ny168 := Aside0.mk hy168
                  clear hy168
                  have H' := Aside0.mk H
                  clear H
                  have p167 : 0 ≤ (x27_2 : Int) := of_decide_eq_true (by first | (with_reducible assumption) | assumption)
                  have q167 : x27_2 < (l0.length : Int) := of_decide_eq_true (by first | (with_reducible assumption) | assumption)
                  obtain ⟨ad167, A167_0, c167_0, e167, hx167_0, hl167_0, hi167_0⟩ := at_L4 HR0.out x27_2 p167 q167
                  cases e167
                  replace hx167_0 := (HB.out.cell (World.block_lt_of_cell? w _ hx167_0)).trans hx167_0
                  have HR167_0 := Aside0.mk hi167_0
                  have HC167_0 := Aside0.mk hl167_0
                  clear hi167_0 hl167_0
                  replace p167 := eq_true p167
                  replace q167 := eq_true q167
                  go_wp2_with (first | ((with_reducible refine gate_builtin (b := .append) (xs := #[.tmp 31, .tmp 32]) rfl ?_); at_builtin; refine Kd.R_append_rows (Kd.int .i8) (w0 := w) w.heap.size rfl (.tmp 31) (.tmp 32) 22 69 (.int .i8 0) 1 rfl Try.underlying22 info69 rfl (by decide) (by omega) u6 x6_2 (rd_L4 l0 x27_2) _ _ _ (fun _ => True) (fun _ => False) rfl rfl ?aO ?aR (fun _ _ h => h) (fun _ h => h.elim) ?aF ?aB ?aS ?aL ?_; (case aR => repeat (first | exact (Kd.C_below HR167_0.out HB.out) | (with_reducible refine Kd.C_alloc ?_ _) | (with_reducible refine Kd.C_drewN ?_ _) | (with_reducible refine Kd.C_drew ?_))); (case aB => exact (by repeat (first | (with_reducible first | exact HB.out | apply below_alloc | apply pw_below_drewN | apply below_drew1) | exact HB.out))); (case aF => exact (fun _ _ => trivial)); (case aO => exact (by (with_reducible repeat (first | apply Kd.R_alloc | apply Kd.R_drewN | apply Kd.R_drew)); exact HO_6.out)); (case aS => exact (below_size (by repeat (first | (with_reducible first | exact HB.out | apply below_alloc | apply pw_below_drewN | apply below_drew1) | exact HB.out)))); (case aL => have := LMc11.out; omega); intro v169 w12 ho hb hg hat; rw [← Ny168.out] at ho; have n0_ := Aside0.mk (hb); have n1_ := Aside0.mk (ho); clear HB; clear HO_6; have HB := n0_; have HO170 := n1_; clear n0_ n1_; clear ho hb hg hat))
                  go_roundg k2
                  case measure => have := HK1.out; have := HK2.out; omega
                  case rel => exact ⟨(y168), (wrap64 (x27_2 + 1)), (by first | rfl | (simp; done) | (simp [*]; done)), H', ⟨by have := HK1.out; have := HK2.out; omega⟩, ⟨by (with_reducible repeat (first | apply Kd.R_alloc | apply Kd.R_drewN | apply Kd.R_drew)); exact HO170.out⟩, ⟨by repeat (first | (with_reducible first | exact HB.out | apply below_alloc | apply pw_below_drewN | apply below_drew1) | exact HB.out)⟩⟩
                · rw [if_neg c11] at H
                  exact absurd H (by simp)
              · rw [if_neg c9] at H
                exact absurd H (by simp)
            · rw [if_neg c8] at H
              have c8b0 : decide (x27_2 < (l0.length : Int)) = false := decide_eq_false c8
              clear c8
              obtain rfl := Option.some.inj H
              go_wp2
              go_ret
              exact ⟨_, by first | rfl | (simp [errW_none, errW_some] <;> rfl) | (simp [*, errW_none, errW_some] <;> rfl), by (with_reducible repeat (first | apply Kd.R_alloc | apply Kd.R_drewN | apply Kd.R_drew)); exact HO_6.out, by repeat (first | (with_reducible first | exact HB.out | apply below_alloc | apply pw_below_drewN | apply below_drew1) | exact HB.out)⟩

/-! ### impl_tells: function 73 -/
def impl_tells.f (a0 : Int) (a1 : Int) : Option (Int × Int × Int × Int × Int) := some (2, a0, a1, 0, 0)
set_option maxHeartbeats 8000000 in
set_option maxRecDepth 100000 in
theorem impl_tells.calls (a0 : Int) (a1 : Int) (r1 : Int) (r2 : Int) (r3 : Int) (r4 : Int) (r5 : Int) (w : World) (h : impl_tells.f a0 a1 = some (r1, r2, r3, r4, r5)) :
    Calls Try.prog 73 #[.int .i8 a0, .int .i16 a1] w fun e w' => e = .returned (.agg #[.int .i8 r1, .int .i8 r2, .int .i16 r3, .int .i16 r4, .int .i16 r5]) ∧ Below w.heap.size w w' := by
  have hu104 := Try.underlying104
  have hu102 := Try.underlying102
  have HB := Aside0.mk (Below.refl w.heap.size w)
  have H : (some (2, a0, a1, 0, 0)) = some (r1, r2, r3, r4, r5) := h
  clear h
  simp only [Option.some.injEq, Prod.mk.injEq] at H
  obtain ⟨rfl, rfl, rfl, rfl, rfl⟩ := H
  go_enter Try.func73, Try.ntmps73
  go_wp2_with (first | ((with_reducible refine gate_dst (N := 4) rfl ?_); refine box_event ?hg (N := 4) ?hd (cs := #[.int .i8 0, .int .i8 0, .int .i16 0, .int .i16 0, .int .i16 0]) (t := 104) ?hr ?_; (case hd => rfl); (case hg => rfl); (case hr => first | (go_simp; done) | (go_simp; rfl)); intro gb171 hg w3 hbox hb; have n0_ := Aside0.mk (below_step (by repeat (first | (with_reducible first | exact HB.out | apply below_alloc | apply pw_below_drewN | apply below_drew1) | exact HB.out)) hb); have n1_ := Aside0.mk (hbox); have n2_ := Aside0.mk ((by rw [hg]; exact (below_size (by repeat (first | (with_reducible first | exact HB.out | apply below_alloc | apply pw_below_drewN | apply below_drew1) | exact HB.out))) : w.heap.size ≤ gb171)); have n3_ := Aside0.mk ((by rw [hg]; exact (below_size (by repeat (first | (with_reducible first | exact HB.out | apply below_alloc | apply pw_below_drewN | apply below_drew1) | exact HB.out))) : w.heap.size ≤ gb171)); clear HB; have HB := n0_; have BK171 := n1_; have GW171 := n2_; have GE171 := n3_; clear n0_ n1_ n2_ n3_; clear hb hbox hg; have hcz4_0 : w3.cell? ⟨gb171, 0, none⟩ = some (.int .i8 0) := (blk_cell BK171.out 0).trans rfl; have hcz4_1 : w3.cell? ⟨gb171, 1, none⟩ = some (.int .i8 0) := (blk_cell BK171.out 1).trans rfl; have hcz4_2 : w3.cell? ⟨gb171, 2, none⟩ = some (.int .i16 0) := (blk_cell BK171.out 2).trans rfl; have hcz4_3 : w3.cell? ⟨gb171, 3, none⟩ = some (.int .i16 0) := (blk_cell BK171.out 3).trans rfl; have hcz4_4 : w3.cell? ⟨gb171, 4, none⟩ = some (.int .i16 0) := (blk_cell BK171.out 4).trans rfl; have hfz4_0 := blk_frozen BK171.out 0; have hfz4_1 := blk_frozen BK171.out 1; have hfz4_2 := blk_frozen BK171.out 2; have hfz4_3 := blk_frozen BK171.out 3; have hfz4_4 := blk_frozen BK171.out 4))
  refine bodyPost_ret (results_cell_row rfl _ _ gb171 104 #[.int .i8 2, .int .i8 a0, .int .i16 a1, .int .i16 0, .int .i16 0] (0, 0) _ rfl (by (with_reducible repeat (first | refine blk_drewN ?_ _ | refine blk_drew ?_ | refine blk_alloc ?_ _)); refine blk_put (cs := #[.int .i8 2, .int .i8 a0, .int .i16 a1, .int .i16 0, .int .i16 0]) ?_ 4 _ rfl; (with_reducible repeat (first | refine blk_drewN ?_ _ | refine blk_drew ?_ | refine blk_alloc ?_ _)); refine blk_put (cs := #[.int .i8 2, .int .i8 a0, .int .i16 a1, .int .i16 0, .int .i16 0]) ?_ 3 _ rfl; (with_reducible repeat (first | refine blk_drewN ?_ _ | refine blk_drew ?_ | refine blk_alloc ?_ _)); refine blk_put (cs := #[.int .i8 2, .int .i8 a0, .int .i16 0, .int .i16 0, .int .i16 0]) ?_ 2 _ rfl; (with_reducible repeat (first | refine blk_drewN ?_ _ | refine blk_drew ?_ | refine blk_alloc ?_ _)); refine blk_put (cs := #[.int .i8 2, .int .i8 0, .int .i16 0, .int .i16 0, .int .i16 0]) ?_ 1 _ rfl; (with_reducible repeat (first | refine blk_drewN ?_ _ | refine blk_drew ?_ | refine blk_alloc ?_ _)); refine blk_put (cs := #[.int .i8 0, .int .i8 0, .int .i16 0, .int .i16 0, .int .i16 0]) ?_ 0 _ rfl; (with_reducible repeat (first | refine blk_drewN ?_ _ | refine blk_drew ?_ | refine blk_alloc ?_ _)); exact BK171.out) Try.underlying104 rfl (by kernel_rfl)) rfl ?_
  exact ⟨by first | rfl | (simp [errW_none, errW_some] <;> rfl) | (simp [*, errW_none, errW_some] <;> rfl), by repeat (first | (with_reducible first | exact HB.out | apply below_alloc | apply pw_below_drewN | apply below_drew1 | refine below_set ?_ GE171.out) | exact HB.out)⟩

/-! ### impl_StreamTree: function 36 -/
def impl_StreamTree.l0 : Nat → List Int → List (S104) → List Int → Int → Int → List Int → List Int → Option ((List (S104)) × Int)
  | 0, _, _, _, _, _, _, _ => none
  | k + 1, x4, x5, x21, x22, x23, x173000, x173001 => if x23 < x22 then (if 0 ≤ x23 then (if x23 < (x21.length : Int) then ((impl_tells.f (rd x21 x23) (IntKind.i16.wrap (wrap64 (x23 + 1)))).bind fun bt185 => (if x23 < (x5.length : Int) then (impl_StreamTree.l0 k x4 (x5.set (x23 : Int).toNat (⟨bt185.1, bt185.2.1, (⟨bt185.2.2.1, bt185.2.2.2.1, bt185.2.2.2.2⟩ : S102)⟩ : S104)) x21 x22 (wrap64 (x23 + 1)) x173000 x173001) else (none))) else (none)) else (none)) else (if 0 ≤ (wrap64 ((x4.length : Int) - 1)) then (if (wrap64 ((x4.length : Int) - 1)) < (x5.length : Int) then (some ((x5.set ((wrap64 ((x4.length : Int) - 1)) : Int).toNat (⟨(rd_T104 x5 (wrap64 ((x4.length : Int) - 1))).f0, (rd_T104 x5 (wrap64 ((x4.length : Int) - 1))).f1, (⟨IntKind.i16.wrap ((x173000.length : Int)), (rd_T104 x5 (wrap64 ((x4.length : Int) - 1))).f2.f1, (rd_T104 x5 (wrap64 ((x4.length : Int) - 1))).f2.f2⟩ : S102)⟩ : S104)), 0)) else (none)) else (none))
def impl_StreamTree.f (k : Nat) (l0_0 : List Int) (l0_1 : List Int) : Option ((List (S104)) × Int) := (impl_ValidStream.f k l0_0 l0_1).bind fun t174 => (if t174 = true then ((slices_Concat_int8_int8.f k (([l0_0, l0_1] : List (List Int)))).bind fun t178 => (if 0 ≤ (t178.length : Int) then (if ((t178.length : Int) : Int).toNat ≤ 35184372088832 then (impl_StreamTree.l0 k t178 (List.replicate ((t178.length : Int) : Int).toNat z104) t178 (t178.length : Int) 0 l0_0 l0_1) else (none)) else (none))) else (some (([] : List (S104)), 1)))
theorem impl_StreamTree.mono_l : ∀ k, (∀ y0 y1 y2 y3 y4 y5 y6, LeO (impl_StreamTree.l0 k y0 y1 y2 y3 y4 y5 y6) (impl_StreamTree.l0 (k + 1) y0 y1 y2 y3 y4 y5 y6))
  | 0 => fun _ _ _ _ _ _ _ r h => by simp [impl_StreamTree.l0] at h
  | k + 1 => by
    have ih0 := impl_StreamTree.mono_l k
    · intro y0 y1 y2 y3 y4 y5 y6
      unfold impl_StreamTree.l0
      repeat' first
      | (with_reducible exact ih0 _ _ _ _ _ _ _)
      | (with_reducible exact impl_ValidStream.mono _ _ _)
      | (with_reducible exact slices_Concat_int8_int8.mono _ _)
      | (with_reducible exact LeO.refl _)
      | (with_reducible exact LeO.none _)
      | (with_reducible refine LeO.ite ?_ ?_)
      | (with_reducible refine LeO.bind ?_ (fun _ => ?_))
      | exact ih0 _ _ _ _ _ _ _
      | exact impl_ValidStream.mono _ _ _
      | exact slices_Concat_int8_int8.mono _ _
      | exact LeO.none _
      | refine LeO.ite ?_ ?_
      | refine LeO.bind ?_ (fun _ => ?_)
theorem impl_StreamTree.mono : ∀ a0 a1 k, LeO (impl_StreamTree.f k a0 a1) (impl_StreamTree.f (k + 1) a0 a1) := by
  intro a0 a1 k
  have ih0 := impl_StreamTree.mono_l k
  unfold impl_StreamTree.f
  repeat' first
      | (with_reducible exact ih0 _ _ _ _ _ _ _)
      | (with_reducible exact impl_ValidStream.mono _ _ _)
      | (with_reducible exact slices_Concat_int8_int8.mono _ _)
      | (with_reducible exact LeO.refl _)
      | (with_reducible exact LeO.none _)
      | (with_reducible refine LeO.ite ?_ ?_)
      | (with_reducible refine LeO.bind ?_ (fun _ => ?_))
      | exact ih0 _ _ _ _ _ _ _
      | exact impl_ValidStream.mono _ _ _
      | exact slices_Concat_int8_int8.mono _ _
      | exact LeO.none _
      | refine LeO.ite ?_ ?_
      | refine LeO.bind ?_ (fun _ => ?_)
def impl_StreamTree.T10 : Bool × List (List Nat × List Nat) := (true, [([], []), ([], []), ([1], [1]), ([2], [2]), ([], []), ([4], [4]), ([5], [5]), ([6], [6]), ([0, 3], [0, 3]), ([8], [8]), ([9, 0, 1, 2, 3, 4, 5, 6, 7], [9]), ([10, 7, 0, 1, 2, 3, 4, 5, 6, 7], [7, 10])])
def impl_StreamTree.B10 : List Nat := [0, 0, 2, 6, 0, 16, 48, 112, 15, 271, 1023, 2047]
theorem impl_StreamTree.tab10 : rtab .any (opsOf Try.f36 10) = impl_StreamTree.T10 := by kernel_rfl
theorem impl_StreamTree.bits10 : waitsOk impl_StreamTree.T10.2 impl_StreamTree.B10 = true := by kernel_rfl
set_option maxHeartbeats 8000000 in
set_option maxRecDepth 100000 in
theorem impl_StreamTree.calls (k : Nat) (P0_0_ : Nat → Prop) (A0_0 : Option Addr) (c0_0 : Nat) (l0_0 : List Int) (P0_1_ : Nat → Prop) (A0_1 : Option Addr) (c0_1 : Nat) (l0_1 : List Int) (r1 : List (S104)) (r2 : Int) (w : World) (hs0_0 : Kd.V (Kd.int .i8) 69 w w.heap.size (fun k_ => P0_0_ k_) (.slice A0_0 l0_0.length c0_0) l0_0) (hs0_1 : Kd.V (Kd.int .i8) 69 w w.heap.size (fun k_ => P0_1_ k_) (.slice A0_1 l0_1.length c0_1) l0_1) (h : impl_StreamTree.f k l0_0 l0_1 = some (r1, r2)) :
    Calls Try.prog 36 #[.agg #[.slice A0_0 l0_0.length c0_0, .slice A0_1 l0_1.length c0_1]] w fun e w' => ∃ v0_ : Value, e = .returned (.tuple #[.agg #[v0_], .int .i64 r2]) ∧ Kd.R k104 104 w' w.heap.size (fun k_ => (w.heap.size ≤ k_)) v0_ r1 ∧ Below w.heap.size w w' := by
  have hu34 := Try.underlying34
  have hu55 := Try.underlying55
  have hu104 := Try.underlying104
  have HO0_0 := Aside0.mk (show Kd.V (Kd.int .i8) 69 w w.heap.size (fun k_ => ((P0_0_ k_ ∨ P0_1_ k_) ∨ w.heap.size ≤ k_)) (.slice A0_0 l0_0.length c0_0) l0_0 from Kd.V_mono hs0_0 (fun k_ hk => .inl (.inl hk)))
  have HO0_1 := Aside0.mk (show Kd.V (Kd.int .i8) 69 w w.heap.size (fun k_ => ((P0_0_ k_ ∨ P0_1_ k_) ∨ w.heap.size ≤ k_)) (.slice A0_1 l0_1.length c0_1) l0_1 from Kd.V_mono hs0_1 (fun k_ hk => .inl (.inr hk)))
  have HB := Aside0.mk (Below.refl w.heap.size w)
  have H : ((impl_ValidStream.f k l0_0 l0_1).bind fun t174 => (if t174 = true then ((slices_Concat_int8_int8.f k (([l0_0, l0_1] : List (List Int)))).bind fun t178 => (if 0 ≤ (t178.length : Int) then (if ((t178.length : Int) : Int).toNat ≤ 35184372088832 then (impl_StreamTree.l0 k t178 (List.replicate ((t178.length : Int) : Int).toNat z104) t178 (t178.length : Int) 0 l0_0 l0_1) else (none)) else (none))) else (some (([] : List (S104)), 1)))) = some (r1, r2) := h
  clear h
  replace H := Option.bind_eq_some_iff.mp H
  obtain ⟨t174, A20, H⟩ := H
  replace H : (if t174 = true then ((slices_Concat_int8_int8.f k (([l0_0, l0_1] : List (List Int)))).bind fun t178 => (if 0 ≤ (t178.length : Int) then (if ((t178.length : Int) : Int).toNat ≤ 35184372088832 then (impl_StreamTree.l0 k t178 (List.replicate ((t178.length : Int) : Int).toNat z104) t178 (t178.length : Int) 0 l0_0 l0_1) else (none)) else (none))) else (some (([] : List (S104)), 1))) = some (r1, r2) := H
  have A2 := Aside0.mk A20
  clear A20
  by_cases c3 : t174 = true
  · subst c3
    have H1 : ((slices_Concat_int8_int8.f k (([l0_0, l0_1] : List (List Int)))).bind fun t178 => (if 0 ≤ (t178.length : Int) then (if ((t178.length : Int) : Int).toNat ≤ 35184372088832 then (impl_StreamTree.l0 k t178 (List.replicate ((t178.length : Int) : Int).toNat z104) t178 (t178.length : Int) 0 l0_0 l0_1) else (none)) else (none))) = some (r1, r2) := by rw [if_pos rfl] at H; exact H
    clear H
    have H := H1
    clear H1
    obtain ⟨y175, hy175⟩ : ∃ y_ : List (List Int), y_ = (([l0_0, l0_1] : List (List Int))) := ⟨_, rfl⟩
    replace H : ((slices_Concat_int8_int8.f k y175).bind fun t178 => (if 0 ≤ (t178.length : Int) then (if ((t178.length : Int) : Int).toNat ≤ 35184372088832 then (impl_StreamTree.l0 k t178 (List.replicate ((t178.length : Int) : Int).toNat z104) t178 (t178.length : Int) 0 l0_0 l0_1) else (none)) else (none))) = some (r1, r2) := by first | (rw [hy175]; with_reducible exact H) | (have H2_ := (Option.bind_some _ _).symm.trans H; rw [hy175]; with_reducible exact H2_) | (have H2_ := (Option.bind_some _ _).symm.trans H; with_reducible exact H2_) | with_reducible exact H | (rw [hy175]; exact H) | exact H
    have Ny175 := Aside0.mk hy175
    clear hy175
    replace H := Option.bind_eq_some_iff.mp H
    obtain ⟨t178, A40, H⟩ := H
    replace H : (if 0 ≤ (t178.length : Int) then (if ((t178.length : Int) : Int).toNat ≤ 35184372088832 then (impl_StreamTree.l0 k t178 (List.replicate ((t178.length : Int) : Int).toNat z104) t178 (t178.length : Int) 0 l0_0 l0_1) else (none)) else (none)) = some (r1, r2) := H
    have A4 := Aside0.mk A40
    clear A40
    by_cases c5 : 0 ≤ (t178.length : Int)
    · rw [if_pos c5] at H
      have c5b0 := eq_true c5
      have c5b1 : decide (0 ≤ (t178.length : Int)) = true := decide_eq_true c5
      clear c5
      by_cases c6 : ((t178.length : Int) : Int).toNat ≤ 35184372088832
      · rw [if_pos c6] at H
        have c6b0 := eq_true c6
        have c6b1 : decide (((t178.length : Int) : Int).toNat ≤ 35184372088832) = true := decide_eq_true c6
        clear c6
        obtain ⟨y181, hy181⟩ : ∃ y_ : List (S104), y_ = (List.replicate ((t178.length : Int) : Int).toNat z104) := ⟨_, rfl⟩
        replace H : (impl_StreamTree.l0 k t178 y181 t178 (t178.length : Int) 0 l0_0 l0_1) = some (r1, r2) := by first | (rw [hy181]; with_reducible exact H) | (have H2_ := (Option.bind_some _ _).symm.trans H; rw [hy181]; with_reducible exact H2_) | (have H2_ := (Option.bind_some _ _).symm.trans H; with_reducible exact H2_) | with_reducible exact H | (rw [hy181]; exact H) | exact H
        have Ny181 := Aside0.mk hy181
        clear hy181
        have H' := Aside0.mk H
        clear H
        go_enter Try.func36, Try.ntmps36
        go_wp2_with (first | ((with_reducible refine gate_dst (N := 1) rfl ?_); refine box_event ?hg (N := 1) ?hd (cs := #[.slice A0_0 l0_0.length c0_0, .slice A0_1 l0_1.length c0_1]) (t := 34) ?hr ?_; (case hd => rfl); (case hg => rfl); (case hr => first | (go_simp; done) | (go_simp; rfl)); intro gb172 hg w7 hbox hb; have n0_ := Aside0.mk (Kd.V_below (Kd.V_elderB (by (with_reducible repeat (first | apply Kd.V_alloc | apply Kd.V_drewN | apply Kd.V_drew)); exact HO0_0.out) gb172 (Nat.le_of_eq hg.symm)) hb); have n1_ := Aside0.mk (Kd.V_below (Kd.V_elderB (by (with_reducible repeat (first | apply Kd.V_alloc | apply Kd.V_drewN | apply Kd.V_drew)); exact HO0_1.out) gb172 (Nat.le_of_eq hg.symm)) hb); have n2_ := Aside0.mk (below_step (by repeat (first | (with_reducible first | exact HB.out | apply below_alloc | apply pw_below_drewN | apply below_drew1) | exact HB.out)) hb); have n3_ := Aside0.mk (hbox); have n4_ := Aside0.mk ((by rw [hg]; exact (below_size (by repeat (first | (with_reducible first | exact HB.out | apply below_alloc | apply pw_below_drewN | apply below_drew1) | exact HB.out))) : w.heap.size ≤ gb172)); have n5_ := Aside0.mk ((by rw [hg]; exact (below_size (by repeat (first | (with_reducible first | exact HB.out | apply below_alloc | apply pw_below_drewN | apply below_drew1) | exact HB.out))) : w.heap.size ≤ gb172)); clear HO0_0; clear HO0_1; clear HB; have HO0_0 := n0_; have HO0_1 := n1_; have HB := n2_; have BK172 := n3_; have GW172 := n4_; have GE172 := n5_; clear n0_ n1_ n2_ n3_ n4_ n5_; clear hb hbox hg) | ((with_reducible refine gate_dst (N := 2) rfl ?_); refine box_event ?hg (N := 2) ?hd (cs := #[.slice none 0 0]) (t := 55) ?hr ?_; (case hd => rfl); (case hg => rfl); (case hr => first | (go_simp; done) | (go_simp; rfl)); intro gb173 hg w8 hbox hb; have n0_ := Aside0.mk (Kd.V_below (Kd.V_elderB (by (with_reducible repeat (first | apply Kd.V_alloc | apply Kd.V_drewN | apply Kd.V_drew)); exact HO0_0.out) gb173 (Nat.le_of_eq hg.symm)) hb); have n1_ := Aside0.mk (Kd.V_below (Kd.V_elderB (by (with_reducible repeat (first | apply Kd.V_alloc | apply Kd.V_drewN | apply Kd.V_drew)); exact HO0_1.out) gb173 (Nat.le_of_eq hg.symm)) hb); have n2_ := Aside0.mk (blk_below (g := gb172) (o := .cells #[.slice A0_0 l0_0.length c0_0, .slice A0_1 l0_1.length c0_1] 34 (0, 0)) (by (with_reducible repeat (first | refine blk_drewN ?_ _ | refine blk_drew ?_ | refine blk_alloc ?_ _)); exact BK172.out) hb); have n3_ := Aside0.mk (below_step (by repeat (first | (with_reducible first | exact HB.out | apply below_alloc | apply pw_below_drewN | apply below_drew1 | refine below_set ?_ GE172.out) | exact HB.out)) hb); have n4_ := Aside0.mk (hbox); have n5_ := Aside0.mk ((by rw [hg]; exact (below_size (by repeat (first | (with_reducible first | exact HB.out | apply below_alloc | apply pw_below_drewN | apply below_drew1 | refine below_set ?_ GE172.out) | exact HB.out))) : w.heap.size ≤ gb173)); have n6_ := Aside0.mk ((by rw [hg]; exact (below_size (by repeat (first | (with_reducible first | exact HB.out | apply below_alloc | apply pw_below_drewN | apply below_drew1 | refine below_set ?_ GE172.out) | exact HB.out))) : w.heap.size ≤ gb173)); have n7_ := Aside0.mk ((by rw [hg]; exact Nat.ne_of_lt (blk_lt (g := gb172) (o := .cells #[.slice A0_0 l0_0.length c0_0, .slice A0_1 l0_1.length c0_1] 34 (0, 0)) (by (with_reducible repeat (first | refine blk_drewN ?_ _ | refine blk_drew ?_ | refine blk_alloc ?_ _)); exact BK172.out)) : gb172 ≠ gb173)); have n8_ := Aside0.mk ((by rw [hg]; exact Nat.ne_of_gt (blk_lt (g := gb172) (o := .cells #[.slice A0_0 l0_0.length c0_0, .slice A0_1 l0_1.length c0_1] 34 (0, 0)) (by (with_reducible repeat (first | refine blk_drewN ?_ _ | refine blk_drew ?_ | refine blk_alloc ?_ _)); exact BK172.out)) : gb173 ≠ gb172)); clear HO0_0; clear HO0_1; clear BK172; clear HB; have HO0_0 := n0_; have HO0_1 := n1_; have BK172 := n2_; have HB := n3_; have BK173 := n4_; have GW173 := n5_; have GE173 := n6_; have NB172_173 := n7_; have NB173_172 := n8_; clear n0_ n1_ n2_ n3_ n4_ n5_ n6_ n7_ n8_; clear hb hbox hg; have hnb9 := NB172_173.out; have hnc9 := NB173_172.out; have hcz10_0 : w8.cell? ⟨gb172, 0, none⟩ = some (.slice A0_0 l0_0.length c0_0) := (blk_cell BK172.out 0).trans rfl; have hcz10_1 : w8.cell? ⟨gb172, 1, none⟩ = some (.slice A0_1 l0_1.length c0_1) := (blk_cell BK172.out 1).trans rfl; have hfz10_0 := blk_frozen BK172.out 0; have hfz10_1 := blk_frozen BK172.out 1) | ((with_reducible refine gate_callee (f := 52) rfl ?_); refine goesL_ (some 9) rfl rfl Try.func52 (by kernel_rfl) rfl #[.agg #[.slice A0_0 l0_0.length c0_0, .slice A0_1 l0_1.length c0_1]] rfl (by (try simp only [List.map_toArray, List.map_cons, List.map_nil]); first | done | rfl | (simp only [List.length_drop, List.length_take]; rfl)) ?_; (with_reducible refine (impl_ValidStream.calls k _ _ l0_0 _ _ l0_1 true _ ?side1 ?side2 ?side3 ?side4 A2.out).mono ?_); (case side1 => repeat (first | exact (Kd.V_reads' HO0_0.out).2.2 | (with_reducible refine Kd.C_alloc ?_ _) | (with_reducible refine Kd.C_drewN ?_ _) | (with_reducible refine Kd.C_drew ?_))); (case side2 => exact (Kd.V_reads' HO0_0.out).2.1); (case side3 => repeat (first | exact (Kd.V_reads' HO0_1.out).2.2 | (with_reducible refine Kd.C_alloc ?_ _) | (with_reducible refine Kd.C_drewN ?_ _) | (with_reducible refine Kd.C_drew ?_))); (case side4 => exact (Kd.V_reads' HO0_1.out).2.1); rintro e w11 ⟨rfl, hb⟩; refine ⟨_, rfl, ?_⟩; have n0_ := Aside0.mk (Kd.V_below (by (with_reducible repeat (first | apply Kd.V_alloc | apply Kd.V_drewN | apply Kd.V_drew)); exact HO0_0.out) hb); have n1_ := Aside0.mk (Kd.V_below (by (with_reducible repeat (first | apply Kd.V_alloc | apply Kd.V_drewN | apply Kd.V_drew)); exact HO0_1.out) hb); have n2_ := Aside0.mk (blk_below (g := gb172) (o := .cells #[.slice A0_0 l0_0.length c0_0, .slice A0_1 l0_1.length c0_1] 34 (0, 0)) (by (with_reducible repeat (first | refine blk_drewN ?_ _ | refine blk_drew ?_ | refine blk_alloc ?_ _)); exact BK172.out) hb); have n3_ := Aside0.mk (blk_below (g := gb173) (o := .cells #[.slice none 0 0] 55 (0, 0)) (by (with_reducible repeat (first | refine blk_drewN ?_ _ | refine blk_drew ?_ | refine blk_alloc ?_ _)); exact BK173.out) hb); have n4_ := Aside0.mk (below_step (by repeat (first | (with_reducible first | exact HB.out | apply below_alloc | apply pw_below_drewN | apply below_drew1 | refine below_set ?_ GE172.out | refine below_set ?_ GE173.out) | exact HB.out)) hb); clear HO0_0; clear HO0_1; clear BK172; clear BK173; clear HB; have HO0_0 := n0_; have HO0_1 := n1_; have BK172 := n2_; have BK173 := n3_; have HB := n4_; clear n0_ n1_ n2_ n3_ n4_; (try clear hb); (try clear hb2); (try clear hk); (try clear hi); have hcz12_0 : w11.cell? ⟨gb172, 0, none⟩ = some (.slice A0_0 l0_0.length c0_0) := (blk_cell BK172.out 0).trans rfl; have hcz12_1 : w11.cell? ⟨gb172, 1, none⟩ = some (.slice A0_1 l0_1.length c0_1) := (blk_cell BK172.out 1).trans rfl; have hfz12_0 := blk_frozen BK172.out 0; have hfz12_1 := blk_frozen BK172.out 1) | ((with_reducible refine gate_dst (N := 16) rfl ?_); refine Kd.N_lit (Kd.slice 69 (Kd.int .i8)) _ 22 ?hg (N' := 16) ?hd (xs := ([l0_0, l0_1] : List (List Int))) (inner := [.slice A0_0 l0_0.length c0_0, .slice A0_1 l0_1.length c0_1]) (ok := (fun k_ => ((P0_0_ k_ ∨ P0_1_ k_) ∨ w.heap.size ≤ k_) ∧ k_ ≠ gb172 ∧ k_ ≠ gb173)) (okp := (fun k_ => ((P0_0_ k_ ∨ P0_1_ k_) ∨ w.heap.size ≤ k_) ∧ k_ ≠ gb172 ∧ k_ ≠ gb173)) ?hr ?hp (fun _ hk => hk) ((show ∀ k_, w11.heap.size ≤ k_ → (fun k_ => ((P0_0_ k_ ∨ P0_1_ k_) ∨ w.heap.size ≤ k_) ∧ k_ ≠ gb172 ∧ k_ ≠ gb173) k_ from fun k_ hk => ⟨(.inr (Nat.le_trans (below_size (by repeat (first | (with_reducible first | exact HB.out | apply below_alloc | apply pw_below_drewN | apply below_drew1 | refine below_set ?_ GE172.out | refine below_set ?_ GE173.out) | exact HB.out))) hk)), Kd.freshB (g := gb172) (o := .cells #[.slice A0_0 l0_0.length c0_0, .slice A0_1 l0_1.length c0_1] 34 (0, 0)) (by (with_reducible repeat (first | refine blk_drewN ?_ _ | refine blk_drew ?_ | refine blk_alloc ?_ _)); exact BK172.out) k_ hk, Kd.freshB (g := gb173) (o := .cells #[.slice none 0 0] 55 (0, 0)) (by (with_reducible repeat (first | refine blk_drewN ?_ _ | refine blk_drew ?_ | refine blk_alloc ?_ _)); exact BK173.out) k_ hk⟩) _ (Nat.le_refl _)) (Below.refl _ _) (Nat.le_refl _) (by simp) ?_; (case hd => rfl); (case hg => rfl); (case hr => first | (go_simp; done) | (go_simp; rfl)); (case hp => exact (Reps.one (show Kd.FK (Kd.slice 69 (Kd.int .i8)) _ _ l0_0 [.slice A0_0 l0_0.length c0_0] from (Kd.FK_slice_mk (Kd.V_reads' (Kd.V_mono (ok' := (fun k_ => ((P0_0_ k_ ∨ P0_1_ k_) ∨ w.heap.size ≤ k_) ∧ k_ ≠ gb172 ∧ k_ ≠ gb173)) (HO0_0.out) (fun k_ hk => ⟨hk.1.1, ⟨hk.1.2, hk.2⟩⟩))).2.1 (Kd.V_F (Kd.V_mono (ok' := (fun k_ => ((P0_0_ k_ ∨ P0_1_ k_) ∨ w.heap.size ≤ k_) ∧ k_ ≠ gb172 ∧ k_ ≠ gb173)) (HO0_0.out) (fun k_ hk => ⟨hk.1.1, ⟨hk.1.2, hk.2⟩⟩))))) (Reps.one (show Kd.FK (Kd.slice 69 (Kd.int .i8)) _ _ l0_1 [.slice A0_1 l0_1.length c0_1] from (Kd.FK_slice_mk (Kd.V_reads' (Kd.V_mono (ok' := (fun k_ => ((P0_0_ k_ ∨ P0_1_ k_) ∨ w.heap.size ≤ k_) ∧ k_ ≠ gb172 ∧ k_ ≠ gb173)) (HO0_1.out) (fun k_ hk => ⟨hk.1.1, ⟨hk.1.2, hk.2⟩⟩))).2.1 (Kd.V_F (Kd.V_mono (ok' := (fun k_ => ((P0_0_ k_ ∨ P0_1_ k_) ∨ w.heap.size ≤ k_) ∧ k_ ≠ gb172 ∧ k_ ≠ gb173)) (HO0_1.out) (fun k_ hk => ⟨hk.1.1, ⟨hk.1.2, hk.2⟩⟩))))) (Reps.none _ _)))); intro v176 w13 ho14 hb hg_ hnew_; clear hg_ hnew_; (first | rw [← Ny175.out] at ho14 | (simp only [Int.reduceToNat] at ho14; rw [← Ny175.out] at ho14)); have n0_ := Aside0.mk (Kd.V_elder' (by (with_reducible repeat (first | apply Kd.V_alloc | apply Kd.V_drewN | apply Kd.V_drew)); exact HO0_0.out) (Kd.N_base ho14) hb); have n1_ := Aside0.mk (Kd.V_elder' (by (with_reducible repeat (first | apply Kd.V_alloc | apply Kd.V_drewN | apply Kd.V_drew)); exact HO0_1.out) (Kd.N_base ho14) hb); have n2_ := Aside0.mk (Kd.N_lower ho14 (below_size (by repeat (first | (with_reducible first | exact HB.out | apply below_alloc | apply pw_below_drewN | apply below_drew1 | refine below_set ?_ GE172.out | refine below_set ?_ GE173.out) | exact HB.out)))); have n3_ := Aside0.mk (blk_below (g := gb172) (o := .cells #[.slice A0_0 l0_0.length c0_0, .slice A0_1 l0_1.length c0_1] 34 (0, 0)) (by (with_reducible repeat (first | refine blk_drewN ?_ _ | refine blk_drew ?_ | refine blk_alloc ?_ _)); exact BK172.out) hb); have n4_ := Aside0.mk (blk_below (g := gb173) (o := .cells #[.slice none 0 0] 55 (0, 0)) (by (with_reducible repeat (first | refine blk_drewN ?_ _ | refine blk_drew ?_ | refine blk_alloc ?_ _)); exact BK173.out) hb); have n5_ := Aside0.mk (below_step (by repeat (first | (with_reducible first | exact HB.out | apply below_alloc | apply pw_below_drewN | apply below_drew1 | refine below_set ?_ GE172.out | refine below_set ?_ GE173.out) | exact HB.out)) hb); clear HO0_0; clear HO0_1; clear BK172; clear BK173; clear HB; have HO0_0 := n0_; have HO0_1 := n1_; have HO177 := n2_; have BK172 := n3_; have BK173 := n4_; have HB := n5_; clear n0_ n1_ n2_ n3_ n4_ n5_; clear hb ho14; obtain ⟨Ao15, co15, eo15⟩ := Kd.N_slice HO177.out; subst eo15) | ((with_reducible refine gate_callee (f := 72) rfl ?_); refine goesL_ (some 17) rfl rfl Try.func72 (by kernel_rfl) rfl #[.slice Ao15 y175.length co15] rfl (by (try simp only [List.map_toArray, List.map_cons, List.map_nil]); first | done | rfl | (simp only [List.length_drop, List.length_take]; rfl)) ?_; (with_reducible refine (slices_Concat_int8_int8.calls k _ _ y175 t178 _ ?side1 ?side2 A4.out).mono ?_); (case side1 => repeat (first | exact (Kd.N_reads' HO177.out).2.2 | (with_reducible refine Kd.C_alloc ?_ _) | (with_reducible refine Kd.C_drewN ?_ _) | (with_reducible refine Kd.C_drew ?_))); (case side2 => exact (Kd.N_reads' HO177.out).2.1); rintro e w16 ⟨v179, rfl, ho0, hb⟩; refine ⟨_, rfl, ?_⟩; have n0_ := Aside0.mk (Kd.V_elder' (by (with_reducible repeat (first | apply Kd.V_alloc | apply Kd.V_drewN | apply Kd.V_drew)); exact HO0_0.out) (Kd.R_base ho0) hb); have n1_ := Aside0.mk (Kd.V_elder' (by (with_reducible repeat (first | apply Kd.V_alloc | apply Kd.V_drewN | apply Kd.V_drew)); exact HO0_1.out) (Kd.R_base ho0) hb); have n2_ := Aside0.mk (Kd.N_elder' (by (with_reducible repeat (first | apply Kd.N_alloc | apply Kd.N_drewN | apply Kd.N_drew)); exact HO177.out) (Kd.R_base ho0) hb); have n3_ := Aside0.mk (Kd.R_lower (Kd.R_newM (M := fun k_ => (w.heap.size ≤ k_)) ho0 (below_size (by repeat (first | (with_reducible first | exact HB.out | apply below_alloc | apply pw_below_drewN | apply below_drew1 | refine below_set ?_ GE172.out | refine below_set ?_ GE173.out) | exact HB.out))) (fun k_ h_ => h_)) (below_size (by repeat (first | (with_reducible first | exact HB.out | apply below_alloc | apply pw_below_drewN | apply below_drew1 | refine below_set ?_ GE172.out | refine below_set ?_ GE173.out) | exact HB.out)))); have n4_ := Aside0.mk (blk_below (g := gb172) (o := .cells #[.slice A0_0 l0_0.length c0_0, .slice A0_1 l0_1.length c0_1] 34 (0, 0)) (by (with_reducible repeat (first | refine blk_drewN ?_ _ | refine blk_drew ?_ | refine blk_alloc ?_ _)); exact BK172.out) hb); have n5_ := Aside0.mk (blk_below (g := gb173) (o := .cells #[.slice none 0 0] 55 (0, 0)) (by (with_reducible repeat (first | refine blk_drewN ?_ _ | refine blk_drew ?_ | refine blk_alloc ?_ _)); exact BK173.out) hb); have n6_ := Aside0.mk (below_step (by repeat (first | (with_reducible first | exact HB.out | apply below_alloc | apply pw_below_drewN | apply below_drew1 | refine below_set ?_ GE172.out | refine below_set ?_ GE173.out) | exact HB.out)) hb); clear HO0_0; clear HO0_1; clear HO177; clear BK172; clear BK173; clear HB; have HO0_0 := n0_; have HO0_1 := n1_; have HO177 := n2_; have HO180 := n3_; have BK172 := n4_; have BK173 := n5_; have HB := n6_; clear n0_ n1_ n2_ n3_ n4_ n5_ n6_; (try clear hb); (try clear hb2); (try clear hk); (try clear hi); (try clear ho0); obtain ⟨Ao17, co17, eo17⟩ := Kd.R_slice HO180.out; subst eo17) | ((with_reducible refine gate_dst (N := 20) rfl ?_); refine Kd.R_make k104 _ 104 rfl (N := 20) rfl 53 _ _ rfl (t178.length : Int) rfl rfl Try.underlying53 (.agg #[(.int .i8 0), (.int .i8 0), (.int .i16 0), (.int .i16 0), (.int .i16 0)]) 8 info104 rfl (by decide) (by omega) z104 (ok := fun _ => True) (okp := fun _ => True) (k104_mkM _ _ _ z104 ) (fun _ hk => hk) trivial (of_decide_eq_true (by first | (with_reducible assumption) | assumption)) (Nat.le_trans (Nat.mul_le_mul_right _ (of_decide_eq_true (by first | (with_reducible assumption) | assumption) : (t178.length : Int).toNat ≤ 35184372088832)) (by omega)) (Below.refl _ _) (Nat.le_refl _) ?_; intro v182 w18 ho19 hb hg_ hnew_; clear hg_ hnew_; (first | rw [← Ny181.out] at ho19 | (simp only [Int.reduceToNat] at ho19; rw [← Ny181.out] at ho19)); have n0_ := Aside0.mk (Kd.V_elder' (by (with_reducible repeat (first | apply Kd.V_alloc | apply Kd.V_drewN | apply Kd.V_drew)); exact HO0_0.out) (Kd.R_base ho19) hb); have n1_ := Aside0.mk (Kd.V_elder' (by (with_reducible repeat (first | apply Kd.V_alloc | apply Kd.V_drewN | apply Kd.V_drew)); exact HO0_1.out) (Kd.R_base ho19) hb); have n2_ := Aside0.mk (Kd.N_elder' (by (with_reducible repeat (first | apply Kd.N_alloc | apply Kd.N_drewN | apply Kd.N_drew)); exact HO177.out) (Kd.R_base ho19) hb); have n3_ := Aside0.mk (Kd.R_below (by (with_reducible repeat (first | apply Kd.R_alloc | apply Kd.R_drewN | apply Kd.R_drew)); exact HO180.out) hb); have n4_ := Aside0.mk (Kd.R_lower (Kd.R_newM (M := fun k_ => (w.heap.size ≤ k_)) ho19 (below_size (by repeat (first | (with_reducible first | exact HB.out | apply below_alloc | apply pw_below_drewN | apply below_drew1 | refine below_set ?_ GE172.out | refine below_set ?_ GE173.out) | exact HB.out))) (fun k_ h_ => h_)) (below_size (by repeat (first | (with_reducible first | exact HB.out | apply below_alloc | apply pw_below_drewN | apply below_drew1 | refine below_set ?_ GE172.out | refine below_set ?_ GE173.out) | exact HB.out)))); have n5_ := Aside0.mk (blk_below (g := gb172) (o := .cells #[.slice A0_0 l0_0.length c0_0, .slice A0_1 l0_1.length c0_1] 34 (0, 0)) (by (with_reducible repeat (first | refine blk_drewN ?_ _ | refine blk_drew ?_ | refine blk_alloc ?_ _)); exact BK172.out) hb); have n6_ := Aside0.mk (blk_below (g := gb173) (o := .cells #[.slice none 0 0] 55 (0, 0)) (by (with_reducible repeat (first | refine blk_drewN ?_ _ | refine blk_drew ?_ | refine blk_alloc ?_ _)); exact BK173.out) hb); have n7_ := Aside0.mk (below_step (by repeat (first | (with_reducible first | exact HB.out | apply below_alloc | apply pw_below_drewN | apply below_drew1 | refine below_set ?_ GE172.out | refine below_set ?_ GE173.out) | exact HB.out)) hb); clear HO0_0; clear HO0_1; clear HO177; clear HO180; clear BK172; clear BK173; clear HB; have HO0_0 := n0_; have HO0_1 := n1_; have HO177 := n2_; have HO180 := n3_; have HO183 := n4_; have BK172 := n5_; have BK173 := n6_; have HB := n7_; clear n0_ n1_ n2_ n3_ n4_ n5_ n6_ n7_; clear hb ho19))
        go_loopg [23] k (fun kq v23 w' => ∃ (x5_1 : List (S104)) (x23_1 : Int), v23 = .int .i64 x23_1 ∧ Aside0 (impl_StreamTree.l0 kq t178 x5_1 t178 (t178.length : Int) x23_1 l0_0 l0_1 = some (r1, r2)) ∧ Aside0 (kq ≤ k) ∧ Aside0 (Kd.R (Kd.int .i8) 69 w' w.heap.size (fun k_ => (w.heap.size ≤ k_)) (.slice Ao17 t178.length co17) t178) ∧ Aside0 (Kd.R k104 104 w' w.heap.size (fun k_ => (w.heap.size ≤ k_)) v182 x5_1) ∧ Aside0 (Kd.R (Kd.int .i8) 69 w' w.heap.size (fun k_ => (w.heap.size ≤ k_)) (.slice Ao17 t178.length co17) t178) ∧ Aside0 (Kd.V (Kd.int .i8) 69 w' w.heap.size (fun k_ => ((P0_0_ k_ ∨ P0_1_ k_) ∨ w.heap.size ≤ k_) ∧ some k_ ≠ ((.slice Ao17 t178.length co17) : Value).ownBlock ∧ some k_ ≠ (v182 : Value).ownBlock ∧ some k_ ≠ ((.slice Ao17 t178.length co17) : Value).ownBlock ∧ k_ ≠ gb172 ∧ k_ ≠ gb173) (.slice A0_0 l0_0.length c0_0) l0_0) ∧ Aside0 (Kd.V (Kd.int .i8) 69 w' w.heap.size (fun k_ => ((P0_0_ k_ ∨ P0_1_ k_) ∨ w.heap.size ≤ k_) ∧ some k_ ≠ ((.slice Ao17 t178.length co17) : Value).ownBlock ∧ some k_ ≠ (v182 : Value).ownBlock ∧ some k_ ≠ ((.slice Ao17 t178.length co17) : Value).ownBlock ∧ k_ ≠ gb172 ∧ k_ ≠ gb173) (.slice A0_1 l0_1.length c0_1) l0_1) ∧ Aside0 (w'.heap[gb172]? = some (.cells #[(.slice A0_0 l0_0.length c0_0), (.slice A0_1 l0_1.length c0_1)] 34 (0, 0))) ∧ Aside0 (w'.heap[gb173]? = some (.cells #[(.slice none 0 0)] 55 (0, 0))) ∧ Aside0 (Below w.heap.size w w'))
        case atStart => exact ⟨(y181), (0), (by first | rfl | (simp; done) | (simp [*]; done)), H', ⟨Nat.le_refl _⟩, ⟨by (with_reducible repeat (first | apply Kd.R_alloc | apply Kd.R_drewN | apply Kd.R_drew)); exact Kd.R_mono HO180.out (fun _ hk => hk.1)⟩, ⟨by (with_reducible repeat (first | apply Kd.R_alloc | apply Kd.R_drewN | apply Kd.R_drew)); exact Kd.R_mono HO183.out (fun _ hk => hk.1)⟩, ⟨by (with_reducible repeat (first | apply Kd.R_alloc | apply Kd.R_drewN | apply Kd.R_drew)); exact Kd.R_mono HO180.out (fun _ hk => hk.1)⟩, ⟨by (with_reducible repeat (first | apply Kd.V_alloc | apply Kd.V_drewN | apply Kd.V_drew)); exact Kd.V_mono HO0_0.out (fun _ hk => ⟨hk.1.1.1.1.1, ⟨hk.1.2, ⟨hk.2, ⟨hk.1.2, ⟨hk.1.1.1.1.2, hk.1.1.1.2⟩⟩⟩⟩⟩)⟩, ⟨by (with_reducible repeat (first | apply Kd.V_alloc | apply Kd.V_drewN | apply Kd.V_drew)); exact Kd.V_mono HO0_1.out (fun _ hk => ⟨hk.1.1.1.1.1, ⟨hk.1.2, ⟨hk.2, ⟨hk.1.2, ⟨hk.1.1.1.1.2, hk.1.1.1.2⟩⟩⟩⟩⟩)⟩, ⟨by (with_reducible repeat (first | refine blk_drewN ?_ _ | refine blk_drew ?_ | refine blk_alloc ?_ _)); exact BK172.out⟩, ⟨by (with_reducible repeat (first | refine blk_drewN ?_ _ | refine blk_drew ?_ | refine blk_alloc ?_ _)); exact BK173.out⟩, ⟨by repeat (first | (with_reducible first | exact HB.out | apply below_alloc | apply pw_below_drewN | apply below_drew1 | refine below_set ?_ GE172.out | refine below_set ?_ GE173.out) | exact HB.out)⟩⟩
        case round =>
          clear H'
          try clear p2
          try clear c3
          try clear c5
          try clear c5b0
          try clear c5b1
          try clear c6
          try clear c6b0
          try clear c6b1
          try clear c7
          try clear c9
          try clear hcz10_0
          try clear hcz10_1
          try clear hcz12_0
          try clear hcz12_1
          try clear hfz10_0
          try clear hfz10_1
          try clear hfz12_0
          try clear hfz12_1
          obtain ⟨x5_1, x23_1, rfl, HA, HK1, HO_4, HO_5, HO_21, HO_173000, HO_173001, BK172, BK173, HB⟩ := hrel
          cases gk with
          | zero => exact absurd HA.out (by simp [impl_StreamTree.l0])
          | succ k1 =>
            have H := HA.out
            clear HA
            simp only [impl_StreamTree.l0] at H
            by_cases c20 : x23_1 < (t178.length : Int)
            · rw [if_pos c20] at H
              have c20b0 : decide (x23_1 < (t178.length : Int)) = true := decide_eq_true c20
              clear c20
              by_cases c21 : 0 ≤ x23_1
              · rw [if_pos c21] at H
                have c21b0 : decide (0 ≤ x23_1) = true := decide_eq_true c21
                clear c21
                have c22 : x23_1 < (t178.length : Int) := of_decide_eq_true c20b0
                rw [if_pos c22] at H
                clear c22
                replace H := Option.bind_eq_some_iff.mp H
                obtain ⟨⟨t185, t186, t187, t188, t189⟩, A230, H⟩ := H
                replace H : (if x23_1 < (x5_1.length : Int) then (impl_StreamTree.l0 k1 t178 (x5_1.set (x23_1 : Int).toNat (⟨t185, t186, (⟨t187, t188, t189⟩ : S102)⟩ : S104)) t178 (t178.length : Int) (wrap64 (x23_1 + 1)) l0_0 l0_1) else (none)) = some (r1, r2) := H
                have A23 := Aside0.mk A230
                clear A230
                by_cases c24 : x23_1 < (x5_1.length : Int)
                · rw [if_pos c24] at H
                  have c24b0 : decide (x23_1 < (x5_1.length : Int)) = true := decide_eq_true c24
                  clear c24
                  obtain ⟨y190, hy190⟩ : ∃ y_ : List (S104), y_ = (x5_1.set (x23_1 : Int).toNat (⟨t185, t186, (⟨t187, t188, t189⟩ : S102)⟩ : S104)) := ⟨_, rfl⟩
                  replace H : (impl_StreamTree.l0 k1 t178 y190 t178 (t178.length : Int) (wrap64 (x23_1 + 1)) l0_0 l0_1) = some (r1, r2) := by first | (rw [hy190]; with_reducible exact H) | (have H2_ := (Option.bind_some _ _).symm.trans H; rw [hy190]; with_reducible exact H2_) | (have H2_ := (Option.bind_some _ _).symm.trans H; with_reducible exact H2_) | with_reducible exact H | (rw [hy190]; exact H) | exact H
                  have Ny190 := Aside0.mk hy190
                  clear hy190
                  have H' := Aside0.mk H
                  clear H
                  have p184 : 0 ≤ (x23_1 : Int) := of_decide_eq_true (by first | (with_reducible assumption) | assumption)
                  have q184 : x23_1 < (t178.length : Int) := of_decide_eq_true (by first | (with_reducible assumption) | assumption)
                  obtain ⟨ad184, e184, hx184_0⟩ := Kd.at_int (Kd.R_reads' HO_21.out).2.2 x23_1 p184 q184
                  cases e184
                  replace p184 := eq_true p184
                  replace q184 := eq_true q184
                  go_wp2_with (first | ((with_reducible refine gate_callee (f := 73) rfl ?_); refine goesL_ (some 34) rfl rfl Try.func73 (by kernel_rfl) rfl #[.int .i8 (rd t178 x23_1), .int .i16 (IntKind.i16.wrap (wrap64 (x23_1 + 1)))] rfl (by (try simp only [List.map_toArray, List.map_cons, List.map_nil]); first | done | rfl | (simp only [List.length_drop, List.length_take]; rfl)) ?_; (with_reducible refine (impl_tells.calls (rd t178 x23_1) (IntKind.i16.wrap (wrap64 (x23_1 + 1))) t185 t186 t187 t188 t189 _ A23.out).mono ?_); rintro e w26 ⟨rfl, hb⟩; refine ⟨_, rfl, ?_⟩; have n0_ := Aside0.mk (Kd.R_below (by (with_reducible repeat (first | apply Kd.R_alloc | apply Kd.R_drewN | apply Kd.R_drew)); exact HO_4.out) hb); have n1_ := Aside0.mk (Kd.R_below (by (with_reducible repeat (first | apply Kd.R_alloc | apply Kd.R_drewN | apply Kd.R_drew)); exact HO_5.out) hb); have n2_ := Aside0.mk (Kd.R_below (by (with_reducible repeat (first | apply Kd.R_alloc | apply Kd.R_drewN | apply Kd.R_drew)); exact HO_21.out) hb); have n3_ := Aside0.mk (Kd.V_below (by (with_reducible repeat (first | apply Kd.V_alloc | apply Kd.V_drewN | apply Kd.V_drew)); exact HO_173000.out) hb); have n4_ := Aside0.mk (Kd.V_below (by (with_reducible repeat (first | apply Kd.V_alloc | apply Kd.V_drewN | apply Kd.V_drew)); exact HO_173001.out) hb); have n5_ := Aside0.mk (blk_below (g := gb172) (o := .cells #[.slice A0_0 l0_0.length c0_0, .slice A0_1 l0_1.length c0_1] 34 (0, 0)) (by (with_reducible repeat (first | refine blk_drewN ?_ _ | refine blk_drew ?_ | refine blk_alloc ?_ _)); exact BK172.out) hb); have n6_ := Aside0.mk (blk_below (g := gb173) (o := .cells #[.slice none 0 0] 55 (0, 0)) (by (with_reducible repeat (first | refine blk_drewN ?_ _ | refine blk_drew ?_ | refine blk_alloc ?_ _)); exact BK173.out) hb); have n7_ := Aside0.mk (below_step (by repeat (first | (with_reducible first | exact HB.out | apply below_alloc | apply pw_below_drewN | apply below_drew1 | refine below_set ?_ GE172.out | refine below_set ?_ GE173.out) | exact HB.out)) hb); clear HO_4; clear HO_5; clear HO_21; clear HO_173000; clear HO_173001; clear BK172; clear BK173; clear HB; have HO_4 := n0_; have HO_5 := n1_; have HO_21 := n2_; have HO_173000 := n3_; have HO_173001 := n4_; have BK172 := n5_; have BK173 := n6_; have HB := n7_; clear n0_ n1_ n2_ n3_ n4_ n5_ n6_ n7_; (try clear hb); (try clear hb2); (try clear hk); (try clear hi); have p25 : 0 ≤ (x23_1 : Int) := of_decide_eq_true (by first | (with_reducible assumption) | assumption); have q25 : (x23_1 : Int) < ((x5_1.length : Int) : Int) := of_decide_eq_true (by first | (with_reducible assumption) | assumption); obtain ⟨go25, co25, eo25, gb25, gl25, cl25, HG25⟩ := Kd.R_form HO_5.out (by omega); (first | cases eo25 | (injection eo25 with ea_ en_ ec_; (first | subst ea_ | (injection ea_ with ea_; subst ea_)); subst ec_; clear en_)); have GB25 := Aside0.mk gb25; have GG25 := Aside0.mk HG25; clear gb25 gl25 HG25; obtain ⟨ce25, hcl25, hM25, hcc25, hfr25⟩ := Kd.R_elem HO_5.out z104 (x23_1 : Int) p25 q25; obtain rfl := k104_openM hM25; have hx25_0 : w26.cell? ⟨go25, (x23_1 : Int).toNat * 5, none⟩ = some (.int .i8 ((rd_T104 x5_1 x23_1).f0)) := hcc25 0 _ rfl; have hx25_1 : w26.cell? ⟨go25, (x23_1 : Int).toNat * 5 + 1, none⟩ = some (.int .i8 ((rd_T104 x5_1 x23_1).f1)) := hcc25 1 _ rfl; have hx25_2 : w26.cell? ⟨go25, (x23_1 : Int).toNat * 5 + 2, none⟩ = some (.int .i16 ((rd_T104 x5_1 x23_1).f2.f0)) := hcc25 2 _ rfl; have hx25_3 : w26.cell? ⟨go25, (x23_1 : Int).toNat * 5 + 3, none⟩ = some (.int .i16 ((rd_T104 x5_1 x23_1).f2.f1)) := hcc25 3 _ rfl; have hx25_4 : w26.cell? ⟨go25, (x23_1 : Int).toNat * 5 + 4, none⟩ = some (.int .i16 ((rd_T104 x5_1 x23_1).f2.f2)) := hcc25 4 _ rfl; have hf25_0 : w26.frozen? ⟨go25, (x23_1 : Int).toNat * 5, none⟩ = false := hfr25 0; have hf25_1 : w26.frozen? ⟨go25, (x23_1 : Int).toNat * 5 + 1, none⟩ = false := hfr25 1; have hf25_2 : w26.frozen? ⟨go25, (x23_1 : Int).toNat * 5 + 2, none⟩ = false := hfr25 2; have hf25_3 : w26.frozen? ⟨go25, (x23_1 : Int).toNat * 5 + 3, none⟩ = false := hfr25 3; have hf25_4 : w26.frozen? ⟨go25, (x23_1 : Int).toNat * 5 + 4, none⟩ = false := hfr25 4; clear hcl25 hcc25 hfr25 hM25; replace p25 := eq_true p25; replace q25 := eq_true q25; have HX27 := Aside0.mk (show Kd.R k104 104 w26 w.heap.size (fun k_ => (w.heap.size ≤ k_)) (.slice (some ⟨go25, 0, none⟩) x5_1.length co25) x5_1 from (by (with_reducible repeat (first | apply Kd.R_alloc | apply Kd.R_drewN | apply Kd.R_drew)); exact HO_5.out)); obtain ⟨ce27, hcl27, hM27, hcc27, hfr27⟩ := Kd.R_elem HX27.out z104 (x23_1 : Int) (of_decide_eq_true (by first | (with_reducible assumption) | assumption)) (by have h_ : (x23_1 : Int) < ((x5_1.length : Int) : Int) := of_decide_eq_true (by first | (with_reducible assumption) | assumption); first | exact h_ | (have e_ := (Kd.R_reads' HO_5.out).1; omega) | simpa using h_); obtain rfl := k104_openM hM27; have HP27 := Kd.R_seg HX27.out (x23_1 : Int) (of_decide_eq_true (by first | (with_reducible assumption) | assumption)) (by have h_ : (x23_1 : Int) < ((x5_1.length : Int) : Int) := of_decide_eq_true (by first | (with_reducible assumption) | assumption); first | exact h_ | (have e_ := (Kd.R_reads' HO_5.out).1; omega) | simpa using h_) (seg := [.int .i8 t185, .int .i8 t186, .int .i16 t187, .int .i16 t188, .int .i16 t189]) (j := 0) hcl27 hcc27 (show 5 ≤ 5 from by decide) (x' := (⟨t185, t186, (⟨t187, t188, t189⟩ : S102)⟩ : S104)) (k104_mkM _ _ _ (⟨t185, t186, (⟨t187, t188, t189⟩ : S102)⟩ : S104) ) (fun _ hk => hk); have hx27_0 := hcc27 0 _ rfl; (try simp only [show (k104).sz = 5 from rfl, Nat.mul_one, Nat.add_zero] at hx27_0); have hf27_0 := hfr27 0; (try simp only [show (k104).sz = 5 from rfl, Nat.mul_one, Nat.add_zero] at hf27_0); have hx27_1 := hcc27 1 _ rfl; (try simp only [show (k104).sz = 5 from rfl, Nat.mul_one, Nat.add_zero] at hx27_1); have hf27_1 := hfr27 1; (try simp only [show (k104).sz = 5 from rfl, Nat.mul_one, Nat.add_zero] at hf27_1); have hx27_2 := hcc27 2 _ rfl; (try simp only [show (k104).sz = 5 from rfl, Nat.mul_one, Nat.add_zero] at hx27_2); have hf27_2 := hfr27 2; (try simp only [show (k104).sz = 5 from rfl, Nat.mul_one, Nat.add_zero] at hf27_2); have hx27_3 := hcc27 3 _ rfl; (try simp only [show (k104).sz = 5 from rfl, Nat.mul_one, Nat.add_zero] at hx27_3); have hf27_3 := hfr27 3; (try simp only [show (k104).sz = 5 from rfl, Nat.mul_one, Nat.add_zero] at hf27_3); have hx27_4 := hcc27 4 _ rfl; (try simp only [show (k104).sz = 5 from rfl, Nat.mul_one, Nat.add_zero] at hx27_4); have hf27_4 := hfr27 4; (try simp only [show (k104).sz = 5 from rfl, Nat.mul_one, Nat.add_zero] at hf27_4); clear hcl27 hcc27 hfr27 hM27) | ((with_reducible refine gate_store (t := 104) (p := 35) rfl ?_); refine store_event (t := 104) (p := 35) (v := ?vo_w28) (w1 := (((((w26.setCell ⟨go25, (x23_1 : Int).toNat * 5, none⟩ (.int .i8 t185)).setCell ⟨go25, (x23_1 : Int).toNat * 5 + 1, none⟩ (.int .i8 t186)).setCell ⟨go25, (x23_1 : Int).toNat * 5 + 2, none⟩ (.int .i16 t187)).setCell ⟨go25, (x23_1 : Int).toNat * 5 + 3, none⟩ (.int .i16 t188)).setCell ⟨go25, (x23_1 : Int).toNat * 5 + 4, none⟩ (.int .i16 t189))) ?hg ?ho ?hn ?hr ?_; (case ho => rfl); (case hg => rfl); (case hn => rfl); (case hr => first | (go_simp; done) | (go_simp; rfl)); intro w28 hw; have hg : w26.grownBy w28 (some go25) := (by rw [hw]; exact HP27.2); have hp_ : Kd.R k104 104 w28 w.heap.size (fun k_ => (w.heap.size ≤ k_)) (.slice (some ⟨go25, 0, none⟩) x5_1.length co25) y190 := (by rw [hw, Ny190.out]; exact HP27.1); clear HP27; have n0_ := Aside0.mk (Kd.R_over' (v := (.slice (some ⟨go25, 0, none⟩) x5_1.length co25)) (by (with_reducible repeat (first | apply Kd.R_alloc | apply Kd.R_drewN | apply Kd.R_drew)); exact HO_4.out) (Kd.R_typed HO_5.out) (by decide) hg); have n1_ := Aside0.mk (hp_); have n2_ := Aside0.mk (Kd.R_over' (v := (.slice (some ⟨go25, 0, none⟩) x5_1.length co25)) (by (with_reducible repeat (first | apply Kd.R_alloc | apply Kd.R_drewN | apply Kd.R_drew)); exact HO_21.out) (Kd.R_typed HO_5.out) (by decide) hg); have n3_ := Aside0.mk (Kd.V_afterv (v := (.slice (some ⟨go25, 0, none⟩) x5_1.length co25)) (v1 := (.slice (some ⟨go25, 0, none⟩) x5_1.length co25)) (ok := (fun k_ => ((P0_0_ k_ ∨ P0_1_ k_) ∨ w.heap.size ≤ k_) ∧ some k_ ≠ (.slice (some ad184) t178.length co17 : Value).ownBlock ∧ some k_ ≠ (.slice (some ad184) t178.length co17 : Value).ownBlock ∧ k_ ≠ gb172 ∧ k_ ≠ gb173)) (by (with_reducible repeat (first | apply Kd.V_alloc | apply Kd.V_drewN | apply Kd.V_drew)); exact Kd.V_mono HO_173000.out (fun _ hk => ⟨⟨hk.1, ⟨hk.2.1, ⟨hk.2.2.2.1, ⟨hk.2.2.2.2.1, hk.2.2.2.2.2⟩⟩⟩⟩, hk.2.2.1⟩)) hg (.inl rfl)); have n4_ := Aside0.mk (Kd.V_afterv (v := (.slice (some ⟨go25, 0, none⟩) x5_1.length co25)) (v1 := (.slice (some ⟨go25, 0, none⟩) x5_1.length co25)) (ok := (fun k_ => ((P0_0_ k_ ∨ P0_1_ k_) ∨ w.heap.size ≤ k_) ∧ some k_ ≠ (.slice (some ad184) t178.length co17 : Value).ownBlock ∧ some k_ ≠ (.slice (some ad184) t178.length co17 : Value).ownBlock ∧ k_ ≠ gb172 ∧ k_ ≠ gb173)) (by (with_reducible repeat (first | apply Kd.V_alloc | apply Kd.V_drewN | apply Kd.V_drew)); exact Kd.V_mono HO_173001.out (fun _ hk => ⟨⟨hk.1, ⟨hk.2.1, ⟨hk.2.2.2.1, ⟨hk.2.2.2.2.1, hk.2.2.2.2.2⟩⟩⟩⟩, hk.2.2.1⟩)) hg (.inl rfl)); have n5_ := Aside0.mk (blk_grown (g := gb172) (o := .cells #[.slice A0_0 l0_0.length c0_0, .slice A0_1 l0_1.length c0_1] 34 (0, 0)) (by (with_reducible repeat (first | refine blk_drewN ?_ _ | refine blk_drew ?_ | refine blk_alloc ?_ _)); exact BK172.out) hg (Kd.R_ne HO_5.out BK172.out (by decide))); have n6_ := Aside0.mk (blk_grown (g := gb173) (o := .cells #[.slice none 0 0] 55 (0, 0)) (by (with_reducible repeat (first | refine blk_drewN ?_ _ | refine blk_drew ?_ | refine blk_alloc ?_ _)); exact BK173.out) hg (Kd.R_ne HO_5.out BK173.out (by decide))); have n7_ := Aside0.mk ((by rw [hw]; exact below_set (below_set (below_set (below_set (below_set (HB.out) GB25.out) GB25.out) GB25.out) GB25.out) GB25.out : Below w.heap.size w w28)); clear HO_4; clear HO_5; clear HO_21; clear HO_173000; clear HO_173001; clear BK172; clear BK173; clear HB; have HO_4 := n0_; have HO_5 := n1_; have HO_21 := n2_; have HO_173000 := n3_; have HO_173001 := n4_; have BK172 := n5_; have BK173 := n6_; have HB := n7_; clear n0_ n1_ n2_ n3_ n4_ n5_ n6_ n7_; clear hg hw hp_))
                  go_roundg k1
                  case measure => have := HK1.out; omega
                  case rel => exact ⟨(y190), (wrap64 (x23_1 + 1)), (by first | rfl | (simp; done) | (simp [*]; done)), H', ⟨by have := HK1.out; omega⟩, ⟨by (with_reducible repeat (first | apply Kd.R_alloc | apply Kd.R_drewN | apply Kd.R_drew)); exact HO_4.out⟩, ⟨by (with_reducible repeat (first | apply Kd.R_alloc | apply Kd.R_drewN | apply Kd.R_drew)); exact HO_5.out⟩, ⟨by (with_reducible repeat (first | apply Kd.R_alloc | apply Kd.R_drewN | apply Kd.R_drew)); exact HO_21.out⟩, ⟨by (with_reducible repeat (first | apply Kd.V_alloc | apply Kd.V_drewN | apply Kd.V_drew)); exact Kd.V_mono HO_173000.out (fun _ hk => ⟨hk.1.1, ⟨hk.1.2.1, ⟨hk.2, ⟨hk.1.2.2.1, ⟨hk.1.2.2.2.1, hk.1.2.2.2.2⟩⟩⟩⟩⟩)⟩, ⟨by (with_reducible repeat (first | apply Kd.V_alloc | apply Kd.V_drewN | apply Kd.V_drew)); exact Kd.V_mono HO_173001.out (fun _ hk => ⟨hk.1.1, ⟨hk.1.2.1, ⟨hk.2, ⟨hk.1.2.2.1, ⟨hk.1.2.2.2.1, hk.1.2.2.2.2⟩⟩⟩⟩⟩)⟩, ⟨by (with_reducible repeat (first | refine blk_drewN ?_ _ | refine blk_drew ?_ | refine blk_alloc ?_ _)); exact BK172.out⟩, ⟨by (with_reducible repeat (first | refine blk_drewN ?_ _ | refine blk_drew ?_ | refine blk_alloc ?_ _)); exact BK173.out⟩, ⟨by repeat (first | (with_reducible first | exact HB.out | apply below_alloc | apply pw_below_drewN | apply below_drew1 | refine below_set ?_ GE172.out | refine below_set ?_ GE173.out) | exact HB.out)⟩⟩
                · rw [if_neg c24] at H
                  exact absurd H (by simp)
              · rw [if_neg c21] at H
                exact absurd H (by simp)
            · rw [if_neg c20] at H
              have c20b0 : decide (x23_1 < (t178.length : Int)) = false := decide_eq_false c20
              clear c20
              obtain ⟨ji29, hji29⟩ : ∃ j_ : Int, (wrap64 ((t178.length : Int) - 1)) = j_ := ⟨_, rfl⟩
              replace H : (if 0 ≤ (ji29) then (if (ji29) < (x5_1.length : Int) then (some ((x5_1.set ((ji29) : Int).toNat (⟨(rd_T104 x5_1 (ji29)).f0, (rd_T104 x5_1 (ji29)).f1, (⟨IntKind.i16.wrap ((l0_0.length : Int)), (rd_T104 x5_1 (ji29)).f2.f1, (rd_T104 x5_1 (ji29)).f2.f2⟩ : S102)⟩ : S104)), 0)) else (none)) else (none)) = some (r1, r2) := by first | (rw [hji29] at H; exact H) | (simp only [hji29] at H ⊢; exact H)
              have hji29w : (IntKind.i64.wrap ((t178.length : Int) - 1)) = ji29 := (i64_w _).trans hji29
              by_cases c30 : 0 ≤ (ji29)
              · rw [if_pos c30] at H
                have c30b0 : decide (0 ≤ (ji29)) = true := decide_eq_true c30
                clear c30
                by_cases c31 : (ji29) < (x5_1.length : Int)
                · rw [if_pos c31] at H
                  have c31b0 : decide ((ji29) < (x5_1.length : Int)) = true := decide_eq_true c31
                  clear c31
                  obtain ⟨y191, hy191⟩ : ∃ y_ : List (S104), y_ = (x5_1.set ((ji29) : Int).toNat (⟨(rd_T104 x5_1 (ji29)).f0, (rd_T104 x5_1 (ji29)).f1, (⟨IntKind.i16.wrap ((l0_0.length : Int)), (rd_T104 x5_1 (ji29)).f2.f1, (rd_T104 x5_1 (ji29)).f2.f2⟩ : S102)⟩ : S104)) := ⟨_, rfl⟩
                  replace H : (some (y191, 0)) = some (r1, r2) := by first | (rw [hy191]; with_reducible exact H) | (have H2_ := (Option.bind_some _ _).symm.trans H; rw [hy191]; with_reducible exact H2_) | (have H2_ := (Option.bind_some _ _).symm.trans H; with_reducible exact H2_) | with_reducible exact H | (rw [hy191]; exact H) | exact H
                  have Ny191 := Aside0.mk hy191
                  clear hy191
                  simp only [Option.some.injEq, Prod.mk.injEq] at H
                  obtain ⟨rfl, rfl⟩ := H
                  try go_wp2
                  have n0_ := Aside0.mk (Kd.R_drew HO_4.out)
                  have n1_ := Aside0.mk (Kd.R_drew HO_5.out)
                  have n2_ := Aside0.mk (Kd.R_drew HO_21.out)
                  have n3_ := Aside0.mk (Kd.V_drew HO_173000.out)
                  have n4_ := Aside0.mk (Kd.V_drew HO_173001.out)
                  have n5_ := Aside0.mk (blk_drew BK172.out)
                  have n6_ := Aside0.mk (blk_drew BK173.out)
                  have n7_ := Aside0.mk (below_drew1 HB.out)
                  clear HO_4
                  clear HO_5
                  clear HO_21
                  clear HO_173000
                  clear HO_173001
                  clear BK172
                  clear BK173
                  clear HB
                  have HO_4 := n0_
                  have HO_5 := n1_
                  have HO_21 := n2_
                  have HO_173000 := n3_
                  have HO_173001 := n4_
                  have BK172 := n5_
                  have BK173 := n6_
                  have HB := n7_
                  clear n0_ n1_ n2_ n3_ n4_ n5_ n6_ n7_
                  have p32 : 0 ≤ ((ji29) : Int) := of_decide_eq_true (by first | (with_reducible assumption) | assumption)
                  have q32 : ((ji29) : Int) < ((x5_1.length : Int) : Int) := of_decide_eq_true (by first | (with_reducible assumption) | assumption)
                  obtain ⟨go32, co32, eo32, gb32, gl32, cl32, HG32⟩ := Kd.R_form HO_5.out (by omega)
                  (first | cases eo32 | (injection eo32 with ea_ en_ ec_; (first | subst ea_ | (injection ea_ with ea_; subst ea_)); subst ec_; clear en_))
                  have GB32 := Aside0.mk gb32
                  have GG32 := Aside0.mk HG32
                  clear gb32 gl32 HG32
                  obtain ⟨ce32, hcl32, hM32, hcc32, hfr32⟩ := Kd.R_elem HO_5.out z104 ((ji29) : Int) p32 q32
                  obtain rfl := k104_openM hM32
                  have hx32_0 : World.cell? _ ⟨go32, ((ji29) : Int).toNat * 5, none⟩ = some (.int .i8 ((rd_T104 x5_1 (ji29)).f0)) := hcc32 0 _ rfl
                  have hx32_1 : World.cell? _ ⟨go32, ((ji29) : Int).toNat * 5 + 1, none⟩ = some (.int .i8 ((rd_T104 x5_1 (ji29)).f1)) := hcc32 1 _ rfl
                  have hx32_2 : World.cell? _ ⟨go32, ((ji29) : Int).toNat * 5 + 2, none⟩ = some (.int .i16 ((rd_T104 x5_1 (ji29)).f2.f0)) := hcc32 2 _ rfl
                  have hx32_3 : World.cell? _ ⟨go32, ((ji29) : Int).toNat * 5 + 3, none⟩ = some (.int .i16 ((rd_T104 x5_1 (ji29)).f2.f1)) := hcc32 3 _ rfl
                  have hx32_4 : World.cell? _ ⟨go32, ((ji29) : Int).toNat * 5 + 4, none⟩ = some (.int .i16 ((rd_T104 x5_1 (ji29)).f2.f2)) := hcc32 4 _ rfl
                  have hf32_0 : World.frozen? _ ⟨go32, ((ji29) : Int).toNat * 5, none⟩ = false := hfr32 0
                  have hf32_1 : World.frozen? _ ⟨go32, ((ji29) : Int).toNat * 5 + 1, none⟩ = false := hfr32 1
                  have hf32_2 : World.frozen? _ ⟨go32, ((ji29) : Int).toNat * 5 + 2, none⟩ = false := hfr32 2
                  have hf32_3 : World.frozen? _ ⟨go32, ((ji29) : Int).toNat * 5 + 3, none⟩ = false := hfr32 3
                  have hf32_4 : World.frozen? _ ⟨go32, ((ji29) : Int).toNat * 5 + 4, none⟩ = false := hfr32 4
                  clear hcl32 hcc32 hfr32 hM32
                  replace p32 := eq_true p32
                  replace q32 := eq_true q32
                  obtain ⟨ce34, hcl34, hM34, hcc34, hfr34⟩ := Kd.R_elem HO_5.out z104 ((ji29) : Int) (of_decide_eq_true (by first | (with_reducible assumption) | assumption)) (by have h_ : ((ji29) : Int) < ((x5_1.length : Int) : Int) := of_decide_eq_true (by first | (with_reducible assumption) | assumption); first | exact h_ | (have e_ := (Kd.R_reads' HO_5.out).1; omega) | simpa using h_)
                  obtain rfl := k104_openM hM34
                  have HP34 := (Kd.R_seg HO_5.out ((ji29) : Int) (of_decide_eq_true (by first | (with_reducible assumption) | assumption)) (by have h_ : ((ji29) : Int) < ((x5_1.length : Int) : Int) := of_decide_eq_true (by first | (with_reducible assumption) | assumption); first | exact h_ | (have e_ := (Kd.R_reads' HO_5.out).1; omega) | simpa using h_) (seg := [.int .i16 (IntKind.i16.wrap ((l0_0.length : Int)))]) (j := 2) hcl34 hcc34 (show 3 ≤ 5 from by decide) (x' := (⟨(rd_T104 x5_1 (ji29)).f0, (rd_T104 x5_1 (ji29)).f1, (⟨IntKind.i16.wrap ((l0_0.length : Int)), (rd_T104 x5_1 (ji29)).f2.f1, (rd_T104 x5_1 (ji29)).f2.f2⟩ : S102)⟩ : S104)) (k104_mkM _ _ _ (⟨(rd_T104 x5_1 (ji29)).f0, (rd_T104 x5_1 (ji29)).f1, (⟨IntKind.i16.wrap ((l0_0.length : Int)), (rd_T104 x5_1 (ji29)).f2.f1, (rd_T104 x5_1 (ji29)).f2.f2⟩ : S102)⟩ : S104) ) (fun _ hk => hk)).1
                  rw [← Ny191.out] at HP34
                  have HQ34 := Aside0.mk HP34
                  clear hcl34 hcc34 hfr34 hM34 HP34
                  refine start_ (n := 12) (S := fun w' => w'.cell? ⟨gb172, 0, none⟩ = some (.slice A0_0 l0_0.length c0_0) ∧ w'.cell? ⟨gb172, 1, none⟩ = some (.slice A0_1 l0_1.length c0_1)) (ds := [11]) #[false, false, false, false, false, false, false, false, false, false, false, false] (by kernel_rfl) rfl rfl ⟨(blk_cell BK172.out 0).trans rfl, (blk_cell BK172.out 1).trans rfl⟩ (fun hHeld => ?_); refine with_tabW impl_StreamTree.tab10 impl_StreamTree.bits10 (fun HT_ HW_ => ?_)
                  generalize wr.drew = w33 at HO_4 HO_5 HO_21 HO_173000 HO_173001 BK172 BK173 HB GG32 HQ34 hf32_0 hf32_1 hf32_2 hf32_3 hf32_4 hx32_0 hx32_1 hx32_2 hx32_3 hx32_4 hHeld ⊢
                  refine pure_ (i := 0) (N := some 37) (v := ?_) (a' := ?_) #[true, false, false, false, false, false, false, false, false, false, false, false] rfl rfl (any_of HT_.out (by kernel_rfl)) (fun _ _ _ h => h) (Or.inl ⟨by rfl, ?_⟩) ?_ ?_
                  rotate_left
                  · intro w'
                    go_simp
                    with_reducible rfl
                  rotate_left
                  · simp only [Act.put, List.setIfInBounds_toArray, List.set_cons_zero, List.set_cons_succ, i64_w, i32_w]
                    rfl
                  refine pure_ (i := 1) (N := some 38) (v := ?_) (a' := ?_) #[true, true, false, false, false, false, false, false, false, false, false, false] rfl rfl (any_of HT_.out (by kernel_rfl)) (fun _ _ _ h => h) (Or.inl ⟨by rfl, ?_⟩) ?_ ?_
                  rotate_left
                  · intro w'
                    go_simp
                    with_reducible rfl
                  rotate_left
                  · simp only [Act.put, List.setIfInBounds_toArray, List.set_cons_zero, List.set_cons_succ, i64_w, i32_w]
                    rfl
                  refine pure_ (i := 2) (N := some 39) (v := ?_) (a' := ?_) #[true, true, true, false, false, false, false, false, false, false, false, false] rfl rfl (any_of HT_.out (by kernel_rfl)) (fun _ _ _ h => h) (Or.inl ⟨by rfl, ?_⟩) ?_ ?_
                  rotate_left
                  · intro w'
                    go_simp
                    with_reducible rfl
                  rotate_left
                  · simp only [Act.put, List.setIfInBounds_toArray, List.set_cons_zero, List.set_cons_succ, i64_w, i32_w]
                    rfl
                  refine pure_ (i := 3) (N := some 40) (v := ?_) (a' := ?_) #[true, true, true, true, false, false, false, false, false, false, false, false] rfl rfl (any_of HT_.out (by kernel_rfl)) (fun _ _ _ h => h) (Or.inl ⟨by rfl, ?_⟩) ?_ ?_
                  rotate_left
                  · intro w'
                    go_simp
                    with_reducible rfl
                  rotate_left
                  · simp only [Act.put, List.setIfInBounds_toArray, List.set_cons_zero, List.set_cons_succ, i64_w, i32_w]
                    rfl
                  refine pure_ (i := 4) (N := some 41) (v := ?_) (a' := ?_) #[true, true, true, true, true, false, false, false, false, false, false, false] rfl rfl (any_of HT_.out (by kernel_rfl)) (fun _ _ _ h => h) (Or.inl ⟨by rfl, ?_⟩) ?_ ?_
                  rotate_left
                  · intro w'
                    go_simp
                    with_reducible rfl
                  rotate_left
                  · simp only [Act.put, List.setIfInBounds_toArray, List.set_cons_zero, List.set_cons_succ, i64_w, i32_w]
                    rfl
                  refine pure_ (i := 8) (N := some 45) (v := ?_) (a' := ?_) #[true, true, true, true, true, false, false, false, true, false, false, false] rfl rfl (any_of HT_.out (by kernel_rfl)) (fun _ _ _ h => h) (Or.inl ⟨by rfl, ?_⟩) ?_ ?_
                  rotate_left
                  · intro w'
                    go_simp
                    with_reducible rfl
                  rotate_left
                  · simp only [Act.put, List.setIfInBounds_toArray, List.set_cons_zero, List.set_cons_succ, i64_w, i32_w]
                    rfl
                  refine pure_ (i := 9) (N := some 46) (v := ?_) (a' := ?_) #[true, true, true, true, true, false, false, false, true, true, false, false] rfl rfl (any_of HT_.out (by kernel_rfl)) (fun _ _ _ h => h) (Or.inl ⟨by rfl, ?_⟩) ?_ ?_
                  rotate_left
                  · intro w'
                    go_simp
                    with_reducible rfl
                  rotate_left
                  · simp only [Act.put, List.setIfInBounds_toArray, List.set_cons_zero, List.set_cons_succ, i64_w, i32_w]
                    rfl
                  refine take_ (i := 5) (N := some 42) (v := ?_) (a' := ?_) #[true, true, true, true, true, true, false, false, true, true, false, false] rfl rfl (take_ofW HT_.out HW_.out (by kernel_rfl)) (fun _ _ _ h => h) (Or.inl ⟨by rfl, ?_⟩) hHeld ?_ ?_
                  rotate_left
                  · rintro w' ⟨s0, s1⟩
                    go_simp
                    with_reducible rfl
                  rotate_left
                  · simp only [Act.put, List.setIfInBounds_toArray, List.set_cons_zero, List.set_cons_succ, i64_w, i32_w]
                    rfl
                  refine pure_ (i := 6) (N := some 43) (v := ?_) (a' := ?_) #[true, true, true, true, true, true, true, false, true, true, false, false] rfl rfl (any_of HT_.out (by kernel_rfl)) (fun _ _ _ h => h) (Or.inl ⟨by rfl, ?_⟩) ?_ ?_
                  rotate_left
                  · intro w'
                    go_simp
                    with_reducible rfl
                  rotate_left
                  · simp only [Act.put, List.setIfInBounds_toArray, List.set_cons_zero, List.set_cons_succ, i64_w, i32_w]
                    rfl
                  refine pure_ (i := 7) (N := some 44) (v := ?_) (a' := ?_) #[true, true, true, true, true, true, true, true, true, true, false, false] rfl rfl (any_of HT_.out (by kernel_rfl)) (fun _ _ _ h => h) (Or.inl ⟨by rfl, ?_⟩) ?_ ?_
                  rotate_left
                  · intro w'
                    go_simp
                    with_reducible rfl
                  rotate_left
                  · simp only [Act.put, List.setIfInBounds_toArray, List.set_cons_zero, List.set_cons_succ, i64_w, i32_w]
                    rfl
                  refine pure_ (i := 10) (N := some 47) (v := ?_) (a' := ?_) #[true, true, true, true, true, true, true, true, true, true, true, false] rfl rfl (any_of HT_.out (by kernel_rfl)) (fun _ _ _ h => h) (Or.inl ⟨by rfl, ?_⟩) ?_ ?_
                  rotate_left
                  · intro w'
                    go_simp
                    with_reducible rfl
                  rotate_left
                  · simp only [Act.put, List.setIfInBounds_toArray, List.set_cons_zero, List.set_cons_succ, i64_w, i32_w]
                    rfl
                  refine last_ (i := 11) (N := none) #[true, true, true, true, true, true, true, true, true, true, true, true] rfl rfl (one_of HT_.out (by kernel_rfl)) (by decide) (fun K hK => ?_)
                  refine skip_ (w1 := ?_) (by rfl) rfl ?_ ?_
                  rotate_left
                  · go_simp
                    rfl
                  refine hK.out _ _ ?_
                  clear hK K
                  refine done_ (done_of HT_.out (by kernel_rfl)) ?_
                  have n0_ : Aside0 (Kd.R (Kd.int .i8) 69 (w33.setCell ⟨go32, ((ji29) : Int).toNat * 5 + 2, none⟩ (.int .i16 (IntKind.i16.wrap ((l0_0.length : Int))))) w.heap.size (fun k_ => (w.heap.size ≤ k_)) (.slice Ao17 t178.length co17) t178) := ⟨by (with_reducible repeat (first | apply Kd.R_alloc | apply Kd.R_drewN | apply Kd.R_drew)); exact Kd.R_mono (Kd.R_far (p := ⟨go32, ((ji29) : Int).toNat * 5 + 2, none⟩) (Kd.R_types HO_4.out GG32.out (by decide)) (fun _ hk => hk.2) (.int .i16 (IntKind.i16.wrap ((l0_0.length : Int))))) (fun _ hk => hk.1)⟩
                  have n1_ : Aside0 (Kd.R k104 104 (w33.setCell ⟨go32, ((ji29) : Int).toNat * 5 + 2, none⟩ (.int .i16 (IntKind.i16.wrap ((l0_0.length : Int))))) w.heap.size (fun k_ => (w.heap.size ≤ k_)) (.slice (some ⟨go32, 0, none⟩) x5_1.length co32) y191) := ⟨by (with_reducible repeat (first | apply Kd.R_alloc | apply Kd.R_drewN | apply Kd.R_drew)); exact HQ34.out⟩
                  have n2_ : Aside0 (Kd.R (Kd.int .i8) 69 (w33.setCell ⟨go32, ((ji29) : Int).toNat * 5 + 2, none⟩ (.int .i16 (IntKind.i16.wrap ((l0_0.length : Int))))) w.heap.size (fun k_ => (w.heap.size ≤ k_)) (.slice Ao17 t178.length co17) t178) := ⟨by (with_reducible repeat (first | apply Kd.R_alloc | apply Kd.R_drewN | apply Kd.R_drew)); exact Kd.R_mono (Kd.R_far (p := ⟨go32, ((ji29) : Int).toNat * 5 + 2, none⟩) (Kd.R_types HO_21.out GG32.out (by decide)) (fun _ hk => hk.2) (.int .i16 (IntKind.i16.wrap ((l0_0.length : Int))))) (fun _ hk => hk.1)⟩
                  have n3_ : Aside0 (Kd.V (Kd.int .i8) 69 (w33.setCell ⟨go32, ((ji29) : Int).toNat * 5 + 2, none⟩ (.int .i16 (IntKind.i16.wrap ((l0_0.length : Int))))) w.heap.size (fun k_ => ((P0_0_ k_ ∨ P0_1_ k_) ∨ w.heap.size ≤ k_) ∧ some k_ ≠ (.slice Ao17 t178.length co17 : Value).ownBlock ∧ some k_ ≠ (.slice (some ⟨go32, 0, none⟩) x5_1.length co32 : Value).ownBlock ∧ some k_ ≠ (.slice Ao17 t178.length co17 : Value).ownBlock ∧ k_ ≠ gb172 ∧ k_ ≠ gb173) (.slice A0_0 l0_0.length c0_0) l0_0) := ⟨by (with_reducible repeat (first | apply Kd.V_alloc | apply Kd.V_drewN | apply Kd.V_drew)); exact Kd.V_mono (Kd.V_far (p := ⟨go32, ((ji29) : Int).toNat * 5 + 2, none⟩) (Kd.V_mono HO_173000.out (fun k_ hk => (⟨hk, fun e_ => hk.2.2.1 (by rw [e_]; rfl)⟩ : _ ∧ k_ ≠ go32))) (fun _ hk => hk.2) (.int .i16 (IntKind.i16.wrap ((l0_0.length : Int))))) (fun _ hk => ⟨hk.1.1, ⟨hk.1.2.1, ⟨hk.1.2.2.1, ⟨hk.1.2.2.2.1, ⟨hk.1.2.2.2.2.1, hk.1.2.2.2.2.2⟩⟩⟩⟩⟩)⟩
                  have n4_ : Aside0 (Kd.V (Kd.int .i8) 69 (w33.setCell ⟨go32, ((ji29) : Int).toNat * 5 + 2, none⟩ (.int .i16 (IntKind.i16.wrap ((l0_0.length : Int))))) w.heap.size (fun k_ => ((P0_0_ k_ ∨ P0_1_ k_) ∨ w.heap.size ≤ k_) ∧ some k_ ≠ (.slice Ao17 t178.length co17 : Value).ownBlock ∧ some k_ ≠ (.slice (some ⟨go32, 0, none⟩) x5_1.length co32 : Value).ownBlock ∧ some k_ ≠ (.slice Ao17 t178.length co17 : Value).ownBlock ∧ k_ ≠ gb172 ∧ k_ ≠ gb173) (.slice A0_1 l0_1.length c0_1) l0_1) := ⟨by (with_reducible repeat (first | apply Kd.V_alloc | apply Kd.V_drewN | apply Kd.V_drew)); exact Kd.V_mono (Kd.V_far (p := ⟨go32, ((ji29) : Int).toNat * 5 + 2, none⟩) (Kd.V_mono HO_173001.out (fun k_ hk => (⟨hk, fun e_ => hk.2.2.1 (by rw [e_]; rfl)⟩ : _ ∧ k_ ≠ go32))) (fun _ hk => hk.2) (.int .i16 (IntKind.i16.wrap ((l0_0.length : Int))))) (fun _ hk => ⟨hk.1.1, ⟨hk.1.2.1, ⟨hk.1.2.2.1, ⟨hk.1.2.2.2.1, ⟨hk.1.2.2.2.2.1, hk.1.2.2.2.2.2⟩⟩⟩⟩⟩)⟩
                  have n5_ : Aside0 ((w33.setCell ⟨go32, ((ji29) : Int).toNat * 5 + 2, none⟩ (.int .i16 (IntKind.i16.wrap ((l0_0.length : Int))))).heap[gb172]? = some (.cells #[.slice A0_0 l0_0.length c0_0, .slice A0_1 l0_1.length c0_1] 34 (0, 0))) := ⟨by (with_reducible repeat (first | refine blk_drewN ?_ _ | refine blk_drew ?_ | refine blk_alloc ?_ _)); refine blk_far ?_ (by have h_ := Kd.R_ne HO_5.out BK172.out (by decide); intro e_; exact h_ (by rw [e_]; rfl)) _; (with_reducible repeat (first | refine blk_drewN ?_ _ | refine blk_drew ?_ | refine blk_alloc ?_ _)); exact BK172.out⟩
                  have n6_ : Aside0 ((w33.setCell ⟨go32, ((ji29) : Int).toNat * 5 + 2, none⟩ (.int .i16 (IntKind.i16.wrap ((l0_0.length : Int))))).heap[gb173]? = some (.cells #[.slice none 0 0] 55 (0, 0))) := ⟨by (with_reducible repeat (first | refine blk_drewN ?_ _ | refine blk_drew ?_ | refine blk_alloc ?_ _)); refine blk_far ?_ (by have h_ := Kd.R_ne HO_5.out BK173.out (by decide); intro e_; exact h_ (by rw [e_]; rfl)) _; (with_reducible repeat (first | refine blk_drewN ?_ _ | refine blk_drew ?_ | refine blk_alloc ?_ _)); exact BK173.out⟩
                  have n7_ : Aside0 (Below w.heap.size w (w33.setCell ⟨go32, ((ji29) : Int).toNat * 5 + 2, none⟩ (.int .i16 (IntKind.i16.wrap ((l0_0.length : Int)))))) := ⟨by repeat (first | (with_reducible first | exact HB.out | apply below_alloc | apply pw_below_drewN | apply below_drew1 | refine below_set ?_ GB32.out | refine below_set ?_ GE172.out | refine below_set ?_ GE173.out) | exact HB.out)⟩
                  (try clear HO_4)
                  (try clear HO_5)
                  (try clear HO_21)
                  (try clear HO_173000)
                  (try clear HO_173001)
                  (try clear BK172)
                  (try clear BK173)
                  (try clear HB)
                  generalize (w33.setCell ⟨go32, ((ji29) : Int).toNat * 5 + 2, none⟩ (.int .i16 (IntKind.i16.wrap ((l0_0.length : Int))))) = w35 at n0_ n1_ n2_ n3_ n4_ n5_ n6_ n7_ ⊢
                  have HO_4 := n0_
                  have HO_5 := n1_
                  have HO_21 := n2_
                  have HO_173000 := n3_
                  have HO_173001 := n4_
                  have BK172 := n5_
                  have BK173 := n6_
                  have HB := n7_
                  clear n0_ n1_ n2_ n3_ n4_ n5_ n6_ n7_
                  have hnb36 := NB173_172.out
                  have hnc36 := NB172_173.out
                  have hcz37_0 : w35.cell? ⟨gb173, 0, none⟩ = some (.slice none 0 0) := (blk_cell BK173.out 0).trans rfl
                  have hfz37_0 := blk_frozen BK173.out 0
                  try go_wp2
                  refine bodyPost_ret (results_ct rfl _ _ gb173 55 #[.slice (some ⟨go32, 0, none⟩) x5_1.length co32] (0, 0) _ rfl (by (with_reducible repeat (first | refine blk_drewN ?_ _ | refine blk_drew ?_ | refine blk_alloc ?_ _)); refine blk_put (cs := #[.slice none 0 0]) ?_ 0 _ rfl; (with_reducible repeat (first | refine blk_drewN ?_ _ | refine blk_drew ?_ | refine blk_alloc ?_ _)); exact BK173.out) Try.underlying55 rfl (by kernel_rfl)) rfl ?_
                  exact ⟨_, by first | rfl | (simp [errW_none, errW_some] <;> rfl) | (simp only [← hji29]; first | rfl | (simp [errW_none, errW_some] <;> rfl)) | (simp [*, errW_none, errW_some] <;> rfl), by (with_reducible repeat (first | apply Kd.R_alloc | apply Kd.R_drewN | apply Kd.R_drew)); exact Kd.R_mono (Kd.R_far (p := ⟨gb173, 0, none⟩) (Kd.R_types HO_5.out BK173.out (by decide)) (fun _ hk => hk.2) (.slice (some ⟨go32, 0, none⟩) x5_1.length co32)) (fun _ hk => hk.1), by repeat (first | (with_reducible first | exact HB.out | apply below_alloc | apply pw_below_drewN | apply below_drew1 | refine below_set ?_ GE172.out | refine below_set ?_ GE173.out) | exact HB.out)⟩
                · rw [if_neg c31] at H
                  exact absurd H (by simp)
              · rw [if_neg c30] at H
                exact absurd H (by simp)
      · rw [if_neg c6] at H
        exact absurd H (by simp)
    · rw [if_neg c5] at H
      exact absurd H (by simp)
  · replace c3 := Bool.eq_false_iff.mpr c3
    subst c3
    have H1 : (some (([] : List (S104)), 1)) = some (r1, r2) := by rw [if_neg (show ¬ (false = true) by decide)] at H; exact H
    clear H
    have H := H1
    clear H1
    simp only [Option.some.injEq, Prod.mk.injEq] at H
    obtain ⟨rfl, rfl⟩ := H
    go_enter Try.func36, Try.ntmps36
    go_wp2_with (first | ((with_reducible refine gate_dst (N := 1) rfl ?_); refine box_event ?hg (N := 1) ?hd (cs := #[.slice A0_0 l0_0.length c0_0, .slice A0_1 l0_1.length c0_1]) (t := 34) ?hr ?_; (case hd => rfl); (case hg => rfl); (case hr => first | (go_simp; done) | (go_simp; rfl)); intro gb172 hg w38 hbox hb; have n0_ := Aside0.mk (Kd.V_below (Kd.V_elderB (by (with_reducible repeat (first | apply Kd.V_alloc | apply Kd.V_drewN | apply Kd.V_drew)); exact HO0_0.out) gb172 (Nat.le_of_eq hg.symm)) hb); have n1_ := Aside0.mk (Kd.V_below (Kd.V_elderB (by (with_reducible repeat (first | apply Kd.V_alloc | apply Kd.V_drewN | apply Kd.V_drew)); exact HO0_1.out) gb172 (Nat.le_of_eq hg.symm)) hb); have n2_ := Aside0.mk (below_step (by repeat (first | (with_reducible first | exact HB.out | apply below_alloc | apply pw_below_drewN | apply below_drew1) | exact HB.out)) hb); have n3_ := Aside0.mk (hbox); have n4_ := Aside0.mk ((by rw [hg]; exact (below_size (by repeat (first | (with_reducible first | exact HB.out | apply below_alloc | apply pw_below_drewN | apply below_drew1) | exact HB.out))) : w.heap.size ≤ gb172)); have n5_ := Aside0.mk ((by rw [hg]; exact (below_size (by repeat (first | (with_reducible first | exact HB.out | apply below_alloc | apply pw_below_drewN | apply below_drew1) | exact HB.out))) : w.heap.size ≤ gb172)); clear HO0_0; clear HO0_1; clear HB; have HO0_0 := n0_; have HO0_1 := n1_; have HB := n2_; have BK172 := n3_; have GW172 := n4_; have GE172 := n5_; clear n0_ n1_ n2_ n3_ n4_ n5_; clear hb hbox hg) | ((with_reducible refine gate_dst (N := 2) rfl ?_); refine box_event ?hg (N := 2) ?hd (cs := #[.slice none 0 0]) (t := 55) ?hr ?_; (case hd => rfl); (case hg => rfl); (case hr => first | (go_simp; done) | (go_simp; rfl)); intro gb173 hg w39 hbox hb; have n0_ := Aside0.mk (Kd.V_below (Kd.V_elderB (by (with_reducible repeat (first | apply Kd.V_alloc | apply Kd.V_drewN | apply Kd.V_drew)); exact HO0_0.out) gb173 (Nat.le_of_eq hg.symm)) hb); have n1_ := Aside0.mk (Kd.V_below (Kd.V_elderB (by (with_reducible repeat (first | apply Kd.V_alloc | apply Kd.V_drewN | apply Kd.V_drew)); exact HO0_1.out) gb173 (Nat.le_of_eq hg.symm)) hb); have n2_ := Aside0.mk (blk_below (g := gb172) (o := .cells #[.slice A0_0 l0_0.length c0_0, .slice A0_1 l0_1.length c0_1] 34 (0, 0)) (by (with_reducible repeat (first | refine blk_drewN ?_ _ | refine blk_drew ?_ | refine blk_alloc ?_ _)); exact BK172.out) hb); have n3_ := Aside0.mk (below_step (by repeat (first | (with_reducible first | exact HB.out | apply below_alloc | apply pw_below_drewN | apply below_drew1 | refine below_set ?_ GE172.out) | exact HB.out)) hb); have n4_ := Aside0.mk (hbox); have n5_ := Aside0.mk ((by rw [hg]; exact (below_size (by repeat (first | (with_reducible first | exact HB.out | apply below_alloc | apply pw_below_drewN | apply below_drew1 | refine below_set ?_ GE172.out) | exact HB.out))) : w.heap.size ≤ gb173)); have n6_ := Aside0.mk ((by rw [hg]; exact (below_size (by repeat (first | (with_reducible first | exact HB.out | apply below_alloc | apply pw_below_drewN | apply below_drew1 | refine below_set ?_ GE172.out) | exact HB.out))) : w.heap.size ≤ gb173)); have n7_ := Aside0.mk ((by rw [hg]; exact Nat.ne_of_lt (blk_lt (g := gb172) (o := .cells #[.slice A0_0 l0_0.length c0_0, .slice A0_1 l0_1.length c0_1] 34 (0, 0)) (by (with_reducible repeat (first | refine blk_drewN ?_ _ | refine blk_drew ?_ | refine blk_alloc ?_ _)); exact BK172.out)) : gb172 ≠ gb173)); have n8_ := Aside0.mk ((by rw [hg]; exact Nat.ne_of_gt (blk_lt (g := gb172) (o := .cells #[.slice A0_0 l0_0.length c0_0, .slice A0_1 l0_1.length c0_1] 34 (0, 0)) (by (with_reducible repeat (first | refine blk_drewN ?_ _ | refine blk_drew ?_ | refine blk_alloc ?_ _)); exact BK172.out)) : gb173 ≠ gb172)); clear HO0_0; clear HO0_1; clear BK172; clear HB; have HO0_0 := n0_; have HO0_1 := n1_; have BK172 := n2_; have HB := n3_; have BK173 := n4_; have GW173 := n5_; have GE173 := n6_; have NB172_173 := n7_; have NB173_172 := n8_; clear n0_ n1_ n2_ n3_ n4_ n5_ n6_ n7_ n8_; clear hb hbox hg; have hnb40 := NB172_173.out; have hnc40 := NB173_172.out; have hcz41_0 : w39.cell? ⟨gb172, 0, none⟩ = some (.slice A0_0 l0_0.length c0_0) := (blk_cell BK172.out 0).trans rfl; have hcz41_1 : w39.cell? ⟨gb172, 1, none⟩ = some (.slice A0_1 l0_1.length c0_1) := (blk_cell BK172.out 1).trans rfl; have hfz41_0 := blk_frozen BK172.out 0; have hfz41_1 := blk_frozen BK172.out 1) | ((with_reducible refine gate_callee (f := 52) rfl ?_); refine goesL_ (some 9) rfl rfl Try.func52 (by kernel_rfl) rfl #[.agg #[.slice A0_0 l0_0.length c0_0, .slice A0_1 l0_1.length c0_1]] rfl (by (try simp only [List.map_toArray, List.map_cons, List.map_nil]); first | done | rfl | (simp only [List.length_drop, List.length_take]; rfl)) ?_; (with_reducible refine (impl_ValidStream.calls k _ _ l0_0 _ _ l0_1 false _ ?side1 ?side2 ?side3 ?side4 A2.out).mono ?_); (case side1 => repeat (first | exact (Kd.V_reads' HO0_0.out).2.2 | (with_reducible refine Kd.C_alloc ?_ _) | (with_reducible refine Kd.C_drewN ?_ _) | (with_reducible refine Kd.C_drew ?_))); (case side2 => exact (Kd.V_reads' HO0_0.out).2.1); (case side3 => repeat (first | exact (Kd.V_reads' HO0_1.out).2.2 | (with_reducible refine Kd.C_alloc ?_ _) | (with_reducible refine Kd.C_drewN ?_ _) | (with_reducible refine Kd.C_drew ?_))); (case side4 => exact (Kd.V_reads' HO0_1.out).2.1); rintro e w42 ⟨rfl, hb⟩; refine ⟨_, rfl, ?_⟩; have n0_ := Aside0.mk (Kd.V_below (by (with_reducible repeat (first | apply Kd.V_alloc | apply Kd.V_drewN | apply Kd.V_drew)); exact HO0_0.out) hb); have n1_ := Aside0.mk (Kd.V_below (by (with_reducible repeat (first | apply Kd.V_alloc | apply Kd.V_drewN | apply Kd.V_drew)); exact HO0_1.out) hb); have n2_ := Aside0.mk (blk_below (g := gb172) (o := .cells #[.slice A0_0 l0_0.length c0_0, .slice A0_1 l0_1.length c0_1] 34 (0, 0)) (by (with_reducible repeat (first | refine blk_drewN ?_ _ | refine blk_drew ?_ | refine blk_alloc ?_ _)); exact BK172.out) hb); have n3_ := Aside0.mk (blk_below (g := gb173) (o := .cells #[.slice none 0 0] 55 (0, 0)) (by (with_reducible repeat (first | refine blk_drewN ?_ _ | refine blk_drew ?_ | refine blk_alloc ?_ _)); exact BK173.out) hb); have n4_ := Aside0.mk (below_step (by repeat (first | (with_reducible first | exact HB.out | apply below_alloc | apply pw_below_drewN | apply below_drew1 | refine below_set ?_ GE172.out | refine below_set ?_ GE173.out) | exact HB.out)) hb); clear HO0_0; clear HO0_1; clear BK172; clear BK173; clear HB; have HO0_0 := n0_; have HO0_1 := n1_; have BK172 := n2_; have BK173 := n3_; have HB := n4_; clear n0_ n1_ n2_ n3_ n4_; (try clear hb); (try clear hb2); (try clear hk); (try clear hi); have hcz43_0 : w42.cell? ⟨gb173, 0, none⟩ = some (.slice none 0 0) := (blk_cell BK173.out 0).trans rfl; have hfz43_0 := blk_frozen BK173.out 0))
    refine bodyPost_ret (results_ct rfl _ _ gb173 55 #[.slice none 0 0] (0, 0) _ rfl (by (with_reducible repeat (first | refine blk_drewN ?_ _ | refine blk_drew ?_ | refine blk_alloc ?_ _)); refine blk_put (cs := #[.slice none 0 0]) ?_ 0 _ rfl; (with_reducible repeat (first | refine blk_drewN ?_ _ | refine blk_drew ?_ | refine blk_alloc ?_ _)); exact BK173.out) Try.underlying55 rfl (by kernel_rfl)) rfl ?_
    exact ⟨_, by first | rfl | (simp [errW_none, errW_some] <;> rfl) | (simp [*, errW_none, errW_some] <;> rfl), by first | exact Kd.R_nil _ _ _ _ _ | exact Kd.N_nil _ _ _ _ _ | exact Kd.V_nil _ _ _ _ _ | exact Kd.Q_nil _ _ _ _ _ | exact Kd.S_nil _ _ _ _ _, by repeat (first | (with_reducible first | exact HB.out | apply below_alloc | apply pw_below_drewN | apply below_drew1 | refine below_set ?_ GE172.out | refine below_set ?_ GE173.out) | exact HB.out)⟩

end Go.Proofs.Ytfenifdigjcmiaa.MFnExactStreamTree
