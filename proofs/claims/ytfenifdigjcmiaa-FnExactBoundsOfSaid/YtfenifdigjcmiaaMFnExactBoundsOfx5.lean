/- Functions of the program as Lean functions, and the proof that the code comes to what they say. Written by a program of this session (myprint.py). -/
import Derived.Test.YtfenifdigjcmiaaMFnExactBoundsOfx0
import Derived.Test.YtfenifdigjcmiaaMFnExactBoundsOfx2
import Derived.Test.YtfenifdigjcmiaaMFnExactBoundsOfx3
import Derived.Test.YtfenifdigjcmiaaMFnExactBoundsOfx4
namespace Go.Proofs.Ytfenifdigjcmiaa.MFnExactBoundsOf
open Go.RowKit Go.Proofs.Ytfenifdigjcmiaa.MOpen Go.Proofs.YtfenifdigjcmiaaW.PrintWords Go.Proofs.YtfenifdigjcmiaaW.PrintLast Go.Proofs.YtfenifdigjcmiaaW.PrintMore
attribute [local go_sem] max2_int min2_int max_two min_two max_three min_three max_four min_four   -- for this text's walks alone
set_option linter.unusedVariables false
set_option linter.unusedSimpArgs false

/-! ### laws_eqInt8S: function 16 -/
def laws_eqInt8S.l0 : Nat → List Int → List Int → Int → Option (Bool)
  | 0, _, _, _ => none
  | k + 1, x0, x1, x5 => if x5 < (x0.length : Int) then (if 0 ≤ x5 then (if x5 < (x1.length : Int) then (if (rd x0 x5) = (rd x1 x5) then (laws_eqInt8S.l0 k x0 x1 (wrap64 (x5 + 1))) else (some false)) else (none)) else (none)) else (some true)
def laws_eqInt8S.f (k : Nat) (l0 : List Int) (l1 : List Int) : Option (Bool) := if (l0.length : Int) = (l1.length : Int) then (laws_eqInt8S.l0 k l0 l1 0) else (some false)
theorem laws_eqInt8S.mono_l : ∀ k, (∀ y0 y1 y2, LeO (laws_eqInt8S.l0 k y0 y1 y2) (laws_eqInt8S.l0 (k + 1) y0 y1 y2))
  | 0 => fun _ _ _ r h => by simp [laws_eqInt8S.l0] at h
  | k + 1 => by
    have ih0 := laws_eqInt8S.mono_l k
    · intro y0 y1 y2
      unfold laws_eqInt8S.l0
      repeat' first
      | (with_reducible exact ih0 _ _ _)
      | (with_reducible exact LeO.refl _)
      | (with_reducible exact LeO.none _)
      | (with_reducible refine LeO.ite ?_ ?_)
      | (with_reducible refine LeO.bind ?_ (fun _ => ?_))
      | exact ih0 _ _ _
      | exact LeO.none _
      | refine LeO.ite ?_ ?_
      | refine LeO.bind ?_ (fun _ => ?_)
theorem laws_eqInt8S.mono : ∀ a0 a1 k, LeO (laws_eqInt8S.f k a0 a1) (laws_eqInt8S.f (k + 1) a0 a1) := by
  intro a0 a1 k
  have ih0 := laws_eqInt8S.mono_l k
  unfold laws_eqInt8S.f
  repeat' first
      | (with_reducible exact ih0 _ _ _)
      | (with_reducible exact LeO.refl _)
      | (with_reducible exact LeO.none _)
      | (with_reducible refine LeO.ite ?_ ?_)
      | (with_reducible refine LeO.bind ?_ (fun _ => ?_))
      | exact ih0 _ _ _
      | exact LeO.none _
      | refine LeO.ite ?_ ?_
      | refine LeO.bind ?_ (fun _ => ?_)
set_option maxHeartbeats 8000000 in
set_option maxRecDepth 100000 in
theorem laws_eqInt8S.calls (k : Nat) (A0 : Option Addr) (c0 : Nat) (l0 : List Int) (A1 : Option Addr) (c1 : Nat) (l1 : List Int) (r : Bool) (w : World) (hr0 : Kd.C (Kd.int .i8) w A0 l0.length l0) (hc0 : l0.length ≤ c0) (hr1 : Kd.C (Kd.int .i8) w A1 l1.length l1) (hc1 : l1.length ≤ c1) (h : laws_eqInt8S.f k l0 l1 = some r) :
    Calls Try.prog 16 #[.slice A0 l0.length c0, .slice A1 l1.length c1] w fun e w' => e = .returned (.bool r) ∧ Drawn0 w w' := by
  have HR0 := Aside0.mk hr0
  have HC0 := Aside0.mk hc0
  clear hr0 hc0
  have HR1 := Aside0.mk hr1
  have HC1 := Aside0.mk hc1
  clear hr1 hc1
  have H : (if (l0.length : Int) = (l1.length : Int) then (laws_eqInt8S.l0 k l0 l1 0) else (some false)) = some r := h
  clear h
  by_cases c3 : (l0.length : Int) = (l1.length : Int)
  · rw [if_pos c3] at H
    have c3b0 : ((l0.length : Int) == (l1.length : Int)) = true := beq_iff_eq.mpr c3
    have c3b1 : ((l0.length : Int) != (l1.length : Int)) = false := bne_eq_false_iff_eq.mpr c3
    have c3b2 : (l0.length == l1.length) = true := by first | simpa using c3 | (simp at c3 ⊢; omega)
    clear c3
    have H' := Aside0.mk H
    clear H
    go_enter Try.func16, Try.ntmps16
    go_wp2
    repeat (go_quiet (fail); try go_wp2)
    go_loopg [5] k (fun kq v5 w' => ∃ (x5_1 : Int), v5 = .int .i64 x5_1 ∧ Aside0 (laws_eqInt8S.l0 kq l0 l1 x5_1 = some r) ∧ Aside0 (kq ≤ k) ∧ Drawn0 w w')
    case atStart => exact ⟨(0), (by first | rfl | (simp; done) | (simp [*]; done)), H', ⟨Nat.le_refl _⟩, by repeat (first | exact Drawn0.refl _ | apply Drawn0.step)⟩
    case round =>
      clear H'
      try clear c1
      try clear p2
      try clear c3
      try clear c3b0
      try clear c3b1
      try clear c3b2
      obtain ⟨x5_1, rfl, HA, HK1, ⟨m1, rfl⟩⟩ := hrel
      cases gk with
      | zero => exact absurd HA.out (by simp [laws_eqInt8S.l0])
      | succ k1 =>
        have H := HA.out
        clear HA
        simp only [laws_eqInt8S.l0] at H
        by_cases c4 : x5_1 < (l0.length : Int)
        · rw [if_pos c4] at H
          have c4b0 : decide (x5_1 < (l0.length : Int)) = true := decide_eq_true c4
          clear c4
          by_cases c5 : 0 ≤ x5_1
          · rw [if_pos c5] at H
            have c5b0 : decide (0 ≤ x5_1) = true := decide_eq_true c5
            clear c5
            by_cases c6 : x5_1 < (l1.length : Int)
            · rw [if_pos c6] at H
              have c6b0 : decide (x5_1 < (l1.length : Int)) = true := decide_eq_true c6
              clear c6
              by_cases c7 : (rd l0 x5_1) = (rd l1 x5_1)
              · rw [if_pos c7] at H
                have c7b0 : ((rd l0 x5_1) == (rd l1 x5_1)) = true := beq_iff_eq.mpr c7
                have c7b1 : ((rd l0 x5_1) != (rd l1 x5_1)) = false := bne_eq_false_iff_eq.mpr c7
                clear c7
                have H' := Aside0.mk H
                clear H
                have p169 : 0 ≤ (x5_1 : Int) := of_decide_eq_true (by first | (with_reducible assumption) | assumption)
                have q169 : x5_1 < (l0.length : Int) := of_decide_eq_true (by first | (with_reducible assumption) | assumption)
                obtain ⟨ad169, e169, hx169_0⟩ := Kd.at_int HR0.out x5_1 p169 q169
                cases e169
                replace p169 := eq_true p169
                replace q169 := eq_true q169
                have p170 : 0 ≤ (x5_1 : Int) := of_decide_eq_true (by first | (with_reducible assumption) | assumption)
                have q170 : x5_1 < (l1.length : Int) := of_decide_eq_true (by first | (with_reducible assumption) | assumption)
                obtain ⟨ad170, e170, hx170_0⟩ := Kd.at_int HR1.out x5_1 p170 q170
                cases e170
                replace p170 := eq_true p170
                replace q170 := eq_true q170
                go_wp2
                repeat (go_quiet (fail); try go_wp2)
                go_roundg k1
                case measure => have := HK1.out; omega
                case rel => exact ⟨(wrap64 (x5_1 + 1)), (by first | rfl | (simp; done) | (simp [*]; done)), H', ⟨by have := HK1.out; omega⟩, by repeat (first | exact Drawn0.refl _ | apply Drawn0.step)⟩
              · rw [if_neg c7] at H
                have c7b0 : ((rd l0 x5_1) == (rd l1 x5_1)) = false := beq_eq_false_iff_ne.mpr c7
                have c7b1 : ((rd l0 x5_1) != (rd l1 x5_1)) = true := bne_iff_ne.mpr c7
                obtain rfl := Option.some.inj H
                have p169 : 0 ≤ (x5_1 : Int) := of_decide_eq_true (by first | (with_reducible assumption) | assumption)
                have q169 : x5_1 < (l0.length : Int) := of_decide_eq_true (by first | (with_reducible assumption) | assumption)
                obtain ⟨ad169, e169, hx169_0⟩ := Kd.at_int HR0.out x5_1 p169 q169
                cases e169
                replace p169 := eq_true p169
                replace q169 := eq_true q169
                have p170 : 0 ≤ (x5_1 : Int) := of_decide_eq_true (by first | (with_reducible assumption) | assumption)
                have q170 : x5_1 < (l1.length : Int) := of_decide_eq_true (by first | (with_reducible assumption) | assumption)
                obtain ⟨ad170, e170, hx170_0⟩ := Kd.at_int HR1.out x5_1 p170 q170
                cases e170
                replace p170 := eq_true p170
                replace q170 := eq_true q170
                go_wp2
                repeat (go_quiet (fail); try go_wp2)
                go_ret
                exact ⟨by first | rfl | (simp; done) | (simp [*]; done), by repeat (first | exact Drawn0.refl _ | apply Drawn0.step)⟩
            · rw [if_neg c6] at H
              exact absurd H (by simp)
          · rw [if_neg c5] at H
            exact absurd H (by simp)
        · rw [if_neg c4] at H
          have c4b0 : decide (x5_1 < (l0.length : Int)) = false := decide_eq_false c4
          clear c4
          obtain rfl := Option.some.inj H
          go_wp2
          repeat (go_quiet (fail); try go_wp2)
          go_ret
          exact ⟨by first | rfl | (simp; done) | (simp [*]; done), by repeat (first | exact Drawn0.refl _ | apply Drawn0.step)⟩
  · rw [if_neg c3] at H
    have c3b0 : ((l0.length : Int) == (l1.length : Int)) = false := beq_eq_false_iff_ne.mpr c3
    have c3b1 : ((l0.length : Int) != (l1.length : Int)) = true := bne_iff_ne.mpr c3
    have c3b2 : (l0.length == l1.length) = false := by first | simpa using c3 | (simp at c3 ⊢; omega)
    obtain rfl := Option.some.inj H
    go_enter Try.func16, Try.ntmps16
    go_wp2
    repeat (go_quiet (fail); try go_wp2)
    go_ret
    exact ⟨by first | rfl | (simp; done) | (simp [*]; done), by repeat (first | exact Drawn0.refl _ | apply Drawn0.step)⟩

/-! ### laws_FnExactBoundsOf: function 3 -/
def laws_FnExactBoundsOf.j0 : Nat → List Int → List Int → Bool → Option (Bool)
  | 0, _, _, _ => none
  | k + 1, x0, x6, x42 => if x42 = true then (some false) else ((laws_toInt8S.f k x0).bind fun t193 => ((laws_eqInt8S.f k x6 t193).bind fun t196 => (if t196 = true then (some true) else (some false))))
def laws_FnExactBoundsOf.f (k : Nat) (l0 : List Int) : Option (Bool) := if (l0.length : Int) > 1048576 then (some true) else ((laws_toInt8S.f k l0).bind fun t171 => ((spec_BoundsOf.f k t171).bind fun bt174 => ((laws_toInt8S.f k l0).bind fun t181 => ((impl_BoundsOf.f k t181).bind fun bt184 => ((laws_eqRatio.f bt184.1 bt184.2.1 bt174.1 bt174.2.1).bind fun t191 => (if t191 = true then ((laws_eqRatio.f bt184.2.2.1 bt184.2.2.2.1 bt174.2.2.1 bt174.2.2.2.1).bind fun t192 => (if t192 = true then (laws_FnExactBoundsOf.j0 k l0 t181 (bt184.2.2.2.2 != bt174.2.2.2.2)) else (laws_FnExactBoundsOf.j0 k l0 t181 true))) else (laws_FnExactBoundsOf.j0 k l0 t181 true)))))))
theorem laws_FnExactBoundsOf.mono_l : ∀ k, (∀ y0 y1 y2, LeO (laws_FnExactBoundsOf.j0 k y0 y1 y2) (laws_FnExactBoundsOf.j0 (k + 1) y0 y1 y2))
  | 0 => fun _ _ _ r h => by simp [laws_FnExactBoundsOf.j0] at h
  | k + 1 => by
    have ih0 := laws_FnExactBoundsOf.mono_l k
    · intro y0 y1 y2
      unfold laws_FnExactBoundsOf.j0
      repeat' first
      | (with_reducible exact ih0 _ _ _)
      | (with_reducible exact impl_BoundsOf.mono _ _)
      | (with_reducible exact laws_eqInt8S.mono _ _ _)
      | (with_reducible exact laws_toInt8S.mono _ _)
      | (with_reducible exact spec_BoundsOf.mono _ _)
      | (with_reducible exact LeO.refl _)
      | (with_reducible exact LeO.none _)
      | (with_reducible refine LeO.ite ?_ ?_)
      | (with_reducible refine LeO.bind ?_ (fun _ => ?_))
      | exact ih0 _ _ _
      | exact impl_BoundsOf.mono _ _
      | exact laws_eqInt8S.mono _ _ _
      | exact laws_toInt8S.mono _ _
      | exact spec_BoundsOf.mono _ _
      | exact LeO.none _
      | refine LeO.ite ?_ ?_
      | refine LeO.bind ?_ (fun _ => ?_)
theorem laws_FnExactBoundsOf.mono : ∀ a0 k, LeO (laws_FnExactBoundsOf.f k a0) (laws_FnExactBoundsOf.f (k + 1) a0) := by
  intro a0 k
  have ih0 := laws_FnExactBoundsOf.mono_l k
  unfold laws_FnExactBoundsOf.f
  repeat' first
      | (with_reducible exact ih0 _ _ _)
      | (with_reducible exact impl_BoundsOf.mono _ _)
      | (with_reducible exact laws_eqInt8S.mono _ _ _)
      | (with_reducible exact laws_toInt8S.mono _ _)
      | (with_reducible exact spec_BoundsOf.mono _ _)
      | (with_reducible exact LeO.refl _)
      | (with_reducible exact LeO.none _)
      | (with_reducible refine LeO.ite ?_ ?_)
      | (with_reducible refine LeO.bind ?_ (fun _ => ?_))
      | exact ih0 _ _ _
      | exact impl_BoundsOf.mono _ _
      | exact laws_eqInt8S.mono _ _ _
      | exact laws_toInt8S.mono _ _
      | exact spec_BoundsOf.mono _ _
      | exact LeO.none _
      | refine LeO.ite ?_ ?_
      | refine LeO.bind ?_ (fun _ => ?_)
set_option maxHeartbeats 8000000 in
set_option maxRecDepth 100000 in
theorem laws_FnExactBoundsOf.calls (k : Nat) (A0 : Option Addr) (c0 : Nat) (l0 : List Int) (r : Bool) (w : World) (hr0 : Kd.C (Kd.int .i8) w A0 l0.length l0) (hc0 : l0.length ≤ c0) (h : laws_FnExactBoundsOf.f k l0 = some r) :
    Calls Try.prog 3 #[.slice A0 l0.length c0] w fun e w' => e = .returned (.bool r) ∧ Below w.heap.size w w' := by
  have hu24 := Try.underlying24
  have HR0 := Aside0.mk hr0
  have HC0 := Aside0.mk hc0
  clear hr0 hc0
  have HB := Aside0.mk (Below.refl w.heap.size w)
  have H : (if (l0.length : Int) > 1048576 then (some true) else ((laws_toInt8S.f k l0).bind fun t171 => ((spec_BoundsOf.f k t171).bind fun bt174 => ((laws_toInt8S.f k l0).bind fun t181 => ((impl_BoundsOf.f k t181).bind fun bt184 => ((laws_eqRatio.f bt184.1 bt184.2.1 bt174.1 bt174.2.1).bind fun t191 => (if t191 = true then ((laws_eqRatio.f bt184.2.2.1 bt184.2.2.2.1 bt174.2.2.1 bt174.2.2.2.1).bind fun t192 => (if t192 = true then (laws_FnExactBoundsOf.j0 k l0 t181 (bt184.2.2.2.2 != bt174.2.2.2.2)) else (laws_FnExactBoundsOf.j0 k l0 t181 true))) else (laws_FnExactBoundsOf.j0 k l0 t181 true)))))))) = some r := h
  clear h
  by_cases c2 : (l0.length : Int) > 1048576
  · rw [if_pos c2] at H
    have c2b0 : decide (1048576 < (l0.length : Int)) = true := decide_eq_true c2
    have c2b1 : decide (1048576 < l0.length) = true := decide_eq_true (by omega)
    clear c2
    obtain rfl := Option.some.inj H
    go_enter Try.func3, Try.ntmps3
    go_wp2
    go_ret
    exact ⟨by first | rfl | (simp [errW_none, errW_some] <;> rfl) | (simp [*, errW_none, errW_some] <;> rfl), by repeat (first | (with_reducible first | exact HB.out | apply below_alloc | apply pw_below_drewN | apply below_drew1) | exact HB.out)⟩
  · rw [if_neg c2] at H
    have c2b0 : decide (1048576 < (l0.length : Int)) = false := decide_eq_false c2
    have c2b1 : decide (1048576 < l0.length) = false := decide_eq_false (by omega)
    clear c2
    replace H := Option.bind_eq_some_iff.mp H
    obtain ⟨t171, A30, H⟩ := H
    replace H : ((spec_BoundsOf.f k t171).bind fun bt174 => ((laws_toInt8S.f k l0).bind fun t181 => ((impl_BoundsOf.f k t181).bind fun bt184 => ((laws_eqRatio.f bt184.1 bt184.2.1 bt174.1 bt174.2.1).bind fun t191 => (if t191 = true then ((laws_eqRatio.f bt184.2.2.1 bt184.2.2.2.1 bt174.2.2.1 bt174.2.2.2.1).bind fun t192 => (if t192 = true then (laws_FnExactBoundsOf.j0 k l0 t181 (bt184.2.2.2.2 != bt174.2.2.2.2)) else (laws_FnExactBoundsOf.j0 k l0 t181 true))) else (laws_FnExactBoundsOf.j0 k l0 t181 true)))))) = some r := H
    have A3 := Aside0.mk A30
    clear A30
    replace H := Option.bind_eq_some_iff.mp H
    obtain ⟨⟨t174, t175, t176, t177, t178⟩, A40, H⟩ := H
    replace H : ((laws_toInt8S.f k l0).bind fun t181 => ((impl_BoundsOf.f k t181).bind fun bt184 => ((laws_eqRatio.f bt184.1 bt184.2.1 t174 t175).bind fun t191 => (if t191 = true then ((laws_eqRatio.f bt184.2.2.1 bt184.2.2.2.1 t176 t177).bind fun t192 => (if t192 = true then (laws_FnExactBoundsOf.j0 k l0 t181 (bt184.2.2.2.2 != t178)) else (laws_FnExactBoundsOf.j0 k l0 t181 true))) else (laws_FnExactBoundsOf.j0 k l0 t181 true))))) = some r := H
    have A4 := Aside0.mk A40
    clear A40
    replace H := Option.bind_eq_some_iff.mp H
    obtain ⟨t181, A50, H⟩ := H
    replace H : ((impl_BoundsOf.f k t181).bind fun bt184 => ((laws_eqRatio.f bt184.1 bt184.2.1 t174 t175).bind fun t191 => (if t191 = true then ((laws_eqRatio.f bt184.2.2.1 bt184.2.2.2.1 t176 t177).bind fun t192 => (if t192 = true then (laws_FnExactBoundsOf.j0 k l0 t181 (bt184.2.2.2.2 != t178)) else (laws_FnExactBoundsOf.j0 k l0 t181 true))) else (laws_FnExactBoundsOf.j0 k l0 t181 true)))) = some r := H
    have A5 := Aside0.mk A50
    clear A50
    replace H := Option.bind_eq_some_iff.mp H
    obtain ⟨⟨t184, t185, t186, t187, t188⟩, A60, H⟩ := H
    replace H : ((laws_eqRatio.f t184 t185 t174 t175).bind fun t191 => (if t191 = true then ((laws_eqRatio.f t186 t187 t176 t177).bind fun t192 => (if t192 = true then (laws_FnExactBoundsOf.j0 k l0 t181 (t188 != t178)) else (laws_FnExactBoundsOf.j0 k l0 t181 true))) else (laws_FnExactBoundsOf.j0 k l0 t181 true))) = some r := H
    have A6 := Aside0.mk A60
    clear A60
    have HC7 := Aside0.mk H
    clear H
    go_enter Try.func3, Try.ntmps3
    go_upto_region 6 with (first | ((with_reducible refine gate_callee (f := 13) rfl ?_); refine goesL_ (some 15) rfl rfl Try.func13 (by kernel_rfl) rfl #[.slice A0 l0.length c0] rfl (by (try simp only [List.map_toArray, List.map_cons, List.map_nil]); first | done | rfl | (simp only [List.length_drop, List.length_take]; rfl)) ?_; (with_reducible refine (laws_toInt8S.calls k _ _ l0 t171 _ ?side1 ?side2 A3.out).mono ?_); (case side1 => repeat (first | exact HR0.out | (with_reducible refine Kd.C_alloc ?_ _) | (with_reducible refine Kd.C_drewN ?_ _) | (with_reducible refine Kd.C_drew ?_))); (case side2 => exact HC0.out); rintro e w8 ⟨v172, rfl, ho0, hb⟩; refine ⟨_, rfl, ?_⟩; have n0_ := Aside0.mk (Kd.R_lower ho0 (below_size (by repeat (first | (with_reducible first | exact HB.out | apply below_alloc | apply pw_below_drewN | apply below_drew1) | exact HB.out)))); have n1_ := Aside0.mk (below_step (by repeat (first | (with_reducible first | exact HB.out | apply below_alloc | apply pw_below_drewN | apply below_drew1) | exact HB.out)) hb); clear HB; have HO173 := n0_; have HB := n1_; clear n0_ n1_; (try clear hb); (try clear hb2); (try clear hk); (try clear hi); (try clear ho0); obtain ⟨Ao9, co9, eo9⟩ := Kd.R_slice HO173.out; subst eo9) | ((with_reducible refine gate_callee (f := 12) rfl ?_); refine goesL_ (some 16) rfl rfl Try.func12 (by kernel_rfl) rfl #[.slice Ao9 t171.length co9] rfl (by (try simp only [List.map_toArray, List.map_cons, List.map_nil]); first | done | rfl | (simp only [List.length_drop, List.length_take]; rfl)) ?_; (with_reducible refine (spec_BoundsOf.calls k _ _ t171 t174 t175 t176 t177 t178 _ ?side1 ?side2 A4.out).mono ?_); (case side1 => repeat (first | exact (Kd.R_reads' HO173.out).2.2 | (with_reducible refine Kd.C_alloc ?_ _) | (with_reducible refine Kd.C_drewN ?_ _) | (with_reducible refine Kd.C_drew ?_))); (case side2 => exact (Kd.R_reads' HO173.out).2.1); rintro e w10 ⟨rfl, hb⟩; refine ⟨_, rfl, ?_⟩; have n0_ := Aside0.mk (Kd.R_below (by (with_reducible repeat (first | apply Kd.R_alloc | apply Kd.R_drewN | apply Kd.R_drew)); exact HO173.out) hb); have n1_ := Aside0.mk (below_step (by repeat (first | (with_reducible first | exact HB.out | apply below_alloc | apply pw_below_drewN | apply below_drew1) | exact HB.out)) hb); clear HO173; clear HB; have HO173 := n0_; have HB := n1_; clear n0_ n1_; (try clear hb); (try clear hb2); (try clear hk); (try clear hi)) | ((with_reducible refine gate_dst (N := 3) rfl ?_); refine box_event ?hg (N := 3) ?hd (cs := #[.int .i64 0, .int .i64 0]) (t := 24) ?hr ?_; (case hd => rfl); (case hg => rfl); (case hr => first | (go_simp; done) | (go_simp; rfl)); intro gb179 hg w11 hbox hb; have n0_ := Aside0.mk (Kd.R_below (by (with_reducible repeat (first | apply Kd.R_alloc | apply Kd.R_drewN | apply Kd.R_drew)); exact HO173.out) hb); have n1_ := Aside0.mk (below_step (by repeat (first | (with_reducible first | exact HB.out | apply below_alloc | apply pw_below_drewN | apply below_drew1) | exact HB.out)) hb); have n2_ := Aside0.mk (hbox); have n3_ := Aside0.mk ((by rw [hg]; exact (below_size (by repeat (first | (with_reducible first | exact HB.out | apply below_alloc | apply pw_below_drewN | apply below_drew1) | exact HB.out))) : w.heap.size ≤ gb179)); have n4_ := Aside0.mk ((by rw [hg]; exact (below_size (by repeat (first | (with_reducible first | exact HB.out | apply below_alloc | apply pw_below_drewN | apply below_drew1) | exact HB.out))) : w.heap.size ≤ gb179)); clear HO173; clear HB; have HO173 := n0_; have HB := n1_; have BK179 := n2_; have GW179 := n3_; have GE179 := n4_; clear n0_ n1_ n2_ n3_ n4_; clear hb hbox hg) | ((with_reducible refine gate_dst (N := 4) rfl ?_); refine box_event ?hg (N := 4) ?hd (cs := #[.int .i64 0, .int .i64 0]) (t := 24) ?hr ?_; (case hd => rfl); (case hg => rfl); (case hr => first | (go_simp; done) | (go_simp; rfl)); intro gb180 hg w12 hbox hb; have n0_ := Aside0.mk (Kd.R_below (by (with_reducible repeat (first | apply Kd.R_alloc | apply Kd.R_drewN | apply Kd.R_drew)); exact HO173.out) hb); have n1_ := Aside0.mk (blk_below (g := gb179) (o := .cells #[.int .i64 0, .int .i64 0] 24 (0, 0)) (by (with_reducible repeat (first | refine blk_drewN ?_ _ | refine blk_drew ?_ | refine blk_alloc ?_ _)); exact BK179.out) hb); have n2_ := Aside0.mk (below_step (by repeat (first | (with_reducible first | exact HB.out | apply below_alloc | apply pw_below_drewN | apply below_drew1 | refine below_set ?_ GE179.out) | exact HB.out)) hb); have n3_ := Aside0.mk (hbox); have n4_ := Aside0.mk ((by rw [hg]; exact (below_size (by repeat (first | (with_reducible first | exact HB.out | apply below_alloc | apply pw_below_drewN | apply below_drew1 | refine below_set ?_ GE179.out) | exact HB.out))) : w.heap.size ≤ gb180)); have n5_ := Aside0.mk ((by rw [hg]; exact (below_size (by repeat (first | (with_reducible first | exact HB.out | apply below_alloc | apply pw_below_drewN | apply below_drew1 | refine below_set ?_ GE179.out) | exact HB.out))) : w.heap.size ≤ gb180)); have n6_ := Aside0.mk ((by rw [hg]; exact Nat.ne_of_lt (blk_lt (g := gb179) (o := .cells #[.int .i64 0, .int .i64 0] 24 (0, 0)) (by (with_reducible repeat (first | refine blk_drewN ?_ _ | refine blk_drew ?_ | refine blk_alloc ?_ _)); exact BK179.out)) : gb179 ≠ gb180)); have n7_ := Aside0.mk ((by rw [hg]; exact Nat.ne_of_gt (blk_lt (g := gb179) (o := .cells #[.int .i64 0, .int .i64 0] 24 (0, 0)) (by (with_reducible repeat (first | refine blk_drewN ?_ _ | refine blk_drew ?_ | refine blk_alloc ?_ _)); exact BK179.out)) : gb180 ≠ gb179)); clear HO173; clear BK179; clear HB; have HO173 := n0_; have BK179 := n1_; have HB := n2_; have BK180 := n3_; have GW180 := n4_; have GE180 := n5_; have NB179_180 := n6_; have NB180_179 := n7_; clear n0_ n1_ n2_ n3_ n4_ n5_ n6_ n7_; clear hb hbox hg; have hnb13 := NB179_180.out; have hnc13 := NB180_179.out; have hcz14_0 : w12.cell? ⟨gb179, 0, none⟩ = some (.int .i64 0) := (blk_cell BK179.out 0).trans rfl; have hcz14_1 : w12.cell? ⟨gb179, 1, none⟩ = some (.int .i64 0) := (blk_cell BK179.out 1).trans rfl; have hfz14_0 := blk_frozen BK179.out 0; have hfz14_1 := blk_frozen BK179.out 1; have hcz15_0 : w12.cell? ⟨gb180, 0, none⟩ = some (.int .i64 0) := (blk_cell BK180.out 0).trans rfl; have hcz15_1 : w12.cell? ⟨gb180, 1, none⟩ = some (.int .i64 0) := (blk_cell BK180.out 1).trans rfl; have hfz15_0 := blk_frozen BK180.out 0; have hfz15_1 := blk_frozen BK180.out 1) | ((with_reducible refine gate_callee (f := 13) rfl ?_); refine goesL_ (some 21) rfl rfl Try.func13 (by kernel_rfl) rfl #[.slice A0 l0.length c0] rfl (by (try simp only [List.map_toArray, List.map_cons, List.map_nil]); first | done | rfl | (simp only [List.length_drop, List.length_take]; rfl)) ?_; (with_reducible refine (laws_toInt8S.calls k _ _ l0 t181 _ ?side1 ?side2 A5.out).mono ?_); (case side1 => exact Kd.C_below HR0.out (by repeat (first | (with_reducible first | exact HB.out | apply below_alloc | apply pw_below_drewN | apply below_drew1 | refine below_set ?_ GE179.out | refine below_set ?_ GE180.out) | exact HB.out))); (case side2 => exact HC0.out); rintro e w16 ⟨v182, rfl, ho0, hb⟩; refine ⟨_, rfl, ?_⟩; have n0_ := Aside0.mk (Kd.R_elder' (by (with_reducible repeat (first | apply Kd.R_alloc | apply Kd.R_drewN | apply Kd.R_drew)); exact (Kd.R_mono (Kd.R_mono (Kd.R_far (p := ⟨gb180, 1, none⟩) (Kd.R_far (p := ⟨gb180, 0, none⟩) (Kd.R_far (p := ⟨gb179, 1, none⟩) (Kd.R_far (p := ⟨gb179, 0, none⟩) (Kd.R_types (Kd.R_types HO173.out BK179.out (by decide)) BK180.out (by decide)) (fun _ hk => hk.1.2) (.int .i64 t174)) (fun _ hk => hk.1.2) (.int .i64 t175)) (fun _ hk => hk.2) (.int .i64 t176)) (fun _ hk => hk.2) (.int .i64 t177)) (fun _ h_ => h_.1)) (fun _ h_ => h_.1))) (Kd.R_base ho0) hb); have n1_ := Aside0.mk (Kd.R_lower (Kd.R_new' ho0 (Kd.R_lt (by (with_reducible repeat (first | apply Kd.R_alloc | apply Kd.R_drewN | apply Kd.R_drew)); exact (Kd.R_mono (Kd.R_mono (Kd.R_far (p := ⟨gb180, 1, none⟩) (Kd.R_far (p := ⟨gb180, 0, none⟩) (Kd.R_far (p := ⟨gb179, 1, none⟩) (Kd.R_far (p := ⟨gb179, 0, none⟩) (Kd.R_types (Kd.R_types HO173.out BK179.out (by decide)) BK180.out (by decide)) (fun _ hk => hk.1.2) (.int .i64 t174)) (fun _ hk => hk.1.2) (.int .i64 t175)) (fun _ hk => hk.2) (.int .i64 t176)) (fun _ hk => hk.2) (.int .i64 t177)) (fun _ h_ => h_.1)) (fun _ h_ => h_.1))))) (below_size (by repeat (first | (with_reducible first | exact HB.out | apply below_alloc | apply pw_below_drewN | apply below_drew1 | refine below_set ?_ GE179.out | refine below_set ?_ GE180.out) | exact HB.out)))); have n2_ := Aside0.mk (blk_below (g := gb179) (o := .cells #[.int .i64 t174, .int .i64 t175] 24 (0, 0)) (by (with_reducible repeat (first | refine blk_drewN ?_ _ | refine blk_drew ?_ | refine blk_alloc ?_ _)); refine blk_far ?_ NB179_180.out _; (with_reducible repeat (first | refine blk_drewN ?_ _ | refine blk_drew ?_ | refine blk_alloc ?_ _)); refine blk_far ?_ NB179_180.out _; (with_reducible repeat (first | refine blk_drewN ?_ _ | refine blk_drew ?_ | refine blk_alloc ?_ _)); refine blk_put (cs := #[.int .i64 t174, .int .i64 0]) ?_ 1 _ rfl; (with_reducible repeat (first | refine blk_drewN ?_ _ | refine blk_drew ?_ | refine blk_alloc ?_ _)); refine blk_put (cs := #[.int .i64 0, .int .i64 0]) ?_ 0 _ rfl; (with_reducible repeat (first | refine blk_drewN ?_ _ | refine blk_drew ?_ | refine blk_alloc ?_ _)); exact BK179.out) hb); have n3_ := Aside0.mk (blk_below (g := gb180) (o := .cells #[.int .i64 t176, .int .i64 t177] 24 (0, 0)) (by (with_reducible repeat (first | refine blk_drewN ?_ _ | refine blk_drew ?_ | refine blk_alloc ?_ _)); refine blk_put (cs := #[.int .i64 t176, .int .i64 0]) ?_ 1 _ rfl; (with_reducible repeat (first | refine blk_drewN ?_ _ | refine blk_drew ?_ | refine blk_alloc ?_ _)); refine blk_put (cs := #[.int .i64 0, .int .i64 0]) ?_ 0 _ rfl; (with_reducible repeat (first | refine blk_drewN ?_ _ | refine blk_drew ?_ | refine blk_alloc ?_ _)); refine blk_far ?_ NB180_179.out _; (with_reducible repeat (first | refine blk_drewN ?_ _ | refine blk_drew ?_ | refine blk_alloc ?_ _)); refine blk_far ?_ NB180_179.out _; (with_reducible repeat (first | refine blk_drewN ?_ _ | refine blk_drew ?_ | refine blk_alloc ?_ _)); exact BK180.out) hb); have n4_ := Aside0.mk (below_step (by repeat (first | (with_reducible first | exact HB.out | apply below_alloc | apply pw_below_drewN | apply below_drew1 | refine below_set ?_ GE179.out | refine below_set ?_ GE180.out) | exact HB.out)) hb); clear HO173; clear BK179; clear BK180; clear HB; have HO173 := n0_; have HO183 := n1_; have BK179 := n2_; have BK180 := n3_; have HB := n4_; clear n0_ n1_ n2_ n3_ n4_; (try clear hb); (try clear hb2); (try clear hk); (try clear hi); (try clear ho0); obtain ⟨Ao17, co17, eo17⟩ := Kd.R_slice HO183.out; subst eo17) | ((with_reducible refine gate_callee (f := 14) rfl ?_); refine goesL_ (some 24) rfl rfl Try.func14 (by kernel_rfl) rfl #[.slice Ao17 t181.length co17] rfl (by (try simp only [List.map_toArray, List.map_cons, List.map_nil]); first | done | rfl | (simp only [List.length_drop, List.length_take]; rfl)) ?_; (with_reducible refine (impl_BoundsOf.calls k _ _ t181 t184 t185 t186 t187 t188 _ ?side1 ?side2 A6.out).mono ?_); (case side1 => repeat (first | exact (Kd.R_reads' HO183.out).2.2 | (with_reducible refine Kd.C_alloc ?_ _) | (with_reducible refine Kd.C_drewN ?_ _) | (with_reducible refine Kd.C_drew ?_))); (case side2 => exact (Kd.R_reads' HO183.out).2.1); rintro e w18 ⟨rfl, hb⟩; refine ⟨_, rfl, ?_⟩; have n0_ := Aside0.mk (Kd.R_below (by (with_reducible repeat (first | apply Kd.R_alloc | apply Kd.R_drewN | apply Kd.R_drew)); exact HO173.out) hb); have n1_ := Aside0.mk (Kd.R_below (by (with_reducible repeat (first | apply Kd.R_alloc | apply Kd.R_drewN | apply Kd.R_drew)); exact HO183.out) hb); have n2_ := Aside0.mk (blk_below (g := gb179) (o := .cells #[.int .i64 t174, .int .i64 t175] 24 (0, 0)) (by (with_reducible repeat (first | refine blk_drewN ?_ _ | refine blk_drew ?_ | refine blk_alloc ?_ _)); exact BK179.out) hb); have n3_ := Aside0.mk (blk_below (g := gb180) (o := .cells #[.int .i64 t176, .int .i64 t177] 24 (0, 0)) (by (with_reducible repeat (first | refine blk_drewN ?_ _ | refine blk_drew ?_ | refine blk_alloc ?_ _)); exact BK180.out) hb); have n4_ := Aside0.mk (below_step (by repeat (first | (with_reducible first | exact HB.out | apply below_alloc | apply pw_below_drewN | apply below_drew1 | refine below_set ?_ GE179.out | refine below_set ?_ GE180.out) | exact HB.out)) hb); clear HO173; clear HO183; clear BK179; clear BK180; clear HB; have HO173 := n0_; have HO183 := n1_; have BK179 := n2_; have BK180 := n3_; have HB := n4_; clear n0_ n1_ n2_ n3_ n4_; (try clear hb); (try clear hb2); (try clear hk); (try clear hi)) | ((with_reducible refine gate_dst (N := 7) rfl ?_); refine box_event ?hg (N := 7) ?hd (cs := #[.int .i64 0, .int .i64 0]) (t := 24) ?hr ?_; (case hd => rfl); (case hg => rfl); (case hr => first | (go_simp; done) | (go_simp; rfl)); intro gb189 hg w19 hbox hb; have n0_ := Aside0.mk (Kd.R_below (by (with_reducible repeat (first | apply Kd.R_alloc | apply Kd.R_drewN | apply Kd.R_drew)); exact HO173.out) hb); have n1_ := Aside0.mk (Kd.R_below (by (with_reducible repeat (first | apply Kd.R_alloc | apply Kd.R_drewN | apply Kd.R_drew)); exact HO183.out) hb); have n2_ := Aside0.mk (blk_below (g := gb179) (o := .cells #[.int .i64 t174, .int .i64 t175] 24 (0, 0)) (by (with_reducible repeat (first | refine blk_drewN ?_ _ | refine blk_drew ?_ | refine blk_alloc ?_ _)); exact BK179.out) hb); have n3_ := Aside0.mk (blk_below (g := gb180) (o := .cells #[.int .i64 t176, .int .i64 t177] 24 (0, 0)) (by (with_reducible repeat (first | refine blk_drewN ?_ _ | refine blk_drew ?_ | refine blk_alloc ?_ _)); exact BK180.out) hb); have n4_ := Aside0.mk (below_step (by repeat (first | (with_reducible first | exact HB.out | apply below_alloc | apply pw_below_drewN | apply below_drew1 | refine below_set ?_ GE179.out | refine below_set ?_ GE180.out) | exact HB.out)) hb); have n5_ := Aside0.mk (hbox); have n6_ := Aside0.mk ((by rw [hg]; exact (below_size (by repeat (first | (with_reducible first | exact HB.out | apply below_alloc | apply pw_below_drewN | apply below_drew1 | refine below_set ?_ GE179.out | refine below_set ?_ GE180.out) | exact HB.out))) : w.heap.size ≤ gb189)); have n7_ := Aside0.mk ((by rw [hg]; exact (below_size (by repeat (first | (with_reducible first | exact HB.out | apply below_alloc | apply pw_below_drewN | apply below_drew1 | refine below_set ?_ GE179.out | refine below_set ?_ GE180.out) | exact HB.out))) : w.heap.size ≤ gb189)); have n8_ := Aside0.mk ((by rw [hg]; exact Nat.ne_of_lt (blk_lt (g := gb179) (o := .cells #[.int .i64 t174, .int .i64 t175] 24 (0, 0)) (by (with_reducible repeat (first | refine blk_drewN ?_ _ | refine blk_drew ?_ | refine blk_alloc ?_ _)); exact BK179.out)) : gb179 ≠ gb189)); have n9_ := Aside0.mk ((by rw [hg]; exact Nat.ne_of_gt (blk_lt (g := gb179) (o := .cells #[.int .i64 t174, .int .i64 t175] 24 (0, 0)) (by (with_reducible repeat (first | refine blk_drewN ?_ _ | refine blk_drew ?_ | refine blk_alloc ?_ _)); exact BK179.out)) : gb189 ≠ gb179)); have n10_ := Aside0.mk ((by rw [hg]; exact Nat.ne_of_lt (blk_lt (g := gb180) (o := .cells #[.int .i64 t176, .int .i64 t177] 24 (0, 0)) (by (with_reducible repeat (first | refine blk_drewN ?_ _ | refine blk_drew ?_ | refine blk_alloc ?_ _)); exact BK180.out)) : gb180 ≠ gb189)); have n11_ := Aside0.mk ((by rw [hg]; exact Nat.ne_of_gt (blk_lt (g := gb180) (o := .cells #[.int .i64 t176, .int .i64 t177] 24 (0, 0)) (by (with_reducible repeat (first | refine blk_drewN ?_ _ | refine blk_drew ?_ | refine blk_alloc ?_ _)); exact BK180.out)) : gb189 ≠ gb180)); clear HO173; clear HO183; clear BK179; clear BK180; clear HB; have HO173 := n0_; have HO183 := n1_; have BK179 := n2_; have BK180 := n3_; have HB := n4_; have BK189 := n5_; have GW189 := n6_; have GE189 := n7_; have NB179_189 := n8_; have NB189_179 := n9_; have NB180_189 := n10_; have NB189_180 := n11_; clear n0_ n1_ n2_ n3_ n4_ n5_ n6_ n7_ n8_ n9_ n10_ n11_; clear hb hbox hg) | ((with_reducible refine gate_dst (N := 8) rfl ?_); refine box_event ?hg (N := 8) ?hd (cs := #[.int .i64 0, .int .i64 0]) (t := 24) ?hr ?_; (case hd => rfl); (case hg => rfl); (case hr => first | (go_simp; done) | (go_simp; rfl)); intro gb190 hg w20 hbox hb; have n0_ := Aside0.mk (Kd.R_below (by (with_reducible repeat (first | apply Kd.R_alloc | apply Kd.R_drewN | apply Kd.R_drew)); exact HO173.out) hb); have n1_ := Aside0.mk (Kd.R_below (by (with_reducible repeat (first | apply Kd.R_alloc | apply Kd.R_drewN | apply Kd.R_drew)); exact HO183.out) hb); have n2_ := Aside0.mk (blk_below (g := gb179) (o := .cells #[.int .i64 t174, .int .i64 t175] 24 (0, 0)) (by (with_reducible repeat (first | refine blk_drewN ?_ _ | refine blk_drew ?_ | refine blk_alloc ?_ _)); exact BK179.out) hb); have n3_ := Aside0.mk (blk_below (g := gb180) (o := .cells #[.int .i64 t176, .int .i64 t177] 24 (0, 0)) (by (with_reducible repeat (first | refine blk_drewN ?_ _ | refine blk_drew ?_ | refine blk_alloc ?_ _)); exact BK180.out) hb); have n4_ := Aside0.mk (blk_below (g := gb189) (o := .cells #[.int .i64 0, .int .i64 0] 24 (0, 0)) (by (with_reducible repeat (first | refine blk_drewN ?_ _ | refine blk_drew ?_ | refine blk_alloc ?_ _)); exact BK189.out) hb); have n5_ := Aside0.mk (below_step (by repeat (first | (with_reducible first | exact HB.out | apply below_alloc | apply pw_below_drewN | apply below_drew1 | refine below_set ?_ GE179.out | refine below_set ?_ GE180.out | refine below_set ?_ GE189.out) | exact HB.out)) hb); have n6_ := Aside0.mk (hbox); have n7_ := Aside0.mk ((by rw [hg]; exact (below_size (by repeat (first | (with_reducible first | exact HB.out | apply below_alloc | apply pw_below_drewN | apply below_drew1 | refine below_set ?_ GE179.out | refine below_set ?_ GE180.out | refine below_set ?_ GE189.out) | exact HB.out))) : w.heap.size ≤ gb190)); have n8_ := Aside0.mk ((by rw [hg]; exact (below_size (by repeat (first | (with_reducible first | exact HB.out | apply below_alloc | apply pw_below_drewN | apply below_drew1 | refine below_set ?_ GE179.out | refine below_set ?_ GE180.out | refine below_set ?_ GE189.out) | exact HB.out))) : w.heap.size ≤ gb190)); have n9_ := Aside0.mk ((by rw [hg]; exact Nat.ne_of_lt (blk_lt (g := gb179) (o := .cells #[.int .i64 t174, .int .i64 t175] 24 (0, 0)) (by (with_reducible repeat (first | refine blk_drewN ?_ _ | refine blk_drew ?_ | refine blk_alloc ?_ _)); exact BK179.out)) : gb179 ≠ gb190)); have n10_ := Aside0.mk ((by rw [hg]; exact Nat.ne_of_gt (blk_lt (g := gb179) (o := .cells #[.int .i64 t174, .int .i64 t175] 24 (0, 0)) (by (with_reducible repeat (first | refine blk_drewN ?_ _ | refine blk_drew ?_ | refine blk_alloc ?_ _)); exact BK179.out)) : gb190 ≠ gb179)); have n11_ := Aside0.mk ((by rw [hg]; exact Nat.ne_of_lt (blk_lt (g := gb180) (o := .cells #[.int .i64 t176, .int .i64 t177] 24 (0, 0)) (by (with_reducible repeat (first | refine blk_drewN ?_ _ | refine blk_drew ?_ | refine blk_alloc ?_ _)); exact BK180.out)) : gb180 ≠ gb190)); have n12_ := Aside0.mk ((by rw [hg]; exact Nat.ne_of_gt (blk_lt (g := gb180) (o := .cells #[.int .i64 t176, .int .i64 t177] 24 (0, 0)) (by (with_reducible repeat (first | refine blk_drewN ?_ _ | refine blk_drew ?_ | refine blk_alloc ?_ _)); exact BK180.out)) : gb190 ≠ gb180)); have n13_ := Aside0.mk ((by rw [hg]; exact Nat.ne_of_lt (blk_lt (g := gb189) (o := .cells #[.int .i64 0, .int .i64 0] 24 (0, 0)) (by (with_reducible repeat (first | refine blk_drewN ?_ _ | refine blk_drew ?_ | refine blk_alloc ?_ _)); exact BK189.out)) : gb189 ≠ gb190)); have n14_ := Aside0.mk ((by rw [hg]; exact Nat.ne_of_gt (blk_lt (g := gb189) (o := .cells #[.int .i64 0, .int .i64 0] 24 (0, 0)) (by (with_reducible repeat (first | refine blk_drewN ?_ _ | refine blk_drew ?_ | refine blk_alloc ?_ _)); exact BK189.out)) : gb190 ≠ gb189)); clear HO173; clear HO183; clear BK179; clear BK180; clear BK189; clear HB; have HO173 := n0_; have HO183 := n1_; have BK179 := n2_; have BK180 := n3_; have BK189 := n4_; have HB := n5_; have BK190 := n6_; have GW190 := n7_; have GE190 := n8_; have NB179_190 := n9_; have NB190_179 := n10_; have NB180_190 := n11_; have NB190_180 := n12_; have NB189_190 := n13_; have NB190_189 := n14_; clear n0_ n1_ n2_ n3_ n4_ n5_ n6_ n7_ n8_ n9_ n10_ n11_ n12_ n13_ n14_; clear hb hbox hg; have hnb21 := NB189_179.out; have hnc21 := NB179_189.out; have hnb22 := NB189_180.out; have hnc22 := NB180_189.out; have hnb23 := NB189_190.out; have hnc23 := NB190_189.out; have hcz24_0 : w20.cell? ⟨gb189, 0, none⟩ = some (.int .i64 0) := (blk_cell BK189.out 0).trans rfl; have hcz24_1 : w20.cell? ⟨gb189, 1, none⟩ = some (.int .i64 0) := (blk_cell BK189.out 1).trans rfl; have hfz24_0 := blk_frozen BK189.out 0; have hfz24_1 := blk_frozen BK189.out 1; have hnb25 := NB190_179.out; have hnc25 := NB179_190.out; have hnb26 := NB190_180.out; have hnc26 := NB180_190.out; have hcz27_0 : w20.cell? ⟨gb190, 0, none⟩ = some (.int .i64 0) := (blk_cell BK190.out 0).trans rfl; have hcz27_1 : w20.cell? ⟨gb190, 1, none⟩ = some (.int .i64 0) := (blk_cell BK190.out 1).trans rfl; have hfz27_0 := blk_frozen BK190.out 0; have hfz27_1 := blk_frozen BK190.out 1))
    (try simp only [Act.put, List.setIfInBounds_toArray, List.set_cons_zero, List.set_cons_succ])
    go_cut [42] (fun v42 wc => ∃ (kq : Nat) (x42_6 : Bool), v42 = .bool x42_6 ∧ Aside0 (laws_FnExactBoundsOf.j0 kq l0 t181 x42_6 = some r) ∧ Aside0 (kq ≤ k) ∧ Aside0 (Kd.R (Kd.int .i8) 69 wc w.heap.size (fun _ => True) (.slice Ao17 t181.length co17) t181) ∧ Aside0 (wc.heap[gb179]? = some (.cells #[.int .i64 t174, .int .i64 t175] 24 (0, 0))) ∧ Aside0 (wc.heap[gb180]? = some (.cells #[.int .i64 t176, .int .i64 t177] 24 (0, 0))) ∧ Aside0 (wc.heap[gb189]? = some (.cells #[.int .i64 t184, .int .i64 t185] 24 (0, 0))) ∧ Aside0 (wc.heap[gb190]? = some (.cells #[.int .i64 t186, .int .i64 t187] 24 (0, 0))) ∧ Aside0 (Below w.heap.size w wc))
    case first =>
      have H := HC7.out
      clear HC7
      replace H := Option.bind_eq_some_iff.mp H
      obtain ⟨t191, A280, H⟩ := H
      replace H : (if t191 = true then ((laws_eqRatio.f t186 t187 t176 t177).bind fun t192 => (if t192 = true then (laws_FnExactBoundsOf.j0 k l0 t181 (t188 != t178)) else (laws_FnExactBoundsOf.j0 k l0 t181 true))) else (laws_FnExactBoundsOf.j0 k l0 t181 true)) = some r := H
      have A28 := Aside0.mk A280
      clear A280
      by_cases c29 : t191 = true
      · subst c29
        have H1 : ((laws_eqRatio.f t186 t187 t176 t177).bind fun t192 => (if t192 = true then (laws_FnExactBoundsOf.j0 k l0 t181 (t188 != t178)) else (laws_FnExactBoundsOf.j0 k l0 t181 true))) = some r := by rw [if_pos rfl] at H; exact H
        clear H
        have H := H1
        clear H1
        replace H := Option.bind_eq_some_iff.mp H
        obtain ⟨t192, A300, H⟩ := H
        replace H : (if t192 = true then (laws_FnExactBoundsOf.j0 k l0 t181 (t188 != t178)) else (laws_FnExactBoundsOf.j0 k l0 t181 true)) = some r := H
        have A30 := Aside0.mk A300
        clear A300
        by_cases c31 : t192 = true
        · subst c31
          have H1 : (laws_FnExactBoundsOf.j0 k l0 t181 (t188 != t178)) = some r := by rw [if_pos rfl] at H; exact H
          clear H
          have H := H1
          clear H1
          have H' := Aside0.mk H
          clear H
          have hnb32 := NB189_179.out
          have hnc32 := NB179_189.out
          have hnb33 := NB189_180.out
          have hnc33 := NB180_189.out
          have hnb34 := NB189_190.out
          have hnc34 := NB190_189.out
          have hcz35_0 : w20.cell? ⟨gb189, 0, none⟩ = some (.int .i64 0) := (blk_cell BK189.out 0).trans rfl
          have hcz35_1 : w20.cell? ⟨gb189, 1, none⟩ = some (.int .i64 0) := (blk_cell BK189.out 1).trans rfl
          have hfz35_0 := blk_frozen BK189.out 0
          have hfz35_1 := blk_frozen BK189.out 1
          have hnb36 := NB179_180.out
          have hnc36 := NB180_179.out
          have hnb37 := NB179_190.out
          have hnc37 := NB190_179.out
          have hcz38_0 : w20.cell? ⟨gb179, 0, none⟩ = some (.int .i64 t174) := (blk_cell BK179.out 0).trans rfl
          have hcz38_1 : w20.cell? ⟨gb179, 1, none⟩ = some (.int .i64 t175) := (blk_cell BK179.out 1).trans rfl
          have hfz38_0 := blk_frozen BK179.out 0
          have hfz38_1 := blk_frozen BK179.out 1
          go_wp2_with (first | ((with_reducible refine gate_callee (f := 15) rfl ?_); refine goesL_ (some 30) rfl rfl Try.func15 (by kernel_rfl) rfl #[.agg #[.int .i64 t184, .int .i64 t185], .agg #[.int .i64 t174, .int .i64 t175]] rfl (by (try simp only [List.map_toArray, List.map_cons, List.map_nil]); first | done | rfl | (simp only [List.length_drop, List.length_take]; rfl)) ?_; (with_reducible refine (laws_eqRatio.calls t184 t185 t174 t175 true _ A28.out).mono ?_); rintro e w39 ⟨rfl, hb⟩; refine ⟨_, rfl, ?_⟩; have n0_ := Aside0.mk (Kd.R_below (by (with_reducible repeat (first | apply Kd.R_alloc | apply Kd.R_drewN | apply Kd.R_drew)); exact (Kd.R_mono (Kd.R_mono (Kd.R_far (p := ⟨gb190, 1, none⟩) (Kd.R_far (p := ⟨gb190, 0, none⟩) (Kd.R_far (p := ⟨gb189, 1, none⟩) (Kd.R_far (p := ⟨gb189, 0, none⟩) (Kd.R_types (Kd.R_types HO173.out BK189.out (by decide)) BK190.out (by decide)) (fun _ hk => hk.1.2) (.int .i64 t184)) (fun _ hk => hk.1.2) (.int .i64 t185)) (fun _ hk => hk.2) (.int .i64 t186)) (fun _ hk => hk.2) (.int .i64 t187)) (fun _ h_ => h_.1)) (fun _ h_ => h_.1))) hb); have n1_ := Aside0.mk (Kd.R_below (by (with_reducible repeat (first | apply Kd.R_alloc | apply Kd.R_drewN | apply Kd.R_drew)); exact (Kd.R_mono (Kd.R_mono (Kd.R_far (p := ⟨gb190, 1, none⟩) (Kd.R_far (p := ⟨gb190, 0, none⟩) (Kd.R_far (p := ⟨gb189, 1, none⟩) (Kd.R_far (p := ⟨gb189, 0, none⟩) (Kd.R_types (Kd.R_types HO183.out BK189.out (by decide)) BK190.out (by decide)) (fun _ hk => hk.1.2) (.int .i64 t184)) (fun _ hk => hk.1.2) (.int .i64 t185)) (fun _ hk => hk.2) (.int .i64 t186)) (fun _ hk => hk.2) (.int .i64 t187)) (fun _ h_ => h_.1)) (fun _ h_ => h_.1))) hb); have n2_ := Aside0.mk (blk_below (g := gb179) (o := .cells #[.int .i64 t174, .int .i64 t175] 24 (0, 0)) (by (with_reducible repeat (first | refine blk_drewN ?_ _ | refine blk_drew ?_ | refine blk_alloc ?_ _)); refine blk_far ?_ NB179_190.out _; (with_reducible repeat (first | refine blk_drewN ?_ _ | refine blk_drew ?_ | refine blk_alloc ?_ _)); refine blk_far ?_ NB179_190.out _; (with_reducible repeat (first | refine blk_drewN ?_ _ | refine blk_drew ?_ | refine blk_alloc ?_ _)); refine blk_far ?_ NB179_189.out _; (with_reducible repeat (first | refine blk_drewN ?_ _ | refine blk_drew ?_ | refine blk_alloc ?_ _)); refine blk_far ?_ NB179_189.out _; (with_reducible repeat (first | refine blk_drewN ?_ _ | refine blk_drew ?_ | refine blk_alloc ?_ _)); exact BK179.out) hb); have n3_ := Aside0.mk (blk_below (g := gb180) (o := .cells #[.int .i64 t176, .int .i64 t177] 24 (0, 0)) (by (with_reducible repeat (first | refine blk_drewN ?_ _ | refine blk_drew ?_ | refine blk_alloc ?_ _)); refine blk_far ?_ NB180_190.out _; (with_reducible repeat (first | refine blk_drewN ?_ _ | refine blk_drew ?_ | refine blk_alloc ?_ _)); refine blk_far ?_ NB180_190.out _; (with_reducible repeat (first | refine blk_drewN ?_ _ | refine blk_drew ?_ | refine blk_alloc ?_ _)); refine blk_far ?_ NB180_189.out _; (with_reducible repeat (first | refine blk_drewN ?_ _ | refine blk_drew ?_ | refine blk_alloc ?_ _)); refine blk_far ?_ NB180_189.out _; (with_reducible repeat (first | refine blk_drewN ?_ _ | refine blk_drew ?_ | refine blk_alloc ?_ _)); exact BK180.out) hb); have n4_ := Aside0.mk (blk_below (g := gb189) (o := .cells #[.int .i64 t184, .int .i64 t185] 24 (0, 0)) (by (with_reducible repeat (first | refine blk_drewN ?_ _ | refine blk_drew ?_ | refine blk_alloc ?_ _)); refine blk_far ?_ NB189_190.out _; (with_reducible repeat (first | refine blk_drewN ?_ _ | refine blk_drew ?_ | refine blk_alloc ?_ _)); refine blk_far ?_ NB189_190.out _; (with_reducible repeat (first | refine blk_drewN ?_ _ | refine blk_drew ?_ | refine blk_alloc ?_ _)); refine blk_put (cs := #[.int .i64 t184, .int .i64 0]) ?_ 1 _ rfl; (with_reducible repeat (first | refine blk_drewN ?_ _ | refine blk_drew ?_ | refine blk_alloc ?_ _)); refine blk_put (cs := #[.int .i64 0, .int .i64 0]) ?_ 0 _ rfl; (with_reducible repeat (first | refine blk_drewN ?_ _ | refine blk_drew ?_ | refine blk_alloc ?_ _)); exact BK189.out) hb); have n5_ := Aside0.mk (blk_below (g := gb190) (o := .cells #[.int .i64 t186, .int .i64 t187] 24 (0, 0)) (by (with_reducible repeat (first | refine blk_drewN ?_ _ | refine blk_drew ?_ | refine blk_alloc ?_ _)); refine blk_put (cs := #[.int .i64 t186, .int .i64 0]) ?_ 1 _ rfl; (with_reducible repeat (first | refine blk_drewN ?_ _ | refine blk_drew ?_ | refine blk_alloc ?_ _)); refine blk_put (cs := #[.int .i64 0, .int .i64 0]) ?_ 0 _ rfl; (with_reducible repeat (first | refine blk_drewN ?_ _ | refine blk_drew ?_ | refine blk_alloc ?_ _)); refine blk_far ?_ NB190_189.out _; (with_reducible repeat (first | refine blk_drewN ?_ _ | refine blk_drew ?_ | refine blk_alloc ?_ _)); refine blk_far ?_ NB190_189.out _; (with_reducible repeat (first | refine blk_drewN ?_ _ | refine blk_drew ?_ | refine blk_alloc ?_ _)); exact BK190.out) hb); have n6_ := Aside0.mk (below_step (by repeat (first | (with_reducible first | exact HB.out | apply below_alloc | apply pw_below_drewN | apply below_drew1 | refine below_set ?_ GE179.out | refine below_set ?_ GE180.out | refine below_set ?_ GE189.out | refine below_set ?_ GE190.out) | exact HB.out)) hb); clear HO173; clear HO183; clear BK179; clear BK180; clear BK189; clear BK190; clear HB; have HO173 := n0_; have HO183 := n1_; have BK179 := n2_; have BK180 := n3_; have BK189 := n4_; have BK190 := n5_; have HB := n6_; clear n0_ n1_ n2_ n3_ n4_ n5_ n6_; (try clear hb); (try clear hb2); (try clear hk); (try clear hi); have hnb40 := NB190_180.out; have hnc40 := NB180_190.out; have hcz41_0 : w39.cell? ⟨gb190, 0, none⟩ = some (.int .i64 t186) := (blk_cell BK190.out 0).trans rfl; have hcz41_1 : w39.cell? ⟨gb190, 1, none⟩ = some (.int .i64 t187) := (blk_cell BK190.out 1).trans rfl; have hfz41_0 := blk_frozen BK190.out 0; have hfz41_1 := blk_frozen BK190.out 1; have hcz42_0 : w39.cell? ⟨gb180, 0, none⟩ = some (.int .i64 t176) := (blk_cell BK180.out 0).trans rfl; have hcz42_1 : w39.cell? ⟨gb180, 1, none⟩ = some (.int .i64 t177) := (blk_cell BK180.out 1).trans rfl; have hfz42_0 := blk_frozen BK180.out 0; have hfz42_1 := blk_frozen BK180.out 1) | (go_at_call 15; (with_reducible refine (laws_eqRatio.calls t186 t187 t176 t177 true _ A30.out).mono ?_); rintro e w43 ⟨rfl, hb⟩; have n0_ := Aside0.mk (Kd.R_below (by (with_reducible repeat (first | apply Kd.R_alloc | apply Kd.R_drewN | apply Kd.R_drew)); exact HO173.out) hb); have n1_ := Aside0.mk (Kd.R_below (by (with_reducible repeat (first | apply Kd.R_alloc | apply Kd.R_drewN | apply Kd.R_drew)); exact HO183.out) hb); have n2_ := Aside0.mk (blk_below (g := gb179) (o := .cells #[.int .i64 t174, .int .i64 t175] 24 (0, 0)) (by (with_reducible repeat (first | refine blk_drewN ?_ _ | refine blk_drew ?_ | refine blk_alloc ?_ _)); exact BK179.out) hb); have n3_ := Aside0.mk (blk_below (g := gb180) (o := .cells #[.int .i64 t176, .int .i64 t177] 24 (0, 0)) (by (with_reducible repeat (first | refine blk_drewN ?_ _ | refine blk_drew ?_ | refine blk_alloc ?_ _)); exact BK180.out) hb); have n4_ := Aside0.mk (blk_below (g := gb189) (o := .cells #[.int .i64 t184, .int .i64 t185] 24 (0, 0)) (by (with_reducible repeat (first | refine blk_drewN ?_ _ | refine blk_drew ?_ | refine blk_alloc ?_ _)); exact BK189.out) hb); have n5_ := Aside0.mk (blk_below (g := gb190) (o := .cells #[.int .i64 t186, .int .i64 t187] 24 (0, 0)) (by (with_reducible repeat (first | refine blk_drewN ?_ _ | refine blk_drew ?_ | refine blk_alloc ?_ _)); exact BK190.out) hb); have n6_ := Aside0.mk (below_step (by repeat (first | (with_reducible first | exact HB.out | apply below_alloc | apply pw_below_drewN | apply below_drew1 | refine below_set ?_ GE179.out | refine below_set ?_ GE180.out | refine below_set ?_ GE189.out | refine below_set ?_ GE190.out) | exact HB.out)) hb); clear HO173; clear HO183; clear BK179; clear BK180; clear BK189; clear BK190; clear HB; have HO173 := n0_; have HO183 := n1_; have BK179 := n2_; have BK180 := n3_; have BK189 := n4_; have BK190 := n5_; have HB := n6_; clear n0_ n1_ n2_ n3_ n4_ n5_ n6_; (try clear hb); (try clear hb2); (try clear hk); (try clear hi)))
          go_meet
          case rel => exact ⟨_, ((t188 != t178)), (by first | rfl | (simp; done) | (simp [*]; done)), H', ⟨by first | omega | exact Nat.le_refl _⟩, ⟨by (with_reducible repeat (first | apply Kd.R_alloc | apply Kd.R_drewN | apply Kd.R_drew)); exact Kd.R_mono HO183.out (fun _ hk => trivial)⟩, ⟨by (with_reducible repeat (first | refine blk_drewN ?_ _ | refine blk_drew ?_ | refine blk_alloc ?_ _)); exact BK179.out⟩, ⟨by (with_reducible repeat (first | refine blk_drewN ?_ _ | refine blk_drew ?_ | refine blk_alloc ?_ _)); exact BK180.out⟩, ⟨by (with_reducible repeat (first | refine blk_drewN ?_ _ | refine blk_drew ?_ | refine blk_alloc ?_ _)); exact BK189.out⟩, ⟨by (with_reducible repeat (first | refine blk_drewN ?_ _ | refine blk_drew ?_ | refine blk_alloc ?_ _)); exact BK190.out⟩, ⟨by repeat (first | (with_reducible first | exact HB.out | apply below_alloc | apply pw_below_drewN | apply below_drew1 | refine below_set ?_ GE179.out | refine below_set ?_ GE180.out | refine below_set ?_ GE189.out | refine below_set ?_ GE190.out) | exact HB.out)⟩⟩
        · replace c31 := Bool.eq_false_iff.mpr c31
          subst c31
          have H1 : (laws_FnExactBoundsOf.j0 k l0 t181 true) = some r := by rw [if_neg (show ¬ (false = true) by decide)] at H; exact H
          clear H
          have H := H1
          clear H1
          have H' := Aside0.mk H
          clear H
          have hnb44 := NB189_179.out
          have hnc44 := NB179_189.out
          have hnb45 := NB189_180.out
          have hnc45 := NB180_189.out
          have hnb46 := NB189_190.out
          have hnc46 := NB190_189.out
          have hcz47_0 : w20.cell? ⟨gb189, 0, none⟩ = some (.int .i64 0) := (blk_cell BK189.out 0).trans rfl
          have hcz47_1 : w20.cell? ⟨gb189, 1, none⟩ = some (.int .i64 0) := (blk_cell BK189.out 1).trans rfl
          have hfz47_0 := blk_frozen BK189.out 0
          have hfz47_1 := blk_frozen BK189.out 1
          have hnb48 := NB179_180.out
          have hnc48 := NB180_179.out
          have hnb49 := NB179_190.out
          have hnc49 := NB190_179.out
          have hcz50_0 : w20.cell? ⟨gb179, 0, none⟩ = some (.int .i64 t174) := (blk_cell BK179.out 0).trans rfl
          have hcz50_1 : w20.cell? ⟨gb179, 1, none⟩ = some (.int .i64 t175) := (blk_cell BK179.out 1).trans rfl
          have hfz50_0 := blk_frozen BK179.out 0
          have hfz50_1 := blk_frozen BK179.out 1
          go_wp2_with (first | ((with_reducible refine gate_callee (f := 15) rfl ?_); refine goesL_ (some 30) rfl rfl Try.func15 (by kernel_rfl) rfl #[.agg #[.int .i64 t184, .int .i64 t185], .agg #[.int .i64 t174, .int .i64 t175]] rfl (by (try simp only [List.map_toArray, List.map_cons, List.map_nil]); first | done | rfl | (simp only [List.length_drop, List.length_take]; rfl)) ?_; (with_reducible refine (laws_eqRatio.calls t184 t185 t174 t175 true _ A28.out).mono ?_); rintro e w51 ⟨rfl, hb⟩; refine ⟨_, rfl, ?_⟩; have n0_ := Aside0.mk (Kd.R_below (by (with_reducible repeat (first | apply Kd.R_alloc | apply Kd.R_drewN | apply Kd.R_drew)); exact (Kd.R_mono (Kd.R_mono (Kd.R_far (p := ⟨gb190, 1, none⟩) (Kd.R_far (p := ⟨gb190, 0, none⟩) (Kd.R_far (p := ⟨gb189, 1, none⟩) (Kd.R_far (p := ⟨gb189, 0, none⟩) (Kd.R_types (Kd.R_types HO173.out BK189.out (by decide)) BK190.out (by decide)) (fun _ hk => hk.1.2) (.int .i64 t184)) (fun _ hk => hk.1.2) (.int .i64 t185)) (fun _ hk => hk.2) (.int .i64 t186)) (fun _ hk => hk.2) (.int .i64 t187)) (fun _ h_ => h_.1)) (fun _ h_ => h_.1))) hb); have n1_ := Aside0.mk (Kd.R_below (by (with_reducible repeat (first | apply Kd.R_alloc | apply Kd.R_drewN | apply Kd.R_drew)); exact (Kd.R_mono (Kd.R_mono (Kd.R_far (p := ⟨gb190, 1, none⟩) (Kd.R_far (p := ⟨gb190, 0, none⟩) (Kd.R_far (p := ⟨gb189, 1, none⟩) (Kd.R_far (p := ⟨gb189, 0, none⟩) (Kd.R_types (Kd.R_types HO183.out BK189.out (by decide)) BK190.out (by decide)) (fun _ hk => hk.1.2) (.int .i64 t184)) (fun _ hk => hk.1.2) (.int .i64 t185)) (fun _ hk => hk.2) (.int .i64 t186)) (fun _ hk => hk.2) (.int .i64 t187)) (fun _ h_ => h_.1)) (fun _ h_ => h_.1))) hb); have n2_ := Aside0.mk (blk_below (g := gb179) (o := .cells #[.int .i64 t174, .int .i64 t175] 24 (0, 0)) (by (with_reducible repeat (first | refine blk_drewN ?_ _ | refine blk_drew ?_ | refine blk_alloc ?_ _)); refine blk_far ?_ NB179_190.out _; (with_reducible repeat (first | refine blk_drewN ?_ _ | refine blk_drew ?_ | refine blk_alloc ?_ _)); refine blk_far ?_ NB179_190.out _; (with_reducible repeat (first | refine blk_drewN ?_ _ | refine blk_drew ?_ | refine blk_alloc ?_ _)); refine blk_far ?_ NB179_189.out _; (with_reducible repeat (first | refine blk_drewN ?_ _ | refine blk_drew ?_ | refine blk_alloc ?_ _)); refine blk_far ?_ NB179_189.out _; (with_reducible repeat (first | refine blk_drewN ?_ _ | refine blk_drew ?_ | refine blk_alloc ?_ _)); exact BK179.out) hb); have n3_ := Aside0.mk (blk_below (g := gb180) (o := .cells #[.int .i64 t176, .int .i64 t177] 24 (0, 0)) (by (with_reducible repeat (first | refine blk_drewN ?_ _ | refine blk_drew ?_ | refine blk_alloc ?_ _)); refine blk_far ?_ NB180_190.out _; (with_reducible repeat (first | refine blk_drewN ?_ _ | refine blk_drew ?_ | refine blk_alloc ?_ _)); refine blk_far ?_ NB180_190.out _; (with_reducible repeat (first | refine blk_drewN ?_ _ | refine blk_drew ?_ | refine blk_alloc ?_ _)); refine blk_far ?_ NB180_189.out _; (with_reducible repeat (first | refine blk_drewN ?_ _ | refine blk_drew ?_ | refine blk_alloc ?_ _)); refine blk_far ?_ NB180_189.out _; (with_reducible repeat (first | refine blk_drewN ?_ _ | refine blk_drew ?_ | refine blk_alloc ?_ _)); exact BK180.out) hb); have n4_ := Aside0.mk (blk_below (g := gb189) (o := .cells #[.int .i64 t184, .int .i64 t185] 24 (0, 0)) (by (with_reducible repeat (first | refine blk_drewN ?_ _ | refine blk_drew ?_ | refine blk_alloc ?_ _)); refine blk_far ?_ NB189_190.out _; (with_reducible repeat (first | refine blk_drewN ?_ _ | refine blk_drew ?_ | refine blk_alloc ?_ _)); refine blk_far ?_ NB189_190.out _; (with_reducible repeat (first | refine blk_drewN ?_ _ | refine blk_drew ?_ | refine blk_alloc ?_ _)); refine blk_put (cs := #[.int .i64 t184, .int .i64 0]) ?_ 1 _ rfl; (with_reducible repeat (first | refine blk_drewN ?_ _ | refine blk_drew ?_ | refine blk_alloc ?_ _)); refine blk_put (cs := #[.int .i64 0, .int .i64 0]) ?_ 0 _ rfl; (with_reducible repeat (first | refine blk_drewN ?_ _ | refine blk_drew ?_ | refine blk_alloc ?_ _)); exact BK189.out) hb); have n5_ := Aside0.mk (blk_below (g := gb190) (o := .cells #[.int .i64 t186, .int .i64 t187] 24 (0, 0)) (by (with_reducible repeat (first | refine blk_drewN ?_ _ | refine blk_drew ?_ | refine blk_alloc ?_ _)); refine blk_put (cs := #[.int .i64 t186, .int .i64 0]) ?_ 1 _ rfl; (with_reducible repeat (first | refine blk_drewN ?_ _ | refine blk_drew ?_ | refine blk_alloc ?_ _)); refine blk_put (cs := #[.int .i64 0, .int .i64 0]) ?_ 0 _ rfl; (with_reducible repeat (first | refine blk_drewN ?_ _ | refine blk_drew ?_ | refine blk_alloc ?_ _)); refine blk_far ?_ NB190_189.out _; (with_reducible repeat (first | refine blk_drewN ?_ _ | refine blk_drew ?_ | refine blk_alloc ?_ _)); refine blk_far ?_ NB190_189.out _; (with_reducible repeat (first | refine blk_drewN ?_ _ | refine blk_drew ?_ | refine blk_alloc ?_ _)); exact BK190.out) hb); have n6_ := Aside0.mk (below_step (by repeat (first | (with_reducible first | exact HB.out | apply below_alloc | apply pw_below_drewN | apply below_drew1 | refine below_set ?_ GE179.out | refine below_set ?_ GE180.out | refine below_set ?_ GE189.out | refine below_set ?_ GE190.out) | exact HB.out)) hb); clear HO173; clear HO183; clear BK179; clear BK180; clear BK189; clear BK190; clear HB; have HO173 := n0_; have HO183 := n1_; have BK179 := n2_; have BK180 := n3_; have BK189 := n4_; have BK190 := n5_; have HB := n6_; clear n0_ n1_ n2_ n3_ n4_ n5_ n6_; (try clear hb); (try clear hb2); (try clear hk); (try clear hi); have hnb52 := NB190_180.out; have hnc52 := NB180_190.out; have hcz53_0 : w51.cell? ⟨gb190, 0, none⟩ = some (.int .i64 t186) := (blk_cell BK190.out 0).trans rfl; have hcz53_1 : w51.cell? ⟨gb190, 1, none⟩ = some (.int .i64 t187) := (blk_cell BK190.out 1).trans rfl; have hfz53_0 := blk_frozen BK190.out 0; have hfz53_1 := blk_frozen BK190.out 1; have hcz54_0 : w51.cell? ⟨gb180, 0, none⟩ = some (.int .i64 t176) := (blk_cell BK180.out 0).trans rfl; have hcz54_1 : w51.cell? ⟨gb180, 1, none⟩ = some (.int .i64 t177) := (blk_cell BK180.out 1).trans rfl; have hfz54_0 := blk_frozen BK180.out 0; have hfz54_1 := blk_frozen BK180.out 1) | (go_at_call 15; (with_reducible refine (laws_eqRatio.calls t186 t187 t176 t177 false _ A30.out).mono ?_); rintro e w55 ⟨rfl, hb⟩; have n0_ := Aside0.mk (Kd.R_below (by (with_reducible repeat (first | apply Kd.R_alloc | apply Kd.R_drewN | apply Kd.R_drew)); exact HO173.out) hb); have n1_ := Aside0.mk (Kd.R_below (by (with_reducible repeat (first | apply Kd.R_alloc | apply Kd.R_drewN | apply Kd.R_drew)); exact HO183.out) hb); have n2_ := Aside0.mk (blk_below (g := gb179) (o := .cells #[.int .i64 t174, .int .i64 t175] 24 (0, 0)) (by (with_reducible repeat (first | refine blk_drewN ?_ _ | refine blk_drew ?_ | refine blk_alloc ?_ _)); exact BK179.out) hb); have n3_ := Aside0.mk (blk_below (g := gb180) (o := .cells #[.int .i64 t176, .int .i64 t177] 24 (0, 0)) (by (with_reducible repeat (first | refine blk_drewN ?_ _ | refine blk_drew ?_ | refine blk_alloc ?_ _)); exact BK180.out) hb); have n4_ := Aside0.mk (blk_below (g := gb189) (o := .cells #[.int .i64 t184, .int .i64 t185] 24 (0, 0)) (by (with_reducible repeat (first | refine blk_drewN ?_ _ | refine blk_drew ?_ | refine blk_alloc ?_ _)); exact BK189.out) hb); have n5_ := Aside0.mk (blk_below (g := gb190) (o := .cells #[.int .i64 t186, .int .i64 t187] 24 (0, 0)) (by (with_reducible repeat (first | refine blk_drewN ?_ _ | refine blk_drew ?_ | refine blk_alloc ?_ _)); exact BK190.out) hb); have n6_ := Aside0.mk (below_step (by repeat (first | (with_reducible first | exact HB.out | apply below_alloc | apply pw_below_drewN | apply below_drew1 | refine below_set ?_ GE179.out | refine below_set ?_ GE180.out | refine below_set ?_ GE189.out | refine below_set ?_ GE190.out) | exact HB.out)) hb); clear HO173; clear HO183; clear BK179; clear BK180; clear BK189; clear BK190; clear HB; have HO173 := n0_; have HO183 := n1_; have BK179 := n2_; have BK180 := n3_; have BK189 := n4_; have BK190 := n5_; have HB := n6_; clear n0_ n1_ n2_ n3_ n4_ n5_ n6_; (try clear hb); (try clear hb2); (try clear hk); (try clear hi)))
          go_meet
          case rel => exact ⟨_, (true), (by first | rfl | (simp; done) | (simp [*]; done)), H', ⟨by first | omega | exact Nat.le_refl _⟩, ⟨by (with_reducible repeat (first | apply Kd.R_alloc | apply Kd.R_drewN | apply Kd.R_drew)); exact Kd.R_mono HO183.out (fun _ hk => trivial)⟩, ⟨by (with_reducible repeat (first | refine blk_drewN ?_ _ | refine blk_drew ?_ | refine blk_alloc ?_ _)); exact BK179.out⟩, ⟨by (with_reducible repeat (first | refine blk_drewN ?_ _ | refine blk_drew ?_ | refine blk_alloc ?_ _)); exact BK180.out⟩, ⟨by (with_reducible repeat (first | refine blk_drewN ?_ _ | refine blk_drew ?_ | refine blk_alloc ?_ _)); exact BK189.out⟩, ⟨by (with_reducible repeat (first | refine blk_drewN ?_ _ | refine blk_drew ?_ | refine blk_alloc ?_ _)); exact BK190.out⟩, ⟨by repeat (first | (with_reducible first | exact HB.out | apply below_alloc | apply pw_below_drewN | apply below_drew1 | refine below_set ?_ GE179.out | refine below_set ?_ GE180.out | refine below_set ?_ GE189.out | refine below_set ?_ GE190.out) | exact HB.out)⟩⟩
      · replace c29 := Bool.eq_false_iff.mpr c29
        subst c29
        have H1 : (laws_FnExactBoundsOf.j0 k l0 t181 true) = some r := by rw [if_neg (show ¬ (false = true) by decide)] at H; exact H
        clear H
        have H := H1
        clear H1
        have H' := Aside0.mk H
        clear H
        have hnb56 := NB189_179.out
        have hnc56 := NB179_189.out
        have hnb57 := NB189_180.out
        have hnc57 := NB180_189.out
        have hnb58 := NB189_190.out
        have hnc58 := NB190_189.out
        have hcz59_0 : w20.cell? ⟨gb189, 0, none⟩ = some (.int .i64 0) := (blk_cell BK189.out 0).trans rfl
        have hcz59_1 : w20.cell? ⟨gb189, 1, none⟩ = some (.int .i64 0) := (blk_cell BK189.out 1).trans rfl
        have hfz59_0 := blk_frozen BK189.out 0
        have hfz59_1 := blk_frozen BK189.out 1
        have hnb60 := NB179_180.out
        have hnc60 := NB180_179.out
        have hnb61 := NB179_190.out
        have hnc61 := NB190_179.out
        have hcz62_0 : w20.cell? ⟨gb179, 0, none⟩ = some (.int .i64 t174) := (blk_cell BK179.out 0).trans rfl
        have hcz62_1 : w20.cell? ⟨gb179, 1, none⟩ = some (.int .i64 t175) := (blk_cell BK179.out 1).trans rfl
        have hfz62_0 := blk_frozen BK179.out 0
        have hfz62_1 := blk_frozen BK179.out 1
        go_wp2_with (first | ((with_reducible refine gate_callee (f := 15) rfl ?_); refine goesL_ (some 30) rfl rfl Try.func15 (by kernel_rfl) rfl #[.agg #[.int .i64 t184, .int .i64 t185], .agg #[.int .i64 t174, .int .i64 t175]] rfl (by (try simp only [List.map_toArray, List.map_cons, List.map_nil]); first | done | rfl | (simp only [List.length_drop, List.length_take]; rfl)) ?_; (with_reducible refine (laws_eqRatio.calls t184 t185 t174 t175 false _ A28.out).mono ?_); rintro e w63 ⟨rfl, hb⟩; refine ⟨_, rfl, ?_⟩; have n0_ := Aside0.mk (Kd.R_below (by (with_reducible repeat (first | apply Kd.R_alloc | apply Kd.R_drewN | apply Kd.R_drew)); exact (Kd.R_mono (Kd.R_mono (Kd.R_far (p := ⟨gb190, 1, none⟩) (Kd.R_far (p := ⟨gb190, 0, none⟩) (Kd.R_far (p := ⟨gb189, 1, none⟩) (Kd.R_far (p := ⟨gb189, 0, none⟩) (Kd.R_types (Kd.R_types HO173.out BK189.out (by decide)) BK190.out (by decide)) (fun _ hk => hk.1.2) (.int .i64 t184)) (fun _ hk => hk.1.2) (.int .i64 t185)) (fun _ hk => hk.2) (.int .i64 t186)) (fun _ hk => hk.2) (.int .i64 t187)) (fun _ h_ => h_.1)) (fun _ h_ => h_.1))) hb); have n1_ := Aside0.mk (Kd.R_below (by (with_reducible repeat (first | apply Kd.R_alloc | apply Kd.R_drewN | apply Kd.R_drew)); exact (Kd.R_mono (Kd.R_mono (Kd.R_far (p := ⟨gb190, 1, none⟩) (Kd.R_far (p := ⟨gb190, 0, none⟩) (Kd.R_far (p := ⟨gb189, 1, none⟩) (Kd.R_far (p := ⟨gb189, 0, none⟩) (Kd.R_types (Kd.R_types HO183.out BK189.out (by decide)) BK190.out (by decide)) (fun _ hk => hk.1.2) (.int .i64 t184)) (fun _ hk => hk.1.2) (.int .i64 t185)) (fun _ hk => hk.2) (.int .i64 t186)) (fun _ hk => hk.2) (.int .i64 t187)) (fun _ h_ => h_.1)) (fun _ h_ => h_.1))) hb); have n2_ := Aside0.mk (blk_below (g := gb179) (o := .cells #[.int .i64 t174, .int .i64 t175] 24 (0, 0)) (by (with_reducible repeat (first | refine blk_drewN ?_ _ | refine blk_drew ?_ | refine blk_alloc ?_ _)); refine blk_far ?_ NB179_190.out _; (with_reducible repeat (first | refine blk_drewN ?_ _ | refine blk_drew ?_ | refine blk_alloc ?_ _)); refine blk_far ?_ NB179_190.out _; (with_reducible repeat (first | refine blk_drewN ?_ _ | refine blk_drew ?_ | refine blk_alloc ?_ _)); refine blk_far ?_ NB179_189.out _; (with_reducible repeat (first | refine blk_drewN ?_ _ | refine blk_drew ?_ | refine blk_alloc ?_ _)); refine blk_far ?_ NB179_189.out _; (with_reducible repeat (first | refine blk_drewN ?_ _ | refine blk_drew ?_ | refine blk_alloc ?_ _)); exact BK179.out) hb); have n3_ := Aside0.mk (blk_below (g := gb180) (o := .cells #[.int .i64 t176, .int .i64 t177] 24 (0, 0)) (by (with_reducible repeat (first | refine blk_drewN ?_ _ | refine blk_drew ?_ | refine blk_alloc ?_ _)); refine blk_far ?_ NB180_190.out _; (with_reducible repeat (first | refine blk_drewN ?_ _ | refine blk_drew ?_ | refine blk_alloc ?_ _)); refine blk_far ?_ NB180_190.out _; (with_reducible repeat (first | refine blk_drewN ?_ _ | refine blk_drew ?_ | refine blk_alloc ?_ _)); refine blk_far ?_ NB180_189.out _; (with_reducible repeat (first | refine blk_drewN ?_ _ | refine blk_drew ?_ | refine blk_alloc ?_ _)); refine blk_far ?_ NB180_189.out _; (with_reducible repeat (first | refine blk_drewN ?_ _ | refine blk_drew ?_ | refine blk_alloc ?_ _)); exact BK180.out) hb); have n4_ := Aside0.mk (blk_below (g := gb189) (o := .cells #[.int .i64 t184, .int .i64 t185] 24 (0, 0)) (by (with_reducible repeat (first | refine blk_drewN ?_ _ | refine blk_drew ?_ | refine blk_alloc ?_ _)); refine blk_far ?_ NB189_190.out _; (with_reducible repeat (first | refine blk_drewN ?_ _ | refine blk_drew ?_ | refine blk_alloc ?_ _)); refine blk_far ?_ NB189_190.out _; (with_reducible repeat (first | refine blk_drewN ?_ _ | refine blk_drew ?_ | refine blk_alloc ?_ _)); refine blk_put (cs := #[.int .i64 t184, .int .i64 0]) ?_ 1 _ rfl; (with_reducible repeat (first | refine blk_drewN ?_ _ | refine blk_drew ?_ | refine blk_alloc ?_ _)); refine blk_put (cs := #[.int .i64 0, .int .i64 0]) ?_ 0 _ rfl; (with_reducible repeat (first | refine blk_drewN ?_ _ | refine blk_drew ?_ | refine blk_alloc ?_ _)); exact BK189.out) hb); have n5_ := Aside0.mk (blk_below (g := gb190) (o := .cells #[.int .i64 t186, .int .i64 t187] 24 (0, 0)) (by (with_reducible repeat (first | refine blk_drewN ?_ _ | refine blk_drew ?_ | refine blk_alloc ?_ _)); refine blk_put (cs := #[.int .i64 t186, .int .i64 0]) ?_ 1 _ rfl; (with_reducible repeat (first | refine blk_drewN ?_ _ | refine blk_drew ?_ | refine blk_alloc ?_ _)); refine blk_put (cs := #[.int .i64 0, .int .i64 0]) ?_ 0 _ rfl; (with_reducible repeat (first | refine blk_drewN ?_ _ | refine blk_drew ?_ | refine blk_alloc ?_ _)); refine blk_far ?_ NB190_189.out _; (with_reducible repeat (first | refine blk_drewN ?_ _ | refine blk_drew ?_ | refine blk_alloc ?_ _)); refine blk_far ?_ NB190_189.out _; (with_reducible repeat (first | refine blk_drewN ?_ _ | refine blk_drew ?_ | refine blk_alloc ?_ _)); exact BK190.out) hb); have n6_ := Aside0.mk (below_step (by repeat (first | (with_reducible first | exact HB.out | apply below_alloc | apply pw_below_drewN | apply below_drew1 | refine below_set ?_ GE179.out | refine below_set ?_ GE180.out | refine below_set ?_ GE189.out | refine below_set ?_ GE190.out) | exact HB.out)) hb); clear HO173; clear HO183; clear BK179; clear BK180; clear BK189; clear BK190; clear HB; have HO173 := n0_; have HO183 := n1_; have BK179 := n2_; have BK180 := n3_; have BK189 := n4_; have BK190 := n5_; have HB := n6_; clear n0_ n1_ n2_ n3_ n4_ n5_ n6_; (try clear hb); (try clear hb2); (try clear hk); (try clear hi)))
        go_meet
        case rel => exact ⟨_, (true), (by first | rfl | (simp; done) | (simp [*]; done)), H', ⟨by first | omega | exact Nat.le_refl _⟩, ⟨by (with_reducible repeat (first | apply Kd.R_alloc | apply Kd.R_drewN | apply Kd.R_drew)); exact Kd.R_mono HO183.out (fun _ hk => trivial)⟩, ⟨by (with_reducible repeat (first | refine blk_drewN ?_ _ | refine blk_drew ?_ | refine blk_alloc ?_ _)); exact BK179.out⟩, ⟨by (with_reducible repeat (first | refine blk_drewN ?_ _ | refine blk_drew ?_ | refine blk_alloc ?_ _)); exact BK180.out⟩, ⟨by (with_reducible repeat (first | refine blk_drewN ?_ _ | refine blk_drew ?_ | refine blk_alloc ?_ _)); exact BK189.out⟩, ⟨by (with_reducible repeat (first | refine blk_drewN ?_ _ | refine blk_drew ?_ | refine blk_alloc ?_ _)); exact BK190.out⟩, ⟨by repeat (first | (with_reducible first | exact HB.out | apply below_alloc | apply pw_below_drewN | apply below_drew1 | refine below_set ?_ GE179.out | refine below_set ?_ GE180.out | refine below_set ?_ GE189.out | refine below_set ?_ GE190.out) | exact HB.out)⟩⟩
    case rest =>
      clear HC7
      try clear c1
      try clear c2
      try clear c2b0
      try clear c2b1
      try clear p2
      try clear c3
      try clear c4
      try clear c5
      try clear c6
      try clear c12
      try clear c13
      try clear c14
      try clear c15
      try clear c21
      try clear c22
      try clear c23
      try clear c25
      try clear c26
      try clear c29
      try clear c31
      try clear c32
      try clear c33
      try clear c34
      try clear c36
      try clear c37
      try clear c40
      try clear c44
      try clear c45
      try clear c46
      try clear c48
      try clear c49
      try clear c52
      try clear c56
      try clear c57
      try clear c58
      try clear c60
      try clear c61
      try clear hcz14_0
      try clear hcz14_1
      try clear hcz15_0
      try clear hcz15_1
      try clear hcz24_0
      try clear hcz24_1
      try clear hcz27_0
      try clear hcz27_1
      try clear hcz35_0
      try clear hcz35_1
      try clear hcz38_0
      try clear hcz38_1
      try clear hcz41_0
      try clear hcz41_1
      try clear hcz42_0
      try clear hcz42_1
      try clear hcz47_0
      try clear hcz47_1
      try clear hcz50_0
      try clear hcz50_1
      try clear hcz53_0
      try clear hcz53_1
      try clear hcz54_0
      try clear hcz54_1
      try clear hcz59_0
      try clear hcz59_1
      try clear hcz62_0
      try clear hcz62_1
      try clear hfz14_0
      try clear hfz14_1
      try clear hfz15_0
      try clear hfz15_1
      try clear hfz24_0
      try clear hfz24_1
      try clear hfz27_0
      try clear hfz27_1
      try clear hfz35_0
      try clear hfz35_1
      try clear hfz38_0
      try clear hfz38_1
      try clear hfz41_0
      try clear hfz41_1
      try clear hfz42_0
      try clear hfz42_1
      try clear hfz47_0
      try clear hfz47_1
      try clear hfz50_0
      try clear hfz50_1
      try clear hfz53_0
      try clear hfz53_1
      try clear hfz54_0
      try clear hfz54_1
      try clear hfz59_0
      try clear hfz59_1
      try clear hfz62_0
      try clear hfz62_1
      obtain ⟨kq, x42_6, rfl, HA, HJ6, HO_6, BK179, BK180, BK189, BK190, HB⟩ := hcut
      cases kq with
      | zero => exact absurd HA.out (by simp [laws_FnExactBoundsOf.j0])
      | succ kj6 =>
        have H := HA.out
        clear HA
        simp only [laws_FnExactBoundsOf.j0] at H
        by_cases c64 : x42_6 = true
        · subst c64
          have H1 : (some false) = some r := by rw [if_pos rfl] at H; exact H
          clear H
          have H := H1
          clear H1
          obtain rfl := Option.some.inj H
          go_wp2
          go_ret
          exact ⟨by first | rfl | (simp [errW_none, errW_some] <;> rfl) | (simp [*, errW_none, errW_some] <;> rfl), by repeat (first | (with_reducible first | exact HB.out | apply below_alloc | apply pw_below_drewN | apply below_drew1 | refine below_set ?_ GE179.out | refine below_set ?_ GE180.out | refine below_set ?_ GE189.out | refine below_set ?_ GE190.out) | exact HB.out)⟩
        · replace c64 := Bool.eq_false_iff.mpr c64
          subst c64
          have H1 : ((laws_toInt8S.f kj6 l0).bind fun t193 => ((laws_eqInt8S.f kj6 t181 t193).bind fun t196 => (if t196 = true then (some true) else (some false)))) = some r := by rw [if_neg (show ¬ (false = true) by decide)] at H; exact H
          clear H
          have H := H1
          clear H1
          replace H := Option.bind_eq_some_iff.mp H
          obtain ⟨t193, A650, H⟩ := H
          replace H : ((laws_eqInt8S.f kj6 t181 t193).bind fun t196 => (if t196 = true then (some true) else (some false))) = some r := H
          have A65 := Aside0.mk A650
          clear A650
          replace H := Option.bind_eq_some_iff.mp H
          obtain ⟨t196, A660, H⟩ := H
          replace H : (if t196 = true then (some true) else (some false)) = some r := H
          have A66 := Aside0.mk A660
          clear A660
          by_cases c67 : t196 = true
          · subst c67
            have H1 : (some true) = some r := by rw [if_pos rfl] at H; exact H
            clear H
            have H := H1
            clear H1
            obtain rfl := Option.some.inj H
            go_wp2_with (first | ((with_reducible refine gate_callee (f := 13) rfl ?_); refine goesL_ (some 45) rfl rfl Try.func13 (by kernel_rfl) rfl #[.slice A0 l0.length c0] rfl (by (try simp only [List.map_toArray, List.map_cons, List.map_nil]); first | done | rfl | (simp only [List.length_drop, List.length_take]; rfl)) ?_; (with_reducible refine (laws_toInt8S.calls kj6 _ _ l0 t193 _ ?side1 ?side2 A65.out).mono ?_); (case side1 => repeat (first | exact (Kd.C_below HR0.out HB.out) | (with_reducible refine Kd.C_alloc ?_ _) | (with_reducible refine Kd.C_drewN ?_ _) | (with_reducible refine Kd.C_drew ?_))); (case side2 => exact HC0.out); rintro e w68 ⟨v194, rfl, ho0, hb⟩; refine ⟨_, rfl, ?_⟩; have n0_ := Aside0.mk (Kd.R_elder' (by (with_reducible repeat (first | apply Kd.R_alloc | apply Kd.R_drewN | apply Kd.R_drew)); exact HO_6.out) (Kd.R_base ho0) hb); have n1_ := Aside0.mk (Kd.R_lower (Kd.R_new' ho0 (Kd.R_lt (by (with_reducible repeat (first | apply Kd.R_alloc | apply Kd.R_drewN | apply Kd.R_drew)); exact HO_6.out))) (below_size (by repeat (first | (with_reducible first | exact HB.out | apply below_alloc | apply pw_below_drewN | apply below_drew1 | refine below_set ?_ GE179.out | refine below_set ?_ GE180.out | refine below_set ?_ GE189.out | refine below_set ?_ GE190.out) | exact HB.out)))); have n2_ := Aside0.mk (blk_below (g := gb179) (o := .cells #[.int .i64 t174, .int .i64 t175] 24 (0, 0)) (by (with_reducible repeat (first | refine blk_drewN ?_ _ | refine blk_drew ?_ | refine blk_alloc ?_ _)); exact BK179.out) hb); have n3_ := Aside0.mk (blk_below (g := gb180) (o := .cells #[.int .i64 t176, .int .i64 t177] 24 (0, 0)) (by (with_reducible repeat (first | refine blk_drewN ?_ _ | refine blk_drew ?_ | refine blk_alloc ?_ _)); exact BK180.out) hb); have n4_ := Aside0.mk (blk_below (g := gb189) (o := .cells #[.int .i64 t184, .int .i64 t185] 24 (0, 0)) (by (with_reducible repeat (first | refine blk_drewN ?_ _ | refine blk_drew ?_ | refine blk_alloc ?_ _)); exact BK189.out) hb); have n5_ := Aside0.mk (blk_below (g := gb190) (o := .cells #[.int .i64 t186, .int .i64 t187] 24 (0, 0)) (by (with_reducible repeat (first | refine blk_drewN ?_ _ | refine blk_drew ?_ | refine blk_alloc ?_ _)); exact BK190.out) hb); have n6_ := Aside0.mk (below_step (by repeat (first | (with_reducible first | exact HB.out | apply below_alloc | apply pw_below_drewN | apply below_drew1 | refine below_set ?_ GE179.out | refine below_set ?_ GE180.out | refine below_set ?_ GE189.out | refine below_set ?_ GE190.out) | exact HB.out)) hb); clear HO_6; clear BK179; clear BK180; clear BK189; clear BK190; clear HB; have HO_6 := n0_; have HO195 := n1_; have BK179 := n2_; have BK180 := n3_; have BK189 := n4_; have BK190 := n5_; have HB := n6_; clear n0_ n1_ n2_ n3_ n4_ n5_ n6_; (try clear hb); (try clear hb2); (try clear hk); (try clear hi); (try clear ho0); obtain ⟨Ao69, co69, eo69⟩ := Kd.R_slice HO195.out; subst eo69) | ((with_reducible refine gate_callee (f := 16) rfl ?_); refine goesL_ (some 46) rfl rfl Try.func16 (by kernel_rfl) rfl #[.slice Ao17 t181.length co17, .slice Ao69 t193.length co69] rfl (by (try simp only [List.map_toArray, List.map_cons, List.map_nil]); first | done | rfl | (simp only [List.length_drop, List.length_take]; rfl)) ?_; (with_reducible refine (laws_eqInt8S.calls kj6 _ _ t181 _ _ t193 true _ ?side1 ?side2 ?side3 ?side4 A66.out).mono ?_); (case side1 => repeat (first | exact (Kd.R_reads' HO_6.out).2.2 | (with_reducible refine Kd.C_alloc ?_ _) | (with_reducible refine Kd.C_drewN ?_ _) | (with_reducible refine Kd.C_drew ?_))); (case side2 => exact (Kd.R_reads' HO_6.out).2.1); (case side3 => repeat (first | exact (Kd.R_reads' HO195.out).2.2 | (with_reducible refine Kd.C_alloc ?_ _) | (with_reducible refine Kd.C_drewN ?_ _) | (with_reducible refine Kd.C_drew ?_))); (case side4 => exact (Kd.R_reads' HO195.out).2.1); rintro e w' ⟨rfl, ⟨nd, rfl⟩⟩; refine ⟨_, rfl, ?_⟩))
            go_ret
            exact ⟨by first | rfl | (simp [errW_none, errW_some] <;> rfl) | (simp [*, errW_none, errW_some] <;> rfl), by repeat (first | (with_reducible first | exact HB.out | apply below_alloc | apply pw_below_drewN | apply below_drew1 | refine below_set ?_ GE179.out | refine below_set ?_ GE180.out | refine below_set ?_ GE189.out | refine below_set ?_ GE190.out) | exact HB.out)⟩
          · replace c67 := Bool.eq_false_iff.mpr c67
            subst c67
            have H1 : (some false) = some r := by rw [if_neg (show ¬ (false = true) by decide)] at H; exact H
            clear H
            have H := H1
            clear H1
            obtain rfl := Option.some.inj H
            go_wp2_with (first | ((with_reducible refine gate_callee (f := 13) rfl ?_); refine goesL_ (some 45) rfl rfl Try.func13 (by kernel_rfl) rfl #[.slice A0 l0.length c0] rfl (by (try simp only [List.map_toArray, List.map_cons, List.map_nil]); first | done | rfl | (simp only [List.length_drop, List.length_take]; rfl)) ?_; (with_reducible refine (laws_toInt8S.calls kj6 _ _ l0 t193 _ ?side1 ?side2 A65.out).mono ?_); (case side1 => repeat (first | exact (Kd.C_below HR0.out HB.out) | (with_reducible refine Kd.C_alloc ?_ _) | (with_reducible refine Kd.C_drewN ?_ _) | (with_reducible refine Kd.C_drew ?_))); (case side2 => exact HC0.out); rintro e w70 ⟨v194, rfl, ho0, hb⟩; refine ⟨_, rfl, ?_⟩; have n0_ := Aside0.mk (Kd.R_elder' (by (with_reducible repeat (first | apply Kd.R_alloc | apply Kd.R_drewN | apply Kd.R_drew)); exact HO_6.out) (Kd.R_base ho0) hb); have n1_ := Aside0.mk (Kd.R_lower (Kd.R_new' ho0 (Kd.R_lt (by (with_reducible repeat (first | apply Kd.R_alloc | apply Kd.R_drewN | apply Kd.R_drew)); exact HO_6.out))) (below_size (by repeat (first | (with_reducible first | exact HB.out | apply below_alloc | apply pw_below_drewN | apply below_drew1 | refine below_set ?_ GE179.out | refine below_set ?_ GE180.out | refine below_set ?_ GE189.out | refine below_set ?_ GE190.out) | exact HB.out)))); have n2_ := Aside0.mk (blk_below (g := gb179) (o := .cells #[.int .i64 t174, .int .i64 t175] 24 (0, 0)) (by (with_reducible repeat (first | refine blk_drewN ?_ _ | refine blk_drew ?_ | refine blk_alloc ?_ _)); exact BK179.out) hb); have n3_ := Aside0.mk (blk_below (g := gb180) (o := .cells #[.int .i64 t176, .int .i64 t177] 24 (0, 0)) (by (with_reducible repeat (first | refine blk_drewN ?_ _ | refine blk_drew ?_ | refine blk_alloc ?_ _)); exact BK180.out) hb); have n4_ := Aside0.mk (blk_below (g := gb189) (o := .cells #[.int .i64 t184, .int .i64 t185] 24 (0, 0)) (by (with_reducible repeat (first | refine blk_drewN ?_ _ | refine blk_drew ?_ | refine blk_alloc ?_ _)); exact BK189.out) hb); have n5_ := Aside0.mk (blk_below (g := gb190) (o := .cells #[.int .i64 t186, .int .i64 t187] 24 (0, 0)) (by (with_reducible repeat (first | refine blk_drewN ?_ _ | refine blk_drew ?_ | refine blk_alloc ?_ _)); exact BK190.out) hb); have n6_ := Aside0.mk (below_step (by repeat (first | (with_reducible first | exact HB.out | apply below_alloc | apply pw_below_drewN | apply below_drew1 | refine below_set ?_ GE179.out | refine below_set ?_ GE180.out | refine below_set ?_ GE189.out | refine below_set ?_ GE190.out) | exact HB.out)) hb); clear HO_6; clear BK179; clear BK180; clear BK189; clear BK190; clear HB; have HO_6 := n0_; have HO195 := n1_; have BK179 := n2_; have BK180 := n3_; have BK189 := n4_; have BK190 := n5_; have HB := n6_; clear n0_ n1_ n2_ n3_ n4_ n5_ n6_; (try clear hb); (try clear hb2); (try clear hk); (try clear hi); (try clear ho0); obtain ⟨Ao71, co71, eo71⟩ := Kd.R_slice HO195.out; subst eo71) | ((with_reducible refine gate_callee (f := 16) rfl ?_); refine goesL_ (some 46) rfl rfl Try.func16 (by kernel_rfl) rfl #[.slice Ao17 t181.length co17, .slice Ao71 t193.length co71] rfl (by (try simp only [List.map_toArray, List.map_cons, List.map_nil]); first | done | rfl | (simp only [List.length_drop, List.length_take]; rfl)) ?_; (with_reducible refine (laws_eqInt8S.calls kj6 _ _ t181 _ _ t193 false _ ?side1 ?side2 ?side3 ?side4 A66.out).mono ?_); (case side1 => repeat (first | exact (Kd.R_reads' HO_6.out).2.2 | (with_reducible refine Kd.C_alloc ?_ _) | (with_reducible refine Kd.C_drewN ?_ _) | (with_reducible refine Kd.C_drew ?_))); (case side2 => exact (Kd.R_reads' HO_6.out).2.1); (case side3 => repeat (first | exact (Kd.R_reads' HO195.out).2.2 | (with_reducible refine Kd.C_alloc ?_ _) | (with_reducible refine Kd.C_drewN ?_ _) | (with_reducible refine Kd.C_drew ?_))); (case side4 => exact (Kd.R_reads' HO195.out).2.1); rintro e w' ⟨rfl, ⟨nd, rfl⟩⟩; refine ⟨_, rfl, ?_⟩))
            go_ret
            exact ⟨by first | rfl | (simp [errW_none, errW_some] <;> rfl) | (simp [*, errW_none, errW_some] <;> rfl), by repeat (first | (with_reducible first | exact HB.out | apply below_alloc | apply pw_below_drewN | apply below_drew1 | refine below_set ?_ GE179.out | refine below_set ?_ GE180.out | refine below_set ?_ GE189.out | refine below_set ?_ GE190.out) | exact HB.out)⟩

/-! ### the law's arguments -/
/-- THE ONE PURE STATEMENT of laws_FnExactBoundsOf. -/
def laws_FnExactBoundsOf.Pure : Prop := ∀ (x0 : List Int), (x0.length * 1 ≤ 140737488351232 ∧ ∀ z_ ∈ x0, (-128) ≤ z_ ∧ z_ ≤ 127) → ∃ k, laws_FnExactBoundsOf.f k x0 = some true
theorem laws_FnExactBoundsOf.walk (P_ : laws_FnExactBoundsOf.Pure) (w : World) (A0 : Option Addr) (c0 : Nat) (x0 : List Int) (hr0 : Kd.C (Kd.int .i8) w A0 x0.length x0) (hc0 : x0.length ≤ c0) (hw0 : x0.length * 1 ≤ 140737488351232 ∧ ∀ z_ ∈ x0, (-128) ≤ z_ ∧ z_ ≤ 127) :
    Calls Try.prog 3 #[.slice A0 x0.length c0] w fun e w' => e = .returned (.bool true) ∧ Below w.heap.size w w' := by
  obtain ⟨k, h⟩ := P_ x0 hw0
  refine (laws_FnExactBoundsOf.calls k _ _ x0 true w hr0 hc0 h).mono ?_
  rintro e w' ⟨rfl, hd⟩
  exact ⟨rfl, hd⟩

end Go.Proofs.Ytfenifdigjcmiaa.MFnExactBoundsOf
