/- Functions of the program as Lean functions, and the proof that the code comes to what they say. Written by a program of this session (myprint.py). -/
import Derived.Test.YtbomadebdekjjaaMFnRootsx0
import Derived.Test.YtbomadebdekjjaaMFnRootsx1
import Derived.Test.YtbomadebdekjjaaMFnRootsx5
import Derived.Test.YtbomadebdekjjaaMFnRootsx6
namespace Go.Proofs.Ytbomadebdekjjaa.MFnRoots
open Go.RowKit Go.Proofs.Ytbomadebdekjjaa.MOpen Go.Proofs.YtbomadebdekjjaaW.PrintWords Go.Proofs.YtbomadebdekjjaaW.PrintLast Go.Proofs.YtbomadebdekjjaaW.PrintMore
attribute [local go_sem] max2_int min2_int max_two min_two max_three min_three max_four min_four   -- for this text's walks alone
set_option linter.unusedVariables false
set_option linter.unusedSimpArgs false

attribute [local go_sem high] eqA23
/-! ### laws_a2Long: function 37 -/
def laws_a2Long.f (l0 : List Int) (l1 : List Int) : Option (Bool) := if (l0.length : Int) > 3000 then (some true) else (some (decide ((l1.length : Int) > 3000)))
set_option maxHeartbeats 8000000 in
set_option maxRecDepth 100000 in
theorem laws_a2Long.calls (A0 : Option Addr) (c0 : Nat) (l0 : List Int) (A1 : Option Addr) (c1 : Nat) (l1 : List Int) (r : Bool) (w : World) (hr0 : Kd.C (Kd.int .u8) w A0 l0.length l0) (hc0 : l0.length ≤ c0) (hr1 : Kd.C (Kd.int .u8) w A1 l1.length l1) (hc1 : l1.length ≤ c1) (h : laws_a2Long.f l0 l1 = some r) :
    Calls Try.prog 37 #[.slice A0 l0.length c0, .slice A1 l1.length c1] w fun e w' => e = .returned (.bool r) ∧ Drawn0 w w' := by
  have HR0 := Aside0.mk hr0
  have HC0 := Aside0.mk hc0
  clear hr0 hc0
  have HR1 := Aside0.mk hr1
  have HC1 := Aside0.mk hc1
  clear hr1 hc1
  have H : (if (l0.length : Int) > 3000 then (some true) else (some (decide ((l1.length : Int) > 3000)))) = some r := h
  clear h
  by_cases c3 : (l0.length : Int) > 3000
  · rw [if_pos c3] at H
    have c3b0 : decide (3000 < (l0.length : Int)) = true := decide_eq_true c3
    have c3b1 : decide (3000 < l0.length) = true := decide_eq_true (by omega)
    clear c3
    obtain rfl := Option.some.inj H
    go_enter Try.func37, Try.ntmps37
    go_wp2
    go_ret
    exact ⟨by first | rfl | (simp; done) | (simp [*]; done), by repeat (first | exact Drawn0.refl _ | apply Drawn0.step)⟩
  · rw [if_neg c3] at H
    have c3b0 : decide (3000 < (l0.length : Int)) = false := decide_eq_false c3
    have c3b1 : decide (3000 < l0.length) = false := decide_eq_false (by omega)
    clear c3
    obtain rfl := Option.some.inj H
    go_enter Try.func37, Try.ntmps37
    go_wp2
    go_ret
    exact ⟨by first | rfl | (simp; done) | (simp [*]; done), by repeat (first | exact Drawn0.refl _ | apply Drawn0.step)⟩

/-! ### laws_a2At: function 38 -/
def laws_a2At.f (l0 : List Int) (a1 : Int) (a2 : Int) : Option (Int) := if a1 ≥ (l0.length : Int) then (some 0) else (if a2 < 1 then (some 0) else (if 0 ≤ a1 then (if a1 < (l0.length : Int) then (if a2 = 0 then (none) else (some (Int.tmod (wrap64 (rd l0 a1)) a2))) else (none)) else (none)))
set_option maxHeartbeats 8000000 in
set_option maxRecDepth 100000 in
theorem laws_a2At.calls (A0 : Option Addr) (c0 : Nat) (l0 : List Int) (a1 : Int) (a2 : Int) (r : Int) (w : World) (hr0 : Kd.C (Kd.int .u8) w A0 l0.length l0) (hc0 : l0.length ≤ c0) (h : laws_a2At.f l0 a1 a2 = some r) :
    Calls Try.prog 38 #[.slice A0 l0.length c0, .int .i64 a1, .int .i64 a2] w fun e w' => e = .returned (.int .i64 r) ∧ Drawn0 w w' := by
  have HR0 := Aside0.mk hr0
  have HC0 := Aside0.mk hc0
  clear hr0 hc0
  have H : (if a1 ≥ (l0.length : Int) then (some 0) else (if a2 < 1 then (some 0) else (if 0 ≤ a1 then (if a1 < (l0.length : Int) then (if a2 = 0 then (none) else (some (Int.tmod (wrap64 (rd l0 a1)) a2))) else (none)) else (none)))) = some r := h
  clear h
  by_cases c4 : a1 ≥ (l0.length : Int)
  · rw [if_pos c4] at H
    have c4b0 : decide ((l0.length : Int) ≤ a1) = true := decide_eq_true c4
    clear c4
    obtain rfl := Option.some.inj H
    go_enter Try.func38, Try.ntmps38
    go_wp2
    go_ret
    exact ⟨by first | rfl | (simp; done) | (simp [*]; done), by repeat (first | exact Drawn0.refl _ | apply Drawn0.step)⟩
  · rw [if_neg c4] at H
    have c4b0 : decide ((l0.length : Int) ≤ a1) = false := decide_eq_false c4
    clear c4
    by_cases c5 : a2 < 1
    · rw [if_pos c5] at H
      have c5b0 : decide (a2 < 1) = true := decide_eq_true c5
      clear c5
      obtain rfl := Option.some.inj H
      go_enter Try.func38, Try.ntmps38
      go_wp2
      go_ret
      exact ⟨by first | rfl | (simp; done) | (simp [*]; done), by repeat (first | exact Drawn0.refl _ | apply Drawn0.step)⟩
    · rw [if_neg c5] at H
      have c5b0 : decide (a2 < 1) = false := decide_eq_false c5
      clear c5
      by_cases c6 : 0 ≤ a1
      · rw [if_pos c6] at H
        have c6b0 : decide (0 ≤ a1) = true := decide_eq_true c6
        clear c6
        by_cases c7 : a1 < (l0.length : Int)
        · rw [if_pos c7] at H
          have c7b0 : decide (a1 < (l0.length : Int)) = true := decide_eq_true c7
          clear c7
          by_cases c8 : a2 = 0
          · rw [if_pos c8] at H
            exact absurd H (by simp)
          · rw [if_neg c8] at H
            have c8b0 : (a2 == 0) = false := beq_eq_false_iff_ne.mpr c8
            have c8b1 : (a2 != 0) = true := bne_iff_ne.mpr c8
            obtain rfl := Option.some.inj H
            have p256 : 0 ≤ (a1 : Int) := of_decide_eq_true (by first | (with_reducible assumption) | assumption)
            have q256 : a1 < (l0.length : Int) := of_decide_eq_true (by first | (with_reducible assumption) | assumption)
            obtain ⟨ad256, e256, hx256_0⟩ := Kd.at_int HR0.out a1 p256 q256
            cases e256
            replace p256 := eq_true p256
            replace q256 := eq_true q256
            go_enter Try.func38, Try.ntmps38
            go_wp2
            go_ret
            exact ⟨by first | rfl | (simp; done) | (simp [*]; done), by repeat (first | exact Drawn0.refl _ | apply Drawn0.step)⟩
        · rw [if_neg c7] at H
          exact absurd H (by simp)
      · rw [if_neg c6] at H
        exact absurd H (by simp)

/-! ### spec_RootTerms: function 40 -/
def spec_RootTerms.f (k : Nat) (a0 : Int) : Option (Int × List Int × Int) := (spec_l04Period.f k a0).bind fun bt257 => (some (bt257.1, bt257.2.1, bt257.2.2))
theorem spec_RootTerms.mono : ∀ a0 k, LeO (spec_RootTerms.f k a0) (spec_RootTerms.f (k + 1) a0) := by
  intro a0 k
  unfold spec_RootTerms.f
  repeat' first
      | (with_reducible exact spec_l04Period.mono _ _)
      | (with_reducible exact LeO.refl _)
      | (with_reducible exact LeO.none _)
      | (with_reducible refine LeO.ite ?_ ?_)
      | (with_reducible refine LeO.bind ?_ (fun _ => ?_))
      | exact spec_l04Period.mono _ _
      | exact LeO.none _
      | refine LeO.ite ?_ ?_
      | refine LeO.bind ?_ (fun _ => ?_)
set_option maxHeartbeats 8000000 in
set_option maxRecDepth 100000 in
theorem spec_RootTerms.calls (k : Nat) (a0 : Int) (r1 : Int) (r2 : List Int) (r3 : Int) (w : World) (h : spec_RootTerms.f k a0 = some (r1, r2, r3)) :
    Calls Try.prog 40 #[.int .i64 a0] w fun e w' => ∃ v1_ : Value, e = .returned (.tuple #[.int .i64 r1, v1_, .int .i64 r3]) ∧ Kd.R (Kd.int .i64) 2 w' w.heap.size (fun _ => True) v1_ r2 ∧ Below w.heap.size w w' := by
  have HB := Aside0.mk (Below.refl w.heap.size w)
  have H : ((spec_l04Period.f k a0).bind fun bt257 => (some (bt257.1, bt257.2.1, bt257.2.2))) = some (r1, r2, r3) := h
  clear h
  replace H := Option.bind_eq_some_iff.mp H
  obtain ⟨⟨t257, t258, t259⟩, A20, H⟩ := H
  replace H : (some (t257, t258, t259)) = some (r1, r2, r3) := H
  have A2 := Aside0.mk A20
  clear A20
  simp only [Option.some.injEq, Prod.mk.injEq] at H
  obtain ⟨rfl, rfl, rfl⟩ := H
  go_enter Try.func40, Try.ntmps40
  go_wp2_with (first | ((with_reducible refine gate_callee (f := 47) rfl ?_); refine goesL_ (some 6) rfl rfl Try.func47 (by kernel_rfl) rfl #[.int .i64 a0] rfl (by (try simp only [List.map_toArray, List.map_cons, List.map_nil]); first | done | rfl | (simp only [List.length_drop, List.length_take]; rfl) | (simp only [List.drop_one]; done) | (simp only [List.drop_one]; rfl)) ?_; (with_reducible refine (spec_l04Period.calls k a0 t257 t258 t259 _ A2.out).mono ?_); rintro e w3 ⟨v260, rfl, ho0, hb⟩; refine ⟨_, rfl, ?_⟩; have n0_ := Aside0.mk (Kd.R_lower ho0 (below_size (by repeat (first | (with_reducible first | exact HB.out | apply below_alloc | apply pw_below_drewN | apply below_drew1) | exact HB.out)))); have n1_ := Aside0.mk (below_step (by repeat (first | (with_reducible first | exact HB.out | apply below_alloc | apply pw_below_drewN | apply below_drew1) | exact HB.out)) hb); clear HB; have HO261 := n0_; have HB := n1_; clear n0_ n1_; (try clear hb); (try clear hb2); (try clear hk); (try clear hi); (try clear ho0)))
  go_ret3
  exact ⟨_, by first | rfl | (simp [errW_none, errW_some] <;> rfl) | (simp [*, errW_none, errW_some] <;> rfl), by (with_reducible repeat (first | apply Kd.R_alloc | apply Kd.R_drewN | apply Kd.R_drew)); exact HO261.out, by repeat (first | (with_reducible first | exact HB.out | apply below_alloc | apply pw_below_drewN | apply below_drew1) | exact HB.out)⟩

/-! ### spec_l00Same: function 78 -/
def spec_l00Same.l0 : Nat → List Int → List Int → Int → Option (Bool)
  | 0, _, _, _ => none
  | k + 1, x0, x1, x5 => if x5 < (x0.length : Int) then (if 0 ≤ x5 then (if x5 < (x1.length : Int) then (if (rd x0 x5) = (rd x1 x5) then (spec_l00Same.l0 k x0 x1 (wrap64 (x5 + 1))) else (some false)) else (none)) else (none)) else (some true)
def spec_l00Same.f (k : Nat) (l0 : List Int) (l1 : List Int) : Option (Bool) := if (l0.length : Int) = (l1.length : Int) then (spec_l00Same.l0 k l0 l1 0) else (some false)
theorem spec_l00Same.mono_l : ∀ k, (∀ y0 y1 y2, LeO (spec_l00Same.l0 k y0 y1 y2) (spec_l00Same.l0 (k + 1) y0 y1 y2))
  | 0 => fun _ _ _ r h => by simp [spec_l00Same.l0] at h
  | k + 1 => by
    have ih0 := spec_l00Same.mono_l k
    · intro y0 y1 y2
      unfold spec_l00Same.l0
      repeat' first
      | (with_reducible exact ih0 _ _ _)
      | (with_reducible exact LeO.refl _)
      | (with_reducible exact LeO.none _)
      | (with_reducible refine LeO.ite ?_ ?_)
      | (with_reducible refine LeO.bind ?_ (fun _ => ?_))
      | exact ih0 _ _ _
      | exact LeO.none _
      | refine LeO.ite ?_ ?_
      | refine LeO.bind ?_ (fun _ => ?_)
theorem spec_l00Same.mono : ∀ a0 a1 k, LeO (spec_l00Same.f k a0 a1) (spec_l00Same.f (k + 1) a0 a1) := by
  intro a0 a1 k
  have ih0 := spec_l00Same.mono_l k
  unfold spec_l00Same.f
  repeat' first
      | (with_reducible exact ih0 _ _ _)
      | (with_reducible exact LeO.refl _)
      | (with_reducible exact LeO.none _)
      | (with_reducible refine LeO.ite ?_ ?_)
      | (with_reducible refine LeO.bind ?_ (fun _ => ?_))
      | exact ih0 _ _ _
      | exact LeO.none _
      | refine LeO.ite ?_ ?_
      | refine LeO.bind ?_ (fun _ => ?_)
set_option maxHeartbeats 8000000 in
set_option maxRecDepth 100000 in
theorem spec_l00Same.calls (k : Nat) (A0 : Option Addr) (c0 : Nat) (l0 : List Int) (A1 : Option Addr) (c1 : Nat) (l1 : List Int) (r : Bool) (w : World) (hr0 : Kd.C (Kd.int .i64) w A0 l0.length l0) (hc0 : l0.length ≤ c0) (hr1 : Kd.C (Kd.int .i64) w A1 l1.length l1) (hc1 : l1.length ≤ c1) (h : spec_l00Same.f k l0 l1 = some r) :
    Calls Try.prog 78 #[.slice A0 l0.length c0, .slice A1 l1.length c1] w fun e w' => e = .returned (.bool r) ∧ Drawn0 w w' := by
  have HR0 := Aside0.mk hr0
  have HC0 := Aside0.mk hc0
  clear hr0 hc0
  have HR1 := Aside0.mk hr1
  have HC1 := Aside0.mk hc1
  clear hr1 hc1
  have H : (if (l0.length : Int) = (l1.length : Int) then (spec_l00Same.l0 k l0 l1 0) else (some false)) = some r := h
  clear h
  by_cases c3 : (l0.length : Int) = (l1.length : Int)
  · rw [if_pos c3] at H
    have c3b0 : ((l0.length : Int) == (l1.length : Int)) = true := beq_iff_eq.mpr c3
    have c3b1 : ((l0.length : Int) != (l1.length : Int)) = false := bne_eq_false_iff_eq.mpr c3
    have c3b2 : (l0.length == l1.length) = true := by first | simpa using c3 | (simp at c3 ⊢; omega)
    clear c3
    have H' := Aside0.mk H
    clear H
    go_enter Try.func78, Try.ntmps78
    go_wp2
    repeat (go_quiet (fail); try go_wp2)
    go_loopg [5] k (fun kq v5 w' => ∃ (x5_1 : Int), v5 = .int .i64 x5_1 ∧ Aside0 (spec_l00Same.l0 kq l0 l1 x5_1 = some r) ∧ Aside0 (kq ≤ k) ∧ Drawn0 w w')
    case atStart => exact ⟨(0), (by first | rfl | (simp; done) | (simp [*]; done)), H', ⟨Nat.le_refl _⟩, by repeat (first | exact Drawn0.refl _ | apply Drawn0.step)⟩
    case round =>
      clear H'
      try clear c1
      try clear p2
      try clear c3
      try clear c3b0
      try clear c3b1
      try clear c3b2
      obtain ⟨x5_1, rfl, HA, HK1, ⟨m1, rfl⟩⟩ := hrel
      cases gk with
      | zero => exact absurd HA.out (by simp [spec_l00Same.l0])
      | succ k1 =>
        have H := HA.out
        clear HA
        simp only [spec_l00Same.l0] at H
        by_cases c4 : x5_1 < (l0.length : Int)
        · rw [if_pos c4] at H
          have c4b0 : decide (x5_1 < (l0.length : Int)) = true := decide_eq_true c4
          clear c4
          by_cases c5 : 0 ≤ x5_1
          · rw [if_pos c5] at H
            have c5b0 : decide (0 ≤ x5_1) = true := decide_eq_true c5
            clear c5
            by_cases c6 : x5_1 < (l1.length : Int)
            · rw [if_pos c6] at H
              have c6b0 : decide (x5_1 < (l1.length : Int)) = true := decide_eq_true c6
              clear c6
              by_cases c7 : (rd l0 x5_1) = (rd l1 x5_1)
              · rw [if_pos c7] at H
                have c7b0 : ((rd l0 x5_1) == (rd l1 x5_1)) = true := beq_iff_eq.mpr c7
                have c7b1 : ((rd l0 x5_1) != (rd l1 x5_1)) = false := bne_eq_false_iff_eq.mpr c7
                clear c7
                have H' := Aside0.mk H
                clear H
                have p262 : 0 ≤ (x5_1 : Int) := of_decide_eq_true (by first | (with_reducible assumption) | assumption)
                have q262 : x5_1 < (l0.length : Int) := of_decide_eq_true (by first | (with_reducible assumption) | assumption)
                obtain ⟨ad262, e262, hx262_0⟩ := Kd.at_int HR0.out x5_1 p262 q262
                cases e262
                replace p262 := eq_true p262
                replace q262 := eq_true q262
                have p263 : 0 ≤ (x5_1 : Int) := of_decide_eq_true (by first | (with_reducible assumption) | assumption)
                have q263 : x5_1 < (l1.length : Int) := of_decide_eq_true (by first | (with_reducible assumption) | assumption)
                obtain ⟨ad263, e263, hx263_0⟩ := Kd.at_int HR1.out x5_1 p263 q263
                cases e263
                replace p263 := eq_true p263
                replace q263 := eq_true q263
                go_wp2
                repeat (go_quiet (fail); try go_wp2)
                go_roundg k1
                case measure => have := HK1.out; omega
                case rel => exact ⟨(wrap64 (x5_1 + 1)), (by first | rfl | (simp; done) | (simp [*]; done)), H', ⟨by have := HK1.out; omega⟩, by repeat (first | exact Drawn0.refl _ | apply Drawn0.step)⟩
              · rw [if_neg c7] at H
                have c7b0 : ((rd l0 x5_1) == (rd l1 x5_1)) = false := beq_eq_false_iff_ne.mpr c7
                have c7b1 : ((rd l0 x5_1) != (rd l1 x5_1)) = true := bne_iff_ne.mpr c7
                obtain rfl := Option.some.inj H
                have p262 : 0 ≤ (x5_1 : Int) := of_decide_eq_true (by first | (with_reducible assumption) | assumption)
                have q262 : x5_1 < (l0.length : Int) := of_decide_eq_true (by first | (with_reducible assumption) | assumption)
                obtain ⟨ad262, e262, hx262_0⟩ := Kd.at_int HR0.out x5_1 p262 q262
                cases e262
                replace p262 := eq_true p262
                replace q262 := eq_true q262
                have p263 : 0 ≤ (x5_1 : Int) := of_decide_eq_true (by first | (with_reducible assumption) | assumption)
                have q263 : x5_1 < (l1.length : Int) := of_decide_eq_true (by first | (with_reducible assumption) | assumption)
                obtain ⟨ad263, e263, hx263_0⟩ := Kd.at_int HR1.out x5_1 p263 q263
                cases e263
                replace p263 := eq_true p263
                replace q263 := eq_true q263
                go_wp2
                repeat (go_quiet (fail); try go_wp2)
                go_ret
                exact ⟨by first | rfl | (simp; done) | (simp [*]; done), by repeat (first | exact Drawn0.refl _ | apply Drawn0.step)⟩
            · rw [if_neg c6] at H
              exact absurd H (by simp)
          · rw [if_neg c5] at H
            exact absurd H (by simp)
        · rw [if_neg c4] at H
          have c4b0 : decide (x5_1 < (l0.length : Int)) = false := decide_eq_false c4
          clear c4
          obtain rfl := Option.some.inj H
          go_wp2
          repeat (go_quiet (fail); try go_wp2)
          go_ret
          exact ⟨by first | rfl | (simp; done) | (simp [*]; done), by repeat (first | exact Drawn0.refl _ | apply Drawn0.step)⟩
  · rw [if_neg c3] at H
    have c3b0 : ((l0.length : Int) == (l1.length : Int)) = false := beq_eq_false_iff_ne.mpr c3
    have c3b1 : ((l0.length : Int) != (l1.length : Int)) = true := bne_iff_ne.mpr c3
    have c3b2 : (l0.length == l1.length) = false := by first | simpa using c3 | (simp at c3 ⊢; omega)
    obtain rfl := Option.some.inj H
    go_enter Try.func78, Try.ntmps78
    go_wp2
    repeat (go_quiet (fail); try go_wp2)
    go_ret
    exact ⟨by first | rfl | (simp; done) | (simp [*]; done), by repeat (first | exact Drawn0.refl _ | apply Drawn0.step)⟩

/-! ### spec_A2Same: function 41 -/
def spec_A2Same.f (k : Nat) (l0 : List Int) (l1 : List Int) : Option (Bool) := (spec_l00Same.f k l0 l1).bind fun t264 => (some t264)
theorem spec_A2Same.mono : ∀ a0 a1 k, LeO (spec_A2Same.f k a0 a1) (spec_A2Same.f (k + 1) a0 a1) := by
  intro a0 a1 k
  unfold spec_A2Same.f
  repeat' first
      | (with_reducible exact spec_l00Same.mono _ _ _)
      | (with_reducible exact LeO.refl _)
      | (with_reducible exact LeO.none _)
      | (with_reducible refine LeO.ite ?_ ?_)
      | (with_reducible refine LeO.bind ?_ (fun _ => ?_))
      | exact spec_l00Same.mono _ _ _
      | exact LeO.none _
      | refine LeO.ite ?_ ?_
      | refine LeO.bind ?_ (fun _ => ?_)
set_option maxHeartbeats 8000000 in
set_option maxRecDepth 100000 in
theorem spec_A2Same.calls (k : Nat) (A0 : Option Addr) (c0 : Nat) (l0 : List Int) (A1 : Option Addr) (c1 : Nat) (l1 : List Int) (r : Bool) (w : World) (hr0 : Kd.C (Kd.int .i64) w A0 l0.length l0) (hc0 : l0.length ≤ c0) (hr1 : Kd.C (Kd.int .i64) w A1 l1.length l1) (hc1 : l1.length ≤ c1) (h : spec_A2Same.f k l0 l1 = some r) :
    Calls Try.prog 41 #[.slice A0 l0.length c0, .slice A1 l1.length c1] w fun e w' => e = .returned (.bool r) ∧ Drawn0 w w' := by
  have HR0 := Aside0.mk hr0
  have HC0 := Aside0.mk hc0
  clear hr0 hc0
  have HR1 := Aside0.mk hr1
  have HC1 := Aside0.mk hc1
  clear hr1 hc1
  have H : ((spec_l00Same.f k l0 l1).bind fun t264 => (some t264)) = some r := h
  clear h
  replace H := Option.bind_eq_some_iff.mp H
  obtain ⟨t264, A30, H⟩ := H
  replace H : (some t264) = some r := H
  have A3 := Aside0.mk A30
  clear A30
  obtain rfl := Option.some.inj H
  go_enter Try.func41, Try.ntmps41
  go_wp2_with (first | ((with_reducible refine gate_callee (f := 78) rfl ?_); refine goesL_ (some 7) rfl rfl Try.func78 (by kernel_rfl) rfl #[.slice A0 l0.length c0, .slice A1 l1.length c1] rfl (by (try simp only [List.map_toArray, List.map_cons, List.map_nil]); first | done | rfl | (simp only [List.length_drop, List.length_take]; rfl) | (simp only [List.drop_one]; done) | (simp only [List.drop_one]; rfl)) ?_; (with_reducible refine (spec_l00Same.calls k _ _ l0 _ _ l1 t264 _ ?side1 ?side2 ?side3 ?side4 A3.out).mono ?_); (case side1 => repeat (first | exact HR0.out | (with_reducible refine Kd.C_alloc ?_ _) | (with_reducible refine Kd.C_drewN ?_ _) | (with_reducible refine Kd.C_drew ?_))); (case side2 => exact HC0.out); (case side3 => repeat (first | exact HR1.out | (with_reducible refine Kd.C_alloc ?_ _) | (with_reducible refine Kd.C_drewN ?_ _) | (with_reducible refine Kd.C_drew ?_))); (case side4 => exact HC1.out); rintro e w' ⟨rfl, ⟨nd, rfl⟩⟩; refine ⟨_, rfl, ?_⟩))
  go_ret
  exact ⟨by first | rfl | (simp; done) | (simp [*]; done), by repeat (first | exact Drawn0.refl _ | apply Drawn0.step)⟩

/-! ### impl_rootBegin: function 52 -/
def impl_rootBegin.j0 : Nat → Int → Int → Bool → Option (Int × List Int × Int)
  | 0, _, _, _ => none
  | k + 1, x0, x1, x20 => if x20 = true then (some (0, ([] : List Int), 2)) else ((impl_RootTerms.f k x0).bind fun bt267 => (if bt267.2.2 = 0 then (if (bt267.2.1.length : Int) = 0 then (if x1 > 0 then (some (0, ([] : List Int), 6)) else (some (bt267.1, bt267.2.1, bt267.2.2))) else (some (bt267.1, bt267.2.1, bt267.2.2))) else (some (bt267.1, bt267.2.1, bt267.2.2))))
def impl_rootBegin.f (k : Nat) (a0 : Int) (a1 : Int) (a2 : Int) : Option (Int × List Int × Int) := (impl_within.f a0 0 1000000).bind fun t265 => (if t265 = true then ((impl_within.f a1 0 a2).bind fun t266 => (impl_rootBegin.j0 k a0 a1 (!t266))) else (impl_rootBegin.j0 k a0 a1 true))
theorem impl_rootBegin.mono_l : ∀ k, (∀ y0 y1 y2, LeO (impl_rootBegin.j0 k y0 y1 y2) (impl_rootBegin.j0 (k + 1) y0 y1 y2))
  | 0 => fun _ _ _ r h => by simp [impl_rootBegin.j0] at h
  | k + 1 => by
    have ih0 := impl_rootBegin.mono_l k
    · intro y0 y1 y2
      unfold impl_rootBegin.j0
      repeat' first
      | (with_reducible exact ih0 _ _ _)
      | (with_reducible exact impl_RootTerms.mono _ _)
      | (with_reducible exact LeO.refl _)
      | (with_reducible exact LeO.none _)
      | (with_reducible refine LeO.ite ?_ ?_)
      | (with_reducible refine LeO.bind ?_ (fun _ => ?_))
      | exact ih0 _ _ _
      | exact impl_RootTerms.mono _ _
      | exact LeO.none _
      | refine LeO.ite ?_ ?_
      | refine LeO.bind ?_ (fun _ => ?_)
theorem impl_rootBegin.mono : ∀ a0 a1 a2 k, LeO (impl_rootBegin.f k a0 a1 a2) (impl_rootBegin.f (k + 1) a0 a1 a2) := by
  intro a0 a1 a2 k
  have ih0 := impl_rootBegin.mono_l k
  unfold impl_rootBegin.f
  repeat' first
      | (with_reducible exact ih0 _ _ _)
      | (with_reducible exact impl_RootTerms.mono _ _)
      | (with_reducible exact LeO.refl _)
      | (with_reducible exact LeO.none _)
      | (with_reducible refine LeO.ite ?_ ?_)
      | (with_reducible refine LeO.bind ?_ (fun _ => ?_))
      | exact ih0 _ _ _
      | exact impl_RootTerms.mono _ _
      | exact LeO.none _
      | refine LeO.ite ?_ ?_
      | refine LeO.bind ?_ (fun _ => ?_)
set_option maxHeartbeats 8000000 in
set_option maxRecDepth 100000 in
theorem impl_rootBegin.calls (k : Nat) (a0 : Int) (a1 : Int) (a2 : Int) (r1 : Int) (r2 : List Int) (r3 : Int) (w : World) (h : impl_rootBegin.f k a0 a1 a2 = some (r1, r2, r3)) :
    Calls Try.prog 52 #[.int .i64 a0, .int .i64 a1, .int .i64 a2] w fun e w' => ∃ v1_ : Value, e = .returned (.tuple #[.int .i64 r1, v1_, .int .i64 r3]) ∧ Kd.R (Kd.int .i64) 2 w' w.heap.size (fun _ => True) v1_ r2 ∧ Below w.heap.size w w' := by
  have HB := Aside0.mk (Below.refl w.heap.size w)
  have H : ((impl_within.f a0 0 1000000).bind fun t265 => (if t265 = true then ((impl_within.f a1 0 a2).bind fun t266 => (impl_rootBegin.j0 k a0 a1 (!t266))) else (impl_rootBegin.j0 k a0 a1 true))) = some (r1, r2, r3) := h
  clear h
  have HC4 := Aside0.mk H
  clear H
  go_enter Try.func52, Try.ntmps52
  go_upto_region 1 with (fail)
  go_cut [20] (fun v20 wc => ∃ (kq : Nat) (x20_3 : Bool), v20 = .bool x20_3 ∧ Aside0 (impl_rootBegin.j0 kq a0 a1 x20_3 = some (r1, r2, r3)) ∧ Aside0 (kq ≤ k) ∧ Aside0 (Below w.heap.size w wc))
  case first =>
    have H := HC4.out
    clear HC4
    replace H := Option.bind_eq_some_iff.mp H
    obtain ⟨t265, A50, H⟩ := H
    replace H : (if t265 = true then ((impl_within.f a1 0 a2).bind fun t266 => (impl_rootBegin.j0 k a0 a1 (!t266))) else (impl_rootBegin.j0 k a0 a1 true)) = some (r1, r2, r3) := H
    have A5 := Aside0.mk A50
    clear A50
    by_cases c6 : t265 = true
    · subst c6
      have H1 : ((impl_within.f a1 0 a2).bind fun t266 => (impl_rootBegin.j0 k a0 a1 (!t266))) = some (r1, r2, r3) := by rw [if_pos rfl] at H; exact H
      clear H
      have H := H1
      clear H1
      replace H := Option.bind_eq_some_iff.mp H
      obtain ⟨t266, A70, H⟩ := H
      replace H : (impl_rootBegin.j0 k a0 a1 (!t266)) = some (r1, r2, r3) := H
      have A7 := Aside0.mk A70
      clear A70
      have H' := Aside0.mk H
      clear H
      go_wp2_with (first | ((with_reducible refine gate_callee (f := 76) rfl ?_); refine goesL_ (some 13) rfl rfl Try.func76 (by kernel_rfl) rfl #[.int .i64 a0, .int .i64 0, .int .i64 1000000] rfl (by (try simp only [List.map_toArray, List.map_cons, List.map_nil]); first | done | rfl | (simp only [List.length_drop, List.length_take]; rfl) | (simp only [List.drop_one]; done) | (simp only [List.drop_one]; rfl)) ?_; (with_reducible refine (impl_within.calls a0 0 1000000 true _ A5.out).mono ?_); rintro e w' ⟨rfl, ⟨nd, rfl⟩⟩; refine ⟨_, rfl, ?_⟩) | (go_at_call 76; (with_reducible refine (impl_within.calls a1 0 a2 t266 _ A7.out).mono ?_); rintro e w' ⟨rfl, ⟨nd, rfl⟩⟩))
      go_meet
      case rel => exact ⟨_, (!t266), (by first | rfl | (simp; done) | (simp [*]; done)), H', ⟨by first | omega | exact Nat.le_refl _⟩, ⟨by repeat (first | (with_reducible first | exact HB.out | apply below_alloc | apply pw_below_drewN | apply below_drew1) | exact HB.out)⟩⟩
    · replace c6 := Bool.eq_false_iff.mpr c6
      subst c6
      have H1 : (impl_rootBegin.j0 k a0 a1 true) = some (r1, r2, r3) := by rw [if_neg (show ¬ (false = true) by decide)] at H; exact H
      clear H
      have H := H1
      clear H1
      have H' := Aside0.mk H
      clear H
      go_wp2_with (first | ((with_reducible refine gate_callee (f := 76) rfl ?_); refine goesL_ (some 13) rfl rfl Try.func76 (by kernel_rfl) rfl #[.int .i64 a0, .int .i64 0, .int .i64 1000000] rfl (by (try simp only [List.map_toArray, List.map_cons, List.map_nil]); first | done | rfl | (simp only [List.length_drop, List.length_take]; rfl) | (simp only [List.drop_one]; done) | (simp only [List.drop_one]; rfl)) ?_; (with_reducible refine (impl_within.calls a0 0 1000000 false _ A5.out).mono ?_); rintro e w' ⟨rfl, ⟨nd, rfl⟩⟩; refine ⟨_, rfl, ?_⟩))
      go_meet
      case rel => exact ⟨_, (true), (by first | rfl | (simp; done) | (simp [*]; done)), H', ⟨by first | omega | exact Nat.le_refl _⟩, ⟨by repeat (first | (with_reducible first | exact HB.out | apply below_alloc | apply pw_below_drewN | apply below_drew1) | exact HB.out)⟩⟩
  case rest =>
    clear HC4
    try clear p2
    try clear c5
    try clear c6
    try clear c7
    obtain ⟨kq, x20_3, rfl, HA, HJ3, HB⟩ := hcut
    cases kq with
    | zero => exact absurd HA.out (by simp [impl_rootBegin.j0])
    | succ kj3 =>
      have H := HA.out
      clear HA
      simp only [impl_rootBegin.j0] at H
      by_cases c8 : x20_3 = true
      · subst c8
        have H1 : (some (0, ([] : List Int), 2)) = some (r1, r2, r3) := by rw [if_pos rfl] at H; exact H
        clear H
        have H := H1
        clear H1
        simp only [Option.some.injEq, Prod.mk.injEq] at H
        obtain ⟨rfl, rfl, rfl⟩ := H
        go_wp2
        go_ret3
        exact ⟨_, by first | rfl | (simp [errW_none, errW_some] <;> rfl) | (simp [*, errW_none, errW_some] <;> rfl), by first | exact Kd.R_nil _ _ _ _ _ | exact Kd.N_nil _ _ _ _ _ | exact Kd.V_nil _ _ _ _ _ | exact Kd.Q_nil _ _ _ _ _ | exact Kd.S_nil _ _ _ _ _, by repeat (first | (with_reducible first | exact HB.out | apply below_alloc | apply pw_below_drewN | apply below_drew1) | exact HB.out)⟩
      · replace c8 := Bool.eq_false_iff.mpr c8
        subst c8
        have H1 : ((impl_RootTerms.f kj3 a0).bind fun bt267 => (if bt267.2.2 = 0 then (if (bt267.2.1.length : Int) = 0 then (if a1 > 0 then (some (0, ([] : List Int), 6)) else (some (bt267.1, bt267.2.1, bt267.2.2))) else (some (bt267.1, bt267.2.1, bt267.2.2))) else (some (bt267.1, bt267.2.1, bt267.2.2)))) = some (r1, r2, r3) := by rw [if_neg (show ¬ (false = true) by decide)] at H; exact H
        clear H
        have H := H1
        clear H1
        replace H := Option.bind_eq_some_iff.mp H
        obtain ⟨⟨t267, t268, t269⟩, A90, H⟩ := H
        replace H : (if t269 = 0 then (if (t268.length : Int) = 0 then (if a1 > 0 then (some (0, ([] : List Int), 6)) else (some (t267, t268, t269))) else (some (t267, t268, t269))) else (some (t267, t268, t269))) = some (r1, r2, r3) := H
        have A9 := Aside0.mk A90
        clear A90
        by_cases c10 : t269 = 0
        · rw [if_pos c10] at H
          have c10b0 : (t269 == 0) = true := beq_iff_eq.mpr c10
          have c10b1 : (t269 != 0) = false := bne_eq_false_iff_eq.mpr c10
          clear c10
          by_cases c11 : (t268.length : Int) = 0
          · rw [if_pos c11] at H
            have c11b0 : ((t268.length : Int) == 0) = true := beq_iff_eq.mpr c11
            have c11b1 : ((t268.length : Int) != 0) = false := bne_eq_false_iff_eq.mpr c11
            clear c11
            by_cases c12 : a1 > 0
            · rw [if_pos c12] at H
              have c12b0 : decide (0 < a1) = true := decide_eq_true c12
              clear c12
              simp only [Option.some.injEq, Prod.mk.injEq] at H
              obtain ⟨rfl, rfl, rfl⟩ := H
              go_wp2_with (first | ((with_reducible refine gate_callee (f := 39) rfl ?_); refine goesL_ (some 23) rfl rfl Try.func39 (by kernel_rfl) rfl #[.int .i64 a0] rfl (by (try simp only [List.map_toArray, List.map_cons, List.map_nil]); first | done | rfl | (simp only [List.length_drop, List.length_take]; rfl) | (simp only [List.drop_one]; done) | (simp only [List.drop_one]; rfl)) ?_; (with_reducible refine (impl_RootTerms.calls kj3 a0 t267 t268 t269 _ A9.out).mono ?_); rintro e w13 ⟨v270, rfl, ho0, hb⟩; refine ⟨_, rfl, ?_⟩; have n0_ := Aside0.mk (Kd.R_lower ho0 (below_size (by repeat (first | (with_reducible first | exact HB.out | apply below_alloc | apply pw_below_drewN | apply below_drew1) | exact HB.out)))); have n1_ := Aside0.mk (below_step (by repeat (first | (with_reducible first | exact HB.out | apply below_alloc | apply pw_below_drewN | apply below_drew1) | exact HB.out)) hb); clear HB; have HO271 := n0_; have HB := n1_; clear n0_ n1_; (try clear hb); (try clear hb2); (try clear hk); (try clear hi); (try clear ho0); obtain ⟨Ao14, co14, eo14⟩ := Kd.R_slice HO271.out; subst eo14))
              go_ret3
              exact ⟨_, by first | rfl | (simp [errW_none, errW_some] <;> rfl) | (simp [*, errW_none, errW_some] <;> rfl), by first | exact Kd.R_nil _ _ _ _ _ | exact Kd.N_nil _ _ _ _ _ | exact Kd.V_nil _ _ _ _ _ | exact Kd.Q_nil _ _ _ _ _ | exact Kd.S_nil _ _ _ _ _, by repeat (first | (with_reducible first | exact HB.out | apply below_alloc | apply pw_below_drewN | apply below_drew1) | exact HB.out)⟩
            · rw [if_neg c12] at H
              have c12b0 : decide (0 < a1) = false := decide_eq_false c12
              clear c12
              simp only [Option.some.injEq, Prod.mk.injEq] at H
              obtain ⟨rfl, rfl, rfl⟩ := H
              go_wp2_with (first | ((with_reducible refine gate_callee (f := 39) rfl ?_); refine goesL_ (some 23) rfl rfl Try.func39 (by kernel_rfl) rfl #[.int .i64 a0] rfl (by (try simp only [List.map_toArray, List.map_cons, List.map_nil]); first | done | rfl | (simp only [List.length_drop, List.length_take]; rfl) | (simp only [List.drop_one]; done) | (simp only [List.drop_one]; rfl)) ?_; (with_reducible refine (impl_RootTerms.calls kj3 a0 t267 t268 t269 _ A9.out).mono ?_); rintro e w15 ⟨v270, rfl, ho0, hb⟩; refine ⟨_, rfl, ?_⟩; have n0_ := Aside0.mk (Kd.R_lower ho0 (below_size (by repeat (first | (with_reducible first | exact HB.out | apply below_alloc | apply pw_below_drewN | apply below_drew1) | exact HB.out)))); have n1_ := Aside0.mk (below_step (by repeat (first | (with_reducible first | exact HB.out | apply below_alloc | apply pw_below_drewN | apply below_drew1) | exact HB.out)) hb); clear HB; have HO271 := n0_; have HB := n1_; clear n0_ n1_; (try clear hb); (try clear hb2); (try clear hk); (try clear hi); (try clear ho0); obtain ⟨Ao16, co16, eo16⟩ := Kd.R_slice HO271.out; subst eo16))
              go_ret3
              exact ⟨_, by first | rfl | (simp [errW_none, errW_some] <;> rfl) | (simp [*, errW_none, errW_some] <;> rfl), by (with_reducible repeat (first | apply Kd.R_alloc | apply Kd.R_drewN | apply Kd.R_drew)); exact HO271.out, by repeat (first | (with_reducible first | exact HB.out | apply below_alloc | apply pw_below_drewN | apply below_drew1) | exact HB.out)⟩
          · rw [if_neg c11] at H
            have c11b0 : ((t268.length : Int) == 0) = false := beq_eq_false_iff_ne.mpr c11
            have c11b1 : ((t268.length : Int) != 0) = true := bne_iff_ne.mpr c11
            have c11b2 : ¬ (t268 = []) := fun h_ => c11 (by rw [h_]; rfl)
            simp only [Option.some.injEq, Prod.mk.injEq] at H
            obtain ⟨rfl, rfl, rfl⟩ := H
            go_wp2_with (first | ((with_reducible refine gate_callee (f := 39) rfl ?_); refine goesL_ (some 23) rfl rfl Try.func39 (by kernel_rfl) rfl #[.int .i64 a0] rfl (by (try simp only [List.map_toArray, List.map_cons, List.map_nil]); first | done | rfl | (simp only [List.length_drop, List.length_take]; rfl) | (simp only [List.drop_one]; done) | (simp only [List.drop_one]; rfl)) ?_; (with_reducible refine (impl_RootTerms.calls kj3 a0 t267 t268 t269 _ A9.out).mono ?_); rintro e w17 ⟨v270, rfl, ho0, hb⟩; refine ⟨_, rfl, ?_⟩; have n0_ := Aside0.mk (Kd.R_lower ho0 (below_size (by repeat (first | (with_reducible first | exact HB.out | apply below_alloc | apply pw_below_drewN | apply below_drew1) | exact HB.out)))); have n1_ := Aside0.mk (below_step (by repeat (first | (with_reducible first | exact HB.out | apply below_alloc | apply pw_below_drewN | apply below_drew1) | exact HB.out)) hb); clear HB; have HO271 := n0_; have HB := n1_; clear n0_ n1_; (try clear hb); (try clear hb2); (try clear hk); (try clear hi); (try clear ho0); obtain ⟨Ao18, co18, eo18⟩ := Kd.R_slice HO271.out; subst eo18))
            go_ret3
            exact ⟨_, by first | rfl | (simp [errW_none, errW_some] <;> rfl) | (simp [*, errW_none, errW_some] <;> rfl), by (with_reducible repeat (first | apply Kd.R_alloc | apply Kd.R_drewN | apply Kd.R_drew)); exact HO271.out, by repeat (first | (with_reducible first | exact HB.out | apply below_alloc | apply pw_below_drewN | apply below_drew1) | exact HB.out)⟩
        · rw [if_neg c10] at H
          have c10b0 : (t269 == 0) = false := beq_eq_false_iff_ne.mpr c10
          have c10b1 : (t269 != 0) = true := bne_iff_ne.mpr c10
          simp only [Option.some.injEq, Prod.mk.injEq] at H
          obtain ⟨rfl, rfl, rfl⟩ := H
          go_wp2_with (first | ((with_reducible refine gate_callee (f := 39) rfl ?_); refine goesL_ (some 23) rfl rfl Try.func39 (by kernel_rfl) rfl #[.int .i64 a0] rfl (by (try simp only [List.map_toArray, List.map_cons, List.map_nil]); first | done | rfl | (simp only [List.length_drop, List.length_take]; rfl) | (simp only [List.drop_one]; done) | (simp only [List.drop_one]; rfl)) ?_; (with_reducible refine (impl_RootTerms.calls kj3 a0 t267 t268 t269 _ A9.out).mono ?_); rintro e w19 ⟨v270, rfl, ho0, hb⟩; refine ⟨_, rfl, ?_⟩; have n0_ := Aside0.mk (Kd.R_lower ho0 (below_size (by repeat (first | (with_reducible first | exact HB.out | apply below_alloc | apply pw_below_drewN | apply below_drew1) | exact HB.out)))); have n1_ := Aside0.mk (below_step (by repeat (first | (with_reducible first | exact HB.out | apply below_alloc | apply pw_below_drewN | apply below_drew1) | exact HB.out)) hb); clear HB; have HO271 := n0_; have HB := n1_; clear n0_ n1_; (try clear hb); (try clear hb2); (try clear hk); (try clear hi); (try clear ho0)))
          go_ret3
          exact ⟨_, by first | rfl | (simp [errW_none, errW_some] <;> rfl) | (simp [*, errW_none, errW_some] <;> rfl), by (with_reducible repeat (first | apply Kd.R_alloc | apply Kd.R_drewN | apply Kd.R_drew)); exact HO271.out, by repeat (first | (with_reducible first | exact HB.out | apply below_alloc | apply pw_below_drewN | apply below_drew1) | exact HB.out)⟩

/-! ### impl_RootTermAt: function 42 -/
def impl_RootTermAt.f (k : Nat) (a0 : Int) (a1 : Int) : Option (Int × Int) := (impl_rootBegin.f k a0 a1 1000000000).bind fun bt272 => (if bt272.2.2 = 0 then ((impl_rootTerm.f bt272.1 bt272.2.1 a1).bind fun t277 => (some (t277, 0))) else (some (0, bt272.2.2)))
theorem impl_RootTermAt.mono : ∀ a0 a1 k, LeO (impl_RootTermAt.f k a0 a1) (impl_RootTermAt.f (k + 1) a0 a1) := by
  intro a0 a1 k
  unfold impl_RootTermAt.f
  repeat' first
      | (with_reducible exact impl_rootBegin.mono _ _ _ _)
      | (with_reducible exact LeO.refl _)
      | (with_reducible exact LeO.none _)
      | (with_reducible refine LeO.ite ?_ ?_)
      | (with_reducible refine LeO.bind ?_ (fun _ => ?_))
      | exact impl_rootBegin.mono _ _ _ _
      | exact LeO.none _
      | refine LeO.ite ?_ ?_
      | refine LeO.bind ?_ (fun _ => ?_)
set_option maxHeartbeats 8000000 in
set_option maxRecDepth 100000 in
theorem impl_RootTermAt.calls (k : Nat) (a0 : Int) (a1 : Int) (r1 : Int) (r2 : Int) (w : World) (h : impl_RootTermAt.f k a0 a1 = some (r1, r2)) :
    Calls Try.prog 42 #[.int .i64 a0, .int .i64 a1] w fun e w' => e = .returned (.tuple #[.int .i64 r1, .int .i64 r2]) ∧ Below w.heap.size w w' := by
  have HB := Aside0.mk (Below.refl w.heap.size w)
  have H : ((impl_rootBegin.f k a0 a1 1000000000).bind fun bt272 => (if bt272.2.2 = 0 then ((impl_rootTerm.f bt272.1 bt272.2.1 a1).bind fun t277 => (some (t277, 0))) else (some (0, bt272.2.2)))) = some (r1, r2) := h
  clear h
  replace H := Option.bind_eq_some_iff.mp H
  obtain ⟨⟨t272, t273, t274⟩, A30, H⟩ := H
  replace H : (if t274 = 0 then ((impl_rootTerm.f t272 t273 a1).bind fun t277 => (some (t277, 0))) else (some (0, t274))) = some (r1, r2) := H
  have A3 := Aside0.mk A30
  clear A30
  by_cases c4 : t274 = 0
  · rw [if_pos c4] at H
    have c4b0 : (t274 == 0) = true := beq_iff_eq.mpr c4
    have c4b1 : (t274 != 0) = false := bne_eq_false_iff_eq.mpr c4
    clear c4
    replace H := Option.bind_eq_some_iff.mp H
    obtain ⟨t277, A50, H⟩ := H
    replace H : (some (t277, 0)) = some (r1, r2) := H
    have A5 := Aside0.mk A50
    clear A50
    simp only [Option.some.injEq, Prod.mk.injEq] at H
    obtain ⟨rfl, rfl⟩ := H
    go_enter Try.func42, Try.ntmps42
    go_wp2_with (first | ((with_reducible refine gate_callee (f := 52) rfl ?_); refine goesL_ (some 12) rfl rfl Try.func52 (by kernel_rfl) rfl #[.int .i64 a0, .int .i64 a1, .int .i64 1000000000] rfl (by (try simp only [List.map_toArray, List.map_cons, List.map_nil]); first | done | rfl | (simp only [List.length_drop, List.length_take]; rfl) | (simp only [List.drop_one]; done) | (simp only [List.drop_one]; rfl)) ?_; (with_reducible refine (impl_rootBegin.calls k a0 a1 1000000000 t272 t273 t274 _ A3.out).mono ?_); rintro e w6 ⟨v275, rfl, ho0, hb⟩; refine ⟨_, rfl, ?_⟩; have n0_ := Aside0.mk (Kd.R_lower ho0 (below_size (by repeat (first | (with_reducible first | exact HB.out | apply below_alloc | apply pw_below_drewN | apply below_drew1) | exact HB.out)))); have n1_ := Aside0.mk (below_step (by repeat (first | (with_reducible first | exact HB.out | apply below_alloc | apply pw_below_drewN | apply below_drew1) | exact HB.out)) hb); clear HB; have HO276 := n0_; have HB := n1_; clear n0_ n1_; (try clear hb); (try clear hb2); (try clear hk); (try clear hi); (try clear ho0); obtain ⟨Ao7, co7, eo7⟩ := Kd.R_slice HO276.out; subst eo7) | ((with_reducible refine gate_callee (f := 79) rfl ?_); refine goesL_ (some 22) rfl rfl Try.func79 (by kernel_rfl) rfl #[.int .i64 t272, .slice Ao7 t273.length co7, .int .i64 a1] rfl (by (try simp only [List.map_toArray, List.map_cons, List.map_nil]); first | done | rfl | (simp only [List.length_drop, List.length_take]; rfl) | (simp only [List.drop_one]; done) | (simp only [List.drop_one]; rfl)) ?_; (with_reducible refine (impl_rootTerm.calls t272 _ _ t273 a1 t277 _ ?side1 ?side2 A5.out).mono ?_); (case side1 => repeat (first | exact (Kd.R_reads' HO276.out).2.2 | (with_reducible refine Kd.C_alloc ?_ _) | (with_reducible refine Kd.C_drewN ?_ _) | (with_reducible refine Kd.C_drew ?_))); (case side2 => exact (Kd.R_reads' HO276.out).2.1); rintro e w' ⟨rfl, ⟨nd, rfl⟩⟩; refine ⟨_, rfl, ?_⟩))
    go_ret2
    exact ⟨by first | rfl | (simp [errW_none, errW_some] <;> rfl) | (simp [*, errW_none, errW_some] <;> rfl), by repeat (first | (with_reducible first | exact HB.out | apply below_alloc | apply pw_below_drewN | apply below_drew1) | exact HB.out)⟩
  · rw [if_neg c4] at H
    have c4b0 : (t274 == 0) = false := beq_eq_false_iff_ne.mpr c4
    have c4b1 : (t274 != 0) = true := bne_iff_ne.mpr c4
    simp only [Option.some.injEq, Prod.mk.injEq] at H
    obtain ⟨rfl, rfl⟩ := H
    go_enter Try.func42, Try.ntmps42
    go_wp2_with (first | ((with_reducible refine gate_callee (f := 52) rfl ?_); refine goesL_ (some 12) rfl rfl Try.func52 (by kernel_rfl) rfl #[.int .i64 a0, .int .i64 a1, .int .i64 1000000000] rfl (by (try simp only [List.map_toArray, List.map_cons, List.map_nil]); first | done | rfl | (simp only [List.length_drop, List.length_take]; rfl) | (simp only [List.drop_one]; done) | (simp only [List.drop_one]; rfl)) ?_; (with_reducible refine (impl_rootBegin.calls k a0 a1 1000000000 t272 t273 t274 _ A3.out).mono ?_); rintro e w8 ⟨v275, rfl, ho0, hb⟩; refine ⟨_, rfl, ?_⟩; have n0_ := Aside0.mk (Kd.R_lower ho0 (below_size (by repeat (first | (with_reducible first | exact HB.out | apply below_alloc | apply pw_below_drewN | apply below_drew1) | exact HB.out)))); have n1_ := Aside0.mk (below_step (by repeat (first | (with_reducible first | exact HB.out | apply below_alloc | apply pw_below_drewN | apply below_drew1) | exact HB.out)) hb); clear HB; have HO276 := n0_; have HB := n1_; clear n0_ n1_; (try clear hb); (try clear hb2); (try clear hk); (try clear hi); (try clear ho0)))
    go_ret2
    exact ⟨by first | rfl | (simp [errW_none, errW_some] <;> rfl) | (simp [*, errW_none, errW_some] <;> rfl), by repeat (first | (with_reducible first | exact HB.out | apply below_alloc | apply pw_below_drewN | apply below_drew1) | exact HB.out)⟩

/-! ### spec_l04Index: function 51 -/
def spec_l04Index.j0 : Nat → Int → Int → Bool → Option (Int × List Int × Int)
  | 0, _, _, _ => none
  | k + 1, x0, x1, x20 => if x20 = true then (some (0, (([] : List Int)), 2)) else ((spec_l04Period.f k x0).bind fun bt283 => (if bt283.2.2 = 0 then (if (bt283.2.1.length : Int) = 0 then (if x1 > 0 then (some (bt283.1, bt283.2.1, 6)) else (some (bt283.1, bt283.2.1, bt283.2.2))) else (some (bt283.1, bt283.2.1, bt283.2.2))) else (some (bt283.1, bt283.2.1, bt283.2.2))))
def spec_l04Index.f (k : Nat) (a0 : Int) (a1 : Int) (a2 : Int) : Option (Int × List Int × Int) := (spec_l00In.f a0 0 1000000).bind fun t278 => (if t278 = true then ((spec_l00In.f a1 0 a2).bind fun t279 => (spec_l04Index.j0 k a0 a1 (!t279))) else (spec_l04Index.j0 k a0 a1 true))
theorem spec_l04Index.mono_l : ∀ k, (∀ y0 y1 y2, LeO (spec_l04Index.j0 k y0 y1 y2) (spec_l04Index.j0 (k + 1) y0 y1 y2))
  | 0 => fun _ _ _ r h => by simp [spec_l04Index.j0] at h
  | k + 1 => by
    have ih0 := spec_l04Index.mono_l k
    · intro y0 y1 y2
      unfold spec_l04Index.j0
      repeat' first
      | (with_reducible exact ih0 _ _ _)
      | (with_reducible exact spec_l04Period.mono _ _)
      | (with_reducible exact LeO.refl _)
      | (with_reducible exact LeO.none _)
      | (with_reducible refine LeO.ite ?_ ?_)
      | (with_reducible refine LeO.bind ?_ (fun _ => ?_))
      | exact ih0 _ _ _
      | exact spec_l04Period.mono _ _
      | exact LeO.none _
      | refine LeO.ite ?_ ?_
      | refine LeO.bind ?_ (fun _ => ?_)
theorem spec_l04Index.mono : ∀ a0 a1 a2 k, LeO (spec_l04Index.f k a0 a1 a2) (spec_l04Index.f (k + 1) a0 a1 a2) := by
  intro a0 a1 a2 k
  have ih0 := spec_l04Index.mono_l k
  unfold spec_l04Index.f
  repeat' first
      | (with_reducible exact ih0 _ _ _)
      | (with_reducible exact spec_l04Period.mono _ _)
      | (with_reducible exact LeO.refl _)
      | (with_reducible exact LeO.none _)
      | (with_reducible refine LeO.ite ?_ ?_)
      | (with_reducible refine LeO.bind ?_ (fun _ => ?_))
      | exact ih0 _ _ _
      | exact spec_l04Period.mono _ _
      | exact LeO.none _
      | refine LeO.ite ?_ ?_
      | refine LeO.bind ?_ (fun _ => ?_)
set_option maxHeartbeats 8000000 in
set_option maxRecDepth 100000 in
theorem spec_l04Index.calls (k : Nat) (a0 : Int) (a1 : Int) (a2 : Int) (r1 : Int) (r2 : List Int) (r3 : Int) (w : World) (h : spec_l04Index.f k a0 a1 a2 = some (r1, r2, r3)) :
    Calls Try.prog 51 #[.int .i64 a0, .int .i64 a1, .int .i64 a2] w fun e w' => ∃ v1_ : Value, e = .returned (.tuple #[.int .i64 r1, v1_, .int .i64 r3]) ∧ Kd.R (Kd.int .i64) 2 w' w.heap.size (fun _ => True) v1_ r2 ∧ Below w.heap.size w w' := by
  have HB := Aside0.mk (Below.refl w.heap.size w)
  have H : ((spec_l00In.f a0 0 1000000).bind fun t278 => (if t278 = true then ((spec_l00In.f a1 0 a2).bind fun t279 => (spec_l04Index.j0 k a0 a1 (!t279))) else (spec_l04Index.j0 k a0 a1 true))) = some (r1, r2, r3) := h
  clear h
  have HC4 := Aside0.mk H
  clear H
  go_enter Try.func51, Try.ntmps51
  go_upto_region 1 with (fail)
  go_cut [20] (fun v20 wc => ∃ (kq : Nat) (x20_3 : Bool), v20 = .bool x20_3 ∧ Aside0 (spec_l04Index.j0 kq a0 a1 x20_3 = some (r1, r2, r3)) ∧ Aside0 (kq ≤ k) ∧ Aside0 (Below w.heap.size w wc))
  case first =>
    have H := HC4.out
    clear HC4
    replace H := Option.bind_eq_some_iff.mp H
    obtain ⟨t278, A50, H⟩ := H
    replace H : (if t278 = true then ((spec_l00In.f a1 0 a2).bind fun t279 => (spec_l04Index.j0 k a0 a1 (!t279))) else (spec_l04Index.j0 k a0 a1 true)) = some (r1, r2, r3) := H
    have A5 := Aside0.mk A50
    clear A50
    by_cases c6 : t278 = true
    · subst c6
      have H1 : ((spec_l00In.f a1 0 a2).bind fun t279 => (spec_l04Index.j0 k a0 a1 (!t279))) = some (r1, r2, r3) := by rw [if_pos rfl] at H; exact H
      clear H
      have H := H1
      clear H1
      replace H := Option.bind_eq_some_iff.mp H
      obtain ⟨t279, A70, H⟩ := H
      replace H : (spec_l04Index.j0 k a0 a1 (!t279)) = some (r1, r2, r3) := H
      have A7 := Aside0.mk A70
      clear A70
      have H' := Aside0.mk H
      clear H
      go_wp2_with (first | ((with_reducible refine gate_callee (f := 86) rfl ?_); refine goesL_ (some 13) rfl rfl Try.func86 (by kernel_rfl) rfl #[.int .i64 a0, .int .i64 0, .int .i64 1000000] rfl (by (try simp only [List.map_toArray, List.map_cons, List.map_nil]); first | done | rfl | (simp only [List.length_drop, List.length_take]; rfl) | (simp only [List.drop_one]; done) | (simp only [List.drop_one]; rfl)) ?_; (with_reducible refine (spec_l00In.calls a0 0 1000000 true _ A5.out).mono ?_); rintro e w' ⟨rfl, ⟨nd, rfl⟩⟩; refine ⟨_, rfl, ?_⟩) | (go_at_call 86; (with_reducible refine (spec_l00In.calls a1 0 a2 t279 _ A7.out).mono ?_); rintro e w' ⟨rfl, ⟨nd, rfl⟩⟩))
      go_meet
      case rel => exact ⟨_, (!t279), (by first | rfl | (simp; done) | (simp [*]; done)), H', ⟨by first | omega | exact Nat.le_refl _⟩, ⟨by repeat (first | (with_reducible first | exact HB.out | apply below_alloc | apply pw_below_drewN | apply below_drew1) | exact HB.out)⟩⟩
    · replace c6 := Bool.eq_false_iff.mpr c6
      subst c6
      have H1 : (spec_l04Index.j0 k a0 a1 true) = some (r1, r2, r3) := by rw [if_neg (show ¬ (false = true) by decide)] at H; exact H
      clear H
      have H := H1
      clear H1
      have H' := Aside0.mk H
      clear H
      go_wp2_with (first | ((with_reducible refine gate_callee (f := 86) rfl ?_); refine goesL_ (some 13) rfl rfl Try.func86 (by kernel_rfl) rfl #[.int .i64 a0, .int .i64 0, .int .i64 1000000] rfl (by (try simp only [List.map_toArray, List.map_cons, List.map_nil]); first | done | rfl | (simp only [List.length_drop, List.length_take]; rfl) | (simp only [List.drop_one]; done) | (simp only [List.drop_one]; rfl)) ?_; (with_reducible refine (spec_l00In.calls a0 0 1000000 false _ A5.out).mono ?_); rintro e w' ⟨rfl, ⟨nd, rfl⟩⟩; refine ⟨_, rfl, ?_⟩))
      go_meet
      case rel => exact ⟨_, (true), (by first | rfl | (simp; done) | (simp [*]; done)), H', ⟨by first | omega | exact Nat.le_refl _⟩, ⟨by repeat (first | (with_reducible first | exact HB.out | apply below_alloc | apply pw_below_drewN | apply below_drew1) | exact HB.out)⟩⟩
  case rest =>
    clear HC4
    try clear p2
    try clear c5
    try clear c6
    obtain ⟨kq, x20_3, rfl, HA, HJ3, HB⟩ := hcut
    cases kq with
    | zero => exact absurd HA.out (by simp [spec_l04Index.j0])
    | succ kj3 =>
      have H := HA.out
      clear HA
      simp only [spec_l04Index.j0] at H
      by_cases c8 : x20_3 = true
      · subst c8
        have H1 : (some (0, (([] : List Int)), 2)) = some (r1, r2, r3) := by rw [if_pos rfl] at H; exact H
        clear H
        have H := H1
        clear H1
        obtain ⟨y280, hy280⟩ : ∃ y_ : List Int, y_ = (([] : List Int)) := ⟨_, rfl⟩
        replace H : (some (0, y280, 2)) = some (r1, r2, r3) := by first | (rw [hy280]; with_reducible exact H) | (have H2_ := (Option.bind_some _ _).symm.trans H; rw [hy280]; with_reducible exact H2_) | (have H2_ := (Option.bind_some _ _).symm.trans H; with_reducible exact H2_) | with_reducible exact H | (rw [hy280]; exact H) | exact H
        have Ny280 := Aside0.mk hy280
        clear hy280
        simp only [Option.some.injEq, Prod.mk.injEq] at H
        obtain ⟨rfl, rfl, rfl⟩ := H
        go_wp2_with (first | ((with_reducible refine gate_dst (N := 21) rfl ?_); (try (refine gate_guard (by rfl) ?_; dsimp only)); refine Kd.R_lit (Kd.int .i64) _ 2 ?hg (N := 21) ?hd (xs := ([] : List Int)) (inner := []) (ok := fun _ => True) (okp := fun _ => True) ?hr ?hp (fun _ hk => hk) trivial (Below.refl _ _) (Nat.le_refl _) (by simp) ?_; (case hd => rfl); (case hg => rfl); (case hr => first | (go_simp; done) | (go_simp; rfl)); (case hp => exact (Reps.none _ _)); intro v281 w9 ho10 hb hg_ hnew_; clear hg_ hnew_; (first | rw [← Ny280.out] at ho10 | (simp only [Int.reduceToNat] at ho10; rw [← Ny280.out] at ho10)); have n0_ := Aside0.mk (Kd.R_lower ho10 (below_size (by repeat (first | (with_reducible first | exact HB.out | apply below_alloc | apply pw_below_drewN | apply below_drew1) | exact HB.out)))); have n1_ := Aside0.mk (below_step (by repeat (first | (with_reducible first | exact HB.out | apply below_alloc | apply pw_below_drewN | apply below_drew1) | exact HB.out)) hb); clear HB; have HO282 := n0_; have HB := n1_; clear n0_ n1_; clear hb ho10))
        go_ret3
        exact ⟨_, by first | rfl | (simp [errW_none, errW_some] <;> rfl) | (simp [*, errW_none, errW_some] <;> rfl), by (with_reducible repeat (first | apply Kd.R_alloc | apply Kd.R_drewN | apply Kd.R_drew)); exact HO282.out, by repeat (first | (with_reducible first | exact HB.out | apply below_alloc | apply pw_below_drewN | apply below_drew1) | exact HB.out)⟩
      · replace c8 := Bool.eq_false_iff.mpr c8
        subst c8
        have H1 : ((spec_l04Period.f kj3 a0).bind fun bt283 => (if bt283.2.2 = 0 then (if (bt283.2.1.length : Int) = 0 then (if a1 > 0 then (some (bt283.1, bt283.2.1, 6)) else (some (bt283.1, bt283.2.1, bt283.2.2))) else (some (bt283.1, bt283.2.1, bt283.2.2))) else (some (bt283.1, bt283.2.1, bt283.2.2)))) = some (r1, r2, r3) := by rw [if_neg (show ¬ (false = true) by decide)] at H; exact H
        clear H
        have H := H1
        clear H1
        replace H := Option.bind_eq_some_iff.mp H
        obtain ⟨⟨t283, t284, t285⟩, A110, H⟩ := H
        replace H : (if t285 = 0 then (if (t284.length : Int) = 0 then (if a1 > 0 then (some (t283, t284, 6)) else (some (t283, t284, t285))) else (some (t283, t284, t285))) else (some (t283, t284, t285))) = some (r1, r2, r3) := H
        have A11 := Aside0.mk A110
        clear A110
        by_cases c12 : t285 = 0
        · rw [if_pos c12] at H
          have c12b0 : (t285 == 0) = true := beq_iff_eq.mpr c12
          have c12b1 : (t285 != 0) = false := bne_eq_false_iff_eq.mpr c12
          clear c12
          by_cases c13 : (t284.length : Int) = 0
          · rw [if_pos c13] at H
            have c13b0 : ((t284.length : Int) == 0) = true := beq_iff_eq.mpr c13
            have c13b1 : ((t284.length : Int) != 0) = false := bne_eq_false_iff_eq.mpr c13
            clear c13
            by_cases c14 : a1 > 0
            · rw [if_pos c14] at H
              have c14b0 : decide (0 < a1) = true := decide_eq_true c14
              clear c14
              simp only [Option.some.injEq, Prod.mk.injEq] at H
              obtain ⟨rfl, rfl, rfl⟩ := H
              go_wp2_with (first | ((with_reducible refine gate_callee (f := 47) rfl ?_); refine goesL_ (some 24) rfl rfl Try.func47 (by kernel_rfl) rfl #[.int .i64 a0] rfl (by (try simp only [List.map_toArray, List.map_cons, List.map_nil]); first | done | rfl | (simp only [List.length_drop, List.length_take]; rfl) | (simp only [List.drop_one]; done) | (simp only [List.drop_one]; rfl)) ?_; (with_reducible refine (spec_l04Period.calls kj3 a0 t283 t284 t285 _ A11.out).mono ?_); rintro e w15 ⟨v286, rfl, ho0, hb⟩; refine ⟨_, rfl, ?_⟩; have n0_ := Aside0.mk (Kd.R_lower ho0 (below_size (by repeat (first | (with_reducible first | exact HB.out | apply below_alloc | apply pw_below_drewN | apply below_drew1) | exact HB.out)))); have n1_ := Aside0.mk (below_step (by repeat (first | (with_reducible first | exact HB.out | apply below_alloc | apply pw_below_drewN | apply below_drew1) | exact HB.out)) hb); clear HB; have HO287 := n0_; have HB := n1_; clear n0_ n1_; (try clear hb); (try clear hb2); (try clear hk); (try clear hi); (try clear ho0); obtain ⟨Ao16, co16, eo16⟩ := Kd.R_slice HO287.out; subst eo16))
              go_ret3
              exact ⟨_, by first | rfl | (simp [errW_none, errW_some] <;> rfl) | (simp [*, errW_none, errW_some] <;> rfl), by (with_reducible repeat (first | apply Kd.R_alloc | apply Kd.R_drewN | apply Kd.R_drew)); exact HO287.out, by repeat (first | (with_reducible first | exact HB.out | apply below_alloc | apply pw_below_drewN | apply below_drew1) | exact HB.out)⟩
            · rw [if_neg c14] at H
              have c14b0 : decide (0 < a1) = false := decide_eq_false c14
              clear c14
              simp only [Option.some.injEq, Prod.mk.injEq] at H
              obtain ⟨rfl, rfl, rfl⟩ := H
              go_wp2_with (first | ((with_reducible refine gate_callee (f := 47) rfl ?_); refine goesL_ (some 24) rfl rfl Try.func47 (by kernel_rfl) rfl #[.int .i64 a0] rfl (by (try simp only [List.map_toArray, List.map_cons, List.map_nil]); first | done | rfl | (simp only [List.length_drop, List.length_take]; rfl) | (simp only [List.drop_one]; done) | (simp only [List.drop_one]; rfl)) ?_; (with_reducible refine (spec_l04Period.calls kj3 a0 t283 t284 t285 _ A11.out).mono ?_); rintro e w17 ⟨v286, rfl, ho0, hb⟩; refine ⟨_, rfl, ?_⟩; have n0_ := Aside0.mk (Kd.R_lower ho0 (below_size (by repeat (first | (with_reducible first | exact HB.out | apply below_alloc | apply pw_below_drewN | apply below_drew1) | exact HB.out)))); have n1_ := Aside0.mk (below_step (by repeat (first | (with_reducible first | exact HB.out | apply below_alloc | apply pw_below_drewN | apply below_drew1) | exact HB.out)) hb); clear HB; have HO287 := n0_; have HB := n1_; clear n0_ n1_; (try clear hb); (try clear hb2); (try clear hk); (try clear hi); (try clear ho0); obtain ⟨Ao18, co18, eo18⟩ := Kd.R_slice HO287.out; subst eo18))
              go_ret3
              exact ⟨_, by first | rfl | (simp [errW_none, errW_some] <;> rfl) | (simp [*, errW_none, errW_some] <;> rfl), by (with_reducible repeat (first | apply Kd.R_alloc | apply Kd.R_drewN | apply Kd.R_drew)); exact HO287.out, by repeat (first | (with_reducible first | exact HB.out | apply below_alloc | apply pw_below_drewN | apply below_drew1) | exact HB.out)⟩
          · rw [if_neg c13] at H
            have c13b0 : ((t284.length : Int) == 0) = false := beq_eq_false_iff_ne.mpr c13
            have c13b1 : ((t284.length : Int) != 0) = true := bne_iff_ne.mpr c13
            have c13b2 : ¬ (t284 = []) := fun h_ => c13 (by rw [h_]; rfl)
            simp only [Option.some.injEq, Prod.mk.injEq] at H
            obtain ⟨rfl, rfl, rfl⟩ := H
            go_wp2_with (first | ((with_reducible refine gate_callee (f := 47) rfl ?_); refine goesL_ (some 24) rfl rfl Try.func47 (by kernel_rfl) rfl #[.int .i64 a0] rfl (by (try simp only [List.map_toArray, List.map_cons, List.map_nil]); first | done | rfl | (simp only [List.length_drop, List.length_take]; rfl) | (simp only [List.drop_one]; done) | (simp only [List.drop_one]; rfl)) ?_; (with_reducible refine (spec_l04Period.calls kj3 a0 t283 t284 t285 _ A11.out).mono ?_); rintro e w19 ⟨v286, rfl, ho0, hb⟩; refine ⟨_, rfl, ?_⟩; have n0_ := Aside0.mk (Kd.R_lower ho0 (below_size (by repeat (first | (with_reducible first | exact HB.out | apply below_alloc | apply pw_below_drewN | apply below_drew1) | exact HB.out)))); have n1_ := Aside0.mk (below_step (by repeat (first | (with_reducible first | exact HB.out | apply below_alloc | apply pw_below_drewN | apply below_drew1) | exact HB.out)) hb); clear HB; have HO287 := n0_; have HB := n1_; clear n0_ n1_; (try clear hb); (try clear hb2); (try clear hk); (try clear hi); (try clear ho0); obtain ⟨Ao20, co20, eo20⟩ := Kd.R_slice HO287.out; subst eo20))
            go_ret3
            exact ⟨_, by first | rfl | (simp [errW_none, errW_some] <;> rfl) | (simp [*, errW_none, errW_some] <;> rfl), by (with_reducible repeat (first | apply Kd.R_alloc | apply Kd.R_drewN | apply Kd.R_drew)); exact HO287.out, by repeat (first | (with_reducible first | exact HB.out | apply below_alloc | apply pw_below_drewN | apply below_drew1) | exact HB.out)⟩
        · rw [if_neg c12] at H
          have c12b0 : (t285 == 0) = false := beq_eq_false_iff_ne.mpr c12
          have c12b1 : (t285 != 0) = true := bne_iff_ne.mpr c12
          simp only [Option.some.injEq, Prod.mk.injEq] at H
          obtain ⟨rfl, rfl, rfl⟩ := H
          go_wp2_with (first | ((with_reducible refine gate_callee (f := 47) rfl ?_); refine goesL_ (some 24) rfl rfl Try.func47 (by kernel_rfl) rfl #[.int .i64 a0] rfl (by (try simp only [List.map_toArray, List.map_cons, List.map_nil]); first | done | rfl | (simp only [List.length_drop, List.length_take]; rfl) | (simp only [List.drop_one]; done) | (simp only [List.drop_one]; rfl)) ?_; (with_reducible refine (spec_l04Period.calls kj3 a0 t283 t284 t285 _ A11.out).mono ?_); rintro e w21 ⟨v286, rfl, ho0, hb⟩; refine ⟨_, rfl, ?_⟩; have n0_ := Aside0.mk (Kd.R_lower ho0 (below_size (by repeat (first | (with_reducible first | exact HB.out | apply below_alloc | apply pw_below_drewN | apply below_drew1) | exact HB.out)))); have n1_ := Aside0.mk (below_step (by repeat (first | (with_reducible first | exact HB.out | apply below_alloc | apply pw_below_drewN | apply below_drew1) | exact HB.out)) hb); clear HB; have HO287 := n0_; have HB := n1_; clear n0_ n1_; (try clear hb); (try clear hb2); (try clear hk); (try clear hi); (try clear ho0)))
          go_ret3
          exact ⟨_, by first | rfl | (simp [errW_none, errW_some] <;> rfl) | (simp [*, errW_none, errW_some] <;> rfl), by (with_reducible repeat (first | apply Kd.R_alloc | apply Kd.R_drewN | apply Kd.R_drew)); exact HO287.out, by repeat (first | (with_reducible first | exact HB.out | apply below_alloc | apply pw_below_drewN | apply below_drew1) | exact HB.out)⟩

/-! ### spec_RootTermAt: function 43 -/
def spec_RootTermAt.f (k : Nat) (a0 : Int) (a1 : Int) : Option (Int × Int) := (spec_l04Index.f k a0 a1 1000000000).bind fun bt288 => (if bt288.2.2 = 0 then ((spec_l04RootAt.f bt288.1 bt288.2.1 a1).bind fun t293 => (some (t293, 0))) else (some (0, bt288.2.2)))
theorem spec_RootTermAt.mono : ∀ a0 a1 k, LeO (spec_RootTermAt.f k a0 a1) (spec_RootTermAt.f (k + 1) a0 a1) := by
  intro a0 a1 k
  unfold spec_RootTermAt.f
  repeat' first
      | (with_reducible exact spec_l04Index.mono _ _ _ _)
      | (with_reducible exact LeO.refl _)
      | (with_reducible exact LeO.none _)
      | (with_reducible refine LeO.ite ?_ ?_)
      | (with_reducible refine LeO.bind ?_ (fun _ => ?_))
      | exact spec_l04Index.mono _ _ _ _
      | exact LeO.none _
      | refine LeO.ite ?_ ?_
      | refine LeO.bind ?_ (fun _ => ?_)
set_option maxHeartbeats 8000000 in
set_option maxRecDepth 100000 in
theorem spec_RootTermAt.calls (k : Nat) (a0 : Int) (a1 : Int) (r1 : Int) (r2 : Int) (w : World) (h : spec_RootTermAt.f k a0 a1 = some (r1, r2)) :
    Calls Try.prog 43 #[.int .i64 a0, .int .i64 a1] w fun e w' => e = .returned (.tuple #[.int .i64 r1, .int .i64 r2]) ∧ Below w.heap.size w w' := by
  have HB := Aside0.mk (Below.refl w.heap.size w)
  have H : ((spec_l04Index.f k a0 a1 1000000000).bind fun bt288 => (if bt288.2.2 = 0 then ((spec_l04RootAt.f bt288.1 bt288.2.1 a1).bind fun t293 => (some (t293, 0))) else (some (0, bt288.2.2)))) = some (r1, r2) := h
  clear h
  replace H := Option.bind_eq_some_iff.mp H
  obtain ⟨⟨t288, t289, t290⟩, A30, H⟩ := H
  replace H : (if t290 = 0 then ((spec_l04RootAt.f t288 t289 a1).bind fun t293 => (some (t293, 0))) else (some (0, t290))) = some (r1, r2) := H
  have A3 := Aside0.mk A30
  clear A30
  by_cases c4 : t290 = 0
  · rw [if_pos c4] at H
    have c4b0 : (t290 == 0) = true := beq_iff_eq.mpr c4
    have c4b1 : (t290 != 0) = false := bne_eq_false_iff_eq.mpr c4
    clear c4
    replace H := Option.bind_eq_some_iff.mp H
    obtain ⟨t293, A50, H⟩ := H
    replace H : (some (t293, 0)) = some (r1, r2) := H
    have A5 := Aside0.mk A50
    clear A50
    simp only [Option.some.injEq, Prod.mk.injEq] at H
    obtain ⟨rfl, rfl⟩ := H
    go_enter Try.func43, Try.ntmps43
    go_wp2_with (first | ((with_reducible refine gate_callee (f := 51) rfl ?_); refine goesL_ (some 12) rfl rfl Try.func51 (by kernel_rfl) rfl #[.int .i64 a0, .int .i64 a1, .int .i64 1000000000] rfl (by (try simp only [List.map_toArray, List.map_cons, List.map_nil]); first | done | rfl | (simp only [List.length_drop, List.length_take]; rfl) | (simp only [List.drop_one]; done) | (simp only [List.drop_one]; rfl)) ?_; (with_reducible refine (spec_l04Index.calls k a0 a1 1000000000 t288 t289 t290 _ A3.out).mono ?_); rintro e w6 ⟨v291, rfl, ho0, hb⟩; refine ⟨_, rfl, ?_⟩; have n0_ := Aside0.mk (Kd.R_lower ho0 (below_size (by repeat (first | (with_reducible first | exact HB.out | apply below_alloc | apply pw_below_drewN | apply below_drew1) | exact HB.out)))); have n1_ := Aside0.mk (below_step (by repeat (first | (with_reducible first | exact HB.out | apply below_alloc | apply pw_below_drewN | apply below_drew1) | exact HB.out)) hb); clear HB; have HO292 := n0_; have HB := n1_; clear n0_ n1_; (try clear hb); (try clear hb2); (try clear hk); (try clear hi); (try clear ho0); obtain ⟨Ao7, co7, eo7⟩ := Kd.R_slice HO292.out; subst eo7) | ((with_reducible refine gate_callee (f := 80) rfl ?_); refine goesL_ (some 22) rfl rfl Try.func80 (by kernel_rfl) rfl #[.int .i64 t288, .slice Ao7 t289.length co7, .int .i64 a1] rfl (by (try simp only [List.map_toArray, List.map_cons, List.map_nil]); first | done | rfl | (simp only [List.length_drop, List.length_take]; rfl) | (simp only [List.drop_one]; done) | (simp only [List.drop_one]; rfl)) ?_; (with_reducible refine (spec_l04RootAt.calls t288 _ _ t289 a1 t293 _ ?side1 ?side2 A5.out).mono ?_); (case side1 => repeat (first | exact (Kd.R_reads' HO292.out).2.2 | (with_reducible refine Kd.C_alloc ?_ _) | (with_reducible refine Kd.C_drewN ?_ _) | (with_reducible refine Kd.C_drew ?_))); (case side2 => exact (Kd.R_reads' HO292.out).2.1); rintro e w' ⟨rfl, ⟨nd, rfl⟩⟩; refine ⟨_, rfl, ?_⟩))
    go_ret2
    exact ⟨by first | rfl | (simp [errW_none, errW_some] <;> rfl) | (simp [*, errW_none, errW_some] <;> rfl), by repeat (first | (with_reducible first | exact HB.out | apply below_alloc | apply pw_below_drewN | apply below_drew1) | exact HB.out)⟩
  · rw [if_neg c4] at H
    have c4b0 : (t290 == 0) = false := beq_eq_false_iff_ne.mpr c4
    have c4b1 : (t290 != 0) = true := bne_iff_ne.mpr c4
    simp only [Option.some.injEq, Prod.mk.injEq] at H
    obtain ⟨rfl, rfl⟩ := H
    go_enter Try.func43, Try.ntmps43
    go_wp2_with (first | ((with_reducible refine gate_callee (f := 51) rfl ?_); refine goesL_ (some 12) rfl rfl Try.func51 (by kernel_rfl) rfl #[.int .i64 a0, .int .i64 a1, .int .i64 1000000000] rfl (by (try simp only [List.map_toArray, List.map_cons, List.map_nil]); first | done | rfl | (simp only [List.length_drop, List.length_take]; rfl) | (simp only [List.drop_one]; done) | (simp only [List.drop_one]; rfl)) ?_; (with_reducible refine (spec_l04Index.calls k a0 a1 1000000000 t288 t289 t290 _ A3.out).mono ?_); rintro e w8 ⟨v291, rfl, ho0, hb⟩; refine ⟨_, rfl, ?_⟩; have n0_ := Aside0.mk (Kd.R_lower ho0 (below_size (by repeat (first | (with_reducible first | exact HB.out | apply below_alloc | apply pw_below_drewN | apply below_drew1) | exact HB.out)))); have n1_ := Aside0.mk (below_step (by repeat (first | (with_reducible first | exact HB.out | apply below_alloc | apply pw_below_drewN | apply below_drew1) | exact HB.out)) hb); clear HB; have HO292 := n0_; have HB := n1_; clear n0_ n1_; (try clear hb); (try clear hb2); (try clear hk); (try clear hi); (try clear ho0)))
    go_ret2
    exact ⟨by first | rfl | (simp [errW_none, errW_some] <;> rfl) | (simp [*, errW_none, errW_some] <;> rfl), by repeat (first | (with_reducible first | exact HB.out | apply below_alloc | apply pw_below_drewN | apply below_drew1) | exact HB.out)⟩

/-! ### spec_l01Ok: function 81 -/
def spec_l01Ok.f (a0 : S24) : Option (Bool) := if a0.f0 = true then (some (!(a0.f1.f0 == 0) || (!(a0.f1.f1 == 0) || (!(a0.f1.f2 == 0) || (!(a0.f1.f3 == 0) || (!(a0.f1.f4 == 0) || (!(a0.f1.f5 == 0)))))))) else (some true)
set_option maxHeartbeats 8000000 in
set_option maxRecDepth 100000 in
theorem spec_l01Ok.calls (B0_ O0_ : Nat) (a0 : S24) (r : Bool) (w : World) (hq0_ : w.cell? ⟨B0_, O0_, none⟩ = some (.bool a0.f0) ∧ w.cell? ⟨B0_, O0_ + 1, none⟩ = some (.int .u32 a0.f1.f0) ∧ w.cell? ⟨B0_, O0_ + 2, none⟩ = some (.int .u32 a0.f1.f1) ∧ w.cell? ⟨B0_, O0_ + 3, none⟩ = some (.int .u32 a0.f1.f2) ∧ w.cell? ⟨B0_, O0_ + 4, none⟩ = some (.int .u32 a0.f1.f3) ∧ w.cell? ⟨B0_, O0_ + 5, none⟩ = some (.int .u32 a0.f1.f4) ∧ w.cell? ⟨B0_, O0_ + 6, none⟩ = some (.int .u32 a0.f1.f5)) (h : spec_l01Ok.f a0 = some r) :
    Calls Try.prog 81 #[.pointer (some ⟨B0_, O0_, none⟩)] w fun e w' => e = .returned (.bool r) ∧ Drawn0 w w' := by
  have hu23 := Try.underlying23
  have HQ0_ := Aside0.mk hq0_
  clear hq0_
  have H : (if a0.f0 = true then (some (!(a0.f1.f0 == 0) || (!(a0.f1.f1 == 0) || (!(a0.f1.f2 == 0) || (!(a0.f1.f3 == 0) || (!(a0.f1.f4 == 0) || (!(a0.f1.f5 == 0)))))))) else (some true)) = some r := h
  clear h
  by_cases c2 : a0.f0 = true
  · rw [if_pos c2] at H
    have c2b0 : a0.f0 = true := c2
    clear c2
    obtain rfl := Option.some.inj H
    obtain ⟨hxr3_0, hxr3_1, hxr3_2, hxr3_3, hxr3_4, hxr3_5, hxr3_6⟩ := HQ0_.out
    go_enter Try.func81, Try.ntmps81
    go_wp2
    go_ret
    exact ⟨by first | rfl | (simp; done) | (simp [*]; done), by repeat (first | exact Drawn0.refl _ | apply Drawn0.step)⟩
  · rw [if_neg c2] at H
    have c2b0 : a0.f0 = false := by simpa using c2
    clear c2
    obtain rfl := Option.some.inj H
    obtain ⟨hxr4_0, hxr4_1, hxr4_2, hxr4_3, hxr4_4, hxr4_5, hxr4_6⟩ := HQ0_.out
    go_enter Try.func81, Try.ntmps81
    go_wp2
    go_ret
    exact ⟨by first | rfl | (simp; done) | (simp [*]; done), by repeat (first | exact Drawn0.refl _ | apply Drawn0.step)⟩

set_option linter.defProp false
def aM44_ := @Aside0.mk
def kC44_ := @blk_cell
theorem q44x1_ {P : Prop} (h : P := by (with_reducible repeat (first | refine blk_drewN ?_ _ | refine blk_drew ?_ | refine blk_alloc ?_ _)); exact BK294.out) : P := h
theorem q44x2_ {P : Prop} (h : P := by (with_reducible repeat (first | refine blk_drewN ?_ _ | refine blk_drew ?_ | refine blk_alloc ?_ _)); exact BK295.out) : P := h
theorem q44x3_ {P : Prop} (h : P := by repeat (first | (with_reducible first | exact HB.out | apply below_alloc | apply pw_below_drewN | apply below_drew1 | refine below_set ?_ GE294.out | refine below_set ?_ GE295.out) | exact HB.out)) : P := h
theorem q44x4_ {P : Prop} (h : P := by repeat (first | (with_reducible first | exact HB.out | apply below_alloc | apply pw_below_drewN | apply below_drew1 | refine below_set ?_ GE294.out) | exact HB.out)) : P := h
theorem q44x5_ {P : Prop} (h : P := by repeat (first | (with_reducible first | exact HB.out | apply below_alloc | apply pw_below_drewN | apply below_drew1 | refine below_set ?_ GE294.out | refine below_set ?_ GE295.out | refine below_set ?_ GE296.out) | exact HB.out)) : P := h
theorem q44x6_ {P : Prop} (h : P := by rw [hg]; exact Nat.ne_of_lt (blk_lt (g := gb294) (o := .cells #[.bool a0.f0, .int .u32 a0.f1.f0, .int .u32 a0.f1.f1, .int .u32 a0.f1.f2, .int .u32 a0.f1.f3, .int .u32 a0.f1.f4, .int .u32 a0.f1.f5] 25 (0, 0)) q44x1_)) : P := h
theorem q44x7_ {P : Prop} (h : P := by rw [hg]; exact Nat.ne_of_gt (blk_lt (g := gb294) (o := .cells #[.bool a0.f0, .int .u32 a0.f1.f0, .int .u32 a0.f1.f1, .int .u32 a0.f1.f2, .int .u32 a0.f1.f3, .int .u32 a0.f1.f4, .int .u32 a0.f1.f5] 25 (0, 0)) q44x1_)) : P := h
theorem q44x8_ {P : Prop} (h : P := by repeat (first | (with_reducible first | exact HB.out | apply below_alloc | apply pw_below_drewN | apply below_drew1) | exact HB.out)) : P := h
theorem q44x9_ {P : Prop} (h : P := by (with_reducible repeat (first | refine blk_drewN ?_ _ | refine blk_drew ?_ | refine blk_alloc ?_ _)); refine puts7_ (.bool false) (.int .u32 0) (.int .u32 0) (.int .u32 0) (.int .u32 0) (.int .u32 0) (.int .u32 0) ?_; (with_reducible repeat (first | refine blk_drewN ?_ _ | refine blk_drew ?_ | refine blk_alloc ?_ _)); exact BK296.out) : P := h
theorem q44x10_ {P : Prop} (h : P := by (try simp only [List.map_toArray, List.map_cons, List.map_nil]); first | done | rfl | (simp only [List.length_drop, List.length_take]; rfl) | (simp only [List.drop_one]; done) | (simp only [List.drop_one]; rfl)) : P := h
theorem q44x11_ {P : Prop} (h : P := by (with_reducible repeat (first | refine blk_drewN ?_ _ | refine blk_drew ?_ | refine blk_alloc ?_ _)); exact BK296.out) : P := h
theorem q44x12_ {P : Prop} (h : P := by rw [hg]; exact Nat.ne_of_lt (blk_lt (g := gb295) (o := .cells #[.bool a1.f0, .int .u32 a1.f1.f0, .int .u32 a1.f1.f1, .int .u32 a1.f1.f2, .int .u32 a1.f1.f3, .int .u32 a1.f1.f4, .int .u32 a1.f1.f5] 25 (0, 0)) q44x2_)) : P := h
theorem q44x13_ {P : Prop} (h : P := by rw [hg]; exact Nat.ne_of_gt (blk_lt (g := gb295) (o := .cells #[.bool a1.f0, .int .u32 a1.f1.f0, .int .u32 a1.f1.f1, .int .u32 a1.f1.f2, .int .u32 a1.f1.f3, .int .u32 a1.f1.f4, .int .u32 a1.f1.f5] 25 (0, 0)) q44x2_)) : P := h
theorem q44x14_ {P : Prop} (h : P := by rw [hg]; exact (below_size q44x8_)) : P := h
theorem q44x15_ {P : Prop} (h : P := by rw [hg]; exact (below_size q44x4_)) : P := h
theorem q44x16_ {P : Prop} (h : P := by rw [hg]; exact (below_size q44x3_)) : P := h
/-! ### spec_MulWides: function 44 -/
def spec_MulWides.f (k : Nat) (a0 : S24) (a1 : S24) : Option (S24 × Int) := (spec_l01Ok.f a0).bind fun t297 => (if t297 = true then ((spec_l01Ok.f a1).bind fun t298 => (if t298 = true then ((spec_l01Mul.f k a0 a1).bind fun bt299 => (some (bt299.1, bt299.2))) else (some ((⟨false, (⟨0, 0, 0, 0, 0, 0⟩ : S23)⟩ : S24), 1)))) else (some ((⟨false, (⟨0, 0, 0, 0, 0, 0⟩ : S23)⟩ : S24), 1)))
theorem spec_MulWides.mono : ∀ a0 a1 k, LeO (spec_MulWides.f k a0 a1) (spec_MulWides.f (k + 1) a0 a1) := by
 intro a0 a1 k
 unfold spec_MulWides.f
 repeat' first
   | (with_reducible exact spec_l01Mul.mono _ _ _)
   | (with_reducible exact LeO.refl _)
   | (with_reducible exact LeO.none _)
   | (with_reducible refine LeO.ite ?_ ?_)
   | (with_reducible refine LeO.bind ?_ (fun _ => ?_))
   | exact spec_l01Mul.mono _ _ _
   | exact LeO.none _
   | refine LeO.ite ?_ ?_
   | refine LeO.bind ?_ (fun _ => ?_)
set_option maxHeartbeats 8000000 in
set_option maxRecDepth 100000 in
theorem spec_MulWides.calls (k : Nat) (a0 : S24) (a1 : S24) (r1 : S24) (r2 : Int) (w : World) (h : spec_MulWides.f k a0 a1 = some (r1, r2)) :
  Calls Try.prog 44 #[.agg #[.bool a0.f0, .int .u32 a0.f1.f0, .int .u32 a0.f1.f1, .int .u32 a0.f1.f2, .int .u32 a0.f1.f3, .int .u32 a0.f1.f4, .int .u32 a0.f1.f5], .agg #[.bool a1.f0, .int .u32 a1.f1.f0, .int .u32 a1.f1.f1, .int .u32 a1.f1.f2, .int .u32 a1.f1.f3, .int .u32 a1.f1.f4, .int .u32 a1.f1.f5]] w fun e w' => e = .returned (.tuple #[.agg #[.bool r1.f0, .int .u32 r1.f1.f0, .int .u32 r1.f1.f1, .int .u32 r1.f1.f2, .int .u32 r1.f1.f3, .int .u32 r1.f1.f4, .int .u32 r1.f1.f5], .int .i64 r2]) ∧ Below w.heap.size w w' := by
 have hu25 := Try.underlying25
 have HB := aM44_ (Below.refl w.heap.size w)
 have H : ((spec_l01Ok.f a0).bind fun t297 => (if t297 = true then ((spec_l01Ok.f a1).bind fun t298 => (if t298 = true then ((spec_l01Mul.f k a0 a1).bind fun bt299 => (some (bt299.1, bt299.2))) else (some ((⟨false, (⟨0, 0, 0, 0, 0, 0⟩ : S23)⟩ : S24), 1)))) else (some ((⟨false, (⟨0, 0, 0, 0, 0, 0⟩ : S23)⟩ : S24), 1)))) = some (r1, r2) := h
 clear h
 replace H := Option.bind_eq_some_iff.mp H
 obtain ⟨t297, A30, H⟩ := H
 replace H : (if t297 = true then ((spec_l01Ok.f a1).bind fun t298 => (if t298 = true then ((spec_l01Mul.f k a0 a1).bind fun bt299 => (some (bt299.1, bt299.2))) else (some ((⟨false, (⟨0, 0, 0, 0, 0, 0⟩ : S23)⟩ : S24), 1)))) else (some ((⟨false, (⟨0, 0, 0, 0, 0, 0⟩ : S23)⟩ : S24), 1))) = some (r1, r2) := H
 have A3 := aM44_ A30
 clear A30
 by_cases c4 : t297 = true
 rotate_left
 ·replace c4 := Bool.eq_false_iff.mpr c4
  subst c4
  have H1 : (some ((⟨false, (⟨0, 0, 0, 0, 0, 0⟩ : S23)⟩ : S24), 1)) = some (r1, r2) := by rw [if_neg (show ¬ (false = true) by decide)] at H; exact H
  clear H
  have H := H1
  clear H1
  simp only [Option.some.injEq, Prod.mk.injEq] at H
  obtain ⟨rfl, rfl⟩ := H
  go_enter Try.func44, Try.ntmps44
  go_wp2_with (first | ((with_reducible refine gate_dst (N := 2) rfl ?_); refine box_event ?hg (N := 2) ?hd (cs := #[.bool a0.f0, .int .u32 a0.f1.f0, .int .u32 a0.f1.f1, .int .u32 a0.f1.f2, .int .u32 a0.f1.f3, .int .u32 a0.f1.f4, .int .u32 a0.f1.f5]) (t := 25) ?hr ?_; (case hd => rfl); (case hg => rfl); (case hr => first | (go_simp; done) | (go_simp; rfl)); intro gb294 hg w24 hbox hb; have n0_ := aM44_ (below_step q44x8_ hb); have n1_ := aM44_ (hbox); have n2_ := aM44_ ((q44x14_ : w.heap.size ≤ gb294)); have n3_ := aM44_ ((q44x14_ : w.heap.size ≤ gb294)); clear HB; have HB := n0_; have BK294 := n1_; have GW294 := n2_; have GE294 := n3_; clear n0_ n1_ n2_ n3_; clear hb hbox hg) | ((with_reducible refine gate_dst (N := 3) rfl ?_); refine box_event ?hg (N := 3) ?hd (cs := #[.bool a1.f0, .int .u32 a1.f1.f0, .int .u32 a1.f1.f1, .int .u32 a1.f1.f2, .int .u32 a1.f1.f3, .int .u32 a1.f1.f4, .int .u32 a1.f1.f5]) (t := 25) ?hr ?_; (case hd => rfl); (case hg => rfl); (case hr => first | (go_simp; done) | (go_simp; rfl)); intro gb295 hg w25 hbox hb; have n0_ := aM44_ (blk_below (g := gb294) (o := .cells #[.bool a0.f0, .int .u32 a0.f1.f0, .int .u32 a0.f1.f1, .int .u32 a0.f1.f2, .int .u32 a0.f1.f3, .int .u32 a0.f1.f4, .int .u32 a0.f1.f5] 25 (0, 0)) q44x1_ hb); have n1_ := aM44_ (below_step q44x4_ hb); have n2_ := aM44_ (hbox); have n3_ := aM44_ ((q44x15_ : w.heap.size ≤ gb295)); have n4_ := aM44_ ((q44x15_ : w.heap.size ≤ gb295)); have n5_ := aM44_ ((q44x6_ : gb294 ≠ gb295)); have n6_ := aM44_ ((q44x7_ : gb295 ≠ gb294)); clear BK294 HB; have BK294 := n0_; have HB := n1_; have BK295 := n2_; have GW295 := n3_; have GE295 := n4_; have NB294_295 := n5_; have NB295_294 := n6_; clear n0_ n1_ n2_ n3_ n4_ n5_ n6_; clear hb hbox hg) | ((with_reducible refine gate_dst (N := 4) rfl ?_); refine box_event ?hg (N := 4) ?hd (cs := #[.bool false, .int .u32 0, .int .u32 0, .int .u32 0, .int .u32 0, .int .u32 0, .int .u32 0]) (t := 25) ?hr ?_; (case hd => rfl); (case hg => rfl); (case hr => first | (go_simp; done) | (go_simp; rfl)); intro gb296 hg w26 hbox hb; have n0_ := aM44_ (blk_below (g := gb294) (o := .cells #[.bool a0.f0, .int .u32 a0.f1.f0, .int .u32 a0.f1.f1, .int .u32 a0.f1.f2, .int .u32 a0.f1.f3, .int .u32 a0.f1.f4, .int .u32 a0.f1.f5] 25 (0, 0)) q44x1_ hb); have n1_ := aM44_ (blk_below (g := gb295) (o := .cells #[.bool a1.f0, .int .u32 a1.f1.f0, .int .u32 a1.f1.f1, .int .u32 a1.f1.f2, .int .u32 a1.f1.f3, .int .u32 a1.f1.f4, .int .u32 a1.f1.f5] 25 (0, 0)) q44x2_ hb); have n2_ := aM44_ (below_step q44x3_ hb); have n3_ := aM44_ (hbox); have n4_ := aM44_ ((q44x16_ : w.heap.size ≤ gb296)); have n5_ := aM44_ ((q44x16_ : w.heap.size ≤ gb296)); have n6_ := aM44_ ((q44x6_ : gb294 ≠ gb296)); have n7_ := aM44_ ((q44x7_ : gb296 ≠ gb294)); have n8_ := aM44_ ((q44x12_ : gb295 ≠ gb296)); have n9_ := aM44_ ((q44x13_ : gb296 ≠ gb295)); clear BK294 BK295 HB; have BK294 := n0_; have BK295 := n1_; have HB := n2_; have BK296 := n3_; have GW296 := n4_; have GE296 := n5_; have NB294_296 := n6_; have NB296_294 := n7_; have NB295_296 := n8_; have NB296_295 := n9_; clear n0_ n1_ n2_ n3_ n4_ n5_ n6_ n7_ n8_ n9_; clear hb hbox hg) | ((with_reducible refine gate_callee (f := 81) rfl ?_); refine goesL_ (some 6) rfl rfl Try.func81 (by kernel_rfl) rfl #[.pointer (some ⟨gb294, 0, none⟩)] rfl q44x10_ ?_; (with_reducible refine (spec_l01Ok.calls gb294 0 a0 false _ ?side1 A3.out).mono ?_); (case side1 => exact ⟨(kC44_ (g := gb294) (t := 25) (cs := #[.bool a0.f0, .int .u32 a0.f1.f0, .int .u32 a0.f1.f1, .int .u32 a0.f1.f2, .int .u32 a0.f1.f3, .int .u32 a0.f1.f4, .int .u32 a0.f1.f5]) q44x1_ 0).trans rfl, (kC44_ (g := gb294) (t := 25) (cs := #[.bool a0.f0, .int .u32 a0.f1.f0, .int .u32 a0.f1.f1, .int .u32 a0.f1.f2, .int .u32 a0.f1.f3, .int .u32 a0.f1.f4, .int .u32 a0.f1.f5]) q44x1_ 1).trans rfl, (kC44_ (g := gb294) (t := 25) (cs := #[.bool a0.f0, .int .u32 a0.f1.f0, .int .u32 a0.f1.f1, .int .u32 a0.f1.f2, .int .u32 a0.f1.f3, .int .u32 a0.f1.f4, .int .u32 a0.f1.f5]) q44x1_ 2).trans rfl, (kC44_ (g := gb294) (t := 25) (cs := #[.bool a0.f0, .int .u32 a0.f1.f0, .int .u32 a0.f1.f1, .int .u32 a0.f1.f2, .int .u32 a0.f1.f3, .int .u32 a0.f1.f4, .int .u32 a0.f1.f5]) q44x1_ 3).trans rfl, (kC44_ (g := gb294) (t := 25) (cs := #[.bool a0.f0, .int .u32 a0.f1.f0, .int .u32 a0.f1.f1, .int .u32 a0.f1.f2, .int .u32 a0.f1.f3, .int .u32 a0.f1.f4, .int .u32 a0.f1.f5]) q44x1_ 4).trans rfl, (kC44_ (g := gb294) (t := 25) (cs := #[.bool a0.f0, .int .u32 a0.f1.f0, .int .u32 a0.f1.f1, .int .u32 a0.f1.f2, .int .u32 a0.f1.f3, .int .u32 a0.f1.f4, .int .u32 a0.f1.f5]) q44x1_ 5).trans rfl, (kC44_ (g := gb294) (t := 25) (cs := #[.bool a0.f0, .int .u32 a0.f1.f0, .int .u32 a0.f1.f1, .int .u32 a0.f1.f2, .int .u32 a0.f1.f3, .int .u32 a0.f1.f4, .int .u32 a0.f1.f5]) q44x1_ 6).trans rfl⟩); rintro e w' ⟨rfl, ⟨nd, rfl⟩⟩; refine ⟨_, rfl, ?_⟩; (try (rw [drewN_self w26]; generalize hq_ : World.drewN w26 _ = w26; have n0_ : Aside0 (w26.heap[gb294]? = some (.cells #[.bool a0.f0, .int .u32 a0.f1.f0, .int .u32 a0.f1.f1, .int .u32 a0.f1.f2, .int .u32 a0.f1.f3, .int .u32 a0.f1.f4, .int .u32 a0.f1.f5] 25 (0, 0))) := ⟨by rw [← hq_]; exact q44x1_⟩; have n1_ : Aside0 (w26.heap[gb295]? = some (.cells #[.bool a1.f0, .int .u32 a1.f1.f0, .int .u32 a1.f1.f1, .int .u32 a1.f1.f2, .int .u32 a1.f1.f3, .int .u32 a1.f1.f4, .int .u32 a1.f1.f5] 25 (0, 0))) := ⟨by rw [← hq_]; exact q44x2_⟩; have n2_ : Aside0 (w26.heap[gb296]? = some (.cells #[.bool false, .int .u32 0, .int .u32 0, .int .u32 0, .int .u32 0, .int .u32 0, .int .u32 0] 25 (0, 0))) := ⟨by rw [← hq_]; exact q44x11_⟩; have n3_ : Aside0 (Below w.heap.size w w26) := ⟨by rw [← hq_]; exact q44x5_⟩; clear BK294 BK295 BK296 HB hq_; have BK294 := n0_; have BK295 := n1_; have BK296 := n2_; have HB := n3_; clear n0_ n1_ n2_ n3_)); have hnb27 := NB296_294.out; have hnc27 := NB294_296.out; have hnb28 := NB296_295.out; have hnc28 := NB295_296.out; obtain ⟨hcz29_0, hcz29_1, hcz29_2, hcz29_3, hcz29_4, hcz29_5, hcz29_6⟩ := cells7_ (show w26.heap[gb296]? = some (.cells #[.bool false, .int .u32 0, .int .u32 0, .int .u32 0, .int .u32 0, .int .u32 0, .int .u32 0] 25 (0, 0)) from BK296.out); obtain ⟨hfz29_0, hfz29_1, hfz29_2, hfz29_3, hfz29_4, hfz29_5, hfz29_6⟩ := frozen7_ BK296.out))
  refine bodyPost_ret (results_ct rfl _ _ gb296 25 #[.bool false, .int .u32 0, .int .u32 0, .int .u32 0, .int .u32 0, .int .u32 0, .int .u32 0] (0, 0) _ rfl q44x9_ Try.underlying25 rfl (by kernel_rfl)) rfl ?_
  exact ⟨by first | rfl | (simp [errW_none, errW_some] <;> rfl) | (simp [*, errW_none, errW_some] <;> rfl), by repeat (first | (with_reducible first | exact HB.out | apply below_alloc | apply pw_below_drewN | apply below_drew1 | refine below_set ?_ GE294.out | refine below_set ?_ GE295.out | refine below_set ?_ GE296.out) | exact HB.out)⟩

 subst c4
 have H1 : ((spec_l01Ok.f a1).bind fun t298 => (if t298 = true then ((spec_l01Mul.f k a0 a1).bind fun bt299 => (some (bt299.1, bt299.2))) else (some ((⟨false, (⟨0, 0, 0, 0, 0, 0⟩ : S23)⟩ : S24), 1)))) = some (r1, r2) := by rw [if_pos rfl] at H; exact H
 clear H
 have H := H1
 clear H1
 replace H := Option.bind_eq_some_iff.mp H
 obtain ⟨t298, A50, H⟩ := H
 replace H : (if t298 = true then ((spec_l01Mul.f k a0 a1).bind fun bt299 => (some (bt299.1, bt299.2))) else (some ((⟨false, (⟨0, 0, 0, 0, 0, 0⟩ : S23)⟩ : S24), 1))) = some (r1, r2) := H
 have A5 := aM44_ A50
 clear A50
 by_cases c6 : t298 = true
 rotate_left
 ·replace c6 := Bool.eq_false_iff.mpr c6
  subst c6
  have H1 : (some ((⟨false, (⟨0, 0, 0, 0, 0, 0⟩ : S23)⟩ : S24), 1)) = some (r1, r2) := by rw [if_neg (show ¬ (false = true) by decide)] at H; exact H
  clear H
  have H := H1
  clear H1
  simp only [Option.some.injEq, Prod.mk.injEq] at H
  obtain ⟨rfl, rfl⟩ := H
  go_enter Try.func44, Try.ntmps44
  go_wp2_with (first | ((with_reducible refine gate_dst (N := 2) rfl ?_); refine box_event ?hg (N := 2) ?hd (cs := #[.bool a0.f0, .int .u32 a0.f1.f0, .int .u32 a0.f1.f1, .int .u32 a0.f1.f2, .int .u32 a0.f1.f3, .int .u32 a0.f1.f4, .int .u32 a0.f1.f5]) (t := 25) ?hr ?_; (case hd => rfl); (case hg => rfl); (case hr => first | (go_simp; done) | (go_simp; rfl)); intro gb294 hg w18 hbox hb; have n0_ := aM44_ (below_step q44x8_ hb); have n1_ := aM44_ (hbox); have n2_ := aM44_ ((q44x14_ : w.heap.size ≤ gb294)); have n3_ := aM44_ ((q44x14_ : w.heap.size ≤ gb294)); clear HB; have HB := n0_; have BK294 := n1_; have GW294 := n2_; have GE294 := n3_; clear n0_ n1_ n2_ n3_; clear hb hbox hg) | ((with_reducible refine gate_dst (N := 3) rfl ?_); refine box_event ?hg (N := 3) ?hd (cs := #[.bool a1.f0, .int .u32 a1.f1.f0, .int .u32 a1.f1.f1, .int .u32 a1.f1.f2, .int .u32 a1.f1.f3, .int .u32 a1.f1.f4, .int .u32 a1.f1.f5]) (t := 25) ?hr ?_; (case hd => rfl); (case hg => rfl); (case hr => first | (go_simp; done) | (go_simp; rfl)); intro gb295 hg w19 hbox hb; have n0_ := aM44_ (blk_below (g := gb294) (o := .cells #[.bool a0.f0, .int .u32 a0.f1.f0, .int .u32 a0.f1.f1, .int .u32 a0.f1.f2, .int .u32 a0.f1.f3, .int .u32 a0.f1.f4, .int .u32 a0.f1.f5] 25 (0, 0)) q44x1_ hb); have n1_ := aM44_ (below_step q44x4_ hb); have n2_ := aM44_ (hbox); have n3_ := aM44_ ((q44x15_ : w.heap.size ≤ gb295)); have n4_ := aM44_ ((q44x15_ : w.heap.size ≤ gb295)); have n5_ := aM44_ ((q44x6_ : gb294 ≠ gb295)); have n6_ := aM44_ ((q44x7_ : gb295 ≠ gb294)); clear BK294 HB; have BK294 := n0_; have HB := n1_; have BK295 := n2_; have GW295 := n3_; have GE295 := n4_; have NB294_295 := n5_; have NB295_294 := n6_; clear n0_ n1_ n2_ n3_ n4_ n5_ n6_; clear hb hbox hg) | ((with_reducible refine gate_dst (N := 4) rfl ?_); refine box_event ?hg (N := 4) ?hd (cs := #[.bool false, .int .u32 0, .int .u32 0, .int .u32 0, .int .u32 0, .int .u32 0, .int .u32 0]) (t := 25) ?hr ?_; (case hd => rfl); (case hg => rfl); (case hr => first | (go_simp; done) | (go_simp; rfl)); intro gb296 hg w20 hbox hb; have n0_ := aM44_ (blk_below (g := gb294) (o := .cells #[.bool a0.f0, .int .u32 a0.f1.f0, .int .u32 a0.f1.f1, .int .u32 a0.f1.f2, .int .u32 a0.f1.f3, .int .u32 a0.f1.f4, .int .u32 a0.f1.f5] 25 (0, 0)) q44x1_ hb); have n1_ := aM44_ (blk_below (g := gb295) (o := .cells #[.bool a1.f0, .int .u32 a1.f1.f0, .int .u32 a1.f1.f1, .int .u32 a1.f1.f2, .int .u32 a1.f1.f3, .int .u32 a1.f1.f4, .int .u32 a1.f1.f5] 25 (0, 0)) q44x2_ hb); have n2_ := aM44_ (below_step q44x3_ hb); have n3_ := aM44_ (hbox); have n4_ := aM44_ ((q44x16_ : w.heap.size ≤ gb296)); have n5_ := aM44_ ((q44x16_ : w.heap.size ≤ gb296)); have n6_ := aM44_ ((q44x6_ : gb294 ≠ gb296)); have n7_ := aM44_ ((q44x7_ : gb296 ≠ gb294)); have n8_ := aM44_ ((q44x12_ : gb295 ≠ gb296)); have n9_ := aM44_ ((q44x13_ : gb296 ≠ gb295)); clear BK294 BK295 HB; have BK294 := n0_; have BK295 := n1_; have HB := n2_; have BK296 := n3_; have GW296 := n4_; have GE296 := n5_; have NB294_296 := n6_; have NB296_294 := n7_; have NB295_296 := n8_; have NB296_295 := n9_; clear n0_ n1_ n2_ n3_ n4_ n5_ n6_ n7_ n8_ n9_; clear hb hbox hg) | ((with_reducible refine gate_callee (f := 81) rfl ?_); refine goesL_ (some 6) rfl rfl Try.func81 (by kernel_rfl) rfl #[.pointer (some ⟨gb294, 0, none⟩)] rfl q44x10_ ?_; (with_reducible refine (spec_l01Ok.calls gb294 0 a0 true _ ?side1 A3.out).mono ?_); (case side1 => exact ⟨(kC44_ (g := gb294) (t := 25) (cs := #[.bool a0.f0, .int .u32 a0.f1.f0, .int .u32 a0.f1.f1, .int .u32 a0.f1.f2, .int .u32 a0.f1.f3, .int .u32 a0.f1.f4, .int .u32 a0.f1.f5]) q44x1_ 0).trans rfl, (kC44_ (g := gb294) (t := 25) (cs := #[.bool a0.f0, .int .u32 a0.f1.f0, .int .u32 a0.f1.f1, .int .u32 a0.f1.f2, .int .u32 a0.f1.f3, .int .u32 a0.f1.f4, .int .u32 a0.f1.f5]) q44x1_ 1).trans rfl, (kC44_ (g := gb294) (t := 25) (cs := #[.bool a0.f0, .int .u32 a0.f1.f0, .int .u32 a0.f1.f1, .int .u32 a0.f1.f2, .int .u32 a0.f1.f3, .int .u32 a0.f1.f4, .int .u32 a0.f1.f5]) q44x1_ 2).trans rfl, (kC44_ (g := gb294) (t := 25) (cs := #[.bool a0.f0, .int .u32 a0.f1.f0, .int .u32 a0.f1.f1, .int .u32 a0.f1.f2, .int .u32 a0.f1.f3, .int .u32 a0.f1.f4, .int .u32 a0.f1.f5]) q44x1_ 3).trans rfl, (kC44_ (g := gb294) (t := 25) (cs := #[.bool a0.f0, .int .u32 a0.f1.f0, .int .u32 a0.f1.f1, .int .u32 a0.f1.f2, .int .u32 a0.f1.f3, .int .u32 a0.f1.f4, .int .u32 a0.f1.f5]) q44x1_ 4).trans rfl, (kC44_ (g := gb294) (t := 25) (cs := #[.bool a0.f0, .int .u32 a0.f1.f0, .int .u32 a0.f1.f1, .int .u32 a0.f1.f2, .int .u32 a0.f1.f3, .int .u32 a0.f1.f4, .int .u32 a0.f1.f5]) q44x1_ 5).trans rfl, (kC44_ (g := gb294) (t := 25) (cs := #[.bool a0.f0, .int .u32 a0.f1.f0, .int .u32 a0.f1.f1, .int .u32 a0.f1.f2, .int .u32 a0.f1.f3, .int .u32 a0.f1.f4, .int .u32 a0.f1.f5]) q44x1_ 6).trans rfl⟩); rintro e w' ⟨rfl, ⟨nd, rfl⟩⟩; refine ⟨_, rfl, ?_⟩; (try (rw [drewN_self w20]; generalize hq_ : World.drewN w20 _ = w20; have n0_ : Aside0 (w20.heap[gb294]? = some (.cells #[.bool a0.f0, .int .u32 a0.f1.f0, .int .u32 a0.f1.f1, .int .u32 a0.f1.f2, .int .u32 a0.f1.f3, .int .u32 a0.f1.f4, .int .u32 a0.f1.f5] 25 (0, 0))) := ⟨by rw [← hq_]; exact q44x1_⟩; have n1_ : Aside0 (w20.heap[gb295]? = some (.cells #[.bool a1.f0, .int .u32 a1.f1.f0, .int .u32 a1.f1.f1, .int .u32 a1.f1.f2, .int .u32 a1.f1.f3, .int .u32 a1.f1.f4, .int .u32 a1.f1.f5] 25 (0, 0))) := ⟨by rw [← hq_]; exact q44x2_⟩; have n2_ : Aside0 (w20.heap[gb296]? = some (.cells #[.bool false, .int .u32 0, .int .u32 0, .int .u32 0, .int .u32 0, .int .u32 0, .int .u32 0] 25 (0, 0))) := ⟨by rw [← hq_]; exact q44x11_⟩; have n3_ : Aside0 (Below w.heap.size w w20) := ⟨by rw [← hq_]; exact q44x5_⟩; clear BK294 BK295 BK296 HB hq_; have BK294 := n0_; have BK295 := n1_; have BK296 := n2_; have HB := n3_; clear n0_ n1_ n2_ n3_))) | (go_at_call 81; (with_reducible refine (spec_l01Ok.calls gb295 0 a1 false _ ?side1 A5.out).mono ?_); (case side1 => exact ⟨(kC44_ (g := gb295) (t := 25) (cs := #[.bool a1.f0, .int .u32 a1.f1.f0, .int .u32 a1.f1.f1, .int .u32 a1.f1.f2, .int .u32 a1.f1.f3, .int .u32 a1.f1.f4, .int .u32 a1.f1.f5]) q44x2_ 0).trans rfl, (kC44_ (g := gb295) (t := 25) (cs := #[.bool a1.f0, .int .u32 a1.f1.f0, .int .u32 a1.f1.f1, .int .u32 a1.f1.f2, .int .u32 a1.f1.f3, .int .u32 a1.f1.f4, .int .u32 a1.f1.f5]) q44x2_ 1).trans rfl, (kC44_ (g := gb295) (t := 25) (cs := #[.bool a1.f0, .int .u32 a1.f1.f0, .int .u32 a1.f1.f1, .int .u32 a1.f1.f2, .int .u32 a1.f1.f3, .int .u32 a1.f1.f4, .int .u32 a1.f1.f5]) q44x2_ 2).trans rfl, (kC44_ (g := gb295) (t := 25) (cs := #[.bool a1.f0, .int .u32 a1.f1.f0, .int .u32 a1.f1.f1, .int .u32 a1.f1.f2, .int .u32 a1.f1.f3, .int .u32 a1.f1.f4, .int .u32 a1.f1.f5]) q44x2_ 3).trans rfl, (kC44_ (g := gb295) (t := 25) (cs := #[.bool a1.f0, .int .u32 a1.f1.f0, .int .u32 a1.f1.f1, .int .u32 a1.f1.f2, .int .u32 a1.f1.f3, .int .u32 a1.f1.f4, .int .u32 a1.f1.f5]) q44x2_ 4).trans rfl, (kC44_ (g := gb295) (t := 25) (cs := #[.bool a1.f0, .int .u32 a1.f1.f0, .int .u32 a1.f1.f1, .int .u32 a1.f1.f2, .int .u32 a1.f1.f3, .int .u32 a1.f1.f4, .int .u32 a1.f1.f5]) q44x2_ 5).trans rfl, (kC44_ (g := gb295) (t := 25) (cs := #[.bool a1.f0, .int .u32 a1.f1.f0, .int .u32 a1.f1.f1, .int .u32 a1.f1.f2, .int .u32 a1.f1.f3, .int .u32 a1.f1.f4, .int .u32 a1.f1.f5]) q44x2_ 6).trans rfl⟩); rintro e w' ⟨rfl, ⟨nd, rfl⟩⟩; (try (rw [drewN_self w20]; generalize hq_ : World.drewN w20 _ = w20; have n0_ : Aside0 (w20.heap[gb294]? = some (.cells #[.bool a0.f0, .int .u32 a0.f1.f0, .int .u32 a0.f1.f1, .int .u32 a0.f1.f2, .int .u32 a0.f1.f3, .int .u32 a0.f1.f4, .int .u32 a0.f1.f5] 25 (0, 0))) := ⟨by rw [← hq_]; exact q44x1_⟩; have n1_ : Aside0 (w20.heap[gb295]? = some (.cells #[.bool a1.f0, .int .u32 a1.f1.f0, .int .u32 a1.f1.f1, .int .u32 a1.f1.f2, .int .u32 a1.f1.f3, .int .u32 a1.f1.f4, .int .u32 a1.f1.f5] 25 (0, 0))) := ⟨by rw [← hq_]; exact q44x2_⟩; have n2_ : Aside0 (w20.heap[gb296]? = some (.cells #[.bool false, .int .u32 0, .int .u32 0, .int .u32 0, .int .u32 0, .int .u32 0, .int .u32 0] 25 (0, 0))) := ⟨by rw [← hq_]; exact q44x11_⟩; have n3_ : Aside0 (Below w.heap.size w w20) := ⟨by rw [← hq_]; exact q44x5_⟩; clear BK294 BK295 BK296 HB hq_; have BK294 := n0_; have BK295 := n1_; have BK296 := n2_; have HB := n3_; clear n0_ n1_ n2_ n3_)); have hnb21 := NB296_294.out; have hnc21 := NB294_296.out; have hnb22 := NB296_295.out; have hnc22 := NB295_296.out; obtain ⟨hcz23_0, hcz23_1, hcz23_2, hcz23_3, hcz23_4, hcz23_5, hcz23_6⟩ := cells7_ (show w20.heap[gb296]? = some (.cells #[.bool false, .int .u32 0, .int .u32 0, .int .u32 0, .int .u32 0, .int .u32 0, .int .u32 0] 25 (0, 0)) from BK296.out); obtain ⟨hfz23_0, hfz23_1, hfz23_2, hfz23_3, hfz23_4, hfz23_5, hfz23_6⟩ := frozen7_ BK296.out))
  refine bodyPost_ret (results_ct rfl _ _ gb296 25 #[.bool false, .int .u32 0, .int .u32 0, .int .u32 0, .int .u32 0, .int .u32 0, .int .u32 0] (0, 0) _ rfl q44x9_ Try.underlying25 rfl (by kernel_rfl)) rfl ?_
  exact ⟨by first | rfl | (simp [errW_none, errW_some] <;> rfl) | (simp [*, errW_none, errW_some] <;> rfl), by repeat (first | (with_reducible first | exact HB.out | apply below_alloc | apply pw_below_drewN | apply below_drew1 | refine below_set ?_ GE294.out | refine below_set ?_ GE295.out | refine below_set ?_ GE296.out) | exact HB.out)⟩
 subst c6
 have H1 : ((spec_l01Mul.f k a0 a1).bind fun bt299 => (some (bt299.1, bt299.2))) = some (r1, r2) := by rw [if_pos rfl] at H; exact H
 clear H
 have H := H1
 clear H1
 replace H := Option.bind_eq_some_iff.mp H
 obtain ⟨⟨t299, t300⟩, A70, H⟩ := H
 replace H : (some (t299, t300)) = some (r1, r2) := H
 have A7 := aM44_ A70
 clear A70
 simp only [Option.some.injEq, Prod.mk.injEq] at H
 obtain ⟨rfl, rfl⟩ := H
 go_enter Try.func44, Try.ntmps44
 go_wp2_with (first | ((with_reducible refine gate_dst (N := 2) rfl ?_); refine box_event ?hg (N := 2) ?hd (cs := #[.bool a0.f0, .int .u32 a0.f1.f0, .int .u32 a0.f1.f1, .int .u32 a0.f1.f2, .int .u32 a0.f1.f3, .int .u32 a0.f1.f4, .int .u32 a0.f1.f5]) (t := 25) ?hr ?_; (case hd => rfl); (case hg => rfl); (case hr => first | (go_simp; done) | (go_simp; rfl)); intro gb294 hg w8 hbox hb; have n0_ := aM44_ (below_step q44x8_ hb); have n1_ := aM44_ (hbox); have n2_ := aM44_ ((q44x14_ : w.heap.size ≤ gb294)); have n3_ := aM44_ ((q44x14_ : w.heap.size ≤ gb294)); clear HB; have HB := n0_; have BK294 := n1_; have GW294 := n2_; have GE294 := n3_; clear n0_ n1_ n2_ n3_; clear hb hbox hg) | ((with_reducible refine gate_dst (N := 3) rfl ?_); refine box_event ?hg (N := 3) ?hd (cs := #[.bool a1.f0, .int .u32 a1.f1.f0, .int .u32 a1.f1.f1, .int .u32 a1.f1.f2, .int .u32 a1.f1.f3, .int .u32 a1.f1.f4, .int .u32 a1.f1.f5]) (t := 25) ?hr ?_; (case hd => rfl); (case hg => rfl); (case hr => first | (go_simp; done) | (go_simp; rfl)); intro gb295 hg w9 hbox hb; have n0_ := aM44_ (blk_below (g := gb294) (o := .cells #[.bool a0.f0, .int .u32 a0.f1.f0, .int .u32 a0.f1.f1, .int .u32 a0.f1.f2, .int .u32 a0.f1.f3, .int .u32 a0.f1.f4, .int .u32 a0.f1.f5] 25 (0, 0)) q44x1_ hb); have n1_ := aM44_ (below_step q44x4_ hb); have n2_ := aM44_ (hbox); have n3_ := aM44_ ((q44x15_ : w.heap.size ≤ gb295)); have n4_ := aM44_ ((q44x15_ : w.heap.size ≤ gb295)); have n5_ := aM44_ ((q44x6_ : gb294 ≠ gb295)); have n6_ := aM44_ ((q44x7_ : gb295 ≠ gb294)); clear BK294 HB; have BK294 := n0_; have HB := n1_; have BK295 := n2_; have GW295 := n3_; have GE295 := n4_; have NB294_295 := n5_; have NB295_294 := n6_; clear n0_ n1_ n2_ n3_ n4_ n5_ n6_; clear hb hbox hg) | ((with_reducible refine gate_dst (N := 4) rfl ?_); refine box_event ?hg (N := 4) ?hd (cs := #[.bool false, .int .u32 0, .int .u32 0, .int .u32 0, .int .u32 0, .int .u32 0, .int .u32 0]) (t := 25) ?hr ?_; (case hd => rfl); (case hg => rfl); (case hr => first | (go_simp; done) | (go_simp; rfl)); intro gb296 hg w10 hbox hb; have n0_ := aM44_ (blk_below (g := gb294) (o := .cells #[.bool a0.f0, .int .u32 a0.f1.f0, .int .u32 a0.f1.f1, .int .u32 a0.f1.f2, .int .u32 a0.f1.f3, .int .u32 a0.f1.f4, .int .u32 a0.f1.f5] 25 (0, 0)) q44x1_ hb); have n1_ := aM44_ (blk_below (g := gb295) (o := .cells #[.bool a1.f0, .int .u32 a1.f1.f0, .int .u32 a1.f1.f1, .int .u32 a1.f1.f2, .int .u32 a1.f1.f3, .int .u32 a1.f1.f4, .int .u32 a1.f1.f5] 25 (0, 0)) q44x2_ hb); have n2_ := aM44_ (below_step q44x3_ hb); have n3_ := aM44_ (hbox); have n4_ := aM44_ ((q44x16_ : w.heap.size ≤ gb296)); have n5_ := aM44_ ((q44x16_ : w.heap.size ≤ gb296)); have n6_ := aM44_ ((q44x6_ : gb294 ≠ gb296)); have n7_ := aM44_ ((q44x7_ : gb296 ≠ gb294)); have n8_ := aM44_ ((q44x12_ : gb295 ≠ gb296)); have n9_ := aM44_ ((q44x13_ : gb296 ≠ gb295)); clear BK294 BK295 HB; have BK294 := n0_; have BK295 := n1_; have HB := n2_; have BK296 := n3_; have GW296 := n4_; have GE296 := n5_; have NB294_296 := n6_; have NB296_294 := n7_; have NB295_296 := n8_; have NB296_295 := n9_; clear n0_ n1_ n2_ n3_ n4_ n5_ n6_ n7_ n8_ n9_; clear hb hbox hg) | ((with_reducible refine gate_callee (f := 81) rfl ?_); refine goesL_ (some 6) rfl rfl Try.func81 (by kernel_rfl) rfl #[.pointer (some ⟨gb294, 0, none⟩)] rfl q44x10_ ?_; (with_reducible refine (spec_l01Ok.calls gb294 0 a0 true _ ?side1 A3.out).mono ?_); (case side1 => exact ⟨(kC44_ (g := gb294) (t := 25) (cs := #[.bool a0.f0, .int .u32 a0.f1.f0, .int .u32 a0.f1.f1, .int .u32 a0.f1.f2, .int .u32 a0.f1.f3, .int .u32 a0.f1.f4, .int .u32 a0.f1.f5]) q44x1_ 0).trans rfl, (kC44_ (g := gb294) (t := 25) (cs := #[.bool a0.f0, .int .u32 a0.f1.f0, .int .u32 a0.f1.f1, .int .u32 a0.f1.f2, .int .u32 a0.f1.f3, .int .u32 a0.f1.f4, .int .u32 a0.f1.f5]) q44x1_ 1).trans rfl, (kC44_ (g := gb294) (t := 25) (cs := #[.bool a0.f0, .int .u32 a0.f1.f0, .int .u32 a0.f1.f1, .int .u32 a0.f1.f2, .int .u32 a0.f1.f3, .int .u32 a0.f1.f4, .int .u32 a0.f1.f5]) q44x1_ 2).trans rfl, (kC44_ (g := gb294) (t := 25) (cs := #[.bool a0.f0, .int .u32 a0.f1.f0, .int .u32 a0.f1.f1, .int .u32 a0.f1.f2, .int .u32 a0.f1.f3, .int .u32 a0.f1.f4, .int .u32 a0.f1.f5]) q44x1_ 3).trans rfl, (kC44_ (g := gb294) (t := 25) (cs := #[.bool a0.f0, .int .u32 a0.f1.f0, .int .u32 a0.f1.f1, .int .u32 a0.f1.f2, .int .u32 a0.f1.f3, .int .u32 a0.f1.f4, .int .u32 a0.f1.f5]) q44x1_ 4).trans rfl, (kC44_ (g := gb294) (t := 25) (cs := #[.bool a0.f0, .int .u32 a0.f1.f0, .int .u32 a0.f1.f1, .int .u32 a0.f1.f2, .int .u32 a0.f1.f3, .int .u32 a0.f1.f4, .int .u32 a0.f1.f5]) q44x1_ 5).trans rfl, (kC44_ (g := gb294) (t := 25) (cs := #[.bool a0.f0, .int .u32 a0.f1.f0, .int .u32 a0.f1.f1, .int .u32 a0.f1.f2, .int .u32 a0.f1.f3, .int .u32 a0.f1.f4, .int .u32 a0.f1.f5]) q44x1_ 6).trans rfl⟩); rintro e w' ⟨rfl, ⟨nd, rfl⟩⟩; refine ⟨_, rfl, ?_⟩; (try (rw [drewN_self w10]; generalize hq_ : World.drewN w10 _ = w10; have n0_ : Aside0 (w10.heap[gb294]? = some (.cells #[.bool a0.f0, .int .u32 a0.f1.f0, .int .u32 a0.f1.f1, .int .u32 a0.f1.f2, .int .u32 a0.f1.f3, .int .u32 a0.f1.f4, .int .u32 a0.f1.f5] 25 (0, 0))) := ⟨by rw [← hq_]; exact q44x1_⟩; have n1_ : Aside0 (w10.heap[gb295]? = some (.cells #[.bool a1.f0, .int .u32 a1.f1.f0, .int .u32 a1.f1.f1, .int .u32 a1.f1.f2, .int .u32 a1.f1.f3, .int .u32 a1.f1.f4, .int .u32 a1.f1.f5] 25 (0, 0))) := ⟨by rw [← hq_]; exact q44x2_⟩; have n2_ : Aside0 (w10.heap[gb296]? = some (.cells #[.bool false, .int .u32 0, .int .u32 0, .int .u32 0, .int .u32 0, .int .u32 0, .int .u32 0] 25 (0, 0))) := ⟨by rw [← hq_]; exact q44x11_⟩; have n3_ : Aside0 (Below w.heap.size w w10) := ⟨by rw [← hq_]; exact q44x5_⟩; clear BK294 BK295 BK296 HB hq_; have BK294 := n0_; have BK295 := n1_; have BK296 := n2_; have HB := n3_; clear n0_ n1_ n2_ n3_))) | (go_at_call 81; (with_reducible refine (spec_l01Ok.calls gb295 0 a1 true _ ?side1 A5.out).mono ?_); (case side1 => exact ⟨(kC44_ (g := gb295) (t := 25) (cs := #[.bool a1.f0, .int .u32 a1.f1.f0, .int .u32 a1.f1.f1, .int .u32 a1.f1.f2, .int .u32 a1.f1.f3, .int .u32 a1.f1.f4, .int .u32 a1.f1.f5]) q44x2_ 0).trans rfl, (kC44_ (g := gb295) (t := 25) (cs := #[.bool a1.f0, .int .u32 a1.f1.f0, .int .u32 a1.f1.f1, .int .u32 a1.f1.f2, .int .u32 a1.f1.f3, .int .u32 a1.f1.f4, .int .u32 a1.f1.f5]) q44x2_ 1).trans rfl, (kC44_ (g := gb295) (t := 25) (cs := #[.bool a1.f0, .int .u32 a1.f1.f0, .int .u32 a1.f1.f1, .int .u32 a1.f1.f2, .int .u32 a1.f1.f3, .int .u32 a1.f1.f4, .int .u32 a1.f1.f5]) q44x2_ 2).trans rfl, (kC44_ (g := gb295) (t := 25) (cs := #[.bool a1.f0, .int .u32 a1.f1.f0, .int .u32 a1.f1.f1, .int .u32 a1.f1.f2, .int .u32 a1.f1.f3, .int .u32 a1.f1.f4, .int .u32 a1.f1.f5]) q44x2_ 3).trans rfl, (kC44_ (g := gb295) (t := 25) (cs := #[.bool a1.f0, .int .u32 a1.f1.f0, .int .u32 a1.f1.f1, .int .u32 a1.f1.f2, .int .u32 a1.f1.f3, .int .u32 a1.f1.f4, .int .u32 a1.f1.f5]) q44x2_ 4).trans rfl, (kC44_ (g := gb295) (t := 25) (cs := #[.bool a1.f0, .int .u32 a1.f1.f0, .int .u32 a1.f1.f1, .int .u32 a1.f1.f2, .int .u32 a1.f1.f3, .int .u32 a1.f1.f4, .int .u32 a1.f1.f5]) q44x2_ 5).trans rfl, (kC44_ (g := gb295) (t := 25) (cs := #[.bool a1.f0, .int .u32 a1.f1.f0, .int .u32 a1.f1.f1, .int .u32 a1.f1.f2, .int .u32 a1.f1.f3, .int .u32 a1.f1.f4, .int .u32 a1.f1.f5]) q44x2_ 6).trans rfl⟩); rintro e w' ⟨rfl, ⟨nd, rfl⟩⟩; (try (rw [drewN_self w10]; generalize hq_ : World.drewN w10 _ = w10; have n0_ : Aside0 (w10.heap[gb294]? = some (.cells #[.bool a0.f0, .int .u32 a0.f1.f0, .int .u32 a0.f1.f1, .int .u32 a0.f1.f2, .int .u32 a0.f1.f3, .int .u32 a0.f1.f4, .int .u32 a0.f1.f5] 25 (0, 0))) := ⟨by rw [← hq_]; exact q44x1_⟩; have n1_ : Aside0 (w10.heap[gb295]? = some (.cells #[.bool a1.f0, .int .u32 a1.f1.f0, .int .u32 a1.f1.f1, .int .u32 a1.f1.f2, .int .u32 a1.f1.f3, .int .u32 a1.f1.f4, .int .u32 a1.f1.f5] 25 (0, 0))) := ⟨by rw [← hq_]; exact q44x2_⟩; have n2_ : Aside0 (w10.heap[gb296]? = some (.cells #[.bool false, .int .u32 0, .int .u32 0, .int .u32 0, .int .u32 0, .int .u32 0, .int .u32 0] 25 (0, 0))) := ⟨by rw [← hq_]; exact q44x11_⟩; have n3_ : Aside0 (Below w.heap.size w w10) := ⟨by rw [← hq_]; exact q44x5_⟩; clear BK294 BK295 BK296 HB hq_; have BK294 := n0_; have BK295 := n1_; have BK296 := n2_; have HB := n3_; clear n0_ n1_ n2_ n3_)); have hnb11 := NB294_295.out; have hnc11 := NB295_294.out; have hnb12 := NB294_296.out; have hnc12 := NB296_294.out; obtain ⟨hcz13_0, hcz13_1, hcz13_2, hcz13_3, hcz13_4, hcz13_5, hcz13_6⟩ := cells7_ (show w10.heap[gb294]? = some (.cells #[.bool a0.f0, .int .u32 a0.f1.f0, .int .u32 a0.f1.f1, .int .u32 a0.f1.f2, .int .u32 a0.f1.f3, .int .u32 a0.f1.f4, .int .u32 a0.f1.f5] 25 (0, 0)) from BK294.out); obtain ⟨hfz13_0, hfz13_1, hfz13_2, hfz13_3, hfz13_4, hfz13_5, hfz13_6⟩ := frozen7_ BK294.out; have hnb14 := NB295_296.out; have hnc14 := NB296_295.out; obtain ⟨hcz15_0, hcz15_1, hcz15_2, hcz15_3, hcz15_4, hcz15_5, hcz15_6⟩ := cells7_ (show w10.heap[gb295]? = some (.cells #[.bool a1.f0, .int .u32 a1.f1.f0, .int .u32 a1.f1.f1, .int .u32 a1.f1.f2, .int .u32 a1.f1.f3, .int .u32 a1.f1.f4, .int .u32 a1.f1.f5] 25 (0, 0)) from BK295.out); obtain ⟨hfz15_0, hfz15_1, hfz15_2, hfz15_3, hfz15_4, hfz15_5, hfz15_6⟩ := frozen7_ BK295.out) | ((with_reducible refine gate_callee (f := 82) rfl ?_); refine goesL_ (some 15) rfl rfl Try.func82 (by kernel_rfl) rfl #[.agg #[.bool a0.f0, .int .u32 a0.f1.f0, .int .u32 a0.f1.f1, .int .u32 a0.f1.f2, .int .u32 a0.f1.f3, .int .u32 a0.f1.f4, .int .u32 a0.f1.f5], .agg #[.bool a1.f0, .int .u32 a1.f1.f0, .int .u32 a1.f1.f1, .int .u32 a1.f1.f2, .int .u32 a1.f1.f3, .int .u32 a1.f1.f4, .int .u32 a1.f1.f5]] rfl q44x10_ ?_; (with_reducible refine (spec_l01Mul.calls k a0 a1 t299 t300 _ A7.out).mono ?_); rintro e w16 ⟨rfl, hb⟩; refine ⟨_, rfl, ?_⟩; have n0_ := aM44_ (blk_below (g := gb294) (o := .cells #[.bool a0.f0, .int .u32 a0.f1.f0, .int .u32 a0.f1.f1, .int .u32 a0.f1.f2, .int .u32 a0.f1.f3, .int .u32 a0.f1.f4, .int .u32 a0.f1.f5] 25 (0, 0)) q44x1_ hb); have n1_ := aM44_ (blk_below (g := gb295) (o := .cells #[.bool a1.f0, .int .u32 a1.f1.f0, .int .u32 a1.f1.f1, .int .u32 a1.f1.f2, .int .u32 a1.f1.f3, .int .u32 a1.f1.f4, .int .u32 a1.f1.f5] 25 (0, 0)) q44x2_ hb); have n2_ := aM44_ (blk_below (g := gb296) (o := .cells #[.bool false, .int .u32 0, .int .u32 0, .int .u32 0, .int .u32 0, .int .u32 0, .int .u32 0] 25 (0, 0)) q44x11_ hb); have n3_ := aM44_ (below_step q44x5_ hb); clear BK294 BK295 BK296 HB; have BK294 := n0_; have BK295 := n1_; have BK296 := n2_; have HB := n3_; clear n0_ n1_ n2_ n3_; (try clear hb); (try clear hb2); (try clear hk); (try clear hi); obtain ⟨hcz17_0, hcz17_1, hcz17_2, hcz17_3, hcz17_4, hcz17_5, hcz17_6⟩ := cells7_ (show w16.heap[gb296]? = some (.cells #[.bool false, .int .u32 0, .int .u32 0, .int .u32 0, .int .u32 0, .int .u32 0, .int .u32 0] 25 (0, 0)) from BK296.out); obtain ⟨hfz17_0, hfz17_1, hfz17_2, hfz17_3, hfz17_4, hfz17_5, hfz17_6⟩ := frozen7_ BK296.out))
 refine bodyPost_ret (results_ct rfl _ _ gb296 25 #[.bool t299.f0, .int .u32 t299.f1.f0, .int .u32 t299.f1.f1, .int .u32 t299.f1.f2, .int .u32 t299.f1.f3, .int .u32 t299.f1.f4, .int .u32 t299.f1.f5] (0, 0) _ rfl q44x9_ Try.underlying25 rfl (by kernel_rfl)) rfl ?_
 exact ⟨by first | rfl | (simp [errW_none, errW_some] <;> rfl) | (simp [*, errW_none, errW_some] <;> rfl), by repeat (first | (with_reducible first | exact HB.out | apply below_alloc | apply pw_below_drewN | apply below_drew1 | refine below_set ?_ GE294.out | refine below_set ?_ GE295.out | refine below_set ?_ GE296.out) | exact HB.out)⟩
end Go.Proofs.Ytbomadebdekjjaa.MFnRoots
