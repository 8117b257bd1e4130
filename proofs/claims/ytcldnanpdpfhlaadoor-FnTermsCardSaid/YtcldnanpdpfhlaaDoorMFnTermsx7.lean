/- Functions of the program as Lean functions, and the proof that the code comes to what they say. Written by a program of this session (myprint.py). -/
import Derived.Test.YtcldnanpdpfhlaaDoorMFnTermsx0
import Derived.Test.YtcldnanpdpfhlaaDoorMFnTermsx2
import Derived.Test.YtcldnanpdpfhlaaDoorMFnTermsx3
import Derived.Test.YtcldnanpdpfhlaaDoorMFnTermsx4
import Derived.Test.YtcldnanpdpfhlaaDoorMFnTermsx5
namespace Go.Proofs.YtcldnanpdpfhlaaDoor.MFnTerms
open Go.RowKit Go.Proofs.YtcldnanpdpfhlaaDoor.MOpen Go.Proofs.YtcldnanpdpfhlaaDoorW.PrintWords Go.Proofs.YtcldnanpdpfhlaaDoorW.PrintLast Go.Proofs.YtcldnanpdpfhlaaDoorW.PrintMore
attribute [local go_sem] max2_int min2_int max_two min_two max_three min_three max_four min_four   -- for this text's walks alone
set_option linter.unusedVariables false
set_option linter.unusedSimpArgs false

/-! ### impl_CompareTerms: function 26 -/
mutual
def impl_CompareTerms.j0 : Nat → List Int → List Int → Bool → Option (Int × Int)
  | 0, _, _, _ => none
  | k + 1, x0, x1, x17 => if x17 = true then (some (0, 1)) else (if (x0.length : Int) < (x1.length : Int) then (impl_CompareTerms.l0 k x0 x1 (x1.length : Int) 0) else (impl_CompareTerms.l0 k x0 x1 (x0.length : Int) 0))
def impl_CompareTerms.l0 : Nat → List Int → List Int → Int → Int → Option (Int × Int)
  | 0, _, _, _, _ => none
  | k + 1, x0, x1, x22, x23 => if x23 < x22 then (if x23 < (x0.length : Int) then (if 0 ≤ x23 then (impl_CompareTerms.j2 k x0 x1 x23 (rd x0 x23) 1000000001 x22 x23) else (none)) else (impl_CompareTerms.j2 k x0 x1 x23 1000000001 1000000001 x22 x23)) else (some (0, 0))
def impl_CompareTerms.j2 : Nat → List Int → List Int → Int → Int → Int → Int → Int → Option (Int × Int)
  | 0, _, _, _, _, _, _, _ => none
  | k + 1, x0, x1, x6, x7, x8, x22, x23 => if x6 < (x1.length : Int) then (if 0 ≤ x6 then ((impl_order.f x7 (rd x1 x6)).bind fun t242 => (if t242 = 0 then (impl_CompareTerms.l0 k x0 x1 x22 (wrap64 (x23 + 1))) else (some (wrap64 (t242 * (wrap64 (1 - (wrap64 (2 * (Int.tmod x6 2)))))), 0)))) else (none)) else ((impl_order.f x7 x8).bind fun t243 => (if t243 = 0 then (impl_CompareTerms.l0 k x0 x1 x22 (wrap64 (x23 + 1))) else (some (wrap64 (t243 * (wrap64 (1 - (wrap64 (2 * (Int.tmod x6 2)))))), 0))))
end
def impl_CompareTerms.f (k : Nat) (l0 : List Int) (l1 : List Int) : Option (Int × Int) := (impl_ValidTerms.f k l0).bind fun t238 => (if t238 = true then ((impl_ValidTerms.f k l1).bind fun t239 => (impl_CompareTerms.j0 k l0 l1 (!t239))) else (impl_CompareTerms.j0 k l0 l1 true))
theorem impl_CompareTerms.mono_l : ∀ k, (∀ y0 y1 y2, LeO (impl_CompareTerms.j0 k y0 y1 y2) (impl_CompareTerms.j0 (k + 1) y0 y1 y2)) ∧ (∀ y0 y1 y2 y3, LeO (impl_CompareTerms.l0 k y0 y1 y2 y3) (impl_CompareTerms.l0 (k + 1) y0 y1 y2 y3)) ∧ (∀ y0 y1 y2 y3 y4 y5 y6, LeO (impl_CompareTerms.j2 k y0 y1 y2 y3 y4 y5 y6) (impl_CompareTerms.j2 (k + 1) y0 y1 y2 y3 y4 y5 y6))
  | 0 => ⟨fun _ _ _ r h => by simp [impl_CompareTerms.j0] at h, fun _ _ _ _ r h => by simp [impl_CompareTerms.l0] at h, fun _ _ _ _ _ _ _ r h => by simp [impl_CompareTerms.j2] at h⟩
  | k + 1 => by
    obtain ⟨ih0, ih1, ih2⟩ := impl_CompareTerms.mono_l k
    refine ⟨?_, ?_, ?_⟩
    · intro y0 y1 y2
      unfold impl_CompareTerms.j0
      repeat' first
      | (with_reducible exact ih0 _ _ _)
      | (with_reducible exact ih1 _ _ _ _)
      | (with_reducible exact ih2 _ _ _ _ _ _ _)
      | (with_reducible exact impl_ValidTerms.mono _ _)
      | (with_reducible exact LeO.refl _)
      | (with_reducible exact LeO.none _)
      | (with_reducible refine LeO.ite ?_ ?_)
      | (with_reducible refine LeO.bind ?_ (fun _ => ?_))
      | exact ih0 _ _ _
      | exact ih1 _ _ _ _
      | exact ih2 _ _ _ _ _ _ _
      | exact impl_ValidTerms.mono _ _
      | exact LeO.none _
      | refine LeO.ite ?_ ?_
      | refine LeO.bind ?_ (fun _ => ?_)
    · intro y0 y1 y2 y3
      unfold impl_CompareTerms.l0
      repeat' first
      | (with_reducible exact ih0 _ _ _)
      | (with_reducible exact ih1 _ _ _ _)
      | (with_reducible exact ih2 _ _ _ _ _ _ _)
      | (with_reducible exact impl_ValidTerms.mono _ _)
      | (with_reducible exact LeO.refl _)
      | (with_reducible exact LeO.none _)
      | (with_reducible refine LeO.ite ?_ ?_)
      | (with_reducible refine LeO.bind ?_ (fun _ => ?_))
      | exact ih0 _ _ _
      | exact ih1 _ _ _ _
      | exact ih2 _ _ _ _ _ _ _
      | exact impl_ValidTerms.mono _ _
      | exact LeO.none _
      | refine LeO.ite ?_ ?_
      | refine LeO.bind ?_ (fun _ => ?_)
    · intro y0 y1 y2 y3 y4 y5 y6
      unfold impl_CompareTerms.j2
      repeat' first
      | (with_reducible exact ih0 _ _ _)
      | (with_reducible exact ih1 _ _ _ _)
      | (with_reducible exact ih2 _ _ _ _ _ _ _)
      | (with_reducible exact impl_ValidTerms.mono _ _)
      | (with_reducible exact LeO.refl _)
      | (with_reducible exact LeO.none _)
      | (with_reducible refine LeO.ite ?_ ?_)
      | (with_reducible refine LeO.bind ?_ (fun _ => ?_))
      | exact ih0 _ _ _
      | exact ih1 _ _ _ _
      | exact ih2 _ _ _ _ _ _ _
      | exact impl_ValidTerms.mono _ _
      | exact LeO.none _
      | refine LeO.ite ?_ ?_
      | refine LeO.bind ?_ (fun _ => ?_)
theorem impl_CompareTerms.mono : ∀ a0 a1 k, LeO (impl_CompareTerms.f k a0 a1) (impl_CompareTerms.f (k + 1) a0 a1) := by
  intro a0 a1 k
  obtain ⟨ih0, ih1, ih2⟩ := impl_CompareTerms.mono_l k
  unfold impl_CompareTerms.f
  repeat' first
      | (with_reducible exact ih0 _ _ _)
      | (with_reducible exact ih1 _ _ _ _)
      | (with_reducible exact ih2 _ _ _ _ _ _ _)
      | (with_reducible exact impl_ValidTerms.mono _ _)
      | (with_reducible exact LeO.refl _)
      | (with_reducible exact LeO.none _)
      | (with_reducible refine LeO.ite ?_ ?_)
      | (with_reducible refine LeO.bind ?_ (fun _ => ?_))
      | exact ih0 _ _ _
      | exact ih1 _ _ _ _
      | exact ih2 _ _ _ _ _ _ _
      | exact impl_ValidTerms.mono _ _
      | exact LeO.none _
      | refine LeO.ite ?_ ?_
      | refine LeO.bind ?_ (fun _ => ?_)
set_option maxHeartbeats 8000000 in
set_option maxRecDepth 100000 in
theorem impl_CompareTerms.calls (k : Nat) (A0 : Option Addr) (c0 : Nat) (l0 : List Int) (A1 : Option Addr) (c1 : Nat) (l1 : List Int) (r1 : Int) (r2 : Int) (w : World) (hr0 : Kd.C (Kd.int .i64) w A0 l0.length l0) (hc0 : l0.length ≤ c0) (hr1 : Kd.C (Kd.int .i64) w A1 l1.length l1) (hc1 : l1.length ≤ c1) (h : impl_CompareTerms.f k l0 l1 = some (r1, r2)) :
    Calls Tryd.prog 26 #[.slice A0 l0.length c0, .slice A1 l1.length c1] w fun e w' => e = .returned (.tuple #[.int .i64 r1, .int .i64 r2]) ∧ Below w.heap.size w w' := by
  have HR0 := Aside0.mk hr0
  have HC0 := Aside0.mk hc0
  clear hr0 hc0
  have HR1 := Aside0.mk hr1
  have HC1 := Aside0.mk hc1
  clear hr1 hc1
  have HB := Aside0.mk (Below.refl w.heap.size w)
  have H : ((impl_ValidTerms.f k l0).bind fun t238 => (if t238 = true then ((impl_ValidTerms.f k l1).bind fun t239 => (impl_CompareTerms.j0 k l0 l1 (!t239))) else (impl_CompareTerms.j0 k l0 l1 true))) = some (r1, r2) := h
  clear h
  have HC3 := Aside0.mk H
  clear H
  go_enter Tryd.func26, Tryd.ntmps26
  go_upto_region 1 with (fail)
  go_cut [17] (fun v17 wc => ∃ (kq : Nat) (x17_2 : Bool), v17 = .bool x17_2 ∧ Aside0 (impl_CompareTerms.j0 kq l0 l1 x17_2 = some (r1, r2)) ∧ Aside0 (kq ≤ k) ∧ Aside0 (Below w.heap.size w wc))
  case first =>
    have H := HC3.out
    clear HC3
    replace H := Option.bind_eq_some_iff.mp H
    obtain ⟨t238, A40, H⟩ := H
    replace H : (if t238 = true then ((impl_ValidTerms.f k l1).bind fun t239 => (impl_CompareTerms.j0 k l0 l1 (!t239))) else (impl_CompareTerms.j0 k l0 l1 true)) = some (r1, r2) := H
    have A4 := Aside0.mk A40
    clear A40
    by_cases c5 : t238 = true
    · subst c5
      have H1 : ((impl_ValidTerms.f k l1).bind fun t239 => (impl_CompareTerms.j0 k l0 l1 (!t239))) = some (r1, r2) := by rw [if_pos rfl] at H; exact H
      clear H
      have H := H1
      clear H1
      replace H := Option.bind_eq_some_iff.mp H
      obtain ⟨t239, A60, H⟩ := H
      replace H : (impl_CompareTerms.j0 k l0 l1 (!t239)) = some (r1, r2) := H
      have A6 := Aside0.mk A60
      clear A60
      have H' := Aside0.mk H
      clear H
      go_wp2_with (first | ((with_reducible refine gate_callee (f := 24) rfl ?_); refine goesL_ (some 11) rfl rfl Tryd.func24 (by kernel_rfl) rfl #[.slice A0 l0.length c0] rfl (by (try simp only [List.map_toArray, List.map_cons, List.map_nil]); first | done | rfl | (simp only [List.length_drop, List.length_take]; rfl) | (simp only [List.drop_one]; done) | (simp only [List.drop_one]; rfl)) ?_; (with_reducible refine (impl_ValidTerms.calls k _ _ l0 true _ ?side1 ?side2 A4.out).mono ?_); (case side1 => repeat (first | exact (Kd.C_below HR0.out HB.out) | (with_reducible refine Kd.C_alloc ?_ _) | (with_reducible refine Kd.C_drewN ?_ _) | (with_reducible refine Kd.C_drew ?_))); (case side2 => exact HC0.out); rintro e w' ⟨rfl, ⟨nd, rfl⟩⟩; refine ⟨_, rfl, ?_⟩) | (go_at_call 24; (with_reducible refine (impl_ValidTerms.calls k _ _ l1 t239 _ ?side1 ?side2 A6.out).mono ?_); (case side1 => repeat (first | exact (Kd.C_below HR1.out (by repeat (first | (with_reducible first | exact HB.out | apply below_alloc | apply pw_below_drewN | apply below_drew1) | exact HB.out))) | (with_reducible refine Kd.C_alloc ?_ _) | (with_reducible refine Kd.C_drewN ?_ _) | (with_reducible refine Kd.C_drew ?_))); (case side2 => exact HC1.out); rintro e w' ⟨rfl, ⟨nd, rfl⟩⟩))
      go_meet
      case rel => exact ⟨_, (!t239), (by first | rfl | (simp; done) | (simp [*]; done)), H', ⟨by first | omega | exact Nat.le_refl _⟩, ⟨by repeat (first | (with_reducible first | exact HB.out | apply below_alloc | apply pw_below_drewN | apply below_drew1) | exact HB.out)⟩⟩
    · replace c5 := Bool.eq_false_iff.mpr c5
      subst c5
      have H1 : (impl_CompareTerms.j0 k l0 l1 true) = some (r1, r2) := by rw [if_neg (show ¬ (false = true) by decide)] at H; exact H
      clear H
      have H := H1
      clear H1
      have H' := Aside0.mk H
      clear H
      go_wp2_with (first | ((with_reducible refine gate_callee (f := 24) rfl ?_); refine goesL_ (some 11) rfl rfl Tryd.func24 (by kernel_rfl) rfl #[.slice A0 l0.length c0] rfl (by (try simp only [List.map_toArray, List.map_cons, List.map_nil]); first | done | rfl | (simp only [List.length_drop, List.length_take]; rfl) | (simp only [List.drop_one]; done) | (simp only [List.drop_one]; rfl)) ?_; (with_reducible refine (impl_ValidTerms.calls k _ _ l0 false _ ?side1 ?side2 A4.out).mono ?_); (case side1 => repeat (first | exact (Kd.C_below HR0.out HB.out) | (with_reducible refine Kd.C_alloc ?_ _) | (with_reducible refine Kd.C_drewN ?_ _) | (with_reducible refine Kd.C_drew ?_))); (case side2 => exact HC0.out); rintro e w' ⟨rfl, ⟨nd, rfl⟩⟩; refine ⟨_, rfl, ?_⟩))
      go_meet
      case rel => exact ⟨_, (true), (by first | rfl | (simp; done) | (simp [*]; done)), H', ⟨by first | omega | exact Nat.le_refl _⟩, ⟨by repeat (first | (with_reducible first | exact HB.out | apply below_alloc | apply pw_below_drewN | apply below_drew1) | exact HB.out)⟩⟩
  case rest =>
    clear HC3
    try clear c1
    try clear c2
    try clear p2
    try clear c5
    obtain ⟨kq, x17_2, rfl, HA, HJ2, HB⟩ := hcut
    cases kq with
    | zero => exact absurd HA.out (by simp [impl_CompareTerms.j0])
    | succ kj2 =>
      have H := HA.out
      clear HA
      simp only [impl_CompareTerms.j0] at H
      by_cases c7 : x17_2 = true
      · subst c7
        have H1 : (some (0, 1)) = some (r1, r2) := by rw [if_pos rfl] at H; exact H
        clear H
        have H := H1
        clear H1
        simp only [Option.some.injEq, Prod.mk.injEq] at H
        obtain ⟨rfl, rfl⟩ := H
        go_wp2
        go_ret2
        exact ⟨by first | rfl | (simp [errW_none, errW_some] <;> rfl) | (simp [*, errW_none, errW_some] <;> rfl), by repeat (first | (with_reducible first | exact HB.out | apply below_alloc | apply pw_below_drewN | apply below_drew1) | exact HB.out)⟩
      · replace c7 := Bool.eq_false_iff.mpr c7
        subst c7
        have H1 : (if (l0.length : Int) < (l1.length : Int) then (impl_CompareTerms.l0 kj2 l0 l1 (l1.length : Int) 0) else (impl_CompareTerms.l0 kj2 l0 l1 (l0.length : Int) 0)) = some (r1, r2) := by rw [if_neg (show ¬ (false = true) by decide)] at H; exact H
        clear H
        have H := H1
        clear H1
        by_cases c8 : (l0.length : Int) < (l1.length : Int)
        · rw [if_pos c8] at H
          have c8i := eq_true c8
          have c8b0 : decide ((l0.length : Int) < (l1.length : Int)) = true := decide_eq_true c8
          have c8b1 : decide (l0.length < l1.length) = true := decide_eq_true (Int.ofNat_lt.mp c8)
          clear c8
          have H' := Aside0.mk H
          clear H
          go_wp2
          go_loopg [23] kj2 (fun kq v23 w' => ∃ (x23_2 : Int), v23 = .int .i64 x23_2 ∧ Aside0 (impl_CompareTerms.l0 kq l0 l1 (l1.length : Int) x23_2 = some (r1, r2)) ∧ Aside0 (kq ≤ kj2) ∧ Aside0 (Below w.heap.size w w'))
          case atStart => exact ⟨(0), (by first | rfl | (simp; done) | (simp [*]; done)), H', ⟨Nat.le_refl _⟩, ⟨by repeat (first | (with_reducible first | exact HB.out | apply below_alloc | apply pw_below_drewN | apply below_drew1) | exact HB.out)⟩⟩
          case round =>
            clear H'
            try clear c1
            try clear c2
            try clear p2
            try clear c5
            try clear c7
            try clear c8
            try clear c8b0
            try clear c8b1
            try clear p2
            obtain ⟨x23_2, rfl, HA, HK2, HB⟩ := hrel
            cases gk with
            | zero => exact absurd HA.out (by simp [impl_CompareTerms.l0])
            | succ k2 =>
              have H := HA.out
              clear HA
              simp only [impl_CompareTerms.l0] at H
              by_cases c9 : x23_2 < (l1.length : Int)
              · rw [if_pos c9] at H
                have c9b0 : decide (x23_2 < (l1.length : Int)) = true := decide_eq_true c9
                clear c9
                have HC10 := Aside0.mk H
                clear H
                go_upto_if 29 with (fail)
                go_cut [7] (fun v7 wc => ∃ (kq : Nat) (x7_9 : Int), v7 = .int .i64 x7_9 ∧ Aside0 (impl_CompareTerms.j2 kq l0 l1 x23_2 x7_9 1000000001 (l1.length : Int) x23_2 = some (r1, r2)) ∧ Aside0 (kq ≤ k2) ∧ Aside0 (Below w.heap.size w wc))
                case first =>
                  have H := HC10.out
                  clear HC10
                  by_cases c11 : x23_2 < (l0.length : Int)
                  · rw [if_pos c11] at H
                    have c11b0 : decide (x23_2 < (l0.length : Int)) = true := decide_eq_true c11
                    clear c11
                    (first | rw [c11b0] | (simp only [i64_w, i32_w]; rw [c11b0]) | skip)
                    by_cases c12 : 0 ≤ x23_2
                    · rw [if_pos c12] at H
                      have c12b0 : decide (0 ≤ x23_2) = true := decide_eq_true c12
                      clear c12
                      have H' := Aside0.mk H
                      clear H
                      have p240 : 0 ≤ (x23_2 : Int) := of_decide_eq_true (by first | (with_reducible assumption) | assumption)
                      have q240 : x23_2 < (l0.length : Int) := of_decide_eq_true (by first | (with_reducible assumption) | assumption)
                      obtain ⟨ad240, e240, hx240_0⟩ := Kd.at_int HR0.out x23_2 p240 q240
                      cases e240
                      replace hx240_0 := (HB.out.cell (World.block_lt_of_cell? w _ hx240_0)).trans hx240_0
                      replace p240 := eq_true p240
                      replace q240 := eq_true q240
                      go_wp2
                      go_meet
                      case rel => exact ⟨_, (rd l0 x23_2), (by first | rfl | (simp; done) | (simp [*]; done)), H', ⟨by have := HJ2.out; have := HK2.out; first | omega | exact Nat.le_refl _⟩, ⟨by repeat (first | (with_reducible first | exact HB.out | apply below_alloc | apply pw_below_drewN | apply below_drew1) | exact HB.out)⟩⟩
                    · rw [if_neg c12] at H
                      exact absurd H (by simp)
                  · rw [if_neg c11] at H
                    have c11b0 : decide (x23_2 < (l0.length : Int)) = false := decide_eq_false c11
                    clear c11
                    (first | rw [c11b0] | (simp only [i64_w, i32_w]; rw [c11b0]) | skip)
                    have H' := Aside0.mk H
                    clear H
                    go_wp2
                    go_meet
                    case rel => exact ⟨_, (1000000001), (by first | rfl | (simp; done) | (simp [*]; done)), H', ⟨by have := HJ2.out; have := HK2.out; first | omega | exact Nat.le_refl _⟩, ⟨by repeat (first | (with_reducible first | exact HB.out | apply below_alloc | apply pw_below_drewN | apply below_drew1) | exact HB.out)⟩⟩
                case rest =>
                  clear HC10
                  try clear c1
                  try clear c2
                  try clear p2
                  try clear q2
                  try clear hx2
                  try clear c5
                  try clear c7
                  try clear c8
                  try clear c8b0
                  try clear c8b1
                  try clear c9
                  try clear c9b0
                  try clear c11
                  try clear c11b0
                  try clear c12
                  try clear c12b0
                  try clear hx240_0
                  try clear p2
                  try clear p240
                  try clear q240
                  obtain ⟨kq, x7_9, rfl, HA, HJ9, HB⟩ := hcut
                  cases kq with
                  | zero => exact absurd HA.out (by simp [impl_CompareTerms.j2])
                  | succ kj9 =>
                    have H := HA.out
                    clear HA
                    simp only [impl_CompareTerms.j2] at H
                    by_cases c13 : x23_2 < (l1.length : Int)
                    · rw [if_pos c13] at H
                      have c13b0 : decide (x23_2 < (l1.length : Int)) = true := decide_eq_true c13
                      clear c13
                      by_cases c14 : 0 ≤ x23_2
                      · rw [if_pos c14] at H
                        have c14b0 : decide (0 ≤ x23_2) = true := decide_eq_true c14
                        clear c14
                        replace H := Option.bind_eq_some_iff.mp H
                        obtain ⟨t242, A150, H⟩ := H
                        replace H : (if t242 = 0 then (impl_CompareTerms.l0 kj9 l0 l1 (l1.length : Int) (wrap64 (x23_2 + 1))) else (some (wrap64 (t242 * (wrap64 (1 - (wrap64 (2 * (Int.tmod x23_2 2)))))), 0))) = some (r1, r2) := H
                        have A15 := Aside0.mk A150
                        clear A150
                        by_cases c16 : t242 = 0
                        · rw [if_pos c16] at H
                          have c16b0 : (t242 == 0) = true := beq_iff_eq.mpr c16
                          have c16b1 : (t242 != 0) = false := bne_eq_false_iff_eq.mpr c16
                          clear c16
                          have H' := Aside0.mk H
                          clear H
                          have p241 : 0 ≤ (x23_2 : Int) := of_decide_eq_true (by first | (with_reducible assumption) | assumption)
                          have q241 : x23_2 < (l1.length : Int) := of_decide_eq_true (by first | (with_reducible assumption) | assumption)
                          obtain ⟨ad241, e241, hx241_0⟩ := Kd.at_int HR1.out x23_2 p241 q241
                          cases e241
                          replace hx241_0 := (HB.out.cell (World.block_lt_of_cell? w _ hx241_0)).trans hx241_0
                          replace p241 := eq_true p241
                          replace q241 := eq_true q241
                          go_wp2_with (first | ((with_reducible refine gate_callee (f := 40) rfl ?_); refine goesL_ (some 44) rfl rfl Tryd.func40 (by kernel_rfl) rfl #[.int .i64 x7_9, .int .i64 (rd l1 x23_2)] rfl (by (try simp only [List.map_toArray, List.map_cons, List.map_nil]); first | done | rfl | (simp only [List.length_drop, List.length_take]; rfl) | (simp only [List.drop_one]; done) | (simp only [List.drop_one]; rfl)) ?_; (with_reducible refine (impl_order.calls x7_9 (rd l1 x23_2) t242 _ A15.out).mono ?_); rintro e w' ⟨rfl, ⟨nd, rfl⟩⟩; refine ⟨_, rfl, ?_⟩))
                          go_roundg kj9
                          case measure => have := HJ2.out; have := HK2.out; have := HJ9.out; omega
                          case rel => exact ⟨(wrap64 (x23_2 + 1)), (by first | rfl | (simp; done) | (simp [*]; done)), H', ⟨by have := HJ2.out; have := HK2.out; have := HJ9.out; omega⟩, ⟨by repeat (first | (with_reducible first | exact HB.out | apply below_alloc | apply pw_below_drewN | apply below_drew1) | exact HB.out)⟩⟩
                        · rw [if_neg c16] at H
                          have c16b0 : (t242 == 0) = false := beq_eq_false_iff_ne.mpr c16
                          have c16b1 : (t242 != 0) = true := bne_iff_ne.mpr c16
                          simp only [Option.some.injEq, Prod.mk.injEq] at H
                          obtain ⟨rfl, rfl⟩ := H
                          have p241 : 0 ≤ (x23_2 : Int) := of_decide_eq_true (by first | (with_reducible assumption) | assumption)
                          have q241 : x23_2 < (l1.length : Int) := of_decide_eq_true (by first | (with_reducible assumption) | assumption)
                          obtain ⟨ad241, e241, hx241_0⟩ := Kd.at_int HR1.out x23_2 p241 q241
                          cases e241
                          replace hx241_0 := (HB.out.cell (World.block_lt_of_cell? w _ hx241_0)).trans hx241_0
                          replace p241 := eq_true p241
                          replace q241 := eq_true q241
                          go_wp2_with (first | ((with_reducible refine gate_callee (f := 40) rfl ?_); refine goesL_ (some 44) rfl rfl Tryd.func40 (by kernel_rfl) rfl #[.int .i64 x7_9, .int .i64 (rd l1 x23_2)] rfl (by (try simp only [List.map_toArray, List.map_cons, List.map_nil]); first | done | rfl | (simp only [List.length_drop, List.length_take]; rfl) | (simp only [List.drop_one]; done) | (simp only [List.drop_one]; rfl)) ?_; (with_reducible refine (impl_order.calls x7_9 (rd l1 x23_2) t242 _ A15.out).mono ?_); rintro e w' ⟨rfl, ⟨nd, rfl⟩⟩; refine ⟨_, rfl, ?_⟩))
                          go_ret2
                          exact ⟨by first | rfl | (simp [errW_none, errW_some] <;> rfl) | (simp [*, errW_none, errW_some] <;> rfl), by repeat (first | (with_reducible first | exact HB.out | apply below_alloc | apply pw_below_drewN | apply below_drew1) | exact HB.out)⟩
                      · rw [if_neg c14] at H
                        exact absurd H (by simp)
                    · rw [if_neg c13] at H
                      have c13b0 : decide (x23_2 < (l1.length : Int)) = false := decide_eq_false c13
                      clear c13
                      replace H := Option.bind_eq_some_iff.mp H
                      obtain ⟨t243, A170, H⟩ := H
                      replace H : (if t243 = 0 then (impl_CompareTerms.l0 kj9 l0 l1 (l1.length : Int) (wrap64 (x23_2 + 1))) else (some (wrap64 (t243 * (wrap64 (1 - (wrap64 (2 * (Int.tmod x23_2 2)))))), 0))) = some (r1, r2) := H
                      have A17 := Aside0.mk A170
                      clear A170
                      by_cases c18 : t243 = 0
                      · rw [if_pos c18] at H
                        have c18b0 : (t243 == 0) = true := beq_iff_eq.mpr c18
                        have c18b1 : (t243 != 0) = false := bne_eq_false_iff_eq.mpr c18
                        clear c18
                        have H' := Aside0.mk H
                        clear H
                        go_wp2_with (first | ((with_reducible refine gate_callee (f := 40) rfl ?_); refine goesL_ (some 44) rfl rfl Tryd.func40 (by kernel_rfl) rfl #[.int .i64 x7_9, .int .i64 1000000001] rfl (by (try simp only [List.map_toArray, List.map_cons, List.map_nil]); first | done | rfl | (simp only [List.length_drop, List.length_take]; rfl) | (simp only [List.drop_one]; done) | (simp only [List.drop_one]; rfl)) ?_; (with_reducible refine (impl_order.calls x7_9 1000000001 t243 _ A17.out).mono ?_); rintro e w' ⟨rfl, ⟨nd, rfl⟩⟩; refine ⟨_, rfl, ?_⟩))
                        go_roundg kj9
                        case measure => have := HJ2.out; have := HK2.out; have := HJ9.out; omega
                        case rel => exact ⟨(wrap64 (x23_2 + 1)), (by first | rfl | (simp; done) | (simp [*]; done)), H', ⟨by have := HJ2.out; have := HK2.out; have := HJ9.out; omega⟩, ⟨by repeat (first | (with_reducible first | exact HB.out | apply below_alloc | apply pw_below_drewN | apply below_drew1) | exact HB.out)⟩⟩
                      · rw [if_neg c18] at H
                        have c18b0 : (t243 == 0) = false := beq_eq_false_iff_ne.mpr c18
                        have c18b1 : (t243 != 0) = true := bne_iff_ne.mpr c18
                        simp only [Option.some.injEq, Prod.mk.injEq] at H
                        obtain ⟨rfl, rfl⟩ := H
                        go_wp2_with (first | ((with_reducible refine gate_callee (f := 40) rfl ?_); refine goesL_ (some 44) rfl rfl Tryd.func40 (by kernel_rfl) rfl #[.int .i64 x7_9, .int .i64 1000000001] rfl (by (try simp only [List.map_toArray, List.map_cons, List.map_nil]); first | done | rfl | (simp only [List.length_drop, List.length_take]; rfl) | (simp only [List.drop_one]; done) | (simp only [List.drop_one]; rfl)) ?_; (with_reducible refine (impl_order.calls x7_9 1000000001 t243 _ A17.out).mono ?_); rintro e w' ⟨rfl, ⟨nd, rfl⟩⟩; refine ⟨_, rfl, ?_⟩))
                        go_ret2
                        exact ⟨by first | rfl | (simp [errW_none, errW_some] <;> rfl) | (simp [*, errW_none, errW_some] <;> rfl), by repeat (first | (with_reducible first | exact HB.out | apply below_alloc | apply pw_below_drewN | apply below_drew1) | exact HB.out)⟩
              · rw [if_neg c9] at H
                have c9b0 : decide (x23_2 < (l1.length : Int)) = false := decide_eq_false c9
                clear c9
                simp only [Option.some.injEq, Prod.mk.injEq] at H
                obtain ⟨rfl, rfl⟩ := H
                go_wp2
                go_ret2
                exact ⟨by first | rfl | (simp [errW_none, errW_some] <;> rfl) | (simp [*, errW_none, errW_some] <;> rfl), by repeat (first | (with_reducible first | exact HB.out | apply below_alloc | apply pw_below_drewN | apply below_drew1) | exact HB.out)⟩
        · rw [if_neg c8] at H
          have c8i := eq_false c8
          have c8b0 : decide ((l0.length : Int) < (l1.length : Int)) = false := decide_eq_false c8
          have c8b1 : decide (l0.length < l1.length) = false := decide_eq_false (fun h => c8 (Int.ofNat_lt.mpr h))
          clear c8
          have H' := Aside0.mk H
          clear H
          go_wp2
          go_loopg [23] kj2 (fun kq v23 w' => ∃ (x23_2 : Int), v23 = .int .i64 x23_2 ∧ Aside0 (impl_CompareTerms.l0 kq l0 l1 (l0.length : Int) x23_2 = some (r1, r2)) ∧ Aside0 (kq ≤ kj2) ∧ Aside0 (Below w.heap.size w w'))
          case atStart => exact ⟨(0), (by first | rfl | (simp; done) | (simp [*]; done)), H', ⟨Nat.le_refl _⟩, ⟨by repeat (first | (with_reducible first | exact HB.out | apply below_alloc | apply pw_below_drewN | apply below_drew1) | exact HB.out)⟩⟩
          case round =>
            clear H'
            try clear c1
            try clear c2
            try clear p2
            try clear q2
            try clear hx2
            try clear c4
            try clear c5
            try clear p6
            try clear c7
            try clear c8
            try clear c8b0
            try clear c8b1
            try clear c9
            try clear c9b0
            try clear c11
            try clear c11b0
            try clear c12
            try clear c12b0
            try clear c13
            try clear c13b0
            try clear c14
            try clear c14b0
            try clear c16
            try clear c16b0
            try clear c16b1
            try clear c18
            try clear c18b0
            try clear c18b1
            try clear hx240_0
            try clear hx241_0
            try clear p2
            try clear p240
            try clear p241
            try clear q2
            try clear q240
            try clear q241
            obtain ⟨x23_2, rfl, HA, HK2, HB⟩ := hrel
            cases gk with
            | zero => exact absurd HA.out (by simp [impl_CompareTerms.l0])
            | succ k2 =>
              have H := HA.out
              clear HA
              simp only [impl_CompareTerms.l0] at H
              by_cases c19 : x23_2 < (l0.length : Int)
              · rw [if_pos c19] at H
                have c19b0 : decide (x23_2 < (l0.length : Int)) = true := decide_eq_true c19
                clear c19
                have HC20 := Aside0.mk H
                clear H
                go_upto_if 29 with (fail)
                go_cut [7] (fun v7 wc => ∃ (kq : Nat) (x7_19 : Int), v7 = .int .i64 x7_19 ∧ Aside0 (impl_CompareTerms.j2 kq l0 l1 x23_2 x7_19 1000000001 (l0.length : Int) x23_2 = some (r1, r2)) ∧ Aside0 (kq ≤ k2) ∧ Aside0 (Below w.heap.size w wc))
                case first =>
                  have H := HC20.out
                  clear HC20
                  have c21 : x23_2 < (l0.length : Int) := of_decide_eq_true c19b0
                  rw [if_pos c21] at H
                  clear c21
                  by_cases c22 : 0 ≤ x23_2
                  · rw [if_pos c22] at H
                    have c22b0 : decide (0 ≤ x23_2) = true := decide_eq_true c22
                    clear c22
                    (first | rw [c22b0] | (simp only [i64_w, i32_w]; rw [c22b0]) | skip)
                    have H' := Aside0.mk H
                    clear H
                    have p240 : 0 ≤ (x23_2 : Int) := of_decide_eq_true (by first | (with_reducible assumption) | assumption)
                    have q240 : x23_2 < (l0.length : Int) := of_decide_eq_true (by first | (with_reducible assumption) | assumption)
                    obtain ⟨ad240, e240, hx240_0⟩ := Kd.at_int HR0.out x23_2 p240 q240
                    cases e240
                    replace hx240_0 := (HB.out.cell (World.block_lt_of_cell? w _ hx240_0)).trans hx240_0
                    replace p240 := eq_true p240
                    replace q240 := eq_true q240
                    go_wp2
                    go_meet
                    case rel => exact ⟨_, (rd l0 x23_2), (by first | rfl | (simp; done) | (simp [*]; done)), H', ⟨by have := HJ2.out; have := HK2.out; first | omega | exact Nat.le_refl _⟩, ⟨by repeat (first | (with_reducible first | exact HB.out | apply below_alloc | apply pw_below_drewN | apply below_drew1) | exact HB.out)⟩⟩
                  · rw [if_neg c22] at H
                    exact absurd H (by simp)
                case rest =>
                  clear HC20
                  try clear c1
                  try clear c2
                  try clear p2
                  try clear q2
                  try clear hx2
                  try clear c4
                  try clear c5
                  try clear p6
                  try clear c7
                  try clear c8
                  try clear c8b0
                  try clear c8b1
                  try clear c9
                  try clear c9b0
                  try clear c11
                  try clear c11b0
                  try clear c12
                  try clear c12b0
                  try clear c13
                  try clear c13b0
                  try clear c14
                  try clear c14b0
                  try clear c16
                  try clear c16b0
                  try clear c16b1
                  try clear c18
                  try clear c18b0
                  try clear c18b1
                  try clear c19
                  try clear c19b0
                  try clear c21
                  try clear c22
                  try clear c22b0
                  try clear hx240_0
                  try clear hx241_0
                  try clear p2
                  try clear p240
                  try clear p241
                  try clear p6
                  try clear q2
                  try clear q240
                  try clear q241
                  obtain ⟨kq, x7_19, rfl, HA, HJ19, HB⟩ := hcut
                  cases kq with
                  | zero => exact absurd HA.out (by simp [impl_CompareTerms.j2])
                  | succ kj19 =>
                    have H := HA.out
                    clear HA
                    simp only [impl_CompareTerms.j2] at H
                    by_cases c23 : x23_2 < (l1.length : Int)
                    · rw [if_pos c23] at H
                      have c23b0 : decide (x23_2 < (l1.length : Int)) = true := decide_eq_true c23
                      clear c23
                      by_cases c24 : 0 ≤ x23_2
                      · rw [if_pos c24] at H
                        have c24b0 : decide (0 ≤ x23_2) = true := decide_eq_true c24
                        clear c24
                        replace H := Option.bind_eq_some_iff.mp H
                        obtain ⟨t242, A250, H⟩ := H
                        replace H : (if t242 = 0 then (impl_CompareTerms.l0 kj19 l0 l1 (l0.length : Int) (wrap64 (x23_2 + 1))) else (some (wrap64 (t242 * (wrap64 (1 - (wrap64 (2 * (Int.tmod x23_2 2)))))), 0))) = some (r1, r2) := H
                        have A25 := Aside0.mk A250
                        clear A250
                        by_cases c26 : t242 = 0
                        · rw [if_pos c26] at H
                          have c26b0 : (t242 == 0) = true := beq_iff_eq.mpr c26
                          have c26b1 : (t242 != 0) = false := bne_eq_false_iff_eq.mpr c26
                          clear c26
                          have H' := Aside0.mk H
                          clear H
                          have p241 : 0 ≤ (x23_2 : Int) := of_decide_eq_true (by first | (with_reducible assumption) | assumption)
                          have q241 : x23_2 < (l1.length : Int) := of_decide_eq_true (by first | (with_reducible assumption) | assumption)
                          obtain ⟨ad241, e241, hx241_0⟩ := Kd.at_int HR1.out x23_2 p241 q241
                          cases e241
                          replace hx241_0 := (HB.out.cell (World.block_lt_of_cell? w _ hx241_0)).trans hx241_0
                          replace p241 := eq_true p241
                          replace q241 := eq_true q241
                          go_wp2_with (first | ((with_reducible refine gate_callee (f := 40) rfl ?_); refine goesL_ (some 44) rfl rfl Tryd.func40 (by kernel_rfl) rfl #[.int .i64 x7_19, .int .i64 (rd l1 x23_2)] rfl (by (try simp only [List.map_toArray, List.map_cons, List.map_nil]); first | done | rfl | (simp only [List.length_drop, List.length_take]; rfl) | (simp only [List.drop_one]; done) | (simp only [List.drop_one]; rfl)) ?_; (with_reducible refine (impl_order.calls x7_19 (rd l1 x23_2) t242 _ A25.out).mono ?_); rintro e w' ⟨rfl, ⟨nd, rfl⟩⟩; refine ⟨_, rfl, ?_⟩))
                          go_roundg kj19
                          case measure => have := HJ2.out; have := HK2.out; have := HJ19.out; omega
                          case rel => exact ⟨(wrap64 (x23_2 + 1)), (by first | rfl | (simp; done) | (simp [*]; done)), H', ⟨by have := HJ2.out; have := HK2.out; have := HJ19.out; omega⟩, ⟨by repeat (first | (with_reducible first | exact HB.out | apply below_alloc | apply pw_below_drewN | apply below_drew1) | exact HB.out)⟩⟩
                        · rw [if_neg c26] at H
                          have c26b0 : (t242 == 0) = false := beq_eq_false_iff_ne.mpr c26
                          have c26b1 : (t242 != 0) = true := bne_iff_ne.mpr c26
                          simp only [Option.some.injEq, Prod.mk.injEq] at H
                          obtain ⟨rfl, rfl⟩ := H
                          have p241 : 0 ≤ (x23_2 : Int) := of_decide_eq_true (by first | (with_reducible assumption) | assumption)
                          have q241 : x23_2 < (l1.length : Int) := of_decide_eq_true (by first | (with_reducible assumption) | assumption)
                          obtain ⟨ad241, e241, hx241_0⟩ := Kd.at_int HR1.out x23_2 p241 q241
                          cases e241
                          replace hx241_0 := (HB.out.cell (World.block_lt_of_cell? w _ hx241_0)).trans hx241_0
                          replace p241 := eq_true p241
                          replace q241 := eq_true q241
                          go_wp2_with (first | ((with_reducible refine gate_callee (f := 40) rfl ?_); refine goesL_ (some 44) rfl rfl Tryd.func40 (by kernel_rfl) rfl #[.int .i64 x7_19, .int .i64 (rd l1 x23_2)] rfl (by (try simp only [List.map_toArray, List.map_cons, List.map_nil]); first | done | rfl | (simp only [List.length_drop, List.length_take]; rfl) | (simp only [List.drop_one]; done) | (simp only [List.drop_one]; rfl)) ?_; (with_reducible refine (impl_order.calls x7_19 (rd l1 x23_2) t242 _ A25.out).mono ?_); rintro e w' ⟨rfl, ⟨nd, rfl⟩⟩; refine ⟨_, rfl, ?_⟩))
                          go_ret2
                          exact ⟨by first | rfl | (simp [errW_none, errW_some] <;> rfl) | (simp [*, errW_none, errW_some] <;> rfl), by repeat (first | (with_reducible first | exact HB.out | apply below_alloc | apply pw_below_drewN | apply below_drew1) | exact HB.out)⟩
                      · rw [if_neg c24] at H
                        exact absurd H (by simp)
                    · rw [if_neg c23] at H
                      have c23b0 : decide (x23_2 < (l1.length : Int)) = false := decide_eq_false c23
                      clear c23
                      replace H := Option.bind_eq_some_iff.mp H
                      obtain ⟨t243, A270, H⟩ := H
                      replace H : (if t243 = 0 then (impl_CompareTerms.l0 kj19 l0 l1 (l0.length : Int) (wrap64 (x23_2 + 1))) else (some (wrap64 (t243 * (wrap64 (1 - (wrap64 (2 * (Int.tmod x23_2 2)))))), 0))) = some (r1, r2) := H
                      have A27 := Aside0.mk A270
                      clear A270
                      by_cases c28 : t243 = 0
                      · rw [if_pos c28] at H
                        have c28b0 : (t243 == 0) = true := beq_iff_eq.mpr c28
                        have c28b1 : (t243 != 0) = false := bne_eq_false_iff_eq.mpr c28
                        clear c28
                        have H' := Aside0.mk H
                        clear H
                        go_wp2_with (first | ((with_reducible refine gate_callee (f := 40) rfl ?_); refine goesL_ (some 44) rfl rfl Tryd.func40 (by kernel_rfl) rfl #[.int .i64 x7_19, .int .i64 1000000001] rfl (by (try simp only [List.map_toArray, List.map_cons, List.map_nil]); first | done | rfl | (simp only [List.length_drop, List.length_take]; rfl) | (simp only [List.drop_one]; done) | (simp only [List.drop_one]; rfl)) ?_; (with_reducible refine (impl_order.calls x7_19 1000000001 t243 _ A27.out).mono ?_); rintro e w' ⟨rfl, ⟨nd, rfl⟩⟩; refine ⟨_, rfl, ?_⟩))
                        go_roundg kj19
                        case measure => have := HJ2.out; have := HK2.out; have := HJ19.out; omega
                        case rel => exact ⟨(wrap64 (x23_2 + 1)), (by first | rfl | (simp; done) | (simp [*]; done)), H', ⟨by have := HJ2.out; have := HK2.out; have := HJ19.out; omega⟩, ⟨by repeat (first | (with_reducible first | exact HB.out | apply below_alloc | apply pw_below_drewN | apply below_drew1) | exact HB.out)⟩⟩
                      · rw [if_neg c28] at H
                        have c28b0 : (t243 == 0) = false := beq_eq_false_iff_ne.mpr c28
                        have c28b1 : (t243 != 0) = true := bne_iff_ne.mpr c28
                        simp only [Option.some.injEq, Prod.mk.injEq] at H
                        obtain ⟨rfl, rfl⟩ := H
                        go_wp2_with (first | ((with_reducible refine gate_callee (f := 40) rfl ?_); refine goesL_ (some 44) rfl rfl Tryd.func40 (by kernel_rfl) rfl #[.int .i64 x7_19, .int .i64 1000000001] rfl (by (try simp only [List.map_toArray, List.map_cons, List.map_nil]); first | done | rfl | (simp only [List.length_drop, List.length_take]; rfl) | (simp only [List.drop_one]; done) | (simp only [List.drop_one]; rfl)) ?_; (with_reducible refine (impl_order.calls x7_19 1000000001 t243 _ A27.out).mono ?_); rintro e w' ⟨rfl, ⟨nd, rfl⟩⟩; refine ⟨_, rfl, ?_⟩))
                        go_ret2
                        exact ⟨by first | rfl | (simp [errW_none, errW_some] <;> rfl) | (simp [*, errW_none, errW_some] <;> rfl), by repeat (first | (with_reducible first | exact HB.out | apply below_alloc | apply pw_below_drewN | apply below_drew1) | exact HB.out)⟩
              · rw [if_neg c19] at H
                have c19b0 : decide (x23_2 < (l0.length : Int)) = false := decide_eq_false c19
                clear c19
                simp only [Option.some.injEq, Prod.mk.injEq] at H
                obtain ⟨rfl, rfl⟩ := H
                go_wp2
                go_ret2
                exact ⟨by first | rfl | (simp [errW_none, errW_some] <;> rfl) | (simp [*, errW_none, errW_some] <;> rfl), by repeat (first | (with_reducible first | exact HB.out | apply below_alloc | apply pw_below_drewN | apply below_drew1) | exact HB.out)⟩

/-! ### spec_l03Order: function 48 -/
def spec_l03Order.f (a0_0 : Int) (a0_1 : Int) (a1_0 : Int) (a1_1 : Int) : Option (Int) := if (wrap64 (a0_0 * a1_1)) < (wrap64 (a1_0 * a0_1)) then (some (-1)) else (if (wrap64 (a0_0 * a1_1)) > (wrap64 (a1_0 * a0_1)) then (some 1) else (some 0))
set_option maxHeartbeats 8000000 in
set_option maxRecDepth 100000 in
theorem spec_l03Order.calls (B0_ O0_ : Nat) (a0_0 : Int) (a0_1 : Int) (B1_ O1_ : Nat) (a1_0 : Int) (a1_1 : Int) (r : Int) (w : World) (hq0_ : w.cell? ⟨B0_, O0_, none⟩ = some (.int .i64 a0_0) ∧ w.cell? ⟨B0_, O0_ + 1, none⟩ = some (.int .i64 a0_1)) (hq1_ : w.cell? ⟨B1_, O1_, none⟩ = some (.int .i64 a1_0) ∧ w.cell? ⟨B1_, O1_ + 1, none⟩ = some (.int .i64 a1_1)) (h : spec_l03Order.f a0_0 a0_1 a1_0 a1_1 = some r) :
    Calls Tryd.prog 48 #[.pointer (some ⟨B0_, O0_, none⟩), .pointer (some ⟨B1_, O1_, none⟩)] w fun e w' => e = .returned (.int .i64 r) ∧ Drawn0 w w' := by
  have HQ0_ := Aside0.mk hq0_
  clear hq0_
  have HQ1_ := Aside0.mk hq1_
  clear hq1_
  have H : (if (wrap64 (a0_0 * a1_1)) < (wrap64 (a1_0 * a0_1)) then (some (-1)) else (if (wrap64 (a0_0 * a1_1)) > (wrap64 (a1_0 * a0_1)) then (some 1) else (some 0))) = some r := h
  clear h
  by_cases c3 : (wrap64 (a0_0 * a1_1)) < (wrap64 (a1_0 * a0_1))
  · rw [if_pos c3] at H
    have c3b0 : decide ((wrap64 (a0_0 * a1_1)) < (wrap64 (a1_0 * a0_1))) = true := decide_eq_true c3
    clear c3
    obtain rfl := Option.some.inj H
    obtain ⟨hxr4_0, hxr4_1⟩ := HQ0_.out
    obtain ⟨hxr5_0, hxr5_1⟩ := HQ1_.out
    go_enter Tryd.func48, Tryd.ntmps48
    go_wp2
    repeat (go_quiet (fail); try go_wp2)
    go_ret
    exact ⟨by first | rfl | (simp; done) | (simp [*]; done), by repeat (first | exact Drawn0.refl _ | apply Drawn0.step)⟩
  · rw [if_neg c3] at H
    have c3b0 : decide ((wrap64 (a0_0 * a1_1)) < (wrap64 (a1_0 * a0_1))) = false := decide_eq_false c3
    clear c3
    by_cases c6 : (wrap64 (a0_0 * a1_1)) > (wrap64 (a1_0 * a0_1))
    · rw [if_pos c6] at H
      have c6b0 : decide ((wrap64 (a1_0 * a0_1)) < (wrap64 (a0_0 * a1_1))) = true := decide_eq_true c6
      clear c6
      obtain rfl := Option.some.inj H
      obtain ⟨hxr7_0, hxr7_1⟩ := HQ0_.out
      obtain ⟨hxr8_0, hxr8_1⟩ := HQ1_.out
      go_enter Tryd.func48, Tryd.ntmps48
      go_wp2
      repeat (go_quiet (fail); try go_wp2)
      go_ret
      exact ⟨by first | rfl | (simp; done) | (simp [*]; done), by repeat (first | exact Drawn0.refl _ | apply Drawn0.step)⟩
    · rw [if_neg c6] at H
      have c6b0 : decide ((wrap64 (a1_0 * a0_1)) < (wrap64 (a0_0 * a1_1))) = false := decide_eq_false c6
      clear c6
      obtain rfl := Option.some.inj H
      obtain ⟨hxr9_0, hxr9_1⟩ := HQ0_.out
      obtain ⟨hxr10_0, hxr10_1⟩ := HQ1_.out
      go_enter Tryd.func48, Tryd.ntmps48
      go_wp2
      repeat (go_quiet (fail); try go_wp2)
      go_ret
      exact ⟨by first | rfl | (simp; done) | (simp [*]; done), by repeat (first | exact Drawn0.refl _ | apply Drawn0.step)⟩

/-! ### spec_CompareRatios: function 27 -/
def spec_CompareRatios.f (k : Nat) (a0_0 : Int) (a0_1 : Int) (a1_0 : Int) (a1_1 : Int) : Option (Int × Int) := (spec_l03Ratio.f k a0_0 a0_1).bind fun t246 => (if t246 = true then ((spec_l03Ratio.f k a1_0 a1_1).bind fun t247 => (if t247 = true then ((spec_l03Order.f a0_0 a0_1 a1_0 a1_1).bind fun t248 => (some (t248, 0))) else (some (0, 1)))) else (some (0, 1)))
theorem spec_CompareRatios.mono : ∀ a0 a1 a2 a3 k, LeO (spec_CompareRatios.f k a0 a1 a2 a3) (spec_CompareRatios.f (k + 1) a0 a1 a2 a3) := by
  intro a0 a1 a2 a3 k
  unfold spec_CompareRatios.f
  repeat' first
      | (with_reducible exact spec_l03Ratio.mono _ _ _)
      | (with_reducible exact LeO.refl _)
      | (with_reducible exact LeO.none _)
      | (with_reducible refine LeO.ite ?_ ?_)
      | (with_reducible refine LeO.bind ?_ (fun _ => ?_))
      | exact spec_l03Ratio.mono _ _ _
      | exact LeO.none _
      | refine LeO.ite ?_ ?_
      | refine LeO.bind ?_ (fun _ => ?_)
set_option maxHeartbeats 8000000 in
set_option maxRecDepth 100000 in
theorem spec_CompareRatios.calls (k : Nat) (a0_0 : Int) (a0_1 : Int) (a1_0 : Int) (a1_1 : Int) (r1 : Int) (r2 : Int) (w : World) (h : spec_CompareRatios.f k a0_0 a0_1 a1_0 a1_1 = some (r1, r2)) :
    Calls Tryd.prog 27 #[.agg #[.int .i64 a0_0, .int .i64 a0_1], .agg #[.int .i64 a1_0, .int .i64 a1_1]] w fun e w' => e = .returned (.tuple #[.int .i64 r1, .int .i64 r2]) ∧ Below w.heap.size w w' := by
  have hu25 := Tryd.underlying25
  have HB := Aside0.mk (Below.refl w.heap.size w)
  have H : ((spec_l03Ratio.f k a0_0 a0_1).bind fun t246 => (if t246 = true then ((spec_l03Ratio.f k a1_0 a1_1).bind fun t247 => (if t247 = true then ((spec_l03Order.f a0_0 a0_1 a1_0 a1_1).bind fun t248 => (some (t248, 0))) else (some (0, 1)))) else (some (0, 1)))) = some (r1, r2) := h
  clear h
  replace H := Option.bind_eq_some_iff.mp H
  obtain ⟨t246, A30, H⟩ := H
  replace H : (if t246 = true then ((spec_l03Ratio.f k a1_0 a1_1).bind fun t247 => (if t247 = true then ((spec_l03Order.f a0_0 a0_1 a1_0 a1_1).bind fun t248 => (some (t248, 0))) else (some (0, 1)))) else (some (0, 1))) = some (r1, r2) := H
  have A3 := Aside0.mk A30
  clear A30
  by_cases c4 : t246 = true
  · subst c4
    have H1 : ((spec_l03Ratio.f k a1_0 a1_1).bind fun t247 => (if t247 = true then ((spec_l03Order.f a0_0 a0_1 a1_0 a1_1).bind fun t248 => (some (t248, 0))) else (some (0, 1)))) = some (r1, r2) := by rw [if_pos rfl] at H; exact H
    clear H
    have H := H1
    clear H1
    replace H := Option.bind_eq_some_iff.mp H
    obtain ⟨t247, A50, H⟩ := H
    replace H : (if t247 = true then ((spec_l03Order.f a0_0 a0_1 a1_0 a1_1).bind fun t248 => (some (t248, 0))) else (some (0, 1))) = some (r1, r2) := H
    have A5 := Aside0.mk A50
    clear A50
    by_cases c6 : t247 = true
    · subst c6
      have H1 : ((spec_l03Order.f a0_0 a0_1 a1_0 a1_1).bind fun t248 => (some (t248, 0))) = some (r1, r2) := by rw [if_pos rfl] at H; exact H
      clear H
      have H := H1
      clear H1
      replace H := Option.bind_eq_some_iff.mp H
      obtain ⟨t248, A70, H⟩ := H
      replace H : (some (t248, 0)) = some (r1, r2) := H
      have A7 := Aside0.mk A70
      clear A70
      simp only [Option.some.injEq, Prod.mk.injEq] at H
      obtain ⟨rfl, rfl⟩ := H
      go_enter Tryd.func27, Tryd.ntmps27
      go_wp2_with (first | ((with_reducible refine gate_dst (N := 2) rfl ?_); refine box_event ?hg (N := 2) ?hd (cs := #[.int .i64 a0_0, .int .i64 a0_1]) (t := 25) ?hr ?_; (case hd => rfl); (case hg => rfl); (case hr => first | (go_simp; done) | (go_simp; rfl)); intro gb244 hg w8 hbox hb; have n0_ := Aside0.mk (below_step (by repeat (first | (with_reducible first | exact HB.out | apply below_alloc | apply pw_below_drewN | apply below_drew1) | exact HB.out)) hb); have n1_ := Aside0.mk (hbox); have n2_ := Aside0.mk ((by rw [hg]; exact (below_size (by repeat (first | (with_reducible first | exact HB.out | apply below_alloc | apply pw_below_drewN | apply below_drew1) | exact HB.out))) : w.heap.size ≤ gb244)); have n3_ := Aside0.mk ((by rw [hg]; exact (below_size (by repeat (first | (with_reducible first | exact HB.out | apply below_alloc | apply pw_below_drewN | apply below_drew1) | exact HB.out))) : w.heap.size ≤ gb244)); clear HB; have HB := n0_; have BK244 := n1_; have GW244 := n2_; have GE244 := n3_; clear n0_ n1_ n2_ n3_; clear hb hbox hg) | ((with_reducible refine gate_dst (N := 3) rfl ?_); refine box_event ?hg (N := 3) ?hd (cs := #[.int .i64 a1_0, .int .i64 a1_1]) (t := 25) ?hr ?_; (case hd => rfl); (case hg => rfl); (case hr => first | (go_simp; done) | (go_simp; rfl)); intro gb245 hg w9 hbox hb; have n0_ := Aside0.mk (blk_below (g := gb244) (o := .cells #[.int .i64 a0_0, .int .i64 a0_1] 25 (0, 0)) (by (with_reducible repeat (first | refine blk_drewN ?_ _ | refine blk_drew ?_ | refine blk_alloc ?_ _)); exact BK244.out) hb); have n1_ := Aside0.mk (below_step (by repeat (first | (with_reducible first | exact HB.out | apply below_alloc | apply pw_below_drewN | apply below_drew1 | refine below_set ?_ GE244.out) | exact HB.out)) hb); have n2_ := Aside0.mk (hbox); have n3_ := Aside0.mk ((by rw [hg]; exact (below_size (by repeat (first | (with_reducible first | exact HB.out | apply below_alloc | apply pw_below_drewN | apply below_drew1 | refine below_set ?_ GE244.out) | exact HB.out))) : w.heap.size ≤ gb245)); have n4_ := Aside0.mk ((by rw [hg]; exact (below_size (by repeat (first | (with_reducible first | exact HB.out | apply below_alloc | apply pw_below_drewN | apply below_drew1 | refine below_set ?_ GE244.out) | exact HB.out))) : w.heap.size ≤ gb245)); have n5_ := Aside0.mk ((by rw [hg]; exact Nat.ne_of_lt (blk_lt (g := gb244) (o := .cells #[.int .i64 a0_0, .int .i64 a0_1] 25 (0, 0)) (by (with_reducible repeat (first | refine blk_drewN ?_ _ | refine blk_drew ?_ | refine blk_alloc ?_ _)); exact BK244.out)) : gb244 ≠ gb245)); have n6_ := Aside0.mk ((by rw [hg]; exact Nat.ne_of_gt (blk_lt (g := gb244) (o := .cells #[.int .i64 a0_0, .int .i64 a0_1] 25 (0, 0)) (by (with_reducible repeat (first | refine blk_drewN ?_ _ | refine blk_drew ?_ | refine blk_alloc ?_ _)); exact BK244.out)) : gb245 ≠ gb244)); clear BK244; clear HB; have BK244 := n0_; have HB := n1_; have BK245 := n2_; have GW245 := n3_; have GE245 := n4_; have NB244_245 := n5_; have NB245_244 := n6_; clear n0_ n1_ n2_ n3_ n4_ n5_ n6_; clear hb hbox hg) | ((with_reducible refine gate_callee (f := 47) rfl ?_); refine goesL_ (some 6) rfl rfl Tryd.func47 (by kernel_rfl) rfl #[.pointer (some ⟨gb244, 0, none⟩)] rfl (by (try simp only [List.map_toArray, List.map_cons, List.map_nil]); first | done | rfl | (simp only [List.length_drop, List.length_take]; rfl) | (simp only [List.drop_one]; done) | (simp only [List.drop_one]; rfl)) ?_; (with_reducible refine (spec_l03Ratio.calls k gb244 0 a0_0 a0_1 true _ ?side1 A3.out).mono ?_); (case side1 => exact ⟨(blk_cell (g := gb244) (t := 25) (cs := #[.int .i64 a0_0, .int .i64 a0_1]) (by (with_reducible repeat (first | refine blk_drewN ?_ _ | refine blk_drew ?_ | refine blk_alloc ?_ _)); exact BK244.out) 0).trans rfl, (blk_cell (g := gb244) (t := 25) (cs := #[.int .i64 a0_0, .int .i64 a0_1]) (by (with_reducible repeat (first | refine blk_drewN ?_ _ | refine blk_drew ?_ | refine blk_alloc ?_ _)); exact BK244.out) 1).trans rfl⟩); rintro e w' ⟨rfl, ⟨nd, rfl⟩⟩; refine ⟨_, rfl, ?_⟩) | (go_at_call 47; (with_reducible refine (spec_l03Ratio.calls k gb245 0 a1_0 a1_1 true _ ?side1 A5.out).mono ?_); (case side1 => exact ⟨(blk_cell (g := gb245) (t := 25) (cs := #[.int .i64 a1_0, .int .i64 a1_1]) (by (with_reducible repeat (first | refine blk_drewN ?_ _ | refine blk_drew ?_ | refine blk_alloc ?_ _)); exact BK245.out) 0).trans rfl, (blk_cell (g := gb245) (t := 25) (cs := #[.int .i64 a1_0, .int .i64 a1_1]) (by (with_reducible repeat (first | refine blk_drewN ?_ _ | refine blk_drew ?_ | refine blk_alloc ?_ _)); exact BK245.out) 1).trans rfl⟩); rintro e w' ⟨rfl, ⟨nd, rfl⟩⟩) | ((with_reducible refine gate_callee (f := 48) rfl ?_); refine goesL_ (some 12) rfl rfl Tryd.func48 (by kernel_rfl) rfl #[.pointer (some ⟨gb244, 0, none⟩), .pointer (some ⟨gb245, 0, none⟩)] rfl (by (try simp only [List.map_toArray, List.map_cons, List.map_nil]); first | done | rfl | (simp only [List.length_drop, List.length_take]; rfl) | (simp only [List.drop_one]; done) | (simp only [List.drop_one]; rfl)) ?_; (with_reducible refine (spec_l03Order.calls gb244 0 a0_0 a0_1 gb245 0 a1_0 a1_1 t248 _ ?side1 ?side2 A7.out).mono ?_); (case side1 => exact ⟨(blk_cell (g := gb244) (t := 25) (cs := #[.int .i64 a0_0, .int .i64 a0_1]) (by (with_reducible repeat (first | refine blk_drewN ?_ _ | refine blk_drew ?_ | refine blk_alloc ?_ _)); exact BK244.out) 0).trans rfl, (blk_cell (g := gb244) (t := 25) (cs := #[.int .i64 a0_0, .int .i64 a0_1]) (by (with_reducible repeat (first | refine blk_drewN ?_ _ | refine blk_drew ?_ | refine blk_alloc ?_ _)); exact BK244.out) 1).trans rfl⟩); (case side2 => exact ⟨(blk_cell (g := gb245) (t := 25) (cs := #[.int .i64 a1_0, .int .i64 a1_1]) (by (with_reducible repeat (first | refine blk_drewN ?_ _ | refine blk_drew ?_ | refine blk_alloc ?_ _)); exact BK245.out) 0).trans rfl, (blk_cell (g := gb245) (t := 25) (cs := #[.int .i64 a1_0, .int .i64 a1_1]) (by (with_reducible repeat (first | refine blk_drewN ?_ _ | refine blk_drew ?_ | refine blk_alloc ?_ _)); exact BK245.out) 1).trans rfl⟩); rintro e w' ⟨rfl, ⟨nd, rfl⟩⟩; refine ⟨_, rfl, ?_⟩))
      go_ret2
      exact ⟨by first | rfl | (simp [errW_none, errW_some] <;> rfl) | (simp [*, errW_none, errW_some] <;> rfl), by repeat (first | (with_reducible first | exact HB.out | apply below_alloc | apply pw_below_drewN | apply below_drew1 | refine below_set ?_ GE244.out | refine below_set ?_ GE245.out) | exact HB.out)⟩
    · replace c6 := Bool.eq_false_iff.mpr c6
      subst c6
      have H1 : (some (0, 1)) = some (r1, r2) := by rw [if_neg (show ¬ (false = true) by decide)] at H; exact H
      clear H
      have H := H1
      clear H1
      simp only [Option.some.injEq, Prod.mk.injEq] at H
      obtain ⟨rfl, rfl⟩ := H
      go_enter Tryd.func27, Tryd.ntmps27
      go_wp2_with (first | ((with_reducible refine gate_dst (N := 2) rfl ?_); refine box_event ?hg (N := 2) ?hd (cs := #[.int .i64 a0_0, .int .i64 a0_1]) (t := 25) ?hr ?_; (case hd => rfl); (case hg => rfl); (case hr => first | (go_simp; done) | (go_simp; rfl)); intro gb244 hg w10 hbox hb; have n0_ := Aside0.mk (below_step (by repeat (first | (with_reducible first | exact HB.out | apply below_alloc | apply pw_below_drewN | apply below_drew1) | exact HB.out)) hb); have n1_ := Aside0.mk (hbox); have n2_ := Aside0.mk ((by rw [hg]; exact (below_size (by repeat (first | (with_reducible first | exact HB.out | apply below_alloc | apply pw_below_drewN | apply below_drew1) | exact HB.out))) : w.heap.size ≤ gb244)); have n3_ := Aside0.mk ((by rw [hg]; exact (below_size (by repeat (first | (with_reducible first | exact HB.out | apply below_alloc | apply pw_below_drewN | apply below_drew1) | exact HB.out))) : w.heap.size ≤ gb244)); clear HB; have HB := n0_; have BK244 := n1_; have GW244 := n2_; have GE244 := n3_; clear n0_ n1_ n2_ n3_; clear hb hbox hg) | ((with_reducible refine gate_dst (N := 3) rfl ?_); refine box_event ?hg (N := 3) ?hd (cs := #[.int .i64 a1_0, .int .i64 a1_1]) (t := 25) ?hr ?_; (case hd => rfl); (case hg => rfl); (case hr => first | (go_simp; done) | (go_simp; rfl)); intro gb245 hg w11 hbox hb; have n0_ := Aside0.mk (blk_below (g := gb244) (o := .cells #[.int .i64 a0_0, .int .i64 a0_1] 25 (0, 0)) (by (with_reducible repeat (first | refine blk_drewN ?_ _ | refine blk_drew ?_ | refine blk_alloc ?_ _)); exact BK244.out) hb); have n1_ := Aside0.mk (below_step (by repeat (first | (with_reducible first | exact HB.out | apply below_alloc | apply pw_below_drewN | apply below_drew1 | refine below_set ?_ GE244.out) | exact HB.out)) hb); have n2_ := Aside0.mk (hbox); have n3_ := Aside0.mk ((by rw [hg]; exact (below_size (by repeat (first | (with_reducible first | exact HB.out | apply below_alloc | apply pw_below_drewN | apply below_drew1 | refine below_set ?_ GE244.out) | exact HB.out))) : w.heap.size ≤ gb245)); have n4_ := Aside0.mk ((by rw [hg]; exact (below_size (by repeat (first | (with_reducible first | exact HB.out | apply below_alloc | apply pw_below_drewN | apply below_drew1 | refine below_set ?_ GE244.out) | exact HB.out))) : w.heap.size ≤ gb245)); have n5_ := Aside0.mk ((by rw [hg]; exact Nat.ne_of_lt (blk_lt (g := gb244) (o := .cells #[.int .i64 a0_0, .int .i64 a0_1] 25 (0, 0)) (by (with_reducible repeat (first | refine blk_drewN ?_ _ | refine blk_drew ?_ | refine blk_alloc ?_ _)); exact BK244.out)) : gb244 ≠ gb245)); have n6_ := Aside0.mk ((by rw [hg]; exact Nat.ne_of_gt (blk_lt (g := gb244) (o := .cells #[.int .i64 a0_0, .int .i64 a0_1] 25 (0, 0)) (by (with_reducible repeat (first | refine blk_drewN ?_ _ | refine blk_drew ?_ | refine blk_alloc ?_ _)); exact BK244.out)) : gb245 ≠ gb244)); clear BK244; clear HB; have BK244 := n0_; have HB := n1_; have BK245 := n2_; have GW245 := n3_; have GE245 := n4_; have NB244_245 := n5_; have NB245_244 := n6_; clear n0_ n1_ n2_ n3_ n4_ n5_ n6_; clear hb hbox hg) | ((with_reducible refine gate_callee (f := 47) rfl ?_); refine goesL_ (some 6) rfl rfl Tryd.func47 (by kernel_rfl) rfl #[.pointer (some ⟨gb244, 0, none⟩)] rfl (by (try simp only [List.map_toArray, List.map_cons, List.map_nil]); first | done | rfl | (simp only [List.length_drop, List.length_take]; rfl) | (simp only [List.drop_one]; done) | (simp only [List.drop_one]; rfl)) ?_; (with_reducible refine (spec_l03Ratio.calls k gb244 0 a0_0 a0_1 true _ ?side1 A3.out).mono ?_); (case side1 => exact ⟨(blk_cell (g := gb244) (t := 25) (cs := #[.int .i64 a0_0, .int .i64 a0_1]) (by (with_reducible repeat (first | refine blk_drewN ?_ _ | refine blk_drew ?_ | refine blk_alloc ?_ _)); exact BK244.out) 0).trans rfl, (blk_cell (g := gb244) (t := 25) (cs := #[.int .i64 a0_0, .int .i64 a0_1]) (by (with_reducible repeat (first | refine blk_drewN ?_ _ | refine blk_drew ?_ | refine blk_alloc ?_ _)); exact BK244.out) 1).trans rfl⟩); rintro e w' ⟨rfl, ⟨nd, rfl⟩⟩; refine ⟨_, rfl, ?_⟩) | (go_at_call 47; (with_reducible refine (spec_l03Ratio.calls k gb245 0 a1_0 a1_1 false _ ?side1 A5.out).mono ?_); (case side1 => exact ⟨(blk_cell (g := gb245) (t := 25) (cs := #[.int .i64 a1_0, .int .i64 a1_1]) (by (with_reducible repeat (first | refine blk_drewN ?_ _ | refine blk_drew ?_ | refine blk_alloc ?_ _)); exact BK245.out) 0).trans rfl, (blk_cell (g := gb245) (t := 25) (cs := #[.int .i64 a1_0, .int .i64 a1_1]) (by (with_reducible repeat (first | refine blk_drewN ?_ _ | refine blk_drew ?_ | refine blk_alloc ?_ _)); exact BK245.out) 1).trans rfl⟩); rintro e w' ⟨rfl, ⟨nd, rfl⟩⟩))
      go_ret2
      exact ⟨by first | rfl | (simp [errW_none, errW_some] <;> rfl) | (simp [*, errW_none, errW_some] <;> rfl), by repeat (first | (with_reducible first | exact HB.out | apply below_alloc | apply pw_below_drewN | apply below_drew1 | refine below_set ?_ GE244.out | refine below_set ?_ GE245.out) | exact HB.out)⟩
  · replace c4 := Bool.eq_false_iff.mpr c4
    subst c4
    have H1 : (some (0, 1)) = some (r1, r2) := by rw [if_neg (show ¬ (false = true) by decide)] at H; exact H
    clear H
    have H := H1
    clear H1
    simp only [Option.some.injEq, Prod.mk.injEq] at H
    obtain ⟨rfl, rfl⟩ := H
    go_enter Tryd.func27, Tryd.ntmps27
    go_wp2_with (first | ((with_reducible refine gate_dst (N := 2) rfl ?_); refine box_event ?hg (N := 2) ?hd (cs := #[.int .i64 a0_0, .int .i64 a0_1]) (t := 25) ?hr ?_; (case hd => rfl); (case hg => rfl); (case hr => first | (go_simp; done) | (go_simp; rfl)); intro gb244 hg w12 hbox hb; have n0_ := Aside0.mk (below_step (by repeat (first | (with_reducible first | exact HB.out | apply below_alloc | apply pw_below_drewN | apply below_drew1) | exact HB.out)) hb); have n1_ := Aside0.mk (hbox); have n2_ := Aside0.mk ((by rw [hg]; exact (below_size (by repeat (first | (with_reducible first | exact HB.out | apply below_alloc | apply pw_below_drewN | apply below_drew1) | exact HB.out))) : w.heap.size ≤ gb244)); have n3_ := Aside0.mk ((by rw [hg]; exact (below_size (by repeat (first | (with_reducible first | exact HB.out | apply below_alloc | apply pw_below_drewN | apply below_drew1) | exact HB.out))) : w.heap.size ≤ gb244)); clear HB; have HB := n0_; have BK244 := n1_; have GW244 := n2_; have GE244 := n3_; clear n0_ n1_ n2_ n3_; clear hb hbox hg) | ((with_reducible refine gate_dst (N := 3) rfl ?_); refine box_event ?hg (N := 3) ?hd (cs := #[.int .i64 a1_0, .int .i64 a1_1]) (t := 25) ?hr ?_; (case hd => rfl); (case hg => rfl); (case hr => first | (go_simp; done) | (go_simp; rfl)); intro gb245 hg w13 hbox hb; have n0_ := Aside0.mk (blk_below (g := gb244) (o := .cells #[.int .i64 a0_0, .int .i64 a0_1] 25 (0, 0)) (by (with_reducible repeat (first | refine blk_drewN ?_ _ | refine blk_drew ?_ | refine blk_alloc ?_ _)); exact BK244.out) hb); have n1_ := Aside0.mk (below_step (by repeat (first | (with_reducible first | exact HB.out | apply below_alloc | apply pw_below_drewN | apply below_drew1 | refine below_set ?_ GE244.out) | exact HB.out)) hb); have n2_ := Aside0.mk (hbox); have n3_ := Aside0.mk ((by rw [hg]; exact (below_size (by repeat (first | (with_reducible first | exact HB.out | apply below_alloc | apply pw_below_drewN | apply below_drew1 | refine below_set ?_ GE244.out) | exact HB.out))) : w.heap.size ≤ gb245)); have n4_ := Aside0.mk ((by rw [hg]; exact (below_size (by repeat (first | (with_reducible first | exact HB.out | apply below_alloc | apply pw_below_drewN | apply below_drew1 | refine below_set ?_ GE244.out) | exact HB.out))) : w.heap.size ≤ gb245)); have n5_ := Aside0.mk ((by rw [hg]; exact Nat.ne_of_lt (blk_lt (g := gb244) (o := .cells #[.int .i64 a0_0, .int .i64 a0_1] 25 (0, 0)) (by (with_reducible repeat (first | refine blk_drewN ?_ _ | refine blk_drew ?_ | refine blk_alloc ?_ _)); exact BK244.out)) : gb244 ≠ gb245)); have n6_ := Aside0.mk ((by rw [hg]; exact Nat.ne_of_gt (blk_lt (g := gb244) (o := .cells #[.int .i64 a0_0, .int .i64 a0_1] 25 (0, 0)) (by (with_reducible repeat (first | refine blk_drewN ?_ _ | refine blk_drew ?_ | refine blk_alloc ?_ _)); exact BK244.out)) : gb245 ≠ gb244)); clear BK244; clear HB; have BK244 := n0_; have HB := n1_; have BK245 := n2_; have GW245 := n3_; have GE245 := n4_; have NB244_245 := n5_; have NB245_244 := n6_; clear n0_ n1_ n2_ n3_ n4_ n5_ n6_; clear hb hbox hg) | ((with_reducible refine gate_callee (f := 47) rfl ?_); refine goesL_ (some 6) rfl rfl Tryd.func47 (by kernel_rfl) rfl #[.pointer (some ⟨gb244, 0, none⟩)] rfl (by (try simp only [List.map_toArray, List.map_cons, List.map_nil]); first | done | rfl | (simp only [List.length_drop, List.length_take]; rfl) | (simp only [List.drop_one]; done) | (simp only [List.drop_one]; rfl)) ?_; (with_reducible refine (spec_l03Ratio.calls k gb244 0 a0_0 a0_1 false _ ?side1 A3.out).mono ?_); (case side1 => exact ⟨(blk_cell (g := gb244) (t := 25) (cs := #[.int .i64 a0_0, .int .i64 a0_1]) (by (with_reducible repeat (first | refine blk_drewN ?_ _ | refine blk_drew ?_ | refine blk_alloc ?_ _)); exact BK244.out) 0).trans rfl, (blk_cell (g := gb244) (t := 25) (cs := #[.int .i64 a0_0, .int .i64 a0_1]) (by (with_reducible repeat (first | refine blk_drewN ?_ _ | refine blk_drew ?_ | refine blk_alloc ?_ _)); exact BK244.out) 1).trans rfl⟩); rintro e w' ⟨rfl, ⟨nd, rfl⟩⟩; refine ⟨_, rfl, ?_⟩))
    go_ret2
    exact ⟨by first | rfl | (simp [errW_none, errW_some] <;> rfl) | (simp [*, errW_none, errW_some] <;> rfl), by repeat (first | (with_reducible first | exact HB.out | apply below_alloc | apply pw_below_drewN | apply below_drew1 | refine below_set ?_ GE244.out | refine below_set ?_ GE245.out) | exact HB.out)⟩

/-! ### spec_ConvergentsOf: function 29 -/
def spec_ConvergentsOf.l0 : Nat → List Int → List (S25) → Int → Option ((List (S25)) × Int)
  | 0, _, _, _ => none
  | k + 1, x0, x4, x5 => if x5 ≤ (x0.length : Int) then (if 0 ≤ x5 then ((spec_l04Value.f k (x0.take (x5 : Int).toNat)).bind fun bt257 => (if bt257.2.2 = 0 then (if x4.length < 8796093022208 then (spec_ConvergentsOf.l0 k x0 (x4 ++ [(⟨bt257.1, bt257.2.1⟩ : S25)]) (wrap64 (x5 + 1))) else (none)) else (some ((([] : List (S25))), bt257.2.2)))) else (none)) else (some (x4, 0))
def spec_ConvergentsOf.f (k : Nat) (l0 : List Int) : Option ((List (S25)) × Int) := (spec_l04Terms.f k l0).bind fun t249 => (if t249 = true then (spec_ConvergentsOf.l0 k l0 (([] : List (S25))) 1) else (some ((([] : List (S25))), 1)))
theorem spec_ConvergentsOf.mono_l : ∀ k, (∀ y0 y1 y2, LeO (spec_ConvergentsOf.l0 k y0 y1 y2) (spec_ConvergentsOf.l0 (k + 1) y0 y1 y2))
  | 0 => fun _ _ _ r h => by simp [spec_ConvergentsOf.l0] at h
  | k + 1 => by
    have ih0 := spec_ConvergentsOf.mono_l k
    · intro y0 y1 y2
      unfold spec_ConvergentsOf.l0
      repeat' first
      | (with_reducible exact ih0 _ _ _)
      | (with_reducible exact spec_l04Terms.mono _ _)
      | (with_reducible exact spec_l04Value.mono _ _)
      | (with_reducible exact LeO.refl _)
      | (with_reducible exact LeO.none _)
      | (with_reducible refine LeO.ite ?_ ?_)
      | (with_reducible refine LeO.bind ?_ (fun _ => ?_))
      | exact ih0 _ _ _
      | exact spec_l04Terms.mono _ _
      | exact spec_l04Value.mono _ _
      | exact LeO.none _
      | refine LeO.ite ?_ ?_
      | refine LeO.bind ?_ (fun _ => ?_)
theorem spec_ConvergentsOf.mono : ∀ a0 k, LeO (spec_ConvergentsOf.f k a0) (spec_ConvergentsOf.f (k + 1) a0) := by
  intro a0 k
  have ih0 := spec_ConvergentsOf.mono_l k
  unfold spec_ConvergentsOf.f
  repeat' first
      | (with_reducible exact ih0 _ _ _)
      | (with_reducible exact spec_l04Terms.mono _ _)
      | (with_reducible exact spec_l04Value.mono _ _)
      | (with_reducible exact LeO.refl _)
      | (with_reducible exact LeO.none _)
      | (with_reducible refine LeO.ite ?_ ?_)
      | (with_reducible refine LeO.bind ?_ (fun _ => ?_))
      | exact ih0 _ _ _
      | exact spec_l04Terms.mono _ _
      | exact spec_l04Value.mono _ _
      | exact LeO.none _
      | refine LeO.ite ?_ ?_
      | refine LeO.bind ?_ (fun _ => ?_)
set_option maxHeartbeats 8000000 in
set_option maxRecDepth 100000 in
theorem spec_ConvergentsOf.calls (k : Nat) (A0 : Option Addr) (c0 : Nat) (l0 : List Int) (r1 : List (S25)) (r2 : Int) (w : World) (hr0 : Kd.C (Kd.int .i64) w A0 l0.length l0) (hc0 : l0.length ≤ c0) (h : spec_ConvergentsOf.f k l0 = some (r1, r2)) :
    Calls Tryd.prog 29 #[.slice A0 l0.length c0] w fun e w' => ∃ v0_ : Value, e = .returned (.tuple #[v0_, .int .i64 r2]) ∧ Kd.R k25 25 w' w.heap.size (fun _ => True) v0_ r1 ∧ Below w.heap.size w w' := by
  have hu25 := Tryd.underlying25
  have HR0 := Aside0.mk hr0
  have HC0 := Aside0.mk hc0
  clear hr0 hc0
  have HB := Aside0.mk (Below.refl w.heap.size w)
  have H : ((spec_l04Terms.f k l0).bind fun t249 => (if t249 = true then (spec_ConvergentsOf.l0 k l0 (([] : List (S25))) 1) else (some ((([] : List (S25))), 1)))) = some (r1, r2) := h
  clear h
  replace H := Option.bind_eq_some_iff.mp H
  obtain ⟨t249, A20, H⟩ := H
  replace H : (if t249 = true then (spec_ConvergentsOf.l0 k l0 (([] : List (S25))) 1) else (some ((([] : List (S25))), 1))) = some (r1, r2) := H
  have A2 := Aside0.mk A20
  clear A20
  by_cases c3 : t249 = true
  · subst c3
    have H1 : (spec_ConvergentsOf.l0 k l0 (([] : List (S25))) 1) = some (r1, r2) := by rw [if_pos rfl] at H; exact H
    clear H
    have H := H1
    clear H1
    obtain ⟨y253, hy253⟩ : ∃ y_ : List (S25), y_ = (([] : List (S25))) := ⟨_, rfl⟩
    replace H : (spec_ConvergentsOf.l0 k l0 y253 1) = some (r1, r2) := by first | (rw [hy253]; with_reducible exact H) | (have H2_ := (Option.bind_some _ _).symm.trans H; rw [hy253]; with_reducible exact H2_) | (have H2_ := (Option.bind_some _ _).symm.trans H; with_reducible exact H2_) | with_reducible exact H | (rw [hy253]; exact H) | exact H
    have Ny253 := Aside0.mk hy253
    clear hy253
    have H' := Aside0.mk H
    clear H
    go_enter Tryd.func29, Tryd.ntmps29
    go_wp2_with (first | ((with_reducible refine gate_callee (f := 55) rfl ?_); refine goesL_ (some 9) rfl rfl Tryd.func55 (by kernel_rfl) rfl #[.slice A0 l0.length c0] rfl (by (try simp only [List.map_toArray, List.map_cons, List.map_nil]); first | done | rfl | (simp only [List.length_drop, List.length_take]; rfl) | (simp only [List.drop_one]; done) | (simp only [List.drop_one]; rfl)) ?_; (with_reducible refine (spec_l04Terms.calls k _ _ l0 true _ ?side1 ?side2 A2.out).mono ?_); (case side1 => repeat (first | exact HR0.out | (with_reducible refine Kd.C_alloc ?_ _) | (with_reducible refine Kd.C_drewN ?_ _) | (with_reducible refine Kd.C_drew ?_))); (case side2 => exact HC0.out); rintro e w' ⟨rfl, ⟨nd, rfl⟩⟩; refine ⟨_, rfl, ?_⟩) | ((with_reducible refine gate_dst (N := 12) rfl ?_); refine Kd.R_lit k25 _ 25 ?hg (N := 12) ?hd (xs := ([] : List (S25))) (inner := []) (ok := fun _ => True) (okp := fun _ => True) ?hr ?hp (fun _ hk => hk) trivial (Below.refl _ _) (Nat.le_refl _) (by simp) ?_; (case hd => rfl); (case hg => rfl); (case hr => first | (go_simp; done) | (go_simp; rfl)); (case hp => exact (Reps.none _ _)); intro v254 w4 ho5 hb hg_ hnew_; clear hg_ hnew_; (first | rw [← Ny253.out] at ho5 | (simp only [Int.reduceToNat] at ho5; rw [← Ny253.out] at ho5)); have n0_ := Aside0.mk (Kd.R_lower ho5 (below_size (by repeat (first | (with_reducible first | exact HB.out | apply below_alloc | apply pw_below_drewN | apply below_drew1) | exact HB.out)))); have n1_ := Aside0.mk (below_step (by repeat (first | (with_reducible first | exact HB.out | apply below_alloc | apply pw_below_drewN | apply below_drew1) | exact HB.out)) hb); clear HB; have HO255 := n0_; have HB := n1_; clear n0_ n1_; clear hb ho5))
    go_loopg [4, 5] k (fun kq v4 v5 w' => ∃ (x4_1 : List (S25)) (x5_1 : Int), v5 = .int .i64 x5_1 ∧ Aside0 (spec_ConvergentsOf.l0 kq l0 x4_1 x5_1 = some (r1, r2)) ∧ Aside0 (kq ≤ k) ∧ Aside0 (Kd.R k25 25 w' w.heap.size (fun _ => True) v4 x4_1) ∧ Aside0 (Below w.heap.size w w'))
    case atStart => exact ⟨(y253), (1), (by first | rfl | (simp; done) | (simp [*]; done)), H', ⟨Nat.le_refl _⟩, ⟨by (with_reducible repeat (first | apply Kd.R_alloc | apply Kd.R_drewN | apply Kd.R_drew)); exact HO255.out⟩, ⟨by repeat (first | (with_reducible first | exact HB.out | apply below_alloc | apply pw_below_drewN | apply below_drew1) | exact HB.out)⟩⟩
    case round =>
      clear H'
      try clear c2
      try clear p2
      try clear c3
      try clear c5
      obtain ⟨x4_1, x5_1, rfl, HA, HK1, HO_4, HB⟩ := hrel
      cases gk with
      | zero => exact absurd HA.out (by simp [spec_ConvergentsOf.l0])
      | succ k1 =>
        have H := HA.out
        clear HA
        simp only [spec_ConvergentsOf.l0] at H
        by_cases c6 : x5_1 ≤ (l0.length : Int)
        · rw [if_pos c6] at H
          have c6b0 : decide (x5_1 ≤ (l0.length : Int)) = true := decide_eq_true c6
          clear c6
          by_cases c7 : 0 ≤ x5_1
          · rw [if_pos c7] at H
            have c7b0 := eq_true c7
            have c7b1 : decide (0 ≤ x5_1) = true := decide_eq_true c7
            clear c7
            have c8b0 := eq_true (of_decide_eq_true (by first | (with_reducible assumption) | assumption) : x5_1 ≤ (l0.length : Int))
            have Nzl9 : Aside0 (((l0.take (x5_1 : Int).toNat).length : Int) = max x5_1 0) := ⟨by have h_ : x5_1 ≤ (l0.length : Int) := of_decide_eq_true (by first | (with_reducible assumption) | assumption); rw [List.length_take]; omega⟩
            replace H := Option.bind_eq_some_iff.mp H
            obtain ⟨⟨t257, t258, t259⟩, A100, H⟩ := H
            replace H : (if t259 = 0 then (if x4_1.length < 8796093022208 then (spec_ConvergentsOf.l0 k1 l0 (x4_1 ++ [(⟨t257, t258⟩ : S25)]) (wrap64 (x5_1 + 1))) else (none)) else (some ((([] : List (S25))), t259))) = some (r1, r2) := H
            have A10 := Aside0.mk A100
            clear A100
            by_cases c11 : t259 = 0
            · rw [if_pos c11] at H
              have c11b0 : (t259 == 0) = true := beq_iff_eq.mpr c11
              have c11b1 : (t259 != 0) = false := bne_eq_false_iff_eq.mpr c11
              clear c11
              by_cases c12 : x4_1.length < 8796093022208
              · rw [if_pos c12] at H
                have LMc12 := Aside0.mk c12
                clear c12
                obtain ⟨y261, hy261⟩ : ∃ y_ : List (S25), y_ = (x4_1 ++ [(⟨t257, t258⟩ : S25)]) := ⟨_, rfl⟩
                replace H : (spec_ConvergentsOf.l0 k1 l0 y261 (wrap64 (x5_1 + 1))) = some (r1, r2) := by first | (rw [hy261]; with_reducible exact H) | (have H2_ := (Option.bind_some _ _).symm.trans H; rw [hy261]; with_reducible exact H2_) | (have H2_ := (Option.bind_some _ _).symm.trans H; with_reducible exact H2_) | with_reducible exact H | (rw [hy261]; exact H) | exact H
                have Ny261 := Aside0.mk hy261
                clear hy261
                have H' := Aside0.mk H
                clear H
                obtain ⟨i013, hi013, _, hsz13, _⟩ := info_parts info2
                obtain ⟨hcut13, hA13, hC13⟩ := print_take_of (P := Tryd.prog) (Value.int .i64) 0 39 2 .i64 Tryd.underlying39 hi013 hsz13 A0 c0 l0 x5_1 (of_decide_eq_true (by first | (with_reducible assumption) | assumption)) (of_decide_eq_true (by first | (with_reducible assumption) | assumption)) HC0.out
                have HR256 := Aside0.mk (Kd.C_of_reads (h1 := fun _ => rfl) (hA13 _ (Kd.reads_of_C HR0.out)))
                have HC256 := Aside0.mk hC13
                clear hA13 hC13 hi013 hsz13
                go_wp2_with (first | ((with_reducible refine gate_callee (f := 56) rfl ?_); refine goesL_ (some 23) rfl rfl Tryd.func56 (by kernel_rfl) rfl #[.slice A0 (l0.take (x5_1 : Int).toNat).length c0] rfl (by (try simp only [List.map_toArray, List.map_cons, List.map_nil]); first | done | (rw [show (l0.take (x5_1 : Int).toNat).length = x5_1.toNat from (by rw [List.length_take]; have h_ : (x5_1 : Int) ≤ (l0.length : Int) := of_decide_eq_true (by first | (with_reducible assumption) | assumption); omega)] <;> rfl) | rfl | (simp only [List.length_drop, List.length_take]; rfl) | (simp only [List.drop_one]; done) | (simp only [List.drop_one]; rfl)) ?_; (with_reducible refine (spec_l04Value.calls k1 _ _ (l0.take (x5_1 : Int).toNat) t257 t258 t259 _ ?side1 ?side2 A10.out).mono ?_); (case side1 => repeat (first | exact (Kd.C_below HR256.out HB.out) | (with_reducible refine Kd.C_alloc ?_ _) | (with_reducible refine Kd.C_drewN ?_ _) | (with_reducible refine Kd.C_drew ?_))); (case side2 => exact HC256.out); rintro e w14 ⟨rfl, hb⟩; refine ⟨_, rfl, ?_⟩; have n0_ := Aside0.mk (Kd.R_below (by (with_reducible repeat (first | apply Kd.R_alloc | apply Kd.R_drewN | apply Kd.R_drew)); exact HO_4.out) hb); have n1_ := Aside0.mk (below_step (by repeat (first | (with_reducible first | exact HB.out | apply below_alloc | apply pw_below_drewN | apply below_drew1) | exact HB.out)) hb); clear HO_4; clear HB; have HO_4 := n0_; have HB := n1_; clear n0_ n1_; (try clear hb); (try clear hb2); (try clear hk); (try clear hi)) | ((with_reducible refine gate_dst (N := 6) rfl ?_); refine box_event ?hg (N := 6) ?hd (cs := #[.int .i64 0, .int .i64 0]) (t := 25) ?hr ?_; (case hd => rfl); (case hg => rfl); (case hr => first | (go_simp; done) | (go_simp; rfl)); intro gb260 hg w15 hbox hb; have n0_ := Aside0.mk (Kd.R_below (Kd.R_elderB (by (with_reducible repeat (first | apply Kd.R_alloc | apply Kd.R_drewN | apply Kd.R_drew)); exact HO_4.out) gb260 (Nat.le_of_eq hg.symm)) hb); have n1_ := Aside0.mk (below_step (by repeat (first | (with_reducible first | exact HB.out | apply below_alloc | apply pw_below_drewN | apply below_drew1) | exact HB.out)) hb); have n2_ := Aside0.mk (hbox); have n3_ := Aside0.mk ((by rw [hg]; exact (below_size (by repeat (first | (with_reducible first | exact HB.out | apply below_alloc | apply pw_below_drewN | apply below_drew1) | exact HB.out))) : w.heap.size ≤ gb260)); have n4_ := Aside0.mk ((by rw [hg]; exact (below_size (by repeat (first | (with_reducible first | exact HB.out | apply below_alloc | apply pw_below_drewN | apply below_drew1) | exact HB.out))) : w.heap.size ≤ gb260)); clear HO_4; clear HB; have HO_4 := n0_; have HB := n1_; have BK260 := n2_; have GW260 := n3_; have GE260 := n4_; clear n0_ n1_ n2_ n3_ n4_; clear hb hbox hg; have hcz16_0 : w15.cell? ⟨gb260, 0, none⟩ = some (.int .i64 0) := (blk_cell BK260.out 0).trans rfl; have hcz16_1 : w15.cell? ⟨gb260, 1, none⟩ = some (.int .i64 0) := (blk_cell BK260.out 1).trans rfl; have hfz16_0 := blk_frozen BK260.out 0; have hfz16_1 := blk_frozen BK260.out 1) | ((with_reducible refine gate_builtin (b := .append) (xs := #[.tmp 30, .tmp 32]) rfl ?_); at_builtin; refine Kd.R_append k25 (w0 := w) w.heap.size rfl (.tmp 30) (.tmp 32) 49 25 (.agg #[(.int .i64 0), (.int .i64 0)]) 16 rfl Tryd.underlying49 info25 rfl (by decide) (by omega) u4 x4_1 (⟨t257, t258⟩ : S25) [.int .i64 t257, .int .i64 t258] (fun k_ => k_ ≠ gb260) (fun _ => False) rfl (by first | (go_simp; done) | (go_simp; rfl)) ?aP (fun _ hk => hk.elim) ?aF ?aO ?aB ?aS ?aL ?_; (case aP => exact k25_mkM _ _ _ (⟨t257, t258⟩ : S25)); (case aB => exact (by repeat (first | (with_reducible first | exact HB.out | apply below_alloc | apply pw_below_drewN | apply below_drew1 | refine below_set ?_ GE260.out) | exact HB.out))); (case aF => exact (fun k_ hk => Kd.freshB (g := gb260) (o := .cells #[.int .i64 t257, .int .i64 t258] 25 (0, 0)) (by (with_reducible repeat (first | refine blk_drewN ?_ _ | refine blk_drew ?_ | refine blk_alloc ?_ _)); refine blk_put (cs := #[.int .i64 t257, .int .i64 0]) ?_ 1 _ rfl; (with_reducible repeat (first | refine blk_drewN ?_ _ | refine blk_drew ?_ | refine blk_alloc ?_ _)); refine blk_put (cs := #[.int .i64 0, .int .i64 0]) ?_ 0 _ rfl; (with_reducible repeat (first | refine blk_drewN ?_ _ | refine blk_drew ?_ | refine blk_alloc ?_ _)); exact BK260.out) k_ hk)); (case aO => exact (by (with_reducible repeat (first | apply Kd.R_alloc | apply Kd.R_drewN | apply Kd.R_drew)); exact Kd.R_mono (Kd.R_far (p := ⟨gb260, 1, none⟩) (Kd.R_far (p := ⟨gb260, 0, none⟩) (Kd.R_mono HO_4.out (fun k_ hk => (⟨hk, hk.2⟩ : _ ∧ k_ ≠ gb260))) (fun _ hk => hk.2) (.int .i64 t257)) (fun _ hk => hk.2) (.int .i64 t258)) (fun _ hk => hk.1.2))); (case aS => exact (below_size (by repeat (first | (with_reducible first | exact HB.out | apply below_alloc | apply pw_below_drewN | apply below_drew1 | refine below_set ?_ GE260.out) | exact HB.out)))); (case aL => have := LMc12.out; omega); intro v262 w17 ho hb hg hat; rw [← Ny261.out] at ho; have n0_ := Aside0.mk (blk_grown (g := gb260) (o := .cells #[.int .i64 t257, .int .i64 t258] 25 (0, 0)) (by (with_reducible repeat (first | refine blk_drewN ?_ _ | refine blk_drew ?_ | refine blk_alloc ?_ _)); refine blk_put (cs := #[.int .i64 t257, .int .i64 0]) ?_ 1 _ rfl; (with_reducible repeat (first | refine blk_drewN ?_ _ | refine blk_drew ?_ | refine blk_alloc ?_ _)); refine blk_put (cs := #[.int .i64 0, .int .i64 0]) ?_ 0 _ rfl; (with_reducible repeat (first | refine blk_drewN ?_ _ | refine blk_drew ?_ | refine blk_alloc ?_ _)); exact BK260.out) hg (Kd.R_away HO_4.out (fun _ hk => hk.2))); have n1_ := Aside0.mk (hb); have n2_ := Aside0.mk (ho); clear BK260; clear HB; clear HO_4; have BK260 := n0_; have HB := n1_; have HO263 := n2_; clear n0_ n1_ n2_; clear ho hb hg hat))
                go_roundg k1
                case measure => have := HK1.out; omega
                case rel => exact ⟨(y261), (wrap64 (x5_1 + 1)), (by first | rfl | (simp; done) | (simp [*]; done)), H', ⟨by have := HK1.out; omega⟩, ⟨by (with_reducible repeat (first | apply Kd.R_alloc | apply Kd.R_drewN | apply Kd.R_drew)); exact Kd.R_mono HO263.out (fun _ hk => trivial)⟩, ⟨by repeat (first | (with_reducible first | exact HB.out | apply below_alloc | apply pw_below_drewN | apply below_drew1 | refine below_set ?_ GE260.out) | exact HB.out)⟩⟩
              · rw [if_neg c12] at H
                exact absurd H (by simp)
            · rw [if_neg c11] at H
              have c11b0 : (t259 == 0) = false := beq_eq_false_iff_ne.mpr c11
              have c11b1 : (t259 != 0) = true := bne_iff_ne.mpr c11
              obtain ⟨y264, hy264⟩ : ∃ y_ : List (S25), y_ = (([] : List (S25))) := ⟨_, rfl⟩
              replace H : (some (y264, t259)) = some (r1, r2) := by first | (rw [hy264]; with_reducible exact H) | (have H2_ := (Option.bind_some _ _).symm.trans H; rw [hy264]; with_reducible exact H2_) | (have H2_ := (Option.bind_some _ _).symm.trans H; with_reducible exact H2_) | with_reducible exact H | (rw [hy264]; exact H) | exact H
              have Ny264 := Aside0.mk hy264
              clear hy264
              simp only [Option.some.injEq, Prod.mk.injEq] at H
              obtain ⟨rfl, rfl⟩ := H
              obtain ⟨i018, hi018, _, hsz18, _⟩ := info_parts info2
              obtain ⟨hcut18, hA18, hC18⟩ := print_take_of (P := Tryd.prog) (Value.int .i64) 0 39 2 .i64 Tryd.underlying39 hi018 hsz18 A0 c0 l0 x5_1 (of_decide_eq_true (by first | (with_reducible assumption) | assumption)) (of_decide_eq_true (by first | (with_reducible assumption) | assumption)) HC0.out
              have HR256 := Aside0.mk (Kd.C_of_reads (h1 := fun _ => rfl) (hA18 _ (Kd.reads_of_C HR0.out)))
              have HC256 := Aside0.mk hC18
              clear hA18 hC18 hi018 hsz18
              go_wp2_with (first | ((with_reducible refine gate_callee (f := 56) rfl ?_); refine goesL_ (some 23) rfl rfl Tryd.func56 (by kernel_rfl) rfl #[.slice A0 (l0.take (x5_1 : Int).toNat).length c0] rfl (by (try simp only [List.map_toArray, List.map_cons, List.map_nil]); first | done | (rw [show (l0.take (x5_1 : Int).toNat).length = x5_1.toNat from (by rw [List.length_take]; have h_ : (x5_1 : Int) ≤ (l0.length : Int) := of_decide_eq_true (by first | (with_reducible assumption) | assumption); omega)] <;> rfl) | rfl | (simp only [List.length_drop, List.length_take]; rfl) | (simp only [List.drop_one]; done) | (simp only [List.drop_one]; rfl)) ?_; (with_reducible refine (spec_l04Value.calls k1 _ _ (l0.take (x5_1 : Int).toNat) t257 t258 t259 _ ?side1 ?side2 A10.out).mono ?_); (case side1 => repeat (first | exact (Kd.C_below HR256.out HB.out) | (with_reducible refine Kd.C_alloc ?_ _) | (with_reducible refine Kd.C_drewN ?_ _) | (with_reducible refine Kd.C_drew ?_))); (case side2 => exact HC256.out); rintro e w19 ⟨rfl, hb⟩; refine ⟨_, rfl, ?_⟩; have n0_ := Aside0.mk (Kd.R_below (by (with_reducible repeat (first | apply Kd.R_alloc | apply Kd.R_drewN | apply Kd.R_drew)); exact HO_4.out) hb); have n1_ := Aside0.mk (below_step (by repeat (first | (with_reducible first | exact HB.out | apply below_alloc | apply pw_below_drewN | apply below_drew1) | exact HB.out)) hb); clear HO_4; clear HB; have HO_4 := n0_; have HB := n1_; clear n0_ n1_; (try clear hb); (try clear hb2); (try clear hk); (try clear hi)) | ((with_reducible refine gate_dst (N := 6) rfl ?_); refine box_event ?hg (N := 6) ?hd (cs := #[.int .i64 0, .int .i64 0]) (t := 25) ?hr ?_; (case hd => rfl); (case hg => rfl); (case hr => first | (go_simp; done) | (go_simp; rfl)); intro gb260 hg w20 hbox hb; have n0_ := Aside0.mk (Kd.R_below (Kd.R_elderB (by (with_reducible repeat (first | apply Kd.R_alloc | apply Kd.R_drewN | apply Kd.R_drew)); exact HO_4.out) gb260 (Nat.le_of_eq hg.symm)) hb); have n1_ := Aside0.mk (below_step (by repeat (first | (with_reducible first | exact HB.out | apply below_alloc | apply pw_below_drewN | apply below_drew1) | exact HB.out)) hb); have n2_ := Aside0.mk (hbox); have n3_ := Aside0.mk ((by rw [hg]; exact (below_size (by repeat (first | (with_reducible first | exact HB.out | apply below_alloc | apply pw_below_drewN | apply below_drew1) | exact HB.out))) : w.heap.size ≤ gb260)); have n4_ := Aside0.mk ((by rw [hg]; exact (below_size (by repeat (first | (with_reducible first | exact HB.out | apply below_alloc | apply pw_below_drewN | apply below_drew1) | exact HB.out))) : w.heap.size ≤ gb260)); clear HO_4; clear HB; have HO_4 := n0_; have HB := n1_; have BK260 := n2_; have GW260 := n3_; have GE260 := n4_; clear n0_ n1_ n2_ n3_ n4_; clear hb hbox hg; have hcz21_0 : w20.cell? ⟨gb260, 0, none⟩ = some (.int .i64 0) := (blk_cell BK260.out 0).trans rfl; have hcz21_1 : w20.cell? ⟨gb260, 1, none⟩ = some (.int .i64 0) := (blk_cell BK260.out 1).trans rfl; have hfz21_0 := blk_frozen BK260.out 0; have hfz21_1 := blk_frozen BK260.out 1) | ((with_reducible refine gate_dst (N := 28) rfl ?_); refine Kd.R_lit k25 _ 25 ?hg (N := 28) ?hd (xs := ([] : List (S25))) (inner := []) (ok := fun _ => True) (okp := fun _ => True) ?hr ?hp (fun _ hk => hk) trivial (Below.refl _ _) (Nat.le_refl _) (by simp) ?_; (case hd => rfl); (case hg => rfl); (case hr => first | (go_simp; done) | (go_simp; rfl)); (case hp => exact (Reps.none _ _)); intro v265 w22 ho23 hb hg_ hnew_; clear hg_ hnew_; (first | rw [← Ny264.out] at ho23 | (simp only [Int.reduceToNat] at ho23; rw [← Ny264.out] at ho23)); have n0_ := Aside0.mk (Kd.R_elder' (by (with_reducible repeat (first | apply Kd.R_alloc | apply Kd.R_drewN | apply Kd.R_drew)); exact (Kd.R_mono (Kd.R_far (p := ⟨gb260, 1, none⟩) (Kd.R_far (p := ⟨gb260, 0, none⟩) (Kd.R_mono HO_4.out (fun k_ hk => (⟨hk, hk.2⟩ : _ ∧ k_ ≠ gb260))) (fun _ hk => hk.2) (.int .i64 t257)) (fun _ hk => hk.2) (.int .i64 t258)) (fun _ h_ => h_.1))) (Kd.R_base ho23) hb); have n1_ := Aside0.mk (Kd.R_lower (Kd.R_newB (Kd.R_new' ho23 (Kd.R_lt (by (with_reducible repeat (first | apply Kd.R_alloc | apply Kd.R_drewN | apply Kd.R_drew)); exact (Kd.R_mono (Kd.R_far (p := ⟨gb260, 1, none⟩) (Kd.R_far (p := ⟨gb260, 0, none⟩) (Kd.R_mono HO_4.out (fun k_ hk => (⟨hk, hk.2⟩ : _ ∧ k_ ≠ gb260))) (fun _ hk => hk.2) (.int .i64 t257)) (fun _ hk => hk.2) (.int .i64 t258)) (fun _ h_ => h_.1))))) (g := gb260) (o := .cells #[.int .i64 t257, .int .i64 t258] 25 (0, 0)) (by (with_reducible repeat (first | refine blk_drewN ?_ _ | refine blk_drew ?_ | refine blk_alloc ?_ _)); refine blk_put (cs := #[.int .i64 t257, .int .i64 0]) ?_ 1 _ rfl; (with_reducible repeat (first | refine blk_drewN ?_ _ | refine blk_drew ?_ | refine blk_alloc ?_ _)); refine blk_put (cs := #[.int .i64 0, .int .i64 0]) ?_ 0 _ rfl; (with_reducible repeat (first | refine blk_drewN ?_ _ | refine blk_drew ?_ | refine blk_alloc ?_ _)); exact BK260.out)) (below_size (by repeat (first | (with_reducible first | exact HB.out | apply below_alloc | apply pw_below_drewN | apply below_drew1 | refine below_set ?_ GE260.out) | exact HB.out)))); have n2_ := Aside0.mk (blk_below (g := gb260) (o := .cells #[.int .i64 t257, .int .i64 t258] 25 (0, 0)) (by (with_reducible repeat (first | refine blk_drewN ?_ _ | refine blk_drew ?_ | refine blk_alloc ?_ _)); refine blk_put (cs := #[.int .i64 t257, .int .i64 0]) ?_ 1 _ rfl; (with_reducible repeat (first | refine blk_drewN ?_ _ | refine blk_drew ?_ | refine blk_alloc ?_ _)); refine blk_put (cs := #[.int .i64 0, .int .i64 0]) ?_ 0 _ rfl; (with_reducible repeat (first | refine blk_drewN ?_ _ | refine blk_drew ?_ | refine blk_alloc ?_ _)); exact BK260.out) hb); have n3_ := Aside0.mk (below_step (by repeat (first | (with_reducible first | exact HB.out | apply below_alloc | apply pw_below_drewN | apply below_drew1 | refine below_set ?_ GE260.out) | exact HB.out)) hb); clear HO_4; clear BK260; clear HB; have HO_4 := n0_; have HO266 := n1_; have BK260 := n2_; have HB := n3_; clear n0_ n1_ n2_ n3_; clear hb ho23))
              go_ret2
              exact ⟨_, by first | rfl | (simp [errW_none, errW_some] <;> rfl) | (simp [*, errW_none, errW_some] <;> rfl), by (with_reducible repeat (first | apply Kd.R_alloc | apply Kd.R_drewN | apply Kd.R_drew)); exact Kd.R_mono HO266.out (fun _ hk => trivial), by repeat (first | (with_reducible first | exact HB.out | apply below_alloc | apply pw_below_drewN | apply below_drew1 | refine below_set ?_ GE260.out) | exact HB.out)⟩
          · rw [if_neg c7] at H
            exact absurd H (by simp)
        · rw [if_neg c6] at H
          have c6b0 : decide (x5_1 ≤ (l0.length : Int)) = false := decide_eq_false c6
          clear c6
          simp only [Option.some.injEq, Prod.mk.injEq] at H
          obtain ⟨rfl, rfl⟩ := H
          go_wp2
          go_ret2
          exact ⟨_, by first | rfl | (simp [errW_none, errW_some] <;> rfl) | (simp [*, errW_none, errW_some] <;> rfl), by (with_reducible repeat (first | apply Kd.R_alloc | apply Kd.R_drewN | apply Kd.R_drew)); exact HO_4.out, by repeat (first | (with_reducible first | exact HB.out | apply below_alloc | apply pw_below_drewN | apply below_drew1) | exact HB.out)⟩
  · replace c3 := Bool.eq_false_iff.mpr c3
    subst c3
    have H1 : (some ((([] : List (S25))), 1)) = some (r1, r2) := by rw [if_neg (show ¬ (false = true) by decide)] at H; exact H
    clear H
    have H := H1
    clear H1
    obtain ⟨y250, hy250⟩ : ∃ y_ : List (S25), y_ = (([] : List (S25))) := ⟨_, rfl⟩
    replace H : (some (y250, 1)) = some (r1, r2) := by first | (rw [hy250]; with_reducible exact H) | (have H2_ := (Option.bind_some _ _).symm.trans H; rw [hy250]; with_reducible exact H2_) | (have H2_ := (Option.bind_some _ _).symm.trans H; with_reducible exact H2_) | with_reducible exact H | (rw [hy250]; exact H) | exact H
    have Ny250 := Aside0.mk hy250
    clear hy250
    simp only [Option.some.injEq, Prod.mk.injEq] at H
    obtain ⟨rfl, rfl⟩ := H
    go_enter Tryd.func29, Tryd.ntmps29
    go_wp2_with (first | ((with_reducible refine gate_callee (f := 55) rfl ?_); refine goesL_ (some 9) rfl rfl Tryd.func55 (by kernel_rfl) rfl #[.slice A0 l0.length c0] rfl (by (try simp only [List.map_toArray, List.map_cons, List.map_nil]); first | done | rfl | (simp only [List.length_drop, List.length_take]; rfl) | (simp only [List.drop_one]; done) | (simp only [List.drop_one]; rfl)) ?_; (with_reducible refine (spec_l04Terms.calls k _ _ l0 false _ ?side1 ?side2 A2.out).mono ?_); (case side1 => repeat (first | exact HR0.out | (with_reducible refine Kd.C_alloc ?_ _) | (with_reducible refine Kd.C_drewN ?_ _) | (with_reducible refine Kd.C_drew ?_))); (case side2 => exact HC0.out); rintro e w' ⟨rfl, ⟨nd, rfl⟩⟩; refine ⟨_, rfl, ?_⟩) | ((with_reducible refine gate_dst (N := 11) rfl ?_); refine Kd.R_lit k25 _ 25 ?hg (N := 11) ?hd (xs := ([] : List (S25))) (inner := []) (ok := fun _ => True) (okp := fun _ => True) ?hr ?hp (fun _ hk => hk) trivial (Below.refl _ _) (Nat.le_refl _) (by simp) ?_; (case hd => rfl); (case hg => rfl); (case hr => first | (go_simp; done) | (go_simp; rfl)); (case hp => exact (Reps.none _ _)); intro v251 w24 ho25 hb hg_ hnew_; clear hg_ hnew_; (first | rw [← Ny250.out] at ho25 | (simp only [Int.reduceToNat] at ho25; rw [← Ny250.out] at ho25)); have n0_ := Aside0.mk (Kd.R_lower ho25 (below_size (by repeat (first | (with_reducible first | exact HB.out | apply below_alloc | apply pw_below_drewN | apply below_drew1) | exact HB.out)))); have n1_ := Aside0.mk (below_step (by repeat (first | (with_reducible first | exact HB.out | apply below_alloc | apply pw_below_drewN | apply below_drew1) | exact HB.out)) hb); clear HB; have HO252 := n0_; have HB := n1_; clear n0_ n1_; clear hb ho25))
    go_ret2
    exact ⟨_, by first | rfl | (simp [errW_none, errW_some] <;> rfl) | (simp [*, errW_none, errW_some] <;> rfl), by (with_reducible repeat (first | apply Kd.R_alloc | apply Kd.R_drewN | apply Kd.R_drew)); exact HO252.out, by repeat (first | (with_reducible first | exact HB.out | apply below_alloc | apply pw_below_drewN | apply below_drew1) | exact HB.out)⟩

end Go.Proofs.YtcldnanpdpfhlaaDoor.MFnTerms
