/- The program's BestFraction returns what the reference's returns, for all arguments. -/
import Derived.Test.YtdnkpfmcpalojaaMFnExactBestFractionx5
import Derived.Test.YtdnkpfmcpalojaaMOpen
namespace Go.Proofs.Ytdnkpfmcpalojaa.Pure
open Go.RowKit Go.Proofs.Ytdnkpfmcpalojaa.MFnExactBestFraction Go.Proofs.Ytdnkpfmcpalojaa.MOpen Go.Proofs.YtdnkpfmcpalojaaW.PrintWords Go.Proofs.YtdnkpfmcpalojaaW.PrintLast Go.Proofs.YtdnkpfmcpalojaaW.PrintMore
set_option linter.unusedVariables false
set_option linter.unusedSimpArgs false
theorem wrap64_id {n : Int} (h0 : -9223372036854775808 ≤ n) (h1 : n ≤ 9223372036854775807) : wrap64 n = n := by
  unfold wrap64; omega
theorem rd_nat (xs : List Int) (i : Nat) : rd xs (i : Int) = xs.getD i 0 := by simp [rd]
theorem rd_get (xs : List Int) (i : Nat) (h : i < xs.length) : rd xs (i : Int) = xs[i] := by simp [rd, h]
theorem ev_k {α : Type} {f : Nat → Option α} {r : α} (n : Nat) (h : ∀ k, n ≤ k → f k = some r) : Ev f r := ⟨n, h⟩
theorem l00In_some (a b c : Int) : spec_l00In.f a b c = some (decide (b ≤ a ∧ a ≤ c)) := by
  unfold spec_l00In.f
  split <;> simp <;> omega
theorem within_some (a b c : Int) : impl_within.f a b c = some (decide (b ≤ a ∧ a ≤ c)) := l00In_some a b c
theorem size_is {a : Int} (h0 : -9223372036854775807 ≤ a) (h1 : a ≤ 9223372036854775807) : spec_l03Size.f a = some (a.natAbs : Int) := by
  unfold spec_l03Size.f
  split
  · rw [wrap64_id (by omega) (by omega)]; congr 1; omega
  · congr 1; omega
theorem mx_abs {a : Int} (h0 : -9223372036854775807 ≤ a) (h1 : a ≤ 9223372036854775807) : mx a (wrap64 (-a)) = (a.natAbs : Int) := by
  unfold mx; rw [wrap64_id (by omega) (by omega)]; split <;> omega
theorem tmod_nat (m n : Nat) : Int.tmod (m : Int) (n : Int) = ((m % n : Nat) : Int) := by
  rw [Int.tmod_eq_emod_of_nonneg (by omega)]; exact (Int.natCast_emod m n).symm
theorem specGcd_loop (n : Nat) : ∀ m : Nat, Ev (fun k => spec_l03Common.l0 k (m : Int) (n : Int)) (Nat.gcd m n : Int) := by
  induction n using Nat.strongRecOn with
  | _ n ih =>
    intro m
    refine Ev.step (fun k => by rw [spec_l03Common.l0]) ?_
    by_cases c : n = 0
    · subst c
      refine Ev.congr (fun k => if_pos rfl) ?_
      rw [Nat.gcd_zero_right]; exact Ev.now _
    · refine Ev.congr (fun k => if_neg (by omega)) ?_
      rw [tmod_nat, show Nat.gcd m n = Nat.gcd n (m % n) by rw [Nat.gcd_comm, Nat.gcd_rec, Nat.gcd_comm]]
      exact ih (m % n) (Nat.mod_lt _ (by omega)) n
theorem specGcd_ev {a b : Int} (ha : -9223372036854775807 ≤ a ∧ a ≤ 9223372036854775807) (hb : -9223372036854775807 ≤ b ∧ b ≤ 9223372036854775807) : Ev (fun k => spec_l03Common.f k a b) (Int.gcd a b : Int) := by
  refine Ev.congr (fun k => by unfold spec_l03Common.f; rfl) ?_
  rw [size_is ha.1 ha.2, size_is hb.1 hb.2]
  simp only [Option.bind_some]
  exact specGcd_loop b.natAbs a.natAbs
/-- Whether a ratio is valid. -/
def ratioOk (p q : Int) : Bool := decide (1 ≤ q ∧ q ≤ 2147483648) && (decide (-2147483648 ≤ p ∧ p ≤ 2147483648) && ((Int.gcd p q : Int) == 1))
theorem specRatio_ev (p q : Int) : Ev (fun k => spec_l03Ratio.f k p q) (ratioOk p q) := by
  refine Ev.congr (fun k => by unfold spec_l03Ratio.f; rfl) ?_
  rw [l00In_some, l00In_some]; simp only [Option.bind_some]
  unfold ratioOk
  by_cases c1 : 1 ≤ q ∧ q ≤ 2147483648
  · refine Ev.congr (fun k => if_pos (by simp [c1])) ?_
    rw [decide_eq_true c1, Bool.true_and]
    by_cases c2 : -2147483648 ≤ p ∧ p ≤ 2147483648
    · refine Ev.congr (fun k => if_pos (by simp [c2])) ?_
      rw [decide_eq_true c2, Bool.true_and]
      exact Ev.bind (specGcd_ev (by omega) (by omega)) (Ev.now _)
    · refine Ev.congr (fun k => if_neg (by simp; omega)) ?_
      rw [decide_eq_false c2, Bool.false_and]; exact Ev.now _
  · refine Ev.congr (fun k => if_neg (by simp; omega)) ?_
    rw [decide_eq_false c1, Bool.false_and]; exact Ev.now _
theorem ratioOk_is {p q : Int} (h : ratioOk p q = true) : (1 ≤ q ∧ q ≤ 2147483648) ∧ (-2147483648 ≤ p ∧ p ≤ 2147483648) ∧ Int.gcd p q = 1 := by
  unfold ratioOk at h
  simp only [Bool.and_eq_true, decide_eq_true_iff, beq_iff_eq] at h
  exact ⟨h.1, h.2.1, by omega⟩
theorem implGcd_in (n : Nat) : ∀ (m : Nat) (xs : List Int) (len i : Int) (r : Int), Ev (fun k => impl_common.l0 k (Nat.gcd m n : Int) xs len (wrap64 (i + 1))) r → Ev (fun k => impl_common.l1 k (m : Int) (n : Int) xs len i) r := by
  induction n using Nat.strongRecOn with
  | _ n ih =>
    intro m xs len i r h
    refine Ev.step (fun k => by rw [impl_common.l1]) ?_
    by_cases c : n = 0
    · subst c
      rw [Nat.gcd_zero_right] at h
      exact Ev.congr (fun k => if_pos rfl) h
    · refine Ev.congr (fun k => if_neg (by omega)) ?_
      rw [tmod_nat]
      refine ih (m % n) (Nat.mod_lt _ (by omega)) n xs len i r ?_
      rw [show Nat.gcd n (m % n) = Nat.gcd m n by rw [Nat.gcd_comm, ← Nat.gcd_rec, Nat.gcd_comm]]
      exact h
theorem implGcd_out (xs : List Int) (hn : xs.length ≤ 9) (hx : ∀ j : Nat, j < xs.length → -9223372036854775807 ≤ rd xs j ∧ rd xs j ≤ 9223372036854775807) (i : Nat) (hi : i < xs.length) (m : Nat) (r : Int) (h : Ev (fun k => impl_common.l0 k (Nat.gcd m (rd xs i).natAbs : Int) xs (xs.length : Int) ((i + 1 : Nat) : Int)) r) :
    Ev (fun k => impl_common.l0 k (m : Int) xs (xs.length : Int) (i : Int)) r := by
  refine Ev.step (fun k => by rw [impl_common.l0]) (Ev.congr (fun k => if_pos (by omega)) (Ev.congr (fun k => if_pos (by omega)) (Ev.congr (fun k => if_pos (by omega)) ?_)))
  rw [mx_abs (hx i hi).1 (hx i hi).2]
  refine implGcd_in _ _ _ _ _ _ ?_
  rw [wrap64_id (by omega) (by omega)]
  exact h
theorem implGcd_ev {a b : Int} (ha : -9223372036854775807 ≤ a ∧ a ≤ 9223372036854775807) (hb : -9223372036854775807 ≤ b ∧ b ≤ 9223372036854775807) : Ev (fun k => impl_common.f k [a, b]) (Int.gcd a b : Int) := by
  refine Ev.congr (fun k => by unfold impl_common.f; rfl) ?_
  have hx : ∀ j : Nat, j < [a, b].length → -9223372036854775807 ≤ rd [a, b] j ∧ rd [a, b] j ≤ 9223372036854775807 := by
    intro j hj
    have : j = 0 ∨ j = 1 := by simp at hj; omega
    rcases this with rfl | rfl
    · exact ha
    · exact hb
  refine implGcd_out [a, b] (by simp) hx 0 (by simp) 0 _ (implGcd_out [a, b] (by simp) hx 1 (by simp) _ _ ?_)
  refine Ev.step (fun k => by rw [impl_common.l0]) (Ev.congr (fun k => if_neg (by simp)) ?_)
  rw [Nat.gcd_zero_left]
  exact Ev.now _
theorem implRatio_ev (p q : Int) : Ev (fun k => impl_ValidRatio.f k p q) (ratioOk p q) := by
  refine Ev.congr (fun k => by unfold impl_ValidRatio.f; rfl) ?_
  rw [within_some, within_some]; simp only [Option.bind_some]
  unfold ratioOk
  by_cases c1 : 1 ≤ q ∧ q ≤ 2147483648
  · refine Ev.congr (fun k => if_pos (by simp [c1])) ?_
    rw [decide_eq_true c1, Bool.true_and]
    by_cases c2 : -2147483648 ≤ p ∧ p ≤ 2147483648
    · refine Ev.congr (fun k => if_pos (by simp [c2])) ?_
      rw [decide_eq_true c2, Bool.true_and]
      exact Ev.bind (implGcd_ev (by omega) (by omega)) (Ev.now _)
    · refine Ev.congr (fun k => if_neg (by simp; omega)) ?_
      rw [decide_eq_false c2, Bool.false_and]; exact Ev.now _
  · refine Ev.congr (fun k => if_neg (by simp; omega)) ?_
    rw [decide_eq_false c1, Bool.false_and]; exact Ev.now _
theorem specMake_one {p q : Int} (hq : 1 ≤ q) (hg : Int.gcd p q = 1) (hp : -4611686018427387904 ≤ p ∧ p ≤ 4611686018427387904) (hq2 : q ≤ 4611686018427387904) : Ev (fun k => spec_l03Make.f k p q) (if ratioOk p q = true then (p, q, 0) else (0, 0, 3)) := by
  refine Ev.congr (fun k => by unfold spec_l03Make.f; rfl) (Ev.bind (specGcd_ev (by omega) (by omega)) ?_)
  rw [hg]
  refine Ev.congr (fun k => if_neg (by omega)) (Ev.congr (fun k => if_neg (by decide)) ?_)
  rw [show ((1 : Nat) : Int) = 1 from rfl, Int.tdiv_one, Int.tdiv_one, wrap64_id (n := p) (by omega) (by omega), wrap64_id (n := q) (by omega) (by omega)]
  refine Ev.bind (specRatio_ev p q) ?_
  cases ratioOk p q <;> exact Ev.now _
theorem floor_same (a b : Int) : spec_l04Floor.f a b = impl_floor.f a b := rfl
theorem floor_bound {a b : Int} (hb : 0 < b) (h0 : -4611686018427387904 ≤ a) (h1 : a ≤ 4611686018427387904) : -4611686018427387904 ≤ a / b ∧ a / b ≤ 4611686018427387904 := by
  rcases Int.le_total 0 a with c | c
  · have := Int.ediv_nonneg c (Int.le_of_lt hb)
    have := Int.ediv_le_self b c
    omega
  · have h5 : a / b ≤ 0 := by
      have := Int.ediv_le_ediv hb c
      simpa using this
    have h6 := Int.emod_add_mul_ediv a b
    have h7 := Int.emod_lt_of_pos a hb
    have h8 := Int.emod_nonneg a (b := b) (by omega)
    have h9 : b * (a / b) ≤ 1 * (a / b) := Int.mul_le_mul_of_nonpos_right (by omega) h5
    refine ⟨?_, by omega⟩
    by_cases z : a / b = 0
    · omega
    · have h10 : (b - 1) * (a / b + 1) ≤ 0 := Int.mul_nonpos_of_nonneg_of_nonpos (by omega) (by omega)
      have h11 : (b - 1) * (a / b + 1) = b * (a / b) + b - a / b - 1 := by grind
      omega
/-- The greatest integer that is at most a / b, b being greater than 0. -/
theorem floor_is {a b : Int} (hb : 0 < b) (h0 : -4611686018427387904 ≤ a) (h1 : a ≤ 4611686018427387904) : impl_floor.f a b = some (a / b) := by
  unfold impl_floor.f
  rw [if_neg (by omega)]
  have hdm := Int.mul_tdiv_add_tmod a b
  have h3 := floor_bound hb h0 h1
  have key : (Int.tmod a b = 0 → Int.tdiv a b = a / b) ∧ (Int.tmod a b ≠ 0 → 0 ≤ a → Int.tdiv a b = a / b) ∧ (Int.tmod a b ≠ 0 → a < 0 → Int.tdiv a b - 1 = a / b) := by
    refine ⟨fun h => ?_, fun _ h => Int.tdiv_eq_ediv_of_nonneg h, fun h hn => ?_⟩
    · rw [h, Int.add_zero] at hdm
      have : b ∣ a := ⟨_, hdm.symm⟩
      exact Int.tdiv_eq_ediv_of_dvd this
    · have hnd : ¬ b ∣ a := fun hd => h (Int.tmod_eq_zero_of_dvd hd)
      rw [Int.tdiv_eq_ediv]
      have hs : Int.sign b = 1 := Int.sign_eq_one_of_pos hb
      rw [hs]
      split <;> omega
  by_cases c : Int.tmod a b = 0
  · rw [if_pos c, key.1 c, wrap64_id (by omega) (by omega)]
  · rw [if_neg c]
    by_cases hn : a < 0
    · have := key.2.2 c hn
      rw [if_pos (by simp [hn]; omega), wrap64_id (n := Int.tdiv a b) (by omega) (by omega), wrap64_id (by omega) (by omega), this]
    · rw [if_neg (by simp [hn]; omega), key.2.1 c (by omega), wrap64_id (by omega) (by omega)]
/-- Of all ratios on one side with a small divisor, the one that has a neighbour across is the nearest, and the first one that is. -/
theorem side_best {a Q bs qs c e most : Int} (hdet : bs * e - c * qs = 1) (he : 1 ≤ e) (hc : c * Q ≤ a * e) (hm : most < qs + e) (hQ : 1 ≤ Q) (hqs : 1 ≤ qs) {b q : Int} (h1 : 1 ≤ q) (h2 : q ≤ most) (h3 : a * q < b * Q) :
    (bs * Q - a * qs) * q ≤ (b * Q - a * q) * qs ∧ ((bs * Q - a * qs) * q = (b * Q - a * q) * qs → qs ≤ q) := by
  have hmpos : 1 ≤ b * e - c * q := by
    have e1 : (a * q + 1) * e ≤ (b * Q) * e := Int.mul_le_mul_of_nonneg_right (by omega) (by omega)
    have e2 : (c * Q) * q ≤ (a * e) * q := Int.mul_le_mul_of_nonneg_right hc (by omega)
    have e3 : Q * (b * e - c * q) = (b * Q) * e - (c * Q) * q := by grind
    have e4 : (a * q + 1) * e = (a * e) * q + e := by grind
    by_cases z : 1 ≤ b * e - c * q
    · exact z
    · have := Int.mul_nonpos_of_nonneg_of_nonpos (a := Q) (b := b * e - c * q) (by omega) (by omega)
      omega
  have hq : q = (b * e - c * q) * qs + (bs * q - b * qs) * e := by
    have : (b * e - c * q) * qs + (bs * q - b * qs) * e = q * (bs * e - c * qs) := by grind
    rw [this, hdet]; omega
  have hn : bs * q - b * qs ≤ 0 := by
    by_cases z : bs * q - b * qs ≤ 0
    · exact z
    · have e1 : 1 * qs ≤ (b * e - c * q) * qs := Int.mul_le_mul_of_nonneg_right hmpos (by omega)
      have e2 : 1 * e ≤ (bs * q - b * qs) * e := Int.mul_le_mul_of_nonneg_right (by omega) (by omega)
      omega
  have hdiff : (b * Q - a * q) * qs - (bs * Q - a * qs) * q = Q * (b * qs - bs * q) := by grind
  have hnn := Int.mul_nonneg (a := Q) (b := b * qs - bs * q) (by omega) (by omega)
  refine ⟨by omega, fun heq => ?_⟩
  have hz : Q * (b * qs - bs * q) = 0 := by omega
  have hz2 : b * qs - bs * q = 0 := by
    rcases Int.mul_eq_zero.1 hz with h | h
    · omega
    · exact h
  have e1 : 1 * qs ≤ (b * e - c * q) * qs := Int.mul_le_mul_of_nonneg_right hmpos (by omega)
  rw [show bs * q - b * qs = 0 by omega, Int.zero_mul] at hq
  omega
/-- The nearest ratio above: (bs, qs), with a neighbour (c, e) across. -/
structure Near (a Q most bs qs : Int) : Prop where
  best : ∀ b q : Int, 1 ≤ q → q ≤ most → a * q < b * Q → (bs * Q - a * qs) * q ≤ (b * Q - a * q) * qs ∧ ((bs * Q - a * qs) * q = (b * Q - a * q) * qs → qs ≤ q)
  up : a * qs < bs * Q
  lo : 1 ≤ qs
  hi : qs ≤ most
  one : Int.gcd bs qs = 1
theorem near_of {a Q bs qs c e most : Int} (hdet : bs * e - c * qs = 1) (he : 1 ≤ e) (hc : c * Q ≤ a * e) (hs : a * qs < bs * Q) (hm : most < qs + e) (hQ : 1 ≤ Q) (hqs : 1 ≤ qs) (hq2 : qs ≤ most) : Near a Q most bs qs := by
  refine ⟨fun b q h1 h2 h3 => side_best hdet he hc hm hQ hqs h1 h2 h3, hs, hqs, hq2, ?_⟩
  have h1 : ((Int.gcd bs qs : Nat) : Int) ∣ 1 := by
    rw [← hdet]
    exact Int.dvd_sub (Int.dvd_mul_of_dvd_left (Int.gcd_dvd_left ..)) (Int.dvd_mul_of_dvd_right (Int.gcd_dvd_right ..))
  have h2 := Int.le_of_dvd (by decide) h1
  have h3 : Int.gcd bs qs ≠ 0 := by
    intro z
    rw [z] at h1
    have := Int.zero_dvd.1 h1
    omega
  omega
/-- What is above a * q / Q, and how far. -/
theorem above (a q : Int) {Q : Int} (hQ : 1 ≤ Q) : 1 ≤ (a * q / Q + 1) * Q - a * q ∧ (a * q / Q + 1) * Q - a * q ≤ Q ∧ (a * q / Q + 1) * Q = Q * (a * q / Q) + Q := by
  have h1 := Int.emod_add_mul_ediv (a * q) Q
  have h2 := Int.emod_nonneg (a * q) (b := Q) (by omega)
  have h3 := Int.emod_lt_of_pos (a * q) (b := Q) (by omega)
  have h4 : (a * q / Q + 1) * Q = Q * (a * q / Q) + Q := by grind
  omega
theorem near_least {a Q most bs qs : Int} (hQ : 1 ≤ Q) (h : Near a Q most bs qs) : a * qs / Q + 1 = bs := by
  have h1 := above a qs hQ
  have h2 := (h.best (a * qs / Q + 1) qs h.lo h.hi (by omega)).1
  have h3 : bs * Q - a * qs ≤ (a * qs / Q + 1) * Q - a * qs := Int.le_of_mul_le_mul_right h2 (by have := h.lo; omega)
  have h4 : bs * Q ≤ (a * qs / Q + 1) * Q := by omega
  have h5 : bs ≤ a * qs / Q + 1 := Int.le_of_mul_le_mul_right h4 (by omega)
  have h6 : a * qs / Q < bs := Int.ediv_lt_of_lt_mul (by omega) h.up
  omega
/-- A ratio in lowest terms, made. -/
def mk1 (p q : Int) : Int × Int × Int := if ratioOk p q = true then (p, q, 0) else (0, 0, 3)
theorem mul_small {P q : Int} (hP : -2147483648 ≤ P ∧ P ≤ 2147483648) (hq : 0 ≤ q ∧ q ≤ 100000) : -214748364800000 ≤ P * q ∧ P * q ≤ 214748364800000 := by
  have h1 : P * q ≤ 2147483648 * q := Int.mul_le_mul_of_nonneg_right hP.2 hq.1
  have h2 : -2147483648 * q ≤ P * q := Int.mul_le_mul_of_nonneg_right hP.1 hq.1
  omega
theorem floor_small {a q Q : Int} (h2 : -214748364800000 ≤ a * q ∧ a * q ≤ 214748364800000) (hQ : 1 ≤ Q) : a * q / Q ≤ 214748364800000 ∧ -214748364800001 ≤ a * q / Q := by
  have h1 := above a q hQ
  have e3 := Int.ediv_le_ediv (a := a * q) (b := 214748364800000) (c := Q) (by omega) (by omega)
  have e4 := Int.ediv_le_self (a := 214748364800000) Q (by omega)
  refine ⟨by omega, ?_⟩
  by_cases z : -214748364800001 ≤ a * q / Q
  · exact z
  · have e5 : Q * (a * q / Q + 1) ≤ 1 * (a * q / Q + 1) := Int.mul_le_mul_of_nonpos_right (by omega) (by omega)
    have e6 : Q * (a * q / Q + 1) = (a * q / Q + 1) * Q := Int.mul_comm ..
    omega
/-- The state of the search ahead of the one that is found. -/
def Ahead (u qs best bq Q : Int) : Prop := best < 0 ∨ ((0 ≤ best ∧ best ≤ Q) ∧ (1 ≤ bq ∧ bq ≤ 100000) ∧ u * bq < best * qs)
/-- What holds of the two bounds, between which p / Q lies. -/
structure Apart (most p Q lp lq hp hq : Int) : Prop where
  det : hp * lq - lp * hq = 1
  a : 1 ≤ p * lq - lp * Q
  b : 1 ≤ hp * Q - p * hq
  l1 : 1 ≤ lq ∧ lq ≤ most
  h1 : 1 ≤ hq ∧ hq ≤ most
  l2 : 0 ≤ lp ∧ lp ≤ lq
  h2 : 0 ≤ hp ∧ hp ≤ hq
theorem Apart.sum {most p Q lp lq hp hq : Int} (h : Apart most p Q lp lq hp hq) : (p * lq - lp * Q) * hq + (hp * Q - p * hq) * lq = Q := by
  have : (p * lq - lp * Q) * hq + (hp * Q - p * hq) * lq = Q * (hp * lq - lp * hq) := by grind
  rw [this, h.det, Int.mul_one]
theorem Apart.small {most p Q lp lq hp hq : Int} (h : Apart most p Q lp lq hp hq) : p * lq - lp * Q ≤ Q ∧ hp * Q - p * hq ≤ Q := by
  have h1 := h.sum
  have h2 := h.a
  have h3 := h.b
  have h4 := h.l1
  have h5 := h.h1
  have e1 : (p * lq - lp * Q) * 1 ≤ (p * lq - lp * Q) * hq := Int.mul_le_mul_of_nonneg_left (by omega) (by omega)
  have e2 : (hp * Q - p * hq) * 1 ≤ (hp * Q - p * hq) * lq := Int.mul_le_mul_of_nonneg_left (by omega) (by omega)
  have e3 := Int.mul_nonneg (a := hp * Q - p * hq) (b := lq) (by omega) (by omega)
  have e4 := Int.mul_nonneg (a := p * lq - lp * Q) (b := hq) (by omega) (by omega)
  omega
/-- No multiple of p by a small number is one of Q. -/
theorem coprime_apart {p Q q z : Int} (hg : Int.gcd p Q = 1) (h1 : 1 ≤ q) (h2 : q < Q) : p * q ≠ z * Q := by
  intro h
  have hd : Q ∣ p * q := ⟨z, by rw [h, Int.mul_comm]⟩
  have hd2 : Q ∣ q := by
    rw [← Int.natAbs_dvd_natAbs] at hd ⊢
    rw [Int.natAbs_mul] at hd
    exact Nat.Coprime.dvd_of_dvd_mul_left (k := Q.natAbs) (n := q.natAbs) (m := p.natAbs) (by rw [Nat.coprime_comm]; exact hg) hd
  have := Int.le_of_dvd (by omega) hd2
  omega
/-- The lower bound goes up. -/
theorem Apart.go_up {most p Q lp lq hp hq u : Int} (h : Apart most p Q lp lq hp hq) (hg : Int.gcd p Q = 1) (hm : most < Q) (h0 : 0 ≤ u) (hu1 : u * hq ≤ most - lq) (hu2 : u * (hp * Q - p * hq) ≤ p * lq - lp * Q) : Apart most p Q (lp + u * hp) (lq + u * hq) hp hq := by
  have h1 := h.l1
  have h2 := h.h1
  have h3 := h.l2
  have h4 := h.h2
  have e1 := Int.mul_nonneg (a := u) (b := hq) h0 (by omega)
  have e2 := Int.mul_nonneg (a := u) (b := hp) h0 (by omega)
  have e3 : u * hp ≤ u * hq := Int.mul_le_mul_of_nonneg_left (by omega) h0
  have e4 : p * (lq + u * hq) - (lp + u * hp) * Q = (p * lq - lp * Q) - u * (hp * Q - p * hq) := by grind
  have e5 := coprime_apart (z := lp + u * hp) hg (q := lq + u * hq) (by omega) (by omega)
  refine ⟨?_, by omega, h.b, by omega, by omega, by omega, by omega⟩
  have := h.det
  have e6 : hp * (lq + u * hq) - (lp + u * hp) * hq = hp * lq - lp * hq := by grind
  omega
/-- The upper bound goes down. -/
theorem Apart.go_down {most p Q lp lq hp hq u : Int} (h : Apart most p Q lp lq hp hq) (hg : Int.gcd p Q = 1) (hm : most < Q) (h0 : 0 ≤ u) (hu1 : u * lq ≤ most - hq) (hu2 : u * (p * lq - lp * Q) ≤ hp * Q - p * hq) : Apart most p Q lp lq (hp + u * lp) (hq + u * lq) := by
  have h1 := h.l1
  have h2 := h.h1
  have h3 := h.l2
  have h4 := h.h2
  have e1 := Int.mul_nonneg (a := u) (b := lq) h0 (by omega)
  have e2 := Int.mul_nonneg (a := u) (b := lp) h0 (by omega)
  have e3 : u * lp ≤ u * lq := Int.mul_le_mul_of_nonneg_left (by omega) h0
  have e4 : (hp + u * lp) * Q - p * (hq + u * lq) = (hp * Q - p * hq) - u * (p * lq - lp * Q) := by grind
  have e5 := coprime_apart (z := hp + u * lp) hg (q := hq + u * lq) (by omega) (by omega)
  refine ⟨?_, h.a, by omega, by omega, by omega, by omega, by omega⟩
  have := h.det
  have e6 : (hp + u * lp) * lq - lp * (hq + u * lq) = hp * lq - lp * hq := by grind
  omega
theorem quot {x y : Int} (hx : 0 ≤ x) (hy : 1 ≤ y) : 0 ≤ x / y ∧ x / y ≤ x ∧ (x / y) * y ≤ x ∧ (x / y = 0 → x < y) := by
  have h1 := Int.emod_add_mul_ediv x y
  have h2 := Int.emod_nonneg x (b := y) (by omega)
  have h3 := Int.emod_lt_of_pos x (b := y) (by omega)
  have h4 := Int.ediv_nonneg hx (by omega : 0 ≤ y)
  have h5 := Int.ediv_le_self y hx
  have h6 : x / y * y = y * (x / y) := Int.mul_comm ..
  refine ⟨h4, h5, by omega, fun z => ?_⟩
  rw [z, Int.mul_zero] at h1
  omega
theorem mn_le (a b : Int) : mn a b ≤ a ∧ mn a b ≤ b ∧ (mn a b = a ∨ mn a b = b) := by
  unfold mn; split <;> omega
/-- How many steps can be made. -/
theorem steps {x y z v : Int} (hx : 0 ≤ x) (hy : 1 ≤ y) (hz : 0 ≤ z) (hv : 1 ≤ v) : 0 ≤ mn (x / y) (z / v) ∧ mn (x / y) (z / v) ≤ x ∧ mn (x / y) (z / v) * y ≤ x ∧ mn (x / y) (z / v) * v ≤ z ∧ (mn (x / y) (z / v) = 0 → x < y ∨ z < v) := by
  have h1 := quot hx hy
  have h2 := quot hz hv
  have h3 := mn_le (x / y) (z / v)
  have e1 : mn (x / y) (z / v) * y ≤ (x / y) * y := Int.mul_le_mul_of_nonneg_right h3.1 (by omega)
  have e2 : mn (x / y) (z / v) * v ≤ (z / v) * v := Int.mul_le_mul_of_nonneg_right h3.2.1 (by omega)
  refine ⟨by omega, by omega, by omega, by omega, fun w => ?_⟩
  rcases h3.2.2 with c | c
  · exact .inl (h1.2.2.2 (by omega))
  · exact .inr (h2.2.2.2 (by omega))
def upOf (most p Q lp lq hp hq : Int) : Int := mn ((most - lq) / hq) ((p * lq - lp * Q) / (hp * Q - p * hq))
def downOf (most p Q lp lq hp hq : Int) : Int := mn ((most - hq) / lq) ((hp * Q - p * hq) / (p * lq - lp * Q))
theorem prod_small {x y : Int} (hx : 0 ≤ x ∧ x ≤ 2147483648) (hy : 0 ≤ y ∧ y ≤ 2147483648) : 0 ≤ x * y ∧ x * y ≤ 4611686018427387904 := by
  have h1 := Int.mul_nonneg hx.1 hy.1
  have h2 : x * y ≤ 2147483648 * 2147483648 := Int.mul_le_mul hx.2 hy.2 hy.1 (by omega)
  omega
theorem besides_step {most wh p P Q lp lq hp hq : Int} (h : Apart most p Q lp lq hp hq) (hg : Int.gcd p Q = 1) (hm : most < Q) (hm2 : most ≤ 100000) (hp0 : 0 ≤ p ∧ p < Q) (hQ : Q ≤ 2147483648) (hw : -2147483648 ≤ wh ∧ wh ≤ 2147483648) (r : Int × Int × Int × Int)
    (hr : ∀ u d lp2 lq2 hp2 hq2 : Int, u = upOf most p Q lp lq hp hq → lp2 = lp + u * hp → lq2 = lq + u * hq → Apart most p Q lp2 lq2 hp hq → d = downOf most p Q lp2 lq2 hp hq → hp2 = hp + d * lp2 → hq2 = hq + d * lq2 → Apart most p Q lp2 lq2 hp2 hq2 →
      Ev (fun k => if u = 0 then (if d = 0 then some (lp2 + wh * lq2, lq2, hp2 + wh * hq2, hq2) else impl_besides.l0 k most wh p P Q lp2 lq2 hp2 hq2) else impl_besides.l0 k most wh p P Q lp2 lq2 hp2 hq2) r) :
    Ev (fun k => impl_besides.l0 k most wh p P Q lp lq hp hq) r := by
  have hl1 := h.l1
  have hh1 := h.h1
  have hl2 := h.l2
  have hh2 := h.h2
  have ha := h.a
  have hb := h.b
  have hs := h.small
  have hU := steps (x := most - lq) (y := hq) (z := p * lq - lp * Q) (v := hp * Q - p * hq) (by omega) (by omega) (by omega) (by omega)
  have h2 := h.go_up hg hm hU.1 hU.2.2.1 hU.2.2.2.1
  have hD := steps (x := most - hq) (y := lq + upOf most p Q lp lq hp hq * hq) (z := hp * Q - p * hq) (v := p * (lq + upOf most p Q lp lq hp hq * hq) - (lp + upOf most p Q lp lq hp hq * hp) * Q) (by omega) h2.l1.1 (by omega) h2.a
  have h3 := h2.go_down hg hm hD.1 hD.2.2.1 hD.2.2.2.1
  have hr2 := hr _ _ _ _ _ _ rfl rfl rfl h2 rfl rfl rfl h3
  refine Ev.step (fun k => by rw [impl_besides.l0]) ?_
  have m1 := prod_small (x := p) (y := lq) (by omega) (by omega)
  have m2 := prod_small (x := lp) (y := Q) (by omega) (by omega)
  have m3 := prod_small (x := hp) (y := Q) (by omega) (by omega)
  have m4 := prod_small (x := p) (y := hq) (by omega) (by omega)
  rw [wrap64_id (n := most - lq) (by omega) (by omega), wrap64_id (n := p * lq) (by omega) (by omega), wrap64_id (n := lp * Q) (by omega) (by omega), wrap64_id (n := p * lq - lp * Q) (by omega) (by omega), wrap64_id (n := hp * Q) (by omega) (by omega), wrap64_id (n := p * hq) (by omega) (by omega), wrap64_id (n := hp * Q - p * hq) (by omega) (by omega)]
  rw [Int.tdiv_eq_ediv_of_nonneg (a := most - lq) (by omega), Int.tdiv_eq_ediv_of_nonneg (a := p * lq - lp * Q) (by omega)]
  have q1 := quot (x := most - lq) (y := hq) (by omega) (by omega)
  have q2 := quot (x := p * lq - lp * Q) (y := hp * Q - p * hq) (by omega) (by omega)
  rw [wrap64_id (n := (most - lq) / hq) (by omega) (by omega), wrap64_id (n := (p * lq - lp * Q) / (hp * Q - p * hq)) (by omega) (by omega)]
  obtain ⟨u, hu⟩ : ∃ u, u = upOf most p Q lp lq hp hq := ⟨_, rfl⟩
  rw [show mn ((most - lq) / hq) ((p * lq - lp * Q) / (hp * Q - p * hq)) = u from hu.symm]
  rw [← hu] at hr2 h3 hD
  rw [show mn ((most - lq) / hq) ((p * lq - lp * Q) / (hp * Q - p * hq)) = u from hu.symm] at hU h2
  have k1 := prod_small (x := u) (y := hq) (by omega) (by omega)
  have k2 := prod_small (x := u) (y := hp) (by omega) (by omega)
  have g1 := h2.l1
  have g2 := h2.l2
  have g3 := h2.a
  have g4 := h2.small
  rw [wrap64_id (n := u * hq) (by omega) (by omega), wrap64_id (n := lq + u * hq) (by omega) (by omega), wrap64_id (n := u * hp) (by omega) (by omega), wrap64_id (n := lp + u * hp) (by omega) (by omega)]
  obtain ⟨lq2, hlq2⟩ : ∃ z, z = lq + u * hq := ⟨_, rfl⟩
  obtain ⟨lp2, hlp2⟩ : ∃ z, z = lp + u * hp := ⟨_, rfl⟩
  rw [← hlq2, ← hlp2]
  rw [← hlq2] at g1
  rw [← hlq2, ← hlp2] at hr2 h3 hD h2 g2 g3 g4
  have m5 := prod_small (x := p) (y := lq2) (by omega) (by omega)
  have m6 := prod_small (x := lp2) (y := Q) (by omega) (by omega)
  rw [wrap64_id (n := p * lq2) (by omega) (by omega), wrap64_id (n := lp2 * Q) (by omega) (by omega), wrap64_id (n := p * lq2 - lp2 * Q) (by omega) (by omega), wrap64_id (n := most - hq) (by omega) (by omega)]
  rw [Int.tdiv_eq_ediv_of_nonneg (a := most - hq) (by omega), Int.tdiv_eq_ediv_of_nonneg (a := hp * Q - p * hq) (by omega)]
  have q3 := quot (x := most - hq) (y := lq2) (by omega) (by omega)
  have q4 := quot (x := hp * Q - p * hq) (y := p * lq2 - lp2 * Q) (by omega) (by omega)
  rw [wrap64_id (n := (most - hq) / lq2) (by omega) (by omega), wrap64_id (n := (hp * Q - p * hq) / (p * lq2 - lp2 * Q)) (by omega) (by omega)]
  obtain ⟨d, hd⟩ : ∃ d, d = downOf most p Q lp2 lq2 hp hq := ⟨_, rfl⟩
  rw [show mn ((most - hq) / lq2) ((hp * Q - p * hq) / (p * lq2 - lp2 * Q)) = d from hd.symm]
  rw [← hd] at hr2
  rw [show mn ((most - hq) / lq2) ((hp * Q - p * hq) / (p * lq2 - lp2 * Q)) = d from hd.symm] at hD h3
  have k3 := prod_small (x := d) (y := lq2) (by omega) (by omega)
  have k4 := prod_small (x := d) (y := lp2) (by omega) (by omega)
  have g5 := h3.h1
  have g6 := h3.h2
  have aux : ∀ y : Int, 0 ≤ y ∧ y ≤ 100000 → -214748364800000 ≤ wh * y ∧ wh * y ≤ 214748364800000 := fun y hy => mul_small hw hy
  have k5 := aux lq2 (by omega)
  have k6 := aux (hq + d * lq2) (by omega)
  rw [wrap64_id (n := d * lq2) (by omega) (by omega), wrap64_id (n := hq + d * lq2) (by omega) (by omega), wrap64_id (n := d * lp2) (by omega) (by omega), wrap64_id (n := hp + d * lp2) (by omega) (by omega), wrap64_id (n := wh * lq2) (by omega) (by omega), wrap64_id (n := wh * (hq + d * lq2)) (by omega) (by omega), wrap64_id (n := lp2 + wh * lq2) (by omega) (by omega), wrap64_id (n := hp + d * lp2 + wh * (hq + d * lq2)) (by omega) (by omega)]
  exact Ev.congr (fun k => if_neg (by omega)) (Ev.congr (fun k => if_neg (by omega)) (Ev.congr (fun k => if_neg (by omega)) (Ev.congr (fun k => if_neg (by omega)) hr2)))
theorem besides_loop {most wh p P Q : Int} (hg : Int.gcd p Q = 1) (hm : most < Q) (hm2 : most ≤ 100000) (hp0 : 0 ≤ p ∧ p < Q) (hQ : Q ≤ 2147483648) (hw : -2147483648 ≤ wh ∧ wh ≤ 2147483648) (n : Nat) :
    ∀ lp lq hp hq : Int, 2 * most - lq - hq < n → Apart most p Q lp lq hp hq → ∃ a b c d : Int, Ev (fun k => impl_besides.l0 k most wh p P Q lp lq hp hq) (a + wh * b, b, c + wh * d, d) ∧ Apart most p Q a b c d ∧ most < b + d := by
  induction n with
  | zero =>
    intro lp lq hp hq h1 h
    have := h.l1
    have := h.h1
    omega
  | succ n ih =>
    intro lp lq hp hq h1 h
    have hl1 := h.l1
    have hh1 := h.h1
    have ha := h.a
    have hb := h.b
    have hU := steps (x := most - lq) (y := hq) (z := p * lq - lp * Q) (v := hp * Q - p * hq) (by omega) (by omega) (by omega) (by omega)
    have h2 := h.go_up hg hm hU.1 hU.2.2.1 hU.2.2.2.1
    have hl2 := h2.l1
    have ha2 := h2.a
    have hD := steps (x := most - hq) (y := lq + upOf most p Q lp lq hp hq * hq) (z := hp * Q - p * hq) (v := p * (lq + upOf most p Q lp lq hp hq * hq) - (lp + upOf most p Q lp lq hp hq * hp) * Q) (by omega) hl2.1 (by omega) ha2
    have h3 := h2.go_down hg hm hD.1 hD.2.2.1 hD.2.2.2.1
    obtain ⟨u, hu⟩ : ∃ u, u = upOf most p Q lp lq hp hq := ⟨_, rfl⟩
    rw [show mn ((most - lq) / hq) ((p * lq - lp * Q) / (hp * Q - p * hq)) = u from hu.symm] at hU h2 hl2 ha2 h3
    rw [← hu] at hD h3
    obtain ⟨d, hd⟩ : ∃ d, d = downOf most p Q (lp + u * hp) (lq + u * hq) hp hq := ⟨_, rfl⟩
    rw [show mn ((most - hq) / (lq + u * hq)) ((hp * Q - p * hq) / (p * (lq + u * hq) - (lp + u * hp) * Q)) = d from hd.symm] at hD h3
    by_cases cu : u = 0
    · by_cases cd : d = 0
      · refine ⟨lp + u * hp, lq + u * hq, hp + d * (lp + u * hp), hq + d * (lq + u * hq), besides_step h hg hm hm2 hp0 hQ hw _ ?_, h3, ?_⟩
        · intro u' d' lp2 lq2 hp2 hq2 e1 e2 e3 _ e4 e5 e6 _
          subst e2; subst e3; subst e5; subst e6
          rw [← hu] at e1; subst e1
          rw [← hd] at e4; subst e4
          exact Ev.congr (fun k => if_pos cu) (Ev.congr (fun k => if_pos cd) (Ev.now _))
        · rw [cu, cd]
          rw [cu] at hD
          rw [cu] at hU
          simp only [Int.zero_mul, Int.add_zero] at hD hU ⊢
          have v1 := hU.2.2.2.2 trivial
          have v2 := hD.2.2.2.2 cd
          omega
      · obtain ⟨a, b, c, e, g1, g2, g3⟩ := ih _ _ _ _ (by
          have : 1 * (lq + u * hq) ≤ d * (lq + u * hq) := Int.mul_le_mul_of_nonneg_right (by omega) (by omega)
          have := h3.l1
          rw [cu] at this ⊢
          rw [cu] at hl2
          simp only [Int.zero_mul, Int.add_zero] at *
          rw [cu] at *
          simp only [Int.zero_mul, Int.add_zero] at *
          omega) h3
        refine ⟨a, b, c, e, besides_step h hg hm hm2 hp0 hQ hw _ ?_, g2, g3⟩
        intro u' d' lp2 lq2 hp2 hq2 e1 e2 e3 _ e4 e5 e6 _
        subst e2; subst e3; subst e5; subst e6
        rw [← hu] at e1; subst e1
        rw [← hd] at e4; subst e4
        exact Ev.congr (fun k => if_pos cu) (Ev.congr (fun k => if_neg cd) g1)
    · obtain ⟨a, b, c, e, g1, g2, g3⟩ := ih _ _ _ _ (by
        have z1 : 1 * hq ≤ u * hq := Int.mul_le_mul_of_nonneg_right (by omega) (by omega)
        have z2 := Int.mul_nonneg (a := d) (b := lq + u * hq) hD.1 (by omega)
        omega) h3
      refine ⟨a, b, c, e, besides_step h hg hm hm2 hp0 hQ hw _ ?_, g2, g3⟩
      intro u' d' lp2 lq2 hp2 hq2 e1 e2 e3 _ e4 e5 e6 _
      subst e2; subst e3; subst e5; subst e6
      rw [← hu] at e1; subst e1
      rw [← hd] at e4; subst e4
      exact Ev.congr (fun k => if_neg cu) g1
theorem inverse_loop {P m : Int} (hm : 1 ≤ m ∧ m ≤ 2147483648) (n : Nat) : ∀ (x y u : Int), ((x ≤ 0 ∧ 0 ≤ y ∧ (-x) * (n : Int) + y * u = m) ∨ (0 ≤ x ∧ y ≤ 0 ∧ x * (n : Int) + (-y) * u = m)) → (n : Int) < u → u ≤ m → m ∣ u - P * x → m ∣ (n : Int) - P * y → Int.gcd u n = 1 → -m ≤ x → x ≤ m →
    ∃ k : Int, Ev (fun q => impl_inverse.l0 q m x y u (n : Int)) k ∧ m ∣ P * k - 1 ∧ -m ≤ k ∧ k ≤ m := by
  induction n using Nat.strongRecOn with
  | _ n ih =>
    intro x y u hs hu hum hdu hdv hg hx0 hx1
    by_cases c : n = 0
    · subst c
      have hu1 : u = 1 := by
        rw [show ((0 : Nat) : Int) = 0 from rfl, Int.gcd_zero_right] at hg
        omega
      have h1 : m ∣ P * x - 1 := by
        have := Int.dvd_neg.2 hdu
        rwa [hu1, show -(1 - P * x) = P * x - 1 by omega] at this
      by_cases cx : x < 0
      · refine ⟨x + m, ?_, ?_, by omega, by omega⟩
        · refine Ev.step (fun q => by rw [impl_inverse.l0]) (Ev.congr (fun q => if_pos (by simp)) (Ev.congr (fun q => if_pos cx) ?_))
          rw [wrap64_id (by omega) (by omega)]; exact Ev.now _
        · have : P * (x + m) - 1 = (P * x - 1) + m * P := by grind
          rw [this]
          exact Int.dvd_add h1 (Int.dvd_mul_right ..)
      · refine ⟨x, ?_, h1, hx0, hx1⟩
        exact Ev.step (fun q => by rw [impl_inverse.l0]) (Ev.congr (fun q => if_pos (by simp)) (Ev.congr (fun q => if_neg cx) (Ev.now _)))
    · have hq := quot (x := u) (y := (n : Int)) (by omega) (by omega)
      have hmod := Int.emod_add_mul_ediv u (n : Int)
      have hm0 := Int.emod_nonneg u (b := (n : Int)) (by omega)
      have hm1 := Int.emod_lt_of_pos u (b := (n : Int)) (by omega)
      obtain ⟨w, hw⟩ : ∃ w : Nat, (w : Int) = u % (n : Int) := ⟨(u % (n : Int)).toNat, by omega⟩
      obtain ⟨t, ht⟩ : ∃ t, t = u / (n : Int) := ⟨_, rfl⟩
      rw [← ht] at hq hmod
      have hcomm : t * (n : Int) = (n : Int) * t := Int.mul_comm ..
      -- sizes
      have hy : -m ≤ y ∧ y ≤ m ∧ -m ≤ t * y ∧ t * y ≤ m := by
        rcases hs with ⟨h1, h2, h3⟩ | ⟨h1, h2, h3⟩
        · have e1 := Int.mul_nonneg (a := -x) (b := (n : Int)) (by omega) (by omega)
          have e2 : y * 1 ≤ y * u := Int.mul_le_mul_of_nonneg_left (by omega) h2
          have e3 := Int.mul_nonneg (a := t) (b := y) (by omega) h2
          have e4 : t * y ≤ y * u := by
            have : t * y ≤ u * y := Int.mul_le_mul_of_nonneg_right (by omega) h2
            rw [Int.mul_comm y u]; exact this
          omega
        · have e1 := Int.mul_nonneg (a := x) (b := (n : Int)) (by omega) (by omega)
          have e2 : (-y) * 1 ≤ (-y) * u := Int.mul_le_mul_of_nonneg_left (by omega) (by omega)
          have e3 := Int.mul_nonneg (a := t) (b := -y) (by omega) (by omega)
          have e4 : t * (-y) ≤ (-y) * u := by
            have : t * (-y) ≤ u * (-y) := Int.mul_le_mul_of_nonneg_right (by omega) (by omega)
            rw [Int.mul_comm (-y) u]; exact this
          have e5 : t * (-y) = -(t * y) := by grind
          omega
      have hw2 : (w : Int) = u - t * (n : Int) := by omega
      obtain ⟨k, h1, h2, h3, h4⟩ := ih w (by omega) y (x - t * y) (n : Int) (by
        rcases hs with ⟨h1, h2, h3⟩ | ⟨h1, h2, h3⟩
        · have e3 := Int.mul_nonneg (a := t) (b := y) (by omega) h2
          refine .inr ⟨h2, by omega, ?_⟩
          rw [hw2]; rw [← h3]; grind
        · have e3 := Int.mul_nonneg (a := t) (b := -y) (by omega) (by omega)
          have e5 : t * (-y) = -(t * y) := by grind
          refine .inl ⟨h2, by omega, ?_⟩
          rw [hw2]; rw [← h3]; grind) (by omega) (by omega) hdv (by
        have : (w : Int) - P * (x - t * y) = (u - P * x) - ((n : Int) - P * y) * t := by rw [hw2]; grind
        rw [this]
        exact Int.dvd_sub hdu (Int.dvd_mul_of_dvd_left hdv)) (by
        rw [hw, Int.gcd_comm]
        rw [← hg]
        rw [Int.gcd_comm u]
        have : u % (n : Int) = u + (n : Int) * (-(u / (n : Int))) := by
          rw [Int.mul_neg]; have := Int.emod_add_mul_ediv u (n : Int); omega
        rw [this, Int.gcd_comm, Int.gcd_add_mul_left_right]) (by omega) (by omega)
      refine ⟨k, ?_, h2, h3, h4⟩
      refine Ev.step (fun q => by rw [impl_inverse.l0]) (Ev.congr (fun q => if_neg (by omega)) ?_)
      rw [Int.tdiv_eq_ediv_of_nonneg (by omega), ← ht, wrap64_id (n := t) (by omega) (by omega), wrap64_id (n := t * y) (by omega) (by omega), wrap64_id (n := x - t * y) (by omega) (by omega), wrap64_id (n := t * (n : Int)) (by omega) (by omega), wrap64_id (n := u - t * (n : Int)) (by omega) (by omega), ← hw2]
      exact h1
theorem tmod_up {P Q : Int} (hQ : 1 ≤ Q) : P % Q = if Int.tmod P Q < 0 then Int.tmod P Q + Q else Int.tmod P Q := by
  have h1 := Int.mul_tdiv_add_tmod P Q
  have h2 := Int.emod_nonneg P (b := Q) (by omega)
  have h3 := Int.emod_lt_of_pos P (b := Q) (by omega)
  have h4 := Int.tmod_lt_of_pos P (b := Q) (by omega)
  have h5 : -Q < Int.tmod P Q := by
    rcases Int.le_total 0 P with c | c
    · have := Int.tmod_nonneg Q c; omega
    · have e := Int.neg_tmod P Q
      have := Int.tmod_lt_of_pos (-P) (b := Q) (by omega)
      omega
  have h6 := Int.emod_add_mul_ediv P Q
  have h7 : Q * (P / Q - Int.tdiv P Q) = Int.tmod P Q - P % Q := by rw [Int.mul_sub]; omega
  obtain ⟨z, hz⟩ : ∃ z, z = P / Q - Int.tdiv P Q := ⟨_, rfl⟩
  rw [← hz] at h7
  have h8 : z = 0 ∨ z = -1 := by
    by_cases c : 1 ≤ z
    · have := Int.mul_le_mul_of_nonneg_left (a := 1) (b := z) (c := Q) c (by omega); omega
    · by_cases c2 : z ≤ -2
      · have := Int.mul_le_mul_of_nonneg_left (a := z) (b := -2) (c := Q) c2 (by omega); omega
      · omega
  rcases h8 with h8 | h8 <;> rw [h8] at h7 <;> split <;> omega
theorem inverse_ev {P Q : Int} (hP : -2147483648 ≤ P ∧ P ≤ 2147483648) (hQ : 1 ≤ Q ∧ Q ≤ 2147483648) (hg : Int.gcd P Q = 1) : ∃ k : Int, Ev (fun q => impl_inverse.f q P Q) k ∧ Q ∣ P * k - 1 ∧ -Q ≤ k ∧ k ≤ Q := by
  have h1 := tmod_up (P := P) hQ.1
  have h2 := Int.emod_nonneg P (b := Q) (by omega)
  have h3 := Int.emod_lt_of_pos P (b := Q) (by omega)
  have h4 := Int.emod_add_mul_ediv P Q
  obtain ⟨n, hn⟩ : ∃ n : Nat, (n : Int) = P % Q := ⟨(P % Q).toNat, by omega⟩
  obtain ⟨k, g1, g2, g3, g4⟩ := inverse_loop hQ n (P := P) 0 1 Q (.inl ⟨by omega, by omega, by omega⟩) (by omega) (by omega) (by rw [Int.mul_zero, Int.sub_zero]; exact Int.dvd_refl _) (by
      rw [hn, show P % Q - P * 1 = Q * (-(P / Q)) by rw [Int.mul_neg]; omega]; exact Int.dvd_mul_right ..) (by
      rw [hn, show P % Q = P + Q * (-(P / Q)) by rw [Int.mul_neg]; omega, Int.gcd_add_mul_left_right, Int.gcd_comm]; exact hg) (by omega) (by omega)
  refine ⟨k, ?_, g2, g3, g4⟩
  refine Ev.congr (fun q => by unfold impl_inverse.f; rfl) (Ev.congr (fun q => if_neg (by omega)) ?_)
  by_cases c : Int.tmod P Q < 0
  · rw [if_pos c] at h1
    refine Ev.congr (fun q => if_pos c) (Ev.step (fun q => by rw [impl_inverse.j0]) ?_)
    rw [wrap64_id (by omega) (by omega), ← h1, ← hn]; exact g1
  · rw [if_neg c] at h1
    refine Ev.congr (fun q => if_neg c) (Ev.step (fun q => by rw [impl_inverse.j0]) ?_)
    rw [← h1, ← hn]; exact g1
theorem lastBelow_is {k Q most : Int} (hQ : 1 ≤ Q ∧ Q ≤ 2147483648) (hk : -2147483648 ≤ k ∧ k ≤ 2147483648) (hm : 1 ≤ most ∧ most ≤ 100000) : impl_lastBelow.f k Q most = some (most - (most - k) % Q) := by
  unfold impl_lastBelow.f
  have h1 := tmod_up (P := most - k) hQ.1
  have h2 := Int.emod_nonneg (most - k) (b := Q) (by omega)
  have h3 := Int.emod_lt_of_pos (most - k) (b := Q) (by omega)
  rw [if_neg (by omega), wrap64_id (n := most - k) (by omega) (by omega)]
  have hb : -Q ≤ Int.tmod (most - k) Q ∧ Int.tmod (most - k) Q < Q := by split at h1 <;> omega
  rw [wrap64_id (n := Int.tmod (most - k) Q + Q) (by omega) (by omega), Int.tmod_eq_emod_of_nonneg (by omega)]
  have h4 : (Int.tmod (most - k) Q + Q) % Q = (most - k) % Q := by
    rw [Int.add_emod_right]
    split at h1
    · rw [h1, ← Int.add_emod_right (Int.tmod (most - k) Q) Q, Int.emod_eq_of_lt (by omega) (by omega)]
    · rw [h1, Int.emod_eq_of_lt (by omega) (by omega)]
  rw [h4, wrap64_id (by omega) (by omega)]
theorem lastBelow_dvd {P Q k most : Int} (h : Q ∣ P * k - 1) : Q ∣ P * (most - (most - k) % Q) - 1 := by
  have h6 := Int.emod_add_mul_ediv (most - k) Q
  have : P * (most - (most - k) % Q) - 1 = (P * k - 1) + Q * (P * ((most - k) / Q)) := by
    rw [show most - (most - k) % Q = k + Q * ((most - k) / Q) by omega]; grind
  rw [this]
  exact Int.dvd_add h (Int.dvd_mul_right ..)
theorem near_own {P Q most q b : Int} (hQ : 1 ≤ Q) (h1 : b * Q - P * q = 1) (hq : 1 ≤ q ∧ q ≤ most) (h2 : most < q + Q) : Near P Q most b q :=
  near_of (c := P) (e := Q) h1 hQ (Int.le_refl _) (by omega) h2 hQ hq.1 hq.2
theorem besides_ev {P Q most : Int} (hP : -2147483648 ≤ P ∧ P ≤ 2147483648) (hQ : 1 ≤ Q ∧ Q ≤ 2147483648) (hg : Int.gcd P Q = 1) (hm : 1 ≤ most ∧ most ≤ 100000) :
    ∃ lp lq hp hq : Int, Ev (fun k => impl_besides.f k P Q most) (lp, lq, hp, hq) ∧ Near P Q most hp hq ∧ Near (-P) Q most (-lp) lq := by
  by_cases c : Q ≤ most
  · obtain ⟨k, h1, h2, h3, h4⟩ := inverse_ev hP hQ hg
    have hd1 := lastBelow_dvd (most := most) h2
    have hneg : Q ∣ (-P) * (-k) - 1 := by rw [Int.neg_mul_neg]; exact h2
    have hd2 := lastBelow_dvd (most := most) hneg
    obtain ⟨lq, hlq⟩ : ∃ z, z = most - (most - k) % Q := ⟨_, rfl⟩
    obtain ⟨hq, hhq⟩ : ∃ z, z = most - (most - -k) % Q := ⟨_, rfl⟩
    rw [← hlq] at hd1
    rw [← hhq] at hd2
    have e1 := Int.emod_nonneg (most - k) (b := Q) (by omega)
    have e2 := Int.emod_lt_of_pos (most - k) (b := Q) (by omega)
    have e3 := Int.emod_nonneg (most - -k) (b := Q) (by omega)
    have e4 := Int.emod_lt_of_pos (most - -k) (b := Q) (by omega)
    obtain ⟨lp, hlp⟩ := hd1
    obtain ⟨z, hz⟩ := hd2
    have m1 := mul_small hP (q := lq) (by omega)
    have m2 := mul_small hP (q := hq) (by omega)
    have hz2 : P * hq + 1 = Q * (-z) := by rw [Int.mul_neg]; have : (-P) * hq = -(P * hq) := Int.neg_mul ..; omega
    refine ⟨lp, lq, -z, hq, ?_, ?_, ?_⟩
    · refine Ev.congr (fun k => by unfold impl_besides.f; rfl) (Ev.congr (fun k => if_pos c) (Ev.bind h1 ?_))
      rw [wrap64_id (n := -k) (by omega) (by omega), lastBelow_is hQ (by omega) hm, lastBelow_is hQ (by omega) hm, ← hlq, ← hhq]
      simp only [Option.bind_some]
      refine Ev.congr (fun k => if_neg (by omega)) ?_
      rw [wrap64_id (n := P * lq) (by omega) (by omega), wrap64_id (n := P * lq - 1) (by omega) (by omega), wrap64_id (n := P * hq) (by omega) (by omega), wrap64_id (n := P * hq + 1) (by omega) (by omega), hlp, hz2, Int.mul_tdiv_cancel_left _ (by omega), Int.mul_tdiv_cancel_left _ (by omega)]
      have b1 : -214748364800001 ≤ lp ∧ lp ≤ 214748364800001 := by
        rcases Int.le_total 0 lp with w | w
        · have := Int.mul_le_mul_of_nonneg_right (a := 1) (b := Q) (c := lp) hQ.1 w; omega
        · have := Int.mul_le_mul_of_nonpos_right (a := Q) (b := 1) (c := lp) hQ.1 w; omega
      have b2 : -214748364800001 ≤ -z ∧ -z ≤ 214748364800001 := by
        rcases Int.le_total 0 (-z) with w | w
        · have := Int.mul_le_mul_of_nonneg_right (a := 1) (b := Q) (c := -z) hQ.1 w; omega
        · have := Int.mul_le_mul_of_nonpos_right (a := Q) (b := 1) (c := -z) hQ.1 w; omega
      rw [wrap64_id (n := lp) (by omega) (by omega), wrap64_id (n := -z) (by omega) (by omega)]
      exact Ev.now _
    · exact near_own hQ.1 (by rw [Int.mul_comm]; omega) (by omega) (by omega)
    · refine near_own hQ.1 ?_ (by omega) (by omega)
      have : -lp * Q = -(Q * lp) := by grind
      have : -P * lq = -(P * lq) := Int.neg_mul ..
      omega
  · have hfl := floor_is (a := P) (b := Q) (by omega) (by omega) (by omega)
    have e1 := Int.emod_nonneg P (b := Q) (by omega)
    have e2 := Int.emod_lt_of_pos P (b := Q) (by omega)
    have e3 := Int.emod_add_mul_ediv P Q
    obtain ⟨wh, hwh⟩ : ∃ z, z = P / Q := ⟨_, rfl⟩
    obtain ⟨p, hp⟩ : ∃ z, z = P % Q := ⟨_, rfl⟩
    rw [← hwh] at hfl e3
    rw [← hp] at e1 e2 e3
    have hgp : Int.gcd p Q = 1 := by
      rw [show p = P + Q * (-wh) by rw [Int.mul_neg]; omega, Int.gcd_comm, Int.gcd_add_mul_left_right, Int.gcd_comm]; exact hg
    have hp1 : 1 ≤ p := by
      have := coprime_apart (z := 0) hgp (q := 1) (by omega) (by omega)
      omega
    have hwb : -2147483648 ≤ wh ∧ wh ≤ 2147483648 := by
      rcases Int.le_total 0 wh with w | w
      · have := Int.mul_le_mul_of_nonneg_right (a := 1) (b := Q) (c := wh) hQ.1 w; omega
      · have hh : wh + 1 ≤ 0 ∨ wh = 0 := by omega
        rcases hh with hh | hh
        · have := Int.mul_le_mul_of_nonpos_right (a := Q) (b := 1) (c := wh + 1) hQ.1 hh
          rw [Int.mul_add, Int.mul_one] at this
          omega
        · omega
    obtain ⟨a, b, c2, d, g1, g2, g3⟩ := besides_loop (wh := wh) (P := P) hgp (by omega) hm.2 ⟨e1, e2⟩ hQ.2 hwb (2 * most).toNat 0 1 1 1 (by omega) ⟨by omega, by omega, by omega, by omega, by omega, by omega, by omega⟩
    have hdet := g2.det
    have ga := g2.a
    have gb := g2.b
    have gl := g2.l1
    have gh := g2.h1
    refine ⟨a + wh * b, b, c2 + wh * d, d, ?_, ?_, ?_⟩
    · refine Ev.congr (fun k => by unfold impl_besides.f; rfl) (Ev.congr (fun k => if_neg c) ?_)
      rw [hfl]; simp only [Option.bind_some]
      have hc : wh * Q = Q * wh := Int.mul_comm ..
      rw [wrap64_id (n := wh * Q) (by omega) (by omega), wrap64_id (n := P - wh * Q) (by omega) (by omega), show P - wh * Q = p by omega]
      exact g1
    · refine near_of (c := a + wh * b) (e := b) ?_ gl.1 ?_ ?_ (by omega) hQ.1 gh.1 gh.2
      · rw [← hdet]; grind
      · have : P * b - (a + wh * b) * Q = p * b - a * Q := by rw [← e3]; grind
        omega
      · have : (c2 + wh * d) * Q - P * d = c2 * Q - p * d := by rw [← e3]; grind
        omega
    · refine near_of (c := -(c2 + wh * d)) (e := d) ?_ gh.1 ?_ ?_ (by omega) hQ.1 gl.1 gl.2
      · rw [← hdet]; grind
      · have : -P * d - -(c2 + wh * d) * Q = c2 * Q - p * d := by rw [← e3]; grind
        omega
      · have : -(a + wh * b) * Q - -P * b = p * b - a * Q := by rw [← e3]; grind
        omega
theorem specMost_ev (P Q most : Int) : Ev (fun k => spec_l04Most.f k P Q most) (if ratioOk P Q = true then (if 1 ≤ most ∧ most ≤ 100000 then 0 else 2) else 1) := by
  refine Ev.congr (fun k => by unfold spec_l04Most.f; rfl) (Ev.bind (specRatio_ev P Q) ?_)
  rw [l00In_some]
  by_cases c : ratioOk P Q = true
  · rw [if_pos c, if_pos c]
    simp only [Option.bind_some]
    by_cases c2 : 1 ≤ most ∧ most ≤ 100000
    · rw [if_pos c2]; exact Ev.congr (fun k => if_pos (by simp [c2])) (Ev.now _)
    · rw [if_neg c2]; exact Ev.congr (fun k => if_neg (by simp; omega)) (Ev.now _)
  · rw [if_neg c, if_neg c]
    exact Ev.now _
theorem eqRatio_same (p q : Int) : laws_eqRatio.f p q p q = some true := by
  unfold laws_eqRatio.f; rw [if_pos rfl, if_pos rfl]
/-- A candidate that takes the place of a farther one. -/
def upd (s : Int × Int × Int) (d p q : Int) : Int × Int × Int := if s.1 < 0 then (d, p, q) else if d * s.2.2 < s.1 * q then (d, p, q) else s
def lo (P Q q : Int) : Int := P * q - P * q / Q * Q
def hi (P Q q : Int) : Int := (P * q / Q + 1) * Q - P * q
theorem lo_hi (P q : Int) {Q : Int} (hQ : 1 ≤ Q) : 0 ≤ lo P Q q ∧ lo P Q q < Q ∧ 1 ≤ hi P Q q ∧ hi P Q q ≤ Q := by
  have h1 := above P q hQ
  have h2 : P * q / Q * Q = Q * (P * q / Q) := Int.mul_comm ..
  unfold lo hi
  omega
def rnd (P Q : Int) (s : Int × Int × Int) (q : Int) : Int × Int × Int := upd (upd s (lo P Q q) (P * q / Q) q) (hi P Q q) (P * q / Q + 1) q
theorem upd_small {Q : Int} {s : Int × Int × Int} (hs : s.1 ≤ Q ∧ 0 ≤ s.2.2 ∧ s.2.2 ≤ 100000) {d p q : Int} (hd : d ≤ Q) (hq : 0 ≤ q ∧ q ≤ 100000) : (upd s d p q).1 ≤ Q ∧ 0 ≤ (upd s d p q).2.2 ∧ (upd s d p q).2.2 ≤ 100000 := by
  unfold upd
  split
  · exact ⟨hd, hq⟩
  · split
    · exact ⟨hd, hq⟩
    · exact hs
theorem best_upd {P Q most fl : Int} {s : Int × Int × Int} {q p d : Int} (hP : -2147483648 ≤ P ∧ P ≤ 2147483648) (hQ : 1 ≤ Q ∧ Q ≤ 2147483648) (hm : most ≤ 100000) (hq : 1 ≤ q ∧ q ≤ most) (hs : s.1 ≤ Q ∧ 0 ≤ s.2.2 ∧ s.2.2 ≤ 100000) (hp : p ≤ fl + 1) (hfl : -214748364800001 ≤ fl ∧ fl ≤ 214748364800001) (hp2 : fl ≤ p) (hd : ((P * q - p * Q).natAbs : Int) = d) (hd2 : d ≤ Q) (r : Int × Int × Int)
    (h : Ev (fun k => spec_BestFraction.l1 k most (upd s d p q).1 (upd s d p q).2.1 (upd s d p q).2.2 q fl (p + 1) P Q) r) : Ev (fun k => spec_BestFraction.l1 k most s.1 s.2.1 s.2.2 q fl p P Q) r := by
  refine Ev.step (fun k => by rw [spec_BestFraction.l1]) ?_
  have h1 := mul_small hP (q := q) (by omega)
  rw [wrap64_id (n := fl + 1) (by omega) (by omega), wrap64_id (n := P * q) (by omega) (by omega), wrap64_id (n := p * Q) (by omega) (by omega), wrap64_id (n := P * q - p * Q) (by omega) (by omega), size_is (by omega) (by omega), hd, wrap64_id (n := p + 1) (by omega) (by omega)]
  simp only [Option.bind_some]
  refine Ev.congr (fun k => if_pos hp) ?_
  unfold upd at h
  by_cases c : s.1 < 0
  · rw [if_pos c] at h; exact Ev.congr (fun k => if_pos c) h
  · rw [if_neg c] at h
    refine Ev.congr (fun k => if_neg c) ?_
    have m1 := mul_small (P := d) (q := s.2.2) (by omega) hs.2
    have m2 := mul_small (P := s.1) (q := q) (by omega) (by omega)
    rw [wrap64_id (n := d * s.2.2) (by omega) (by omega), wrap64_id (n := s.1 * q) (by omega) (by omega)]
    by_cases c2 : d * s.2.2 < s.1 * q
    · rw [if_pos c2] at h; exact Ev.congr (fun k => if_pos c2) h
    · rw [if_neg c2] at h; exact Ev.congr (fun k => if_neg c2) h
theorem best_round {P Q most : Int} {s : Int × Int × Int} {q : Int} (hP : -2147483648 ≤ P ∧ P ≤ 2147483648) (hQ : 1 ≤ Q ∧ Q ≤ 2147483648) (hm : most ≤ 100000) (hq : 1 ≤ q ∧ q ≤ most) (hs : s.1 ≤ Q ∧ 0 ≤ s.2.2 ∧ s.2.2 ≤ 100000) (r : Int × Int × Int)
    (h : Ev (fun k => spec_BestFraction.l0 k most (rnd P Q s q).1 (rnd P Q s q).2.1 (rnd P Q s q).2.2 (q + 1) P Q) r) : Ev (fun k => spec_BestFraction.l0 k most s.1 s.2.1 s.2.2 q P Q) r := by
  have h1 := mul_small hP (q := q) (by omega)
  have h2 := floor_small h1 hQ.1
  have h3 := lo_hi P q hQ.1
  refine Ev.step (fun k => by rw [spec_BestFraction.l0]) (Ev.congr (fun k => if_pos (by omega)) ?_)
  rw [wrap64_id (n := P * q) (by omega) (by omega), show spec_l04Floor.f (P * q) Q = some (P * q / Q) from floor_is (by omega) (by omega) (by omega)]
  simp only [Option.bind_some]
  have hs2 := upd_small hs (d := lo P Q q) (p := P * q / Q) (q := q) (by omega) (by omega)
  refine best_upd hP hQ hm hq hs (by omega) (by omega) (Int.le_refl _) (d := lo P Q q) (by unfold lo at h3 ⊢; omega) (by omega) r ?_
  refine best_upd hP hQ hm hq hs2 (Int.le_refl _) (by omega) (by omega) (d := hi P Q q) (by unfold hi at h3 ⊢; omega) (by omega) r ?_
  refine Ev.step (fun k => by rw [spec_BestFraction.l1]) ?_
  rw [wrap64_id (n := P * q / Q + 1) (by omega) (by omega), wrap64_id (n := q + 1) (by omega) (by omega)]
  refine Ev.congr (fun k => if_neg (by omega)) ?_
  exact h
/-- What the search finds: distance D, parts ps and qs; above: is it the one above. -/
structure Found (P Q most D ps qs : Int) (up : Bool) : Prop where
  q : 1 ≤ qs ∧ qs ≤ most
  is : if up = true then D = hi P Q qs ∧ ps = P * qs / Q + 1 else D = lo P Q qs ∧ ps = P * qs / Q
  before : ∀ q, 1 ≤ q → q < qs → D * q < lo P Q q * qs ∧ D * q < hi P Q q * qs
  here : up = true → D * qs < lo P Q qs * qs
  all : ∀ q, 1 ≤ q → q ≤ most → D * q ≤ lo P Q q * qs ∧ D * q ≤ hi P Q q * qs
  one : Int.gcd ps qs = 1
def AheadB (D qs : Int) (s : Int × Int × Int) : Prop := s.1 < 0 ∨ D * s.2.2 < s.1 * qs
theorem best_behind {P Q most D ps qs : Int} {up : Bool} (hP : -2147483648 ≤ P ∧ P ≤ 2147483648) (hQ : 1 ≤ Q ∧ Q ≤ 2147483648) (hm : most ≤ 100000) (hf : Found P Q most D ps qs up) (d : Nat) :
    ∀ q : Int, qs < q → q + d = most + 1 → Ev (fun k => spec_BestFraction.l0 k most D ps qs q P Q) (mk1 ps qs) := by
  have hq := hf.q
  have h1 := floor_small (mul_small hP (q := qs) (by omega)) hQ.1
  have h2 := lo_hi P qs hQ.1
  have hps : -214748364800002 ≤ ps ∧ ps ≤ 214748364800002 ∧ 0 ≤ D ∧ D ≤ Q := by
    have := hf.is
    split at this <;> omega
  induction d with
  | zero =>
    intro q h3 h4
    refine Ev.step (fun k => by rw [spec_BestFraction.l0]) (Ev.congr (fun k => if_neg (by omega)) ?_)
    exact Ev.bind (specMake_one hq.1 hf.one (by omega) (by omega)) (Ev.now _)
  | succ d ih =>
    intro q h3 h4
    have ha := hf.all q (by omega) (by omega)
    have hr : rnd P Q (D, ps, qs) q = (D, ps, qs) := by
      unfold rnd upd
      simp only
      rw [if_neg (show ¬ D < 0 by omega), if_neg (show ¬ lo P Q q * qs < D * q by omega)]
      simp only
      rw [if_neg (show ¬ D < 0 by omega), if_neg (show ¬ hi P Q q * qs < D * q by omega)]
    refine best_round (s := (D, ps, qs)) hP hQ hm (by omega) (by simp only; omega) _ ?_
    rw [hr]
    exact ih (q + 1) (by omega) (by omega)
theorem best_ahead {P Q most D ps qs : Int} {up : Bool} (hP : -2147483648 ≤ P ∧ P ≤ 2147483648) (hQ : 1 ≤ Q ∧ Q ≤ 2147483648) (hm : most ≤ 100000) (hf : Found P Q most D ps qs up) (d : Nat) :
    ∀ (q : Int) (s : Int × Int × Int), 1 ≤ q → q + d = qs → (s.1 ≤ Q ∧ 0 ≤ s.2.2 ∧ s.2.2 ≤ 100000) → AheadB D qs s → Ev (fun k => spec_BestFraction.l0 k most s.1 s.2.1 s.2.2 q P Q) (mk1 ps qs) := by
  have hq := hf.q
  induction d with
  | zero =>
    intro q s h1 h2 hs hA
    obtain rfl : q = qs := by omega
    obtain ⟨e, he⟩ : ∃ e : Nat, q + 1 + e = most + 1 := ⟨(most - q).toNat, by omega⟩
    have hb := best_behind hP hQ hm hf e (q + 1) (by omega) (by omega)
    have hl := lo_hi P q hQ.1
    refine best_round hP hQ hm (by omega) hs _ ?_
    have hr : rnd P Q s q = (D, ps, q) := by
      have hi1 := hf.is
      cases up with
      | false =>
        simp only [Bool.false_eq_true, if_false] at hi1
        have e1 : upd s (lo P Q q) (P * q / Q) q = (D, ps, q) := by
          unfold upd
          rcases hA with c | c
          · rw [if_pos c, hi1.1, hi1.2]
          · by_cases c2 : s.1 < 0
            · rw [if_pos c2, hi1.1, hi1.2]
            · rw [if_neg c2, if_pos (by rw [← hi1.1]; exact c), hi1.1, hi1.2]
        unfold rnd
        rw [e1]
        unfold upd
        simp only
        have := (hf.all q (by omega) (by omega)).2
        rw [if_neg (show ¬ D < 0 by omega), if_neg (by omega)]
      | true =>
        simp only [if_true] at hi1
        have hh := hf.here rfl
        have e1 : AheadB D q (upd s (lo P Q q) (P * q / Q) q) := by
          unfold upd
          split
          · exact .inr hh
          · split
            · exact .inr hh
            · exact hA
        unfold rnd
        unfold upd
        rcases e1 with c | c
        · unfold upd at c; rw [if_pos c, ← hi1.1, ← hi1.2]
        · unfold upd at c
          by_cases c2 : (if s.1 < 0 then (lo P Q q, P * q / Q, q) else if lo P Q q * s.2.2 < s.1 * q then (lo P Q q, P * q / Q, q) else s).1 < 0
          · rw [if_pos c2, ← hi1.1, ← hi1.2]
          · rw [if_neg c2, if_pos (by rw [← hi1.1]; exact c), ← hi1.1, ← hi1.2]
    rw [hr]; exact hb
  | succ d ih =>
    intro q s h1 h2 hs hA
    have hl := lo_hi P q hQ.1
    have hbef := hf.before q h1 (by omega)
    refine best_round hP hQ hm (by omega) hs _ ?_
    have hs2 := upd_small hs (d := lo P Q q) (p := P * q / Q) (q := q) (by omega) (by omega)
    refine ih (q + 1) _ (by omega) (by omega) (upd_small hs2 (by omega) (by omega)) ?_
    have e1 : AheadB D qs (upd s (lo P Q q) (P * q / Q) q) := by
      unfold upd
      split
      · exact .inr hbef.1
      · split
        · exact .inr hbef.1
        · exact hA
    unfold rnd
    generalize upd s (lo P Q q) (P * q / Q) q = s1 at e1
    unfold upd
    split
    · exact .inr hbef.2
    · split
      · exact .inr hbef.2
      · exact e1
/-- A ratio with a small divisor is its own best one. -/
theorem found_self {P Q most : Int} (hQ : 1 ≤ Q) (hm : Q ≤ most) (hg : Int.gcd P Q = 1) : Found P Q most 0 P Q false := by
  have e0 : P * Q / Q = P := Int.mul_ediv_cancel _ (by omega)
  refine ⟨⟨hQ, hm⟩, ?_, fun q h1 h2 => ?_, fun h => absurd h (by decide), fun q h1 h2 => ?_, hg⟩
  · simp only [Bool.false_eq_true, if_false]
    refine ⟨?_, e0.symm⟩
    unfold lo; rw [e0]; omega
  · have h3 := lo_hi P q hQ
    have h4 := coprime_apart (p := P) (z := P * q / Q) hg h1 h2
    have h5 : lo P Q q ≠ 0 := by unfold lo; omega
    rw [Int.zero_mul]
    have e1 := Int.mul_pos (a := lo P Q q) (b := Q) (by omega) (by omega)
    have e2 := Int.mul_pos (a := hi P Q q) (b := Q) (by omega) (by omega)
    omega
  · have h3 := lo_hi P q hQ
    rw [Int.zero_mul]
    have e1 := Int.mul_nonneg (a := lo P Q q) (b := Q) (by omega) (by omega)
    have e2 := Int.mul_nonneg (a := hi P Q q) (b := Q) (by omega) (by omega)
    omega
theorem chain {d q x y l h : Int} (hl : 1 ≤ l) (h0 : 0 ≤ q) (hh : 0 ≤ h) (h1 : x * q ≤ d * l) (h2 : y * l ≤ x * h) : y * q ≤ d * h ∧ ((x * q < d * l ∧ 1 ≤ h) ∨ (y * l < x * h ∧ 1 ≤ q) → y * q < d * h) := by
  have e1 : y * q * l ≤ d * h * l := by
    have a1 : (y * l) * q ≤ (x * h) * q := Int.mul_le_mul_of_nonneg_right h2 h0
    have a2 : (x * q) * h ≤ (d * l) * h := Int.mul_le_mul_of_nonneg_right h1 hh
    have a3 : y * q * l = (y * l) * q := by grind
    have a4 : d * h * l = (d * l) * h := by grind
    have a5 : (x * h) * q = (x * q) * h := by grind
    omega
  refine ⟨Int.le_of_mul_le_mul_right e1 (by omega), fun hs => ?_⟩
  have e2 : y * q * l < d * h * l := by
    have a3 : y * q * l = (y * l) * q := by grind
    have a4 : d * h * l = (d * l) * h := by grind
    have a5 : (x * h) * q = (x * q) * h := by grind
    rcases hs with ⟨hs, hp⟩ | ⟨hs, hp⟩
    · have a1 : (y * l) * q ≤ (x * h) * q := Int.mul_le_mul_of_nonneg_right h2 h0
      have a2 : (x * q) * h < (d * l) * h := Int.mul_lt_mul_of_pos_right hs (by omega)
      omega
    · have a1 : (y * l) * q < (x * h) * q := Int.mul_lt_mul_of_pos_right hs (by omega)
      have a2 : (x * q) * h ≤ (d * l) * h := Int.mul_le_mul_of_nonneg_right h1 hh
      omega
  exact Int.lt_of_mul_lt_mul_right e2 (by omega)
theorem low_best {P Q most lp lq hp hq : Int} (hQ : 1 ≤ Q) (hm : most < Q) (hg : Int.gcd P Q = 1) (hh : Near P Q most hp hq) (hl : Near (-P) Q most (-lp) lq) {q : Int} (h1 : 1 ≤ q) (h2 : q ≤ most) : (P * lq - lp * Q) * q ≤ lo P Q q * lq ∧ ((P * lq - lp * Q) * q = lo P Q q * lq → lq ≤ q) := by
  have h3 := lo_hi P q hQ
  have h4 := coprime_apart (p := P) (z := P * q / Q) hg h1 (by omega)
  have h5 : lo P Q q ≠ 0 := by unfold lo; omega
  have e1 : -(P * q / Q) * Q - -P * q = lo P Q q := by unfold lo; grind
  have e2 : -lp * Q - -P * lq = P * lq - lp * Q := by grind
  have := hl.best (-(P * q / Q)) q h1 h2 (by omega)
  rw [e1, e2] at this
  exact this
theorem high_best {P Q most lp lq hp hq : Int} (hQ : 1 ≤ Q) (hm : most < Q) (hg : Int.gcd P Q = 1) (hh : Near P Q most hp hq) (hl : Near (-P) Q most (-lp) lq) {q : Int} (h1 : 1 ≤ q) (h2 : q ≤ most) : (hp * Q - P * hq) * q ≤ hi P Q q * hq ∧ ((hp * Q - P * hq) * q = hi P Q q * hq → hq ≤ q) := by
  have h3 := lo_hi P q hQ
  exact hh.best (P * q / Q + 1) q h1 h2 (by unfold hi at h3; omega)
theorem low_is {P Q most lp lq hp hq : Int} (hQ : 1 ≤ Q) (hm : most < Q) (hg : Int.gcd P Q = 1) (hh : Near P Q most hp hq) (hl : Near (-P) Q most (-lp) lq) : P * lq / Q = lp ∧ lo P Q lq = P * lq - lp * Q ∧ 1 ≤ P * lq - lp * Q := by
  have h1 := (low_best hQ hm hg hh hl hl.lo hl.hi).1
  have h2 : P * lq - lp * Q ≤ lo P Q lq := Int.le_of_mul_le_mul_right h1 (by have := hl.lo; omega)
  have e2 : -lp * Q - -P * lq = P * lq - lp * Q := by grind
  have h3 := hl.up
  have h4 : P * lq / Q * Q ≤ lp * Q := by unfold lo at h2; omega
  have h5 : P * lq / Q ≤ lp := Int.le_of_mul_le_mul_right h4 (by omega)
  have h6 : lp ≤ P * lq / Q := (Int.le_ediv_iff_mul_le (by omega)).2 (by omega)
  have h7 : P * lq / Q = lp := by omega
  refine ⟨h7, ?_, by omega⟩
  unfold lo; rw [h7]
theorem high_is {P Q most lp lq hp hq : Int} (hQ : 1 ≤ Q) (hm : most < Q) (hg : Int.gcd P Q = 1) (hh : Near P Q most hp hq) (hl : Near (-P) Q most (-lp) lq) : P * hq / Q + 1 = hp ∧ hi P Q hq = hp * Q - P * hq ∧ 1 ≤ hp * Q - P * hq := by
  have h1 := near_least hQ hh
  refine ⟨h1, by unfold hi; rw [h1], by have := hh.up; omega⟩
theorem found_high {P Q most lp lq hp hq : Int} (hQ : 1 ≤ Q) (hm : most < Q) (hg : Int.gcd P Q = 1) (hh : Near P Q most hp hq) (hl : Near (-P) Q most (-lp) lq) (hc : (hp * Q - P * hq) * lq < (P * lq - lp * Q) * hq ∨ (hp * Q - P * hq) * lq = (P * lq - lp * Q) * hq ∧ hq < lq) : Found P Q most (hp * Q - P * hq) hp hq true := by
  have hlo := hl.lo
  have hlo2 := hh.lo
  have his := high_is hQ hm hg hh hl
  have key : ∀ q, 1 ≤ q → q ≤ most → (hp * Q - P * hq) * q ≤ lo P Q q * hq ∧ (q ≤ hq → (hp * Q - P * hq) * q < lo P Q q * hq) := by
    intro q h1 h2
    have h3 := low_best hQ hm hg hh hl h1 h2
    have h4 := chain (d := lo P Q q) (q := q) (x := P * lq - lp * Q) (y := hp * Q - P * hq) (l := lq) (h := hq) (by omega) (by omega) (by omega) h3.1 (by rcases hc with c | c <;> omega)
    refine ⟨h4.1, fun h5 => h4.2 ?_⟩
    rcases hc with c | ⟨c1, c2⟩
    · exact .inr ⟨c, h1⟩
    · refine .inl ⟨?_, by omega⟩
      rcases Int.lt_or_eq_of_le h3.1 with z | z
      · exact z
      · have := h3.2 z; omega
  refine ⟨⟨hlo2, hh.hi⟩, ?_, fun q h1 h2 => ?_, fun _ => ?_, fun q h1 h2 => ?_, hh.one⟩
  · rw [if_pos rfl]; exact ⟨his.2.1.symm, his.1.symm⟩
  · have h3 := high_best hQ hm hg hh hl h1 (by have := hh.hi; omega)
    refine ⟨(key q h1 (by have := hh.hi; omega)).2 (by omega), ?_⟩
    rcases Int.lt_or_eq_of_le h3.1 with z | z
    · exact z
    · have := h3.2 z; omega
  · exact (key hq hlo2 hh.hi).2 (Int.le_refl _)
  · exact ⟨(key q h1 h2).1, (high_best hQ hm hg hh hl h1 h2).1⟩
theorem found_low {P Q most lp lq hp hq : Int} (hQ : 1 ≤ Q) (hm : most < Q) (hg : Int.gcd P Q = 1) (hh : Near P Q most hp hq) (hl : Near (-P) Q most (-lp) lq) (hc : (P * lq - lp * Q) * hq < (hp * Q - P * hq) * lq ∨ (P * lq - lp * Q) * hq = (hp * Q - P * hq) * lq ∧ lq ≤ hq) : Found P Q most (P * lq - lp * Q) lp lq false := by
  have hlo := hl.lo
  have hlo2 := hh.lo
  have his := low_is hQ hm hg hh hl
  have key : ∀ q, 1 ≤ q → q ≤ most → (P * lq - lp * Q) * q ≤ hi P Q q * lq ∧ (q < lq → (P * lq - lp * Q) * q < hi P Q q * lq) := by
    intro q h1 h2
    have h3 := high_best hQ hm hg hh hl h1 h2
    have h4 := chain (d := hi P Q q) (q := q) (x := hp * Q - P * hq) (y := P * lq - lp * Q) (l := hq) (h := lq) (by omega) (by omega) (by omega) h3.1 (by rcases hc with c | c <;> omega)
    refine ⟨h4.1, fun h5 => h4.2 ?_⟩
    rcases hc with c | ⟨c1, c2⟩
    · exact .inr ⟨c, h1⟩
    · refine .inl ⟨?_, by omega⟩
      rcases Int.lt_or_eq_of_le h3.1 with z | z
      · exact z
      · have := h3.2 z; omega
  have hone : Int.gcd lp lq = 1 := by have := hl.one; simpa using this
  refine ⟨⟨hlo, hl.hi⟩, ?_, fun q h1 h2 => ?_, fun h => absurd h (by decide), fun q h1 h2 => ?_, hone⟩
  · rw [if_neg (by decide)]; exact ⟨his.2.1.symm, his.1.symm⟩
  · have h3 := low_best hQ hm hg hh hl h1 (by have := hl.hi; omega)
    refine ⟨?_, (key q h1 (by have := hl.hi; omega)).2 h2⟩
    rcases Int.lt_or_eq_of_le h3.1 with z | z
    · exact z
    · have := h3.2 z; omega
  · exact ⟨(low_best hQ hm hg hh hl h1 h2).1, (key q h1 h2).1⟩
theorem specBest_found {P Q most D ps qs : Int} {up : Bool} (hP : -2147483648 ≤ P ∧ P ≤ 2147483648) (hQ : 1 ≤ Q ∧ Q ≤ 2147483648) (hm : most ≤ 100000) (hf : Found P Q most D ps qs up) : Ev (fun k => spec_BestFraction.l0 k most (-1) 0 1 1 P Q) (mk1 ps qs) := by
  have hq := hf.q
  obtain ⟨d, hd⟩ : ∃ d : Nat, 1 + (d : Int) = qs := ⟨(qs - 1).toNat, by omega⟩
  exact best_ahead hP hQ hm hf d 1 (-1, 0, 1) (by omega) hd (by simp only; omega) (.inl (by decide))
theorem best_ev (P Q most : Int) : ∃ r : Int × Int × Int, Ev (fun k => spec_BestFraction.f k P Q most) r ∧ Ev (fun k => impl_BestFraction.f k P Q most) r := by
  by_cases c : ratioOk P Q = true
  · obtain ⟨hQ, hP, hg⟩ := ratioOk_is c
    by_cases c2 : 1 ≤ most ∧ most ≤ 100000
    · have hmost := specMost_ev P Q most
      rw [if_pos c, if_pos c2] at hmost
      have spec : ∀ {D ps qs : Int} {up : Bool}, Found P Q most D ps qs up → Ev (fun k => spec_BestFraction.f k P Q most) (mk1 ps qs) := by
        intro D ps qs up hf
        refine Ev.congr (fun k => by unfold spec_BestFraction.f; rfl) (Ev.bind hmost (Ev.congr (fun k => if_pos rfl) ?_))
        exact specBest_found hP hQ c2.2 hf
      have impl : ∀ r, Ev (fun k => if Q ≤ most then some (P, Q, (0 : Int)) else (impl_besides.f k P Q most).bind fun bt148 => (if (wrap64 ((wrap64 ((wrap64 (bt148.2.2.1 * Q)) - (wrap64 (P * bt148.2.2.2)))) * bt148.2.1)) < (wrap64 ((wrap64 ((wrap64 (P * bt148.2.1)) - (wrap64 (bt148.1 * Q)))) * bt148.2.2.2)) then (impl_BestFraction.j0 k true bt148.2.2.1 bt148.2.2.2 bt148.1 bt148.2.1) else (if (wrap64 ((wrap64 ((wrap64 (bt148.2.2.1 * Q)) - (wrap64 (P * bt148.2.2.2)))) * bt148.2.1)) = (wrap64 ((wrap64 ((wrap64 (P * bt148.2.1)) - (wrap64 (bt148.1 * Q)))) * bt148.2.2.2)) then (impl_BestFraction.j0 k (decide (bt148.2.2.2 < bt148.2.1)) bt148.2.2.1 bt148.2.2.2 bt148.1 bt148.2.1) else (impl_BestFraction.j0 k false bt148.2.2.1 bt148.2.2.2 bt148.1 bt148.2.1)))) r → Ev (fun k => impl_BestFraction.f k P Q most) r := by
        intro r h
        refine Ev.congr (fun k => by unfold impl_BestFraction.f; rfl) (Ev.bind (implRatio_ev P Q) ?_)
        rw [within_some]; simp only [Option.bind_some]
        rw [c]; exact Ev.congr (fun k => if_pos rfl) (Ev.congr (fun k => if_pos (by simp [c2])) h)
      by_cases c3 : Q ≤ most
      · refine ⟨(P, Q, 0), ?_, impl _ (Ev.congr (fun k => if_pos c3) (Ev.now _))⟩
        have := spec (found_self hQ.1 c3 hg)
        unfold mk1 at this
        rwa [if_pos c] at this
      · obtain ⟨lp, lq, hp, hq, h1, h2, h3⟩ := besides_ev hP hQ hg c2
        have hm : most < Q := by omega
        have hlow := low_is hQ.1 hm hg h2 h3
        have hhigh := high_is hQ.1 hm hg h2 h3
        have hll := lo_hi P lq hQ.1
        have hhh := lo_hi P hq hQ.1
        have hl1 := h3.lo
        have hl2 := h3.hi
        have hh1 := h2.lo
        have hh2 := h2.hi
        have m1 := mul_small hP (q := lq) (by omega)
        have m2 := mul_small hP (q := hq) (by omega)
        have m3 := mul_small (P := P * lq - lp * Q) (q := hq) (by omega) (by omega)
        have m4 := mul_small (P := hp * Q - P * hq) (q := lq) (by omega) (by omega)
        have ji : ∀ b : Bool, Ev (fun k => impl_BestFraction.j0 k b hp hq lp lq) (if b = true then mk1 hp hq else mk1 lp lq) := by
          intro b
          refine Ev.step (fun k => by rw [impl_BestFraction.j0]) ?_
          unfold mk1
          cases b
          · refine Ev.congr (fun k => if_neg (by decide)) (Ev.bind (implRatio_ev lp lq) ?_)
            rw [if_neg (show ¬ (false = true) by decide)]
            cases ratioOk lp lq <;> exact Ev.now _
          · refine Ev.congr (fun k => if_pos rfl) (Ev.bind (implRatio_ev hp hq) ?_)
            rw [if_pos rfl]
            cases ratioOk hp hq <;> exact Ev.now _
        have im2 : ∀ r, Ev (fun k => if (hp * Q - P * hq) * lq < (P * lq - lp * Q) * hq then impl_BestFraction.j0 k true hp hq lp lq else if (hp * Q - P * hq) * lq = (P * lq - lp * Q) * hq then impl_BestFraction.j0 k (decide (hq < lq)) hp hq lp lq else impl_BestFraction.j0 k false hp hq lp lq) r → Ev (fun k => impl_BestFraction.f k P Q most) r := by
          intro r h
          refine impl _ (Ev.congr (fun k => if_neg c3) (Ev.bind h1 ?_))
          simp only
          rw [wrap64_id (n := hp * Q) (by omega) (by omega), wrap64_id (n := P * hq) (by omega) (by omega), wrap64_id (n := hp * Q - P * hq) (by omega) (by omega), wrap64_id (n := P * lq) (by omega) (by omega), wrap64_id (n := lp * Q) (by omega) (by omega), wrap64_id (n := P * lq - lp * Q) (by omega) (by omega), wrap64_id (n := (hp * Q - P * hq) * lq) (by omega) (by omega), wrap64_id (n := (P * lq - lp * Q) * hq) (by omega) (by omega)]
          exact h
        rcases Int.lt_trichotomy ((hp * Q - P * hq) * lq) ((P * lq - lp * Q) * hq) with z | z | z
        · exact ⟨_, spec (found_high hQ.1 hm hg h2 h3 (.inl z)), im2 _ (Ev.congr (fun k => if_pos z) (ji true))⟩
        · by_cases c5 : hq < lq
          · refine ⟨_, spec (found_high hQ.1 hm hg h2 h3 (.inr ⟨z, c5⟩)), im2 _ (Ev.congr (fun k => if_neg (by omega)) (Ev.congr (fun k => if_pos z) ?_))⟩
            have := ji (decide (hq < lq))
            rwa [if_pos (decide_eq_true c5)] at this
          · refine ⟨_, spec (found_low hQ.1 hm hg h2 h3 (.inr ⟨z.symm, by omega⟩)), im2 _ (Ev.congr (fun k => if_neg (by omega)) (Ev.congr (fun k => if_pos z) ?_))⟩
            have := ji (decide (hq < lq))
            rwa [if_neg (by simp; omega)] at this
        · exact ⟨_, spec (found_low hQ.1 hm hg h2 h3 (.inl z)), im2 _ (Ev.congr (fun k => if_neg (by omega)) (Ev.congr (fun k => if_neg (by omega)) (ji false)))⟩
    · have hm := specMost_ev P Q most
      rw [if_pos c, if_neg c2] at hm
      refine ⟨(0, 0, 2), ?_, ?_⟩
      · exact Ev.congr (fun k => by unfold spec_BestFraction.f; rfl) (Ev.bind hm (Ev.congr (fun k => if_neg (show ¬ ((2 : Int) = 0) by decide)) (Ev.now _)))
      · refine Ev.congr (fun k => by unfold impl_BestFraction.f; rfl) (Ev.bind (implRatio_ev P Q) ?_)
        rw [within_some]; simp only [Option.bind_some]
        rw [c]; exact Ev.congr (fun k => if_pos rfl) (Ev.congr (fun k => if_neg (by simp; omega)) (Ev.now _))
  · have hm := specMost_ev P Q most
    rw [if_neg c] at hm
    refine ⟨(0, 0, 1), ?_, ?_⟩
    · exact Ev.congr (fun k => by unfold spec_BestFraction.f; rfl) (Ev.bind hm (Ev.congr (fun k => if_neg (show ¬ ((1 : Int) = 0) by decide)) (Ev.now _)))
    · refine Ev.congr (fun k => by unfold impl_BestFraction.f; rfl) (Ev.bind (implRatio_ev P Q) ?_)
      exact Ev.congr (fun k => if_neg c) (Ev.now _)
theorem FnExactBestFraction : laws_FnExactBestFraction.Pure := by
  intro x most hw _
  apply Ev.rounds (r := true)
  obtain ⟨⟨r1, r2, r3⟩, hs, hi⟩ := best_ev x.f0 x.f1 most
  have he1 : Ev (fun _ => laws_eqRatio.f r1 r2 r1 r2) true := ⟨0, fun k _ => eqRatio_same r1 r2⟩
  refine Ev.congr (fun k => by unfold laws_FnExactBestFraction.f laws_toRatio.f; rfl) ?_
  repeat' (first
    | (refine Ev.bind ((show Ev (fun k => laws_toRatio.f x.f0 x.f1) (x.f0, x.f1) from Ev.now _)) ?_; try dsimp only)
    | (refine Ev.bind (hs) ?_; try dsimp only)
    | (refine Ev.bind (hi) ?_; try dsimp only)
    | (refine Ev.bind (he1) ?_; try dsimp only)
    | exact ⟨0, fun k _ => rfl⟩
    | (refine Ev.congr (fun k => if_pos rfl) ?_; try dsimp only)
    | (refine Ev.congr (fun k => if_neg (by simp; done)) ?_; try dsimp only)
    | (refine Ev.congr (fun k => if_neg (by omega)) ?_; try dsimp only)
    | (refine Ev.congr (fun k => if_pos (by simp; done)) ?_; try dsimp only)
    | (refine Ev.congr (fun k => if_pos (by omega)) ?_; try dsimp only)
    )
end Go.Proofs.Ytdnkpfmcpalojaa.Pure
