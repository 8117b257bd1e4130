/- The program's CompareStreams returns what the reference's returns, for every two streams, and leaves them as they were. -/
import Derived.Test.YtfenifdigjcmiaaMFnExactCompareStreamsx7
import Derived.Test.YtfenifdigjcmiaaMOpen
namespace Go.Proofs.Ytfenifdigjcmiaa.Pure
open Go.RowKit Go.Proofs.Ytfenifdigjcmiaa.MFnExactCompareStreams Go.Proofs.Ytfenifdigjcmiaa.MOpen Go.Proofs.YtfenifdigjcmiaaW.PrintWords Go.Proofs.YtfenifdigjcmiaaW.PrintLast Go.Proofs.YtfenifdigjcmiaaW.PrintMore
set_option linter.unusedVariables false
set_option linter.unusedSimpArgs false
theorem wrap64_id {n : Int} (h0 : -9223372036854775808 ≤ n) (h1 : n ≤ 9223372036854775807) : wrap64 n = n := by
  unfold wrap64; omega
theorem rd_nat (xs : List Int) (i : Nat) : rd xs (i : Int) = xs.getD i 0 := by simp [rd]
theorem rd_get (xs : List Int) (i : Nat) (h : i < xs.length) : rd xs (i : Int) = xs[i] := by simp [rd, h]
theorem ev_k {α : Type} {f : Nat → Option α} {r : α} (n : Nat) (h : ∀ k, n ≤ k → f k = some r) : Ev f r := ⟨n, h⟩
theorem l00In_some (a b c : Int) : spec_l00In.f a b c = some (decide (b ≤ a ∧ a ≤ c)) := by
  unfold spec_l00In.f
  split <;> simp <;> omega
theorem within_some (a b c : Int) : impl_within.f a b c = some (decide (b ≤ a ∧ a ≤ c)) := l00In_some a b c
theorem size_is {a : Int} (h0 : -9223372036854775807 ≤ a) (h1 : a ≤ 9223372036854775807) : spec_l03Size.f a = some (a.natAbs : Int) := by
  unfold spec_l03Size.f
  split
  · rw [wrap64_id (by omega) (by omega)]; congr 1; omega
  · congr 1; omega
theorem mx_abs {a : Int} (h0 : -9223372036854775807 ≤ a) (h1 : a ≤ 9223372036854775807) : mx a (wrap64 (-a)) = (a.natAbs : Int) := by
  unfold mx; rw [wrap64_id (by omega) (by omega)]; split <;> omega
theorem tmod_nat (m n : Nat) : Int.tmod (m : Int) (n : Int) = ((m % n : Nat) : Int) := by
  rw [Int.tmod_eq_emod_of_nonneg (by omega)]; exact (Int.natCast_emod m n).symm
theorem specGcd_loop (n : Nat) : ∀ m : Nat, Ev (fun k => spec_l03Common.l0 k (m : Int) (n : Int)) (Nat.gcd m n : Int) := by
  induction n using Nat.strongRecOn with
  | _ n ih =>
    intro m
    refine Ev.step (fun k => by rw [spec_l03Common.l0]) ?_
    by_cases c : n = 0
    · subst c
      refine Ev.congr (fun k => if_pos rfl) ?_
      rw [Nat.gcd_zero_right]; exact Ev.now _
    · refine Ev.congr (fun k => if_neg (by omega)) ?_
      rw [tmod_nat, show Nat.gcd m n = Nat.gcd n (m % n) by rw [Nat.gcd_comm, Nat.gcd_rec, Nat.gcd_comm]]
      exact ih (m % n) (Nat.mod_lt _ (by omega)) n
theorem specGcd_ev {a b : Int} (ha : -9223372036854775807 ≤ a ∧ a ≤ 9223372036854775807) (hb : -9223372036854775807 ≤ b ∧ b ≤ 9223372036854775807) : Ev (fun k => spec_l03Common.f k a b) (Int.gcd a b : Int) := by
  refine Ev.congr (fun k => by unfold spec_l03Common.f; rfl) ?_
  rw [size_is ha.1 ha.2, size_is hb.1 hb.2]
  simp only [Option.bind_some]
  exact specGcd_loop b.natAbs a.natAbs
/-- Whether a ratio is valid. -/
def ratioOk (p q : Int) : Bool := decide (1 ≤ q ∧ q ≤ 2147483648) && (decide (-2147483648 ≤ p ∧ p ≤ 2147483648) && ((Int.gcd p q : Int) == 1))
theorem specRatio_ev (p q : Int) : Ev (fun k => spec_l03Ratio.f k p q) (ratioOk p q) := by
  refine Ev.congr (fun k => by unfold spec_l03Ratio.f; rfl) ?_
  rw [l00In_some, l00In_some]; simp only [Option.bind_some]
  unfold ratioOk
  by_cases c1 : 1 ≤ q ∧ q ≤ 2147483648
  · refine Ev.congr (fun k => if_pos (by simp [c1])) ?_
    rw [decide_eq_true c1, Bool.true_and]
    by_cases c2 : -2147483648 ≤ p ∧ p ≤ 2147483648
    · refine Ev.congr (fun k => if_pos (by simp [c2])) ?_
      rw [decide_eq_true c2, Bool.true_and]
      exact Ev.bind (specGcd_ev (by omega) (by omega)) (Ev.now _)
    · refine Ev.congr (fun k => if_neg (by simp; omega)) ?_
      rw [decide_eq_false c2, Bool.false_and]; exact Ev.now _
  · refine Ev.congr (fun k => if_neg (by simp; omega)) ?_
    rw [decide_eq_false c1, Bool.false_and]; exact Ev.now _
theorem ratioOk_is {p q : Int} (h : ratioOk p q = true) : (1 ≤ q ∧ q ≤ 2147483648) ∧ (-2147483648 ≤ p ∧ p ≤ 2147483648) ∧ Int.gcd p q = 1 := by
  unfold ratioOk at h
  simp only [Bool.and_eq_true, decide_eq_true_iff, beq_iff_eq] at h
  exact ⟨h.1, h.2.1, by omega⟩
theorem implGcd_in (n : Nat) : ∀ (m : Nat) (xs : List Int) (len i : Int) (r : Int), Ev (fun k => impl_common.l0 k (Nat.gcd m n : Int) xs len (wrap64 (i + 1))) r → Ev (fun k => impl_common.l1 k (m : Int) (n : Int) xs len i) r := by
  induction n using Nat.strongRecOn with
  | _ n ih =>
    intro m xs len i r h
    refine Ev.step (fun k => by rw [impl_common.l1]) ?_
    by_cases c : n = 0
    · subst c
      rw [Nat.gcd_zero_right] at h
      exact Ev.congr (fun k => if_pos rfl) h
    · refine Ev.congr (fun k => if_neg (by omega)) ?_
      rw [tmod_nat]
      refine ih (m % n) (Nat.mod_lt _ (by omega)) n xs len i r ?_
      rw [show Nat.gcd n (m % n) = Nat.gcd m n by rw [Nat.gcd_comm, ← Nat.gcd_rec, Nat.gcd_comm]]
      exact h
theorem implGcd_out (xs : List Int) (hn : xs.length ≤ 9) (hx : ∀ j : Nat, j < xs.length → -9223372036854775807 ≤ rd xs j ∧ rd xs j ≤ 9223372036854775807) (i : Nat) (hi : i < xs.length) (m : Nat) (r : Int) (h : Ev (fun k => impl_common.l0 k (Nat.gcd m (rd xs i).natAbs : Int) xs (xs.length : Int) ((i + 1 : Nat) : Int)) r) :
    Ev (fun k => impl_common.l0 k (m : Int) xs (xs.length : Int) (i : Int)) r := by
  refine Ev.step (fun k => by rw [impl_common.l0]) (Ev.congr (fun k => if_pos (by omega)) (Ev.congr (fun k => if_pos (by omega)) (Ev.congr (fun k => if_pos (by omega)) ?_)))
  rw [mx_abs (hx i hi).1 (hx i hi).2]
  refine implGcd_in _ _ _ _ _ _ ?_
  rw [wrap64_id (by omega) (by omega)]
  exact h
theorem implGcd_ev {a b : Int} (ha : -9223372036854775807 ≤ a ∧ a ≤ 9223372036854775807) (hb : -9223372036854775807 ≤ b ∧ b ≤ 9223372036854775807) : Ev (fun k => impl_common.f k [a, b]) (Int.gcd a b : Int) := by
  refine Ev.congr (fun k => by unfold impl_common.f; rfl) ?_
  have hx : ∀ j : Nat, j < [a, b].length → -9223372036854775807 ≤ rd [a, b] j ∧ rd [a, b] j ≤ 9223372036854775807 := by
    intro j hj
    have : j = 0 ∨ j = 1 := by simp at hj; omega
    rcases this with rfl | rfl
    · exact ha
    · exact hb
  refine implGcd_out [a, b] (by simp) hx 0 (by simp) 0 _ (implGcd_out [a, b] (by simp) hx 1 (by simp) _ _ ?_)
  refine Ev.step (fun k => by rw [impl_common.l0]) (Ev.congr (fun k => if_neg (by simp)) ?_)
  rw [Nat.gcd_zero_left]
  exact Ev.now _
theorem implRatio_ev (p q : Int) : Ev (fun k => impl_ValidRatio.f k p q) (ratioOk p q) := by
  refine Ev.congr (fun k => by unfold impl_ValidRatio.f; rfl) ?_
  rw [within_some, within_some]; simp only [Option.bind_some]
  unfold ratioOk
  by_cases c1 : 1 ≤ q ∧ q ≤ 2147483648
  · refine Ev.congr (fun k => if_pos (by simp [c1])) ?_
    rw [decide_eq_true c1, Bool.true_and]
    by_cases c2 : -2147483648 ≤ p ∧ p ≤ 2147483648
    · refine Ev.congr (fun k => if_pos (by simp [c2])) ?_
      rw [decide_eq_true c2, Bool.true_and]
      exact Ev.bind (implGcd_ev (by omega) (by omega)) (Ev.now _)
    · refine Ev.congr (fun k => if_neg (by simp; omega)) ?_
      rw [decide_eq_false c2, Bool.false_and]; exact Ev.now _
  · refine Ev.congr (fun k => if_neg (by simp; omega)) ?_
    rw [decide_eq_false c1, Bool.false_and]; exact Ev.now _
theorem tdiv_bd (p : Int) (g : Nat) : -(p.natAbs : Int) ≤ Int.tdiv p g ∧ Int.tdiv p g ≤ p.natAbs := by
  have h : (Int.tdiv p g).natAbs = p.natAbs / (g : Int).natAbs := Int.natAbs_tdiv p g
  have h2 := Nat.div_le_self p.natAbs (g : Int).natAbs
  rw [← h] at h2
  omega
/-- The ratio of two integers in its lowest terms, with a code. -/
def mkR (p q : Int) : Int × Int × Int := if ratioOk (Int.tdiv p (Int.gcd p q : Int)) (Int.tdiv q (Int.gcd p q : Int)) = true then (Int.tdiv p (Int.gcd p q : Int), Int.tdiv q (Int.gcd p q : Int), 0) else (0, 0, 3)
theorem gcd_ne {p q : Int} (hq : 1 ≤ q) : ¬ ((Int.gcd p q : Int) = 0) := by
  intro h
  have h2 : Int.gcd p q = 0 := by omega
  have := (Int.gcd_eq_zero_iff.mp h2).2
  omega
theorem specMake_ev {p q : Int} (hq : 1 ≤ q) (hp : -4611686018427387904 ≤ p ∧ p ≤ 4611686018427387904) (hq2 : q ≤ 4611686018427387904) : Ev (fun k => spec_l03Make.f k p q) (mkR p q) := by
  refine Ev.congr (fun k => by unfold spec_l03Make.f; rfl) (Ev.bind (specGcd_ev (by omega) (by omega)) ?_)
  have b1 := tdiv_bd p (Int.gcd p q)
  have b2 := tdiv_bd q (Int.gcd p q)
  refine Ev.congr (fun k => if_neg (by omega)) (Ev.congr (fun k => if_neg (gcd_ne hq)) ?_)
  rw [wrap64_id (n := Int.tdiv p _) (by omega) (by omega), wrap64_id (n := Int.tdiv q _) (by omega) (by omega)]
  refine Ev.bind (specRatio_ev _ _) ?_
  unfold mkR
  cases ratioOk _ _ <;> exact Ev.now _
theorem mk_ok {p q : Int} (hq : 1 ≤ q) (hp : -2147483648 ≤ p ∧ p ≤ 2147483648) (hq2 : q ≤ 2147483648) : ratioOk (Int.tdiv p (Int.gcd p q : Int)) (Int.tdiv q (Int.gcd p q : Int)) = true := by
  have b1 := tdiv_bd p (Int.gcd p q)
  have b2 := tdiv_bd q (Int.gcd p q)
  have hg : 0 < Int.gcd p q := Int.gcd_pos_of_ne_zero_right p (by omega)
  have e1 : Int.tdiv p (Int.gcd p q : Int) = p / (Int.gcd p q : Int) := Int.tdiv_eq_ediv_of_dvd (Int.gcd_dvd_left p q)
  have e2 : Int.tdiv q (Int.gcd p q : Int) = q / (Int.gcd p q : Int) := Int.tdiv_eq_ediv_of_dvd (Int.gcd_dvd_right p q)
  have hc : Int.gcd (Int.tdiv p (Int.gcd p q : Int)) (Int.tdiv q (Int.gcd p q : Int)) = 1 := by
    rw [e1, e2]; exact Int.gcd_ediv_gcd_ediv_gcd hg
  have h1 : 1 ≤ Int.tdiv q (Int.gcd p q : Int) := by
    rw [e2]
    exact Int.le_ediv_of_mul_le (by omega) (by rw [Int.one_mul]; exact Int.le_of_dvd (by omega) (Int.gcd_dvd_right p q))
  unfold ratioOk
  rw [hc]
  simp only [Bool.and_eq_true, decide_eq_true_eq]
  refine ⟨⟨h1, by omega⟩, ⟨by omega, by omega⟩, by decide⟩
theorem mkR_ok {p q : Int} (hq : 1 ≤ q) (hp : -2147483648 ≤ p ∧ p ≤ 2147483648) (hq2 : q ≤ 2147483648) : mkR p q = (Int.tdiv p (Int.gcd p q : Int), Int.tdiv q (Int.gcd p q : Int), 0) := by
  unfold mkR; rw [if_pos (mk_ok hq hp hq2)]
/-- The integer that digits make, the first one being worth most. -/
def whole (xs : List Int) : Int := xs.foldl (fun n d => 2 * n + d) 0
theorem whole_bd (xs : List Int) (h : ∀ d ∈ xs, -1 ≤ d ∧ d ≤ 1) : ∀ n : Int, (xs.foldl (fun n d => 2 * n + d) n).natAbs + 1 ≤ 2 ^ xs.length * (n.natAbs + 1) := by
  induction xs with
  | nil => intro n; simp
  | cons d xs ih =>
    intro n
    have h1 := ih (fun z hz => h z (by simp [hz])) (2 * n + d)
    have hd := h d (by simp)
    simp only [List.foldl_cons, List.length_cons, Nat.pow_succ]
    refine Nat.le_trans h1 ?_
    rw [Nat.mul_assoc]
    refine Nat.mul_le_mul_left _ ?_
    omega
theorem whole_abs (xs : List Int) (h : ∀ d ∈ xs, -1 ≤ d ∧ d ≤ 1) : (whole xs).natAbs + 1 ≤ 2 ^ xs.length := by
  have := whole_bd xs h 0
  simpa [whole] using this
theorem whole_take (xs : List Int) (i : Nat) (h : i < xs.length) : whole (xs.take (i + 1)) = 2 * whole (xs.take i) + xs[i] := by
  unfold whole
  rw [List.take_succ_eq_append_getElem h, List.foldl_append]
  rfl
theorem whole_small (xs : List Int) (h : ∀ d ∈ xs, -1 ≤ d ∧ d ≤ 1) (hl : xs.length ≤ 30) (i : Nat) : -1073741824 < whole (xs.take i) ∧ whole (xs.take i) < 1073741824 := by
  have h1 := whole_abs (xs.take i) (fun d hd => h d (List.mem_of_mem_take hd))
  have h2 : (xs.take i).length ≤ 30 := by simp; omega
  have h3 : 2 ^ (xs.take i).length ≤ 2 ^ 30 := Nat.pow_le_pow_right (by omega) h2
  have h4 : (2 : Nat) ^ 30 = 1073741824 := by decide
  omega
/-- All numbers of a list are digits. -/
def dg (xs : List Int) : Bool := xs.all (fun d => decide (-1 ≤ d ∧ d ≤ 1))
theorem dg_mem {xs : List Int} (h : dg xs = true) : ∀ d ∈ xs, -1 ≤ d ∧ d ≤ 1 := by
  intro d hd
  have := List.all_eq_true.mp h d hd
  simpa using this
theorem dg_step (xs : List Int) (i : Nat) (h : i < xs.length) : dg (xs.drop i) = (decide (-1 ≤ xs[i] ∧ xs[i] ≤ 1) && dg (xs.drop (i + 1))) := by
  unfold dg
  rw [List.drop_eq_getElem_cons h, List.all_cons]
theorem specDigits_loop (xs : List Int) (hn : xs.length ≤ 4611686018427387904) (d : Nat) : ∀ (i k : Nat), i + d = xs.length → d < k → spec_l03Digits.l0 k xs (i : Int) = some (dg (xs.drop i)) := by
  induction d with
  | zero =>
    intro i k hd hk
    obtain ⟨k, rfl⟩ : ∃ m, k = m + 1 := ⟨k - 1, by omega⟩
    simp only [spec_l03Digits.l0]; rw [if_neg (by omega), List.drop_of_length_le (by omega)]; rfl
  | succ d ih =>
    intro i k hd hk
    obtain ⟨k, rfl⟩ : ∃ m, k = m + 1 := ⟨k - 1, by omega⟩
    have hi : i < xs.length := by omega
    simp only [spec_l03Digits.l0]; rw [if_pos (by omega), if_pos (by omega), rd_get _ _ hi, wrap64_id (by omega) (by omega), dg_step _ _ hi]
    have := ih (i + 1) k (by omega) (by omega)
    by_cases c1 : xs[i] < -1
    · rw [if_pos c1, decide_eq_false (by omega)]; rfl
    · by_cases c2 : xs[i] > 1
      · rw [if_neg c1, if_pos c2, decide_eq_false (by omega)]; rfl
      · rw [if_neg c1, if_neg c2, decide_eq_true (by omega)]; exact this
theorem specDigits_ev (xs : List Int) (hn : xs.length ≤ 4611686018427387904) : Ev (fun k => spec_l03Digits.f k xs) (dg xs) := by
  refine ⟨xs.length + 1, fun k hk => ?_⟩
  have := specDigits_loop xs hn xs.length 0 k (by omega) (by omega)
  exact this
theorem implDigits_loop (xs : List Int) (hn : xs.length ≤ 4611686018427387904) (d : Nat) : ∀ (i : Nat), i + d = xs.length → ∃ r : Int, decide (r ≥ 0) = !dg (xs.drop i) ∧ ∀ k, d < k → slices_IndexFunc_int8_int8_f84.l0 k xs (xs.length : Int) (i : Int) = some r := by
  induction d with
  | zero =>
    intro i hd
    refine ⟨-1, by rw [List.drop_of_length_le (by omega)]; rfl, fun k hk => ?_⟩
    obtain ⟨k, rfl⟩ : ∃ m, k = m + 1 := ⟨k - 1, by omega⟩
    simp only [slices_IndexFunc_int8_int8_f84.l0]; rw [if_neg (by omega)]
  | succ d ih =>
    intro i hd
    have hi : i < xs.length := by omega
    have hs : ∀ z : Int, impl_digitsOk_1.f z = some (!decide (-1 ≤ z ∧ z ≤ 1)) := by
      intro z; unfold impl_digitsOk_1.f impl_isDigit.f; split <;> simp <;> omega
    obtain ⟨r, hr, h⟩ := ih (i + 1) (by omega)
    by_cases c : -1 ≤ xs[i] ∧ xs[i] ≤ 1
    · refine ⟨r, by rw [hr, dg_step _ _ hi, decide_eq_true c]; rfl, fun k hk => ?_⟩
      obtain ⟨k, rfl⟩ : ∃ m, k = m + 1 := ⟨k - 1, by omega⟩
      simp only [slices_IndexFunc_int8_int8_f84.l0]
      rw [if_pos (by omega), if_pos (by omega), if_pos (by omega), hs, rd_get _ _ hi, decide_eq_true c, wrap64_id (by omega) (by omega)]
      exact h k (by omega)
    · refine ⟨(i : Int), by rw [dg_step _ _ hi, decide_eq_false c]; simp, fun k hk => ?_⟩
      obtain ⟨k, rfl⟩ : ∃ m, k = m + 1 := ⟨k - 1, by omega⟩
      simp only [slices_IndexFunc_int8_int8_f84.l0]
      rw [if_pos (by omega), if_pos (by omega), if_pos (by omega), hs, rd_get _ _ hi, decide_eq_false c]; rfl
theorem implDigits_ev (xs : List Int) (hn : xs.length ≤ 4611686018427387904) : Ev (fun k => impl_digitsOk.f k xs) (dg xs) := by
  obtain ⟨r, hr, h⟩ := implDigits_loop xs hn xs.length 0 (by omega)
  refine ⟨xs.length + 1, fun k hk => ?_⟩
  have e : slices_IndexFunc_int8_int8_f84.l0 k xs (xs.length : Int) 0 = some r := h k (by omega)
  show impl_digitsOk.f k xs = some (dg xs)
  unfold impl_digitsOk.f slices_ContainsFunc_int8_int8_f84.f slices_IndexFunc_int8_int8_f84.f
  simp only [e, Option.bind_some, hr]; simp
theorem specWhole_loop (xs : List Int) (hl : xs.length ≤ 30) (h : ∀ d ∈ xs, -1 ≤ d ∧ d ≤ 1) (d : Nat) : ∀ (i k : Nat), i + d = xs.length → d < k → spec_l03Whole.l0 k xs (whole (xs.take i)) (i : Int) = some (whole xs) := by
  induction d with
  | zero =>
    intro i k hd hk
    obtain ⟨k, rfl⟩ : ∃ m, k = m + 1 := ⟨k - 1, by omega⟩
    simp only [spec_l03Whole.l0]; rw [if_neg (by omega), List.take_of_length_le (by omega)]
  | succ d ih =>
    intro i k hd hk
    obtain ⟨k, rfl⟩ : ∃ m, k = m + 1 := ⟨k - 1, by omega⟩
    have hi : i < xs.length := by omega
    have b1 := whole_small xs h hl i
    have b2 := h xs[i] (List.getElem_mem hi)
    simp only [spec_l03Whole.l0]; rw [if_pos (by omega), if_pos (by omega), rd_get _ _ hi, wrap64_id (n := xs[i]) (by omega) (by omega), wrap64_id (n := 2 * whole (xs.take i)) (by omega) (by omega), wrap64_id (n := 2 * whole (xs.take i) + xs[i]) (by omega) (by omega), wrap64_id (n := (i : Int) + 1) (by omega) (by omega), ← whole_take _ _ hi]
    exact ih (i + 1) k (by omega) (by omega)
theorem specWhole_ev (xs : List Int) (hl : xs.length ≤ 30) (h : ∀ d ∈ xs, -1 ≤ d ∧ d ≤ 1) : Ev (fun k => spec_l03Whole.f k xs) (whole xs) :=
  ⟨xs.length + 1, fun k hk => specWhole_loop xs hl h xs.length 0 k (by omega) (by omega)⟩
theorem weigh_same (xs : List Int) : ∀ (k : Nat) (n i : Int), impl_weigh.l0 k n xs (xs.length : Int) i = spec_l03Whole.l0 k xs n i := by
  intro k
  induction k with
  | zero => intro n i; rfl
  | succ k ih =>
    intro n i
    simp only [impl_weigh.l0, spec_l03Whole.l0, ih]
    by_cases c : i < (xs.length : Int)
    · simp only [if_pos c]
    · simp only [if_neg c]
theorem implWeigh_ev (xs : List Int) (hl : xs.length ≤ 30) (h : ∀ d ∈ xs, -1 ≤ d ∧ d ≤ 1) : Ev (fun k => impl_weigh.f k xs) (whole xs) := by
  refine Ev.congr (fun k => ?_) (specWhole_ev xs hl h)
  unfold impl_weigh.f spec_l03Whole.f
  exact weigh_same xs k 0 0
theorem shl_is (x : Int) (n : Nat) (hn : n ≤ 30) (h0 : 0 ≤ x) (hx : x ≤ 1073741824) : shl .i64 x (n : Int) = x * 2 ^ n := by
  have h3 : (2 : Int) ^ n ≤ 2 ^ 30 := by
    have : (2 : Nat) ^ n ≤ 2 ^ 30 := Nat.pow_le_pow_right (by omega) hn
    exact_mod_cast this
  have h4 : (0 : Int) < 2 ^ n := Int.pow_pos (by omega)
  have h5 : x * 2 ^ n ≤ 1073741824 * 1073741824 := Int.mul_le_mul hx (by omega) (by omega) (by omega)
  have h6 : 0 ≤ x * 2 ^ n := Int.mul_nonneg h0 (by omega)
  unfold shl
  rw [Int.toNat_natCast, Nat.min_eq_left (by simp [IntKind.bits]; omega)]
  rw [IntKind.wrap_i64]
  generalize x * 2 ^ n = z at h5 h6 ⊢
  omega
theorem u64_id {n : Int} (h0 : 0 ≤ n) (h1 : n ≤ 9223372036854775807) : IntKind.u64.wrap n = n := by
  simp [IntKind.wrap, IntKind.signed, IntKind.bits]; omega
theorem implMake_ev {p q : Int} (hq : 1 ≤ q) (hp : -1000000000000000000 ≤ p ∧ p ≤ 1000000000000000000) (hq2 : q ≤ 1000000000000000000) : Ev (fun k => impl_MakeRatio.f k p q) (mkR p q) := by
  have b1 := tdiv_bd p (Int.gcd p q)
  have b2 := tdiv_bd q (Int.gcd p q)
  have hj1 : Ev (fun k => impl_MakeRatio.j1 k p q) (mkR p q) := by
    refine Ev.step (fun k => by rw [impl_MakeRatio.j1]) ?_
    refine Ev.bind (implGcd_ev (by omega) (by omega)) ?_
    refine Ev.congr (fun k => if_neg (gcd_ne hq)) ?_
    rw [wrap64_id (n := Int.tdiv p _) (by omega) (by omega), wrap64_id (n := Int.tdiv q _) (by omega) (by omega)]
    refine Ev.bind (implRatio_ev _ _) ?_
    unfold mkR
    cases ratioOk _ _ <;> exact Ev.now _
  have hj0 : Ev (fun k => impl_MakeRatio.j0 k p q false) (mkR p q) := by
    refine Ev.step (fun k => by rw [impl_MakeRatio.j0, if_neg (by decide), if_neg (by omega), if_neg (by omega)]) hj1
  unfold impl_MakeRatio.f
  simp only [within_some, Option.bind_some]
  rw [decide_eq_true hp, decide_eq_true (⟨by omega, by omega⟩ : -1000000000000000000 ≤ q ∧ q ≤ 1000000000000000000)]
  exact hj0
theorem toInt8S_loop (xs : List Int) (hn : xs.length ≤ 4611686018427387904) (d : Nat) : ∀ (i : Nat) (acc : List Int) (k : Nat), acc.length = xs.length → (∀ j, j < i → acc.getD j 0 = xs.getD j 0) → i + d = xs.length → d < k → laws_toInt8S.l0 k xs acc (i : Int) = some xs := by
  induction d with
  | zero =>
    intro i acc k hl hj hd hk
    obtain ⟨k, rfl⟩ : ∃ m, k = m + 1 := ⟨k - 1, by omega⟩
    simp only [laws_toInt8S.l0]; rw [if_neg (by omega)]
    congr 1
    apply List.ext_getElem hl
    intro j h1 h2
    have := hj j (by omega)
    simpa [List.getD_eq_getElem?_getD, List.getElem?_eq_getElem, h1, h2] using this
  | succ d ih =>
    intro i acc k hl hj hd hk
    obtain ⟨k, rfl⟩ : ∃ m, k = m + 1 := ⟨k - 1, by omega⟩
    simp only [laws_toInt8S.l0]; rw [if_pos (by omega), if_pos (by omega), if_pos (by omega), wrap64_id (by omega) (by omega)]
    refine ih (i + 1) _ k ?_ ?_ (by omega) (by omega)
    · simpa using hl
    · intro j hji
      have hjl : j < acc.length := by omega
      by_cases e : j = i
      · subst e; simp [List.getD_eq_getElem?_getD, rd_nat, hjl]
      · have e' : ¬ i = j := fun h => e h.symm
        have := hj j (by omega)
        simpa [List.getD_eq_getElem?_getD, List.getElem?_set, e'] using this
theorem toInt8S_ev (xs : List Int) (hn : xs.length ≤ 17592186044416) : Ev (fun k => laws_toInt8S.f k xs) xs := by
  refine ⟨xs.length + 1, fun k hk => ?_⟩
  show laws_toInt8S.f k xs = some xs
  unfold laws_toInt8S.f
  rw [if_pos (by omega), if_pos (by simp; omega)]
  exact toInt8S_loop xs (by omega) xs.length 0 _ k (by simp) (fun j h => by omega) (by omega) (by omega)
theorem eqInt8S_loop (xs : List Int) (hn : xs.length ≤ 4611686018427387904) (d : Nat) : ∀ (i : Nat) (k : Nat), i + d = xs.length → d < k → laws_eqInt8S.l0 k xs xs (i : Int) = some true := by
  induction d with
  | zero =>
    intro i k hd hk
    obtain ⟨k, rfl⟩ : ∃ m, k = m + 1 := ⟨k - 1, by omega⟩
    simp only [laws_eqInt8S.l0]; rw [if_neg (by omega)]
  | succ d ih =>
    intro i k hd hk
    obtain ⟨k, rfl⟩ : ∃ m, k = m + 1 := ⟨k - 1, by omega⟩
    simp only [laws_eqInt8S.l0]; rw [if_pos (by omega), if_pos (by omega), if_pos (by omega), if_pos trivial, wrap64_id (by omega) (by omega)]
    exact ih (i + 1) k (by omega) (by omega)
theorem eqInt8S_ev (xs : List Int) (hn : xs.length ≤ 4611686018427387904) : Ev (fun k => laws_eqInt8S.f k xs xs) true := by
  refine ⟨xs.length + 1, fun k hk => ?_⟩
  show laws_eqInt8S.f k xs xs = some true
  unfold laws_eqInt8S.f
  rw [if_pos rfl]
  exact eqInt8S_loop xs hn xs.length 0 k (by omega) (by omega)
/-- A valid stream. -/
def okS (h l : List Int) : Bool := decide (h.length ≤ 16) && (decide (1 ≤ l.length ∧ l.length ≤ 14) && (dg h && dg l))
theorem specOk_ev (h l : List Int) (h1 : h.length ≤ 1048576) (h2 : l.length ≤ 1048576) : Ev (fun k => spec_l03Ok.f k h l) (okS h l) := by
  unfold okS
  by_cases c : (h.length : Int) ≤ 16
  · refine Ev.congr (fun k => by unfold spec_l03Ok.f; exact if_pos c) ?_
    rw [decide_eq_true (show h.length ≤ 16 by omega)]
    simp only [l00In_some, Option.bind_some, Bool.true_and]
    by_cases c2 : 1 ≤ l.length ∧ l.length ≤ 14
    · refine Ev.congr (fun k => if_pos (by simp; omega)) ?_
      rw [decide_eq_true c2, Bool.true_and]
      refine Ev.bind (specDigits_ev h (by omega)) ?_
      cases dg h with
      | false => exact Ev.now _
      | true =>
        refine Ev.congr (fun k => if_pos rfl) ?_
        refine Ev.bind (specDigits_ev l (by omega)) ?_
        rw [Bool.true_and]; exact Ev.now _
    · refine Ev.congr (fun k => if_neg (by simp; omega)) ?_
      rw [decide_eq_false c2]; exact Ev.now _
  · refine Ev.congr (fun k => by unfold spec_l03Ok.f; exact if_neg c) ?_
    rw [decide_eq_false (show ¬ h.length ≤ 16 by omega)]; exact Ev.now _
theorem implOk_ev (h l : List Int) (h1 : h.length ≤ 1048576) (h2 : l.length ≤ 1048576) : Ev (fun k => impl_ValidStream.f k h l) (okS h l) := by
  unfold okS
  by_cases c : (h.length : Int) ≤ 16
  · refine Ev.congr (fun k => by unfold impl_ValidStream.f; exact if_pos c) ?_
    rw [decide_eq_true (show h.length ≤ 16 by omega)]
    simp only [Bool.true_and]
    by_cases c2 : (l.length : Int) ≥ 1
    · refine Ev.congr (fun k => if_pos c2) ?_
      by_cases c3 : (l.length : Int) ≤ 14
      · refine Ev.congr (fun k => if_pos c3) ?_
        rw [decide_eq_true (⟨by omega, by omega⟩ : 1 ≤ l.length ∧ l.length ≤ 14), Bool.true_and]
        refine Ev.bind (implDigits_ev h (by omega)) ?_
        cases dg h with
        | false => exact Ev.now _
        | true =>
          refine Ev.congr (fun k => if_pos rfl) ?_
          refine Ev.bind (implDigits_ev l (by omega)) ?_
          rw [Bool.true_and]; exact Ev.now _
      · refine Ev.congr (fun k => if_neg c3) ?_
        rw [decide_eq_false (by omega)]; exact Ev.now _
    · refine Ev.congr (fun k => if_neg c2) ?_
      rw [decide_eq_false (by omega)]; exact Ev.now _
  · refine Ev.congr (fun k => by unfold impl_ValidStream.f; exact if_neg c) ?_
    rw [decide_eq_false (show ¬ h.length ≤ 16 by omega)]; exact Ev.now _
theorem okS_is {h l : List Int} (k : okS h l = true) : h.length ≤ 16 ∧ (1 ≤ l.length ∧ l.length ≤ 14) ∧ dg h = true ∧ dg l = true := by
  unfold okS at k
  simp only [Bool.and_eq_true, decide_eq_true_eq] at k
  exact ⟨k.1, k.2.1, k.2.2.1, k.2.2.2⟩
/-- What the value of a stream is made of. -/
def valP (h l : List Int) : Int := whole h * (2 ^ l.length - 1) + whole l
def valQ (h l : List Int) : Int := (2 ^ l.length - 1) * 2 ^ h.length
theorem whole_int (xs : List Int) (h : dg xs = true) : -(2 ^ xs.length - 1 : Int) ≤ whole xs ∧ whole xs ≤ 2 ^ xs.length - 1 := by
  have h1 := whole_abs xs (dg_mem h)
  have h2 : ((whole xs).natAbs : Int) + 1 ≤ 2 ^ xs.length := by exact_mod_cast h1
  generalize (2 : Int) ^ xs.length = z at h2 ⊢
  omega
theorem two_pow_le {a b : Nat} (h : a ≤ b) : (2 : Int) ^ a ≤ 2 ^ b := by
  have : (2 : Nat) ^ a ≤ 2 ^ b := Nat.pow_le_pow_right (by omega) h
  exact_mod_cast this
theorem val_bd {h l : List Int} (k : okS h l = true) : 1 ≤ valQ h l ∧ valQ h l ≤ 1073741824 ∧ -(valQ h l) ≤ valP h l ∧ valP h l ≤ valQ h l ∧ (-1073741824 ≤ whole h * (2 ^ l.length - 1) ∧ whole h * (2 ^ l.length - 1) ≤ 1073741824) ∧ (1 ≤ (2 : Int) ^ l.length - 1 ∧ (2 : Int) ^ l.length - 1 ≤ 16383) := by
  obtain ⟨k1, ⟨k2, k3⟩, k4, k5⟩ := okS_is k
  have a := whole_int h k4
  have b := whole_int l k5
  have p1 := two_pow_le k2
  have p2 := two_pow_le k3
  have p3 := two_pow_le k1
  have p4 : (1 : Int) ≤ 2 ^ h.length := by have := two_pow_le (Nat.zero_le h.length); simpa using this
  rw [show (2 : Int) ^ 1 = 2 from rfl] at p1
  rw [show (2 : Int) ^ 14 = 16384 from rfl] at p2
  rw [show (2 : Int) ^ 16 = 65536 from rfl] at p3
  unfold valQ valP
  have hm : 1 ≤ (2 : Int) ^ l.length - 1 := by omega
  have hm2 : (2 : Int) ^ l.length - 1 ≤ 16383 := by omega
  generalize (2 : Int) ^ l.length - 1 = m at *
  generalize (2 : Int) ^ h.length = H at *
  generalize whole h = x at *
  generalize whole l = y at *
  have e1 : x * m ≤ (H - 1) * m := Int.mul_le_mul_of_nonneg_right (by omega) (by omega)
  have e2 : -(H - 1) * m ≤ x * m := Int.mul_le_mul_of_nonneg_right (by omega) (by omega)
  have e3 : (H - 1) * m = m * H - m := by rw [Int.sub_mul, Int.one_mul, Int.mul_comm]
  have e4 : -(H - 1) * m = -(m * H - m) := by rw [Int.neg_mul, e3]
  have e5 : m * H ≤ 16383 * 65536 := Int.mul_le_mul hm2 (by omega) (by omega) (by omega)
  have e6 : m * 1 ≤ m * H := Int.mul_le_mul_of_nonneg_left p4 (by omega)
  rw [Int.mul_one] at e6
  rw [e3] at e1
  rw [e4] at e2
  generalize m * H = q at *
  generalize x * m = z at *
  omega
/-- The value of a valid stream. -/
def valS (h l : List Int) : Int × Int := ((mkR (valP h l) (valQ h l)).1, (mkR (valP h l) (valQ h l)).2.1)
theorem specVal_ev {h l : List Int} (k : okS h l = true) : Ev (fun k => spec_l03Value.f k h l) (valS h l) := by
  obtain ⟨k1, ⟨k2, k3⟩, k4, k5⟩ := okS_is k
  have b := val_bd k
  have e : shl .i64 1 (l.length : Int) = 2 ^ l.length := by rw [shl_is 1 _ (by omega) (by omega) (by omega), Int.one_mul]
  unfold spec_l03Value.f
  rw [u64_id (by omega) (by omega), u64_id (by omega) (by omega), e, wrap64_id (n := 2 ^ l.length - 1) (by omega) (by omega), shl_is _ _ (by omega) (by omega) (by omega)]
  refine Ev.congr (fun k => if_pos (by omega)) ?_
  refine Ev.bind (specWhole_ev h (by omega) (dg_mem k4)) ?_
  refine Ev.bind (specWhole_ev l (by omega) (dg_mem k5)) ?_
  refine Ev.congr (fun k => if_pos (by omega)) ?_
  unfold valP valQ at b
  rw [wrap64_id (n := whole h * (2 ^ l.length - 1)) (by omega) (by omega), wrap64_id (n := whole h * (2 ^ l.length - 1) + whole l) (by omega) (by omega)]
  refine Ev.bind (specMake_ev (by omega) (by omega) (by omega)) ?_
  exact Ev.now _
theorem implVal_ev {h l : List Int} (k : okS h l = true) : Ev (fun k => impl_Stream_value.f k h l) (valS h l) := by
  obtain ⟨k1, ⟨k2, k3⟩, k4, k5⟩ := okS_is k
  have b := val_bd k
  have e : shl .i64 1 (l.length : Int) = 2 ^ l.length := by rw [shl_is 1 _ (by omega) (by omega) (by omega), Int.one_mul]
  unfold impl_Stream_value.f
  rw [e, wrap64_id (n := 2 ^ l.length - 1) (by omega) (by omega), shl_is _ _ (by omega) (by omega) (by omega)]
  refine Ev.bind (implWeigh_ev h (by omega) (dg_mem k4)) ?_
  refine Ev.bind (implWeigh_ev l (by omega) (dg_mem k5)) ?_
  unfold valP valQ at b
  rw [wrap64_id (n := whole h * (2 ^ l.length - 1)) (by omega) (by omega), wrap64_id (n := whole h * (2 ^ l.length - 1) + whole l) (by omega) (by omega)]
  refine Ev.bind (implMake_ev (by omega) (by omega) (by omega)) ?_
  exact Ev.now _
theorem toStream_ev (h l : List Int) (h1 : h.length ≤ 1048576) (h2 : l.length ≤ 1048576) : Ev (fun k => laws_toStream.f k h l) (h, l) := by
  unfold laws_toStream.f
  exact Ev.bind (toInt8S_ev h (by omega)) (Ev.bind (toInt8S_ev l (by omega)) (Ev.now _))
theorem eqStream_ev (h l : List Int) (h1 : h.length ≤ 1048576) (h2 : l.length ≤ 1048576) : Ev (fun k => laws_eqStream.f k h l h l) true := by
  unfold laws_eqStream.f
  refine Ev.bind (eqInt8S_ev h (by omega)) (Ev.congr (fun k => if_pos rfl) ?_)
  exact Ev.bind (eqInt8S_ev l (by omega)) (Ev.congr (fun k => if_pos rfl) (Ev.now _))
theorem szInt8S_eq (l : List Int) (a : Int) (hl : l.length ≤ 140737488351232) (h0 : 0 ≤ a) (h1 : a ≤ 1048576) : ∃ r, laws_szInt8S.f l a = some r ∧ (r < 0 ∨ (r ≤ a ∧ 0 ≤ r ∧ l.length ≤ 1048576)) := by
  unfold laws_szInt8S.f
  rw [wrap64_id (by omega) (by omega)]
  by_cases c : a - (l.length : Int) < 0
  · exact ⟨-1, by simp [c], by omega⟩
  · exact ⟨a - l.length, by simp [c], by omega⟩
theorem szStream_eq (h l : List Int) (a : Int) (hh : h.length ≤ 140737488351232) (hl : l.length ≤ 140737488351232) (h0 : 0 ≤ a) (h1 : a ≤ 1048576) : ∃ r, laws_szStream.f h l a = some r ∧ (r < 0 ∨ (r ≤ a ∧ 0 ≤ r ∧ h.length ≤ 1048576 ∧ l.length ≤ 1048576)) := by
  obtain ⟨r, hr, h2⟩ := szInt8S_eq h a hh h0 h1
  unfold laws_szStream.f
  simp only [hr, Option.bind_some]
  by_cases c : r < 0
  · exact ⟨-1, by rw [if_pos c], by omega⟩
  rw [if_neg c]
  obtain ⟨s, hs, h3⟩ := szInt8S_eq l r hl (by omega) (by omega)
  simp only [hs, Option.bind_some]
  by_cases c2 : s < 0
  · exact ⟨-1, by rw [if_pos c2], by omega⟩
  · exact ⟨s, by rw [if_neg c2], by omega⟩
def ordV (a b c d : Int) : Int := if wrap64 (a * d) < wrap64 (c * b) then -1 else (if wrap64 (a * d) > wrap64 (c * b) then 1 else 0)
def cmpR (h l g m : List Int) : Int × Int := if (okS h l && okS g m) = true then (ordV (valS h l).1 (valS h l).2 (valS g m).1 (valS g m).2, 0) else (0, 1)
theorem valS_ok {h l : List Int} (k : okS h l = true) : ratioOk (valS h l).1 (valS h l).2 = true := by
  have b := val_bd k
  unfold valS
  rw [mkR_ok (by omega) (by omega) (by omega)]
  exact mk_ok (by omega) (by omega) (by omega)
theorem specOrder_is (a b c d : Int) : spec_l03Order.f a b c d = some (ordV a b c d) := by
  unfold spec_l03Order.f ordV
  repeat' split
  all_goals rfl
theorem implOrder_is (a b c d : Int) : impl_order.f (wrap64 (a * d)) (wrap64 (c * b)) = some (ordV a b c d) := by
  unfold impl_order.f ordV
  repeat' split
  all_goals rfl
theorem specCmp_ev (h l g m : List Int) (h1 : h.length ≤ 1048576) (h2 : l.length ≤ 1048576) (h3 : g.length ≤ 1048576) (h4 : m.length ≤ 1048576) : Ev (fun k => spec_CompareStreams.f k h l g m) (cmpR h l g m) := by
  have bad : Ev (fun k => spec_CompareStreams.j0 k true h l g m) (0, 1) := Ev.step (fun k => by rw [spec_CompareStreams.j0, if_pos rfl]) (Ev.now _)
  refine Ev.congr (fun k => by unfold spec_CompareStreams.f; rfl) (Ev.bind (specOk_ev h l h1 h2) ?_)
  unfold cmpR
  cases c : okS h l with
  | false => exact Ev.congr (fun k => if_neg (by decide)) bad
  | true =>
    refine Ev.congr (fun k => if_pos rfl) (Ev.bind (specOk_ev g m h3 h4) ?_)
    cases c2 : okS g m with
    | false => exact bad
    | true =>
      refine Ev.step (fun k => by rw [spec_CompareStreams.j0, if_neg (by decide)]) ?_
      refine Ev.bind (specVal_ev c) (Ev.bind (specVal_ev c2) ?_)
      simp only [specOrder_is, Option.bind_some]
      exact Ev.now _
theorem implCmp_ev (h l g m : List Int) (h1 : h.length ≤ 1048576) (h2 : l.length ≤ 1048576) (h3 : g.length ≤ 1048576) (h4 : m.length ≤ 1048576) : Ev (fun k => impl_CompareStreams.f k h l g m) (cmpR h l g m) := by
  have bad : Ev (fun k => impl_CompareStreams.j0 k true h l g m) (0, 1) := Ev.step (fun k => by rw [impl_CompareStreams.j0, if_pos rfl]) (Ev.now _)
  refine Ev.congr (fun k => by unfold impl_CompareStreams.f; rfl) (Ev.bind (implOk_ev h l h1 h2) ?_)
  unfold cmpR
  cases c : okS h l with
  | false => exact Ev.congr (fun k => if_neg (by decide)) bad
  | true =>
    refine Ev.congr (fun k => if_pos rfl) (Ev.bind (implOk_ev g m h3 h4) ?_)
    cases c2 : okS g m with
    | false => exact bad
    | true =>
      refine Ev.step (fun k => by rw [impl_CompareStreams.j0, if_neg (by decide)]) ?_
      refine Ev.bind (implVal_ev c) (Ev.bind (implVal_ev c2) ?_)
      have e : Ev (fun k => impl_CompareRatios.f k (valS h l).1 (valS h l).2 (valS g m).1 (valS g m).2) (ordV (valS h l).1 (valS h l).2 (valS g m).1 (valS g m).2, 0) := by
        refine Ev.congr (fun k => by unfold impl_CompareRatios.f; rfl) (Ev.bind (implRatio_ev _ _) ?_)
        rw [valS_ok c]
        refine Ev.congr (fun k => if_pos rfl) (Ev.bind (implRatio_ev _ _) ?_)
        rw [valS_ok c2]
        refine Ev.congr (fun k => if_pos rfl) ?_
        simp only [implOrder_is, Option.bind_some]
        exact Ev.now _
      exact Ev.bind e (Ev.now _)
theorem FnExactCompareStreams : laws_FnExactCompareStreams.Pure := by
  intro x y ⟨⟨hx, _⟩, ⟨hy, _⟩⟩ ⟨⟨hz, _⟩, ⟨ht, _⟩⟩
  obtain ⟨h, l⟩ := x
  obtain ⟨g, m⟩ := y
  simp only at hx hy hz ht
  obtain ⟨r, hr, hb⟩ := szStream_eq h l 1048576 (by omega) (by omega) (by omega) (by omega)
  unfold laws_FnExactCompareStreams.f
  simp only [hr, Option.bind_some]
  by_cases c : r < 0
  · exact ⟨0, by rw [if_pos c]⟩
  obtain ⟨s, hs, hb2⟩ := szStream_eq g m r (by omega) (by omega) (by omega) (by omega)
  simp only [if_neg c, hs, Option.bind_some]
  by_cases c2 : s < 0
  · exact ⟨0, by rw [if_pos c2]⟩
  have n1 : h.length ≤ 1048576 := by omega
  have n2 : l.length ≤ 1048576 := by omega
  have n3 : g.length ≤ 1048576 := by omega
  have n4 : m.length ≤ 1048576 := by omega
  obtain ⟨k1, e1⟩ := toStream_ev h l n1 n2
  obtain ⟨k2, e2⟩ := specCmp_ev h l g m n1 n2 n3 n4
  obtain ⟨k3, e3⟩ := implCmp_ev h l g m n1 n2 n3 n4
  obtain ⟨k4, e4⟩ := eqStream_ev h l n1 n2
  obtain ⟨k5, e5⟩ := toStream_ev g m n3 n4
  obtain ⟨k6, e6⟩ := eqStream_ev g m n3 n4
  have f1 := e1 (k1 + k2 + k3 + k4 + k5 + k6) (by omega)
  have g1 := e1 (k1 + k2 + k3 + k4 + k5 + k6 + 1) (by omega)
  have f2 := e2 (k1 + k2 + k3 + k4 + k5 + k6 + 1) (by omega)
  have f3 := e3 (k1 + k2 + k3 + k4 + k5 + k6 + 1) (by omega)
  have f4 := e4 (k1 + k2 + k3 + k4 + k5 + k6) (by omega)
  have f5 := e5 (k1 + k2 + k3 + k4 + k5 + k6) (by omega)
  have g5 := e5 (k1 + k2 + k3 + k4 + k5 + k6 + 1) (by omega)
  have f6 := e6 (k1 + k2 + k3 + k4 + k5 + k6) (by omega)
  simp only at f1 f2 f3 f4 g1 f5 g5 f6
  refine ⟨k1 + k2 + k3 + k4 + k5 + k6 + 1, ?_⟩
  simp [if_neg c2, g1, g5, f2, f3, laws_FnExactCompareStreams.j0, f1, f4, f5, f6]
end Go.Proofs.Ytfenifdigjcmiaa.Pure
