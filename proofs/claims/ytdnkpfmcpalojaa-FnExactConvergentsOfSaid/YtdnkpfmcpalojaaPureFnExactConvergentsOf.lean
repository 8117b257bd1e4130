/- The program's ConvergentsOf returns what the reference's returns, for every list of int64. -/
import Derived.Test.YtdnkpfmcpalojaaMFnExactConvergentsOfx5
import Derived.Test.YtdnkpfmcpalojaaMOpen
namespace Go.Proofs.Ytdnkpfmcpalojaa.Pure
open Go.RowKit Go.Proofs.Ytdnkpfmcpalojaa.MFnExactConvergentsOf Go.Proofs.Ytdnkpfmcpalojaa.MOpen Go.Proofs.YtdnkpfmcpalojaaW.PrintWords Go.Proofs.YtdnkpfmcpalojaaW.PrintLast Go.Proofs.YtdnkpfmcpalojaaW.PrintMore
set_option linter.unusedVariables false
set_option linter.unusedSimpArgs false
theorem wrap64_id {n : Int} (h0 : -9223372036854775808 ≤ n) (h1 : n ≤ 9223372036854775807) : wrap64 n = n := by
  unfold wrap64; omega
theorem rd_nat (xs : List Int) (i : Nat) : rd xs (i : Int) = xs.getD i 0 := by simp [rd]
theorem rd_get (xs : List Int) (i : Nat) (h : i < xs.length) : rd xs (i : Int) = xs[i] := by simp [rd, h]
theorem ev_k {α : Type} {f : Nat → Option α} {r : α} (n : Nat) (h : ∀ k, n ≤ k → f k = some r) : Ev f r := ⟨n, h⟩
theorem l00In_some (a b c : Int) : spec_l00In.f a b c = some (decide (b ≤ a ∧ a ≤ c)) := by
  unfold spec_l00In.f
  split <;> simp <;> omega
theorem within_some (a b c : Int) : impl_within.f a b c = some (decide (b ≤ a ∧ a ≤ c)) := l00In_some a b c
theorem size_is {a : Int} (h0 : -9223372036854775807 ≤ a) (h1 : a ≤ 9223372036854775807) : spec_l03Size.f a = some (a.natAbs : Int) := by
  unfold spec_l03Size.f
  split
  · rw [wrap64_id (by omega) (by omega)]; congr 1; omega
  · congr 1; omega
theorem mx_abs {a : Int} (h0 : -9223372036854775807 ≤ a) (h1 : a ≤ 9223372036854775807) : mx a (wrap64 (-a)) = (a.natAbs : Int) := by
  unfold mx; rw [wrap64_id (by omega) (by omega)]; split <;> omega
theorem tmod_nat (m n : Nat) : Int.tmod (m : Int) (n : Int) = ((m % n : Nat) : Int) := by
  rw [Int.tmod_eq_emod_of_nonneg (by omega)]; exact (Int.natCast_emod m n).symm
theorem specGcd_loop (n : Nat) : ∀ m : Nat, Ev (fun k => spec_l03Common.l0 k (m : Int) (n : Int)) (Nat.gcd m n : Int) := by
  induction n using Nat.strongRecOn with
  | _ n ih =>
    intro m
    refine Ev.step (fun k => by rw [spec_l03Common.l0]) ?_
    by_cases c : n = 0
    · subst c
      refine Ev.congr (fun k => if_pos rfl) ?_
      rw [Nat.gcd_zero_right]; exact Ev.now _
    · refine Ev.congr (fun k => if_neg (by omega)) ?_
      rw [tmod_nat, show Nat.gcd m n = Nat.gcd n (m % n) by rw [Nat.gcd_comm, Nat.gcd_rec, Nat.gcd_comm]]
      exact ih (m % n) (Nat.mod_lt _ (by omega)) n
theorem specGcd_ev {a b : Int} (ha : -9223372036854775807 ≤ a ∧ a ≤ 9223372036854775807) (hb : -9223372036854775807 ≤ b ∧ b ≤ 9223372036854775807) : Ev (fun k => spec_l03Common.f k a b) (Int.gcd a b : Int) := by
  refine Ev.congr (fun k => by unfold spec_l03Common.f; rfl) ?_
  rw [size_is ha.1 ha.2, size_is hb.1 hb.2]
  simp only [Option.bind_some]
  exact specGcd_loop b.natAbs a.natAbs
/-- Whether a ratio is valid. -/
def ratioOk (p q : Int) : Bool := decide (1 ≤ q ∧ q ≤ 2147483648) && (decide (-2147483648 ≤ p ∧ p ≤ 2147483648) && ((Int.gcd p q : Int) == 1))
theorem specRatio_ev (p q : Int) : Ev (fun k => spec_l03Ratio.f k p q) (ratioOk p q) := by
  refine Ev.congr (fun k => by unfold spec_l03Ratio.f; rfl) ?_
  rw [l00In_some, l00In_some]; simp only [Option.bind_some]
  unfold ratioOk
  by_cases c1 : 1 ≤ q ∧ q ≤ 2147483648
  · refine Ev.congr (fun k => if_pos (by simp [c1])) ?_
    rw [decide_eq_true c1, Bool.true_and]
    by_cases c2 : -2147483648 ≤ p ∧ p ≤ 2147483648
    · refine Ev.congr (fun k => if_pos (by simp [c2])) ?_
      rw [decide_eq_true c2, Bool.true_and]
      exact Ev.bind (specGcd_ev (by omega) (by omega)) (Ev.now _)
    · refine Ev.congr (fun k => if_neg (by simp; omega)) ?_
      rw [decide_eq_false c2, Bool.false_and]; exact Ev.now _
  · refine Ev.congr (fun k => if_neg (by simp; omega)) ?_
    rw [decide_eq_false c1, Bool.false_and]; exact Ev.now _
theorem ratioOk_is {p q : Int} (h : ratioOk p q = true) : (1 ≤ q ∧ q ≤ 2147483648) ∧ (-2147483648 ≤ p ∧ p ≤ 2147483648) ∧ Int.gcd p q = 1 := by
  unfold ratioOk at h
  simp only [Bool.and_eq_true, decide_eq_true_iff, beq_iff_eq] at h
  exact ⟨h.1, h.2.1, by omega⟩
/-- What terms come to, from the last one on: the parts of their ratio. -/
def cf : List Int → Int × Int
  | [] => (1, 0)
  | a :: l => (a * (cf l).1 + (cf l).2, (cf l).1)
theorem cf_gcd : ∀ l : List Int, Int.gcd (cf l).1 (cf l).2 = 1
  | [] => by decide
  | a :: l => by
    have ih := cf_gcd l
    simp only [cf]
    rw [Int.gcd_comm, Int.gcd_mul_right_add_right]; exact ih
theorem cf_up : ∀ l : List Int, (∀ z ∈ l, 1 ≤ z) → 1 ≤ (cf l).1 ∧ 0 ≤ (cf l).2 ∧ (cf l).2 ≤ (cf l).1
  | [], _ => by simp [cf]
  | a :: l, h => by
    have ih := cf_up l (fun z hz => h z (List.mem_cons_of_mem _ hz))
    have ha := h a (List.mem_cons_self ..)
    have h1 : 1 * (cf l).1 ≤ a * (cf l).1 := Int.mul_le_mul_of_nonneg_right ha (by omega)
    simp only [cf]
    omega
theorem cf_drop (l : List Int) (h : ∀ z ∈ l, 1 ≤ z) : ∀ j, (cf (l.drop j)).1 ≤ (cf l).1 := by
  induction l with
  | nil => intro j; simp
  | cons a l ih =>
    intro j
    cases j with
    | zero => simp
    | succ j =>
      have h2 := ih (fun z hz => h z (List.mem_cons_of_mem _ hz)) j
      have h3 := cf_up l (fun z hz => h z (List.mem_cons_of_mem _ hz))
      have ha := h a (List.mem_cons_self ..)
      have h1 : 1 * (cf l).1 ≤ a * (cf l).1 := Int.mul_le_mul_of_nonneg_right ha (by omega)
      simp only [List.drop_succ_cons, cf]
      omega
/-- The same, from the first one on. -/
def fw (p q p0 q0 : Int) : List Int → Int × Int
  | [] => (p, q)
  | a :: l => fw (a * p + p0) (a * q + q0) p q l
theorem fw_cf : ∀ (l : List Int) (p q p0 q0 : Int), fw p q p0 q0 l = (p * (cf l).1 + p0 * (cf l).2, q * (cf l).1 + q0 * (cf l).2)
  | [], p, q, p0, q0 => by simp [fw, cf]
  | a :: l, p, q, p0, q0 => by
    simp only [fw, cf]
    rw [fw_cf l]
    refine Prod.ext ?_ ?_ <;> simp only <;> grind
theorem fw_start (l : List Int) : fw 1 0 0 1 l = cf l := by
  rw [fw_cf]; refine Prod.ext ?_ ?_ <;> simp
/-- What is known of terms that a value is asked of: the last one need not be 2. -/
def TermsLike (xs : List Int) : Prop := (1 ≤ xs.length ∧ xs.length ≤ 40) ∧ ∀ j, j < xs.length → -1000000000 ≤ xs.getD j 0 ∧ xs.getD j 0 ≤ 1000000000 ∧ (0 < j → 1 ≤ xs.getD j 0)
theorem TermsLike.rest {xs : List Int} (h : TermsLike xs) (m : Nat) : ∀ z ∈ xs.drop (m + 1), 1 ≤ z := by
  intro z hz
  obtain ⟨j, hj, rfl⟩ := List.mem_iff_getElem.1 hz
  simp only [List.length_drop] at hj
  have := (h.2 (m + 1 + j) (by omega)).2.2 (by omega)
  rw [List.getElem_drop]
  rwa [List.getD_eq_getElem?_getD, List.getElem?_eq_getElem (by omega)] at this
theorem TermsLike.take {xs : List Int} (h : TermsLike xs) (n : Nat) (h1 : 1 ≤ n) (h2 : n ≤ xs.length) : TermsLike (xs.take n) := by
  refine ⟨by simp; have := h.1; omega, fun j hj => ?_⟩
  simp only [List.length_take] at hj
  have := h.2 j (by omega)
  rw [List.getD_eq_getElem?_getD, List.getElem?_take_of_lt (by omega), ← List.getD_eq_getElem?_getD]
  exact this
/-- The ratio of terms, with a code. -/
def valR (xs : List Int) : Int × Int × Int := if ((cf xs).1.natAbs : Int) ≤ 2147483648 ∧ (cf xs).2 ≤ 2147483648 then ((cf xs).1, (cf xs).2, 0) else (0, 0, 3)
theorem specMake_one {p q : Int} (hq : 1 ≤ q) (hg : Int.gcd p q = 1) (hp : -4611686018427387904 ≤ p ∧ p ≤ 4611686018427387904) (hq2 : q ≤ 4611686018427387904) : Ev (fun k => spec_l03Make.f k p q) (if ratioOk p q = true then (p, q, 0) else (0, 0, 3)) := by
  refine Ev.congr (fun k => by unfold spec_l03Make.f; rfl) (Ev.bind (specGcd_ev (by omega) (by omega)) ?_)
  rw [hg]
  refine Ev.congr (fun k => if_neg (by omega)) (Ev.congr (fun k => if_neg (by decide)) ?_)
  rw [show ((1 : Nat) : Int) = 1 from rfl, Int.tdiv_one, Int.tdiv_one, wrap64_id (n := p) (by omega) (by omega), wrap64_id (n := q) (by omega) (by omega)]
  refine Ev.bind (specRatio_ev p q) ?_
  cases ratioOk p q <;> exact Ev.now _
theorem specValue_loop (xs : List Int) (h : TermsLike xs) : ∀ m : Nat, m < xs.length → (-4611686018427387904 ≤ (cf (xs.drop m)).1 ∧ (cf (xs.drop m)).1 ≤ 4611686018427387904) → (cf (xs.drop m)).2 ≤ 4611686018427387904 →
    Ev (fun k => spec_l04Value.l0 k xs (cf (xs.drop m)).1 (cf (xs.drop m)).2 ((m : Int) - 1)) (valR xs) := by
  have hone : 1 ≤ (cf xs).2 := by
    obtain ⟨a, l, rfl⟩ : ∃ a l, xs = a :: l := by
      cases xs with
      | nil => exact absurd h.1.1 (by simp)
      | cons a l => exact ⟨a, l, rfl⟩
    exact (cf_up l (by simpa using h.rest 0)).1
  intro m
  induction m with
  | zero =>
    intro hm hp hq
    refine Ev.step (fun k => by rw [spec_l04Value.l0]) (Ev.congr (fun k => if_neg (by omega)) ?_)
    rw [List.drop_zero] at hp hq ⊢
    refine Ev.bind (specMake_one hone (cf_gcd xs) hp hq) ?_
    have e : ratioOk (cf xs).1 (cf xs).2 = true ↔ ((cf xs).1.natAbs : Int) ≤ 2147483648 ∧ (cf xs).2 ≤ 2147483648 := by
      constructor
      · intro z; have := ratioOk_is z; omega
      · intro z; unfold ratioOk; rw [cf_gcd]; simp; omega
    unfold valR
    by_cases c : ratioOk (cf xs).1 (cf xs).2 = true
    · rw [if_pos c, if_pos (e.1 c)]; exact Ev.now _
    · rw [if_neg c, if_neg (fun z => c (e.2 z))]; exact Ev.now _
  | succ m ih =>
    intro hm hp hq
    have hup := cf_up _ (h.rest m)
    have hx := h.2 m (by omega)
    have hlen := h.1.2
    have hd : xs.drop m = xs.getD m 0 :: xs.drop (m + 1) := by
      rw [List.drop_eq_getElem_cons (by omega), List.getD_eq_getElem?_getD, List.getElem?_eq_getElem (by omega)]; rfl
    refine Ev.step (fun k => by rw [spec_l04Value.l0]) (Ev.congr (fun k => if_pos (by omega)) ?_)
    rw [size_is (by omega) (by omega)]; simp only [Option.bind_some]
    have hbig : 2147483648 < (cf (xs.drop (m + 1))).1 → valR xs = (0, 0, 3) := by
      intro z
      obtain ⟨a, l, rfl⟩ : ∃ a l, xs = a :: l := by
        cases xs with
        | nil => exact absurd h.1.1 (by simp)
        | cons a l => exact ⟨a, l, rfl⟩
      have h3 := cf_drop l (by simpa using h.rest 0) m
      rw [List.drop_succ_cons] at z
      unfold valR
      rw [if_neg]
      show ¬ (_ ∧ (cf l).1 ≤ _)
      omega
    by_cases c1 : (((cf (xs.drop (m + 1))).1.natAbs : Nat) : Int) > 2147483648
    · rw [hbig (by omega)]; exact Ev.congr (fun k => if_pos c1) (Ev.now _)
    · refine Ev.congr (fun k => if_neg c1) (Ev.congr (fun k => if_neg (by omega)) ?_)
      rw [show (((m + 1 : Nat) : Int) - 1) = (m : Int) by omega, rd_nat]
      have hmul : -(1000000000 * 2147483648) ≤ xs.getD m 0 * (cf (xs.drop (m + 1))).1 ∧ xs.getD m 0 * (cf (xs.drop (m + 1))).1 ≤ 1000000000 * 2147483648 := by
        have h5 : xs.getD m 0 * (cf (xs.drop (m + 1))).1 ≤ 1000000000 * (cf (xs.drop (m + 1))).1 := Int.mul_le_mul_of_nonneg_right (by omega) (by omega)
        have h6 : -1000000000 * (cf (xs.drop (m + 1))).1 ≤ xs.getD m 0 * (cf (xs.drop (m + 1))).1 := Int.mul_le_mul_of_nonneg_right (by omega) (by omega)
        omega
      rw [wrap64_id (n := xs.getD m 0 * (cf (xs.drop (m + 1))).1) (by omega) (by omega), wrap64_id (n := xs.getD m 0 * (cf (xs.drop (m + 1))).1 + (cf (xs.drop (m + 1))).2) (by omega) (by omega), wrap64_id (n := (m : Int) - 1) (by omega) (by omega)]
      refine Ev.congr (fun k => if_pos (by omega)) (Ev.congr (fun k => if_pos (by omega)) ?_)
      have := ih (by omega) (by rw [hd]; simp only [cf]; omega) (by rw [hd]; simp only [cf]; omega)
      rw [hd] at this
      exact this
theorem specValue_ev (xs : List Int) (h : TermsLike xs) : Ev (fun k => spec_l04Value.f k xs) (valR xs) := by
  refine Ev.congr (fun k => by unfold spec_l04Value.f; rfl) ?_
  have hn := h.1
  have hl := h.2 (xs.length - 1) (by omega)
  have hd : xs.drop (xs.length - 1) = [xs.getD (xs.length - 1) 0] := by
    rw [List.drop_eq_getElem_cons (by omega), List.getD_eq_getElem?_getD, List.getElem?_eq_getElem (by omega), List.drop_eq_nil_of_le (by omega)]; rfl
  have := specValue_loop xs h (xs.length - 1) (by omega) (by rw [hd]; simp only [cf, Int.mul_one, Int.add_zero]; omega) (by rw [hd]; simp [cf])
  rw [hd] at this
  rw [wrap64_id (n := (xs.length : Int) - 1) (by omega) (by omega), wrap64_id (n := (xs.length : Int) - 2) (by omega) (by omega)]
  refine Ev.congr (fun k => if_pos (by omega)) (Ev.congr (fun k => if_pos (by omega)) ?_)
  rw [show ((xs.length : Int) - 1) = ((xs.length - 1 : Nat) : Int) by omega, rd_nat, show ((xs.length : Int) - 2) = ((xs.length - 1 : Nat) : Int) - 1 by omega]
  simpa [cf] using this
theorem fwd_tail {l : List Int} {p q p0 q0 : Int} (h : ∀ z ∈ l, 1 ≤ z) (hs : (0 ≤ p ∧ 0 ≤ p0) ∨ (p ≤ 0 ∧ p0 ≤ 0)) (hq : 0 ≤ q) (hq0 : 0 ≤ q0) : p.natAbs ≤ (fw p q p0 q0 l).1.natAbs ∧ q ≤ (fw p q p0 q0 l).2 := by
  induction l generalizing p q p0 q0 with
  | nil => exact ⟨Nat.le_refl _, Int.le_refl _⟩
  | cons a l ih =>
    have ha := h a (List.mem_cons_self ..)
    have h1 : 1 * q ≤ a * q := Int.mul_le_mul_of_nonneg_right ha hq
    have h2 : (0 ≤ p → 1 * p ≤ a * p) ∧ (p ≤ 0 → a * p ≤ 1 * p) := ⟨fun z => Int.mul_le_mul_of_nonneg_right ha z, fun z => Int.mul_le_mul_of_nonpos_right ha z⟩
    have := ih (p := a * p + p0) (q := a * q + q0) (p0 := p) (q0 := q) (fun z hz => h z (List.mem_cons_of_mem _ hz)) (by omega) (by omega) hq
    simp only [fw]
    omega
/-- What holds while the convergents are found: state (p, q, p0, q0) behind i terms. -/
structure At (xs : List Int) (i : Nat) (p q p0 q0 : Int) : Prop where
  here : ∀ l, cf (xs.take i ++ l) = fw p q p0 q0 l
  p1 : -2147483648 ≤ p ∧ p ≤ 2147483648
  p2 : -2147483648 ≤ p0 ∧ p0 ≤ 2147483648
  q1 : 0 ≤ q ∧ q ≤ 2147483648
  q2 : 0 ≤ q0 ∧ q0 ≤ 2147483648
  sgn : i = 0 ∧ p = 1 ∧ p0 = 0 ∧ q = 0 ∧ q0 = 1 ∨ 1 ≤ i ∧ ((0 ≤ p ∧ 0 ≤ p0) ∨ (p ≤ 0 ∧ p0 ≤ 0) ∨ (p ≤ -1 ∧ p0 = 1))
theorem at_zero (xs : List Int) : At xs 0 1 0 0 1 := ⟨fun l => by rw [List.take_zero, List.nil_append, fw_start], by omega, by omega, by omega, by omega, .inl ⟨rfl, rfl, rfl, rfl, rfl⟩⟩
theorem take_step {xs : List Int} {i : Nat} (hi : i < xs.length) : xs.take (i + 1) = xs.take i ++ [xs.getD i 0] := by
  rw [List.take_add_one, List.getElem?_eq_getElem hi, List.getD_eq_getElem?_getD, List.getElem?_eq_getElem hi]; rfl
theorem at_here {xs : List Int} {i : Nat} {p q p0 q0 : Int} (h : At xs i p q p0 q0) (hi : i < xs.length) : cf (xs.take (i + 1)) = (xs.getD i 0 * p + p0, xs.getD i 0 * q + q0) := by
  rw [take_step hi, h.here]; rfl
/-- A round's products are small. -/
theorem at_small {xs : List Int} (hx : TermsLike xs) {i : Nat} {p q p0 q0 : Int} (h : At xs i p q p0 q0) (hi : i < xs.length) : (-2147483648000000000 ≤ xs.getD i 0 * p ∧ xs.getD i 0 * p ≤ 2147483648000000000) ∧ (-2147483648000000000 ≤ xs.getD i 0 * q ∧ xs.getD i 0 * q ≤ 2147483648000000000) ∧ (0 ≤ xs.getD i 0 * q + q0) := by
  have hz := hx.2 i hi
  have aux : ∀ y : Int, -2147483648 ≤ y → y ≤ 2147483648 → -2147483648000000000 ≤ xs.getD i 0 * y ∧ xs.getD i 0 * y ≤ 2147483648000000000 := by
    intro y h0 h1
    rcases Int.le_total 0 y with c | c
    · have h5 : xs.getD i 0 * y ≤ 1000000000 * y := Int.mul_le_mul_of_nonneg_right (by omega) c
      have h6 : -1000000000 * y ≤ xs.getD i 0 * y := Int.mul_le_mul_of_nonneg_right (by omega) c
      omega
    · have h5 : 1000000000 * y ≤ xs.getD i 0 * y := Int.mul_le_mul_of_nonpos_right (by omega) c
      have h6 : xs.getD i 0 * y ≤ -1000000000 * y := Int.mul_le_mul_of_nonpos_right (by omega) c
      omega
  refine ⟨aux p h.p1.1 h.p1.2, aux q (by have := h.q1; omega) h.q1.2, ?_⟩
  rcases h.sgn with ⟨rfl, rfl, rfl, rfl, rfl⟩ | ⟨h1, _⟩
  · simp
  · have := Int.mul_nonneg (a := xs.getD i 0) (b := q) (by have := hz.2.2 (by omega); omega) h.q1.1
    have := h.q2
    omega
theorem at_next {xs : List Int} (hx : TermsLike xs) {i : Nat} {p q p0 q0 : Int} (h : At xs i p q p0 q0) (hi : i < xs.length) (hp : -2147483648 ≤ xs.getD i 0 * p + p0 ∧ xs.getD i 0 * p + p0 ≤ 2147483648) (hq : xs.getD i 0 * q + q0 ≤ 2147483648) : At xs (i + 1) (xs.getD i 0 * p + p0) (xs.getD i 0 * q + q0) p q := by
  have hz := hx.2 i hi
  refine ⟨fun l => ?_, hp, h.p1, ⟨(at_small hx h hi).2.2, hq⟩, h.q1, .inr ⟨by omega, ?_⟩⟩
  · rw [take_step hi, List.append_assoc, h.here]; rfl
  · rcases h.sgn with ⟨rfl, rfl, rfl, rfl, rfl⟩ | ⟨h1, h2⟩
    · omega
    · have ha := hz.2.2 (by omega)
      have h3 : (0 ≤ p → 1 * p ≤ xs.getD i 0 * p) ∧ (p ≤ 0 → xs.getD i 0 * p ≤ 1 * p) := ⟨fun z => Int.mul_le_mul_of_nonneg_right ha z, fun z => Int.mul_le_mul_of_nonpos_right ha z⟩
      omega
/-- Too large a convergent leaves too large a ratio. -/
theorem at_over {xs : List Int} (hx : TermsLike xs) {i : Nat} {p q p0 q0 : Int} (h : At xs i p q p0 q0) (hi : i < xs.length) (ho : ¬ (((xs.getD i 0 * p + p0).natAbs : Int) ≤ 2147483648 ∧ xs.getD i 0 * q + q0 ≤ 2147483648)) : valR xs = (0, 0, 3) := by
  have hz := hx.2 i hi
  rcases h.sgn with ⟨rfl, rfl, rfl, rfl, rfl⟩ | ⟨h1, h2⟩
  · omega
  · have ha := hz.2.2 (by omega)
    have h3 : (0 ≤ p → 1 * p ≤ xs.getD i 0 * p) ∧ (p ≤ 0 → xs.getD i 0 * p ≤ 1 * p) := ⟨fun z => Int.mul_le_mul_of_nonneg_right ha z, fun z => Int.mul_le_mul_of_nonpos_right ha z⟩
    have hd : xs.getD i 0 :: xs.drop (i + 1) = xs.drop i := by
      rw [List.drop_eq_getElem_cons hi, List.getD_eq_getElem?_getD, List.getElem?_eq_getElem hi]; rfl
    have h4 := h.here (xs.getD i 0 :: xs.drop (i + 1))
    rw [hd, List.take_append_drop, ← hd] at h4
    have h5 := fwd_tail (l := xs.drop (i + 1)) (p := xs.getD i 0 * p + p0) (q := xs.getD i 0 * q + q0) (p0 := p) (q0 := q) (hx.rest i) (by omega) (at_small hx h hi).2.2 h.q1.1
    unfold valR
    rw [if_neg]
    rw [h4]
    simp only [fw]
    omega
theorem conv_step {xs : List Int} (hx : TermsLike xs) {i : Nat} {p q p0 q0 : Int} (h : At xs i p q p0 q0) (hi : i < xs.length) (out : List S30) (ho : out.length ≤ 40) (r : List S30)
    (hr : Ev (fun k => if (((xs.getD i 0 * p + p0).natAbs : Nat) : Int) > 2147483648 then some out else if xs.getD i 0 * q + q0 > 2147483648 then some out else impl_convergents.l0 k (out ++ [(⟨xs.getD i 0 * p + p0, xs.getD i 0 * q + q0⟩ : S30)]) (xs.getD i 0 * p + p0) (xs.getD i 0 * q + q0) p q xs (xs.length : Int) ((i : Int) + 1)) r) :
    Ev (fun k => impl_convergents.l0 k out p q p0 q0 xs (xs.length : Int) (i : Int)) r := by
  have hs := at_small hx h hi
  have h2 := h.p2
  have h3 := h.q2
  have hlen := hx.1.2
  refine Ev.step (fun k => by rw [impl_convergents.l0]) ?_
  rw [rd_nat, wrap64_id (n := xs.getD i 0 * p) (by omega) (by omega), wrap64_id (n := xs.getD i 0 * q) (by omega) (by omega), wrap64_id (n := xs.getD i 0 * p + p0) (by omega) (by omega), wrap64_id (n := xs.getD i 0 * q + q0) (by omega) (by omega), mx_abs (by omega) (by omega), wrap64_id (n := (i : Int) + 1) (by omega) (by omega)]
  refine Ev.congr (fun k => if_pos (by omega)) (Ev.congr (fun k => if_pos (by omega)) (Ev.congr (fun k => if_pos (by omega)) ?_))
  refine Ev.congr (fun k => ?_) hr
  rw [if_pos (show out.length < 8796093022208 by omega)]
/-- What both say of terms from index i on. -/
def TermsFrom (xs : List Int) (i : Nat) : Prop :=
  (∀ j, i ≤ j → j < xs.length → -1000000000 ≤ xs.getD j 0 ∧ xs.getD j 0 ≤ 1000000000 ∧ (0 < j → 1 ≤ xs.getD j 0)) ∧ (xs.length = 1 ∨ 2 ≤ xs.getD (xs.length - 1) 0)
theorem TermsFrom.step {xs : List Int} {i : Nat} (hi : i < xs.length) : TermsFrom xs i ↔ (-1000000000 ≤ xs.getD i 0 ∧ xs.getD i 0 ≤ 1000000000 ∧ (0 < i → 1 ≤ xs.getD i 0)) ∧ TermsFrom xs (i + 1) := by
  unfold TermsFrom
  constructor
  · rintro ⟨h, e⟩; exact ⟨h i (Nat.le_refl _) hi, fun j h1 h2 => h j (by omega) h2, e⟩
  · rintro ⟨h0, h, e⟩
    refine ⟨fun j h1 h2 => ?_, e⟩
    by_cases c : j = i
    · subst c; exact h0
    · exact h j (by omega) h2
theorem TermsFrom.done {xs : List Int} : TermsFrom xs xs.length ↔ (xs.length = 1 ∨ 2 ≤ xs.getD (xs.length - 1) 0) := by
  unfold TermsFrom
  constructor
  · rintro ⟨_, e⟩; exact e
  · intro e; exact ⟨fun j h1 h2 => by omega, e⟩
open Classical in
noncomputable def termsFrom (xs : List Int) (i : Nat) : Bool := decide (TermsFrom xs i)
open Classical in
theorem termsFrom_bad {xs : List Int} {i : Nat} (hi : i < xs.length) (h : ¬ (-1000000000 ≤ xs.getD i 0 ∧ xs.getD i 0 ≤ 1000000000 ∧ (0 < i → 1 ≤ xs.getD i 0))) : termsFrom xs i = false := by
  unfold termsFrom; rw [decide_eq_false_iff_not, TermsFrom.step hi]; exact fun z => h z.1
open Classical in
theorem termsFrom_good {xs : List Int} {i : Nat} (hi : i < xs.length) (h : (-1000000000 ≤ xs.getD i 0 ∧ xs.getD i 0 ≤ 1000000000 ∧ (0 < i → 1 ≤ xs.getD i 0))) : termsFrom xs i = termsFrom xs (i + 1) := by
  unfold termsFrom; rw [decide_eq_decide, TermsFrom.step hi]; exact ⟨fun z => z.2, fun z => ⟨h, z⟩⟩
open Classical in
theorem termsFrom_one {xs : List Int} (h : xs.length = 1) : termsFrom xs xs.length = true :=
  @decide_eq_true _ _ (TermsFrom.done.2 (.inl h))
open Classical in
theorem termsFrom_end {xs : List Int} (h : xs.length ≠ 1) : termsFrom xs xs.length = decide (xs.getD (xs.length - 1) 0 ≥ 2) := by
  by_cases c : xs.getD (xs.length - 1) 0 ≥ 2
  · rw [show decide (xs.getD (xs.length - 1) 0 ≥ 2) = true from decide_eq_true c]; exact @decide_eq_true _ _ (TermsFrom.done.2 (.inr c))
  · rw [show decide (xs.getD (xs.length - 1) 0 ≥ 2) = false from decide_eq_false c]; exact @decide_eq_false _ _ (fun z => c ((TermsFrom.done.1 z).resolve_left h))
theorem size_small {a : Int} (h0 : -9223372036854775808 ≤ a) (h : a ≤ 9223372036854775807) : ∃ r, spec_l03Size.f a = some r ∧ (r > 1000000000 → ¬ (-1000000000 ≤ a ∧ a ≤ 1000000000)) ∧ (¬ r > 1000000000 → ¬ a < -1000000000 → (-1000000000 ≤ a ∧ a ≤ 1000000000)) := by
  unfold spec_l03Size.f
  split
  · exact ⟨_, rfl, fun h => by unfold wrap64 at h; omega, fun h1 h2 => by unfold wrap64 at h1; omega⟩
  · exact ⟨_, rfl, fun h => by omega, fun h1 h2 => by omega⟩
theorem specTerms_loop (xs : List Int) (hw : ∀ j, j < xs.length → -9223372036854775808 ≤ xs.getD j 0 ∧ xs.getD j 0 ≤ 9223372036854775807) (h1 : 1 ≤ xs.length) (hn : xs.length ≤ 4611686018427387904) (d : Nat) : ∀ (i k : Nat), i + d = xs.length → d < k → spec_l04Terms.l0 k xs (xs.length : Int) (i : Int) = some (termsFrom xs i) := by
  induction d with
  | zero =>
    intro i k hd hk
    obtain ⟨k, rfl⟩ : ∃ m, k = m + 1 := ⟨k - 1, by omega⟩
    obtain rfl : i = xs.length := by omega
    simp only [spec_l04Terms.l0]; rw [if_neg (by omega)]
    by_cases e : xs.length = 1
    · rw [if_pos (by omega), termsFrom_one e]
    · rw [if_neg (by omega), wrap64_id (by omega) (by omega), if_pos (by omega), if_pos (by omega), termsFrom_end e, show ((xs.length : Int) - 1) = ((xs.length - 1 : Nat) : Int) by omega, rd_nat]
  | succ d ih =>
    intro i k hd hk
    obtain ⟨k, rfl⟩ : ∃ m, k = m + 1 := ⟨k - 1, by omega⟩
    have hi : i < xs.length := by omega
    obtain ⟨r, hr, h2, h3⟩ := size_small (hw i hi).1 (hw i hi).2
    simp only [spec_l04Terms.l0, rd_nat]; rw [if_pos (by omega), if_pos (by omega), if_pos (by omega), hr]; simp only [Option.bind_some]
    by_cases c1 : r > 1000000000
    · rw [if_pos c1, termsFrom_bad hi (fun z => h2 c1 ⟨z.1, z.2.1⟩)]
    · rw [if_neg c1]
      by_cases c2 : xs.getD i 0 < -1000000000
      · rw [if_pos c2, termsFrom_bad hi (fun z => by omega)]
      · rw [if_neg c2, wrap64_id (by omega) (by omega)]
        have hg := h3 c1 c2
        by_cases c3 : (i : Int) > 0
        · rw [if_pos c3]
          by_cases c4 : xs.getD i 0 < 1
          · rw [if_pos c4, termsFrom_bad hi (fun z => by have := z.2.2 (by omega); omega)]
          · rw [if_neg c4, termsFrom_good hi ⟨hg.1, hg.2, fun _ => by omega⟩]; exact ih (i + 1) k (by omega) (by omega)
        · rw [if_neg c3, termsFrom_good hi ⟨hg.1, hg.2, fun _ => by omega⟩]; exact ih (i + 1) k (by omega) (by omega)
theorem implTerms_loop (xs : List Int) (h1 : 1 ≤ xs.length) (hn : xs.length ≤ 4611686018427387904) (d : Nat) : ∀ (i k : Nat), i + d = xs.length → d < k → impl_ValidTerms.l0 k xs xs (xs.length : Int) (i : Int) = some (termsFrom xs i) := by
  induction d with
  | zero =>
    intro i k hd hk
    obtain ⟨k, rfl⟩ : ∃ m, k = m + 1 := ⟨k - 1, by omega⟩
    obtain rfl : i = xs.length := by omega
    simp only [impl_ValidTerms.l0]; rw [if_neg (by omega)]
    by_cases e : xs.length = 1
    · rw [if_pos (by omega), termsFrom_one e]
    · rw [if_neg (by omega), wrap64_id (by omega) (by omega), if_pos (by omega), if_pos (by omega), termsFrom_end e, show ((xs.length : Int) - 1) = ((xs.length - 1 : Nat) : Int) by omega, rd_nat]
  | succ d ih =>
    intro i k hd hk
    obtain ⟨k, rfl⟩ : ∃ m, k = m + 1 := ⟨k - 1, by omega⟩
    have hi : i < xs.length := by omega
    have hwi : ∃ b, impl_within.f (xs.getD i 0) (-1000000000) 1000000000 = some b ∧ (b = true ↔ (-1000000000 ≤ xs.getD i 0 ∧ xs.getD i 0 ≤ 1000000000)) := by
      unfold impl_within.f
      split
      · exact ⟨_, rfl, by rw [decide_eq_true_iff]; omega⟩
      · exact ⟨_, rfl, fun z => by simp at z, fun z => by omega⟩
    obtain ⟨b, hb, h2⟩ := hwi
    simp only [impl_ValidTerms.l0, rd_nat]; rw [if_pos (by omega), if_pos (by omega), if_pos (by omega), hb]; simp only [Option.bind_some]
    by_cases c1 : b = true
    · have hg := h2.1 c1
      rw [if_pos c1, wrap64_id (by omega) (by omega)]
      by_cases c3 : (i : Int) > 0
      · rw [if_pos c3]
        by_cases c4 : xs.getD i 0 < 1
        · rw [if_pos c4, termsFrom_bad hi (fun z => by have := z.2.2 (by omega); omega)]
        · rw [if_neg c4, termsFrom_good hi ⟨hg.1, hg.2, fun _ => by omega⟩]; exact ih (i + 1) k (by omega) (by omega)
      · rw [if_neg c3, termsFrom_good hi ⟨hg.1, hg.2, fun _ => by omega⟩]; exact ih (i + 1) k (by omega) (by omega)
    · rw [if_neg c1, termsFrom_bad hi (fun z => c1 (h2.2 ⟨z.1, z.2.1⟩))]
/-- Whether terms are valid. -/
noncomputable def termsOk (xs : List Int) : Bool := decide (1 ≤ xs.length ∧ xs.length ≤ 40) && termsFrom xs 0
theorem specTerms_ev (xs : List Int) (hw : ∀ j, j < xs.length → -9223372036854775808 ≤ xs.getD j 0 ∧ xs.getD j 0 ≤ 9223372036854775807) : Ev (fun k => spec_l04Terms.f k xs) (termsOk xs) := by
  refine ⟨xs.length + 3, fun k hk => ?_⟩
  obtain ⟨k, rfl⟩ : ∃ m, k = m + 1 := ⟨k - 1, by omega⟩
  show spec_l04Terms.f (k + 1) xs = _
  unfold spec_l04Terms.f termsOk
  by_cases c : (xs.length : Int) < 1
  · rw [if_pos c]; simp only [spec_l04Terms.j0]; rw [if_pos trivial, decide_eq_false (by omega)]; rfl
  · rw [if_neg c]; simp only [spec_l04Terms.j0]
    by_cases c2 : (xs.length : Int) > 40
    · rw [if_pos (by simpa using c2), decide_eq_false (by omega)]; rfl
    · rw [if_neg (by simpa using c2), decide_eq_true (by omega), Bool.true_and]
      exact specTerms_loop xs hw (by omega) (by omega) xs.length 0 k (by omega) (by omega)
theorem implTerms_ev (xs : List Int) : Ev (fun k => impl_ValidTerms.f k xs) (termsOk xs) := by
  refine ⟨xs.length + 3, fun k hk => ?_⟩
  obtain ⟨k, rfl⟩ : ∃ m, k = m + 1 := ⟨k - 1, by omega⟩
  show impl_ValidTerms.f (k + 1) xs = _
  unfold impl_ValidTerms.f termsOk
  by_cases c : (xs.length : Int) < 1
  · rw [if_pos c]; simp only [impl_ValidTerms.j0]; rw [if_pos trivial, decide_eq_false (by omega)]; rfl
  · rw [if_neg c]; simp only [impl_ValidTerms.j0]
    by_cases c2 : (xs.length : Int) > 40
    · rw [if_pos (by simpa using c2), decide_eq_false (by omega)]; rfl
    · rw [if_neg (by simpa using c2), decide_eq_true (by omega), Bool.true_and]
      exact implTerms_loop xs (by omega) (by omega) xs.length 0 k (by omega) (by omega)
theorem terms_w {l : List Int} (hw : ∀ z ∈ l, -9223372036854775808 ≤ z ∧ z ≤ 9223372036854775807) : ∀ j, j < l.length → -9223372036854775808 ≤ l.getD j 0 ∧ l.getD j 0 ≤ 9223372036854775807 := by
  intro j hj
  rw [List.getD_eq_getElem?_getD, List.getElem?_eq_getElem hj]
  exact hw _ (List.getElem_mem hj)
open Classical in
theorem termsOk_is {xs : List Int} (h : termsOk xs = true) : (1 ≤ xs.length ∧ xs.length ≤ 40) ∧ (∀ j, j < xs.length → -1000000000 ≤ xs.getD j 0 ∧ xs.getD j 0 ≤ 1000000000 ∧ (0 < j → 1 ≤ xs.getD j 0)) ∧ (xs.length = 1 ∨ 2 ≤ xs.getD (xs.length - 1) 0) := by
  unfold termsOk at h
  rw [Bool.and_eq_true, decide_eq_true_iff] at h
  have h2 : TermsFrom xs 0 := by
    have := h.2
    unfold termsFrom at this
    exact of_decide_eq_true this
  exact ⟨h.1, fun j hj => h2.1 j (by omega) hj, h2.2⟩
open Classical in
theorem termsOk_of {xs : List Int} (h1 : 1 ≤ xs.length ∧ xs.length ≤ 40) (h2 : ∀ j, j < xs.length → -1000000000 ≤ xs.getD j 0 ∧ xs.getD j 0 ≤ 1000000000 ∧ (0 < j → 1 ≤ xs.getD j 0)) (h3 : xs.length = 1 ∨ 2 ≤ xs.getD (xs.length - 1) 0) : termsOk xs = true := by
  unfold termsOk
  rw [Bool.and_eq_true, decide_eq_true_iff]
  refine ⟨h1, ?_⟩
  unfold termsFrom
  exact @decide_eq_true _ _ ⟨fun j _ hj => h2 j hj, h3⟩
theorem toInt64S_loop (xs : List Int) (hn : xs.length ≤ 4611686018427387904) (d : Nat) : ∀ (i : Nat) (acc : List Int) (k : Nat), acc.length = xs.length → (∀ j, j < i → acc.getD j 0 = xs.getD j 0) → i + d = xs.length → d < k → laws_toInt64S.l0 k xs acc (i : Int) = some xs := by
  induction d with
  | zero =>
    intro i acc k hl hj hd hk
    obtain ⟨k, rfl⟩ : ∃ m, k = m + 1 := ⟨k - 1, by omega⟩
    simp only [laws_toInt64S.l0]; rw [if_neg (by omega)]
    congr 1
    apply List.ext_getElem hl
    intro j h1 h2
    have := hj j (by omega)
    simpa [List.getD_eq_getElem?_getD, List.getElem?_eq_getElem, h1, h2] using this
  | succ d ih =>
    intro i acc k hl hj hd hk
    obtain ⟨k, rfl⟩ : ∃ m, k = m + 1 := ⟨k - 1, by omega⟩
    simp only [laws_toInt64S.l0]; rw [if_pos (by omega), if_pos (by omega), if_pos (by omega), wrap64_id (by omega) (by omega)]
    refine ih (i + 1) _ k ?_ ?_ (by omega) (by omega)
    · simpa using hl
    · intro j hji
      have hjl : j < acc.length := by omega
      by_cases e : j = i
      · subst e; simp [List.getD_eq_getElem?_getD, rd_nat, hjl]
      · have e' : ¬ i = j := fun h => e h.symm
        have := hj j (by omega)
        simpa [List.getD_eq_getElem?_getD, List.getElem?_set, e'] using this
theorem toInt64S_ev (xs : List Int) (hn : xs.length ≤ 17592186044416) : Ev (fun k => laws_toInt64S.f k xs) xs := by
  refine ⟨xs.length + 1, fun k hk => ?_⟩
  show laws_toInt64S.f k xs = some xs
  unfold laws_toInt64S.f
  rw [if_pos (by omega), if_pos (by simp; omega)]
  exact toInt64S_loop xs (by omega) xs.length 0 _ k (by simp) (fun j h => by omega) (by omega) (by omega)
theorem eqInt64S_loop (xs : List Int) (hn : xs.length ≤ 4611686018427387904) (d : Nat) : ∀ (i : Nat) (k : Nat), i + d = xs.length → d < k → laws_eqInt64S.l0 k xs xs (i : Int) = some true := by
  induction d with
  | zero =>
    intro i k hd hk
    obtain ⟨k, rfl⟩ : ∃ m, k = m + 1 := ⟨k - 1, by omega⟩
    simp only [laws_eqInt64S.l0]; rw [if_neg (by omega)]
  | succ d ih =>
    intro i k hd hk
    obtain ⟨k, rfl⟩ : ∃ m, k = m + 1 := ⟨k - 1, by omega⟩
    simp only [laws_eqInt64S.l0]; rw [if_pos (by omega), if_pos (by omega), if_pos (by omega), if_pos trivial, wrap64_id (by omega) (by omega)]
    exact ih (i + 1) k (by omega) (by omega)
theorem eqInt64S_ev (xs : List Int) (hn : xs.length ≤ 4611686018427387904) : Ev (fun k => laws_eqInt64S.f k xs xs) true := by
  refine ⟨xs.length + 1, fun k hk => ?_⟩
  show laws_eqInt64S.f k xs xs = some true
  unfold laws_eqInt64S.f
  rw [if_pos rfl]
  exact eqInt64S_loop xs hn xs.length 0 k (by omega) (by omega)
theorem markInt64S_loop (d : Nat) : ∀ (i : Nat) (xs : List Int) (a : Int) (k : Nat), 0 ≤ a → a + xs.length ≤ 4611686018427387904 → i + d = xs.length → (∀ j, j < i → xs.getD j 0 = a + j) → d < k → laws_markInt64S.l0 k xs (a + i) (i : Int) = some (a + xs.length, (List.range xs.length).map (fun j : Nat => a + (j : Int))) := by
  induction d with
  | zero =>
    intro i xs a k h0 ha hd hj hk
    obtain ⟨k, rfl⟩ : ∃ m, k = m + 1 := ⟨k - 1, by omega⟩
    simp only [laws_markInt64S.l0]; rw [if_neg (by omega)]
    have e : xs = (List.range xs.length).map (fun j : Nat => a + (j : Int)) := by
      apply List.ext_getElem (by simp)
      intro j h1 h2
      have := hj j (by omega)
      simpa [List.getD_eq_getElem?_getD, List.getElem?_eq_getElem, h1, h2] using this
    rw [← e, show i = xs.length by omega]
  | succ d ih =>
    intro i xs a k h0 ha hd hj hk
    obtain ⟨k, rfl⟩ : ∃ m, k = m + 1 := ⟨k - 1, by omega⟩
    simp only [laws_markInt64S.l0]; rw [if_pos (by omega), if_pos (by omega), wrap64_id (by omega) (by omega), wrap64_id (by omega) (by omega)]
    have := ih (i + 1) (xs.set i (a + i)) a k h0 (by simpa using ha) (by simp; omega) ?_ (by omega)
    · simpa [Int.add_assoc] using this
    · intro j hji
      have hjl : j < xs.length := by omega
      by_cases e : j = i
      · subst e; simp [List.getD_eq_getElem?_getD, hjl]
      · have e' : ¬ i = j := fun h => e h.symm
        have := hj j (by omega)
        simpa [List.getD_eq_getElem?_getD, List.getElem?_set, e'] using this
theorem markInt64S_ev (xs : List Int) (a : Int) (h0 : 0 ≤ a) (ha : a + xs.length ≤ 4611686018427387904) : Ev (fun k => laws_markInt64S.f k xs a) (a + xs.length, (List.range xs.length).map (fun j : Nat => a + (j : Int))) := by
  refine ⟨xs.length + 1, fun k hk => ?_⟩
  show laws_markInt64S.f k xs a = _
  unfold laws_markInt64S.f
  have := markInt64S_loop xs.length 0 xs a k h0 ha (by omega) (fun j h => by omega) (by omega)
  simpa using this
theorem eqRatio_same (p q : Int) : laws_eqRatio.f p q p q = some true := by
  unfold laws_eqRatio.f; rw [if_pos rfl, if_pos rfl]
/-- A list of ratios that has been marked, from a number on. -/
def markedR (n : Nat) (a : Int) : List S30 := (List.range n).map (fun j : Nat => ⟨a + 2 * (j : Int), a + 2 * (j : Int) + 1⟩)
theorem rdR_get (xs : List S30) (i : Nat) (h : i < xs.length) : rd_T30 xs (i : Int) = xs[i] := by
  simp [rd_T30, h]
theorem eqRatioS_loop (xs : List S30) (hn : xs.length ≤ 4611686018427387904) (d : Nat) : ∀ (i : Nat) (k : Nat), i + d = xs.length → d < k → laws_eqRatioS.l0 k xs xs (i : Int) = some true := by
  induction d with
  | zero =>
    intro i k hd hk
    obtain ⟨k, rfl⟩ : ∃ m, k = m + 1 := ⟨k - 1, by omega⟩
    simp only [laws_eqRatioS.l0]; rw [if_neg (by omega)]
  | succ d ih =>
    intro i k hd hk
    obtain ⟨k, rfl⟩ : ∃ m, k = m + 1 := ⟨k - 1, by omega⟩
    simp only [laws_eqRatioS.l0]; rw [if_pos (by omega), if_pos (by omega), if_pos (by omega), eqRatio_same]
    simp only [Option.bind_some]
    rw [if_pos trivial, wrap64_id (by omega) (by omega)]
    exact ih (i + 1) k (by omega) (by omega)
theorem eqRatioS_ev (xs : List S30) (hn : xs.length ≤ 4611686018427387904) : Ev (fun k => laws_eqRatioS.f k xs xs) true := by
  refine ⟨xs.length + 1, fun k hk => ?_⟩
  show laws_eqRatioS.f k xs xs = some true
  unfold laws_eqRatioS.f
  rw [if_pos rfl]
  exact eqRatioS_loop xs hn xs.length 0 k (by omega) (by omega)
theorem markRatioS_loop (d : Nat) : ∀ (i : Nat) (xs : List S30) (a : Int) (k : Nat), 0 ≤ a → a + 2 * xs.length ≤ 4611686018427387904 → i + d = xs.length → (∀ j, j < i → xs[j]? = some ⟨a + 2 * (j : Int), a + 2 * (j : Int) + 1⟩) → d < k → laws_markRatioS.l0 k xs (a + 2 * (i : Int)) (i : Int) = some (a + 2 * xs.length, markedR xs.length a) := by
  induction d with
  | zero =>
    intro i xs a k h0 ha hd hj hk
    obtain ⟨k, rfl⟩ : ∃ m, k = m + 1 := ⟨k - 1, by omega⟩
    simp only [laws_markRatioS.l0]; rw [if_neg (by omega)]
    have e : xs = markedR xs.length a := by
      apply List.ext_getElem? 
      intro j
      by_cases c : j < xs.length
      · rw [hj j (by omega)]; simp [markedR, c]
      · rw [List.getElem?_eq_none (by omega), List.getElem?_eq_none (by simp [markedR]; omega)]
    rw [← e, show i = xs.length by omega]
  | succ d ih =>
    intro i xs a k h0 ha hd hj hk
    obtain ⟨k, rfl⟩ : ∃ m, k = m + 1 := ⟨k - 1, by omega⟩
    simp only [laws_markRatioS.l0]; rw [if_pos (by omega), if_pos (by omega)]
    simp only [Option.bind_some, Int.toNat_natCast]
    have hi : i < xs.length := by omega
    have e1 : rd_T30 (xs.set i ⟨a + 2 * (i : Int), (rd_T30 xs (i : Int)).f1⟩) (i : Int) = ⟨a + 2 * (i : Int), (rd_T30 xs (i : Int)).f1⟩ := by
      rw [rdR_get _ i (by simpa using hi)]; simp
    rw [e1, List.set_set, wrap64_id (n := a + 2 * (i : Int) + 1) (by omega) (by omega), wrap64_id (n := a + 2 * (i : Int) + 1 + 1) (by omega) (by omega), wrap64_id (n := (i : Int) + 1) (by omega) (by omega)]
    have := ih (i + 1) (xs.set i ⟨a + 2 * (i : Int), a + 2 * (i : Int) + 1⟩) a k h0 (by simpa using ha) (by simp; omega) ?_ (by omega)
    · rw [show a + 2 * ((i + 1 : Nat) : Int) = a + 2 * (i : Int) + 1 + 1 by omega] at this
      simpa using this
    · intro j hji
      by_cases e : j = i
      · subst e; simp [hi]
      · rw [List.getElem?_set_ne (by omega)]; exact hj j (by omega)
theorem markRatioS_ev (xs : List S30) (a : Int) (h0 : 0 ≤ a) (ha : a + 2 * xs.length ≤ 4611686018427387904) : Ev (fun k => laws_markRatioS.f k xs a) (a + 2 * xs.length, markedR xs.length a) := by
  refine ⟨xs.length + 1, fun k hk => ?_⟩
  show laws_markRatioS.f k xs a = _
  unfold laws_markRatioS.f
  have := markRatioS_loop xs.length 0 xs a k h0 ha (by omega) (fun j h => by omega) (by omega)
  simpa using this
theorem heldRatioS_loop (n : Nat) (a : Int) (h0 : 0 ≤ a) (ha : a + 2 * n ≤ 4611686018427387904) (d : Nat) : ∀ (i : Nat) (k : Nat), i + d = n → d < k → laws_heldRatioS.l0 k (markedR n a) (a + 2 * (i : Int)) (i : Int) = some (a + 2 * n) := by
  induction d with
  | zero =>
    intro i k hd hk
    obtain ⟨k, rfl⟩ : ∃ m, k = m + 1 := ⟨k - 1, by omega⟩
    simp only [laws_heldRatioS.l0]; rw [if_neg (by simp [markedR]; omega), show i = n by omega]
  | succ d ih =>
    intro i k hd hk
    obtain ⟨k, rfl⟩ : ∃ m, k = m + 1 := ⟨k - 1, by omega⟩
    have hg : rd_T30 (markedR n a) (i : Int) = ⟨a + 2 * (i : Int), a + 2 * (i : Int) + 1⟩ := by
      rw [rdR_get _ i (by simp [markedR]; omega)]; simp [markedR]
    simp only [laws_heldRatioS.l0]; rw [if_pos (by simp [markedR]; omega), if_pos (by omega), hg, wrap64_id (n := a + 2 * (i : Int) + 1) (by omega) (by omega), if_pos rfl, if_pos rfl, wrap64_id (n := a + 2 * (i : Int) + 1 + 1) (by omega) (by omega), wrap64_id (n := (i : Int) + 1) (by omega) (by omega)]
    have := ih (i + 1) k (by omega) (by omega)
    rw [show a + 2 * ((i + 1 : Nat) : Int) = a + 2 * (i : Int) + 1 + 1 by omega] at this
    exact this
theorem heldRatioS_ev (n : Nat) (a : Int) (h0 : 0 ≤ a) (ha : a + 2 * n ≤ 4611686018427387904) : Ev (fun k => laws_heldRatioS.f k (markedR n a) a) (a + 2 * n) := by
  refine ⟨n + 1, fun k hk => ?_⟩
  show laws_heldRatioS.f k _ a = _
  unfold laws_heldRatioS.f
  have := heldRatioS_loop n a h0 ha n 0 k (by omega) (by omega)
  simpa using this
theorem convof_loop {xs : List Int} (hx : TermsLike xs) (d : Nat) : ∀ (i : Nat) (p q p0 q0 : Int) (out : List S30), i + d = xs.length → At xs i p q p0 q0 → out.length = i →
    ∃ t : List S30, t.length ≤ 40 ∧ Ev (fun k => impl_convergents.l0 k out p q p0 q0 xs (xs.length : Int) (i : Int)) t ∧ Ev (fun k => spec_ConvergentsOf.l0 k xs out ((i : Int) + 1)) (if (t.length : Int) < (xs.length : Int) then ([], 3) else (t, 0)) := by
  induction d with
  | zero =>
    intro i p q p0 q0 out hd h hl
    have hlen := hx.1
    refine ⟨out, by omega, ?_, ?_⟩
    · exact Ev.step (fun k => by rw [impl_convergents.l0]) (Ev.congr (fun k => if_neg (by omega)) (Ev.now _))
    · rw [if_neg (by omega)]
      exact Ev.step (fun k => by rw [spec_ConvergentsOf.l0]) (Ev.congr (fun k => if_neg (by omega)) (Ev.now _))
  | succ d ih =>
    intro i p q p0 q0 out hd h hl
    have hlen := hx.1.2
    have hi : i < xs.length := by omega
    have hv : valR (xs.take (i + 1)) = if (((xs.getD i 0 * p + p0).natAbs : Nat) : Int) ≤ 2147483648 ∧ xs.getD i 0 * q + q0 ≤ 2147483648 then (xs.getD i 0 * p + p0, xs.getD i 0 * q + q0, 0) else (0, 0, 3) := by
      unfold valR; rw [at_here h hi]
    have hspec : ∀ r : List S30 × Int, Ev (fun k => if (valR (xs.take (i + 1))).2.2 = 0 then (if out.length < 8796093022208 then (spec_ConvergentsOf.l0 k xs (out ++ [(⟨(valR (xs.take (i + 1))).1, (valR (xs.take (i + 1))).2.1⟩ : S30)]) (wrap64 ((i : Int) + 1 + 1))) else none) else some ([], (valR (xs.take (i + 1))).2.2)) r → Ev (fun k => spec_ConvergentsOf.l0 k xs out ((i : Int) + 1)) r := by
      intro r hr
      refine Ev.step (fun k => by rw [spec_ConvergentsOf.l0]) (Ev.congr (fun k => if_pos (by omega)) (Ev.congr (fun k => if_pos (by omega)) ?_))
      rw [show ((i : Int) + 1).toNat = i + 1 by omega]
      refine Ev.bind (specValue_ev _ (hx.take (i + 1) (by omega) (by omega))) ?_
      exact hr
    by_cases c1 : (((xs.getD i 0 * p + p0).natAbs : Nat) : Int) ≤ 2147483648 ∧ xs.getD i 0 * q + q0 ≤ 2147483648
    · rw [if_pos c1] at hv
      obtain ⟨t, h1, h2, h3⟩ := ih (i + 1) _ _ _ _ (out ++ [(⟨xs.getD i 0 * p + p0, xs.getD i 0 * q + q0⟩ : S30)]) (by omega) (at_next hx h hi (by omega) (by omega)) (by simp; omega)
      refine ⟨t, h1, conv_step hx h hi out (by omega) _ (Ev.congr (fun k => if_neg (by omega)) (Ev.congr (fun k => if_neg (by omega)) h2)), hspec _ ?_⟩
      rw [hv]
      refine Ev.congr (fun k => if_pos rfl) (Ev.congr (fun k => if_pos (by omega)) ?_)
      rw [wrap64_id (n := (i : Int) + 1 + 1) (by omega) (by omega)]
      exact h3
    · rw [if_neg c1] at hv
      refine ⟨out, by omega, conv_step hx h hi out (by omega) _ ?_, hspec _ ?_⟩
      · by_cases c2 : (((xs.getD i 0 * p + p0).natAbs : Nat) : Int) > 2147483648
        · exact Ev.congr (fun k => if_pos c2) (Ev.now _)
        · exact Ev.congr (fun k => if_neg c2) (Ev.congr (fun k => if_pos (by omega)) (Ev.now _))
      · rw [hv, if_pos (by omega)]
        exact Ev.congr (fun k => if_neg (by decide)) (Ev.now _)
theorem convOf_ev (xs : List Int) (hw : ∀ j, j < xs.length → -9223372036854775808 ≤ xs.getD j 0 ∧ xs.getD j 0 ≤ 9223372036854775807) : ∃ r : List S30 × Int, r.1.length ≤ 40 ∧ Ev (fun k => spec_ConvergentsOf.f k xs) r ∧ Ev (fun k => impl_ConvergentsOf.f k xs) r := by
  by_cases c : termsOk xs = true
  · obtain ⟨h1, h2, _⟩ := termsOk_is c
    have hx : TermsLike xs := ⟨h1, h2⟩
    obtain ⟨t, hl, ht, h3⟩ := convof_loop hx xs.length 0 1 0 0 1 [] (by omega) (at_zero xs) rfl
    refine ⟨if (t.length : Int) < (xs.length : Int) then ([], 3) else (t, 0), by split <;> simp <;> omega, ?_, ?_⟩
    · refine Ev.congr (fun k => by unfold spec_ConvergentsOf.f; rfl) (Ev.bind (specTerms_ev xs hw) ?_)
      rw [c]; exact Ev.congr (fun k => if_pos rfl) h3
    · refine Ev.congr (fun k => by unfold impl_ConvergentsOf.f impl_convergents.f; rfl) (Ev.bind (implTerms_ev xs) ?_)
      rw [c]; refine Ev.congr (fun k => if_pos rfl) (Ev.bind ht ?_)
      split <;> exact Ev.now _
  · simp only [Bool.not_eq_true] at c
    refine ⟨([], 1), by simp, ?_, ?_⟩
    · refine Ev.congr (fun k => by unfold spec_ConvergentsOf.f; rfl) (Ev.bind (specTerms_ev xs hw) ?_)
      rw [c]; exact Ev.now _
    · refine Ev.congr (fun k => by unfold impl_ConvergentsOf.f; rfl) (Ev.bind (implTerms_ev xs) ?_)
      rw [c]; exact Ev.now _
theorem FnExactConvergentsOf : laws_FnExactConvergentsOf.Pure := by
  intro l0 ⟨hl, hw⟩
  apply Ev.rounds (r := true)
  obtain ⟨⟨r1, r2⟩, hr, hs, hi⟩ := convOf_ev l0 (terms_w hw)
  simp only at hr
  by_cases c : (l0.length : Int) > 1048576
  · exact ⟨0, fun k _ => by show laws_FnExactConvergentsOf.f k l0 = _; unfold laws_FnExactConvergentsOf.f; rw [if_pos c]⟩
  · refine Ev.congr (fun k => by unfold laws_FnExactConvergentsOf.f; rw [if_neg c]) ?_
    repeat' (first
      | (refine Ev.bind (toInt64S_ev l0 (by omega)) ?_; try dsimp only)
      | (refine Ev.bind (hs) ?_; try dsimp only)
      | (refine Ev.bind (hi) ?_; try dsimp only)
      | (refine Ev.bind (eqInt64S_ev _ (by omega)) ?_; try dsimp only)
      | (refine Ev.bind (eqRatioS_ev _ (by omega)) ?_; try dsimp only)
      | (refine Ev.bind (markInt64S_ev _ 1 (by omega) (by omega)) ?_; try dsimp only)
      | (refine Ev.bind (markRatioS_ev _ 1 (by omega) (by omega)) ?_; try dsimp only)
      | (refine Ev.bind (heldRatioS_ev _ 1 (by omega) (by omega)) ?_; try dsimp only)
      | exact ⟨0, fun k _ => rfl⟩
      | (refine Ev.congr (fun k => if_pos rfl) ?_; try dsimp only)
      | (refine Ev.congr (fun k => if_neg (by simp; done)) ?_; try dsimp only)
      | (refine Ev.congr (fun k => if_neg (by omega)) ?_; try dsimp only)
      | (refine Ev.congr (fun k => if_pos (by simp; done)) ?_; try dsimp only)
      | (refine Ev.congr (fun k => if_pos (by omega)) ?_; try dsimp only)
      | (refine Ev.step (fun k => by rw [laws_FnExactConvergentsOf.j0]) ?_; try dsimp only)
      | (refine Ev.step (fun k => by rw [laws_FnExactConvergentsOf.j1]) ?_; try dsimp only)
      | (refine Ev.step (fun k => by rw [laws_FnExactConvergentsOf.j2]) ?_; try dsimp only)
      )
end Go.Proofs.Ytdnkpfmcpalojaa.Pure
