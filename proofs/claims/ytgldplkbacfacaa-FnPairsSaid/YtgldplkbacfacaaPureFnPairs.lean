/- A machine with four numbers gives the terms of what its map makes of the value, wherever it gives something, and takes the terms of its number in their order, for all bytes. -/
import Derived.Test.YtgldplkbacfacaaMFnPairsx12
import Derived.Test.YtgldplkbacfacaaMOpen
namespace Go.Proofs.Ytgldplkbacfacaa.Pure
open Go.RowKit Go.Proofs.Ytgldplkbacfacaa.MFnPairs Go.Proofs.Ytgldplkbacfacaa.MOpen Go.Proofs.YtgldplkbacfacaaW.PrintWords Go.Proofs.YtgldplkbacfacaaW.PrintLast Go.Proofs.YtgldplkbacfacaaW.PrintMore
set_option linter.unusedVariables false
set_option linter.unusedSimpArgs false
theorem wrap64_id {n : Int} (h0 : -9223372036854775808 ≤ n) (h1 : n ≤ 9223372036854775807) : wrap64 n = n := by
  unfold wrap64; omega
theorem rd_nat (xs : List Int) (i : Nat) : rd xs (i : Int) = xs.getD i 0 := by simp [rd]
theorem rd_get (xs : List Int) (i : Nat) (h : i < xs.length) : rd xs (i : Int) = xs[i] := by simp [rd, h]
theorem ev_k {α : Type} {f : Nat → Option α} {r : α} (n : Nat) (h : ∀ k, n ≤ k → f k = some r) : Ev f r := ⟨n, h⟩
theorem l00In_some (a b c : Int) : spec_l00In.f a b c = some (decide (b ≤ a ∧ a ≤ c)) := by
  unfold spec_l00In.f
  split <;> simp <;> omega
theorem within_some (a b c : Int) : impl_within.f a b c = some (decide (b ≤ a ∧ a ≤ c)) := l00In_some a b c
theorem size_is {a : Int} (h0 : -9223372036854775807 ≤ a) (h1 : a ≤ 9223372036854775807) : spec_l03Size.f a = some (a.natAbs : Int) := by
  unfold spec_l03Size.f
  split
  · rw [wrap64_id (by omega) (by omega)]; congr 1; omega
  · congr 1; omega
theorem mx_abs {a : Int} (h0 : -9223372036854775807 ≤ a) (h1 : a ≤ 9223372036854775807) : mx a (wrap64 (-a)) = (a.natAbs : Int) := by
  unfold mx; rw [wrap64_id (by omega) (by omega)]; split <;> omega
theorem tmod_nat (m n : Nat) : Int.tmod (m : Int) (n : Int) = ((m % n : Nat) : Int) := by
  rw [Int.tmod_eq_emod_of_nonneg (by omega)]; exact (Int.natCast_emod m n).symm
theorem specGcd_loop (n : Nat) : ∀ m : Nat, Ev (fun k => spec_l03Common.l0 k (m : Int) (n : Int)) (Nat.gcd m n : Int) := by
  induction n using Nat.strongRecOn with
  | _ n ih =>
    intro m
    refine Ev.step (fun k => by rw [spec_l03Common.l0]) ?_
    by_cases c : n = 0
    · subst c
      refine Ev.congr (fun k => if_pos rfl) ?_
      rw [Nat.gcd_zero_right]; exact Ev.now _
    · refine Ev.congr (fun k => if_neg (by omega)) ?_
      rw [tmod_nat, show Nat.gcd m n = Nat.gcd n (m % n) by rw [Nat.gcd_comm, Nat.gcd_rec, Nat.gcd_comm]]
      exact ih (m % n) (Nat.mod_lt _ (by omega)) n
theorem specGcd_ev {a b : Int} (ha : -9223372036854775807 ≤ a ∧ a ≤ 9223372036854775807) (hb : -9223372036854775807 ≤ b ∧ b ≤ 9223372036854775807) : Ev (fun k => spec_l03Common.f k a b) (Int.gcd a b : Int) := by
  refine Ev.congr (fun k => by unfold spec_l03Common.f; rfl) ?_
  rw [size_is ha.1 ha.2, size_is hb.1 hb.2]
  simp only [Option.bind_some]
  exact specGcd_loop b.natAbs a.natAbs
/-- Whether a ratio is valid. -/
def ratioOk (p q : Int) : Bool := decide (1 ≤ q ∧ q ≤ 2147483648) && (decide (-2147483648 ≤ p ∧ p ≤ 2147483648) && ((Int.gcd p q : Int) == 1))
theorem specRatio_ev (p q : Int) : Ev (fun k => spec_l03Ratio.f k p q) (ratioOk p q) := by
  refine Ev.congr (fun k => by unfold spec_l03Ratio.f; rfl) ?_
  rw [l00In_some, l00In_some]; simp only [Option.bind_some]
  unfold ratioOk
  by_cases c1 : 1 ≤ q ∧ q ≤ 2147483648
  · refine Ev.congr (fun k => if_pos (by simp [c1])) ?_
    rw [decide_eq_true c1, Bool.true_and]
    by_cases c2 : -2147483648 ≤ p ∧ p ≤ 2147483648
    · refine Ev.congr (fun k => if_pos (by simp [c2])) ?_
      rw [decide_eq_true c2, Bool.true_and]
      exact Ev.bind (specGcd_ev (by omega) (by omega)) (Ev.now _)
    · refine Ev.congr (fun k => if_neg (by simp; omega)) ?_
      rw [decide_eq_false c2, Bool.false_and]; exact Ev.now _
  · refine Ev.congr (fun k => if_neg (by simp; omega)) ?_
    rw [decide_eq_false c1, Bool.false_and]; exact Ev.now _
theorem ratioOk_is {p q : Int} (h : ratioOk p q = true) : (1 ≤ q ∧ q ≤ 2147483648) ∧ (-2147483648 ≤ p ∧ p ≤ 2147483648) ∧ Int.gcd p q = 1 := by
  unfold ratioOk at h
  simp only [Bool.and_eq_true, decide_eq_true_iff, beq_iff_eq] at h
  exact ⟨h.1, h.2.1, by omega⟩
/-- What terms come to, from the last one on: the parts of their ratio. -/
def cf : List Int → Int × Int
  | [] => (1, 0)
  | a :: l => (a * (cf l).1 + (cf l).2, (cf l).1)
theorem cf_gcd : ∀ l : List Int, Int.gcd (cf l).1 (cf l).2 = 1
  | [] => by decide
  | a :: l => by
    have ih := cf_gcd l
    simp only [cf]
    rw [Int.gcd_comm, Int.gcd_mul_right_add_right]; exact ih
theorem cf_up : ∀ l : List Int, (∀ z ∈ l, 1 ≤ z) → 1 ≤ (cf l).1 ∧ 0 ≤ (cf l).2 ∧ (cf l).2 ≤ (cf l).1
  | [], _ => by simp [cf]
  | a :: l, h => by
    have ih := cf_up l (fun z hz => h z (List.mem_cons_of_mem _ hz))
    have ha := h a (List.mem_cons_self ..)
    have h1 : 1 * (cf l).1 ≤ a * (cf l).1 := Int.mul_le_mul_of_nonneg_right ha (by omega)
    simp only [cf]
    omega
theorem cf_drop (l : List Int) (h : ∀ z ∈ l, 1 ≤ z) : ∀ j, (cf (l.drop j)).1 ≤ (cf l).1 := by
  induction l with
  | nil => intro j; simp
  | cons a l ih =>
    intro j
    cases j with
    | zero => simp
    | succ j =>
      have h2 := ih (fun z hz => h z (List.mem_cons_of_mem _ hz)) j
      have h3 := cf_up l (fun z hz => h z (List.mem_cons_of_mem _ hz))
      have ha := h a (List.mem_cons_self ..)
      have h1 : 1 * (cf l).1 ≤ a * (cf l).1 := Int.mul_le_mul_of_nonneg_right ha (by omega)
      simp only [List.drop_succ_cons, cf]
      omega
/-- The same, from the first one on. -/
def fw (p q p0 q0 : Int) : List Int → Int × Int
  | [] => (p, q)
  | a :: l => fw (a * p + p0) (a * q + q0) p q l
theorem fw_cf : ∀ (l : List Int) (p q p0 q0 : Int), fw p q p0 q0 l = (p * (cf l).1 + p0 * (cf l).2, q * (cf l).1 + q0 * (cf l).2)
  | [], p, q, p0, q0 => by simp [fw, cf]
  | a :: l, p, q, p0, q0 => by
    simp only [fw, cf]
    rw [fw_cf l]
    refine Prod.ext ?_ ?_ <;> simp only <;> grind
theorem fw_start (l : List Int) : fw 1 0 0 1 l = cf l := by
  rw [fw_cf]; refine Prod.ext ?_ ?_ <;> simp
/-- What is known of terms that a value is asked of: the last one need not be 2. -/
def TermsLike (xs : List Int) : Prop := (1 ≤ xs.length ∧ xs.length ≤ 40) ∧ ∀ j, j < xs.length → -1000000000 ≤ xs.getD j 0 ∧ xs.getD j 0 ≤ 1000000000 ∧ (0 < j → 1 ≤ xs.getD j 0)
theorem TermsLike.rest {xs : List Int} (h : TermsLike xs) (m : Nat) : ∀ z ∈ xs.drop (m + 1), 1 ≤ z := by
  intro z hz
  obtain ⟨j, hj, rfl⟩ := List.mem_iff_getElem.1 hz
  simp only [List.length_drop] at hj
  have := (h.2 (m + 1 + j) (by omega)).2.2 (by omega)
  rw [List.getElem_drop]
  rwa [List.getD_eq_getElem?_getD, List.getElem?_eq_getElem (by omega)] at this
theorem TermsLike.take {xs : List Int} (h : TermsLike xs) (n : Nat) (h1 : 1 ≤ n) (h2 : n ≤ xs.length) : TermsLike (xs.take n) := by
  refine ⟨by simp; have := h.1; omega, fun j hj => ?_⟩
  simp only [List.length_take] at hj
  have := h.2 j (by omega)
  rw [List.getD_eq_getElem?_getD, List.getElem?_take_of_lt (by omega), ← List.getD_eq_getElem?_getD]
  exact this
/-- The ratio of terms, with a code. -/
def valR (xs : List Int) : Int × Int × Int := if ((cf xs).1.natAbs : Int) ≤ 2147483648 ∧ (cf xs).2 ≤ 2147483648 then ((cf xs).1, (cf xs).2, 0) else (0, 0, 3)
theorem specMake_one {p q : Int} (hq : 1 ≤ q) (hg : Int.gcd p q = 1) (hp : -4611686018427387904 ≤ p ∧ p ≤ 4611686018427387904) (hq2 : q ≤ 4611686018427387904) : Ev (fun k => spec_l03Make.f k p q) (if ratioOk p q = true then (p, q, 0) else (0, 0, 3)) := by
  refine Ev.congr (fun k => by unfold spec_l03Make.f; rfl) (Ev.bind (specGcd_ev (by omega) (by omega)) ?_)
  rw [hg]
  refine Ev.congr (fun k => if_neg (by omega)) (Ev.congr (fun k => if_neg (by decide)) ?_)
  rw [show ((1 : Nat) : Int) = 1 from rfl, Int.tdiv_one, Int.tdiv_one, wrap64_id (n := p) (by omega) (by omega), wrap64_id (n := q) (by omega) (by omega)]
  refine Ev.bind (specRatio_ev p q) ?_
  cases ratioOk p q <;> exact Ev.now _
theorem specValue_loop (xs : List Int) (h : TermsLike xs) : ∀ m : Nat, m < xs.length → (-4611686018427387904 ≤ (cf (xs.drop m)).1 ∧ (cf (xs.drop m)).1 ≤ 4611686018427387904) → (cf (xs.drop m)).2 ≤ 4611686018427387904 →
    Ev (fun k => spec_l04Value.l0 k xs (cf (xs.drop m)).1 (cf (xs.drop m)).2 ((m : Int) - 1)) (valR xs) := by
  have hone : 1 ≤ (cf xs).2 := by
    obtain ⟨a, l, rfl⟩ : ∃ a l, xs = a :: l := by
      cases xs with
      | nil => exact absurd h.1.1 (by simp)
      | cons a l => exact ⟨a, l, rfl⟩
    exact (cf_up l (by simpa using h.rest 0)).1
  intro m
  induction m with
  | zero =>
    intro hm hp hq
    refine Ev.step (fun k => by rw [spec_l04Value.l0]) (Ev.congr (fun k => if_neg (by omega)) ?_)
    rw [List.drop_zero] at hp hq ⊢
    refine Ev.bind (specMake_one hone (cf_gcd xs) hp hq) ?_
    have e : ratioOk (cf xs).1 (cf xs).2 = true ↔ ((cf xs).1.natAbs : Int) ≤ 2147483648 ∧ (cf xs).2 ≤ 2147483648 := by
      constructor
      · intro z; have := ratioOk_is z; omega
      · intro z; unfold ratioOk; rw [cf_gcd]; simp; omega
    unfold valR
    by_cases c : ratioOk (cf xs).1 (cf xs).2 = true
    · rw [if_pos c, if_pos (e.1 c)]; exact Ev.now _
    · rw [if_neg c, if_neg (fun z => c (e.2 z))]; exact Ev.now _
  | succ m ih =>
    intro hm hp hq
    have hup := cf_up _ (h.rest m)
    have hx := h.2 m (by omega)
    have hlen := h.1.2
    have hd : xs.drop m = xs.getD m 0 :: xs.drop (m + 1) := by
      rw [List.drop_eq_getElem_cons (by omega), List.getD_eq_getElem?_getD, List.getElem?_eq_getElem (by omega)]; rfl
    refine Ev.step (fun k => by rw [spec_l04Value.l0]) (Ev.congr (fun k => if_pos (by omega)) ?_)
    rw [size_is (by omega) (by omega)]; simp only [Option.bind_some]
    have hbig : 2147483648 < (cf (xs.drop (m + 1))).1 → valR xs = (0, 0, 3) := by
      intro z
      obtain ⟨a, l, rfl⟩ : ∃ a l, xs = a :: l := by
        cases xs with
        | nil => exact absurd h.1.1 (by simp)
        | cons a l => exact ⟨a, l, rfl⟩
      have h3 := cf_drop l (by simpa using h.rest 0) m
      rw [List.drop_succ_cons] at z
      unfold valR
      rw [if_neg]
      show ¬ (_ ∧ (cf l).1 ≤ _)
      omega
    by_cases c1 : (((cf (xs.drop (m + 1))).1.natAbs : Nat) : Int) > 2147483648
    · rw [hbig (by omega)]; exact Ev.congr (fun k => if_pos c1) (Ev.now _)
    · refine Ev.congr (fun k => if_neg c1) (Ev.congr (fun k => if_neg (by omega)) ?_)
      rw [show (((m + 1 : Nat) : Int) - 1) = (m : Int) by omega, rd_nat]
      have hmul : -(1000000000 * 2147483648) ≤ xs.getD m 0 * (cf (xs.drop (m + 1))).1 ∧ xs.getD m 0 * (cf (xs.drop (m + 1))).1 ≤ 1000000000 * 2147483648 := by
        have h5 : xs.getD m 0 * (cf (xs.drop (m + 1))).1 ≤ 1000000000 * (cf (xs.drop (m + 1))).1 := Int.mul_le_mul_of_nonneg_right (by omega) (by omega)
        have h6 : -1000000000 * (cf (xs.drop (m + 1))).1 ≤ xs.getD m 0 * (cf (xs.drop (m + 1))).1 := Int.mul_le_mul_of_nonneg_right (by omega) (by omega)
        omega
      rw [wrap64_id (n := xs.getD m 0 * (cf (xs.drop (m + 1))).1) (by omega) (by omega), wrap64_id (n := xs.getD m 0 * (cf (xs.drop (m + 1))).1 + (cf (xs.drop (m + 1))).2) (by omega) (by omega), wrap64_id (n := (m : Int) - 1) (by omega) (by omega)]
      refine Ev.congr (fun k => if_pos (by omega)) (Ev.congr (fun k => if_pos (by omega)) ?_)
      have := ih (by omega) (by rw [hd]; simp only [cf]; omega) (by rw [hd]; simp only [cf]; omega)
      rw [hd] at this
      exact this
theorem specValue_ev (xs : List Int) (h : TermsLike xs) : Ev (fun k => spec_l04Value.f k xs) (valR xs) := by
  refine Ev.congr (fun k => by unfold spec_l04Value.f; rfl) ?_
  have hn := h.1
  have hl := h.2 (xs.length - 1) (by omega)
  have hd : xs.drop (xs.length - 1) = [xs.getD (xs.length - 1) 0] := by
    rw [List.drop_eq_getElem_cons (by omega), List.getD_eq_getElem?_getD, List.getElem?_eq_getElem (by omega), List.drop_eq_nil_of_le (by omega)]; rfl
  have := specValue_loop xs h (xs.length - 1) (by omega) (by rw [hd]; simp only [cf, Int.mul_one, Int.add_zero]; omega) (by rw [hd]; simp [cf])
  rw [hd] at this
  rw [wrap64_id (n := (xs.length : Int) - 1) (by omega) (by omega), wrap64_id (n := (xs.length : Int) - 2) (by omega) (by omega)]
  refine Ev.congr (fun k => if_pos (by omega)) (Ev.congr (fun k => if_pos (by omega)) ?_)
  rw [show ((xs.length : Int) - 1) = ((xs.length - 1 : Nat) : Int) by omega, rd_nat, show ((xs.length : Int) - 2) = ((xs.length - 1 : Nat) : Int) - 1 by omega]
  simpa [cf] using this
theorem fwd_tail {l : List Int} {p q p0 q0 : Int} (h : ∀ z ∈ l, 1 ≤ z) (hs : (0 ≤ p ∧ 0 ≤ p0) ∨ (p ≤ 0 ∧ p0 ≤ 0)) (hq : 0 ≤ q) (hq0 : 0 ≤ q0) : p.natAbs ≤ (fw p q p0 q0 l).1.natAbs ∧ q ≤ (fw p q p0 q0 l).2 := by
  induction l generalizing p q p0 q0 with
  | nil => exact ⟨Nat.le_refl _, Int.le_refl _⟩
  | cons a l ih =>
    have ha := h a (List.mem_cons_self ..)
    have h1 : 1 * q ≤ a * q := Int.mul_le_mul_of_nonneg_right ha hq
    have h2 : (0 ≤ p → 1 * p ≤ a * p) ∧ (p ≤ 0 → a * p ≤ 1 * p) := ⟨fun z => Int.mul_le_mul_of_nonneg_right ha z, fun z => Int.mul_le_mul_of_nonpos_right ha z⟩
    have := ih (p := a * p + p0) (q := a * q + q0) (p0 := p) (q0 := q) (fun z hz => h z (List.mem_cons_of_mem _ hz)) (by omega) (by omega) hq
    simp only [fw]
    omega
/-- What holds while the convergents are found: state (p, q, p0, q0) behind i terms. -/
structure At (xs : List Int) (i : Nat) (p q p0 q0 : Int) : Prop where
  here : ∀ l, cf (xs.take i ++ l) = fw p q p0 q0 l
  p1 : -2147483648 ≤ p ∧ p ≤ 2147483648
  p2 : -2147483648 ≤ p0 ∧ p0 ≤ 2147483648
  q1 : 0 ≤ q ∧ q ≤ 2147483648
  q2 : 0 ≤ q0 ∧ q0 ≤ 2147483648
  sgn : i = 0 ∧ p = 1 ∧ p0 = 0 ∧ q = 0 ∧ q0 = 1 ∨ 1 ≤ i ∧ ((0 ≤ p ∧ 0 ≤ p0) ∨ (p ≤ 0 ∧ p0 ≤ 0) ∨ (p ≤ -1 ∧ p0 = 1))
theorem at_zero (xs : List Int) : At xs 0 1 0 0 1 := ⟨fun l => by rw [List.take_zero, List.nil_append, fw_start], by omega, by omega, by omega, by omega, .inl ⟨rfl, rfl, rfl, rfl, rfl⟩⟩
theorem take_step {xs : List Int} {i : Nat} (hi : i < xs.length) : xs.take (i + 1) = xs.take i ++ [xs.getD i 0] := by
  rw [List.take_add_one, List.getElem?_eq_getElem hi, List.getD_eq_getElem?_getD, List.getElem?_eq_getElem hi]; rfl
theorem at_here {xs : List Int} {i : Nat} {p q p0 q0 : Int} (h : At xs i p q p0 q0) (hi : i < xs.length) : cf (xs.take (i + 1)) = (xs.getD i 0 * p + p0, xs.getD i 0 * q + q0) := by
  rw [take_step hi, h.here]; rfl
/-- A round's products are small. -/
theorem at_small {xs : List Int} (hx : TermsLike xs) {i : Nat} {p q p0 q0 : Int} (h : At xs i p q p0 q0) (hi : i < xs.length) : (-2147483648000000000 ≤ xs.getD i 0 * p ∧ xs.getD i 0 * p ≤ 2147483648000000000) ∧ (-2147483648000000000 ≤ xs.getD i 0 * q ∧ xs.getD i 0 * q ≤ 2147483648000000000) ∧ (0 ≤ xs.getD i 0 * q + q0) := by
  have hz := hx.2 i hi
  have aux : ∀ y : Int, -2147483648 ≤ y → y ≤ 2147483648 → -2147483648000000000 ≤ xs.getD i 0 * y ∧ xs.getD i 0 * y ≤ 2147483648000000000 := by
    intro y h0 h1
    rcases Int.le_total 0 y with c | c
    · have h5 : xs.getD i 0 * y ≤ 1000000000 * y := Int.mul_le_mul_of_nonneg_right (by omega) c
      have h6 : -1000000000 * y ≤ xs.getD i 0 * y := Int.mul_le_mul_of_nonneg_right (by omega) c
      omega
    · have h5 : 1000000000 * y ≤ xs.getD i 0 * y := Int.mul_le_mul_of_nonpos_right (by omega) c
      have h6 : xs.getD i 0 * y ≤ -1000000000 * y := Int.mul_le_mul_of_nonpos_right (by omega) c
      omega
  refine ⟨aux p h.p1.1 h.p1.2, aux q (by have := h.q1; omega) h.q1.2, ?_⟩
  rcases h.sgn with ⟨rfl, rfl, rfl, rfl, rfl⟩ | ⟨h1, _⟩
  · simp
  · have := Int.mul_nonneg (a := xs.getD i 0) (b := q) (by have := hz.2.2 (by omega); omega) h.q1.1
    have := h.q2
    omega
theorem at_next {xs : List Int} (hx : TermsLike xs) {i : Nat} {p q p0 q0 : Int} (h : At xs i p q p0 q0) (hi : i < xs.length) (hp : -2147483648 ≤ xs.getD i 0 * p + p0 ∧ xs.getD i 0 * p + p0 ≤ 2147483648) (hq : xs.getD i 0 * q + q0 ≤ 2147483648) : At xs (i + 1) (xs.getD i 0 * p + p0) (xs.getD i 0 * q + q0) p q := by
  have hz := hx.2 i hi
  refine ⟨fun l => ?_, hp, h.p1, ⟨(at_small hx h hi).2.2, hq⟩, h.q1, .inr ⟨by omega, ?_⟩⟩
  · rw [take_step hi, List.append_assoc, h.here]; rfl
  · rcases h.sgn with ⟨rfl, rfl, rfl, rfl, rfl⟩ | ⟨h1, h2⟩
    · omega
    · have ha := hz.2.2 (by omega)
      have h3 : (0 ≤ p → 1 * p ≤ xs.getD i 0 * p) ∧ (p ≤ 0 → xs.getD i 0 * p ≤ 1 * p) := ⟨fun z => Int.mul_le_mul_of_nonneg_right ha z, fun z => Int.mul_le_mul_of_nonpos_right ha z⟩
      omega
/-- Too large a convergent leaves too large a ratio. -/
theorem at_over {xs : List Int} (hx : TermsLike xs) {i : Nat} {p q p0 q0 : Int} (h : At xs i p q p0 q0) (hi : i < xs.length) (ho : ¬ (((xs.getD i 0 * p + p0).natAbs : Int) ≤ 2147483648 ∧ xs.getD i 0 * q + q0 ≤ 2147483648)) : valR xs = (0, 0, 3) := by
  have hz := hx.2 i hi
  rcases h.sgn with ⟨rfl, rfl, rfl, rfl, rfl⟩ | ⟨h1, h2⟩
  · omega
  · have ha := hz.2.2 (by omega)
    have h3 : (0 ≤ p → 1 * p ≤ xs.getD i 0 * p) ∧ (p ≤ 0 → xs.getD i 0 * p ≤ 1 * p) := ⟨fun z => Int.mul_le_mul_of_nonneg_right ha z, fun z => Int.mul_le_mul_of_nonpos_right ha z⟩
    have hd : xs.getD i 0 :: xs.drop (i + 1) = xs.drop i := by
      rw [List.drop_eq_getElem_cons hi, List.getD_eq_getElem?_getD, List.getElem?_eq_getElem hi]; rfl
    have h4 := h.here (xs.getD i 0 :: xs.drop (i + 1))
    rw [hd, List.take_append_drop, ← hd] at h4
    have h5 := fwd_tail (l := xs.drop (i + 1)) (p := xs.getD i 0 * p + p0) (q := xs.getD i 0 * q + q0) (p0 := p) (q0 := q) (hx.rest i) (by omega) (at_small hx h hi).2.2 h.q1.1
    unfold valR
    rw [if_neg]
    rw [h4]
    simp only [fw]
    omega
theorem conv_step {xs : List Int} (hx : TermsLike xs) {i : Nat} {p q p0 q0 : Int} (h : At xs i p q p0 q0) (hi : i < xs.length) (out : List S54) (ho : out.length ≤ 40) (r : List S54)
    (hr : Ev (fun k => if (((xs.getD i 0 * p + p0).natAbs : Nat) : Int) > 2147483648 then some out else if xs.getD i 0 * q + q0 > 2147483648 then some out else impl_convergents.l0 k (out ++ [(⟨xs.getD i 0 * p + p0, xs.getD i 0 * q + q0⟩ : S54)]) (xs.getD i 0 * p + p0) (xs.getD i 0 * q + q0) p q xs (xs.length : Int) ((i : Int) + 1)) r) :
    Ev (fun k => impl_convergents.l0 k out p q p0 q0 xs (xs.length : Int) (i : Int)) r := by
  have hs := at_small hx h hi
  have h2 := h.p2
  have h3 := h.q2
  have hlen := hx.1.2
  refine Ev.step (fun k => by rw [impl_convergents.l0]) ?_
  rw [rd_nat, wrap64_id (n := xs.getD i 0 * p) (by omega) (by omega), wrap64_id (n := xs.getD i 0 * q) (by omega) (by omega), wrap64_id (n := xs.getD i 0 * p + p0) (by omega) (by omega), wrap64_id (n := xs.getD i 0 * q + q0) (by omega) (by omega), mx_abs (by omega) (by omega), wrap64_id (n := (i : Int) + 1) (by omega) (by omega)]
  refine Ev.congr (fun k => if_pos (by omega)) (Ev.congr (fun k => if_pos (by omega)) (Ev.congr (fun k => if_pos (by omega)) ?_))
  refine Ev.congr (fun k => ?_) hr
  rw [if_pos (show out.length < 8796093022208 by omega)]
/-- What both say of terms from index i on. -/
def TermsFrom (xs : List Int) (i : Nat) : Prop :=
  (∀ j, i ≤ j → j < xs.length → -1000000000 ≤ xs.getD j 0 ∧ xs.getD j 0 ≤ 1000000000 ∧ (0 < j → 1 ≤ xs.getD j 0)) ∧ (xs.length = 1 ∨ 2 ≤ xs.getD (xs.length - 1) 0)
theorem TermsFrom.step {xs : List Int} {i : Nat} (hi : i < xs.length) : TermsFrom xs i ↔ (-1000000000 ≤ xs.getD i 0 ∧ xs.getD i 0 ≤ 1000000000 ∧ (0 < i → 1 ≤ xs.getD i 0)) ∧ TermsFrom xs (i + 1) := by
  unfold TermsFrom
  constructor
  · rintro ⟨h, e⟩; exact ⟨h i (Nat.le_refl _) hi, fun j h1 h2 => h j (by omega) h2, e⟩
  · rintro ⟨h0, h, e⟩
    refine ⟨fun j h1 h2 => ?_, e⟩
    by_cases c : j = i
    · subst c; exact h0
    · exact h j (by omega) h2
theorem TermsFrom.done {xs : List Int} : TermsFrom xs xs.length ↔ (xs.length = 1 ∨ 2 ≤ xs.getD (xs.length - 1) 0) := by
  unfold TermsFrom
  constructor
  · rintro ⟨_, e⟩; exact e
  · intro e; exact ⟨fun j h1 h2 => by omega, e⟩
open Classical in
noncomputable def termsFrom (xs : List Int) (i : Nat) : Bool := decide (TermsFrom xs i)
open Classical in
theorem termsFrom_bad {xs : List Int} {i : Nat} (hi : i < xs.length) (h : ¬ (-1000000000 ≤ xs.getD i 0 ∧ xs.getD i 0 ≤ 1000000000 ∧ (0 < i → 1 ≤ xs.getD i 0))) : termsFrom xs i = false := by
  unfold termsFrom; rw [decide_eq_false_iff_not, TermsFrom.step hi]; exact fun z => h z.1
open Classical in
theorem termsFrom_good {xs : List Int} {i : Nat} (hi : i < xs.length) (h : (-1000000000 ≤ xs.getD i 0 ∧ xs.getD i 0 ≤ 1000000000 ∧ (0 < i → 1 ≤ xs.getD i 0))) : termsFrom xs i = termsFrom xs (i + 1) := by
  unfold termsFrom; rw [decide_eq_decide, TermsFrom.step hi]; exact ⟨fun z => z.2, fun z => ⟨h, z⟩⟩
open Classical in
theorem termsFrom_one {xs : List Int} (h : xs.length = 1) : termsFrom xs xs.length = true :=
  @decide_eq_true _ _ (TermsFrom.done.2 (.inl h))
open Classical in
theorem termsFrom_end {xs : List Int} (h : xs.length ≠ 1) : termsFrom xs xs.length = decide (xs.getD (xs.length - 1) 0 ≥ 2) := by
  by_cases c : xs.getD (xs.length - 1) 0 ≥ 2
  · rw [show decide (xs.getD (xs.length - 1) 0 ≥ 2) = true from decide_eq_true c]; exact @decide_eq_true _ _ (TermsFrom.done.2 (.inr c))
  · rw [show decide (xs.getD (xs.length - 1) 0 ≥ 2) = false from decide_eq_false c]; exact @decide_eq_false _ _ (fun z => c ((TermsFrom.done.1 z).resolve_left h))
theorem size_small {a : Int} (h0 : -9223372036854775808 ≤ a) (h : a ≤ 9223372036854775807) : ∃ r, spec_l03Size.f a = some r ∧ (r > 1000000000 → ¬ (-1000000000 ≤ a ∧ a ≤ 1000000000)) ∧ (¬ r > 1000000000 → ¬ a < -1000000000 → (-1000000000 ≤ a ∧ a ≤ 1000000000)) := by
  unfold spec_l03Size.f
  split
  · exact ⟨_, rfl, fun h => by unfold wrap64 at h; omega, fun h1 h2 => by unfold wrap64 at h1; omega⟩
  · exact ⟨_, rfl, fun h => by omega, fun h1 h2 => by omega⟩
theorem specTerms_loop (xs : List Int) (hw : ∀ j, j < xs.length → -9223372036854775808 ≤ xs.getD j 0 ∧ xs.getD j 0 ≤ 9223372036854775807) (h1 : 1 ≤ xs.length) (hn : xs.length ≤ 4611686018427387904) (d : Nat) : ∀ (i k : Nat), i + d = xs.length → d < k → spec_l04Terms.l0 k xs (xs.length : Int) (i : Int) = some (termsFrom xs i) := by
  induction d with
  | zero =>
    intro i k hd hk
    obtain ⟨k, rfl⟩ : ∃ m, k = m + 1 := ⟨k - 1, by omega⟩
    obtain rfl : i = xs.length := by omega
    simp only [spec_l04Terms.l0]; rw [if_neg (by omega)]
    by_cases e : xs.length = 1
    · rw [if_pos (by omega), termsFrom_one e]
    · rw [if_neg (by omega), wrap64_id (by omega) (by omega), if_pos (by omega), if_pos (by omega), termsFrom_end e, show ((xs.length : Int) - 1) = ((xs.length - 1 : Nat) : Int) by omega, rd_nat]
  | succ d ih =>
    intro i k hd hk
    obtain ⟨k, rfl⟩ : ∃ m, k = m + 1 := ⟨k - 1, by omega⟩
    have hi : i < xs.length := by omega
    obtain ⟨r, hr, h2, h3⟩ := size_small (hw i hi).1 (hw i hi).2
    simp only [spec_l04Terms.l0, rd_nat]; rw [if_pos (by omega), if_pos (by omega), if_pos (by omega), hr]; simp only [Option.bind_some]
    by_cases c1 : r > 1000000000
    · rw [if_pos c1, termsFrom_bad hi (fun z => h2 c1 ⟨z.1, z.2.1⟩)]
    · rw [if_neg c1]
      by_cases c2 : xs.getD i 0 < -1000000000
      · rw [if_pos c2, termsFrom_bad hi (fun z => by omega)]
      · rw [if_neg c2, wrap64_id (by omega) (by omega)]
        have hg := h3 c1 c2
        by_cases c3 : (i : Int) > 0
        · rw [if_pos c3]
          by_cases c4 : xs.getD i 0 < 1
          · rw [if_pos c4, termsFrom_bad hi (fun z => by have := z.2.2 (by omega); omega)]
          · rw [if_neg c4, termsFrom_good hi ⟨hg.1, hg.2, fun _ => by omega⟩]; exact ih (i + 1) k (by omega) (by omega)
        · rw [if_neg c3, termsFrom_good hi ⟨hg.1, hg.2, fun _ => by omega⟩]; exact ih (i + 1) k (by omega) (by omega)
theorem implTerms_loop (xs : List Int) (h1 : 1 ≤ xs.length) (hn : xs.length ≤ 4611686018427387904) (d : Nat) : ∀ (i k : Nat), i + d = xs.length → d < k → impl_ValidTerms.l0 k xs xs (xs.length : Int) (i : Int) = some (termsFrom xs i) := by
  induction d with
  | zero =>
    intro i k hd hk
    obtain ⟨k, rfl⟩ : ∃ m, k = m + 1 := ⟨k - 1, by omega⟩
    obtain rfl : i = xs.length := by omega
    simp only [impl_ValidTerms.l0]; rw [if_neg (by omega)]
    by_cases e : xs.length = 1
    · rw [if_pos (by omega), termsFrom_one e]
    · rw [if_neg (by omega), wrap64_id (by omega) (by omega), if_pos (by omega), if_pos (by omega), termsFrom_end e, show ((xs.length : Int) - 1) = ((xs.length - 1 : Nat) : Int) by omega, rd_nat]
  | succ d ih =>
    intro i k hd hk
    obtain ⟨k, rfl⟩ : ∃ m, k = m + 1 := ⟨k - 1, by omega⟩
    have hi : i < xs.length := by omega
    have hwi : ∃ b, impl_within.f (xs.getD i 0) (-1000000000) 1000000000 = some b ∧ (b = true ↔ (-1000000000 ≤ xs.getD i 0 ∧ xs.getD i 0 ≤ 1000000000)) := by
      unfold impl_within.f
      split
      · exact ⟨_, rfl, by rw [decide_eq_true_iff]; omega⟩
      · exact ⟨_, rfl, fun z => by simp at z, fun z => by omega⟩
    obtain ⟨b, hb, h2⟩ := hwi
    simp only [impl_ValidTerms.l0, rd_nat]; rw [if_pos (by omega), if_pos (by omega), if_pos (by omega), hb]; simp only [Option.bind_some]
    by_cases c1 : b = true
    · have hg := h2.1 c1
      rw [if_pos c1, wrap64_id (by omega) (by omega)]
      by_cases c3 : (i : Int) > 0
      · rw [if_pos c3]
        by_cases c4 : xs.getD i 0 < 1
        · rw [if_pos c4, termsFrom_bad hi (fun z => by have := z.2.2 (by omega); omega)]
        · rw [if_neg c4, termsFrom_good hi ⟨hg.1, hg.2, fun _ => by omega⟩]; exact ih (i + 1) k (by omega) (by omega)
      · rw [if_neg c3, termsFrom_good hi ⟨hg.1, hg.2, fun _ => by omega⟩]; exact ih (i + 1) k (by omega) (by omega)
    · rw [if_neg c1, termsFrom_bad hi (fun z => c1 (h2.2 ⟨z.1, z.2.1⟩))]
/-- Whether terms are valid. -/
noncomputable def termsOk (xs : List Int) : Bool := decide (1 ≤ xs.length ∧ xs.length ≤ 40) && termsFrom xs 0
theorem specTerms_ev (xs : List Int) (hw : ∀ j, j < xs.length → -9223372036854775808 ≤ xs.getD j 0 ∧ xs.getD j 0 ≤ 9223372036854775807) : Ev (fun k => spec_l04Terms.f k xs) (termsOk xs) := by
  refine ⟨xs.length + 3, fun k hk => ?_⟩
  obtain ⟨k, rfl⟩ : ∃ m, k = m + 1 := ⟨k - 1, by omega⟩
  show spec_l04Terms.f (k + 1) xs = _
  unfold spec_l04Terms.f termsOk
  by_cases c : (xs.length : Int) < 1
  · rw [if_pos c]; simp only [spec_l04Terms.j0]; rw [if_pos trivial, decide_eq_false (by omega)]; rfl
  · rw [if_neg c]; simp only [spec_l04Terms.j0]
    by_cases c2 : (xs.length : Int) > 40
    · rw [if_pos (by simpa using c2), decide_eq_false (by omega)]; rfl
    · rw [if_neg (by simpa using c2), decide_eq_true (by omega), Bool.true_and]
      exact specTerms_loop xs hw (by omega) (by omega) xs.length 0 k (by omega) (by omega)
theorem implTerms_ev (xs : List Int) : Ev (fun k => impl_ValidTerms.f k xs) (termsOk xs) := by
  refine ⟨xs.length + 3, fun k hk => ?_⟩
  obtain ⟨k, rfl⟩ : ∃ m, k = m + 1 := ⟨k - 1, by omega⟩
  show impl_ValidTerms.f (k + 1) xs = _
  unfold impl_ValidTerms.f termsOk
  by_cases c : (xs.length : Int) < 1
  · rw [if_pos c]; simp only [impl_ValidTerms.j0]; rw [if_pos trivial, decide_eq_false (by omega)]; rfl
  · rw [if_neg c]; simp only [impl_ValidTerms.j0]
    by_cases c2 : (xs.length : Int) > 40
    · rw [if_pos (by simpa using c2), decide_eq_false (by omega)]; rfl
    · rw [if_neg (by simpa using c2), decide_eq_true (by omega), Bool.true_and]
      exact implTerms_loop xs (by omega) (by omega) xs.length 0 k (by omega) (by omega)
theorem terms_w {l : List Int} (hw : ∀ z ∈ l, -9223372036854775808 ≤ z ∧ z ≤ 9223372036854775807) : ∀ j, j < l.length → -9223372036854775808 ≤ l.getD j 0 ∧ l.getD j 0 ≤ 9223372036854775807 := by
  intro j hj
  rw [List.getD_eq_getElem?_getD, List.getElem?_eq_getElem hj]
  exact hw _ (List.getElem_mem hj)
open Classical in
theorem termsOk_is {xs : List Int} (h : termsOk xs = true) : (1 ≤ xs.length ∧ xs.length ≤ 40) ∧ (∀ j, j < xs.length → -1000000000 ≤ xs.getD j 0 ∧ xs.getD j 0 ≤ 1000000000 ∧ (0 < j → 1 ≤ xs.getD j 0)) ∧ (xs.length = 1 ∨ 2 ≤ xs.getD (xs.length - 1) 0) := by
  unfold termsOk at h
  rw [Bool.and_eq_true, decide_eq_true_iff] at h
  have h2 : TermsFrom xs 0 := by
    have := h.2
    unfold termsFrom at this
    exact of_decide_eq_true this
  exact ⟨h.1, fun j hj => h2.1 j (by omega) hj, h2.2⟩
open Classical in
theorem termsOk_of {xs : List Int} (h1 : 1 ≤ xs.length ∧ xs.length ≤ 40) (h2 : ∀ j, j < xs.length → -1000000000 ≤ xs.getD j 0 ∧ xs.getD j 0 ≤ 1000000000 ∧ (0 < j → 1 ≤ xs.getD j 0)) (h3 : xs.length = 1 ∨ 2 ≤ xs.getD (xs.length - 1) 0) : termsOk xs = true := by
  unfold termsOk
  rw [Bool.and_eq_true, decide_eq_true_iff]
  refine ⟨h1, ?_⟩
  unfold termsFrom
  exact @decide_eq_true _ _ ⟨fun j _ hj => h2 j hj, h3⟩
def TailOk : List Int → Prop
  | [] => True
  | [a] => 2 ≤ a
  | a :: b :: l => 1 ≤ a ∧ TailOk (b :: l)
def HdOk : List Int → Prop
  | [] => True
  | _ :: l => TailOk l
theorem tailOk_tl {a : Int} {l : List Int} (h : TailOk (a :: l)) : TailOk l := by
  cases l with
  | nil => trivial
  | cons b l => exact h.2
theorem tailOk_hd {a : Int} {l : List Int} (h : TailOk (a :: l)) : 1 ≤ a := by
  cases l with
  | nil => have h2 : (2 : Int) ≤ a := h; omega
  | cons b l => exact h.1
theorem tailOk_mem : ∀ {l : List Int}, TailOk l → ∀ z ∈ l, 1 ≤ z
  | [], _, z, hz => by cases hz
  | a :: l, h, z, hz => by
    rcases List.mem_cons.1 hz with rfl | hz
    · exact tailOk_hd h
    · exact tailOk_mem (tailOk_tl h) z hz
theorem tailOk_lt : ∀ {l : List Int}, TailOk l → 0 ≤ (cf l).2 ∧ (cf l).2 < (cf l).1
  | [], _ => by simp [cf]
  | [a], h => by have h2 : (2 : Int) ≤ a := h; simp [cf]; omega
  | a :: b :: l, h => by
    have h2 := tailOk_lt h.2
    have h3 := cf_up l (tailOk_mem (tailOk_tl h.2))
    have h1 : 1 * (cf (b :: l)).1 ≤ a * (cf (b :: l)).1 := Int.mul_le_mul_of_nonneg_right h.1 (by omega)
    have e : (cf (b :: l)).2 = (cf l).1 := rfl
    show 0 ≤ (cf (b :: l)).1 ∧ (cf (b :: l)).1 < a * (cf (b :: l)).1 + (cf (b :: l)).2
    omega
theorem tailOk_of : ∀ {l : List Int}, (∀ z ∈ l, 1 ≤ z) → (∀ h : l ≠ [], 2 ≤ l.getLast h) → TailOk l
  | [], _, _ => trivial
  | [a], _, h => h (by simp)
  | a :: b :: l, h1, h2 => ⟨h1 a (by simp), tailOk_of (fun z hz => h1 z (List.mem_cons_of_mem _ hz)) (fun h => by have h3 := h2 (by simp); rwa [List.getLast_cons (by simp)] at h3)⟩
theorem drop_cons_getD {xs : List Int} {i : Nat} (hi : i < xs.length) : xs.drop i = xs.getD i 0 :: xs.drop (i + 1) := by
  rw [List.drop_eq_getElem_cons hi, List.getD_eq_getElem?_getD, List.getElem?_eq_getElem hi]; rfl
/-- The convergents, one by one. -/
def convL (xs : List Int) (i : Nat) : List S54 := (List.range i).map fun j => ⟨(cf (xs.take (j + 1))).1, (cf (xs.take (j + 1))).2⟩
theorem convL_len (xs : List Int) (i : Nat) : (convL xs i).length = i := by simp [convL]
theorem convL_rd (xs : List Int) (i j : Nat) (h : j < i) : rd_T54 (convL xs i) (j : Int) = ⟨(cf (xs.take (j + 1))).1, (cf (xs.take (j + 1))).2⟩ := by
  simp [rd_T54, convL, List.getD_eq_getElem?_getD, h]
theorem conv_vals {xs : List Int} (hx : TermsLike xs) (hs : ∀ i, (((cf (xs.take (i + 1))).1.natAbs : Nat) : Int) ≤ 2147483648 ∧ (cf (xs.take (i + 1))).2 ≤ 2147483648) (d : Nat) : ∀ (i : Nat) (p q p0 q0 : Int), i + d = xs.length → At xs i p q p0 q0 →
    Ev (fun k => impl_convergents.l0 k (convL xs i) p q p0 q0 xs (xs.length : Int) (i : Int)) (convL xs xs.length) := by
  induction d with
  | zero =>
    intro i p q p0 q0 hd h
    have hlen := hx.1
    obtain rfl : i = xs.length := by omega
    exact Ev.step (fun k => by rw [impl_convergents.l0]) (Ev.congr (fun k => if_neg (by omega)) (Ev.now _))
  | succ d ih =>
    intro i p q p0 q0 hd h
    have hlen := hx.1.2
    have hi : i < xs.length := by omega
    have hh := at_here h hi
    have hb := hs i
    rw [hh] at hb
    simp only at hb
    have hc : convL xs (i + 1) = convL xs i ++ [(⟨xs.getD i 0 * p + p0, xs.getD i 0 * q + q0⟩ : S54)] := by
      unfold convL; rw [List.range_succ, List.map_append, List.map_cons, List.map_nil, hh]
    have h2 := ih (i + 1) _ _ _ _ (by omega) (at_next hx h hi (by omega) hb.2)
    rw [hc] at h2
    have hcl := convL_len xs i
    exact conv_step hx h hi _ (by omega) _ (Ev.congr (fun k => if_neg (by omega)) (Ev.congr (fun k => if_neg (by omega)) h2))
theorem terms_wide {xs : List Int} (c : termsOk xs = true) : ∀ j, j < xs.length → -9223372036854775808 ≤ xs.getD j 0 ∧ xs.getD j 0 ≤ 9223372036854775807 := fun j hj => by
  have := (termsOk_is c).2.1 j hj
  omega
theorem conv_both {xs : List Int} (c : termsOk xs = true) (hs : ∀ i, (((cf (xs.take (i + 1))).1.natAbs : Nat) : Int) ≤ 2147483648 ∧ (cf (xs.take (i + 1))).2 ≤ 2147483648) : Ev (fun k => impl_ConvergentsOf.f k xs) (convL xs xs.length, 0) := by
  obtain ⟨h1, h2, _⟩ := termsOk_is c
  have hx : TermsLike xs := ⟨h1, h2⟩
  have p1 := conv_vals hx hs xs.length 0 1 0 0 1 (by omega) (at_zero xs)
  have hl := convL_len xs xs.length
  · refine Ev.congr (fun k => by unfold impl_ConvergentsOf.f impl_convergents.f; rfl) (Ev.bind (implTerms_ev xs) ?_)
    rw [c]; refine Ev.congr (fun k => if_pos rfl) (Ev.bind p1 ?_)
    exact Ev.congr (fun k => if_neg (by omega)) (Ev.now _)
theorem ratio_both {xs : List Int} (c : termsOk xs = true) (hs : ∀ i, (((cf (xs.take (i + 1))).1.natAbs : Nat) : Int) ≤ 2147483648 ∧ (cf (xs.take (i + 1))).2 ≤ 2147483648) : Ev (fun k => spec_RatioOf.f k xs) ((cf xs).1, (cf xs).2, 0) ∧ Ev (fun k => impl_RatioOf.f k xs) ((cf xs).1, (cf xs).2, 0) := by
  obtain ⟨h1, h2, _⟩ := termsOk_is c
  have hx : TermsLike xs := ⟨h1, h2⟩
  have hl := hs (xs.length - 1)
  rw [show xs.length - 1 + 1 = xs.length by omega, List.take_length] at hl
  have hcl := convL_len xs xs.length
  refine ⟨?_, ?_⟩
  · refine Ev.congr (fun k => by unfold spec_RatioOf.f; rfl) (Ev.bind (specTerms_ev xs (terms_wide c)) ?_)
    rw [c]
    have hv : valR xs = ((cf xs).1, (cf xs).2, 0) := by unfold valR; exact if_pos hl
    refine Ev.congr (fun k => if_pos rfl) (Ev.bind (specValue_ev xs hx) ?_)
    rw [hv]; exact Ev.now _
  · refine Ev.congr (fun k => by unfold impl_RatioOf.f; rfl) (Ev.bind (conv_both c hs) ?_)
    simp only
    rw [hcl, wrap64_id (by omega) (by omega)]
    have e : rd_T54 (convL xs xs.length) ((xs.length : Int) - 1) = ⟨(cf xs).1, (cf xs).2⟩ := by
      have h5 := convL_rd xs xs.length (xs.length - 1) (by omega)
      rw [show xs.length - 1 + 1 = xs.length by omega, List.take_length] at h5
      rw [← h5]; congr 1; omega
    rw [e]
    exact Ev.congr (fun k => if_pos trivial) (Ev.congr (fun k => if_pos (by omega)) (Ev.congr (fun k => if_pos (by omega)) (Ev.now _)))
/-! ### floor, the common greatest integer of two quotients, a cell -/
theorem tdiv_small {a b : Int} (h0 : -4611686018427387904 ≤ a) (h1 : a ≤ 4611686018427387904) : -4611686018427387904 ≤ Int.tdiv a b ∧ Int.tdiv a b ≤ 4611686018427387904 := by
  have := Int.natAbs_tdiv_le_natAbs a b
  omega
theorem floorS_is {a b : Int} (hb : b ≠ 0) (h0 : -4611686018427387904 ≤ a) (h1 : a ≤ 4611686018427387904) : spec_l04Floor.f a b = some (a.fdiv b) := by
  have hs := tdiv_small (b := b) h0 h1
  have hf := Int.fdiv_eq_tdiv (a := a) (b := b)
  unfold spec_l04Floor.f
  rw [if_neg hb]
  by_cases c : Int.tmod a b = 0
  · have hd : b ∣ a := Int.dvd_of_tmod_eq_zero c
    rw [if_pos hd] at hf
    rw [if_pos c, wrap64_id (by omega) (by omega)]; congr 1; omega
  · have hd : ¬ b ∣ a := fun h => c (Int.tmod_eq_zero_of_dvd h)
    rw [if_neg hd] at hf
    rw [if_neg c]
    have ha : a ≠ 0 := fun h => hd (h ▸ Int.dvd_zero b)
    rcases Int.lt_trichotomy b 0 with hb2 | hb2 | hb2
    · have sg : b.sign = -1 := Int.sign_eq_neg_one_of_neg hb2
      rw [if_neg (show ¬ 0 ≤ b by omega), if_neg (show ¬ 0 ≤ b by omega), sg] at hf
      by_cases c2 : a < 0
      · rw [if_neg (by omega)] at hf
        rw [if_neg (by simp [c2, hb2]), wrap64_id (by omega) (by omega)]; congr 1; omega
      · rw [if_pos (by omega)] at hf
        rw [if_pos (by simp [c2, hb2]), wrap64_id (n := Int.tdiv a b) (by omega) (by omega), wrap64_id (by omega) (by omega)]; congr 1; omega
    · exact absurd hb2 hb
    · have sg : b.sign = 1 := Int.sign_eq_one_of_pos hb2
      rw [if_pos (show 0 ≤ b by omega), if_pos (show 0 ≤ b by omega), sg] at hf
      by_cases c2 : a < 0
      · rw [if_neg (by omega)] at hf
        rw [if_pos (by simp [c2]; omega), wrap64_id (n := Int.tdiv a b) (by omega) (by omega), wrap64_id (by omega) (by omega)]; congr 1; omega
      · rw [if_pos (by omega)] at hf
        rw [if_neg (by simp [c2]; omega), wrap64_id (by omega) (by omega)]; congr 1; omega
theorem floorI_is {a b : Int} (hb : b ≠ 0) (h0 : -4611686018427387904 ≤ a) (h1 : a ≤ 4611686018427387904) : impl_floor.f a b = some (a.fdiv b) := floorS_is hb h0 h1
/-- What both sides say of two quotients. -/
def alikeR (a e c g : Int) : Int × Bool := if c ≠ 0 ∧ g ≠ 0 ∧ (0 < c ↔ 0 < g) ∧ a.fdiv c = e.fdiv g then (a.fdiv c, true) else (0, false)
def Sm (a : Int) : Prop := -4611686018427387904 ≤ a ∧ a ≤ 4611686018427387904
theorem alikeS {a e c g : Int} (ha : Sm a) (he : Sm e) : Ev (fun k => spec_l04Alike.f k [a, e] [c, g]) (alikeR a e c g) := by
  have r0 : ∀ x y : Int, rd [x, y] 0 = x := fun _ _ => rfl
  have r1 : ∀ x y : Int, rd [x, y] 1 = y := fun _ _ => rfl
  refine Ev.congr (fun k => by unfold spec_l04Alike.f; rfl) ?_
  refine Ev.step (fun k => by rw [spec_l04Alike.l0]) (Ev.congr (fun k => if_pos (by simp)) (Ev.congr (fun k => if_pos (by omega)) ?_))
  rw [r0]
  by_cases c0 : c = 0
  · refine Ev.congr (fun k => if_pos c0) ?_
    unfold alikeR; rw [if_neg (fun h => h.1 c0)]; exact Ev.now _
  refine Ev.congr (fun k => if_neg c0) (Ev.congr (fun k => if_pos (by simp)) (Ev.congr (fun k => if_neg (by simp)) ?_))
  rw [show wrap64 (0 + 1) = 1 by decide +kernel]
  refine Ev.step (fun k => by rw [spec_l04Alike.l0]) (Ev.congr (fun k => if_pos (by simp)) (Ev.congr (fun k => if_pos (by omega)) ?_))
  rw [r1, r0]
  by_cases g0 : g = 0
  · refine Ev.congr (fun k => if_pos g0) ?_
    unfold alikeR; rw [if_neg (fun h => h.2.1 g0)]; exact Ev.now _
  refine Ev.congr (fun k => if_neg g0) (Ev.congr (fun k => if_pos (by simp)) ?_)
  by_cases s : (0 < c ↔ 0 < g)
  rotate_left
  · refine Ev.congr (fun k => if_pos (by simp only [bne_iff_ne, ne_eq, decide_eq_decide]; exact fun h => s ⟨fun x => h.2 x, fun x => h.1 x⟩)) ?_
    unfold alikeR; rw [if_neg (fun h => s h.2.2.1)]; exact Ev.now _
  refine Ev.congr (fun k => if_neg (by simp only [bne_iff_ne, ne_eq, decide_eq_decide, Classical.not_not]; exact ⟨fun x => s.2 x, fun x => s.1 x⟩)) ?_
  rw [show wrap64 (1 + 1) = 2 by decide +kernel]
  refine Ev.step (fun k => by rw [spec_l04Alike.l0]) (Ev.congr (fun k => if_neg (by simp)) (Ev.congr (fun k => if_pos (by simp)) (Ev.congr (fun k => if_pos (by simp)) ?_)))
  rw [r0, r0, floorS_is c0 ha.1 ha.2]
  simp only [Option.bind_some]
  refine Ev.step (fun k => by rw [spec_l04Alike.l1]) (Ev.congr (fun k => if_pos (by simp)) (Ev.congr (fun k => if_pos (by omega)) (Ev.congr (fun k => if_pos (by simp)) ?_)))
  rw [r1, r1, floorS_is g0 he.1 he.2]
  simp only [Option.bind_some]
  by_cases q : a.fdiv c = e.fdiv g
  · refine Ev.congr (fun k => if_pos q.symm) ?_
    rw [show wrap64 (1 + 1) = 2 by decide +kernel]
    refine Ev.step (fun k => by rw [spec_l04Alike.l1]) (Ev.congr (fun k => if_neg (by simp)) ?_)
    unfold alikeR; rw [if_pos ⟨c0, g0, s, q⟩]; exact Ev.now _
  · refine Ev.congr (fun k => if_neg (fun h => q h.symm)) ?_
    unfold alikeR; rw [if_neg (fun h => q h.2.2.2)]; exact Ev.now _
theorem contains_two (c g : Int) : Ev (fun k => slices_Contains_int64_int64.f k [c, g] 0) (decide (c = 0 ∨ g = 0)) := by
  have r0 : ∀ x y : Int, rd [x, y] 0 = x := fun _ _ => rfl
  have r1 : ∀ x y : Int, rd [x, y] 1 = y := fun _ _ => rfl
  have fin : ∀ r : Int, Ev (fun k => slices_Index_int64_int64.l0 k [c, g] 0 2 0) r → Ev (fun k => slices_Contains_int64_int64.f k [c, g] 0) (decide (r ≥ 0)) := fun r h =>
    Ev.congr (fun k => by unfold slices_Contains_int64_int64.f slices_Index_int64_int64.f; rfl) (Ev.bind (a := r) h (Ev.now _))
  have e0 : ∀ r : Int, Ev (fun k => if (0 : Int) = c then some (0 : Int) else slices_Index_int64_int64.l0 k [c, g] 0 2 1) r → Ev (fun k => slices_Index_int64_int64.l0 k [c, g] 0 2 0) r := fun r h => by
    refine Ev.step (fun k => by rw [slices_Index_int64_int64.l0]) (Ev.congr (fun k => if_pos (by omega)) (Ev.congr (fun k => if_pos (by omega)) (Ev.congr (fun k => if_pos (by simp)) ?_)))
    rw [r0, show wrap64 (0 + 1) = 1 by decide +kernel]; exact h
  have e1 : ∀ r : Int, Ev (fun k => if (0 : Int) = g then some (1 : Int) else slices_Index_int64_int64.l0 k [c, g] 0 2 2) r → Ev (fun k => slices_Index_int64_int64.l0 k [c, g] 0 2 1) r := fun r h => by
    refine Ev.step (fun k => by rw [slices_Index_int64_int64.l0]) (Ev.congr (fun k => if_pos (by omega)) (Ev.congr (fun k => if_pos (by omega)) (Ev.congr (fun k => if_pos (by simp)) ?_)))
    rw [r1, show wrap64 (1 + 1) = 2 by decide +kernel]; exact h
  by_cases c0 : c = 0
  · rw [show decide (c = 0 ∨ g = 0) = decide ((0 : Int) ≥ 0) by simp [c0]]
    exact fin 0 (e0 0 (Ev.congr (fun k => if_pos c0.symm) (Ev.now _)))
  · by_cases g0 : g = 0
    · rw [show decide (c = 0 ∨ g = 0) = decide ((1 : Int) ≥ 0) by simp [g0]]
      exact fin 1 (e0 1 (Ev.congr (fun k => if_neg (fun h => c0 h.symm)) (e1 1 (Ev.congr (fun k => if_pos g0.symm) (Ev.now _)))))
    · rw [show decide (c = 0 ∨ g = 0) = decide ((-1 : Int) ≥ 0) by simp [c0, g0]]
      refine fin (-1) (e0 (-1) (Ev.congr (fun k => if_neg (fun h => c0 h.symm)) (e1 (-1) (Ev.congr (fun k => if_neg (fun h => g0 h.symm)) ?_))))
      exact Ev.step (fun k => by rw [slices_Index_int64_int64.l0]) (Ev.congr (fun k => if_neg (by omega)) (Ev.now _))
theorem givesI {a e c g : Int} (ha : Sm a) (he : Sm e) : Ev (fun k => impl_gives.f k [a, e] [c, g]) (alikeR a e c g) := by
  have r0 : ∀ x y : Int, rd [x, y] 0 = x := fun _ _ => rfl
  have r1 : ∀ x y : Int, rd [x, y] 1 = y := fun _ _ => rfl
  refine Ev.congr (fun k => by unfold impl_gives.f; rfl) (Ev.bind (contains_two c g) ?_)
  by_cases z : c = 0 ∨ g = 0
  · rw [decide_eq_true z]
    refine Ev.congr (fun k => if_pos rfl) ?_
    unfold alikeR; rw [if_neg (fun h => z.elim h.1 h.2.1)]; exact Ev.now _
  rw [decide_eq_false z]
  have c0 : c ≠ 0 := fun h => z (Or.inl h)
  have g0 : g ≠ 0 := fun h => z (Or.inr h)
  refine Ev.congr (fun k => if_neg (by decide)) (Ev.congr (fun k => if_pos (by simp)) (Ev.congr (fun k => if_pos (by simp)) ?_))
  rw [r0, r0, floorI_is c0 ha.1 ha.2]
  simp only [Option.bind_some]
  rw [show (([a, e] : List Int).length : Int) = 2 from rfl]
  refine Ev.step (fun k => by rw [impl_gives.l0]) (Ev.congr (fun k => if_pos (by omega)) (Ev.congr (fun k => if_pos (by omega)) (Ev.congr (fun k => if_pos (by simp)) (Ev.congr (fun k => if_pos (by simp)) (Ev.congr (fun k => if_neg (by simp)) (Ev.congr (fun k => if_pos (by simp)) ?_))))))
  rw [r0, r0, floorI_is c0 ha.1 ha.2]
  simp only [Option.bind_some]
  refine Ev.congr (fun k => if_pos trivial) ?_
  rw [show wrap64 (0 + 1) = 1 by decide +kernel]
  refine Ev.step (fun k => by rw [impl_gives.l0]) (Ev.congr (fun k => if_pos (by omega)) (Ev.congr (fun k => if_pos (by omega)) (Ev.congr (fun k => if_pos (by simp)) (Ev.congr (fun k => if_pos (by simp)) ?_))))
  rw [r1, r0, r1]
  by_cases s : (0 < c ↔ 0 < g)
  rotate_left
  · refine Ev.congr (fun k => if_pos (by simp only [bne_iff_ne, ne_eq, decide_eq_decide]; omega)) ?_
    unfold alikeR; rw [if_neg (fun h => s h.2.2.1)]; exact Ev.now _
  refine Ev.congr (fun k => if_neg (by simp only [bne_iff_ne, ne_eq, decide_eq_decide, Classical.not_not]; omega)) (Ev.congr (fun k => if_pos (by simp)) ?_)
  rw [floorI_is g0 he.1 he.2]
  simp only [Option.bind_some]
  by_cases q : a.fdiv c = e.fdiv g
  · refine Ev.congr (fun k => if_pos q.symm) ?_
    rw [show wrap64 (1 + 1) = 2 by decide +kernel]
    refine Ev.step (fun k => by rw [impl_gives.l0]) (Ev.congr (fun k => if_neg (by omega)) ?_)
    unfold alikeR; rw [if_pos ⟨c0, g0, s, q⟩]; exact Ev.now _
  · refine Ev.congr (fun k => if_neg (fun h => q h.symm)) ?_
    unfold alikeR; rw [if_neg (fun h => q h.2.2.2)]; exact Ev.now _
theorem u64_wrap (n : Int) : IntKind.u64.wrap n = n % 18446744073709551616 := by simp [IntKind.wrap, IntKind.bits, IntKind.signed]
theorem and32 (n : Int) (h0 : 0 ≤ n) (h1 : n < 18446744073709551616) : Go.bits .and .u64 n 4294967295 = n % 4294967296 :=
  bits_mask .u64 64 (by decide) (fun n h0 h1 => by rw [u64_wrap]; exact Int.emod_eq_of_lt h0 (by simpa using h1)) 32 (by decide) n h0 (by simpa using h1)
/-- Whether a product of two words is at most a bound below 2 to the power 64. -/
theorem mul64_small {x y : Int} (hx : 0 ≤ x ∧ x ≤ 9223372036854775808) (hy : 0 ≤ y ∧ y ≤ 9223372036854775808) : ∃ h l, bits_Mul64.f x y = some (h, l) ∧ (h = 0 → l = x * y) ∧ (h ≠ 0 → 18446744073709551616 ≤ x * y) := by
  unfold bits_Mul64.f
  rw [and32 y (by omega) (by omega), and32 x (by omega) (by omega)]
  have hx1 : x = x / 4294967296 * 4294967296 + x % 4294967296 := by omega
  have hy1 : y = y / 4294967296 * 4294967296 + y % 4294967296 := by omega
  have bx : 0 ≤ x / 4294967296 ∧ x / 4294967296 ≤ 2147483648 := by omega
  have by_ : 0 ≤ y / 4294967296 ∧ y / 4294967296 ≤ 2147483648 := by omega
  have bx0 : 0 ≤ x % 4294967296 ∧ x % 4294967296 ≤ 4294967295 := by omega
  have by0 : 0 ≤ y % 4294967296 ∧ y % 4294967296 ≤ 4294967295 := by omega
  have prod : x * y = (x / 4294967296) * (y / 4294967296) * 18446744073709551616 + ((x / 4294967296) * (y % 4294967296) + (x % 4294967296) * (y / 4294967296)) * 4294967296 + (x % 4294967296) * (y % 4294967296) := by
    conv => lhs; rw [hx1, hy1]
    grind
  have mb : ∀ {a b A B : Int}, 0 ≤ a → a ≤ A → 0 ≤ b → b ≤ B → 0 ≤ a * b ∧ a * b ≤ A * B := fun h0 h1 h2 h3 => ⟨Int.mul_nonneg h0 h2, Int.mul_le_mul h1 h3 h2 (by omega)⟩
  have p1 := mb bx.1 bx.2 by_.1 by_.2
  have p2 := mb bx.1 bx.2 by0.1 by0.2
  have p3 := mb bx0.1 bx0.2 by_.1 by_.2
  have p4 := mb bx0.1 bx0.2 by0.1 by0.2
  generalize hP : x * y = P at *
  generalize (x / 4294967296) * (y / 4294967296) = a at *
  generalize (x / 4294967296) * (y % 4294967296) = b at *
  generalize (x % 4294967296) * (y / 4294967296) = c at *
  generalize (x % 4294967296) * (y % 4294967296) = d at *
  simp only [u64_wrap]
  have e1 : a % 18446744073709551616 = a := by omega
  have e2 : b % 18446744073709551616 = b := by omega
  have e3 : c % 18446744073709551616 = c := by omega
  have e4 : d % 18446744073709551616 = d := by omega
  rw [e1, e2, e3, e4]
  have e5 : (b + d / 4294967296) % 18446744073709551616 = b + d / 4294967296 := by omega
  rw [e5, and32 _ (by omega) (by omega)]
  have e6 : (a + (b + d / 4294967296) / 4294967296) % 18446744073709551616 = a + (b + d / 4294967296) / 4294967296 := by omega
  have e7 : ((b + d / 4294967296) % 4294967296 + c) % 18446744073709551616 = (b + d / 4294967296) % 4294967296 + c := by omega
  rw [e6, e7]
  refine ⟨_, _, rfl, ?_, ?_⟩ <;> omega
/-- A number of a machine: at most 10 to the power 15. -/
def Ce (a : Int) : Prop := -1000000000000000 ≤ a ∧ a ≤ 1000000000000000
def cellR (a b c : Int) : Int × Bool := if -2000000000000000 ≤ a * b ∧ a * b ≤ 2000000000000000 then (a * b + c, decide (-1000000000000000 ≤ a * b + c ∧ a * b + c ≤ 1000000000000000)) else (0, false)
theorem natAbs_prod (a b : Int) : ((a.natAbs : Int) * (b.natAbs : Int) ≤ 2000000000000000) ↔ (-2000000000000000 ≤ a * b ∧ a * b ≤ 2000000000000000) := by
  have h : (a.natAbs : Int) * (b.natAbs : Int) = ((a * b).natAbs : Int) := by rw [Int.natAbs_mul]; exact (Int.natCast_mul _ _).symm
  rw [h]; omega
theorem cellS_is {ok : Bool} {a b c : Int} (ha : Sm a) (hb : Sm b) (hc : Ce c) : specC ok a b c = some ((cellR a b c).1, ok && (cellR a b c).2) := by
  unfold specC spec_l04Cell.f cellR
  unfold Sm at ha hb; unfold Ce at hc
  by_cases b0 : b = 0
  · subst b0
    rw [if_pos rfl, if_pos (by simp)]
    simp only [Int.mul_zero, Int.zero_add]
    rw [show wrap64 0 = 0 by decide +kernel, Int.zero_add, wrap64_id (by omega) (by omega), size_is (by omega) (by omega)]
    simp only [Option.bind_some]
    congr 3
    rw [Bool.eq_iff_iff]; simp; omega
  · rw [if_neg b0, size_is (a := a) (by omega) (by omega), size_is (a := b) (by omega) (by omega)]
    simp only [Option.bind_some]
    rw [if_neg (by omega)]
    have hd : (2000000000000000 : Int) / (b.natAbs : Int) ≤ 2000000000000000 := Int.ediv_le_self _ (by omega)
    have hd0 : 0 ≤ (2000000000000000 : Int) / (b.natAbs : Int) := Int.ediv_nonneg (by omega) (by omega)
    have ht : Int.tdiv 2000000000000000 (b.natAbs : Int) = 2000000000000000 / (b.natAbs : Int) := Int.tdiv_eq_ediv_of_nonneg (by omega)
    rw [ht, wrap64_id (by omega) (by omega)]
    have hq : ((a.natAbs : Int) > 2000000000000000 / (b.natAbs : Int)) ↔ ¬ (-2000000000000000 ≤ a * b ∧ a * b ≤ 2000000000000000) := by
      rw [← natAbs_prod, gt_iff_lt, Int.ediv_lt_iff_lt_mul (by omega)]; omega
    by_cases z : -2000000000000000 ≤ a * b ∧ a * b ≤ 2000000000000000
    · rw [if_neg (fun h => hq.1 h z), if_pos z, wrap64_id (n := a * b) (by omega) (by omega), wrap64_id (n := a * b + c) (by omega) (by omega), size_is (by omega) (by omega)]
      simp only [Option.bind_some]
      congr 3
      rw [Bool.eq_iff_iff]; simp; omega
    · rw [if_pos (hq.2 z), if_neg z]; rfl
theorem cellI_is {ov : Bool} {a b c : Int} (ha : Sm a) (hb : Sm b) (hc : Ce c) : implC ov a b c = some ((cellR a b c).1, ov || !(cellR a b c).2) := by
  unfold implC cellR
  unfold Sm at ha hb; unfold Ce at hc
  rw [mx_abs (by omega) (by omega), mx_abs (by omega) (by omega), u64_wrap, u64_wrap, Int.emod_eq_of_lt (by omega) (by omega), Int.emod_eq_of_lt (by omega) (by omega)]
  obtain ⟨h, l, e, e1, e2⟩ := mul64_small (x := (a.natAbs : Int)) (y := (b.natAbs : Int)) (by omega) (by omega)
  have hp := natAbs_prod a b
  rw [e]
  simp only [Option.bind_some]
  by_cases h0 : h = 0
  · rw [if_pos h0, e1 h0]
    by_cases z : -2000000000000000 ≤ a * b ∧ a * b ≤ 2000000000000000
    · rw [if_neg (by have := hp.2 z; omega), if_pos z, wrap64_id (n := a * b) (by omega) (by omega), wrap64_id (n := a * b + c) (by omega) (by omega)]
      cases ov with
      | true => rw [if_pos rfl]; rfl
      | false =>
        rw [if_neg (by decide), within_some]
        simp only [Option.bind_some, Bool.false_or]
    · rw [if_pos (by have : ¬ (a.natAbs : Int) * (b.natAbs : Int) ≤ 2000000000000000 := fun w => z (hp.1 w); omega), if_neg z]; simp
  · rw [if_neg h0, if_neg (fun z => by have := hp.2 z; have := e2 h0; omega)]; simp
theorem cellR_comm (a b c : Int) : cellR a b c = cellR b a c := by unfold cellR; rw [Int.mul_comm]
theorem cellR_ok {a b c : Int} (h : (cellR a b c).2 = true) : (cellR a b c).1 = a * b + c ∧ Ce (a * b + c) := by
  unfold cellR at h ⊢
  split at h
  · rename_i z
    rw [if_pos z]
    exact ⟨rfl, by simpa [Ce] using h⟩
  · cases h
/-! ### the two machines, side by side -/
theorem fmod_sign (A : Int) {C : Int} : (0 < C → 0 ≤ A.fmod C ∧ A.fmod C < C) ∧ (C < 0 → C < A.fmod C ∧ A.fmod C ≤ 0) := by
  refine ⟨fun h => ⟨Int.fmod_nonneg_of_pos A h, Int.fmod_lt_of_pos A h⟩, fun h => ?_⟩
  have h1 := Int.fmod_nonneg_of_pos (-A) (b := -C) (by omega)
  have h2 := Int.fmod_lt_of_pos (-A) (b := -C) (by omega)
  rw [Int.neg_fmod_neg] at h1 h2
  omega
theorem fmod_half_pos {C x : Int} (h0 : 0 < x) (h1 : x < C) : 0 ≤ C.fmod x ∧ 2 * C.fmod x < C := by
  have e := Int.mul_fdiv_add_fmod C x
  have l := (fmod_sign C (C := x)).1 h0
  have q : 1 ≤ C.fdiv x := by
    rcases Int.lt_or_le (C.fdiv x) 1 with h | h
    · have : x * C.fdiv x ≤ x * 0 := Int.mul_le_mul_of_nonneg_left (by omega) (by omega)
      omega
    · exact h
  have : x * 1 ≤ x * C.fdiv x := Int.mul_le_mul_of_nonneg_left q (by omega)
  omega
theorem fmod_half {A C : Int} (hC : C ≠ 0) (hx : A.fmod C ≠ 0) : 2 * (C.fmod (A.fmod C)).natAbs < C.natAbs := by
  rcases Int.lt_or_le 0 C with h | h
  · have l := (fmod_sign A).1 h
    have := fmod_half_pos (C := C) (x := A.fmod C) (by omega) l.2
    omega
  · have l := (fmod_sign A (C := C)).2 (by omega)
    have := fmod_half_pos (C := -C) (x := -(A.fmod C)) (by omega) (by omega)
    rw [Int.neg_fmod_neg] at this
    omega
def Ev2 {α : Type} (f : Nat → Nat → Option α) (r : α) : Prop := ∃ N, ∀ k m, N ≤ k → N ≤ m → f k m = some r
/-- What holds of a machine that moves: p bounds the terms that it may give in a row, n all its moves. -/
structure PInv (xs : List Int) (s : PSt) (p n : Nat) : Prop where
  cA : Ce s.A
  cB : Ce s.B
  cC : Ce s.C
  cD : Ce s.D
  t0 : 0 ≤ s.tk
  t1 : s.tk ≤ (xs.length : Int) + 1
  te : s.tk = (xs.length : Int) + 1 → s.A = s.B ∧ s.C = s.D
  pot : s.C ≠ 0 → ∃ i j : Nat, s.C.natAbs < 2 ^ i ∧ (s.A.fmod s.C).natAbs < 2 ^ j ∧ i + j ≤ p
  pb : p ≤ 100
  nn : n = ((xs.length : Int) + 1 - s.tk).toNat * 101 + p
  ml : s.ms.length + n ≤ 20000
  gl : s.gs.length ≤ s.ms.length
  gb : ∀ z ∈ s.gs, Sm z
structure XsOk (xs : List Int) : Prop where
  len : xs.length ≤ 40
  el : ∀ i : Int, -1000000000 ≤ rd xs i ∧ rd xs i ≤ 1000000000
theorem pot100 {A C : Int} (hC : Ce C) : C ≠ 0 → ∃ i j : Nat, C.natAbs < 2 ^ i ∧ (A.fmod C).natAbs < 2 ^ j ∧ i + j ≤ 100 := by
  intro h
  unfold Ce at hC
  have := fmod_sign A (C := C)
  refine ⟨50, 50, ?_, ?_, by omega⟩ <;> (rw [show (2 : Nat) ^ 50 = 1125899906842624 by decide]; omega)
def giveSt (s : PSt) (q x y : Int) (f : Bool) : PSt := ⟨s.C, s.D, x, y, s.tk, s.ms ++ [⟨1, q⟩], s.gs ++ [q], f⟩
def takeSt (s : PSt) (a x y : Int) (f : Bool) : PSt := ⟨x, s.A, y, s.C, s.tk + 1, s.ms ++ [⟨2, a⟩], s.gs, f⟩
def infSt (s : PSt) : PSt := ⟨s.A, s.A, s.C, s.C, s.tk + 1, s.ms ++ [⟨2, 0⟩], s.gs, s.ov⟩
section
variable {xs : List Int} {s : PSt} {p n : Nat}
theorem PInv.sum (h : PInv xs s p n) : wrap64 (s.A + s.B) = s.A + s.B ∧ wrap64 (s.C + s.D) = s.C + s.D ∧ Sm s.A ∧ Sm (s.A + s.B) := by
  have h1 := h.cA; have h2 := h.cB; have h3 := h.cC; have h4 := h.cD
  unfold Ce at h1 h2 h3 h4; unfold Sm
  exact ⟨wrap64_id (by omega) (by omega), wrap64_id (by omega) (by omega), by omega, by omega⟩
theorem PInv.give (h : PInv xs s p n) (hc : s.C ≠ 0) (q : Int) (hq : q = s.A.fdiv s.C) (h1 : (cellR s.C (-q) s.A).2 = true) (h2 : (cellR s.D (-q) s.B).2 = true) (f : Bool) :
    ∃ p', p' + 1 ≤ p ∧ PInv xs (giveSt s q (cellR s.C (-q) s.A).1 (cellR s.D (-q) s.B).1 f) p' (((xs.length : Int) + 1 - s.tk).toNat * 101 + p') := by
  obtain ⟨e1, b1⟩ := cellR_ok h1
  obtain ⟨e2, b2⟩ := cellR_ok h2
  have hx : s.C * -q + s.A = s.A.fmod s.C := by
    have := Int.mul_fdiv_add_fmod s.A s.C
    rw [hq]; have : s.C * -s.A.fdiv s.C = -(s.C * s.A.fdiv s.C) := by rw [Int.mul_neg]
    omega
  obtain ⟨i, j, hi, hj, hij⟩ := h.pot hc
  have hi1 : 1 ≤ i := by
    rcases Nat.eq_zero_or_pos i with h0 | h0
    · subst h0; simp at hi; omega
    · exact h0
  have hn := h.nn; have hml := h.ml; have hgl := h.gl; have hpb := h.pb
  refine ⟨p - 1, by omega, ?_⟩
  unfold giveSt
  rw [e1, e2]
  refine ⟨h.cC, h.cD, b1, b2, h.t0, h.t1, fun ht => ?_, fun hz => ?_, by omega, rfl, ?_, ?_, ?_⟩
  · obtain ⟨y1, y2⟩ := h.te ht
    exact ⟨y2, by show s.C * -q + s.A = s.D * -q + s.B; rw [y1, y2]⟩
  · show ∃ i j : Nat, (s.C * -q + s.A).natAbs < 2 ^ i ∧ (s.C.fmod (s.C * -q + s.A)).natAbs < 2 ^ j ∧ i + j ≤ p - 1
    rw [hx]
    refine ⟨j, i - 1, hj, ?_, by omega⟩
    have hz2 : s.A.fmod s.C ≠ 0 := by rw [← hx]; exact hz
    have := fmod_half hc hz2
    have e : 2 ^ i = 2 * 2 ^ (i - 1) := by rw [← Nat.pow_succ']; congr 1; omega
    omega
  · simp only [List.length_append, List.length_cons, List.length_nil]; omega
  · simp only [List.length_append, List.length_cons, List.length_nil]; omega
  · intro z hz
    rcases List.mem_append.1 hz with hz | hz
    · exact h.gb z hz
    · rw [List.mem_singleton.1 hz, hq]
      have := Int.natAbs_fdiv_le_natAbs s.A s.C
      have := h.cA; unfold Ce at this; unfold Sm; omega
theorem PInv.take (h : PInv xs s p n) (hlt : s.tk < (xs.length : Int)) (a x y : Int) (hx : Ce x) (hy : Ce y) (f : Bool) :
    PInv xs (takeSt s a x y f) 100 (((xs.length : Int) + 1 - (s.tk + 1)).toNat * 101 + 100) ∧ ((xs.length : Int) + 1 - (s.tk + 1)).toNat * 101 + 100 < n := by
  have hn := h.nn; have hml := h.ml; have hgl := h.gl; have h0 := h.t0
  refine ⟨?_, by omega⟩
  unfold takeSt
  refine ⟨hx, h.cA, hy, h.cC, by show 0 ≤ s.tk + 1; omega, by show s.tk + 1 ≤ _; omega, fun ht => ?_, pot100 hy, by omega, rfl, ?_, ?_, h.gb⟩
  · have : s.tk + 1 = (xs.length : Int) + 1 := ht
    omega
  · simp only [List.length_append, List.length_cons, List.length_nil]; omega
  · simp only [List.length_append, List.length_cons, List.length_nil]; omega
theorem PInv.inf (h : PInv xs s p n) (hle : s.tk = (xs.length : Int)) :
    PInv xs (infSt s) 100 (((xs.length : Int) + 1 - (s.tk + 1)).toNat * 101 + 100) ∧ ((xs.length : Int) + 1 - (s.tk + 1)).toNat * 101 + 100 < n := by
  have hn := h.nn; have hml := h.ml; have hgl := h.gl; have h0 := h.t0
  refine ⟨?_, by omega⟩
  unfold infSt
  refine ⟨h.cA, h.cA, h.cC, h.cC, by show 0 ≤ s.tk + 1; omega, by show s.tk + 1 ≤ _; omega, fun _ => ⟨rfl, rfl⟩, pot100 h.cC, by omega, rfl, ?_, ?_, h.gb⟩
  · simp only [List.length_append, List.length_cons, List.length_nil]; omega
  · simp only [List.length_append, List.length_cons, List.length_nil]; omega
theorem PInv.guard (h : PInv xs s p n) (hx : XsOk xs) : s.ms.length < 1000000 ∧ s.gs.length < 1000000 ∧ 0 ≤ s.tk ∧ s.tk < 1000000 ∧ xs.length < 1000000 := by
  have := h.ml; have := h.gl; have := h.t0; have := h.t1; have := hx.len
  omega
/-- Behind all terms both quotients are the same. -/
theorem PInv.last (h : PInv xs s p n) (ht : s.tk = (xs.length : Int) + 1) (hc : s.C ≠ 0) : alikeR s.A (s.A + s.B) s.C (s.C + s.D) = (s.A.fdiv s.C, true) := by
  obtain ⟨e1, e2⟩ := h.te ht
  unfold alikeR
  rw [← e1, ← e2, if_pos]
  refine ⟨hc, by omega, by omega, ?_⟩
  rw [show s.A + s.A = 2 * s.A by omega, show s.C + s.C = 2 * s.C by omega, Int.mul_fdiv_mul_of_pos _ _ (by omega)]
theorem alikeR_true {a e c g q : Int} (h : alikeR a e c g = (q, true)) : c ≠ 0 ∧ q = a.fdiv c := by
  unfold alikeR at h
  split at h
  · rename_i z; exact ⟨z.1, (congrArg Prod.fst h).symm⟩
  · cases h
theorem q_small {a c q : Int} (ha : Ce a) (h : q = a.fdiv c) : Sm (-q) ∧ wrap64 (-q) = -q := by
  have := Int.natAbs_fdiv_le_natAbs a c
  unfold Ce at ha; unfold Sm
  exact ⟨by omega, wrap64_id (by omega) (by omega)⟩
theorem Ce.sm {a : Int} (h : Ce a) : Sm a := by unfold Ce at h; unfold Sm; omega
-- single steps
theorem S_end (h : (xs.length : Int) < s.tk ∧ s.C = 0) : Ev (fun k => stepS k xs s) (false, s) := Ev.congr (fun k => by unfold stepS; exact if_pos h) (Ev.now _)
theorem S_give (hI : PInv xs s p n) (hne : ¬ ((xs.length : Int) < s.tk ∧ s.C = 0)) {q : Int} (ha : alikeR s.A (s.A + s.B) s.C (s.C + s.D) = (q, true)) (ht : 0 < s.tk) :
    Ev (fun k => stepS k xs s) (true, giveSt s q (cellR s.C (-q) s.A).1 (cellR s.D (-q) s.B).1 ((s.ov && (cellR s.C (-q) s.A).2) && (cellR s.D (-q) s.B).2)) := by
  obtain ⟨w1, w2, m1, m2⟩ := hI.sum
  obtain ⟨hc, hq⟩ := alikeR_true ha
  obtain ⟨m3, w3⟩ := q_small hI.cA hq
  refine Ev.congr (fun k => by unfold stepS; exact if_neg hne) ?_
  rw [w1, w2]
  refine Ev.bind (alikeS m1 m2) ?_
  rw [ha]
  refine Ev.congr (fun k => if_pos ⟨rfl, ht⟩) ?_
  simp only
  rw [w3, cellS_is m3 hI.cC.sm hI.cA, Option.bind_some]
  simp only
  rw [cellS_is m3 hI.cD.sm hI.cB, Option.bind_some, cellR_comm (-q) s.C, cellR_comm (-q) s.D]
  exact Ev.now _
theorem S_inf (hI : PInv xs s p n) {z : Int × Bool} (ha : alikeR s.A (s.A + s.B) s.C (s.C + s.D) = z) (hno : ¬ (z.2 = true ∧ 0 < s.tk)) (ht : s.tk = (xs.length : Int)) : Ev (fun k => stepS k xs s) (true, infSt s) := by
  obtain ⟨w1, w2, m1, m2⟩ := hI.sum
  refine Ev.congr (fun k => by unfold stepS; exact if_neg (by omega)) ?_
  rw [w1, w2]
  refine Ev.bind (alikeS m1 m2) ?_
  rw [ha]
  exact Ev.congr (fun k => if_neg hno) (Ev.congr (fun k => if_pos ht) (Ev.now _))
theorem S_take (hI : PInv xs s p n) (hx : XsOk xs) {z : Int × Bool} (ha : alikeR s.A (s.A + s.B) s.C (s.C + s.D) = z) (hno : ¬ (z.2 = true ∧ 0 < s.tk)) (ht : s.tk < (xs.length : Int)) :
    Ev (fun k => stepS k xs s) (true, takeSt s (rd xs s.tk) (cellR s.A (rd xs s.tk) s.B).1 (cellR s.C (rd xs s.tk) s.D).1 ((s.ov && (cellR s.A (rd xs s.tk) s.B).2) && (cellR s.C (rd xs s.tk) s.D).2)) := by
  obtain ⟨w1, w2, m1, m2⟩ := hI.sum
  have hr := hx.el s.tk
  refine Ev.congr (fun k => by unfold stepS; exact if_neg (by omega)) ?_
  rw [w1, w2]
  refine Ev.bind (alikeS m1 m2) ?_
  rw [ha]
  refine Ev.congr (fun k => if_neg hno) (Ev.congr (fun k => if_neg (by omega)) (Ev.congr (fun k => if_pos ht) ?_))
  rw [cellS_is hI.cA.sm (by unfold Sm; omega) hI.cB, Option.bind_some]
  simp only
  rw [cellS_is hI.cC.sm (by unfold Sm; omega) hI.cD, Option.bind_some]
  exact Ev.now _
theorem I_give (hI : PInv xs s p n) {q : Int} (ha : alikeR s.A (s.A + s.B) s.C (s.C + s.D) = (q, true)) (ht : 0 < s.tk) (f : Bool) (hf : f = (((s.ov || decide (40 < (s.gs.length : Int) + 1)) || !(cellR s.C (-q) s.A).2) || !(cellR s.D (-q) s.B).2)) :
    Ev (fun k => stepI k xs s) (!f, giveSt s q (cellR s.C (-q) s.A).1 (cellR s.D (-q) s.B).1 f) := by
  obtain ⟨w1, w2, m1, m2⟩ := hI.sum
  obtain ⟨hc, hq⟩ := alikeR_true ha
  obtain ⟨m3, w3⟩ := q_small hI.cA hq
  refine Ev.congr (fun k => by unfold stepI; rfl) ?_
  rw [w1, w2]
  refine Ev.bind (givesI m1 m2) ?_
  rw [ha]
  refine Ev.congr (fun k => if_pos ⟨rfl, ht⟩) ?_
  simp only
  rw [w3, cellI_is hI.cC.sm m3 hI.cA, Option.bind_some]
  simp only
  rw [cellI_is hI.cD.sm m3 hI.cB, Option.bind_some, hf]
  exact Ev.now _
theorem I_take (hI : PInv xs s p n) (hx : XsOk xs) {z : Int × Bool} (ha : alikeR s.A (s.A + s.B) s.C (s.C + s.D) = z) (hno : ¬ (z.2 = true ∧ 0 < s.tk)) (ht : s.tk < (xs.length : Int)) (f : Bool) (hf : f = ((s.ov || !(cellR s.A (rd xs s.tk) s.B).2) || !(cellR s.C (rd xs s.tk) s.D).2)) :
    Ev (fun k => stepI k xs s) (!f, takeSt s (rd xs s.tk) (cellR s.A (rd xs s.tk) s.B).1 (cellR s.C (rd xs s.tk) s.D).1 f) := by
  obtain ⟨w1, w2, m1, m2⟩ := hI.sum
  have hr := hx.el s.tk
  refine Ev.congr (fun k => by unfold stepI; rfl) ?_
  rw [w1, w2]
  refine Ev.bind (givesI m1 m2) ?_
  rw [ha]
  refine Ev.congr (fun k => if_neg hno) (Ev.congr (fun k => if_pos ht) ?_)
  rw [cellI_is hI.cA.sm (by unfold Sm; omega) hI.cB, Option.bind_some]
  simp only
  rw [cellI_is hI.cC.sm (by unfold Sm; omega) hI.cD, Option.bind_some, hf]
  exact Ev.now _
theorem I_inf (hI : PInv xs s p n) {z : Int × Bool} (ha : alikeR s.A (s.A + s.B) s.C (s.C + s.D) = z) (hno : ¬ (z.2 = true ∧ 0 < s.tk)) (ht : s.tk = (xs.length : Int)) : Ev (fun k => stepI k xs s) (!s.ov, infSt s) := by
  obtain ⟨w1, w2, m1, m2⟩ := hI.sum
  refine Ev.congr (fun k => by unfold stepI; rfl) ?_
  rw [w1, w2]
  refine Ev.bind (givesI m1 m2) ?_
  rw [ha]
  exact Ev.congr (fun k => if_neg hno) (Ev.congr (fun k => if_neg (by omega)) (Ev.congr (fun k => if_pos (by omega)) (Ev.now _)))
theorem I_end (hI : PInv xs s p n) (ht : s.tk = (xs.length : Int) + 1) (hc : s.C = 0) : Ev (fun k => stepI k xs s) (false, s) := by
  obtain ⟨w1, w2, m1, m2⟩ := hI.sum
  refine Ev.congr (fun k => by unfold stepI; rfl) ?_
  rw [w1, w2]
  refine Ev.bind (givesI m1 m2) ?_
  rw [show alikeR s.A (s.A + s.B) s.C (s.C + s.D) = (0, false) by unfold alikeR; rw [if_neg (fun h => h.1 hc)]]
  exact Ev.congr (fun k => if_neg (by simp)) (Ev.congr (fun k => if_neg (by omega)) (Ev.congr (fun k => if_neg (by omega)) (Ev.now _)))
-- runs
theorem runS_bad (h : s.ov = false) : Ev2 (fun k m => runS k xs m s) s := ⟨1, fun k m _ hm => by
  obtain ⟨m, rfl⟩ : ∃ j, m = j + 1 := ⟨m - 1, by omega⟩
  show runS k xs (m + 1) s = some s
  rw [runS, if_neg (by rw [h]; decide)]⟩
theorem runS_next (h : s.ov = true) (hg : s.ms.length < 1000000 ∧ s.gs.length < 1000000 ∧ 0 ≤ s.tk ∧ s.tk < 1000000 ∧ xs.length < 1000000) {s' sf : PSt} (hs : Ev (fun k => stepS k xs s) (true, s')) (hr : Ev2 (fun k m => runS k xs m s') sf) : Ev2 (fun k m => runS k xs m s) sf := by
  obtain ⟨K, hK⟩ := hs
  obtain ⟨N, hN⟩ := hr
  refine ⟨K + N + 1, fun k m hk hm => ?_⟩
  obtain ⟨m, rfl⟩ : ∃ j, m = j + 1 := ⟨m - 1, by omega⟩
  have e1 : stepS k xs s = some (true, s') := hK k (by omega)
  have e2 : runS k xs m s' = some sf := hN k m (by omega) (by omega)
  show runS k xs (m + 1) s = some sf
  rw [runS, if_pos h, if_pos hg, e1, Option.bind_some]
  exact (if_pos rfl).trans e2
theorem runS_stop (h : s.ov = true) (hg : s.ms.length < 1000000 ∧ s.gs.length < 1000000 ∧ 0 ≤ s.tk ∧ s.tk < 1000000 ∧ xs.length < 1000000) {s' : PSt} (hs : Ev (fun k => stepS k xs s) (false, s')) : Ev2 (fun k m => runS k xs m s) s' := by
  obtain ⟨K, hK⟩ := hs
  refine ⟨K + 1, fun k m hk hm => ?_⟩
  obtain ⟨m, rfl⟩ : ∃ j, m = j + 1 := ⟨m - 1, by omega⟩
  have e1 : stepS k xs s = some (false, s') := hK k (by omega)
  show runS k xs (m + 1) s = some s'
  rw [runS, if_pos h, if_pos hg, e1, Option.bind_some]
  exact if_neg (by simp)
theorem runI_next (hg : s.ms.length < 1000000 ∧ s.gs.length < 1000000 ∧ 0 ≤ s.tk ∧ s.tk < 1000000 ∧ xs.length < 1000000) {s' sf : PSt} (hs : Ev (fun k => stepI k xs s) (true, s')) (hr : Ev2 (fun k m => runI k xs m s') sf) : Ev2 (fun k m => runI k xs m s) sf := by
  obtain ⟨K, hK⟩ := hs
  obtain ⟨N, hN⟩ := hr
  refine ⟨K + N + 1, fun k m hk hm => ?_⟩
  obtain ⟨m, rfl⟩ : ∃ j, m = j + 1 := ⟨m - 1, by omega⟩
  have e1 : stepI k xs s = some (true, s') := hK k (by omega)
  have e2 : runI k xs m s' = some sf := hN k m (by omega) (by omega)
  show runI k xs (m + 1) s = some sf
  rw [runI, if_pos hg, e1, Option.bind_some]
  exact (if_pos rfl).trans e2
theorem runI_stop (hg : s.ms.length < 1000000 ∧ s.gs.length < 1000000 ∧ 0 ≤ s.tk ∧ s.tk < 1000000 ∧ xs.length < 1000000) {s' : PSt} (hs : Ev (fun k => stepI k xs s) (false, s')) : Ev2 (fun k m => runI k xs m s) s' := by
  obtain ⟨K, hK⟩ := hs
  refine ⟨K + 1, fun k m hk hm => ?_⟩
  obtain ⟨m, rfl⟩ : ∃ j, m = j + 1 := ⟨m - 1, by omega⟩
  have e1 : stepI k xs s = some (false, s') := hK k (by omega)
  show runI k xs (m + 1) s = some s'
  rw [runI, if_pos hg, e1, Option.bind_some]
  exact if_neg (by simp)
end
/-! ### both machines to their ends -/
def fl (s : PSt) (b : Bool) : PSt := ⟨s.A, s.B, s.C, s.D, s.tk, s.ms, s.gs, b⟩
theorem PInv.fl {xs : List Int} {s : PSt} {p n : Nat} (h : PInv xs s p n) (b : Bool) : PInv xs (fl s b) p n := ⟨h.cA, h.cB, h.cC, h.cD, h.t0, h.t1, h.te, h.pot, h.pb, h.nn, h.ml, h.gl, h.gb⟩
theorem spec_ends {xs : List Int} (hx : XsOk xs) (n : Nat) : ∀ (s : PSt) (p : Nat), PInv xs s p n → s.ov = true → ∃ sf, Ev2 (fun k m => runS k xs m s) sf ∧ (sf.ov = false ∨ (s.gs.length ≤ sf.gs.length ∧ ∀ z ∈ sf.gs, Sm z)) := by
  induction n using Nat.strongRecOn with
  | ind n ih =>
  intro s p hI ho
  have hg := hI.guard hx
  by_cases h : (xs.length : Int) < s.tk ∧ s.C = 0
  · exact ⟨s, runS_stop ho hg (S_end h), Or.inr ⟨Nat.le_refl _, hI.gb⟩⟩
  obtain ⟨q, al, ha⟩ : ∃ q al, alikeR s.A (s.A + s.B) s.C (s.C + s.D) = (q, al) := ⟨_, _, rfl⟩
  by_cases hgv : al = true ∧ 0 < s.tk
  · obtain ⟨rfl, ht⟩ := hgv
    have hs := S_give hI h ha ht
    obtain ⟨hc, hq⟩ := alikeR_true ha
    rw [ho, Bool.true_and] at hs
    cases h1 : (cellR s.C (-q) s.A).2 with
    | false => rw [h1] at hs; exact ⟨_, runS_next ho hg hs (runS_bad rfl), Or.inl rfl⟩
    | true =>
      rw [h1, Bool.true_and] at hs
      cases h2 : (cellR s.D (-q) s.B).2 with
      | false => rw [h2] at hs; exact ⟨_, runS_next ho hg hs (runS_bad rfl), Or.inl rfl⟩
      | true =>
        rw [h2] at hs
        obtain ⟨p', hp, hJ⟩ := hI.give hc q hq h1 h2 true
        have hn := hI.nn
        obtain ⟨sf, r1, r2⟩ := ih _ (by omega) _ p' hJ rfl
        refine ⟨sf, runS_next ho hg hs r1, r2.imp id (fun r => ⟨?_, r.2⟩)⟩
        have := r.1
        simp only [giveSt, List.length_append, List.length_cons, List.length_nil] at this
        omega
  · have h1 := hI.t1
    rcases Int.lt_trichotomy s.tk (xs.length : Int) with ht | ht | ht
    · have hs := S_take hI hx ha hgv ht
      rw [ho, Bool.true_and] at hs
      cases h1 : (cellR s.A (rd xs s.tk) s.B).2 with
      | false => rw [h1] at hs; exact ⟨_, runS_next ho hg hs (runS_bad rfl), Or.inl rfl⟩
      | true =>
        rw [h1, Bool.true_and] at hs
        cases h2 : (cellR s.C (rd xs s.tk) s.D).2 with
        | false => rw [h2] at hs; exact ⟨_, runS_next ho hg hs (runS_bad rfl), Or.inl rfl⟩
        | true =>
          rw [h2] at hs
          obtain ⟨e1, b1⟩ := cellR_ok h1
          obtain ⟨e2, b2⟩ := cellR_ok h2
          obtain ⟨hJ, hn⟩ := hI.take ht (rd xs s.tk) _ _ (e1 ▸ b1) (e2 ▸ b2) true
          obtain ⟨sf, r1, r2⟩ := ih _ hn _ _ hJ rfl
          exact ⟨sf, runS_next ho hg hs r1, r2⟩
    · have hs := S_inf hI ha hgv ht
      obtain ⟨hJ, hn⟩ := hI.inf ht
      obtain ⟨sf, r1, r2⟩ := ih _ hn _ _ hJ ho
      exact ⟨sf, runS_next ho hg hs r1, r2⟩
    · exfalso
      have he : s.tk = (xs.length : Int) + 1 := by omega
      have hl := hI.last he (fun hz => h ⟨by omega, hz⟩)
      rw [ha] at hl
      exact hgv ⟨(congrArg Prod.snd hl), by omega⟩
/-- How both machines end: alike, or both without an answer. -/
def Ends (sS sI : PSt) : Prop :=
  (sS.ov = true ∧ sI.ov = false ∧ sI.ms = sS.ms ∧ sI.gs = sS.gs ∧ sS.gs.length ≤ 40 ∧ sS.ms.length ≤ 20000 ∧ ∀ z ∈ sS.gs, Sm z) ∨ (sI.ov = true ∧ (sS.ov = false ∨ (41 ≤ sS.gs.length ∧ ∀ z ∈ sS.gs, Sm z)))
theorem both_end {xs : List Int} (hx : XsOk xs) (n : Nat) : ∀ (s : PSt) (p : Nat), PInv xs s p n → s.ov = true → s.gs.length ≤ 40 → ∃ sS sI, Ev2 (fun k m => runS k xs m s) sS ∧ Ev2 (fun k m => runI k xs m (fl s false)) sI ∧ Ends sS sI := by
  induction n using Nat.strongRecOn with
  | ind n ih =>
  intro s p hI ho hG
  have hg := hI.guard hx
  have hK := hI.fl false
  by_cases h : (xs.length : Int) < s.tk ∧ s.C = 0
  · have h1 := hI.t1
    refine ⟨s, fl s false, runS_stop ho hg (S_end h), runI_stop (s := fl s false) hg (I_end (s := fl s false) hK (show s.tk = _ by omega) h.2), Or.inl ⟨ho, rfl, rfl, rfl, hG, ?_, hI.gb⟩⟩
    have := hI.ml; omega
  obtain ⟨q, al, ha⟩ : ∃ q al, alikeR s.A (s.A + s.B) s.C (s.C + s.D) = (q, al) := ⟨_, _, rfl⟩
  by_cases hgv : al = true ∧ 0 < s.tk
  · obtain ⟨rfl, ht⟩ := hgv
    have hs := S_give hI h ha ht
    have hi := I_give hK ha ht _ rfl
    obtain ⟨hc, hq⟩ := alikeR_true ha
    rw [ho, Bool.true_and] at hs
    rw [show (fl s false).ov = false from rfl, Bool.false_or] at hi
    simp only [show (fl s false).A = s.A from rfl, show (fl s false).B = s.B from rfl, show (fl s false).C = s.C from rfl, show (fl s false).D = s.D from rfl, show (fl s false).gs = s.gs from rfl] at hi
    cases h1 : (cellR s.C (-q) s.A).2 with
    | false =>
      rw [h1] at hs hi
      simp only [Bool.not_false, Bool.or_true, Bool.true_or, Bool.not_true] at hi
      exact ⟨_, _, runS_next ho hg hs (runS_bad rfl), runI_stop (s := fl s false) hg hi, Or.inr ⟨rfl, Or.inl rfl⟩⟩
    | true =>
      rw [h1, Bool.true_and] at hs
      rw [h1] at hi
      cases h2 : (cellR s.D (-q) s.B).2 with
      | false =>
        rw [h2] at hs hi
        simp only [Bool.not_false, Bool.or_true, Bool.true_or, Bool.not_true] at hi
        exact ⟨_, _, runS_next ho hg hs (runS_bad rfl), runI_stop (s := fl s false) hg hi, Or.inr ⟨rfl, Or.inl rfl⟩⟩
      | true =>
        rw [h2] at hs hi
        obtain ⟨p', hp, hJ⟩ := hI.give hc q hq h1 h2 true
        have hn := hI.nn
        have hlen : (giveSt s q (cellR s.C (-q) s.A).1 (cellR s.D (-q) s.B).1 true).gs.length = s.gs.length + 1 := by simp [giveSt]
        by_cases h40 : s.gs.length + 1 ≤ 40
        · rw [decide_eq_false (by omega)] at hi
          simp only [Bool.not_true, Bool.or_false, Bool.not_false] at hi
          obtain ⟨sS, sI, r1, r2, r3⟩ := ih _ (by omega) _ p' hJ rfl (by omega)
          exact ⟨sS, sI, runS_next ho hg hs r1, runI_next (s := fl s false) hg hi r2, r3⟩
        · rw [decide_eq_true (by omega)] at hi
          simp only [Bool.not_true, Bool.or_false, Bool.true_or] at hi
          obtain ⟨sf, r1, r2⟩ := spec_ends hx _ _ p' hJ rfl
          exact ⟨sf, _, runS_next ho hg hs r1, runI_stop (s := fl s false) hg hi, Or.inr ⟨rfl, r2.imp id (fun r => ⟨by have := r.1; omega, r.2⟩)⟩⟩
  · have h1 := hI.t1
    rcases Int.lt_trichotomy s.tk (xs.length : Int) with ht | ht | ht
    · have hs := S_take hI hx ha hgv ht
      have hi := I_take hK hx ha hgv ht _ rfl
      rw [ho, Bool.true_and] at hs
      rw [show (fl s false).ov = false from rfl, Bool.false_or] at hi
      simp only [show (fl s false).A = s.A from rfl, show (fl s false).B = s.B from rfl, show (fl s false).C = s.C from rfl, show (fl s false).D = s.D from rfl, show (fl s false).tk = s.tk from rfl] at hi
      cases h1 : (cellR s.A (rd xs s.tk) s.B).2 with
      | false =>
        rw [h1] at hs hi
        simp only [Bool.not_false, Bool.or_true, Bool.true_or, Bool.not_true] at hi
        exact ⟨_, _, runS_next ho hg hs (runS_bad rfl), runI_stop (s := fl s false) hg hi, Or.inr ⟨rfl, Or.inl rfl⟩⟩
      | true =>
        rw [h1, Bool.true_and] at hs
        rw [h1] at hi
        cases h2 : (cellR s.C (rd xs s.tk) s.D).2 with
        | false =>
          rw [h2] at hs hi
          simp only [Bool.not_false, Bool.or_true, Bool.true_or, Bool.not_true] at hi
          exact ⟨_, _, runS_next ho hg hs (runS_bad rfl), runI_stop (s := fl s false) hg hi, Or.inr ⟨rfl, Or.inl rfl⟩⟩
        | true =>
          rw [h2] at hs hi
          simp only [Bool.not_true, Bool.or_false, Bool.not_false] at hi
          obtain ⟨e1, b1⟩ := cellR_ok h1
          obtain ⟨e2, b2⟩ := cellR_ok h2
          obtain ⟨hJ, hn⟩ := hI.take ht (rd xs s.tk) _ _ (e1 ▸ b1) (e2 ▸ b2) true
          obtain ⟨sS, sI, r1, r2, r3⟩ := ih _ hn _ _ hJ rfl hG
          exact ⟨sS, sI, runS_next ho hg hs r1, runI_next (s := fl s false) hg hi r2, r3⟩
    · have hs := S_inf hI ha hgv ht
      have hi := I_inf hK ha hgv ht
      obtain ⟨hJ, hn⟩ := hI.inf ht
      obtain ⟨sS, sI, r1, r2, r3⟩ := ih _ hn _ _ hJ ho hG
      exact ⟨sS, sI, runS_next ho hg hs r1, runI_next (s := fl s false) hg hi r2, r3⟩
    · exfalso
      have he : s.tk = (xs.length : Int) + 1 := by omega
      have hl := hI.last he (fun hz => h ⟨by omega, hz⟩)
      rw [ha] at hl
      exact hgv ⟨(congrArg Prod.snd hl), by omega⟩
/-! ### what both sides return -/
theorem Ev2.ev {α : Type} {f : Nat → Nat → Option α} {r : α} (h : Ev2 f r) : Ev (fun k => f k k) r := by
  obtain ⟨N, hN⟩ := h
  exact ⟨N, fun k hk => hN k k hk hk⟩
theorem sm_word {gs : List Int} (h : ∀ z ∈ gs, Sm z) : ∀ j, j < gs.length → -9223372036854775808 ≤ gs.getD j 0 ∧ gs.getD j 0 ≤ 9223372036854775807 := by
  refine terms_w (fun z hz => ?_)
  have := h z hz
  unfold Sm at this
  omega
theorem xs_ok {xs : List Int} (h : termsOk xs = true) : XsOk xs := by
  obtain ⟨h1, h2, -⟩ := termsOk_is h
  refine ⟨h1.2, fun i => ?_⟩
  unfold rd
  by_cases c : i.toNat < xs.length
  · have := h2 _ c; exact ⟨this.1, this.2.1⟩
  · rw [List.getD_eq_getElem?_getD, List.getElem?_eq_none (by omega)]; simp
theorem big_bad {gs : List Int} (h : 41 ≤ gs.length) : termsOk gs = false := by
  unfold termsOk
  rw [decide_eq_false (by omega), Bool.false_and]
/-- What a machine's end means. -/
theorem ends_code {sS sI : PSt} (h : Ends sS sI) : ∃ c, Ev (fun k => spec_l04Work_end.f k sS.ms sS.gs sS.ov) c ∧ Ev (fun k => impl_mover_code.f k sI.ms sI.gs sI.ov) c ∧ (c = 0 → sI.ms = sS.ms ∧ sI.gs = sS.gs ∧ sS.gs.length ≤ 40 ∧ sS.ms.length ≤ 20000) := by
  rcases h with ⟨h1, h2, h3, h4, h5, h6, h7⟩ | ⟨h1, h2⟩
  · rw [h1, h2, h3, h4]
    by_cases z : (sS.gs.length : Int) = 0
    · refine ⟨4, Ev.congr (fun k => by unfold spec_l04Work_end.f; exact (if_pos rfl).trans (if_pos z)) (Ev.now _), ?_, fun h => absurd h (by decide)⟩
      refine Ev.congr (fun k => by unfold impl_mover_code.f; exact (if_neg (by simp)).trans (if_neg (by omega))) ?_
      exact Ev.step (fun k => by rw [impl_mover_code.j0]) (Ev.congr (fun k => (if_neg (by simp)).trans (if_pos z)) (Ev.now _))
    · have e1 := specTerms_ev sS.gs (sm_word h7)
      have e2 := implTerms_ev sS.gs
      cases t : termsOk sS.gs with
      | true =>
        rw [t] at e1 e2
        refine ⟨0, Ev.congr (fun k => by unfold spec_l04Work_end.f; exact (if_pos rfl).trans (if_neg z)) (Ev.bind e1 (Ev.congr (fun k => if_pos rfl) (Ev.now _))), ?_, fun _ => ⟨rfl, rfl, h5, h6⟩⟩
        refine Ev.congr (fun k => by unfold impl_mover_code.f; exact (if_neg (by simp)).trans (if_pos (by omega))) (Ev.bind e2 ?_)
        exact Ev.step (fun k => by rw [impl_mover_code.j0]) (Ev.congr (fun k => (if_neg (by simp)).trans (if_neg z)) (Ev.now _))
      | false =>
        rw [t] at e1 e2
        refine ⟨3, Ev.congr (fun k => by unfold spec_l04Work_end.f; exact (if_pos rfl).trans (if_neg z)) (Ev.bind e1 (Ev.congr (fun k => if_neg Bool.false_ne_true) (Ev.now _))), ?_, fun h => absurd h (by decide)⟩
        refine Ev.congr (fun k => by unfold impl_mover_code.f; exact (if_neg (by simp)).trans (if_pos (by omega))) (Ev.bind e2 ?_)
        exact Ev.step (fun k => by rw [impl_mover_code.j0]) (Ev.congr (fun k => if_pos (by simp)) (Ev.now _))
  · refine ⟨3, ?_, ?_, fun h => absurd h (by decide)⟩
    · rcases h2 with h2 | ⟨h2, h3⟩
      · rw [h2]
        exact Ev.congr (fun k => by unfold spec_l04Work_end.f; exact if_neg (by simp)) (Ev.now _)
      · cases o : sS.ov with
        | false => exact Ev.congr (fun k => by unfold spec_l04Work_end.f; exact if_neg (by simp)) (Ev.now _)
        | true =>
          have e1 := specTerms_ev sS.gs (sm_word h3)
          rw [big_bad h2] at e1
          exact Ev.congr (fun k => by unfold spec_l04Work_end.f; exact (if_pos rfl).trans (if_neg (by omega))) (Ev.bind e1 (Ev.congr (fun k => if_neg Bool.false_ne_true) (Ev.now _)))
    · rw [h1]
      refine Ev.congr (fun k => by unfold impl_mover_code.f; exact if_pos rfl) ?_
      exact Ev.step (fun k => by rw [impl_mover_code.j0]) (Ev.congr (fun k => if_pos rfl) (Ev.now _))
def st0 (A B C D : Int) (o : Bool) : PSt := ⟨A, B, C, D, 0, [], [], o⟩
theorem in_ce {a : Int} (h : inP a = true) : Ce a := by
  unfold inP at h; have := of_decide_eq_true h; unfold Ce; omega
theorem pair_inv {A B C D : Int} {xs : List Int} (hx : XsOk xs) (hA : inP A = true) (hB : inP B = true) (hC : inP C = true) (hD : inP D = true) : PInv xs (st0 A B C D true) 100 (((xs.length : Int) + 1 - 0).toNat * 101 + 100) := by
  have := hx.len
  refine ⟨in_ce hA, in_ce hB, in_ce hC, in_ce hD, Int.le_refl _, by show (0 : Int) ≤ _; omega, fun h => ?_, pot100 (in_ce hC), by omega, rfl, ?_, Nat.le_refl _, fun z hz => by cases hz⟩
  · have : (0 : Int) = (xs.length : Int) + 1 := h
    omega
  · show 0 + _ ≤ 20000; omega
/-- Both machines from their starts: one answer. -/
theorem pair_all (A B C D : Int) {xs : List Int} (hw : ∀ j, j < xs.length → -9223372036854775808 ≤ xs.getD j 0 ∧ xs.getD j 0 ≤ 9223372036854775807) :
    (∃ c st, c ≠ 0 ∧ Ev (fun k => spec_l04PairGiven.f k A B C D xs) c ∧ Ev (fun k => pairF k A B C D xs) (st, c)) ∨
    (∃ sS sI c, Ev (fun k => spec_l04PairGiven.f k A B C D xs) 0 ∧ Ev (fun k => runS k xs k (st0 A B C D true)) sS ∧ Ev (fun k => spec_l04Work_end.f k sS.ms sS.gs sS.ov) c ∧ Ev (fun k => pairF k A B C D xs) (sI, c) ∧ (c = 0 → sI.ms = sS.ms ∧ sI.gs = sS.gs ∧ sS.gs.length ≤ 40 ∧ sS.ms.length ≤ 20000)) := by
  have e1 := specTerms_ev xs hw
  have e2 := implTerms_ev xs
  cases t : termsOk xs with
  | false =>
    rw [t] at e1 e2
    left
    exact ⟨1, _, by decide, Ev.congr (fun k => by unfold spec_l04PairGiven.f; rfl) (Ev.bind e1 (Ev.congr (fun k => if_neg Bool.false_ne_true) (Ev.now _))), Ev.congr (fun k => by unfold pairF; rfl) (Ev.bind e2 (Ev.congr (fun k => if_neg Bool.false_ne_true) (Ev.now _)))⟩
  | true =>
    rw [t] at e1 e2
    have hg : Ev (fun k => spec_l04PairGiven.f k A B C D xs) (if inP A = true ∧ inP B = true ∧ inP C = true ∧ inP D = true then 0 else 2) := by
      refine Ev.congr (fun k => by unfold spec_l04PairGiven.f; rfl) (Ev.bind e1 (Ev.congr (fun k => if_pos rfl) ?_))
      simp only [l00In_some, Option.bind_some]
      unfold inP
      refine ⟨0, fun k _ => ?_⟩
      by_cases h1 : (-1000000000 ≤ A ∧ A ≤ 1000000000) <;> by_cases h2 : (-1000000000 ≤ B ∧ B ≤ 1000000000) <;> by_cases h3 : (-1000000000 ≤ C ∧ C ≤ 1000000000) <;> by_cases h4 : (-1000000000 ≤ D ∧ D ≤ 1000000000) <;> simp [h1, h2, h3, h4]
    by_cases c : inP A = true ∧ inP B = true ∧ inP C = true ∧ inP D = true
    · right
      rw [if_pos c] at hg
      have hx := xs_ok t
      obtain ⟨sS, sI, r1, r2, r3⟩ := both_end hx _ _ _ (pair_inv hx c.1 c.2.1 c.2.2.1 c.2.2.2) rfl (by show 0 ≤ 40; omega)
      obtain ⟨cd, c1, c2, c3⟩ := ends_code r3
      refine ⟨sS, sI, cd, hg, r1.ev, c1, ?_, c3⟩
      refine Ev.congr (fun k => by unfold pairF; rfl) (Ev.bind e2 (Ev.congr (fun k => (if_pos rfl).trans (if_pos c)) ?_))
      refine Ev.bind r2.ev ?_
      refine Ev.bind c2 ?_
      exact Ev.now _
    · left
      rw [if_neg c] at hg
      exact ⟨2, _, by decide, hg, Ev.congr (fun k => by unfold pairF; rfl) (Ev.bind e2 (Ev.congr (fun k => (if_pos rfl).trans (if_neg c)) (Ev.now _)))⟩
theorem and255 (n : Int) (h0 : 0 ≤ n) (h1 : n < 18446744073709551616) : Go.bits .and .u64 n 255 = n % 256 :=
  bits_mask .u64 64 (by decide) (fun n h0 h1 => by rw [u64_wrap]; exact Int.emod_eq_of_lt h0 (by simpa using h1)) 8 (by decide) n h0 (by simpa using h1)
theorem byte_at {s : List Int} (hs : ∀ z ∈ s, 0 ≤ z ∧ z ≤ 255) (i : Int) : 0 ≤ rd s i ∧ rd s i ≤ 255 := by
  unfold rd
  rw [List.getD_eq_getElem?_getD]
  rcases Nat.lt_or_ge i.toNat s.length with h | h
  · rw [List.getElem?_eq_getElem h]; exact hs _ (List.getElem_mem h)
  · rw [List.getElem?_eq_none h]; simp
theorem next_is (s : List Int) (hs : ∀ z ∈ s, 0 ≤ z ∧ z ≤ 255) (i : Int) (h0 : 0 ≤ i) (h1 : i ≤ 1000000000) (sd : Int) : ∃ x sd', spec_l00Src_next.f s i sd = some (x, i + 1, sd') ∧ 0 ≤ x ∧ x ≤ 255 := by
  have hb := byte_at hs i
  have ew : wrap64 (i + 1) = i + 1 := wrap64_id (by omega) (by omega)
  unfold spec_l00Src_next.f
  rw [ew]
  by_cases c : i < (s.length : Int)
  · rw [if_pos c, if_pos h0, if_pos (by omega)]
    exact ⟨_, _, rfl, by rw [wrap64_id (by omega) (by omega)]; omega⟩
  · rw [if_neg c, if_neg (by omega)]
    refine ⟨_, _, rfl, ?_⟩
    generalize IntKind.u64.wrap (sd * 6364136223846793005) = A
    rw [u64_wrap (IntKind.u64.wrap _ + 1442695040888963407)]
    generalize IntKind.u64.wrap _ + 1442695040888963407 = B
    have b0 : 0 ≤ B % 18446744073709551616 ∧ B % 18446744073709551616 < 18446744073709551616 := by omega
    rw [and255 _ (by omega) (by omega), wrap64_id (by omega) (by omega)]
    omega
theorem pick_is (s : List Int) (hs : ∀ z ∈ s, 0 ≤ z ∧ z ≤ 255) (i : Int) (h0 : 0 ≤ i) (h1 : i ≤ 1000000000) (sd n : Int) (hn : 2 ≤ n ∧ n ≤ 200) : ∃ x i' sd', spec_l00Src_pick.f s i sd n = some (x, i', sd') ∧ 0 ≤ x ∧ x < n ∧ 0 ≤ i' ∧ i' ≤ i + 1 := by
  obtain ⟨x, sd', hx, hx0, _⟩ := next_is s hs i h0 h1 sd
  unfold spec_l00Src_pick.f
  rw [if_neg (by omega), hx]
  simp only [Option.bind_some]
  rw [if_neg (by omega), if_neg (by omega)]
  refine ⟨_, _, _, rfl, ?_, ?_, by omega, by omega⟩
  · exact Int.tmod_nonneg _ hx0
  · exact Int.tmod_lt_of_pos _ (by omega)
/-- Terms as they are drawn: few and small. -/
def Drawn (xs : List Int) : Prop := ∃ a l, xs = a :: l ∧ l.length ≤ 5 ∧ (-4 ≤ a ∧ a ≤ 4) ∧ (∀ z ∈ l, 1 ≤ z ∧ z ≤ 5) ∧ TailOk l
theorem drawn_end (a : Int) (ha : -4 ≤ a ∧ a ≤ 4) (l : List Int) (hl : l.length ≤ 5) (hz : ∀ z ∈ l, 1 ≤ z ∧ z ≤ 5) (s : List Int) (i sd : Int) : ∃ xs, Drawn xs ∧ ∀ k, spec_l04Drawn.l0 (k + 1) (a :: l) 0 s i sd = some (xs, i, sd) := by
  rcases List.eq_nil_or_concat l with rfl | ⟨l', z, rfl⟩
  · refine ⟨[a], ⟨a, [], rfl, by simp, ha, by simp, trivial⟩, fun k => ?_⟩
    rw [spec_l04Drawn.l0, if_neg (by omega), if_neg (by simp)]
  · simp only [List.concat_eq_append] at *
    have hlen : (a :: (l' ++ [z])).length = l'.length + 2 := by simp
    have e1 : wrap64 (((a :: (l' ++ [z])).length : Int) - 1) = ((l'.length + 1 : Nat) : Int) := by
      rw [hlen, wrap64_id (by simp at hl; omega) (by simp at hl; omega)]; omega
    have e2 : rd (a :: (l' ++ [z])) ((l'.length + 1 : Nat) : Int) = z := by
      rw [rd_nat]; simp [List.getD_eq_getElem?_getD]
    have hz2 := hz z (by simp)
    by_cases c : z = 1
    · refine ⟨a :: (l' ++ [2]), ⟨a, l' ++ [2], rfl, by simpa using hl, ha, ?_, tailOk_of ?_ ?_⟩, fun k => ?_⟩
      · intro y hy
        rcases List.mem_append.1 hy with h | h
        · exact hz y (by simp [h])
        · rw [List.mem_singleton.1 h]; omega
      · intro y hy
        rcases List.mem_append.1 hy with h | h
        · exact (hz y (by simp [h])).1
        · rw [List.mem_singleton.1 h]; omega
      · intro h; simp
      · rw [spec_l04Drawn.l0, if_neg (by omega), e1, if_pos (by omega), if_pos (by omega), if_pos (by omega), e2, if_pos c]
        have e3 : (a :: (l' ++ [z])).set (((l'.length + 1 : Nat) : Int)).toNat 2 = a :: (l' ++ [2]) := by
          rw [show (((l'.length + 1 : Nat) : Int)).toNat = l'.length + 1 from rfl]
          simp [List.set_cons_succ]
        rw [e3]
    · refine ⟨a :: (l' ++ [z]), ⟨a, l' ++ [z], rfl, hl, ha, hz, tailOk_of (fun y hy => (hz y hy).1) (fun h => by simp; omega)⟩, fun k => ?_⟩
      rw [spec_l04Drawn.l0, if_neg (by omega), e1, if_pos (by omega), if_pos (by omega), if_pos (by omega), e2, if_neg c]
theorem drawn_loop (s : List Int) (hs : ∀ z ∈ s, 0 ≤ z ∧ z ≤ 255) (a : Int) (ha : -4 ≤ a ∧ a ≤ 4) (d : Nat) : ∀ (l : List Int) (i sd : Int), l.length + d ≤ 5 → (∀ z ∈ l, 1 ≤ z ∧ z ≤ 5) → 0 ≤ i → i + d ≤ 1000 → ∃ xs i' sd', Drawn xs ∧ Ev (fun k => spec_l04Drawn.l0 k (a :: l) (d : Int) s i sd) (xs, i', sd') := by
  induction d with
  | zero =>
    intro l i sd hl hz h0 h1
    obtain ⟨xs, hd, hx⟩ := drawn_end a ha l (by omega) hz s i sd
    exact ⟨xs, i, sd, hd, Ev.step (f := fun _ => some (xs, i, sd)) hx (Ev.now _)⟩
  | succ d ih =>
    intro l i sd hl hz h0 h1
    obtain ⟨x, i2, sd2, hp, hx0, hx1, hi0, hi1⟩ := pick_is s hs i h0 (by omega) sd 5 (by omega)
    obtain ⟨xs, i', sd', hd, he⟩ := ih (l ++ [1 + x]) i2 sd2 (by simp; omega) (by
      intro z h
      rcases List.mem_append.1 h with h | h
      · exact hz z h
      · rw [List.mem_singleton.1 h]; omega) hi0 (by omega)
    refine ⟨xs, i', sd', hd, Ev.step (fun k => by rw [spec_l04Drawn.l0]) (Ev.congr (fun k => if_pos (by omega)) ?_)⟩
    rw [hp]
    simp only [Option.bind_some]
    rw [wrap64_id (n := 1 + x) (by omega) (by omega), show wrap64 (((d + 1 : Nat) : Int) - 1) = (d : Int) by rw [wrap64_id (by omega) (by omega)]; omega]
    exact Ev.congr (fun k => if_pos (by simp; omega)) he
theorem a2terms_ev (s : List Int) (hs : ∀ z ∈ s, 0 ≤ z ∧ z ≤ 255) : ∃ xs, Drawn xs ∧ Ev (fun k => spec_A2Terms.f k s) xs := by
  obtain ⟨x, i1, sd1, hp, hx0, hx1, hi0, hi1⟩ := pick_is s hs 0 (by omega) (by omega) 0 9 (by omega)
  obtain ⟨y, i2, sd2, hq, hy0, hy1, hj0, hj1⟩ := pick_is s hs i1 hi0 (by omega) sd1 6 (by omega)
  obtain ⟨d, rfl⟩ : ∃ d : Nat, y = (d : Int) := ⟨y.toNat, by omega⟩
  obtain ⟨xs, i', sd', hd, he⟩ := drawn_loop s hs (x - 4) (by omega) d [] i2 sd2 (by simp; omega) (by simp) hj0 (by omega)
  refine ⟨xs, hd, Ev.congr (fun k => by unfold spec_A2Terms.f spec_l00From.f; rfl) ?_⟩
  simp only [Option.bind_some]
  refine Ev.bind (a := (xs, i', sd')) ?_ (Ev.now _)
  have e : ∀ k, spec_l04Drawn.f k s 0 0 6 = spec_l04Drawn.l0 k [x - 4] (d : Int) s i2 sd2 := fun k => by
    unfold spec_l04Drawn.f
    rw [hp, Option.bind_some]
    simp only
    rw [hq, Option.bind_some, wrap64_id (by omega) (by omega)]
  exact Ev.congr e he
theorem cf_small : ∀ l : List Int, (∀ z ∈ l, 1 ≤ z ∧ z ≤ 5) → (cf l).1 ≤ 6 ^ l.length
  | [], _ => by simp [cf]
  | a :: l, h => by
    have ih := cf_small l (fun z hz => h z (List.mem_cons_of_mem _ hz))
    have hu := cf_up l (fun z hz => (h z (List.mem_cons_of_mem _ hz)).1)
    have ha := h a (List.mem_cons_self ..)
    have h1 : a * (cf l).1 ≤ 5 * (cf l).1 := Int.mul_le_mul_of_nonneg_right ha.2 (by omega)
    rw [List.length_cons, Int.pow_succ]
    show a * (cf l).1 + (cf l).2 ≤ _
    omega
theorem cf_five (l : List Int) (hl : l.length ≤ 5) (h : ∀ z ∈ l, 1 ≤ z ∧ z ≤ 5) : 1 ≤ (cf l).1 ∧ (cf l).1 ≤ 7776 ∧ 0 ≤ (cf l).2 ∧ (cf l).2 ≤ (cf l).1 := by
  have h1 := cf_small l h
  have h2 := cf_up l (fun z hz => (h z hz).1)
  have h3 : (6 : Int) ^ l.length ≤ 7776 := by
    have : ∀ n : Nat, n ≤ 5 → (6 : Int) ^ n ≤ 7776 := by intro n hn; match n, hn with | 0, _ => decide | 1, _ => decide | 2, _ => decide | 3, _ => decide | 4, _ => decide | 5, _ => decide
    exact this _ hl
  omega
theorem cf_six (a : Int) (l : List Int) (ha : -4 ≤ a ∧ a ≤ 4) (hl : l.length ≤ 5) (h : ∀ z ∈ l, 1 ≤ z ∧ z ≤ 5) : (-40000 ≤ (cf (a :: l)).1 ∧ (cf (a :: l)).1 ≤ 40000) ∧ 1 ≤ (cf (a :: l)).2 ∧ (cf (a :: l)).2 ≤ 7776 := by
  have h1 := cf_five l hl h
  have h2 : a * (cf l).1 ≤ 4 * (cf l).1 := Int.mul_le_mul_of_nonneg_right ha.2 (by omega)
  have h3 : -4 * (cf l).1 ≤ a * (cf l).1 := Int.mul_le_mul_of_nonneg_right ha.1 (by omega)
  have e1 : (cf (a :: l)).1 = a * (cf l).1 + (cf l).2 := rfl
  have e2 : (cf (a :: l)).2 = (cf l).1 := rfl
  omega
theorem drawn_ok {xs : List Int} (h : Drawn xs) : termsOk xs = true := by
  obtain ⟨a, l, rfl, hl, ha, hz, ht⟩ := h
  refine termsOk_of (by simp; omega) ?_ ?_
  · intro j hj
    cases j with
    | zero => simp [List.getD_eq_getElem?_getD]; omega
    | succ j =>
      have hj2 : j < l.length := by simpa using hj
      have := hz l[j] (List.getElem_mem hj2)
      simp [List.getD_eq_getElem?_getD, hj2]; omega
  · rcases List.eq_nil_or_concat l with rfl | ⟨l', z, rfl⟩
    · simp
    · right
      simp only [List.concat_eq_append] at *
      have hz2 : ∀ {m : List Int} {z : Int}, TailOk (m ++ [z]) → 2 ≤ z := by
        intro m z h
        induction m with
        | nil => exact h
        | cons y m ih => exact ih (tailOk_tl h)
      have := hz2 ht
      simpa [List.getD_eq_getElem?_getD] using this
theorem drawn_ratio {xs : List Int} (h : Drawn xs) : (-40000 ≤ (cf xs).1 ∧ (cf xs).1 ≤ 40000) ∧ (1 ≤ (cf xs).2 ∧ (cf xs).2 ≤ 7776) ∧ ratioOk (cf xs).1 (cf xs).2 = true ∧ HdOk xs := by
  obtain ⟨a, l, rfl, hl, ha, hz, ht⟩ := h
  have h1 := cf_six a l ha hl hz
  refine ⟨h1.1, h1.2, ?_, ht⟩
  unfold ratioOk
  rw [cf_gcd]
  simp
  omega
theorem drawn_take {xs : List Int} (h : Drawn xs) (i : Nat) : (-40000 ≤ (cf (xs.take (i + 1))).1 ∧ (cf (xs.take (i + 1))).1 ≤ 40000) ∧ (1 ≤ (cf (xs.take (i + 1))).2 ∧ (cf (xs.take (i + 1))).2 ≤ 7776) ∧ ratioOk (cf (xs.take (i + 1))).1 (cf (xs.take (i + 1))).2 = true := by
  obtain ⟨a, l, rfl, hl, ha, hz, ht⟩ := h
  rw [List.take_succ_cons]
  have h1 := cf_six a (l.take i) ha (by rw [List.length_take]; omega) (fun z h => hz z (List.mem_of_mem_take h))
  refine ⟨h1.1, h1.2, ?_⟩
  unfold ratioOk
  rw [cf_gcd]
  simp
  omega
/-- On which side a beginning of the terms lies. -/
theorem cf_cross : ∀ (i : Nat) (l : List Int), (cf (l.take i)).1 * (cf l).2 - (cf l).1 * (cf (l.take i)).2 = (if i % 2 = 0 then 1 else -1) * (cf (l.drop i)).2
  | 0, l => by simp [cf]
  | i + 1, [] => by simp [cf]
  | i + 1, a :: l => by
    have ih := cf_cross i l
    rw [List.take_succ_cons, List.drop_succ_cons]
    simp only [cf]
    have key : (a * (cf (l.take i)).1 + (cf (l.take i)).2) * (cf l).1 - (a * (cf l).1 + (cf l).2) * (cf (l.take i)).1 = -((cf (l.take i)).1 * (cf l).2 - (cf l).1 * (cf (l.take i)).2) := by grind
    rw [key, ih]
    by_cases c : i % 2 = 0
    · rw [if_pos c, if_neg (by omega)]; omega
    · rw [if_neg c, if_pos (by omega)]; omega
/-! ### what terms make of the value behind them -/
def gapp : List Int → Int × Int → Int × Int
  | [], v => v
  | q :: l, v => (q * (gapp l v).1 + (gapp l v).2, (gapp l v).1)
theorem gapp_app : ∀ (l : List Int) (q x y : Int), gapp (l ++ [q]) (x, y) = gapp l (q * x + y, x)
  | [], q, x, y => rfl
  | a :: l, q, x, y => by
    rw [List.cons_append]
    simp only [gapp]
    rw [gapp_app l q x y]
theorem gapp_cf : ∀ (l : List Int) (a : Int), gapp l (a, 0) = (a * (cf l).1, a * (cf l).2)
  | [], a => by simp [gapp, cf]
  | q :: l, a => by
    simp only [gapp, cf, gapp_cf l a]
    refine Prod.ext ?_ ?_ <;> simp only <;> grind
theorem gapp_zero : ∀ (l : List Int) (v : Int × Int), gapp l v = (0, 0) → v = (0, 0)
  | [], v, h => h
  | q :: l, v, h => by
    simp only [gapp, Prod.mk.injEq] at h
    refine gapp_zero l v (Prod.ext h.2 ?_)
    have := h.1
    rw [h.2] at this
    simpa using this
/-- The parts of the beginnings of terms. -/
theorem cf_take_le : ∀ (l : List Int), (∀ z ∈ l, 1 ≤ z) → ∀ i, 0 ≤ (cf (l.take i)).2 ∧ (cf (l.take i)).1 ≤ (cf l).1 ∧ (i ≠ 0 → (cf (l.take i)).2 ≤ (cf l).2)
  | [], _, i => by simp [cf]
  | a :: l, h, 0 => by
    have := cf_up (a :: l) h
    simp only [List.take_zero]
    exact ⟨by simp [cf], by simp only [cf]; have := this.1; simp only [cf] at this; omega, fun z => absurd rfl z⟩
  | a :: l, h, i + 1 => by
    have hl : ∀ z ∈ l, 1 ≤ z := fun z hz => h z (List.mem_cons_of_mem _ hz)
    have ih := cf_take_le l hl i
    have hu := cf_up l hl
    have hu2 := cf_up (l.take i) (fun z hz => hl z (List.mem_of_mem_take hz))
    have ha := h a List.mem_cons_self
    rw [List.take_succ_cons]
    simp only [cf]
    refine ⟨by omega, ?_, fun _ => ih.2.1⟩
    by_cases z : i = 0
    · subst z
      simp only [List.take_zero, cf]
      have h1 : a * 1 ≤ a * (cf l).1 := Int.mul_le_mul_of_nonneg_left hu.1 (by omega)
      omega
    · have h1 : a * (cf (l.take i)).1 ≤ a * (cf l).1 := Int.mul_le_mul_of_nonneg_left ih.2.1 (by omega)
      have := ih.2.2 z
      omega
theorem cf_drop_snd (l : List Int) (h : ∀ z ∈ l, 1 ≤ z) (i : Nat) : 0 ≤ (cf (l.drop i)).2 ∧ (cf (l.drop i)).2 ≤ (cf l).1 := by
  have h1 := cf_up (l.drop i) (fun z hz => h z (List.mem_of_mem_drop hz))
  have h2 := cf_drop l h i
  omega
/-- The parts of the beginnings of terms whose value has small parts. -/
theorem cf_begin (a : Int) (l : List Int) (h : ∀ z ∈ l, 1 ≤ z) (i : Nat) : (cf ((a :: l).take (i + 1))).2 ≤ (cf (a :: l)).2 ∧ 1 ≤ (cf ((a :: l).take (i + 1))).2 ∧ (((cf ((a :: l).take (i + 1))).1.natAbs : Nat) : Int) ≤ ((cf (a :: l)).1.natAbs : Int) + (cf (a :: l)).2 := by
  have hc := cf_cross (i + 1) (a :: l)
  have hd := cf_drop_snd l h i
  have ht := cf_take_le l h i
  have hu := cf_up l h
  have hu2 := cf_up (l.take i) (fun z hz => h z (List.mem_of_mem_take hz))
  have e1 : (cf (a :: l)).2 = (cf l).1 := rfl
  have e2 : (cf ((a :: l).take (i + 1))).2 = (cf (l.take i)).1 := by rw [List.take_succ_cons]; rfl
  rw [List.drop_succ_cons] at hc
  rw [e1, e2] at hc
  rw [e1, e2]
  clear e1 e2
  refine ⟨ht.2.1, hu2.1, ?_⟩
  generalize (cf ((a :: l).take (i + 1))).1 = p at *
  generalize (cf (a :: l)).1 = P at *
  generalize (cf l).1 = Q at *
  generalize (cf (l.take i)).1 = q at *
  generalize (cf (l.drop i)).2 = t at *
  have hs : p * Q = P * q + t ∨ p * Q = P * q - t := by
    by_cases c : (i + 1) % 2 = 0
    · rw [if_pos c, Int.one_mul] at hc; left; omega
    · rw [if_neg c, Int.neg_mul, Int.one_mul] at hc; right; omega
  have hQ : 0 < Q := by omega
  have hPq : (P.natAbs : Int) * q ≤ (P.natAbs : Int) * Q := Int.mul_le_mul_of_nonneg_left ht.2.1 (by omega)
  have habs : ((p * Q).natAbs : Int) ≤ (P.natAbs : Int) * q + t := by
    have e : ((P * q).natAbs : Int) = (P.natAbs : Int) * q := by
      rw [Int.natAbs_mul]; push_cast; congr 1; omega
    rcases hs with h | h <;> omega
  have e3 : ((p * Q).natAbs : Int) = (p.natAbs : Int) * Q := by
    rw [Int.natAbs_mul]; push_cast; congr 1; omega
  rw [e3] at habs
  have h5 : (p.natAbs : Int) * Q ≤ ((P.natAbs : Int) + 1) * Q := by
    rw [Int.add_mul]; omega
  have h6 := Int.le_of_mul_le_mul_right h5 hQ
  omega
theorem ev_uniq {α : Type} {f : Nat → Option α} {r s : α} (h : Ev f r) (g : Ev f s) : r = s := by
  obtain ⟨n, h⟩ := h
  obtain ⟨m, g⟩ := g
  exact Option.some.inj ((h (max n m) (Nat.le_max_left ..)).symm.trans (g (max n m) (Nat.le_max_right ..)))
/-- What the reference makes of two numbers. -/
def makeR (n d e : Int) : Int × Int × Int := if ratioOk (Int.tdiv n e) (Int.tdiv d e) = true then (Int.tdiv n e, Int.tdiv d e, 0) else (0, 0, 3)
def signG (n d : Int) : Int := if d < 0 then -(Int.gcd n d : Int) else (Int.gcd n d : Int)
theorem tdiv_le {a b : Int} (h : -4611686018427387904 ≤ a ∧ a ≤ 4611686018427387904) : -4611686018427387904 ≤ Int.tdiv a b ∧ Int.tdiv a b ≤ 4611686018427387904 := by
  have h1 := Int.natAbs_tdiv_le_natAbs a b
  omega
theorem specMake_any {n d : Int} (hn : -4611686018427387904 ≤ n ∧ n ≤ 4611686018427387904) (hd : -4611686018427387904 ≤ d ∧ d ≤ 4611686018427387904) (h0 : d ≠ 0) : Ev (fun k => spec_l03Make.f k n d) (makeR n d (signG n d)) := by
  have hg : 0 < Int.gcd n d := Int.gcd_pos_of_ne_zero_right _ h0
  have hg2 : (Int.gcd n d : Int) ≤ 4611686018427387904 := by
    have := Int.gcd_dvd_right (a := n) (b := d)
    have := Int.natAbs_dvd_natAbs.2 this
    have := Nat.le_of_dvd (by omega) this
    omega
  refine Ev.congr (fun k => by unfold spec_l03Make.f; rfl) (Ev.bind (specGcd_ev (by omega) (by omega)) ?_)
  unfold signG
  by_cases c : d < 0
  · rw [if_pos c]
    have e : wrap64 (-(Int.gcd n d : Int)) = -(Int.gcd n d : Int) := wrap64_id (by omega) (by omega)
    have t1 := tdiv_le (b := -(Int.gcd n d : Int)) hn
    have t2 := tdiv_le (b := -(Int.gcd n d : Int)) hd
    refine Ev.congr (fun k => if_pos c) ?_
    rw [e, wrap64_id (by omega) (by omega), wrap64_id (by omega) (by omega)]
    refine Ev.congr (fun k => if_neg (by omega)) (Ev.bind (specRatio_ev _ _) ?_)
    unfold makeR
    by_cases r : ratioOk (Int.tdiv n (-(Int.gcd n d : Int))) (Int.tdiv d (-(Int.gcd n d : Int))) = true
    · simp only [if_pos r]; exact Ev.now _
    · simp only [if_neg r]; exact Ev.now _
  · rw [if_neg c]
    have t1 := tdiv_le (b := (Int.gcd n d : Int)) hn
    have t2 := tdiv_le (b := (Int.gcd n d : Int)) hd
    refine Ev.congr (fun k => if_neg c) ?_
    rw [wrap64_id (by omega) (by omega), wrap64_id (by omega) (by omega)]
    refine Ev.congr (fun k => if_neg (by omega)) (Ev.bind (specRatio_ev _ _) ?_)
    unfold makeR
    by_cases r : ratioOk (Int.tdiv n (Int.gcd n d : Int)) (Int.tdiv d (Int.gcd n d : Int)) = true
    · simp only [if_pos r]; exact Ev.now _
    · simp only [if_neg r]; exact Ev.now _
/-- A ratio in its lowest terms, both parts times a number. -/
theorem makeR_times {p q a : Int} (hq : 1 ≤ q) (hg : Int.gcd p q = 1) (ha : a ≠ 0) : makeR (a * p) (a * q) (signG (a * p) (a * q)) = if ratioOk p q = true then (p, q, 0) else (0, 0, 3) := by
  have e : Int.gcd (a * p) (a * q) = a.natAbs := by rw [Int.gcd_mul_left, hg, Nat.mul_one]
  have hs : signG (a * p) (a * q) = a := by
    unfold signG
    rw [e]
    by_cases c : a < 0
    · have : a * q < 0 := Int.mul_neg_of_neg_of_pos c (by omega)
      rw [if_pos this]; omega
    · have : 0 < a * q := Int.mul_pos (by omega) (by omega)
      rw [if_neg (by omega)]; omega
  rw [hs]
  unfold makeR
  rw [Int.mul_tdiv_cancel_left _ ha, Int.mul_tdiv_cancel_left _ ha]
theorem same_loop (xs : List Int) (hn : xs.length ≤ 1000000) (d : Nat) : ∀ i : Nat, i + d = xs.length → Ev (fun k => spec_l00Same.l0 k xs xs (i : Int)) true := by
  induction d with
  | zero => intro i hi; exact Ev.step (fun k => by rw [spec_l00Same.l0]) (Ev.congr (fun k => if_neg (by omega)) (Ev.now _))
  | succ d ih =>
    intro i hi
    refine Ev.step (fun k => by rw [spec_l00Same.l0]) (Ev.congr (fun k => if_pos (by omega)) (Ev.congr (fun k => if_pos (by omega)) (Ev.congr (fun k => if_pos (by omega)) (Ev.congr (fun k => if_pos rfl) ?_))))
    rw [wrap64_id (by omega) (by omega)]
    exact ih (i + 1) (by omega)
theorem same_ev (xs : List Int) (hn : xs.length ≤ 1000000) : Ev (fun k => spec_A2Same.f k xs xs) true := by
  refine Ev.congr (fun k => by unfold spec_A2Same.f spec_l00Same.f; rfl) (Ev.bind (a := true) ?_ (Ev.now _))
  exact Ev.congr (fun k => if_pos rfl) (same_loop xs hn xs.length 0 (by omega))
theorem at_is (s : List Int) (hs : ∀ z ∈ s, 0 ≤ z ∧ z ≤ 255) (i n : Int) (h0 : 0 ≤ i) (hn : 1 ≤ n) : ∃ v, laws_a2At.f s i n = some v ∧ 0 ≤ v ∧ v < n := by
  have hb := byte_at hs i
  unfold laws_a2At.f
  by_cases c : i ≥ (s.length : Int)
  · rw [if_pos c]; exact ⟨0, rfl, by omega, by omega⟩
  · rw [if_neg c, if_neg (by omega), if_pos h0, if_pos (by omega), if_neg (by omega), wrap64_id (by omega) (by omega)]
    exact ⟨_, rfl, Int.tmod_nonneg _ hb.1, Int.tmod_lt_of_pos _ (by omega)⟩
theorem cf_snd_pos {gs : List Int} (h : termsOk gs = true) : 1 ≤ (cf gs).2 ∧ ∃ a l, gs = a :: l ∧ ∀ z ∈ l, 1 ≤ z := by
  obtain ⟨h1, h2, -⟩ := termsOk_is h
  match gs, h1, h2 with
  | a :: l, h1, h2 =>
    have hl : ∀ z ∈ l, 1 ≤ z := by
      intro z hz
      obtain ⟨j, hj, rfl⟩ := List.mem_iff_getElem.1 hz
      have := (h2 (j + 1) (by simpa using hj)).2.2 (by omega)
      simpa [List.getD_eq_getElem?_getD, hj] using this
    exact ⟨(cf_up l hl).1, a, l, rfl, hl⟩
/-- The value of valid terms with small parts. -/
theorem ratio_small {gs : List Int} (h : termsOk gs = true) (hp : ((cf gs).1.natAbs : Int) ≤ 1000000000) (hq : (cf gs).2 ≤ 1000000000) : Ev (fun k => impl_RatioOf.f k gs) ((cf gs).1, (cf gs).2, 0) := by
  obtain ⟨-, a, l, rfl, hl⟩ := cf_snd_pos h
  refine (ratio_both h (fun i => ?_)).2
  have := cf_begin a l hl i
  omega
/-! ### what a machine with four numbers makes of the value of its terms -/
/-- What holds of a machine's notes: N is what its map makes of the value. -/
structure PV (xs : List Int) (N : Int × Int) (s : PSt) (m : Nat) : Prop where
  tk : s.tk = (m : Int)
  le : m ≤ xs.length + 1
  eq : gapp s.gs (s.A * (cf (xs.drop m)).1 + s.B * (cf (xs.drop m)).2, s.C * (cf (xs.drop m)).1 + s.D * (cf (xs.drop m)).2) = N
  nz : s.gs ≠ [] → N ≠ (0, 0)
  gv : (s.ms.filter (fun z => z.f0 == 1)).map (fun z => z.f1) = s.gs
  tv : s.ms.filter (fun z => !(z.f0 == 1)) = (List.range m).map (fun i => (⟨2, xs.getD i 0⟩ : S52))
theorem two_pos {C G a b : Int} (h1 : 0 < C) (h2 : 0 < G) (ha : 0 ≤ a) (hb : 0 ≤ b) (h : 0 < a ∨ 0 < b) : 0 < C * a + G * b := by
  have h3 : 0 ≤ C * a := Int.mul_nonneg (by omega) ha
  have h4 : 0 ≤ G * b := Int.mul_nonneg (by omega) hb
  rcases h with h | h
  · have := Int.mul_pos h1 h; omega
  · have := Int.mul_pos h2 h; omega
theorem mix_ne {C D c1 c2 : Int} (h1 : C ≠ 0) (h2 : C + D ≠ 0) (hs : 0 < C ↔ 0 < C + D) (hc : 1 ≤ c1) (h0 : 0 ≤ c2) (hl : c2 ≤ c1) : C * c1 + D * c2 ≠ 0 := by
  have e : C * c1 + D * c2 = C * (c1 - c2) + (C + D) * c2 := by grind
  rw [e]
  by_cases p : 0 < C
  · have := two_pos p (hs.1 p) (show 0 ≤ c1 - c2 by omega) h0 (by omega)
    omega
  · have p2 : ¬ 0 < C + D := fun z => p (hs.2 z)
    have := two_pos (show 0 < -C by omega) (show 0 < -(C + D) by omega) (show 0 ≤ c1 - c2 by omega) h0 (by omega)
    rw [Int.neg_mul, Int.neg_mul] at this
    omega
theorem alikeR_sign {a e c g q : Int} (h : alikeR a e c g = (q, true)) : c ≠ 0 ∧ g ≠ 0 ∧ (0 < c ↔ 0 < g) := by
  unfold alikeR at h
  split at h
  · rename_i z; exact ⟨z.1, z.2.1, z.2.2.1⟩
  · cases h
section
variable {xs : List Int} {N : Int × Int} {s : PSt} {m : Nat}
theorem PV.give (h : PV xs N s m) (hx : ∀ z ∈ xs.drop 1, 1 ≤ z) (hm : 1 ≤ m) {q x y : Int} {f : Bool} (ha : alikeR s.A (s.A + s.B) s.C (s.C + s.D) = (q, true)) (hxe : x = s.C * -q + s.A) (hye : y = s.D * -q + s.B) : PV xs N (giveSt s q x y f) m := by
  obtain ⟨g1, g2, g3⟩ := alikeR_sign ha
  have hup := cf_up (xs.drop m) (fun z hz => by
    refine hx z ?_
    rw [show m = 1 + (m - 1) by omega, ← List.drop_drop] at hz
    exact List.mem_of_mem_drop hz)
  have hne := mix_ne g1 g2 g3 hup.1 hup.2.1 hup.2.2
  refine ⟨h.tk, h.le, ?_, fun _ hN => ?_, ?_, ?_⟩
  · show gapp (s.gs ++ [q]) (s.C * _ + s.D * _, x * _ + y * _) = N
    rw [gapp_app, ← h.eq]
    congr 1
    refine Prod.ext ?_ rfl
    simp only
    rw [hxe, hye]
    grind
  · have h2 := h.eq
    rw [hN] at h2
    exact hne (congrArg Prod.snd (gapp_zero _ _ h2))
  · show ((s.ms ++ [(⟨1, q⟩ : S52)]).filter _).map _ = s.gs ++ [q]
    rw [List.filter_append, List.map_append, h.gv]
    rfl
  · show (s.ms ++ [(⟨1, q⟩ : S52)]).filter _ = _
    rw [List.filter_append, h.tv]
    simp
theorem PV.take (h : PV xs N s m) (hm : m < xs.length) {x y : Int} {f : Bool} (hxe : x = s.A * xs.getD m 0 + s.B) (hye : y = s.C * xs.getD m 0 + s.D) : PV xs N (takeSt s (xs.getD m 0) x y f) (m + 1) := by
  have hd : xs.drop m = xs.getD m 0 :: xs.drop (m + 1) := drop_cons_getD hm
  refine ⟨by show s.tk + 1 = _; rw [h.tk]; rfl, by omega, ?_, h.nz, ?_, ?_⟩
  · show gapp s.gs (x * _ + s.A * _, y * _ + s.C * _) = N
    rw [← h.eq, hd]
    simp only [cf]
    congr 1
    refine Prod.ext ?_ ?_ <;> simp only [hxe, hye] <;> grind
  · show ((s.ms ++ [(⟨2, xs.getD m 0⟩ : S52)]).filter _).map _ = s.gs
    rw [List.filter_append, List.map_append, h.gv]
    simp
  · show (s.ms ++ [(⟨2, xs.getD m 0⟩ : S52)]).filter _ = _
    rw [List.filter_append, h.tv, List.range_succ, List.map_append]
    rfl
theorem PV.inf (h : PV xs N s m) (hm : m = xs.length) : PV xs N (infSt s) (m + 1) := by
  have hd : xs.drop m = [] := List.drop_eq_nil_of_le (by omega)
  have hd2 : xs.drop (m + 1) = [] := List.drop_eq_nil_of_le (by omega)
  have hg : xs.getD m 0 = 0 := by rw [List.getD_eq_getElem?_getD, List.getElem?_eq_none (by omega)]; rfl
  refine ⟨by show s.tk + 1 = _; rw [h.tk]; rfl, by omega, ?_, h.nz, ?_, ?_⟩
  · show gapp s.gs (s.A * _ + s.A * _, s.C * _ + s.C * _) = N
    rw [← h.eq, hd, hd2]
    simp [cf]
  · show ((s.ms ++ [(⟨2, 0⟩ : S52)]).filter _).map _ = s.gs
    rw [List.filter_append, List.map_append, h.gv]
    simp
  · show (s.ms ++ [(⟨2, 0⟩ : S52)]).filter _ = _
    rw [List.filter_append, h.tv, List.range_succ, List.map_append, List.map_cons, List.map_nil, hg]
    rfl
end
theorem spec_vals {xs : List Int} (hx : XsOk xs) (h1 : ∀ z ∈ xs.drop 1, 1 ≤ z) (N : Int × Int) (n : Nat) : ∀ (s : PSt) (p m : Nat), PInv xs s p n → PV xs N s m → s.ov = true → ∃ sf, Ev2 (fun k m => runS k xs m s) sf ∧ (sf.ov = false ∨ (sf.C = 0 ∧ PV xs N sf (xs.length + 1) ∧ ∀ z ∈ sf.gs, Sm z)) := by
  induction n using Nat.strongRecOn with
  | ind n ih =>
  intro s p m hI hV ho
  have hg := hI.guard hx
  have htk := hV.tk
  by_cases h : (xs.length : Int) < s.tk ∧ s.C = 0
  · refine ⟨s, runS_stop ho hg (S_end h), Or.inr ⟨h.2, ?_, hI.gb⟩⟩
    have := hV.le
    rw [show xs.length + 1 = m by omega]
    exact hV
  obtain ⟨q, al, ha⟩ : ∃ q al, alikeR s.A (s.A + s.B) s.C (s.C + s.D) = (q, al) := ⟨_, _, rfl⟩
  by_cases hgv : al = true ∧ 0 < s.tk
  · obtain ⟨rfl, ht⟩ := hgv
    have hs := S_give hI h ha ht
    obtain ⟨hc, hq⟩ := alikeR_true ha
    rw [ho, Bool.true_and] at hs
    cases h1' : (cellR s.C (-q) s.A).2 with
    | false => rw [h1'] at hs; exact ⟨_, runS_next ho hg hs (runS_bad rfl), Or.inl rfl⟩
    | true =>
      rw [h1', Bool.true_and] at hs
      cases h2 : (cellR s.D (-q) s.B).2 with
      | false => rw [h2] at hs; exact ⟨_, runS_next ho hg hs (runS_bad rfl), Or.inl rfl⟩
      | true =>
        rw [h2] at hs
        obtain ⟨p', hp, hJ⟩ := hI.give hc q hq h1' h2 true
        have hn := hI.nn
        obtain ⟨sf, r1, r2⟩ := ih _ (by omega) _ p' m hJ (hV.give h1 (by omega) ha (cellR_ok h1').1 (cellR_ok h2).1) rfl
        exact ⟨sf, runS_next ho hg hs r1, r2⟩
  · have ht1 := hI.t1
    rcases Int.lt_trichotomy s.tk (xs.length : Int) with ht | ht | ht
    · have hs := S_take hI hx ha hgv ht
      rw [ho, Bool.true_and] at hs
      have hr : rd xs s.tk = xs.getD m 0 := by rw [htk, rd_nat]
      cases h1' : (cellR s.A (rd xs s.tk) s.B).2 with
      | false => rw [h1'] at hs; exact ⟨_, runS_next ho hg hs (runS_bad rfl), Or.inl rfl⟩
      | true =>
        rw [h1', Bool.true_and] at hs
        cases h2 : (cellR s.C (rd xs s.tk) s.D).2 with
        | false => rw [h2] at hs; exact ⟨_, runS_next ho hg hs (runS_bad rfl), Or.inl rfl⟩
        | true =>
          rw [h2] at hs
          obtain ⟨e1, b1⟩ := cellR_ok h1'
          obtain ⟨e2, b2⟩ := cellR_ok h2
          obtain ⟨hJ, hn⟩ := hI.take ht (rd xs s.tk) _ _ (e1 ▸ b1) (e2 ▸ b2) true
          have hW : PV xs N (takeSt s (rd xs s.tk) (cellR s.A (rd xs s.tk) s.B).1 (cellR s.C (rd xs s.tk) s.D).1 true) (m + 1) := by
            rw [hr] at e1 e2 ⊢
            exact hV.take (by omega) e1 e2
          obtain ⟨sf, r1, r2⟩ := ih _ hn _ _ _ hJ hW rfl
          exact ⟨sf, runS_next ho hg hs r1, r2⟩
    · have hs := S_inf hI ha hgv ht
      obtain ⟨hJ, hn⟩ := hI.inf ht
      obtain ⟨sf, r1, r2⟩ := ih _ hn _ _ _ hJ (hV.inf (by omega)) ho
      exact ⟨sf, runS_next ho hg hs r1, r2⟩
    · exfalso
      have he : s.tk = (xs.length : Int) + 1 := by omega
      have hl := hI.last he (fun hz => h ⟨by omega, hz⟩)
      rw [ha] at hl
      exact hgv ⟨(congrArg Prod.snd hl), by omega⟩
theorem rdM_get (xs : List S52) (i : Nat) (h : i < xs.length) : rd_T52 xs (i : Int) = xs[i] := by
  simp [rd_T52, h]
theorem pair_joint {A B C D : Int} {xs : List Int} (da : Drawn xs) (hA : inP A = true) (hB : inP B = true) (hC : inP C = true) (hD : inP D = true) :
    ∃ (gs : List Int) (ms : List S52) (c : Int), (gs.length ≤ 20000 ∧ ms.length ≤ 20000) ∧ (Ev (fun k => spec_PairTerms.f k A B C D xs) (gs, c) ∧ Ev (fun k => impl_PairTerms.f k A B C D xs) (gs, c)) ∧ (Ev (fun k => spec_PairMoves.f k A B C D xs) (ms, c) ∧ Ev (fun k => impl_PairMoves.f k A B C D xs) (ms, c)) ∧
      ((c = 3 ∧ gs = [] ∧ ms = []) ∨ (c = 4 ∧ gs = [] ∧ ms = [] ∧ C * (cf xs).1 + D * (cf xs).2 = 0) ∨
       (c = 0 ∧ termsOk gs = true ∧ (ms.filter (fun z => z.f0 == 1)).map (fun z => z.f1) = gs ∧ ms.filter (fun z => !(z.f0 == 1)) = (List.range (xs.length + 1)).map (fun i => (⟨2, xs.getD i 0⟩ : S52)) ∧ ∃ a, a ≠ 0 ∧ A * (cf xs).1 + B * (cf xs).2 = a * (cf gs).1 ∧ C * (cf xs).1 + D * (cf xs).2 = a * (cf gs).2)) := by
  have t := drawn_ok da
  have hw := terms_wide t
  have hx := xs_ok t
  have h1 : ∀ z ∈ xs.drop 1, 1 ≤ z := by
    obtain ⟨a, l, rfl, hl, ha, hz, ht⟩ := da
    intro z hz2
    exact (hz z hz2).1
  rcases pair_all A B C D hw with ⟨c, st, hc, g1, g2⟩ | ⟨sS, sI, c, g1, g2, g3, g4, g5⟩
  · exfalso
    have e1 := specTerms_ev xs hw
    rw [t] at e1
    have hg : Ev (fun k => spec_l04PairGiven.f k A B C D xs) 0 := by
      refine Ev.congr (fun k => by unfold spec_l04PairGiven.f; rfl) (Ev.bind e1 (Ev.congr (fun k => if_pos rfl) ?_))
      unfold inP at hA hB hC hD
      simp only [l00In_some, Option.bind_some, hA, hB, hC, hD, if_true]
      exact Ev.now _
    exact hc (ev_uniq g1 hg)
  · obtain ⟨sf, r1, r2⟩ := spec_vals hx h1 (A * (cf xs).1 + B * (cf xs).2, C * (cf xs).1 + D * (cf xs).2) _ _ _ 0 (pair_inv hx hA hB hC hD) ⟨rfl, by omega, rfl, fun z => absurd rfl z, rfl, rfl⟩ rfl
    obtain rfl := ev_uniq g2 r1.ev
    have hno : c ≠ 0 → (Ev (fun k => spec_PairTerms.f k A B C D xs) ([], c) ∧ Ev (fun k => impl_PairTerms.f k A B C D xs) ([], c)) ∧ (Ev (fun k => spec_PairMoves.f k A B C D xs) ([], c) ∧ Ev (fun k => impl_PairMoves.f k A B C D xs) ([], c)) := by
      intro z
      refine ⟨⟨?_, Ev.congr (fun k => by unfold impl_PairTerms.f; rfl) (Ev.bind g4 (Ev.congr (fun k => if_neg z) (Ev.now _)))⟩, ?_, Ev.congr (fun k => by unfold impl_PairMoves.f; rfl) (Ev.bind g4 (Ev.congr (fun k => if_neg z) (Ev.now _)))⟩
      · refine Ev.congr (fun k => by unfold spec_PairTerms.f; rfl) (Ev.bind g1 (Ev.congr (fun k => if_pos rfl) (Ev.bind g2 (Ev.bind g3 ?_))))
        simp only [if_neg z]
        exact Ev.now _
      · refine Ev.congr (fun k => by unfold spec_PairMoves.f; rfl) (Ev.bind g1 (Ev.congr (fun k => if_pos rfl) (Ev.bind g2 (Ev.bind g3 ?_))))
        simp only [if_neg z]
        exact Ev.now _
    rcases r2 with r2 | ⟨r2, r3, r4⟩
    · have hc : c = 3 := ev_uniq g3 (Ev.congr (fun k => by unfold spec_l04Work_end.f; rw [r2]; exact if_neg (by simp)) (Ev.now _))
      exact ⟨[], [], c, by simp, (hno (by omega)).1, (hno (by omega)).2, Or.inl ⟨hc, rfl, rfl⟩⟩
    · cases ho : sS.ov with
      | false =>
        have hc : c = 3 := ev_uniq g3 (Ev.congr (fun k => by unfold spec_l04Work_end.f; rw [ho]; exact if_neg (by simp)) (Ev.now _))
        exact ⟨[], [], c, by simp, (hno (by omega)).1, (hno (by omega)).2, Or.inl ⟨hc, rfl, rfl⟩⟩
      | true =>
        have hd : xs.drop (xs.length + 1) = [] := List.drop_eq_nil_of_le (by omega)
        have heq := r3.eq
        rw [hd, r2] at heq
        simp only [cf, Int.mul_one, Int.mul_zero, Int.add_zero, Int.zero_mul] at heq
        rw [gapp_cf] at heq
        by_cases z : (sS.gs.length : Int) = 0
        · have hc : c = 4 := ev_uniq g3 (Ev.congr (fun k => by unfold spec_l04Work_end.f; rw [ho]; exact (if_pos rfl).trans (if_pos z)) (Ev.now _))
          have hgs : sS.gs = [] := List.eq_nil_of_length_eq_zero (by omega)
          rw [hgs] at heq
          refine ⟨[], [], c, by simp, (hno (by omega)).1, (hno (by omega)).2, Or.inr (Or.inl ⟨hc, rfl, rfl, ?_⟩)⟩
          have := congrArg Prod.snd heq
          simp only [cf, Int.mul_zero] at this
          exact this.symm
        · have e1 := specTerms_ev sS.gs (sm_word r4)
          cases tg : termsOk sS.gs with
          | false =>
            rw [tg] at e1
            have hc : c = 3 := ev_uniq g3 (Ev.congr (fun k => by unfold spec_l04Work_end.f; rw [ho]; exact (if_pos rfl).trans (if_neg z)) (Ev.bind e1 (Ev.congr (fun k => if_neg Bool.false_ne_true) (Ev.now _))))
            exact ⟨[], [], c, by simp, (hno (by omega)).1, (hno (by omega)).2, Or.inl ⟨hc, rfl, rfl⟩⟩
          | true =>
            rw [tg] at e1
            have hc : c = 0 := ev_uniq g3 (Ev.congr (fun k => by unfold spec_l04Work_end.f; rw [ho]; exact (if_pos rfl).trans (if_neg z)) (Ev.bind e1 (Ev.congr (fun k => if_pos rfl) (Ev.now _))))
            subst hc
            obtain ⟨e2, e3, e4, e5⟩ := g5 rfl
            refine ⟨sS.gs, sS.ms, 0, ⟨by omega, e5⟩, ⟨?_, ?_⟩, ⟨?_, ?_⟩, Or.inr (Or.inr ⟨rfl, tg, r3.gv, r3.tv, sS.A, ?_, (congrArg Prod.fst heq).symm, (congrArg Prod.snd heq).symm⟩)⟩
            · refine Ev.congr (fun k => by unfold spec_PairTerms.f; rfl) (Ev.bind g1 (Ev.congr (fun k => if_pos rfl) (Ev.bind g2 (Ev.bind g3 ?_))))
              exact Ev.now _
            · rw [← e3]
              exact Ev.congr (fun k => by unfold impl_PairTerms.f; rfl) (Ev.bind g4 (Ev.congr (fun k => if_pos rfl) (Ev.now _)))
            · refine Ev.congr (fun k => by unfold spec_PairMoves.f; rfl) (Ev.bind g1 (Ev.congr (fun k => if_pos rfl) (Ev.bind g2 (Ev.bind g3 ?_))))
              exact Ev.now _
            · rw [← e2]
              exact Ev.congr (fun k => by unfold impl_PairMoves.f; rfl) (Ev.bind g4 (Ev.congr (fun k => if_pos rfl) (Ev.now _)))
            · intro ha
              rw [ha] at heq
              simp only [Int.zero_mul] at heq
              exact r3.nz (fun hz => z (by rw [hz]; rfl)) heq.symm
/-- The law's look at the moves. -/
theorem moves_loop (xs gs : List Int) (ms : List S52) (c A B C D : Int) (gf : List Int) (hms : ms.length ≤ 20000) (hxs : xs.length ≤ 40) (hend : Ev (fun k => laws_FnPairs.l0 k xs c gs ms ms gf ((xs.length : Int) + 1) (ms.length : Int) A B C D) true) (d : Nat) :
    ∀ (i t : Nat) (acc : List Int), i + d = ms.length → acc.length ≤ i → t ≤ xs.length + 1 → acc ++ ((ms.drop i).filter (fun z => z.f0 == 1)).map (fun z => z.f1) = gf → (ms.drop i).filter (fun z => !(z.f0 == 1)) = ((List.range (xs.length + 1)).map (fun i => (⟨2, xs.getD i 0⟩ : S52))).drop t → Ev (fun k => laws_FnPairs.l0 k xs c gs ms ms acc (t : Int) (i : Int) A B C D) true := by
  induction d with
  | zero =>
    intro i t acc hi hl ht ha hb
    have hd : ms.drop i = [] := List.drop_eq_nil_of_le (by omega)
    rw [hd] at ha hb
    have hlen := congrArg List.length hb
    simp at hlen
    have e1 : acc = gf := by simpa using ha
    rw [e1, show i = ms.length by omega, show ((t : Nat) : Int) = (xs.length : Int) + 1 by omega]
    exact hend
  | succ d ih =>
    intro i t acc hi hl ht ha hb
    have hlt : i < ms.length := by omega
    have hd : ms.drop i = ms[i] :: ms.drop (i + 1) := List.drop_eq_getElem_cons hlt
    rw [hd] at ha hb
    have er := rdM_get ms i hlt
    refine Ev.step (fun k => by rw [laws_FnPairs.l0]) (Ev.congr (fun k => if_pos (by omega)) (Ev.congr (fun k => if_pos (by omega)) (Ev.congr (fun k => if_pos (by omega)) ?_)))
    rw [er]
    refine Ev.congr (fun k => if_neg (by simp)) ?_
    have ew : wrap64 ((i : Int) + 1) = ((i + 1 : Nat) : Int) := by rw [wrap64_id (by omega) (by omega)]; omega
    rw [ew]
    by_cases c1 : ms[i].f0 = 1
    · have p1 : (ms[i].f0 == 1) = true := by simp [c1]
      rw [List.filter_cons_of_pos (by simpa using p1)] at ha
      rw [List.filter_cons_of_neg (by simp [c1])] at hb
      refine Ev.congr (fun k => if_pos c1) (Ev.congr (fun k => if_pos (by omega)) ?_)
      refine ih (i + 1) t (acc ++ [ms[i].f1]) (by omega) (by simp; omega) ht ?_ hb
      rw [← ha]
      simp
    · rw [List.filter_cons_of_neg (by simp [c1])] at ha
      rw [List.filter_cons_of_pos (by simp [c1])] at hb
      have hlt2 : t < xs.length + 1 := by
        have := congrArg List.length hb
        simp at this
        omega
      have hW : ((List.range (xs.length + 1)).map (fun i => (⟨2, xs.getD i 0⟩ : S52))).drop t = ⟨2, xs.getD t 0⟩ :: ((List.range (xs.length + 1)).map (fun i => (⟨2, xs.getD i 0⟩ : S52))).drop (t + 1) := by
        rw [List.drop_eq_getElem_cons (by simpa using hlt2)]
        simp
      rw [hW] at hb
      have hm := (List.cons.inj hb).1
      have hrest := (List.cons.inj hb).2
      have hf1 : ms[i].f1 = xs.getD t 0 := by rw [hm]
      have ewt : wrap64 ((t : Int) + 1) = ((t + 1 : Nat) : Int) := by rw [wrap64_id (by omega) (by omega)]; omega
      have nx := ih (i + 1) (t + 1) acc (by omega) (by omega) (by omega) ha hrest
      rw [ewt, hf1]
      refine Ev.congr (fun k => if_neg c1) ?_
      by_cases c2 : (t : Int) < (xs.length : Int)
      · refine Ev.congr (fun k => if_pos c2) (Ev.congr (fun k => if_pos (by omega)) (Ev.congr (fun k => if_pos (rd_nat xs t).symm) (Ev.congr (fun k => if_neg (by omega)) nx)))
      · have e0 : xs.getD t 0 = 0 := by rw [List.getD_eq_getElem?_getD, List.getElem?_eq_none (by omega)]; rfl
        exact Ev.congr (fun k => if_neg c2) (Ev.congr (fun k => if_pos (by omega)) (Ev.congr (fun k => if_pos e0) nx))
theorem end_step (xs gs : List Int) (ms : List S52) (c A B C D : Int) (gf : List Int) (t : Int) (da : Drawn xs) {v : Int × Int × Bool} (hv : Ev (fun k => spec_A2Pair.f k A B C D (cf xs).1 (cf xs).2) v)
    (h : Ev (fun k => if c = 0 then (if v.2.2 = true then ((spec_A2Same.f k gf gs).bind fun t273 => (if t273 = true then ((impl_RatioOf.f k gs).bind fun bt274 => (if bt274.2.2 = 0 then (some (bt274.1 == v.1 && (bt274.2.1 == v.2.1))) else (some false))) else (some false))) else (some false)) else (if c = 4 then (if v.2.2 = true then (some (c == 3)) else (some true)) else (some (c == 3)))) true) :
    Ev (fun k => laws_FnPairs.l0 k xs c gs ms ms gf t (ms.length : Int) A B C D) true := by
  have hs : ∀ i, (((cf (xs.take (i + 1))).1.natAbs : Nat) : Int) ≤ 2147483648 ∧ (cf (xs.take (i + 1))).2 ≤ 2147483648 := fun i => by have := drawn_take da i; omega
  refine Ev.step (fun k => by rw [laws_FnPairs.l0]) (Ev.congr (fun k => if_neg (by omega)) (Ev.bind (ratio_both (drawn_ok da) hs).1 (Ev.bind hv (Ev.congr (fun k => if_pos rfl) h))))
theorem FnPairs : laws_FnPairs.Pure := by
  intro x0 x1 ⟨_, hb0⟩ ⟨_, hb1⟩
  apply Ev.rounds (r := true)
  obtain ⟨xs, da, ha⟩ := a2terms_ev x0 hb0
  obtain ⟨t, ht⟩ : ∃ t, laws_a2Long.f x0 x1 = some t := by unfold laws_a2Long.f; split <;> exact ⟨_, rfl⟩
  refine Ev.congr (fun k => by unfold laws_FnPairs.f; rw [ht, Option.bind_some]) ?_
  cases t with
  | true => exact Ev.congr (fun k => if_pos rfl) (Ev.now _)
  | false =>
    refine Ev.congr (fun k => if_neg (by simp)) (Ev.bind ha ?_)
    obtain ⟨v0, e0, a0, b0⟩ := at_is x1 hb1 0 9 (by omega) (by omega)
    obtain ⟨v1, e1, a1, b1⟩ := at_is x1 hb1 1 9 (by omega) (by omega)
    obtain ⟨v2, e2, a2, b2⟩ := at_is x1 hb1 2 5 (by omega) (by omega)
    obtain ⟨v3, e3, a3, b3⟩ := at_is x1 hb1 3 9 (by omega) (by omega)
    simp only [e0, e1, e2, e3, Option.bind_some]
    rw [wrap64_id (n := v0 - 4) (by omega) (by omega), wrap64_id (n := v1 - 4) (by omega) (by omega), wrap64_id (n := v2 - 2) (by omega) (by omega), wrap64_id (n := v3 - 4) (by omega) (by omega)]
    obtain ⟨A, rfl⟩ : ∃ A, v0 = A + 4 := ⟨v0 - 4, by omega⟩
    obtain ⟨B, rfl⟩ : ∃ B, v1 = B + 4 := ⟨v1 - 4, by omega⟩
    obtain ⟨C, rfl⟩ : ∃ C, v2 = C + 2 := ⟨v2 - 2, by omega⟩
    obtain ⟨D, rfl⟩ : ∃ D, v3 = D + 4 := ⟨v3 - 4, by omega⟩
    rw [show A + 4 - 4 = A by omega, show B + 4 - 4 = B by omega, show C + 2 - 2 = C by omega, show D + 4 - 4 = D by omega]
    have iP : ∀ z : Int, -1000000000 ≤ z → z ≤ 1000000000 → inP z = true := fun z h1 h2 => by unfold inP; exact decide_eq_true ⟨h1, h2⟩
    obtain ⟨gs, ms, c, ⟨hgl, hml⟩, ⟨s1, s2⟩, ⟨s3, s4⟩, hcase⟩ := pair_joint da (iP A (by omega) (by omega)) (iP B (by omega) (by omega)) (iP C (by omega) (by omega)) (iP D (by omega) (by omega))
    refine Ev.bind s2 (Ev.bind s1 (Ev.bind s4 (Ev.bind s3 ?_)))
    refine Ev.congr (fun k => if_pos rfl) (Ev.bind (same_ev gs (by omega)) (Ev.congr (fun k => if_pos rfl) (Ev.congr (fun k => if_pos rfl) ?_)))
    simp only [bne_self_eq_false]
    refine Ev.step (fun k => by rw [laws_FnPairs.j0]) (Ev.congr (fun k => if_neg (by simp)) ?_)
    have hr := drawn_ratio da
    have hlen := (termsOk_is (drawn_ok da)).1
    -- the numbers of the map
    have hP := hr.1
    have hQ := hr.2.1
    have mul_b : ∀ (a p M : Int), -4 ≤ a → a ≤ 4 → -M ≤ p → p ≤ M → -(4 * M) ≤ a * p ∧ a * p ≤ 4 * M := by
      intro a p M h1 h2 h3 h4
      have : a = -4 ∨ a = -3 ∨ a = -2 ∨ a = -1 ∨ a = 0 ∨ a = 1 ∨ a = 2 ∨ a = 3 ∨ a = 4 := by omega
      rcases this with rfl | rfl | rfl | rfl | rfl | rfl | rfl | rfl | rfl <;> omega
    have m1 := mul_b A (cf xs).1 40000 (by omega) (by omega) (by omega) (by omega)
    have m2 := mul_b B (cf xs).2 7776 (by omega) (by omega) (by omega) (by omega)
    have m3 := mul_b C (cf xs).1 40000 (by omega) (by omega) (by omega) (by omega)
    have m4 := mul_b D (cf xs).2 7776 (by omega) (by omega) (by omega) (by omega)
    have hpair : ∀ {v : Int × Int × Bool}, (if C * (cf xs).1 + D * (cf xs).2 = 0 then v = ((cf xs).1, (cf xs).2, false) else v = ((makeR (A * (cf xs).1 + B * (cf xs).2) (C * (cf xs).1 + D * (cf xs).2) (signG (A * (cf xs).1 + B * (cf xs).2) (C * (cf xs).1 + D * (cf xs).2))).1, (makeR (A * (cf xs).1 + B * (cf xs).2) (C * (cf xs).1 + D * (cf xs).2) (signG (A * (cf xs).1 + B * (cf xs).2) (C * (cf xs).1 + D * (cf xs).2))).2.1, ((makeR (A * (cf xs).1 + B * (cf xs).2) (C * (cf xs).1 + D * (cf xs).2) (signG (A * (cf xs).1 + B * (cf xs).2) (C * (cf xs).1 + D * (cf xs).2))).2.2 == 0))) → Ev (fun k => spec_A2Pair.f k A B C D (cf xs).1 (cf xs).2) v := by
      intro v hv
      unfold spec_A2Pair.f
      rw [wrap64_id (n := C * (cf xs).1) (by omega) (by omega), wrap64_id (n := D * (cf xs).2) (by omega) (by omega), wrap64_id (n := C * (cf xs).1 + D * (cf xs).2) (by omega) (by omega), wrap64_id (n := A * (cf xs).1) (by omega) (by omega), wrap64_id (n := B * (cf xs).2) (by omega) (by omega), wrap64_id (n := A * (cf xs).1 + B * (cf xs).2) (by omega) (by omega)]
      by_cases z : C * (cf xs).1 + D * (cf xs).2 = 0
      · rw [if_pos z] at hv
        subst hv
        exact Ev.congr (fun k => if_pos z) (Ev.now _)
      · rw [if_neg z] at hv
        subst hv
        exact Ev.congr (fun k => if_neg z) (Ev.bind (specMake_any (by omega) (by omega) z) (Ev.now _))
    have hv := hpair (v := if C * (cf xs).1 + D * (cf xs).2 = 0 then _ else _) (by split <;> rfl)
    rcases hcase with ⟨rfl, rfl, rfl⟩ | ⟨rfl, rfl, rfl, hz⟩ | ⟨rfl, tg, hgv, htv, a, ha0, hn1, hn2⟩
    · refine end_step xs [] [] 3 A B C D [] 0 da hv ?_
      exact Ev.congr (fun k => if_neg (by decide)) (Ev.congr (fun k => if_neg (by decide)) (Ev.now _))
    · refine end_step xs [] [] 4 A B C D [] 0 da hv ?_
      rw [if_pos hz]
      exact Ev.congr (fun k => if_neg (by decide)) (Ev.congr (fun k => if_pos rfl) (Ev.congr (fun k => if_neg (by simp)) (Ev.now _)))
    · obtain ⟨q1, -⟩ := cf_snd_pos tg
      have hne : ¬ C * (cf xs).1 + D * (cf xs).2 = 0 := by
        rw [hn2]
        exact Int.mul_ne_zero ha0 (by omega)
      have hap : ((cf gs).1.natAbs : Int) ≤ ((A * (cf xs).1 + B * (cf xs).2).natAbs : Int) := by
        rw [hn1, Int.natAbs_mul]
        have : 1 * (cf gs).1.natAbs ≤ a.natAbs * (cf gs).1.natAbs := Nat.mul_le_mul_right _ (by omega)
        omega
      have haq : ((cf gs).2.natAbs : Int) ≤ ((C * (cf xs).1 + D * (cf xs).2).natAbs : Int) := by
        rw [hn2, Int.natAbs_mul]
        have : 1 * (cf gs).2.natAbs ≤ a.natAbs * (cf gs).2.natAbs := Nat.mul_le_mul_right _ (by omega)
        omega
      have hok : ratioOk (cf gs).1 (cf gs).2 = true := by
        unfold ratioOk
        rw [cf_gcd]
        simp
        omega
      rw [if_neg hne, hn1, hn2, makeR_times q1 (cf_gcd gs) ha0, if_pos hok] at hv
      refine moves_loop xs gs ms 0 A B C D gs hml hlen.2 ?_ ms.length 0 0 [] (by omega) (by simp) (by omega) (by simpa using hgv) (by simpa using htv)
      refine end_step xs gs ms 0 A B C D gs _ da hv ?_
      refine Ev.congr (fun k => if_pos rfl) (Ev.congr (fun k => if_pos rfl) (Ev.bind (same_ev gs (by omega)) (Ev.congr (fun k => if_pos rfl) (Ev.bind (ratio_small tg (by omega) (by omega)) (Ev.congr (fun k => if_pos rfl) ?_)))))
      simp only [BEq.rfl, Bool.and_self]
      exact Ev.now _
end Go.Proofs.Ytgldplkbacfacaa.Pure
