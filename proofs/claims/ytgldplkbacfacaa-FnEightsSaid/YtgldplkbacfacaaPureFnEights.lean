/- Machines with eight numbers give sums and products of the values of both numbers, and take the terms of both in turns, for all bytes. -/
import Derived.Test.YtgldplkbacfacaaMFnEightsx15
import Derived.Test.YtgldplkbacfacaaMOpen
namespace Go.Proofs.Ytgldplkbacfacaa.Pure
open Go.RowKit Go.Proofs.Ytgldplkbacfacaa.MFnEights Go.Proofs.Ytgldplkbacfacaa.MOpen Go.Proofs.YtgldplkbacfacaaW.PrintWords Go.Proofs.YtgldplkbacfacaaW.PrintLast Go.Proofs.YtgldplkbacfacaaW.PrintMore
set_option linter.unusedVariables false
set_option linter.unusedSimpArgs false
theorem wrap64_id {n : Int} (h0 : -9223372036854775808 ≤ n) (h1 : n ≤ 9223372036854775807) : wrap64 n = n := by
  unfold wrap64; omega
theorem rd_nat (xs : List Int) (i : Nat) : rd xs (i : Int) = xs.getD i 0 := by simp [rd]
theorem l00In_some (a b c : Int) : spec_l00In.f a b c = some (decide (b ≤ a ∧ a ≤ c)) := by
  unfold spec_l00In.f
  split <;> simp <;> omega
theorem within_some (a b c : Int) : impl_within.f a b c = some (decide (b ≤ a ∧ a ≤ c)) := l00In_some a b c
theorem size_is {a : Int} (h0 : -9223372036854775807 ≤ a) (h1 : a ≤ 9223372036854775807) : spec_l03Size.f a = some (a.natAbs : Int) := by
  unfold spec_l03Size.f
  split
  · rw [wrap64_id (by omega) (by omega)]; congr 1; omega
  · congr 1; omega
theorem mx_abs {a : Int} (h0 : -9223372036854775807 ≤ a) (h1 : a ≤ 9223372036854775807) : mx a (wrap64 (-a)) = (a.natAbs : Int) := by
  unfold mx; rw [wrap64_id (by omega) (by omega)]; split <;> omega
theorem tmod_nat (m n : Nat) : Int.tmod (m : Int) (n : Int) = ((m % n : Nat) : Int) := by
  rw [Int.tmod_eq_emod_of_nonneg (by omega)]; exact (Int.natCast_emod m n).symm
theorem specGcd_loop (n : Nat) : ∀ m : Nat, Ev (fun k => spec_l03Common.l0 k (m : Int) (n : Int)) (Nat.gcd m n : Int) := by
  induction n using Nat.strongRecOn with
  | _ n ih =>
    intro m
    refine Ev.step (fun k => by rw [spec_l03Common.l0]) ?_
    by_cases c : n = 0
    · subst c
      refine Ev.congr (fun k => if_pos rfl) ?_
      rw [Nat.gcd_zero_right]; exact Ev.now _
    · refine Ev.congr (fun k => if_neg (by omega)) ?_
      rw [tmod_nat, show Nat.gcd m n = Nat.gcd n (m % n) by rw [Nat.gcd_comm, Nat.gcd_rec, Nat.gcd_comm]]
      exact ih (m % n) (Nat.mod_lt _ (by omega)) n
theorem specGcd_ev {a b : Int} (ha : -9223372036854775807 ≤ a ∧ a ≤ 9223372036854775807) (hb : -9223372036854775807 ≤ b ∧ b ≤ 9223372036854775807) : Ev (fun k => spec_l03Common.f k a b) (Int.gcd a b : Int) := by
  refine Ev.congr (fun k => by unfold spec_l03Common.f; rfl) ?_
  rw [size_is ha.1 ha.2, size_is hb.1 hb.2]
  simp only [Option.bind_some]
  exact specGcd_loop b.natAbs a.natAbs
/-- Whether a ratio is valid. -/
def ratioOk (p q : Int) : Bool := decide (1 ≤ q ∧ q ≤ 2147483648) && (decide (-2147483648 ≤ p ∧ p ≤ 2147483648) && ((Int.gcd p q : Int) == 1))
theorem specRatio_ev (p q : Int) : Ev (fun k => spec_l03Ratio.f k p q) (ratioOk p q) := by
  refine Ev.congr (fun k => by unfold spec_l03Ratio.f; rfl) ?_
  rw [l00In_some, l00In_some]; simp only [Option.bind_some]
  unfold ratioOk
  by_cases c1 : 1 ≤ q ∧ q ≤ 2147483648
  · refine Ev.congr (fun k => if_pos (by simp [c1])) ?_
    rw [decide_eq_true c1, Bool.true_and]
    by_cases c2 : -2147483648 ≤ p ∧ p ≤ 2147483648
    · refine Ev.congr (fun k => if_pos (by simp [c2])) ?_
      rw [decide_eq_true c2, Bool.true_and]
      exact Ev.bind (specGcd_ev (by omega) (by omega)) (Ev.now _)
    · refine Ev.congr (fun k => if_neg (by simp; omega)) ?_
      rw [decide_eq_false c2, Bool.false_and]; exact Ev.now _
  · refine Ev.congr (fun k => if_neg (by simp; omega)) ?_
    rw [decide_eq_false c1, Bool.false_and]; exact Ev.now _
theorem ratioOk_is {p q : Int} (h : ratioOk p q = true) : (1 ≤ q ∧ q ≤ 2147483648) ∧ (-2147483648 ≤ p ∧ p ≤ 2147483648) ∧ Int.gcd p q = 1 := by
  unfold ratioOk at h
  simp only [Bool.and_eq_true, decide_eq_true_iff, beq_iff_eq] at h
  exact ⟨h.1, h.2.1, by omega⟩
/-- What terms come to, from the last one on: the parts of their ratio. -/
def cf : List Int → Int × Int
  | [] => (1, 0)
  | a :: l => (a * (cf l).1 + (cf l).2, (cf l).1)
theorem cf_gcd : ∀ l : List Int, Int.gcd (cf l).1 (cf l).2 = 1
  | [] => by decide
  | a :: l => by
    have ih := cf_gcd l
    simp only [cf]
    rw [Int.gcd_comm, Int.gcd_mul_right_add_right]; exact ih
theorem cf_up : ∀ l : List Int, (∀ z ∈ l, 1 ≤ z) → 1 ≤ (cf l).1 ∧ 0 ≤ (cf l).2 ∧ (cf l).2 ≤ (cf l).1
  | [], _ => by simp [cf]
  | a :: l, h => by
    have ih := cf_up l (fun z hz => h z (List.mem_cons_of_mem _ hz))
    have ha := h a (List.mem_cons_self ..)
    have h1 : 1 * (cf l).1 ≤ a * (cf l).1 := Int.mul_le_mul_of_nonneg_right ha (by omega)
    simp only [cf]
    omega
theorem cf_drop (l : List Int) (h : ∀ z ∈ l, 1 ≤ z) : ∀ j, (cf (l.drop j)).1 ≤ (cf l).1 := by
  induction l with
  | nil => intro j; simp
  | cons a l ih =>
    intro j
    cases j with
    | zero => simp
    | succ j =>
      have h2 := ih (fun z hz => h z (List.mem_cons_of_mem _ hz)) j
      have h3 := cf_up l (fun z hz => h z (List.mem_cons_of_mem _ hz))
      have ha := h a (List.mem_cons_self ..)
      have h1 : 1 * (cf l).1 ≤ a * (cf l).1 := Int.mul_le_mul_of_nonneg_right ha (by omega)
      simp only [List.drop_succ_cons, cf]
      omega
/-- The same, from the first one on. -/
def fw (p q p0 q0 : Int) : List Int → Int × Int
  | [] => (p, q)
  | a :: l => fw (a * p + p0) (a * q + q0) p q l
theorem fw_cf : ∀ (l : List Int) (p q p0 q0 : Int), fw p q p0 q0 l = (p * (cf l).1 + p0 * (cf l).2, q * (cf l).1 + q0 * (cf l).2)
  | [], p, q, p0, q0 => by simp [fw, cf]
  | a :: l, p, q, p0, q0 => by
    simp only [fw, cf]
    rw [fw_cf l]
    refine Prod.ext ?_ ?_ <;> simp only <;> grind
theorem fw_start (l : List Int) : fw 1 0 0 1 l = cf l := by
  rw [fw_cf]; refine Prod.ext ?_ ?_ <;> simp
/-- What is known of terms that a value is asked of: the last one need not be 2. -/
def TermsLike (xs : List Int) : Prop := (1 ≤ xs.length ∧ xs.length ≤ 40) ∧ ∀ j, j < xs.length → -1000000000 ≤ xs.getD j 0 ∧ xs.getD j 0 ≤ 1000000000 ∧ (0 < j → 1 ≤ xs.getD j 0)
theorem TermsLike.rest {xs : List Int} (h : TermsLike xs) (m : Nat) : ∀ z ∈ xs.drop (m + 1), 1 ≤ z := by
  intro z hz
  obtain ⟨j, hj, rfl⟩ := List.mem_iff_getElem.1 hz
  simp only [List.length_drop] at hj
  have := (h.2 (m + 1 + j) (by omega)).2.2 (by omega)
  rw [List.getElem_drop]
  rwa [List.getD_eq_getElem?_getD, List.getElem?_eq_getElem (by omega)] at this
theorem TermsLike.take {xs : List Int} (h : TermsLike xs) (n : Nat) (h1 : 1 ≤ n) (h2 : n ≤ xs.length) : TermsLike (xs.take n) := by
  refine ⟨by simp; have := h.1; omega, fun j hj => ?_⟩
  simp only [List.length_take] at hj
  have := h.2 j (by omega)
  rw [List.getD_eq_getElem?_getD, List.getElem?_take_of_lt (by omega), ← List.getD_eq_getElem?_getD]
  exact this
/-- The ratio of terms, with a code. -/
def valR (xs : List Int) : Int × Int × Int := if ((cf xs).1.natAbs : Int) ≤ 2147483648 ∧ (cf xs).2 ≤ 2147483648 then ((cf xs).1, (cf xs).2, 0) else (0, 0, 3)
theorem specMake_one {p q : Int} (hq : 1 ≤ q) (hg : Int.gcd p q = 1) (hp : -4611686018427387904 ≤ p ∧ p ≤ 4611686018427387904) (hq2 : q ≤ 4611686018427387904) : Ev (fun k => spec_l03Make.f k p q) (if ratioOk p q = true then (p, q, 0) else (0, 0, 3)) := by
  refine Ev.congr (fun k => by unfold spec_l03Make.f; rfl) (Ev.bind (specGcd_ev (by omega) (by omega)) ?_)
  rw [hg]
  refine Ev.congr (fun k => if_neg (by omega)) (Ev.congr (fun k => if_neg (by decide)) ?_)
  rw [show ((1 : Nat) : Int) = 1 from rfl, Int.tdiv_one, Int.tdiv_one, wrap64_id (n := p) (by omega) (by omega), wrap64_id (n := q) (by omega) (by omega)]
  refine Ev.bind (specRatio_ev p q) ?_
  cases ratioOk p q <;> exact Ev.now _
theorem specValue_loop (xs : List Int) (h : TermsLike xs) : ∀ m : Nat, m < xs.length → (-4611686018427387904 ≤ (cf (xs.drop m)).1 ∧ (cf (xs.drop m)).1 ≤ 4611686018427387904) → (cf (xs.drop m)).2 ≤ 4611686018427387904 →
    Ev (fun k => spec_l04Value.l0 k xs (cf (xs.drop m)).1 (cf (xs.drop m)).2 ((m : Int) - 1)) (valR xs) := by
  have hone : 1 ≤ (cf xs).2 := by
    obtain ⟨a, l, rfl⟩ : ∃ a l, xs = a :: l := by
      cases xs with
      | nil => exact absurd h.1.1 (by simp)
      | cons a l => exact ⟨a, l, rfl⟩
    exact (cf_up l (by simpa using h.rest 0)).1
  intro m
  induction m with
  | zero =>
    intro hm hp hq
    refine Ev.step (fun k => by rw [spec_l04Value.l0]) (Ev.congr (fun k => if_neg (by omega)) ?_)
    rw [List.drop_zero] at hp hq ⊢
    refine Ev.bind (specMake_one hone (cf_gcd xs) hp hq) ?_
    have e : ratioOk (cf xs).1 (cf xs).2 = true ↔ ((cf xs).1.natAbs : Int) ≤ 2147483648 ∧ (cf xs).2 ≤ 2147483648 := by
      constructor
      · intro z; have := ratioOk_is z; omega
      · intro z; unfold ratioOk; rw [cf_gcd]; simp; omega
    unfold valR
    by_cases c : ratioOk (cf xs).1 (cf xs).2 = true
    · rw [if_pos c, if_pos (e.1 c)]; exact Ev.now _
    · rw [if_neg c, if_neg (fun z => c (e.2 z))]; exact Ev.now _
  | succ m ih =>
    intro hm hp hq
    have hup := cf_up _ (h.rest m)
    have hx := h.2 m (by omega)
    have hlen := h.1.2
    have hd : xs.drop m = xs.getD m 0 :: xs.drop (m + 1) := by
      rw [List.drop_eq_getElem_cons (by omega), List.getD_eq_getElem?_getD, List.getElem?_eq_getElem (by omega)]; rfl
    refine Ev.step (fun k => by rw [spec_l04Value.l0]) (Ev.congr (fun k => if_pos (by omega)) ?_)
    rw [size_is (by omega) (by omega)]; simp only [Option.bind_some]
    have hbig : 2147483648 < (cf (xs.drop (m + 1))).1 → valR xs = (0, 0, 3) := by
      intro z
      obtain ⟨a, l, rfl⟩ : ∃ a l, xs = a :: l := by
        cases xs with
        | nil => exact absurd h.1.1 (by simp)
        | cons a l => exact ⟨a, l, rfl⟩
      have h3 := cf_drop l (by simpa using h.rest 0) m
      rw [List.drop_succ_cons] at z
      unfold valR
      rw [if_neg]
      show ¬ (_ ∧ (cf l).1 ≤ _)
      omega
    by_cases c1 : (((cf (xs.drop (m + 1))).1.natAbs : Nat) : Int) > 2147483648
    · rw [hbig (by omega)]; exact Ev.congr (fun k => if_pos c1) (Ev.now _)
    · refine Ev.congr (fun k => if_neg c1) (Ev.congr (fun k => if_neg (by omega)) ?_)
      rw [show (((m + 1 : Nat) : Int) - 1) = (m : Int) by omega, rd_nat]
      have hmul : -(1000000000 * 2147483648) ≤ xs.getD m 0 * (cf (xs.drop (m + 1))).1 ∧ xs.getD m 0 * (cf (xs.drop (m + 1))).1 ≤ 1000000000 * 2147483648 := by
        have h5 : xs.getD m 0 * (cf (xs.drop (m + 1))).1 ≤ 1000000000 * (cf (xs.drop (m + 1))).1 := Int.mul_le_mul_of_nonneg_right (by omega) (by omega)
        have h6 : -1000000000 * (cf (xs.drop (m + 1))).1 ≤ xs.getD m 0 * (cf (xs.drop (m + 1))).1 := Int.mul_le_mul_of_nonneg_right (by omega) (by omega)
        omega
      rw [wrap64_id (n := xs.getD m 0 * (cf (xs.drop (m + 1))).1) (by omega) (by omega), wrap64_id (n := xs.getD m 0 * (cf (xs.drop (m + 1))).1 + (cf (xs.drop (m + 1))).2) (by omega) (by omega), wrap64_id (n := (m : Int) - 1) (by omega) (by omega)]
      refine Ev.congr (fun k => if_pos (by omega)) (Ev.congr (fun k => if_pos (by omega)) ?_)
      have := ih (by omega) (by rw [hd]; simp only [cf]; omega) (by rw [hd]; simp only [cf]; omega)
      rw [hd] at this
      exact this
theorem specValue_ev (xs : List Int) (h : TermsLike xs) : Ev (fun k => spec_l04Value.f k xs) (valR xs) := by
  refine Ev.congr (fun k => by unfold spec_l04Value.f; rfl) ?_
  have hn := h.1
  have hl := h.2 (xs.length - 1) (by omega)
  have hd : xs.drop (xs.length - 1) = [xs.getD (xs.length - 1) 0] := by
    rw [List.drop_eq_getElem_cons (by omega), List.getD_eq_getElem?_getD, List.getElem?_eq_getElem (by omega), List.drop_eq_nil_of_le (by omega)]; rfl
  have := specValue_loop xs h (xs.length - 1) (by omega) (by rw [hd]; simp only [cf, Int.mul_one, Int.add_zero]; omega) (by rw [hd]; simp [cf])
  rw [hd] at this
  rw [wrap64_id (n := (xs.length : Int) - 1) (by omega) (by omega), wrap64_id (n := (xs.length : Int) - 2) (by omega) (by omega)]
  refine Ev.congr (fun k => if_pos (by omega)) (Ev.congr (fun k => if_pos (by omega)) ?_)
  rw [show ((xs.length : Int) - 1) = ((xs.length - 1 : Nat) : Int) by omega, rd_nat, show ((xs.length : Int) - 2) = ((xs.length - 1 : Nat) : Int) - 1 by omega]
  simpa [cf] using this
/-- What holds while the convergents are found: state (p, q, p0, q0) behind i terms. -/
structure At (xs : List Int) (i : Nat) (p q p0 q0 : Int) : Prop where
  here : ∀ l, cf (xs.take i ++ l) = fw p q p0 q0 l
  p1 : -2147483648 ≤ p ∧ p ≤ 2147483648
  p2 : -2147483648 ≤ p0 ∧ p0 ≤ 2147483648
  q1 : 0 ≤ q ∧ q ≤ 2147483648
  q2 : 0 ≤ q0 ∧ q0 ≤ 2147483648
  sgn : i = 0 ∧ p = 1 ∧ p0 = 0 ∧ q = 0 ∧ q0 = 1 ∨ 1 ≤ i ∧ ((0 ≤ p ∧ 0 ≤ p0) ∨ (p ≤ 0 ∧ p0 ≤ 0) ∨ (p ≤ -1 ∧ p0 = 1))
theorem at_zero (xs : List Int) : At xs 0 1 0 0 1 := ⟨fun l => by rw [List.take_zero, List.nil_append, fw_start], by omega, by omega, by omega, by omega, .inl ⟨rfl, rfl, rfl, rfl, rfl⟩⟩
theorem take_step {xs : List Int} {i : Nat} (hi : i < xs.length) : xs.take (i + 1) = xs.take i ++ [xs.getD i 0] := by
  rw [List.take_add_one, List.getElem?_eq_getElem hi, List.getD_eq_getElem?_getD, List.getElem?_eq_getElem hi]; rfl
theorem at_here {xs : List Int} {i : Nat} {p q p0 q0 : Int} (h : At xs i p q p0 q0) (hi : i < xs.length) : cf (xs.take (i + 1)) = (xs.getD i 0 * p + p0, xs.getD i 0 * q + q0) := by
  rw [take_step hi, h.here]; rfl
/-- A round's products are small. -/
theorem at_small {xs : List Int} (hx : TermsLike xs) {i : Nat} {p q p0 q0 : Int} (h : At xs i p q p0 q0) (hi : i < xs.length) : (-2147483648000000000 ≤ xs.getD i 0 * p ∧ xs.getD i 0 * p ≤ 2147483648000000000) ∧ (-2147483648000000000 ≤ xs.getD i 0 * q ∧ xs.getD i 0 * q ≤ 2147483648000000000) ∧ (0 ≤ xs.getD i 0 * q + q0) := by
  have hz := hx.2 i hi
  have aux : ∀ y : Int, -2147483648 ≤ y → y ≤ 2147483648 → -2147483648000000000 ≤ xs.getD i 0 * y ∧ xs.getD i 0 * y ≤ 2147483648000000000 := by
    intro y h0 h1
    rcases Int.le_total 0 y with c | c
    · have h5 : xs.getD i 0 * y ≤ 1000000000 * y := Int.mul_le_mul_of_nonneg_right (by omega) c
      have h6 : -1000000000 * y ≤ xs.getD i 0 * y := Int.mul_le_mul_of_nonneg_right (by omega) c
      omega
    · have h5 : 1000000000 * y ≤ xs.getD i 0 * y := Int.mul_le_mul_of_nonpos_right (by omega) c
      have h6 : xs.getD i 0 * y ≤ -1000000000 * y := Int.mul_le_mul_of_nonpos_right (by omega) c
      omega
  refine ⟨aux p h.p1.1 h.p1.2, aux q (by have := h.q1; omega) h.q1.2, ?_⟩
  rcases h.sgn with ⟨rfl, rfl, rfl, rfl, rfl⟩ | ⟨h1, _⟩
  · simp
  · have := Int.mul_nonneg (a := xs.getD i 0) (b := q) (by have := hz.2.2 (by omega); omega) h.q1.1
    have := h.q2
    omega
theorem at_next {xs : List Int} (hx : TermsLike xs) {i : Nat} {p q p0 q0 : Int} (h : At xs i p q p0 q0) (hi : i < xs.length) (hp : -2147483648 ≤ xs.getD i 0 * p + p0 ∧ xs.getD i 0 * p + p0 ≤ 2147483648) (hq : xs.getD i 0 * q + q0 ≤ 2147483648) : At xs (i + 1) (xs.getD i 0 * p + p0) (xs.getD i 0 * q + q0) p q := by
  have hz := hx.2 i hi
  refine ⟨fun l => ?_, hp, h.p1, ⟨(at_small hx h hi).2.2, hq⟩, h.q1, .inr ⟨by omega, ?_⟩⟩
  · rw [take_step hi, List.append_assoc, h.here]; rfl
  · rcases h.sgn with ⟨rfl, rfl, rfl, rfl, rfl⟩ | ⟨h1, h2⟩
    · omega
    · have ha := hz.2.2 (by omega)
      have h3 : (0 ≤ p → 1 * p ≤ xs.getD i 0 * p) ∧ (p ≤ 0 → xs.getD i 0 * p ≤ 1 * p) := ⟨fun z => Int.mul_le_mul_of_nonneg_right ha z, fun z => Int.mul_le_mul_of_nonpos_right ha z⟩
      omega
theorem conv_step {xs : List Int} (hx : TermsLike xs) {i : Nat} {p q p0 q0 : Int} (h : At xs i p q p0 q0) (hi : i < xs.length) (out : List S54) (ho : out.length ≤ 40) (r : List S54)
    (hr : Ev (fun k => if (((xs.getD i 0 * p + p0).natAbs : Nat) : Int) > 2147483648 then some out else if xs.getD i 0 * q + q0 > 2147483648 then some out else impl_convergents.l0 k (out ++ [(⟨xs.getD i 0 * p + p0, xs.getD i 0 * q + q0⟩ : S54)]) (xs.getD i 0 * p + p0) (xs.getD i 0 * q + q0) p q xs (xs.length : Int) ((i : Int) + 1)) r) :
    Ev (fun k => impl_convergents.l0 k out p q p0 q0 xs (xs.length : Int) (i : Int)) r := by
  have hs := at_small hx h hi
  have h2 := h.p2
  have h3 := h.q2
  have hlen := hx.1.2
  refine Ev.step (fun k => by rw [impl_convergents.l0]) ?_
  rw [rd_nat, wrap64_id (n := xs.getD i 0 * p) (by omega) (by omega), wrap64_id (n := xs.getD i 0 * q) (by omega) (by omega), wrap64_id (n := xs.getD i 0 * p + p0) (by omega) (by omega), wrap64_id (n := xs.getD i 0 * q + q0) (by omega) (by omega), mx_abs (by omega) (by omega), wrap64_id (n := (i : Int) + 1) (by omega) (by omega)]
  refine Ev.congr (fun k => if_pos (by omega)) (Ev.congr (fun k => if_pos (by omega)) (Ev.congr (fun k => if_pos (by omega)) ?_))
  refine Ev.congr (fun k => ?_) hr
  rw [if_pos (show out.length < 8796093022208 by omega)]
/-- What both say of terms from index i on. -/
def TermsFrom (xs : List Int) (i : Nat) : Prop :=
  (∀ j, i ≤ j → j < xs.length → -1000000000 ≤ xs.getD j 0 ∧ xs.getD j 0 ≤ 1000000000 ∧ (0 < j → 1 ≤ xs.getD j 0)) ∧ (xs.length = 1 ∨ 2 ≤ xs.getD (xs.length - 1) 0)
theorem TermsFrom.step {xs : List Int} {i : Nat} (hi : i < xs.length) : TermsFrom xs i ↔ (-1000000000 ≤ xs.getD i 0 ∧ xs.getD i 0 ≤ 1000000000 ∧ (0 < i → 1 ≤ xs.getD i 0)) ∧ TermsFrom xs (i + 1) := by
  unfold TermsFrom
  constructor
  · rintro ⟨h, e⟩; exact ⟨h i (Nat.le_refl _) hi, fun j h1 h2 => h j (by omega) h2, e⟩
  · rintro ⟨h0, h, e⟩
    refine ⟨fun j h1 h2 => ?_, e⟩
    by_cases c : j = i
    · subst c; exact h0
    · exact h j (by omega) h2
theorem TermsFrom.done {xs : List Int} : TermsFrom xs xs.length ↔ (xs.length = 1 ∨ 2 ≤ xs.getD (xs.length - 1) 0) := by
  unfold TermsFrom
  constructor
  · rintro ⟨_, e⟩; exact e
  · intro e; exact ⟨fun j h1 h2 => by omega, e⟩
open Classical in
noncomputable def termsFrom (xs : List Int) (i : Nat) : Bool := decide (TermsFrom xs i)
open Classical in
theorem termsFrom_bad {xs : List Int} {i : Nat} (hi : i < xs.length) (h : ¬ (-1000000000 ≤ xs.getD i 0 ∧ xs.getD i 0 ≤ 1000000000 ∧ (0 < i → 1 ≤ xs.getD i 0))) : termsFrom xs i = false := by
  unfold termsFrom; rw [decide_eq_false_iff_not, TermsFrom.step hi]; exact fun z => h z.1
open Classical in
theorem termsFrom_good {xs : List Int} {i : Nat} (hi : i < xs.length) (h : (-1000000000 ≤ xs.getD i 0 ∧ xs.getD i 0 ≤ 1000000000 ∧ (0 < i → 1 ≤ xs.getD i 0))) : termsFrom xs i = termsFrom xs (i + 1) := by
  unfold termsFrom; rw [decide_eq_decide, TermsFrom.step hi]; exact ⟨fun z => z.2, fun z => ⟨h, z⟩⟩
open Classical in
theorem termsFrom_one {xs : List Int} (h : xs.length = 1) : termsFrom xs xs.length = true :=
  @decide_eq_true _ _ (TermsFrom.done.2 (.inl h))
open Classical in
theorem termsFrom_end {xs : List Int} (h : xs.length ≠ 1) : termsFrom xs xs.length = decide (xs.getD (xs.length - 1) 0 ≥ 2) := by
  by_cases c : xs.getD (xs.length - 1) 0 ≥ 2
  · rw [show decide (xs.getD (xs.length - 1) 0 ≥ 2) = true from decide_eq_true c]; exact @decide_eq_true _ _ (TermsFrom.done.2 (.inr c))
  · rw [show decide (xs.getD (xs.length - 1) 0 ≥ 2) = false from decide_eq_false c]; exact @decide_eq_false _ _ (fun z => c ((TermsFrom.done.1 z).resolve_left h))
theorem size_small {a : Int} (h0 : -9223372036854775808 ≤ a) (h : a ≤ 9223372036854775807) : ∃ r, spec_l03Size.f a = some r ∧ (r > 1000000000 → ¬ (-1000000000 ≤ a ∧ a ≤ 1000000000)) ∧ (¬ r > 1000000000 → ¬ a < -1000000000 → (-1000000000 ≤ a ∧ a ≤ 1000000000)) := by
  unfold spec_l03Size.f
  split
  · exact ⟨_, rfl, fun h => by unfold wrap64 at h; omega, fun h1 h2 => by unfold wrap64 at h1; omega⟩
  · exact ⟨_, rfl, fun h => by omega, fun h1 h2 => by omega⟩
theorem specTerms_loop (xs : List Int) (hw : ∀ j, j < xs.length → -9223372036854775808 ≤ xs.getD j 0 ∧ xs.getD j 0 ≤ 9223372036854775807) (h1 : 1 ≤ xs.length) (hn : xs.length ≤ 4611686018427387904) (d : Nat) : ∀ (i k : Nat), i + d = xs.length → d < k → spec_l04Terms.l0 k xs (xs.length : Int) (i : Int) = some (termsFrom xs i) := by
  induction d with
  | zero =>
    intro i k hd hk
    obtain ⟨k, rfl⟩ : ∃ m, k = m + 1 := ⟨k - 1, by omega⟩
    obtain rfl : i = xs.length := by omega
    simp only [spec_l04Terms.l0]; rw [if_neg (by omega)]
    by_cases e : xs.length = 1
    · rw [if_pos (by omega), termsFrom_one e]
    · rw [if_neg (by omega), wrap64_id (by omega) (by omega), if_pos (by omega), if_pos (by omega), termsFrom_end e, show ((xs.length : Int) - 1) = ((xs.length - 1 : Nat) : Int) by omega, rd_nat]
  | succ d ih =>
    intro i k hd hk
    obtain ⟨k, rfl⟩ : ∃ m, k = m + 1 := ⟨k - 1, by omega⟩
    have hi : i < xs.length := by omega
    obtain ⟨r, hr, h2, h3⟩ := size_small (hw i hi).1 (hw i hi).2
    simp only [spec_l04Terms.l0, rd_nat]; rw [if_pos (by omega), if_pos (by omega), if_pos (by omega), hr]; simp only [Option.bind_some]
    by_cases c1 : r > 1000000000
    · rw [if_pos c1, termsFrom_bad hi (fun z => h2 c1 ⟨z.1, z.2.1⟩)]
    · rw [if_neg c1]
      by_cases c2 : xs.getD i 0 < -1000000000
      · rw [if_pos c2, termsFrom_bad hi (fun z => by omega)]
      · rw [if_neg c2, wrap64_id (by omega) (by omega)]
        have hg := h3 c1 c2
        by_cases c3 : (i : Int) > 0
        · rw [if_pos c3]
          by_cases c4 : xs.getD i 0 < 1
          · rw [if_pos c4, termsFrom_bad hi (fun z => by have := z.2.2 (by omega); omega)]
          · rw [if_neg c4, termsFrom_good hi ⟨hg.1, hg.2, fun _ => by omega⟩]; exact ih (i + 1) k (by omega) (by omega)
        · rw [if_neg c3, termsFrom_good hi ⟨hg.1, hg.2, fun _ => by omega⟩]; exact ih (i + 1) k (by omega) (by omega)
theorem implTerms_loop (xs : List Int) (h1 : 1 ≤ xs.length) (hn : xs.length ≤ 4611686018427387904) (d : Nat) : ∀ (i k : Nat), i + d = xs.length → d < k → impl_ValidTerms.l0 k xs xs (xs.length : Int) (i : Int) = some (termsFrom xs i) := by
  induction d with
  | zero =>
    intro i k hd hk
    obtain ⟨k, rfl⟩ : ∃ m, k = m + 1 := ⟨k - 1, by omega⟩
    obtain rfl : i = xs.length := by omega
    simp only [impl_ValidTerms.l0]; rw [if_neg (by omega)]
    by_cases e : xs.length = 1
    · rw [if_pos (by omega), termsFrom_one e]
    · rw [if_neg (by omega), wrap64_id (by omega) (by omega), if_pos (by omega), if_pos (by omega), termsFrom_end e, show ((xs.length : Int) - 1) = ((xs.length - 1 : Nat) : Int) by omega, rd_nat]
  | succ d ih =>
    intro i k hd hk
    obtain ⟨k, rfl⟩ : ∃ m, k = m + 1 := ⟨k - 1, by omega⟩
    have hi : i < xs.length := by omega
    have hwi : ∃ b, impl_within.f (xs.getD i 0) (-1000000000) 1000000000 = some b ∧ (b = true ↔ (-1000000000 ≤ xs.getD i 0 ∧ xs.getD i 0 ≤ 1000000000)) := by
      unfold impl_within.f
      split
      · exact ⟨_, rfl, by rw [decide_eq_true_iff]; omega⟩
      · exact ⟨_, rfl, fun z => by simp at z, fun z => by omega⟩
    obtain ⟨b, hb, h2⟩ := hwi
    simp only [impl_ValidTerms.l0, rd_nat]; rw [if_pos (by omega), if_pos (by omega), if_pos (by omega), hb]; simp only [Option.bind_some]
    by_cases c1 : b = true
    · have hg := h2.1 c1
      rw [if_pos c1, wrap64_id (by omega) (by omega)]
      by_cases c3 : (i : Int) > 0
      · rw [if_pos c3]
        by_cases c4 : xs.getD i 0 < 1
        · rw [if_pos c4, termsFrom_bad hi (fun z => by have := z.2.2 (by omega); omega)]
        · rw [if_neg c4, termsFrom_good hi ⟨hg.1, hg.2, fun _ => by omega⟩]; exact ih (i + 1) k (by omega) (by omega)
      · rw [if_neg c3, termsFrom_good hi ⟨hg.1, hg.2, fun _ => by omega⟩]; exact ih (i + 1) k (by omega) (by omega)
    · rw [if_neg c1, termsFrom_bad hi (fun z => c1 (h2.2 ⟨z.1, z.2.1⟩))]
/-- Whether terms are valid. -/
noncomputable def termsOk (xs : List Int) : Bool := decide (1 ≤ xs.length ∧ xs.length ≤ 40) && termsFrom xs 0
theorem specTerms_ev (xs : List Int) (hw : ∀ j, j < xs.length → -9223372036854775808 ≤ xs.getD j 0 ∧ xs.getD j 0 ≤ 9223372036854775807) : Ev (fun k => spec_l04Terms.f k xs) (termsOk xs) := by
  refine ⟨xs.length + 3, fun k hk => ?_⟩
  obtain ⟨k, rfl⟩ : ∃ m, k = m + 1 := ⟨k - 1, by omega⟩
  show spec_l04Terms.f (k + 1) xs = _
  unfold spec_l04Terms.f termsOk
  by_cases c : (xs.length : Int) < 1
  · rw [if_pos c]; simp only [spec_l04Terms.j0]; rw [if_pos trivial, decide_eq_false (by omega)]; rfl
  · rw [if_neg c]; simp only [spec_l04Terms.j0]
    by_cases c2 : (xs.length : Int) > 40
    · rw [if_pos (by simpa using c2), decide_eq_false (by omega)]; rfl
    · rw [if_neg (by simpa using c2), decide_eq_true (by omega), Bool.true_and]
      exact specTerms_loop xs hw (by omega) (by omega) xs.length 0 k (by omega) (by omega)
theorem implTerms_ev (xs : List Int) : Ev (fun k => impl_ValidTerms.f k xs) (termsOk xs) := by
  refine ⟨xs.length + 3, fun k hk => ?_⟩
  obtain ⟨k, rfl⟩ : ∃ m, k = m + 1 := ⟨k - 1, by omega⟩
  show impl_ValidTerms.f (k + 1) xs = _
  unfold impl_ValidTerms.f termsOk
  by_cases c : (xs.length : Int) < 1
  · rw [if_pos c]; simp only [impl_ValidTerms.j0]; rw [if_pos trivial, decide_eq_false (by omega)]; rfl
  · rw [if_neg c]; simp only [impl_ValidTerms.j0]
    by_cases c2 : (xs.length : Int) > 40
    · rw [if_pos (by simpa using c2), decide_eq_false (by omega)]; rfl
    · rw [if_neg (by simpa using c2), decide_eq_true (by omega), Bool.true_and]
      exact implTerms_loop xs (by omega) (by omega) xs.length 0 k (by omega) (by omega)
theorem terms_w {l : List Int} (hw : ∀ z ∈ l, -9223372036854775808 ≤ z ∧ z ≤ 9223372036854775807) : ∀ j, j < l.length → -9223372036854775808 ≤ l.getD j 0 ∧ l.getD j 0 ≤ 9223372036854775807 := by
  intro j hj
  rw [List.getD_eq_getElem?_getD, List.getElem?_eq_getElem hj]
  exact hw _ (List.getElem_mem hj)
open Classical in
theorem termsOk_is {xs : List Int} (h : termsOk xs = true) : (1 ≤ xs.length ∧ xs.length ≤ 40) ∧ (∀ j, j < xs.length → -1000000000 ≤ xs.getD j 0 ∧ xs.getD j 0 ≤ 1000000000 ∧ (0 < j → 1 ≤ xs.getD j 0)) ∧ (xs.length = 1 ∨ 2 ≤ xs.getD (xs.length - 1) 0) := by
  unfold termsOk at h
  rw [Bool.and_eq_true, decide_eq_true_iff] at h
  have h2 : TermsFrom xs 0 := by
    have := h.2
    unfold termsFrom at this
    exact of_decide_eq_true this
  exact ⟨h.1, fun j hj => h2.1 j (by omega) hj, h2.2⟩
open Classical in
theorem termsOk_of {xs : List Int} (h1 : 1 ≤ xs.length ∧ xs.length ≤ 40) (h2 : ∀ j, j < xs.length → -1000000000 ≤ xs.getD j 0 ∧ xs.getD j 0 ≤ 1000000000 ∧ (0 < j → 1 ≤ xs.getD j 0)) (h3 : xs.length = 1 ∨ 2 ≤ xs.getD (xs.length - 1) 0) : termsOk xs = true := by
  unfold termsOk
  rw [Bool.and_eq_true, decide_eq_true_iff]
  refine ⟨h1, ?_⟩
  unfold termsFrom
  exact @decide_eq_true _ _ ⟨fun j _ hj => h2 j hj, h3⟩
def TailOk : List Int → Prop
  | [] => True
  | [a] => 2 ≤ a
  | a :: b :: l => 1 ≤ a ∧ TailOk (b :: l)
def HdOk : List Int → Prop
  | [] => True
  | _ :: l => TailOk l
theorem tailOk_tl {a : Int} {l : List Int} (h : TailOk (a :: l)) : TailOk l := by
  cases l with
  | nil => trivial
  | cons b l => exact h.2
theorem tailOk_of : ∀ {l : List Int}, (∀ z ∈ l, 1 ≤ z) → (∀ h : l ≠ [], 2 ≤ l.getLast h) → TailOk l
  | [], _, _ => trivial
  | [a], _, h => h (by simp)
  | a :: b :: l, h1, h2 => ⟨h1 a (by simp), tailOk_of (fun z hz => h1 z (List.mem_cons_of_mem _ hz)) (fun h => by have h3 := h2 (by simp); rwa [List.getLast_cons (by simp)] at h3)⟩
theorem drop_cons_getD {xs : List Int} {i : Nat} (hi : i < xs.length) : xs.drop i = xs.getD i 0 :: xs.drop (i + 1) := by
  rw [List.drop_eq_getElem_cons hi, List.getD_eq_getElem?_getD, List.getElem?_eq_getElem hi]; rfl
/-- The convergents, one by one. -/
def convL (xs : List Int) (i : Nat) : List S54 := (List.range i).map fun j => ⟨(cf (xs.take (j + 1))).1, (cf (xs.take (j + 1))).2⟩
theorem convL_len (xs : List Int) (i : Nat) : (convL xs i).length = i := by simp [convL]
theorem convL_rd (xs : List Int) (i j : Nat) (h : j < i) : rd_T54 (convL xs i) (j : Int) = ⟨(cf (xs.take (j + 1))).1, (cf (xs.take (j + 1))).2⟩ := by
  simp [rd_T54, convL, List.getD_eq_getElem?_getD, h]
theorem conv_vals {xs : List Int} (hx : TermsLike xs) (hs : ∀ i, (((cf (xs.take (i + 1))).1.natAbs : Nat) : Int) ≤ 2147483648 ∧ (cf (xs.take (i + 1))).2 ≤ 2147483648) (d : Nat) : ∀ (i : Nat) (p q p0 q0 : Int), i + d = xs.length → At xs i p q p0 q0 →
    Ev (fun k => impl_convergents.l0 k (convL xs i) p q p0 q0 xs (xs.length : Int) (i : Int)) (convL xs xs.length) := by
  induction d with
  | zero =>
    intro i p q p0 q0 hd h
    have hlen := hx.1
    obtain rfl : i = xs.length := by omega
    exact Ev.step (fun k => by rw [impl_convergents.l0]) (Ev.congr (fun k => if_neg (by omega)) (Ev.now _))
  | succ d ih =>
    intro i p q p0 q0 hd h
    have hlen := hx.1.2
    have hi : i < xs.length := by omega
    have hh := at_here h hi
    have hb := hs i
    rw [hh] at hb
    simp only at hb
    have hc : convL xs (i + 1) = convL xs i ++ [(⟨xs.getD i 0 * p + p0, xs.getD i 0 * q + q0⟩ : S54)] := by
      unfold convL; rw [List.range_succ, List.map_append, List.map_cons, List.map_nil, hh]
    have h2 := ih (i + 1) _ _ _ _ (by omega) (at_next hx h hi (by omega) hb.2)
    rw [hc] at h2
    have hcl := convL_len xs i
    exact conv_step hx h hi _ (by omega) _ (Ev.congr (fun k => if_neg (by omega)) (Ev.congr (fun k => if_neg (by omega)) h2))
theorem terms_wide {xs : List Int} (c : termsOk xs = true) : ∀ j, j < xs.length → -9223372036854775808 ≤ xs.getD j 0 ∧ xs.getD j 0 ≤ 9223372036854775807 := fun j hj => by
  have := (termsOk_is c).2.1 j hj
  omega
theorem conv_both {xs : List Int} (c : termsOk xs = true) (hs : ∀ i, (((cf (xs.take (i + 1))).1.natAbs : Nat) : Int) ≤ 2147483648 ∧ (cf (xs.take (i + 1))).2 ≤ 2147483648) : Ev (fun k => impl_ConvergentsOf.f k xs) (convL xs xs.length, 0) := by
  obtain ⟨h1, h2, _⟩ := termsOk_is c
  have hx : TermsLike xs := ⟨h1, h2⟩
  have p1 := conv_vals hx hs xs.length 0 1 0 0 1 (by omega) (at_zero xs)
  have hl := convL_len xs xs.length
  · refine Ev.congr (fun k => by unfold impl_ConvergentsOf.f impl_convergents.f; rfl) (Ev.bind (implTerms_ev xs) ?_)
    rw [c]; refine Ev.congr (fun k => if_pos rfl) (Ev.bind p1 ?_)
    exact Ev.congr (fun k => if_neg (by omega)) (Ev.now _)
theorem ratio_both {xs : List Int} (c : termsOk xs = true) (hs : ∀ i, (((cf (xs.take (i + 1))).1.natAbs : Nat) : Int) ≤ 2147483648 ∧ (cf (xs.take (i + 1))).2 ≤ 2147483648) : Ev (fun k => spec_RatioOf.f k xs) ((cf xs).1, (cf xs).2, 0) ∧ Ev (fun k => impl_RatioOf.f k xs) ((cf xs).1, (cf xs).2, 0) := by
  obtain ⟨h1, h2, _⟩ := termsOk_is c
  have hx : TermsLike xs := ⟨h1, h2⟩
  have hl := hs (xs.length - 1)
  rw [show xs.length - 1 + 1 = xs.length by omega, List.take_length] at hl
  have hcl := convL_len xs xs.length
  refine ⟨?_, ?_⟩
  · refine Ev.congr (fun k => by unfold spec_RatioOf.f; rfl) (Ev.bind (specTerms_ev xs (terms_wide c)) ?_)
    rw [c]
    have hv : valR xs = ((cf xs).1, (cf xs).2, 0) := by unfold valR; exact if_pos hl
    refine Ev.congr (fun k => if_pos rfl) (Ev.bind (specValue_ev xs hx) ?_)
    rw [hv]; exact Ev.now _
  · refine Ev.congr (fun k => by unfold impl_RatioOf.f; rfl) (Ev.bind (conv_both c hs) ?_)
    simp only
    rw [hcl, wrap64_id (by omega) (by omega)]
    have e : rd_T54 (convL xs xs.length) ((xs.length : Int) - 1) = ⟨(cf xs).1, (cf xs).2⟩ := by
      have h5 := convL_rd xs xs.length (xs.length - 1) (by omega)
      rw [show xs.length - 1 + 1 = xs.length by omega, List.take_length] at h5
      rw [← h5]; congr 1; omega
    rw [e]
    exact Ev.congr (fun k => if_pos trivial) (Ev.congr (fun k => if_pos (by omega)) (Ev.congr (fun k => if_pos (by omega)) (Ev.now _)))
theorem tdiv_small {a b : Int} (h0 : -4611686018427387904 ≤ a) (h1 : a ≤ 4611686018427387904) : -4611686018427387904 ≤ Int.tdiv a b ∧ Int.tdiv a b ≤ 4611686018427387904 := by
  have := Int.natAbs_tdiv_le_natAbs a b
  omega
theorem floorS_is {a b : Int} (hb : b ≠ 0) (h0 : -4611686018427387904 ≤ a) (h1 : a ≤ 4611686018427387904) : spec_l04Floor.f a b = some (a.fdiv b) := by
  have hs := tdiv_small (b := b) h0 h1
  have hf := Int.fdiv_eq_tdiv (a := a) (b := b)
  unfold spec_l04Floor.f
  rw [if_neg hb]
  by_cases c : Int.tmod a b = 0
  · have hd : b ∣ a := Int.dvd_of_tmod_eq_zero c
    rw [if_pos hd] at hf
    rw [if_pos c, wrap64_id (by omega) (by omega)]; congr 1; omega
  · have hd : ¬ b ∣ a := fun h => c (Int.tmod_eq_zero_of_dvd h)
    rw [if_neg hd] at hf
    rw [if_neg c]
    have ha : a ≠ 0 := fun h => hd (h ▸ Int.dvd_zero b)
    rcases Int.lt_trichotomy b 0 with hb2 | hb2 | hb2
    · have sg : b.sign = -1 := Int.sign_eq_neg_one_of_neg hb2
      rw [if_neg (show ¬ 0 ≤ b by omega), if_neg (show ¬ 0 ≤ b by omega), sg] at hf
      by_cases c2 : a < 0
      · rw [if_neg (by omega)] at hf
        rw [if_neg (by simp [c2, hb2]), wrap64_id (by omega) (by omega)]; congr 1; omega
      · rw [if_pos (by omega)] at hf
        rw [if_pos (by simp [c2, hb2]), wrap64_id (n := Int.tdiv a b) (by omega) (by omega), wrap64_id (by omega) (by omega)]; congr 1; omega
    · exact absurd hb2 hb
    · have sg : b.sign = 1 := Int.sign_eq_one_of_pos hb2
      rw [if_pos (show 0 ≤ b by omega), if_pos (show 0 ≤ b by omega), sg] at hf
      by_cases c2 : a < 0
      · rw [if_neg (by omega)] at hf
        rw [if_pos (by simp [c2]; omega), wrap64_id (n := Int.tdiv a b) (by omega) (by omega), wrap64_id (by omega) (by omega)]; congr 1; omega
      · rw [if_pos (by omega)] at hf
        rw [if_neg (by simp [c2]; omega), wrap64_id (by omega) (by omega)]; congr 1; omega
theorem floorI_is {a b : Int} (hb : b ≠ 0) (h0 : -4611686018427387904 ≤ a) (h1 : a ≤ 4611686018427387904) : impl_floor.f a b = some (a.fdiv b) := floorS_is hb h0 h1
def Sm (a : Int) : Prop := -4611686018427387904 ≤ a ∧ a ≤ 4611686018427387904
theorem u64_wrap (n : Int) : IntKind.u64.wrap n = n % 18446744073709551616 := by simp [IntKind.wrap, IntKind.bits, IntKind.signed]
theorem and32 (n : Int) (h0 : 0 ≤ n) (h1 : n < 18446744073709551616) : Go.bits .and .u64 n 4294967295 = n % 4294967296 :=
  bits_mask .u64 64 (by decide) (fun n h0 h1 => by rw [u64_wrap]; exact Int.emod_eq_of_lt h0 (by simpa using h1)) 32 (by decide) n h0 (by simpa using h1)
theorem mul64_small {x y : Int} (hx : 0 ≤ x ∧ x ≤ 9223372036854775808) (hy : 0 ≤ y ∧ y ≤ 9223372036854775808) : ∃ h l, bits_Mul64.f x y = some (h, l) ∧ (h = 0 → l = x * y) ∧ (h ≠ 0 → 18446744073709551616 ≤ x * y) := by
  unfold bits_Mul64.f
  rw [and32 y (by omega) (by omega), and32 x (by omega) (by omega)]
  have hx1 : x = x / 4294967296 * 4294967296 + x % 4294967296 := by omega
  have hy1 : y = y / 4294967296 * 4294967296 + y % 4294967296 := by omega
  have bx : 0 ≤ x / 4294967296 ∧ x / 4294967296 ≤ 2147483648 := by omega
  have by_ : 0 ≤ y / 4294967296 ∧ y / 4294967296 ≤ 2147483648 := by omega
  have bx0 : 0 ≤ x % 4294967296 ∧ x % 4294967296 ≤ 4294967295 := by omega
  have by0 : 0 ≤ y % 4294967296 ∧ y % 4294967296 ≤ 4294967295 := by omega
  have prod : x * y = (x / 4294967296) * (y / 4294967296) * 18446744073709551616 + ((x / 4294967296) * (y % 4294967296) + (x % 4294967296) * (y / 4294967296)) * 4294967296 + (x % 4294967296) * (y % 4294967296) := by
    conv => lhs; rw [hx1, hy1]
    grind
  have mb : ∀ {a b A B : Int}, 0 ≤ a → a ≤ A → 0 ≤ b → b ≤ B → 0 ≤ a * b ∧ a * b ≤ A * B := fun h0 h1 h2 h3 => ⟨Int.mul_nonneg h0 h2, Int.mul_le_mul h1 h3 h2 (by omega)⟩
  have p1 := mb bx.1 bx.2 by_.1 by_.2
  have p2 := mb bx.1 bx.2 by0.1 by0.2
  have p3 := mb bx0.1 bx0.2 by_.1 by_.2
  have p4 := mb bx0.1 bx0.2 by0.1 by0.2
  generalize hP : x * y = P at *
  generalize (x / 4294967296) * (y / 4294967296) = a at *
  generalize (x / 4294967296) * (y % 4294967296) = b at *
  generalize (x % 4294967296) * (y / 4294967296) = c at *
  generalize (x % 4294967296) * (y % 4294967296) = d at *
  simp only [u64_wrap]
  have e1 : a % 18446744073709551616 = a := by omega
  have e2 : b % 18446744073709551616 = b := by omega
  have e3 : c % 18446744073709551616 = c := by omega
  have e4 : d % 18446744073709551616 = d := by omega
  rw [e1, e2, e3, e4]
  have e5 : (b + d / 4294967296) % 18446744073709551616 = b + d / 4294967296 := by omega
  rw [e5, and32 _ (by omega) (by omega)]
  have e6 : (a + (b + d / 4294967296) / 4294967296) % 18446744073709551616 = a + (b + d / 4294967296) / 4294967296 := by omega
  have e7 : ((b + d / 4294967296) % 4294967296 + c) % 18446744073709551616 = (b + d / 4294967296) % 4294967296 + c := by omega
  rw [e6, e7]
  refine ⟨_, _, rfl, ?_, ?_⟩ <;> omega
def Ce (a : Int) : Prop := -1000000000000000 ≤ a ∧ a ≤ 1000000000000000
def cellR (a b c : Int) : Int × Bool := if -2000000000000000 ≤ a * b ∧ a * b ≤ 2000000000000000 then (a * b + c, decide (-1000000000000000 ≤ a * b + c ∧ a * b + c ≤ 1000000000000000)) else (0, false)
theorem natAbs_prod (a b : Int) : ((a.natAbs : Int) * (b.natAbs : Int) ≤ 2000000000000000) ↔ (-2000000000000000 ≤ a * b ∧ a * b ≤ 2000000000000000) := by
  have h : (a.natAbs : Int) * (b.natAbs : Int) = ((a * b).natAbs : Int) := by rw [Int.natAbs_mul]; exact (Int.natCast_mul _ _).symm
  rw [h]; omega
theorem cellS_is {ok : Bool} {a b c : Int} (ha : Sm a) (hb : Sm b) (hc : Ce c) : specC ok a b c = some ((cellR a b c).1, ok && (cellR a b c).2) := by
  unfold specC spec_l04Cell.f cellR
  unfold Sm at ha hb; unfold Ce at hc
  by_cases b0 : b = 0
  · subst b0
    rw [if_pos rfl, if_pos (by simp)]
    simp only [Int.mul_zero, Int.zero_add]
    rw [show wrap64 0 = 0 by decide +kernel, Int.zero_add, wrap64_id (by omega) (by omega), size_is (by omega) (by omega)]
    simp only [Option.bind_some]
    congr 3
    rw [Bool.eq_iff_iff]; simp; omega
  · rw [if_neg b0, size_is (a := a) (by omega) (by omega), size_is (a := b) (by omega) (by omega)]
    simp only [Option.bind_some]
    rw [if_neg (by omega)]
    have hd : (2000000000000000 : Int) / (b.natAbs : Int) ≤ 2000000000000000 := Int.ediv_le_self _ (by omega)
    have hd0 : 0 ≤ (2000000000000000 : Int) / (b.natAbs : Int) := Int.ediv_nonneg (by omega) (by omega)
    have ht : Int.tdiv 2000000000000000 (b.natAbs : Int) = 2000000000000000 / (b.natAbs : Int) := Int.tdiv_eq_ediv_of_nonneg (by omega)
    rw [ht, wrap64_id (by omega) (by omega)]
    have hq : ((a.natAbs : Int) > 2000000000000000 / (b.natAbs : Int)) ↔ ¬ (-2000000000000000 ≤ a * b ∧ a * b ≤ 2000000000000000) := by
      rw [← natAbs_prod, gt_iff_lt, Int.ediv_lt_iff_lt_mul (by omega)]; omega
    by_cases z : -2000000000000000 ≤ a * b ∧ a * b ≤ 2000000000000000
    · rw [if_neg (fun h => hq.1 h z), if_pos z, wrap64_id (n := a * b) (by omega) (by omega), wrap64_id (n := a * b + c) (by omega) (by omega), size_is (by omega) (by omega)]
      simp only [Option.bind_some]
      congr 3
      rw [Bool.eq_iff_iff]; simp; omega
    · rw [if_pos (hq.2 z), if_neg z]; rfl
theorem cellI_is {ov : Bool} {a b c : Int} (ha : Sm a) (hb : Sm b) (hc : Ce c) : implC ov a b c = some ((cellR a b c).1, ov || !(cellR a b c).2) := by
  unfold implC cellR
  unfold Sm at ha hb; unfold Ce at hc
  rw [mx_abs (by omega) (by omega), mx_abs (by omega) (by omega), u64_wrap, u64_wrap, Int.emod_eq_of_lt (by omega) (by omega), Int.emod_eq_of_lt (by omega) (by omega)]
  obtain ⟨h, l, e, e1, e2⟩ := mul64_small (x := (a.natAbs : Int)) (y := (b.natAbs : Int)) (by omega) (by omega)
  have hp := natAbs_prod a b
  rw [e]
  simp only [Option.bind_some]
  by_cases h0 : h = 0
  · rw [if_pos h0, e1 h0]
    by_cases z : -2000000000000000 ≤ a * b ∧ a * b ≤ 2000000000000000
    · rw [if_neg (by have := hp.2 z; omega), if_pos z, wrap64_id (n := a * b) (by omega) (by omega), wrap64_id (n := a * b + c) (by omega) (by omega)]
      cases ov with
      | true => rw [if_pos rfl]; rfl
      | false =>
        rw [if_neg (by decide), within_some]
        simp only [Option.bind_some, Bool.false_or]
    · rw [if_pos (by have : ¬ (a.natAbs : Int) * (b.natAbs : Int) ≤ 2000000000000000 := fun w => z (hp.1 w); omega), if_neg z]; simp
  · rw [if_neg h0, if_neg (fun z => by have := hp.2 z; have := e2 h0; omega)]; simp
theorem cellR_comm (a b c : Int) : cellR a b c = cellR b a c := by unfold cellR; rw [Int.mul_comm]
theorem cellR_ok {a b c : Int} (h : (cellR a b c).2 = true) : (cellR a b c).1 = a * b + c ∧ Ce (a * b + c) := by
  unfold cellR at h ⊢
  split at h
  · rename_i z
    rw [if_pos z]
    exact ⟨rfl, by simpa [Ce] using h⟩
  · cases h
theorem fmod_sign (A : Int) {C : Int} : (0 < C → 0 ≤ A.fmod C ∧ A.fmod C < C) ∧ (C < 0 → C < A.fmod C ∧ A.fmod C ≤ 0) := by
  refine ⟨fun h => ⟨Int.fmod_nonneg_of_pos A h, Int.fmod_lt_of_pos A h⟩, fun h => ?_⟩
  have h1 := Int.fmod_nonneg_of_pos (-A) (b := -C) (by omega)
  have h2 := Int.fmod_lt_of_pos (-A) (b := -C) (by omega)
  rw [Int.neg_fmod_neg] at h1 h2
  omega
theorem fmod_half_pos {C x : Int} (h0 : 0 < x) (h1 : x < C) : 0 ≤ C.fmod x ∧ 2 * C.fmod x < C := by
  have e := Int.mul_fdiv_add_fmod C x
  have l := (fmod_sign C (C := x)).1 h0
  have q : 1 ≤ C.fdiv x := by
    rcases Int.lt_or_le (C.fdiv x) 1 with h | h
    · have : x * C.fdiv x ≤ x * 0 := Int.mul_le_mul_of_nonneg_left (by omega) (by omega)
      omega
    · exact h
  have : x * 1 ≤ x * C.fdiv x := Int.mul_le_mul_of_nonneg_left q (by omega)
  omega
theorem fmod_half {A C : Int} (hC : C ≠ 0) (hx : A.fmod C ≠ 0) : 2 * (C.fmod (A.fmod C)).natAbs < C.natAbs := by
  rcases Int.lt_or_le 0 C with h | h
  · have l := (fmod_sign A).1 h
    have := fmod_half_pos (C := C) (x := A.fmod C) (by omega) l.2
    omega
  · have l := (fmod_sign A (C := C)).2 (by omega)
    have := fmod_half_pos (C := -C) (x := -(A.fmod C)) (by omega) (by omega)
    rw [Int.neg_fmod_neg] at this
    omega
def Ev2 {α : Type} (f : Nat → Nat → Option α) (r : α) : Prop := ∃ N, ∀ k m, N ≤ k → N ≤ m → f k m = some r
structure XsOk (xs : List Int) : Prop where
  len : xs.length ≤ 40
  el : ∀ i : Int, -1000000000 ≤ rd xs i ∧ rd xs i ≤ 1000000000
theorem pot100 {A C : Int} (hC : Ce C) : C ≠ 0 → ∃ i j : Nat, C.natAbs < 2 ^ i ∧ (A.fmod C).natAbs < 2 ^ j ∧ i + j ≤ 100 := by
  intro h
  unfold Ce at hC
  have := fmod_sign A (C := C)
  refine ⟨50, 50, ?_, ?_, by omega⟩ <;> (rw [show (2 : Nat) ^ 50 = 1125899906842624 by decide]; omega)
theorem q_small {a c q : Int} (ha : Ce a) (h : q = a.fdiv c) : Sm (-q) ∧ wrap64 (-q) = -q := by
  have := Int.natAbs_fdiv_le_natAbs a c
  unfold Ce at ha; unfold Sm
  exact ⟨by omega, wrap64_id (by omega) (by omega)⟩
theorem Ce.sm {a : Int} (h : Ce a) : Sm a := by unfold Ce at h; unfold Sm; omega
-- single steps
def Ends (sS sI : PSt) : Prop :=
  (sS.ov = true ∧ sI.ov = false ∧ sI.ms = sS.ms ∧ sI.gs = sS.gs ∧ sS.gs.length ≤ 40 ∧ sS.ms.length ≤ 20000 ∧ ∀ z ∈ sS.gs, Sm z) ∨ (sI.ov = true ∧ (sS.ov = false ∨ (41 ≤ sS.gs.length ∧ ∀ z ∈ sS.gs, Sm z)))
theorem Ev2.ev {α : Type} {f : Nat → Nat → Option α} {r : α} (h : Ev2 f r) : Ev (fun k => f k k) r := by
  obtain ⟨N, hN⟩ := h
  exact ⟨N, fun k hk => hN k k hk hk⟩
theorem sm_word {gs : List Int} (h : ∀ z ∈ gs, Sm z) : ∀ j, j < gs.length → -9223372036854775808 ≤ gs.getD j 0 ∧ gs.getD j 0 ≤ 9223372036854775807 := by
  refine terms_w (fun z hz => ?_)
  have := h z hz
  unfold Sm at this
  omega
theorem xs_ok {xs : List Int} (h : termsOk xs = true) : XsOk xs := by
  obtain ⟨h1, h2, -⟩ := termsOk_is h
  refine ⟨h1.2, fun i => ?_⟩
  unfold rd
  by_cases c : i.toNat < xs.length
  · have := h2 _ c; exact ⟨this.1, this.2.1⟩
  · rw [List.getD_eq_getElem?_getD, List.getElem?_eq_none (by omega)]; simp
theorem big_bad {gs : List Int} (h : 41 ≤ gs.length) : termsOk gs = false := by
  unfold termsOk
  rw [decide_eq_false (by omega), Bool.false_and]
theorem ends_code {sS sI : PSt} (h : Ends sS sI) : ∃ c, Ev (fun k => spec_l04Work_end.f k sS.ms sS.gs sS.ov) c ∧ Ev (fun k => impl_mover_code.f k sI.ms sI.gs sI.ov) c ∧ (c = 0 → sI.ms = sS.ms ∧ sI.gs = sS.gs ∧ sS.gs.length ≤ 40 ∧ sS.ms.length ≤ 20000) := by
  rcases h with ⟨h1, h2, h3, h4, h5, h6, h7⟩ | ⟨h1, h2⟩
  · rw [h1, h2, h3, h4]
    by_cases z : (sS.gs.length : Int) = 0
    · refine ⟨4, Ev.congr (fun k => by unfold spec_l04Work_end.f; exact (if_pos rfl).trans (if_pos z)) (Ev.now _), ?_, fun h => absurd h (by decide)⟩
      refine Ev.congr (fun k => by unfold impl_mover_code.f; exact (if_neg (by simp)).trans (if_neg (by omega))) ?_
      exact Ev.step (fun k => by rw [impl_mover_code.j0]) (Ev.congr (fun k => (if_neg (by simp)).trans (if_pos z)) (Ev.now _))
    · have e1 := specTerms_ev sS.gs (sm_word h7)
      have e2 := implTerms_ev sS.gs
      cases t : termsOk sS.gs with
      | true =>
        rw [t] at e1 e2
        refine ⟨0, Ev.congr (fun k => by unfold spec_l04Work_end.f; exact (if_pos rfl).trans (if_neg z)) (Ev.bind e1 (Ev.congr (fun k => if_pos rfl) (Ev.now _))), ?_, fun _ => ⟨rfl, rfl, h5, h6⟩⟩
        refine Ev.congr (fun k => by unfold impl_mover_code.f; exact (if_neg (by simp)).trans (if_pos (by omega))) (Ev.bind e2 ?_)
        exact Ev.step (fun k => by rw [impl_mover_code.j0]) (Ev.congr (fun k => (if_neg (by simp)).trans (if_neg z)) (Ev.now _))
      | false =>
        rw [t] at e1 e2
        refine ⟨3, Ev.congr (fun k => by unfold spec_l04Work_end.f; exact (if_pos rfl).trans (if_neg z)) (Ev.bind e1 (Ev.congr (fun k => if_neg Bool.false_ne_true) (Ev.now _))), ?_, fun h => absurd h (by decide)⟩
        refine Ev.congr (fun k => by unfold impl_mover_code.f; exact (if_neg (by simp)).trans (if_pos (by omega))) (Ev.bind e2 ?_)
        exact Ev.step (fun k => by rw [impl_mover_code.j0]) (Ev.congr (fun k => if_pos (by simp)) (Ev.now _))
  · refine ⟨3, ?_, ?_, fun h => absurd h (by decide)⟩
    · rcases h2 with h2 | ⟨h2, h3⟩
      · rw [h2]
        exact Ev.congr (fun k => by unfold spec_l04Work_end.f; exact if_neg (by simp)) (Ev.now _)
      · cases o : sS.ov with
        | false => exact Ev.congr (fun k => by unfold spec_l04Work_end.f; exact if_neg (by simp)) (Ev.now _)
        | true =>
          have e1 := specTerms_ev sS.gs (sm_word h3)
          rw [big_bad h2] at e1
          exact Ev.congr (fun k => by unfold spec_l04Work_end.f; exact (if_pos rfl).trans (if_neg (by omega))) (Ev.bind e1 (Ev.congr (fun k => if_neg Bool.false_ne_true) (Ev.now _)))
    · rw [h1]
      refine Ev.congr (fun k => by unfold impl_mover_code.f; exact if_pos rfl) ?_
      exact Ev.step (fun k => by rw [impl_mover_code.j0]) (Ev.congr (fun k => if_pos rfl) (Ev.now _))
theorem in_ce {a : Int} (h : inP a = true) : Ce a := by
  unfold inP at h; have := of_decide_eq_true h; unfold Ce; omega
theorem and255 (n : Int) (h0 : 0 ≤ n) (h1 : n < 18446744073709551616) : Go.bits .and .u64 n 255 = n % 256 :=
  bits_mask .u64 64 (by decide) (fun n h0 h1 => by rw [u64_wrap]; exact Int.emod_eq_of_lt h0 (by simpa using h1)) 8 (by decide) n h0 (by simpa using h1)
theorem byte_at {s : List Int} (hs : ∀ z ∈ s, 0 ≤ z ∧ z ≤ 255) (i : Int) : 0 ≤ rd s i ∧ rd s i ≤ 255 := by
  unfold rd
  rw [List.getD_eq_getElem?_getD]
  rcases Nat.lt_or_ge i.toNat s.length with h | h
  · rw [List.getElem?_eq_getElem h]; exact hs _ (List.getElem_mem h)
  · rw [List.getElem?_eq_none h]; simp
theorem next_is (s : List Int) (hs : ∀ z ∈ s, 0 ≤ z ∧ z ≤ 255) (i : Int) (h0 : 0 ≤ i) (h1 : i ≤ 1000000000) (sd : Int) : ∃ x sd', spec_l00Src_next.f s i sd = some (x, i + 1, sd') ∧ 0 ≤ x ∧ x ≤ 255 := by
  have hb := byte_at hs i
  have ew : wrap64 (i + 1) = i + 1 := wrap64_id (by omega) (by omega)
  unfold spec_l00Src_next.f
  rw [ew]
  by_cases c : i < (s.length : Int)
  · rw [if_pos c, if_pos h0, if_pos (by omega)]
    exact ⟨_, _, rfl, by rw [wrap64_id (by omega) (by omega)]; omega⟩
  · rw [if_neg c, if_neg (by omega)]
    refine ⟨_, _, rfl, ?_⟩
    generalize IntKind.u64.wrap (sd * 6364136223846793005) = A
    rw [u64_wrap (IntKind.u64.wrap _ + 1442695040888963407)]
    generalize IntKind.u64.wrap _ + 1442695040888963407 = B
    have b0 : 0 ≤ B % 18446744073709551616 ∧ B % 18446744073709551616 < 18446744073709551616 := by omega
    rw [and255 _ (by omega) (by omega), wrap64_id (by omega) (by omega)]
    omega
theorem pick_is (s : List Int) (hs : ∀ z ∈ s, 0 ≤ z ∧ z ≤ 255) (i : Int) (h0 : 0 ≤ i) (h1 : i ≤ 1000000000) (sd n : Int) (hn : 2 ≤ n ∧ n ≤ 200) : ∃ x i' sd', spec_l00Src_pick.f s i sd n = some (x, i', sd') ∧ 0 ≤ x ∧ x < n ∧ 0 ≤ i' ∧ i' ≤ i + 1 := by
  obtain ⟨x, sd', hx, hx0, _⟩ := next_is s hs i h0 h1 sd
  unfold spec_l00Src_pick.f
  rw [if_neg (by omega), hx]
  simp only [Option.bind_some]
  rw [if_neg (by omega), if_neg (by omega)]
  refine ⟨_, _, _, rfl, ?_, ?_, by omega, by omega⟩
  · exact Int.tmod_nonneg _ hx0
  · exact Int.tmod_lt_of_pos _ (by omega)
/-- Terms as they are drawn: few and small. -/
def Drawn (xs : List Int) : Prop := ∃ a l, xs = a :: l ∧ l.length ≤ 5 ∧ (-4 ≤ a ∧ a ≤ 4) ∧ (∀ z ∈ l, 1 ≤ z ∧ z ≤ 5) ∧ TailOk l
theorem drawn_end (a : Int) (ha : -4 ≤ a ∧ a ≤ 4) (l : List Int) (hl : l.length ≤ 5) (hz : ∀ z ∈ l, 1 ≤ z ∧ z ≤ 5) (s : List Int) (i sd : Int) : ∃ xs, Drawn xs ∧ ∀ k, spec_l04Drawn.l0 (k + 1) (a :: l) 0 s i sd = some (xs, i, sd) := by
  rcases List.eq_nil_or_concat l with rfl | ⟨l', z, rfl⟩
  · refine ⟨[a], ⟨a, [], rfl, by simp, ha, by simp, trivial⟩, fun k => ?_⟩
    rw [spec_l04Drawn.l0, if_neg (by omega), if_neg (by simp)]
  · simp only [List.concat_eq_append] at *
    have hlen : (a :: (l' ++ [z])).length = l'.length + 2 := by simp
    have e1 : wrap64 (((a :: (l' ++ [z])).length : Int) - 1) = ((l'.length + 1 : Nat) : Int) := by
      rw [hlen, wrap64_id (by simp at hl; omega) (by simp at hl; omega)]; omega
    have e2 : rd (a :: (l' ++ [z])) ((l'.length + 1 : Nat) : Int) = z := by
      rw [rd_nat]; simp [List.getD_eq_getElem?_getD]
    have hz2 := hz z (by simp)
    by_cases c : z = 1
    · refine ⟨a :: (l' ++ [2]), ⟨a, l' ++ [2], rfl, by simpa using hl, ha, ?_, tailOk_of ?_ ?_⟩, fun k => ?_⟩
      · intro y hy
        rcases List.mem_append.1 hy with h | h
        · exact hz y (by simp [h])
        · rw [List.mem_singleton.1 h]; omega
      · intro y hy
        rcases List.mem_append.1 hy with h | h
        · exact (hz y (by simp [h])).1
        · rw [List.mem_singleton.1 h]; omega
      · intro h; simp
      · rw [spec_l04Drawn.l0, if_neg (by omega), e1, if_pos (by omega), if_pos (by omega), if_pos (by omega), e2, if_pos c]
        have e3 : (a :: (l' ++ [z])).set (((l'.length + 1 : Nat) : Int)).toNat 2 = a :: (l' ++ [2]) := by
          rw [show (((l'.length + 1 : Nat) : Int)).toNat = l'.length + 1 from rfl]
          simp [List.set_cons_succ]
        rw [e3]
    · refine ⟨a :: (l' ++ [z]), ⟨a, l' ++ [z], rfl, hl, ha, hz, tailOk_of (fun y hy => (hz y hy).1) (fun h => by simp; omega)⟩, fun k => ?_⟩
      rw [spec_l04Drawn.l0, if_neg (by omega), e1, if_pos (by omega), if_pos (by omega), if_pos (by omega), e2, if_neg c]
theorem drawn_loop (s : List Int) (hs : ∀ z ∈ s, 0 ≤ z ∧ z ≤ 255) (a : Int) (ha : -4 ≤ a ∧ a ≤ 4) (d : Nat) : ∀ (l : List Int) (i sd : Int), l.length + d ≤ 5 → (∀ z ∈ l, 1 ≤ z ∧ z ≤ 5) → 0 ≤ i → i + d ≤ 1000 → ∃ xs i' sd', Drawn xs ∧ Ev (fun k => spec_l04Drawn.l0 k (a :: l) (d : Int) s i sd) (xs, i', sd') := by
  induction d with
  | zero =>
    intro l i sd hl hz h0 h1
    obtain ⟨xs, hd, hx⟩ := drawn_end a ha l (by omega) hz s i sd
    exact ⟨xs, i, sd, hd, Ev.step (f := fun _ => some (xs, i, sd)) hx (Ev.now _)⟩
  | succ d ih =>
    intro l i sd hl hz h0 h1
    obtain ⟨x, i2, sd2, hp, hx0, hx1, hi0, hi1⟩ := pick_is s hs i h0 (by omega) sd 5 (by omega)
    obtain ⟨xs, i', sd', hd, he⟩ := ih (l ++ [1 + x]) i2 sd2 (by simp; omega) (by
      intro z h
      rcases List.mem_append.1 h with h | h
      · exact hz z h
      · rw [List.mem_singleton.1 h]; omega) hi0 (by omega)
    refine ⟨xs, i', sd', hd, Ev.step (fun k => by rw [spec_l04Drawn.l0]) (Ev.congr (fun k => if_pos (by omega)) ?_)⟩
    rw [hp]
    simp only [Option.bind_some]
    rw [wrap64_id (n := 1 + x) (by omega) (by omega), show wrap64 (((d + 1 : Nat) : Int) - 1) = (d : Int) by rw [wrap64_id (by omega) (by omega)]; omega]
    exact Ev.congr (fun k => if_pos (by simp; omega)) he
theorem a2terms_ev (s : List Int) (hs : ∀ z ∈ s, 0 ≤ z ∧ z ≤ 255) : ∃ xs, Drawn xs ∧ Ev (fun k => spec_A2Terms.f k s) xs := by
  obtain ⟨x, i1, sd1, hp, hx0, hx1, hi0, hi1⟩ := pick_is s hs 0 (by omega) (by omega) 0 9 (by omega)
  obtain ⟨y, i2, sd2, hq, hy0, hy1, hj0, hj1⟩ := pick_is s hs i1 hi0 (by omega) sd1 6 (by omega)
  obtain ⟨d, rfl⟩ : ∃ d : Nat, y = (d : Int) := ⟨y.toNat, by omega⟩
  obtain ⟨xs, i', sd', hd, he⟩ := drawn_loop s hs (x - 4) (by omega) d [] i2 sd2 (by simp; omega) (by simp) hj0 (by omega)
  refine ⟨xs, hd, Ev.congr (fun k => by unfold spec_A2Terms.f spec_l00From.f; rfl) ?_⟩
  simp only [Option.bind_some]
  refine Ev.bind (a := (xs, i', sd')) ?_ (Ev.now _)
  have e : ∀ k, spec_l04Drawn.f k s 0 0 6 = spec_l04Drawn.l0 k [x - 4] (d : Int) s i2 sd2 := fun k => by
    unfold spec_l04Drawn.f
    rw [hp, Option.bind_some]
    simp only
    rw [hq, Option.bind_some, wrap64_id (by omega) (by omega)]
  exact Ev.congr e he
theorem cf_small : ∀ l : List Int, (∀ z ∈ l, 1 ≤ z ∧ z ≤ 5) → (cf l).1 ≤ 6 ^ l.length
  | [], _ => by simp [cf]
  | a :: l, h => by
    have ih := cf_small l (fun z hz => h z (List.mem_cons_of_mem _ hz))
    have hu := cf_up l (fun z hz => (h z (List.mem_cons_of_mem _ hz)).1)
    have ha := h a (List.mem_cons_self ..)
    have h1 : a * (cf l).1 ≤ 5 * (cf l).1 := Int.mul_le_mul_of_nonneg_right ha.2 (by omega)
    rw [List.length_cons, Int.pow_succ]
    show a * (cf l).1 + (cf l).2 ≤ _
    omega
theorem cf_five (l : List Int) (hl : l.length ≤ 5) (h : ∀ z ∈ l, 1 ≤ z ∧ z ≤ 5) : 1 ≤ (cf l).1 ∧ (cf l).1 ≤ 7776 ∧ 0 ≤ (cf l).2 ∧ (cf l).2 ≤ (cf l).1 := by
  have h1 := cf_small l h
  have h2 := cf_up l (fun z hz => (h z hz).1)
  have h3 : (6 : Int) ^ l.length ≤ 7776 := by
    have : ∀ n : Nat, n ≤ 5 → (6 : Int) ^ n ≤ 7776 := by intro n hn; match n, hn with | 0, _ => decide | 1, _ => decide | 2, _ => decide | 3, _ => decide | 4, _ => decide | 5, _ => decide
    exact this _ hl
  omega
theorem cf_six (a : Int) (l : List Int) (ha : -4 ≤ a ∧ a ≤ 4) (hl : l.length ≤ 5) (h : ∀ z ∈ l, 1 ≤ z ∧ z ≤ 5) : (-40000 ≤ (cf (a :: l)).1 ∧ (cf (a :: l)).1 ≤ 40000) ∧ 1 ≤ (cf (a :: l)).2 ∧ (cf (a :: l)).2 ≤ 7776 := by
  have h1 := cf_five l hl h
  have h2 : a * (cf l).1 ≤ 4 * (cf l).1 := Int.mul_le_mul_of_nonneg_right ha.2 (by omega)
  have h3 : -4 * (cf l).1 ≤ a * (cf l).1 := Int.mul_le_mul_of_nonneg_right ha.1 (by omega)
  have e1 : (cf (a :: l)).1 = a * (cf l).1 + (cf l).2 := rfl
  have e2 : (cf (a :: l)).2 = (cf l).1 := rfl
  omega
theorem drawn_ok {xs : List Int} (h : Drawn xs) : termsOk xs = true := by
  obtain ⟨a, l, rfl, hl, ha, hz, ht⟩ := h
  refine termsOk_of (by simp; omega) ?_ ?_
  · intro j hj
    cases j with
    | zero => simp [List.getD_eq_getElem?_getD]; omega
    | succ j =>
      have hj2 : j < l.length := by simpa using hj
      have := hz l[j] (List.getElem_mem hj2)
      simp [List.getD_eq_getElem?_getD, hj2]; omega
  · rcases List.eq_nil_or_concat l with rfl | ⟨l', z, rfl⟩
    · simp
    · right
      simp only [List.concat_eq_append] at *
      have hz2 : ∀ {m : List Int} {z : Int}, TailOk (m ++ [z]) → 2 ≤ z := by
        intro m z h
        induction m with
        | nil => exact h
        | cons y m ih => exact ih (tailOk_tl h)
      have := hz2 ht
      simpa [List.getD_eq_getElem?_getD] using this
theorem drawn_ratio {xs : List Int} (h : Drawn xs) : (-40000 ≤ (cf xs).1 ∧ (cf xs).1 ≤ 40000) ∧ (1 ≤ (cf xs).2 ∧ (cf xs).2 ≤ 7776) ∧ ratioOk (cf xs).1 (cf xs).2 = true ∧ HdOk xs := by
  obtain ⟨a, l, rfl, hl, ha, hz, ht⟩ := h
  have h1 := cf_six a l ha hl hz
  refine ⟨h1.1, h1.2, ?_, ht⟩
  unfold ratioOk
  rw [cf_gcd]
  simp
  omega
theorem drawn_take {xs : List Int} (h : Drawn xs) (i : Nat) : (-40000 ≤ (cf (xs.take (i + 1))).1 ∧ (cf (xs.take (i + 1))).1 ≤ 40000) ∧ (1 ≤ (cf (xs.take (i + 1))).2 ∧ (cf (xs.take (i + 1))).2 ≤ 7776) ∧ ratioOk (cf (xs.take (i + 1))).1 (cf (xs.take (i + 1))).2 = true := by
  obtain ⟨a, l, rfl, hl, ha, hz, ht⟩ := h
  rw [List.take_succ_cons]
  have h1 := cf_six a (l.take i) ha (by rw [List.length_take]; omega) (fun z h => hz z (List.mem_of_mem_take h))
  refine ⟨h1.1, h1.2, ?_⟩
  unfold ratioOk
  rw [cf_gcd]
  simp
  omega
/-- On which side a beginning of the terms lies. -/
theorem cf_cross : ∀ (i : Nat) (l : List Int), (cf (l.take i)).1 * (cf l).2 - (cf l).1 * (cf (l.take i)).2 = (if i % 2 = 0 then 1 else -1) * (cf (l.drop i)).2
  | 0, l => by simp [cf]
  | i + 1, [] => by simp [cf]
  | i + 1, a :: l => by
    have ih := cf_cross i l
    rw [List.take_succ_cons, List.drop_succ_cons]
    simp only [cf]
    have key : (a * (cf (l.take i)).1 + (cf (l.take i)).2) * (cf l).1 - (a * (cf l).1 + (cf l).2) * (cf (l.take i)).1 = -((cf (l.take i)).1 * (cf l).2 - (cf l).1 * (cf (l.take i)).2) := by grind
    rw [key, ih]
    by_cases c : i % 2 = 0
    · rw [if_pos c, if_neg (by omega)]; omega
    · rw [if_neg c, if_pos (by omega)]; omega
/-! ### what terms make of the value behind them -/
def gapp : List Int → Int × Int → Int × Int
  | [], v => v
  | q :: l, v => (q * (gapp l v).1 + (gapp l v).2, (gapp l v).1)
theorem gapp_app : ∀ (l : List Int) (q x y : Int), gapp (l ++ [q]) (x, y) = gapp l (q * x + y, x)
  | [], q, x, y => rfl
  | a :: l, q, x, y => by
    rw [List.cons_append]
    simp only [gapp]
    rw [gapp_app l q x y]
theorem gapp_cf : ∀ (l : List Int) (a : Int), gapp l (a, 0) = (a * (cf l).1, a * (cf l).2)
  | [], a => by simp [gapp, cf]
  | q :: l, a => by
    simp only [gapp, cf, gapp_cf l a]
    refine Prod.ext ?_ ?_ <;> simp only <;> grind
/-- The parts of the beginnings of terms. -/
theorem cf_take_le : ∀ (l : List Int), (∀ z ∈ l, 1 ≤ z) → ∀ i, 0 ≤ (cf (l.take i)).2 ∧ (cf (l.take i)).1 ≤ (cf l).1 ∧ (i ≠ 0 → (cf (l.take i)).2 ≤ (cf l).2)
  | [], _, i => by simp [cf]
  | a :: l, h, 0 => by
    have := cf_up (a :: l) h
    simp only [List.take_zero]
    exact ⟨by simp [cf], by simp only [cf]; have := this.1; simp only [cf] at this; omega, fun z => absurd rfl z⟩
  | a :: l, h, i + 1 => by
    have hl : ∀ z ∈ l, 1 ≤ z := fun z hz => h z (List.mem_cons_of_mem _ hz)
    have ih := cf_take_le l hl i
    have hu := cf_up l hl
    have hu2 := cf_up (l.take i) (fun z hz => hl z (List.mem_of_mem_take hz))
    have ha := h a List.mem_cons_self
    rw [List.take_succ_cons]
    simp only [cf]
    refine ⟨by omega, ?_, fun _ => ih.2.1⟩
    by_cases z : i = 0
    · subst z
      simp only [List.take_zero, cf]
      have h1 : a * 1 ≤ a * (cf l).1 := Int.mul_le_mul_of_nonneg_left hu.1 (by omega)
      omega
    · have h1 : a * (cf (l.take i)).1 ≤ a * (cf l).1 := Int.mul_le_mul_of_nonneg_left ih.2.1 (by omega)
      have := ih.2.2 z
      omega
theorem cf_drop_snd (l : List Int) (h : ∀ z ∈ l, 1 ≤ z) (i : Nat) : 0 ≤ (cf (l.drop i)).2 ∧ (cf (l.drop i)).2 ≤ (cf l).1 := by
  have h1 := cf_up (l.drop i) (fun z hz => h z (List.mem_of_mem_drop hz))
  have h2 := cf_drop l h i
  omega
/-- The parts of the beginnings of terms whose value has small parts. -/
theorem cf_begin (a : Int) (l : List Int) (h : ∀ z ∈ l, 1 ≤ z) (i : Nat) : (cf ((a :: l).take (i + 1))).2 ≤ (cf (a :: l)).2 ∧ 1 ≤ (cf ((a :: l).take (i + 1))).2 ∧ (((cf ((a :: l).take (i + 1))).1.natAbs : Nat) : Int) ≤ ((cf (a :: l)).1.natAbs : Int) + (cf (a :: l)).2 := by
  have hc := cf_cross (i + 1) (a :: l)
  have hd := cf_drop_snd l h i
  have ht := cf_take_le l h i
  have hu := cf_up l h
  have hu2 := cf_up (l.take i) (fun z hz => h z (List.mem_of_mem_take hz))
  have e1 : (cf (a :: l)).2 = (cf l).1 := rfl
  have e2 : (cf ((a :: l).take (i + 1))).2 = (cf (l.take i)).1 := by rw [List.take_succ_cons]; rfl
  rw [List.drop_succ_cons] at hc
  rw [e1, e2] at hc
  rw [e1, e2]
  clear e1 e2
  refine ⟨ht.2.1, hu2.1, ?_⟩
  generalize (cf ((a :: l).take (i + 1))).1 = p at *
  generalize (cf (a :: l)).1 = P at *
  generalize (cf l).1 = Q at *
  generalize (cf (l.take i)).1 = q at *
  generalize (cf (l.drop i)).2 = t at *
  have hs : p * Q = P * q + t ∨ p * Q = P * q - t := by
    by_cases c : (i + 1) % 2 = 0
    · rw [if_pos c, Int.one_mul] at hc; left; omega
    · rw [if_neg c, Int.neg_mul, Int.one_mul] at hc; right; omega
  have hQ : 0 < Q := by omega
  have hPq : (P.natAbs : Int) * q ≤ (P.natAbs : Int) * Q := Int.mul_le_mul_of_nonneg_left ht.2.1 (by omega)
  have habs : ((p * Q).natAbs : Int) ≤ (P.natAbs : Int) * q + t := by
    have e : ((P * q).natAbs : Int) = (P.natAbs : Int) * q := by
      rw [Int.natAbs_mul]; push_cast; congr 1; omega
    rcases hs with h | h <;> omega
  have e3 : ((p * Q).natAbs : Int) = (p.natAbs : Int) * Q := by
    rw [Int.natAbs_mul]; push_cast; congr 1; omega
  rw [e3] at habs
  have h5 : (p.natAbs : Int) * Q ≤ ((P.natAbs : Int) + 1) * Q := by
    rw [Int.add_mul]; omega
  have h6 := Int.le_of_mul_le_mul_right h5 hQ
  omega
theorem ev_uniq {α : Type} {f : Nat → Option α} {r s : α} (h : Ev f r) (g : Ev f s) : r = s := by
  obtain ⟨n, h⟩ := h
  obtain ⟨m, g⟩ := g
  exact Option.some.inj ((h (max n m) (Nat.le_max_left ..)).symm.trans (g (max n m) (Nat.le_max_right ..)))
/-- What the reference makes of two numbers. -/
def makeR (n d e : Int) : Int × Int × Int := if ratioOk (Int.tdiv n e) (Int.tdiv d e) = true then (Int.tdiv n e, Int.tdiv d e, 0) else (0, 0, 3)
def signG (n d : Int) : Int := if d < 0 then -(Int.gcd n d : Int) else (Int.gcd n d : Int)
theorem tdiv_le {a b : Int} (h : -4611686018427387904 ≤ a ∧ a ≤ 4611686018427387904) : -4611686018427387904 ≤ Int.tdiv a b ∧ Int.tdiv a b ≤ 4611686018427387904 := by
  have h1 := Int.natAbs_tdiv_le_natAbs a b
  omega
theorem specMake_any {n d : Int} (hn : -4611686018427387904 ≤ n ∧ n ≤ 4611686018427387904) (hd : -4611686018427387904 ≤ d ∧ d ≤ 4611686018427387904) (h0 : d ≠ 0) : Ev (fun k => spec_l03Make.f k n d) (makeR n d (signG n d)) := by
  have hg : 0 < Int.gcd n d := Int.gcd_pos_of_ne_zero_right _ h0
  have hg2 : (Int.gcd n d : Int) ≤ 4611686018427387904 := by
    have := Int.gcd_dvd_right (a := n) (b := d)
    have := Int.natAbs_dvd_natAbs.2 this
    have := Nat.le_of_dvd (by omega) this
    omega
  refine Ev.congr (fun k => by unfold spec_l03Make.f; rfl) (Ev.bind (specGcd_ev (by omega) (by omega)) ?_)
  unfold signG
  by_cases c : d < 0
  · rw [if_pos c]
    have e : wrap64 (-(Int.gcd n d : Int)) = -(Int.gcd n d : Int) := wrap64_id (by omega) (by omega)
    have t1 := tdiv_le (b := -(Int.gcd n d : Int)) hn
    have t2 := tdiv_le (b := -(Int.gcd n d : Int)) hd
    refine Ev.congr (fun k => if_pos c) ?_
    rw [e, wrap64_id (by omega) (by omega), wrap64_id (by omega) (by omega)]
    refine Ev.congr (fun k => if_neg (by omega)) (Ev.bind (specRatio_ev _ _) ?_)
    unfold makeR
    by_cases r : ratioOk (Int.tdiv n (-(Int.gcd n d : Int))) (Int.tdiv d (-(Int.gcd n d : Int))) = true
    · simp only [if_pos r]; exact Ev.now _
    · simp only [if_neg r]; exact Ev.now _
  · rw [if_neg c]
    have t1 := tdiv_le (b := (Int.gcd n d : Int)) hn
    have t2 := tdiv_le (b := (Int.gcd n d : Int)) hd
    refine Ev.congr (fun k => if_neg c) ?_
    rw [wrap64_id (by omega) (by omega), wrap64_id (by omega) (by omega)]
    refine Ev.congr (fun k => if_neg (by omega)) (Ev.bind (specRatio_ev _ _) ?_)
    unfold makeR
    by_cases r : ratioOk (Int.tdiv n (Int.gcd n d : Int)) (Int.tdiv d (Int.gcd n d : Int)) = true
    · simp only [if_pos r]; exact Ev.now _
    · simp only [if_neg r]; exact Ev.now _
/-- A ratio in its lowest terms, both parts times a number. -/
theorem makeR_times {p q a : Int} (hq : 1 ≤ q) (hg : Int.gcd p q = 1) (ha : a ≠ 0) : makeR (a * p) (a * q) (signG (a * p) (a * q)) = if ratioOk p q = true then (p, q, 0) else (0, 0, 3) := by
  have e : Int.gcd (a * p) (a * q) = a.natAbs := by rw [Int.gcd_mul_left, hg, Nat.mul_one]
  have hs : signG (a * p) (a * q) = a := by
    unfold signG
    rw [e]
    by_cases c : a < 0
    · have : a * q < 0 := Int.mul_neg_of_neg_of_pos c (by omega)
      rw [if_pos this]; omega
    · have : 0 < a * q := Int.mul_pos (by omega) (by omega)
      rw [if_neg (by omega)]; omega
  rw [hs]
  unfold makeR
  rw [Int.mul_tdiv_cancel_left _ ha, Int.mul_tdiv_cancel_left _ ha]
theorem same_loop (xs : List Int) (hn : xs.length ≤ 1000000) (d : Nat) : ∀ i : Nat, i + d = xs.length → Ev (fun k => spec_l00Same.l0 k xs xs (i : Int)) true := by
  induction d with
  | zero => intro i hi; exact Ev.step (fun k => by rw [spec_l00Same.l0]) (Ev.congr (fun k => if_neg (by omega)) (Ev.now _))
  | succ d ih =>
    intro i hi
    refine Ev.step (fun k => by rw [spec_l00Same.l0]) (Ev.congr (fun k => if_pos (by omega)) (Ev.congr (fun k => if_pos (by omega)) (Ev.congr (fun k => if_pos (by omega)) (Ev.congr (fun k => if_pos rfl) ?_))))
    rw [wrap64_id (by omega) (by omega)]
    exact ih (i + 1) (by omega)
theorem same_ev (xs : List Int) (hn : xs.length ≤ 1000000) : Ev (fun k => spec_A2Same.f k xs xs) true := by
  refine Ev.congr (fun k => by unfold spec_A2Same.f spec_l00Same.f; rfl) (Ev.bind (a := true) ?_ (Ev.now _))
  exact Ev.congr (fun k => if_pos rfl) (same_loop xs hn xs.length 0 (by omega))
theorem cf_snd_pos {gs : List Int} (h : termsOk gs = true) : 1 ≤ (cf gs).2 ∧ ∃ a l, gs = a :: l ∧ ∀ z ∈ l, 1 ≤ z := by
  obtain ⟨h1, h2, -⟩ := termsOk_is h
  match gs, h1, h2 with
  | a :: l, h1, h2 =>
    have hl : ∀ z ∈ l, 1 ≤ z := by
      intro z hz
      obtain ⟨j, hj, rfl⟩ := List.mem_iff_getElem.1 hz
      have := (h2 (j + 1) (by simpa using hj)).2.2 (by omega)
      simpa [List.getD_eq_getElem?_getD, hj] using this
    exact ⟨(cf_up l hl).1, a, l, rfl, hl⟩
/-! ### the common greatest integer of several quotients -/
/-- All divisors have one sign, all quotients one greatest integer. -/
def AlikeG (xs ys : List Int) : Prop := ∀ j, j < ys.length → ys.getD j 0 ≠ 0 ∧ (0 < ys.getD j 0 ↔ 0 < ys.getD 0 0) ∧ (xs.getD j 0).fdiv (ys.getD j 0) = (xs.getD 0 0).fdiv (ys.getD 0 0)
open Classical in
noncomputable def alikeG (xs ys : List Int) : Int × Bool := if AlikeG xs ys then ((xs.getD 0 0).fdiv (ys.getD 0 0), true) else (0, false)
section
variable {xs ys : List Int}
theorem alikeG_yes (h : AlikeG xs ys) : alikeG xs ys = ((xs.getD 0 0).fdiv (ys.getD 0 0), true) := by unfold alikeG; exact if_pos h
theorem alikeG_no (h : ¬ AlikeG xs ys) : alikeG xs ys = (0, false) := by unfold alikeG; exact if_neg h
theorem alikeS_l1 (hn : xs.length = ys.length) (hm : ys.length ≤ 1000) (hs : ∀ j, j < ys.length → Sm (xs.getD j 0)) (hz : ∀ j, j < ys.length → ys.getD j 0 ≠ 0 ∧ (0 < ys.getD j 0 ↔ 0 < ys.getD 0 0)) (d : Nat) : ∀ (i k : Nat), i + d = ys.length → d < k → (∀ j, j < i → (xs.getD j 0).fdiv (ys.getD j 0) = (xs.getD 0 0).fdiv (ys.getD 0 0)) → spec_l04Alike.l1 k xs ys ((xs.getD 0 0).fdiv (ys.getD 0 0)) (i : Int) = some (alikeG xs ys) := by
  induction d with
  | zero =>
    intro i k hd hk hj
    obtain ⟨k, rfl⟩ : ∃ m, k = m + 1 := ⟨k - 1, by omega⟩
    rw [spec_l04Alike.l1, if_neg (by omega), alikeG_yes (fun j h => ⟨(hz j h).1, (hz j h).2, hj j (by omega)⟩)]
  | succ d ih =>
    intro i k hd hk hj
    obtain ⟨k, rfl⟩ : ∃ m, k = m + 1 := ⟨k - 1, by omega⟩
    have hi : i < ys.length := by omega
    rw [spec_l04Alike.l1, if_pos (by omega), if_pos (by omega), if_pos (by omega), rd_nat, rd_nat, floorS_is (hz i hi).1 (hs i hi).1 (hs i hi).2, Option.bind_some]
    by_cases c : (xs.getD i 0).fdiv (ys.getD i 0) = (xs.getD 0 0).fdiv (ys.getD 0 0)
    · rw [if_pos c, wrap64_id (by omega) (by omega)]
      exact ih (i + 1) k (by omega) (by omega) (fun j h => by
        by_cases e : j = i
        · subst e; exact c
        · exact hj j (by omega))
    · rw [if_neg c, alikeG_no (fun h => c (h i hi).2.2)]
theorem alikeS_l0 (hn : xs.length = ys.length) (h0 : 0 < ys.length) (hm : ys.length ≤ 1000) (hs : ∀ j, j < ys.length → Sm (xs.getD j 0)) (d : Nat) : ∀ (i k : Nat), i + d = ys.length → d + ys.length + 1 < k → (∀ j, j < i → ys.getD j 0 ≠ 0 ∧ (0 < ys.getD j 0 ↔ 0 < ys.getD 0 0)) → spec_l04Alike.l0 k xs ys (i : Int) = some (alikeG xs ys) := by
  induction d with
  | zero =>
    intro i k hd hk hj
    obtain ⟨k, rfl⟩ : ∃ m, k = m + 1 := ⟨k - 1, by omega⟩
    have hz := fun j (h : j < ys.length) => hj j (by omega)
    rw [spec_l04Alike.l0, if_neg (by omega), if_pos (by omega), if_pos (by omega), show rd xs 0 = xs.getD 0 0 from rd_nat xs 0, show rd ys 0 = ys.getD 0 0 from rd_nat ys 0, floorS_is (hz 0 h0).1 (hs 0 h0).1 (hs 0 h0).2, Option.bind_some]
    exact alikeS_l1 hn hm hs hz (ys.length - 1) 1 k (by omega) (by omega) (fun j h => by
      have : j = 0 := by omega
      subst this; rfl)
  | succ d ih =>
    intro i k hd hk hj
    obtain ⟨k, rfl⟩ : ∃ m, k = m + 1 := ⟨k - 1, by omega⟩
    have hi : i < ys.length := by omega
    rw [spec_l04Alike.l0, if_pos (by omega), if_pos (by omega), rd_nat, show rd ys 0 = ys.getD 0 0 from rd_nat ys 0]
    by_cases z : ys.getD i 0 = 0
    · rw [if_pos z, alikeG_no (fun h => (h i hi).1 z)]
    rw [if_neg z, if_pos (by omega)]
    by_cases s : (0 < ys.getD i 0 ↔ 0 < ys.getD 0 0)
    · rw [if_neg (by simp only [gt_iff_lt, bne_iff_ne, ne_eq, decide_eq_decide, Classical.not_not]; exact s), wrap64_id (by omega) (by omega)]
      exact ih (i + 1) k (by omega) (by omega) (fun j h => by
        by_cases e : j = i
        · subst e; exact ⟨z, s⟩
        · exact hj j (by omega))
    · rw [if_pos (by simp only [gt_iff_lt, bne_iff_ne, ne_eq, decide_eq_decide]; exact s), alikeG_no (fun h => s (h i hi).2.1)]
theorem alikeS_g (hn : xs.length = ys.length) (h0 : 0 < ys.length) (hm : ys.length ≤ 1000) (hs : ∀ j, j < ys.length → Sm (xs.getD j 0)) : Ev (fun k => spec_l04Alike.f k xs ys) (alikeG xs ys) :=
  ⟨ys.length + ys.length + 2, fun k hk => by
    show spec_l04Alike.f k xs ys = _
    unfold spec_l04Alike.f
    exact alikeS_l0 hn h0 hm hs ys.length 0 k (by omega) (by omega) (fun j h => by omega)⟩
theorem givesI_l0 (hn : xs.length = ys.length) (h0 : 0 < ys.length) (hm : ys.length ≤ 1000) (hs : ∀ j, j < ys.length → Sm (xs.getD j 0)) (hz : ∀ j, j < ys.length → ys.getD j 0 ≠ 0) (d : Nat) : ∀ (i k : Nat), i + d = ys.length → d < k → (∀ j, j < i → (0 < ys.getD j 0 ↔ 0 < ys.getD 0 0) ∧ (xs.getD j 0).fdiv (ys.getD j 0) = (xs.getD 0 0).fdiv (ys.getD 0 0)) → impl_gives.l0 k xs ys ((xs.getD 0 0).fdiv (ys.getD 0 0)) (xs.length : Int) (i : Int) = some (alikeG xs ys) := by
  induction d with
  | zero =>
    intro i k hd hk hj
    obtain ⟨k, rfl⟩ : ∃ m, k = m + 1 := ⟨k - 1, by omega⟩
    rw [impl_gives.l0, if_neg (by omega), alikeG_yes (fun j h => ⟨hz j h, hj j (by omega)⟩)]
  | succ d ih =>
    intro i k hd hk hj
    obtain ⟨k, rfl⟩ : ∃ m, k = m + 1 := ⟨k - 1, by omega⟩
    have hi : i < ys.length := by omega
    have z1 := hz i hi; have z2 := hz 0 h0
    rw [impl_gives.l0, if_pos (by omega), if_pos (by omega), if_pos (by omega), if_pos (by omega), rd_nat, show rd ys 0 = ys.getD 0 0 from rd_nat ys 0]
    by_cases s : (0 < ys.getD i 0 ↔ 0 < ys.getD 0 0)
    · rw [if_neg (by simp only [bne_iff_ne, ne_eq, decide_eq_decide, Classical.not_not]; omega), if_pos (by omega), rd_nat, floorI_is z1 (hs i hi).1 (hs i hi).2, Option.bind_some]
      by_cases c : (xs.getD i 0).fdiv (ys.getD i 0) = (xs.getD 0 0).fdiv (ys.getD 0 0)
      · rw [if_pos c, wrap64_id (by omega) (by omega)]
        exact ih (i + 1) k (by omega) (by omega) (fun j h => by
          by_cases e : j = i
          · subst e; exact ⟨s, c⟩
          · exact hj j (by omega))
      · rw [if_neg c, alikeG_no (fun h => c (h i hi).2.2)]
    · rw [if_pos (by simp only [bne_iff_ne, ne_eq, decide_eq_decide]; omega), alikeG_no (fun h => s (h i hi).2.1)]
theorem index_loop (hm : ys.length ≤ 1000) (d : Nat) : ∀ (i k : Nat), i + d = ys.length → d < k → ∃ r : Int, slices_Index_int64_int64.l0 k ys 0 (ys.length : Int) (i : Int) = some r ∧ (0 ≤ r ↔ ∃ j, i ≤ j ∧ j < ys.length ∧ ys.getD j 0 = 0) := by
  induction d with
  | zero =>
    intro i k hd hk
    obtain ⟨k, rfl⟩ : ∃ m, k = m + 1 := ⟨k - 1, by omega⟩
    exact ⟨-1, by rw [slices_Index_int64_int64.l0, if_neg (by omega)], fun h => by omega, fun ⟨j, h1, h2, _⟩ => by omega⟩
  | succ d ih =>
    intro i k hd hk
    obtain ⟨k, rfl⟩ : ∃ m, k = m + 1 := ⟨k - 1, by omega⟩
    rw [slices_Index_int64_int64.l0, if_pos (by omega), if_pos (by omega), if_pos (by omega), rd_nat]
    by_cases z : 0 = ys.getD i 0
    · exact ⟨i, by rw [if_pos z], ⟨fun _ => ⟨i, by omega, by omega, z.symm⟩, fun _ => by omega⟩⟩
    · rw [if_neg z, wrap64_id (by omega) (by omega)]
      obtain ⟨r, e, h⟩ := ih (i + 1) k (by omega) (by omega)
      refine ⟨r, e, h.trans ⟨fun ⟨j, h1, h2, h3⟩ => ⟨j, by omega, h2, h3⟩, fun ⟨j, h1, h2, h3⟩ => ⟨j, ?_, h2, h3⟩⟩⟩
      rcases Nat.eq_or_lt_of_le h1 with rfl | h4
      · exact absurd h3.symm z
      · exact h4
theorem givesI_g (hn : xs.length = ys.length) (h0 : 0 < ys.length) (hm : ys.length ≤ 1000) (hs : ∀ j, j < ys.length → Sm (xs.getD j 0)) : Ev (fun k => impl_gives.f k xs ys) (alikeG xs ys) := by
  refine ⟨ys.length + 1, fun k hk => ?_⟩
  show impl_gives.f k xs ys = _
  obtain ⟨r, e, hr⟩ := index_loop hm ys.length 0 k (by omega) (by omega)
  unfold impl_gives.f slices_Contains_int64_int64.f slices_Index_int64_int64.f
  rw [show ((0 : Nat) : Int) = 0 from rfl] at e
  rw [e, Option.bind_some, Option.bind_some]
  by_cases z : ∃ j, 0 ≤ j ∧ j < ys.length ∧ ys.getD j 0 = 0
  · rw [if_pos (by simpa using hr.2 z)]
    obtain ⟨j, _, h2, h3⟩ := z
    rw [alikeG_no (fun h => (h j h2).1 h3)]
  · have hz : ∀ j, j < ys.length → ys.getD j 0 ≠ 0 := fun j h h2 => z ⟨j, by omega, h, h2⟩
    rw [if_neg (by simp only [decide_eq_true_eq]; exact fun h => z (hr.1 h)), if_pos (by omega), if_pos (by omega), show rd xs 0 = xs.getD 0 0 from rd_nat xs 0, show rd ys 0 = ys.getD 0 0 from rd_nat ys 0, floorI_is (hz 0 h0) (hs 0 h0).1 (hs 0 h0).2, Option.bind_some]
    exact givesI_l0 hn h0 hm hs hz ys.length 0 k (by omega) (by omega) (fun j h => by omega)
end
/-! ### the machines with eight numbers: what holds while they move -/
structure EInv (xs ys : List Int) (s : ESt) (p n : Nat) : Prop where
  c0 : Ce s.T0
  c1 : Ce s.T1
  c2 : Ce s.T2
  c3 : Ce s.T3
  d0 : Ce s.L0
  d1 : Ce s.L1
  d2 : Ce s.L2
  d3 : Ce s.L3
  i0 : 0 ≤ s.i
  i1 : s.i ≤ (xs.length : Int) + 1
  j0 : 0 ≤ s.j
  j1 : s.j ≤ (ys.length : Int) + 1
  ex : s.i = (xs.length : Int) + 1 → (s.T0 = s.T2 ∧ s.T1 = s.T3) ∧ s.L0 = s.L2 ∧ s.L1 = s.L3
  ey : s.j = (ys.length : Int) + 1 → (s.T0 = s.T1 ∧ s.T2 = s.T3) ∧ s.L0 = s.L1 ∧ s.L2 = s.L3
  pot : s.L0 ≠ 0 → ∃ a b : Nat, s.L0.natAbs < 2 ^ a ∧ (s.T0.fmod s.L0).natAbs < 2 ^ b ∧ a + b ≤ p
  pb : p ≤ 100
  nn : n = (((xs.length : Int) + 1 - s.i).toNat + ((ys.length : Int) + 1 - s.j).toNat) * 101 + p
  ml : s.ms.length + n ≤ 20000
  gl : s.gs.length ≤ s.ms.length
  gb : ∀ z ∈ s.gs, Sm z
def cornT (s : ESt) : List Int := corn s.T0 s.T1 s.T2 s.T3
def cornL (s : ESt) : List Int := corn s.L0 s.L1 s.L2 s.L3
theorem corn_sm {a b c d : Int} (ha : Ce a) (hb : Ce b) (hc : Ce c) (hd : Ce d) : corn a b c d = [a, a + b, a + c, a + b + c + d] ∧ ∀ j, j < 4 → Sm ((corn a b c d).getD j 0) := by
  unfold Ce at *
  have e : corn a b c d = [a, a + b, a + c, a + b + c + d] := by
    unfold corn
    rw [wrap64_id (n := a + b) (by omega) (by omega), wrap64_id (n := a + c) (by omega) (by omega), wrap64_id (n := a + b + c) (by omega) (by omega), wrap64_id (n := a + b + c + d) (by omega) (by omega)]
  refine ⟨e, fun j hj => ?_⟩
  rw [e]; unfold Sm
  rcases (show j = 0 ∨ j = 1 ∨ j = 2 ∨ j = 3 by omega) with rfl | rfl | rfl | rfl <;> simp <;> omega
section
variable {xs ys : List Int} {s : ESt} {p n : Nat}
theorem EInv.alikeS (h : EInv xs ys s p n) : Ev (fun k => spec_l04Alike.f k (cornT s) (cornL s)) (alikeG (cornT s) (cornL s)) :=
  alikeS_g rfl (by show 0 < 4; omega) (by show 4 ≤ 1000; omega) (fun j hj => (corn_sm h.c0 h.c1 h.c2 h.c3).2 j hj)
theorem EInv.givesI (h : EInv xs ys s p n) : Ev (fun k => impl_gives.f k (cornT s) (cornL s)) (alikeG (cornT s) (cornL s)) :=
  givesI_g rfl (by show 0 < 4; omega) (by show 4 ≤ 1000; omega) (fun j hj => (corn_sm h.c0 h.c1 h.c2 h.c3).2 j hj)
/-- Behind the terms of both, all quotients are the same. -/
theorem EInv.last (h : EInv xs ys s p n) (hi : s.i = (xs.length : Int) + 1) (hj : s.j = (ys.length : Int) + 1) (hc : s.L0 ≠ 0) : alikeG (cornT s) (cornL s) = (s.T0.fdiv s.L0, true) := by
  obtain ⟨⟨x1, x2⟩, x3, x4⟩ := h.ex hi
  obtain ⟨⟨y1, y2⟩, y3, y4⟩ := h.ey hj
  have e1 : cornT s = [s.T0, s.T0 + s.T0, s.T0 + s.T0, s.T0 + s.T0 + s.T0 + s.T0] := by
    rw [cornT, (corn_sm h.c0 h.c1 h.c2 h.c3).1, ← y1, ← y2, ← x1]
  have e2 : cornL s = [s.L0, s.L0 + s.L0, s.L0 + s.L0, s.L0 + s.L0 + s.L0 + s.L0] := by
    rw [cornL, (corn_sm h.d0 h.d1 h.d2 h.d3).1, ← y3, ← y4, ← x3]
  rw [e1, e2]
  refine alikeG_yes (fun j hj => ?_)
  have hj4 : j < 4 := hj
  rcases (show j = 0 ∨ j = 1 ∨ j = 2 ∨ j = 3 by omega) with rfl | rfl | rfl | rfl
  · exact ⟨hc, Iff.rfl, rfl⟩
  · exact ⟨by simp; omega, by simp; omega, by simp; rw [show s.T0 + s.T0 = 2 * s.T0 by omega, show s.L0 + s.L0 = 2 * s.L0 by omega, Int.mul_fdiv_mul_of_pos _ _ (by omega)]⟩
  · exact ⟨by simp; omega, by simp; omega, by simp; rw [show s.T0 + s.T0 = 2 * s.T0 by omega, show s.L0 + s.L0 = 2 * s.L0 by omega, Int.mul_fdiv_mul_of_pos _ _ (by omega)]⟩
  · exact ⟨by simp; omega, by simp; omega, by simp; rw [show s.T0 + s.T0 + s.T0 + s.T0 = 4 * s.T0 by omega, show s.L0 + s.L0 + s.L0 + s.L0 = 4 * s.L0 by omega, Int.mul_fdiv_mul_of_pos _ _ (by omega)]⟩
end
def giveE (s : ESt) (q x0 x1 x2 x3 : Int) (f : Bool) : ESt := ⟨s.L0, s.L1, s.L2, s.L3, x0, x1, x2, x3, s.i, s.j, s.lf, s.ms ++ [⟨1, q⟩], s.gs ++ [q], f⟩
theorem EInv.give {xs ys : List Int} {s : ESt} {p n : Nat} (h : EInv xs ys s p n) (hc : s.L0 ≠ 0) (q : Int) (hq : q = s.T0.fdiv s.L0) (h0 : (cellR s.L0 (-q) s.T0).2 = true) (h1 : (cellR s.L1 (-q) s.T1).2 = true) (h2 : (cellR s.L2 (-q) s.T2).2 = true) (h3 : (cellR s.L3 (-q) s.T3).2 = true) (f : Bool) :
    ∃ p', p' + 1 ≤ p ∧ EInv xs ys (giveE s q (cellR s.L0 (-q) s.T0).1 (cellR s.L1 (-q) s.T1).1 (cellR s.L2 (-q) s.T2).1 (cellR s.L3 (-q) s.T3).1 f) p' ((((xs.length : Int) + 1 - s.i).toNat + ((ys.length : Int) + 1 - s.j).toNat) * 101 + p') := by
  obtain ⟨e0, b0⟩ := cellR_ok h0
  obtain ⟨e1, b1⟩ := cellR_ok h1
  obtain ⟨e2, b2⟩ := cellR_ok h2
  obtain ⟨e3, b3⟩ := cellR_ok h3
  have hx : s.L0 * -q + s.T0 = s.T0.fmod s.L0 := by
    have := Int.mul_fdiv_add_fmod s.T0 s.L0
    rw [hq]; have : s.L0 * -s.T0.fdiv s.L0 = -(s.L0 * s.T0.fdiv s.L0) := by rw [Int.mul_neg]
    omega
  obtain ⟨a, b, ha, hb, hab⟩ := h.pot hc
  have ha1 : 1 ≤ a := by
    rcases Nat.eq_zero_or_pos a with z | z
    · subst z; simp at ha; omega
    · exact z
  have hn := h.nn; have hml := h.ml; have hgl := h.gl; have hpb := h.pb
  refine ⟨p - 1, by omega, ?_⟩
  unfold giveE
  rw [e0, e1, e2, e3]
  refine ⟨h.d0, h.d1, h.d2, h.d3, b0, b1, b2, b3, h.i0, h.i1, h.j0, h.j1, fun ht => ?_, fun ht => ?_, fun hz => ?_, by omega, rfl, ?_, ?_, ?_⟩
  · obtain ⟨⟨x1, x2⟩, x3, x4⟩ := h.ex ht
    exact ⟨⟨x3, x4⟩, by show s.L0 * -q + s.T0 = s.L2 * -q + s.T2; rw [x1, x3], by show s.L1 * -q + s.T1 = s.L3 * -q + s.T3; rw [x2, x4]⟩
  · obtain ⟨⟨x1, x2⟩, x3, x4⟩ := h.ey ht
    exact ⟨⟨x3, x4⟩, by show s.L0 * -q + s.T0 = s.L1 * -q + s.T1; rw [x1, x3], by show s.L2 * -q + s.T2 = s.L3 * -q + s.T3; rw [x2, x4]⟩
  · show ∃ a b : Nat, (s.L0 * -q + s.T0).natAbs < 2 ^ a ∧ (s.L0.fmod (s.L0 * -q + s.T0)).natAbs < 2 ^ b ∧ a + b ≤ p - 1
    rw [hx]
    refine ⟨b, a - 1, hb, ?_, by omega⟩
    have hz2 : s.T0.fmod s.L0 ≠ 0 := by rw [← hx]; exact hz
    have := fmod_half hc hz2
    have e : 2 ^ a = 2 * 2 ^ (a - 1) := by rw [← Nat.pow_succ']; congr 1; omega
    omega
  · simp only [List.length_append, List.length_cons, List.length_nil]; omega
  · simp only [List.length_append, List.length_cons, List.length_nil]; omega
  · intro z hz
    rcases List.mem_append.1 hz with hz | hz
    · exact h.gb z hz
    · rw [List.mem_singleton.1 hz, hq]
      have := Int.natAbs_fdiv_le_natAbs s.T0 s.L0
      have := h.c0; unfold Ce at this; unfold Sm; omega
/-- A term of x, then one of y. -/
theorem EInv.takeX {xs ys : List Int} {s : ESt} {p n : Nat} (h : EInv xs ys s p n) (hi : s.i ≤ (xs.length : Int)) (m : S52) (a0 a1 a2 a3 b0 b1 b2 b3 : Int) (lf f : Bool) (hc : (Ce a0 ∧ Ce a1 ∧ Ce a2 ∧ Ce a3) ∧ Ce b0 ∧ Ce b1 ∧ Ce b2 ∧ Ce b3)
    (hx : s.i = (xs.length : Int) → (a0 = a2 ∧ a1 = a3) ∧ b0 = b2 ∧ b1 = b3) (hy : s.j = (ys.length : Int) + 1 → (a0 = a1 ∧ a2 = a3) ∧ b0 = b1 ∧ b2 = b3) :
    EInv xs ys ⟨a0, a1, a2, a3, b0, b1, b2, b3, s.i + 1, s.j, lf, s.ms ++ [m], s.gs, f⟩ 100 ((((xs.length : Int) + 1 - (s.i + 1)).toNat + ((ys.length : Int) + 1 - s.j).toNat) * 101 + 100) ∧ (((xs.length : Int) + 1 - (s.i + 1)).toNat + ((ys.length : Int) + 1 - s.j).toNat) * 101 + 100 < n := by
  have hn := h.nn; have hml := h.ml; have hgl := h.gl; have h0 := h.i0
  obtain ⟨⟨c0, c1, c2, c3⟩, d0, d1, d2, d3⟩ := hc
  refine ⟨⟨c0, c1, c2, c3, d0, d1, d2, d3, by show 0 ≤ s.i + 1; omega, by show s.i + 1 ≤ _; omega, h.j0, h.j1, fun ht => hx (by have : s.i + 1 = (xs.length : Int) + 1 := ht; omega), fun ht => hy ht, pot100 d0, by omega, rfl, ?_, ?_, h.gb⟩, by omega⟩
  · simp only [List.length_append, List.length_cons, List.length_nil]; omega
  · simp only [List.length_append, List.length_cons, List.length_nil]; omega
theorem EInv.takeY {xs ys : List Int} {s : ESt} {p n : Nat} (h : EInv xs ys s p n) (hj : s.j ≤ (ys.length : Int)) (m : S52) (a0 a1 a2 a3 b0 b1 b2 b3 : Int) (lf f : Bool) (hc : (Ce a0 ∧ Ce a1 ∧ Ce a2 ∧ Ce a3) ∧ Ce b0 ∧ Ce b1 ∧ Ce b2 ∧ Ce b3)
    (hx : s.i = (xs.length : Int) + 1 → (a0 = a2 ∧ a1 = a3) ∧ b0 = b2 ∧ b1 = b3) (hy : s.j = (ys.length : Int) → (a0 = a1 ∧ a2 = a3) ∧ b0 = b1 ∧ b2 = b3) :
    EInv xs ys ⟨a0, a1, a2, a3, b0, b1, b2, b3, s.i, s.j + 1, lf, s.ms ++ [m], s.gs, f⟩ 100 ((((xs.length : Int) + 1 - s.i).toNat + ((ys.length : Int) + 1 - (s.j + 1)).toNat) * 101 + 100) ∧ (((xs.length : Int) + 1 - s.i).toNat + ((ys.length : Int) + 1 - (s.j + 1)).toNat) * 101 + 100 < n := by
  have hn := h.nn; have hml := h.ml; have hgl := h.gl; have h0 := h.j0
  obtain ⟨⟨c0, c1, c2, c3⟩, d0, d1, d2, d3⟩ := hc
  refine ⟨⟨c0, c1, c2, c3, d0, d1, d2, d3, h.i0, h.i1, by show 0 ≤ s.j + 1; omega, by show s.j + 1 ≤ _; omega, fun ht => hx ht, fun ht => hy (by have : s.j + 1 = (ys.length : Int) + 1 := ht; omega), pot100 d0, by omega, rfl, ?_, ?_, h.gb⟩, by omega⟩
  · simp only [List.length_append, List.length_cons, List.length_nil]; omega
  · simp only [List.length_append, List.length_cons, List.length_nil]; omega
/-! ### single steps of both machines with eight numbers -/
section
variable {xs ys : List Int} {s : ESt} {p n : Nat}
def GiveOk (s : ESt) (q : Int) : Bool := (((cellR s.L0 (-q) s.T0).2 && (cellR s.L1 (-q) s.T1).2) && (cellR s.L2 (-q) s.T2).2) && (cellR s.L3 (-q) s.T3).2
def giveT (s : ESt) (q : Int) (f : Bool) : ESt := giveE s q (cellR s.L0 (-q) s.T0).1 (cellR s.L1 (-q) s.T1).1 (cellR s.L2 (-q) s.T2).1 (cellR s.L3 (-q) s.T3).1 f
def LeftOk (s : ESt) (a : Int) : Bool := (((cellR s.T0 a s.T2).2 && (cellR s.T1 a s.T3).2) && (cellR s.L0 a s.L2).2) && (cellR s.L1 a s.L3).2
def leftT (s : ESt) (a : Int) (lf f : Bool) : ESt := ⟨(cellR s.T0 a s.T2).1, (cellR s.T1 a s.T3).1, s.T0, s.T1, (cellR s.L0 a s.L2).1, (cellR s.L1 a s.L3).1, s.L0, s.L1, s.i + 1, s.j, lf, s.ms ++ [⟨2, a⟩], s.gs, f⟩
def leftI (s : ESt) (lf : Bool) : ESt := ⟨s.T0, s.T1, s.T0, s.T1, s.L0, s.L1, s.L0, s.L1, s.i + 1, s.j, lf, s.ms ++ [⟨2, 0⟩], s.gs, s.ov⟩
def RightOk (s : ESt) (a : Int) : Bool := (((cellR s.T0 a s.T1).2 && (cellR s.T2 a s.T3).2) && (cellR s.L0 a s.L1).2) && (cellR s.L2 a s.L3).2
def rightT (s : ESt) (a : Int) (lf f : Bool) : ESt := ⟨(cellR s.T0 a s.T1).1, s.T0, (cellR s.T2 a s.T3).1, s.T2, (cellR s.L0 a s.L1).1, s.L0, (cellR s.L2 a s.L3).1, s.L2, s.i, s.j + 1, lf, s.ms ++ [⟨3, a⟩], s.gs, f⟩
def rightI (s : ESt) (lf : Bool) : ESt := ⟨s.T0, s.T0, s.T2, s.T2, s.L0, s.L0, s.L2, s.L2, s.i, s.j + 1, lf, s.ms ++ [⟨3, 0⟩], s.gs, s.ov⟩
theorem E_end (h : ((xs.length : Int) < s.i ∧ (ys.length : Int) < s.j) ∧ s.L0 = 0) : Ev (fun k => stepE k xs ys s) (false, s) := Ev.congr (fun k => by unfold stepE; exact if_pos h) (Ev.now _)
theorem E_give (hI : EInv xs ys s p n) (hne : ¬ (((xs.length : Int) < s.i ∧ (ys.length : Int) < s.j) ∧ s.L0 = 0)) {q : Int} (ha : alikeG (cornT s) (cornL s) = (q, true)) (hi : 0 < s.i) (hj : 0 < s.j) (hq : Sm (-q)) :
    Ev (fun k => stepE k xs ys s) (true, giveT s q (s.ov && GiveOk s q)) := by
  have hw : wrap64 (-q) = -q := wrap64_id (by unfold Sm at hq; omega) (by unfold Sm at hq; omega)
  refine Ev.congr (fun k => by unfold stepE; exact if_neg hne) ?_
  refine Ev.bind hI.alikeS ?_
  rw [ha]
  refine Ev.congr (fun k => if_pos ⟨rfl, hi, hj⟩) ?_
  simp only
  rw [hw, cellS_is hq hI.d0.sm hI.c0, Option.bind_some]
  simp only
  rw [cellS_is hq hI.d1.sm hI.c1, Option.bind_some]
  simp only
  rw [cellS_is hq hI.d2.sm hI.c2, Option.bind_some]
  simp only
  rw [cellS_is hq hI.d3.sm hI.c3, Option.bind_some, cellR_comm (-q) s.L0, cellR_comm (-q) s.L1, cellR_comm (-q) s.L2, cellR_comm (-q) s.L3]
  exact ⟨0, fun _ _ => by simp only [giveT, giveE, GiveOk, Bool.and_assoc]⟩
theorem E_left (hI : EInv xs ys s p n) (hx : XsOk xs) {z : Int × Bool} (ha : alikeG (cornT s) (cornL s) = z) (hno : ¬ (z.2 = true ∧ 0 < s.i ∧ 0 < s.j)) (ht : s.lf = true ∨ (ys.length : Int) < s.j) (hi : s.i < (xs.length : Int)) :
    Ev (fun k => stepE k xs ys s) (true, leftT s (rd xs s.i) (!s.lf) (s.ov && LeftOk s (rd xs s.i))) := by
  have hr : Sm (rd xs s.i) := by have := hx.el s.i; unfold Sm; omega
  refine Ev.congr (fun k => by unfold stepE; exact if_neg (by omega)) ?_
  refine Ev.bind hI.alikeS ?_
  rw [ha]
  refine Ev.congr (fun k => if_neg hno) (Ev.congr (fun k => if_neg (by omega)) (Ev.congr (fun k => if_pos ⟨ht, by omega⟩) (Ev.congr (fun k => if_pos hi) ?_)))
  rw [cellS_is hI.c0.sm hr hI.c2, Option.bind_some]
  simp only
  rw [cellS_is hI.c1.sm hr hI.c3, Option.bind_some]
  simp only
  rw [cellS_is hI.d0.sm hr hI.d2, Option.bind_some]
  simp only
  rw [cellS_is hI.d1.sm hr hI.d3, Option.bind_some]
  exact ⟨0, fun _ _ => by simp only [leftT, LeftOk, Bool.and_assoc]⟩
theorem E_leftI (hI : EInv xs ys s p n) {z : Int × Bool} (ha : alikeG (cornT s) (cornL s) = z) (hno : ¬ (z.2 = true ∧ 0 < s.i ∧ 0 < s.j)) (ht : s.lf = true ∨ (ys.length : Int) < s.j) (hi : s.i = (xs.length : Int)) :
    Ev (fun k => stepE k xs ys s) (true, leftI s (!s.lf)) := by
  refine Ev.congr (fun k => by unfold stepE; exact if_neg (by omega)) ?_
  refine Ev.bind hI.alikeS ?_
  rw [ha]
  exact Ev.congr (fun k => if_neg hno) (Ev.congr (fun k => if_neg (by omega)) (Ev.congr (fun k => if_pos ⟨ht, by omega⟩) (Ev.congr (fun k => if_neg (by omega)) (Ev.now _))))
theorem E_right (hI : EInv xs ys s p n) (hy : XsOk ys) {z : Int × Bool} (ha : alikeG (cornT s) (cornL s) = z) (hno : ¬ (z.2 = true ∧ 0 < s.i ∧ 0 < s.j)) (ht : ¬ ((s.lf = true ∨ (ys.length : Int) < s.j) ∧ ¬ (xs.length : Int) < s.i)) (hj : s.j < (ys.length : Int)) :
    Ev (fun k => stepE k xs ys s) (true, rightT s (rd ys s.j) (!s.lf) (s.ov && RightOk s (rd ys s.j))) := by
  have hr : Sm (rd ys s.j) := by have := hy.el s.j; unfold Sm; omega
  refine Ev.congr (fun k => by unfold stepE; exact if_neg (by omega)) ?_
  refine Ev.bind hI.alikeS ?_
  rw [ha]
  refine Ev.congr (fun k => if_neg hno) (Ev.congr (fun k => if_neg (by omega)) (Ev.congr (fun k => if_neg ht) (Ev.congr (fun k => if_pos hj) ?_)))
  rw [cellS_is hI.c0.sm hr hI.c1, Option.bind_some]
  simp only
  rw [cellS_is hI.c2.sm hr hI.c3, Option.bind_some]
  simp only
  rw [cellS_is hI.d0.sm hr hI.d1, Option.bind_some]
  simp only
  rw [cellS_is hI.d2.sm hr hI.d3, Option.bind_some]
  exact ⟨0, fun _ _ => by simp only [rightT, RightOk, Bool.and_assoc]⟩
theorem E_rightI (hI : EInv xs ys s p n) {z : Int × Bool} (ha : alikeG (cornT s) (cornL s) = z) (hno : ¬ (z.2 = true ∧ 0 < s.i ∧ 0 < s.j)) (ht : ¬ ((s.lf = true ∨ (ys.length : Int) < s.j) ∧ ¬ (xs.length : Int) < s.i)) (hj : s.j = (ys.length : Int)) :
    Ev (fun k => stepE k xs ys s) (true, rightI s (!s.lf)) := by
  refine Ev.congr (fun k => by unfold stepE; exact if_neg (by omega)) ?_
  refine Ev.bind hI.alikeS ?_
  rw [ha]
  exact Ev.congr (fun k => if_neg hno) (Ev.congr (fun k => if_neg (by omega)) (Ev.congr (fun k => if_neg ht) (Ev.congr (fun k => if_neg (by omega)) (Ev.now _))))
end
section
variable {xs ys : List Int} {s : ESt} {p n : Nat}
theorem X_give (hI : EInv xs ys s p n) {q : Int} (ha : alikeG (cornT s) (cornL s) = (q, true)) (hi : 0 < s.i) (hj : 0 < s.j) (hq : Sm (-q)) :
    Ev (fun k => stepX k xs ys s) (true, giveT s q ((s.ov || decide (40 < (s.gs.length : Int) + 1)) || !GiveOk s q)) := by
  have hw : wrap64 (-q) = -q := wrap64_id (by unfold Sm at hq; omega) (by unfold Sm at hq; omega)
  refine Ev.congr (fun k => by unfold stepX; rfl) ?_
  refine Ev.bind hI.givesI ?_
  rw [ha]
  refine Ev.congr (fun k => if_pos ⟨rfl, hi, hj⟩) ?_
  simp only
  rw [hw, cellI_is hI.d0.sm hq hI.c0, Option.bind_some]
  simp only
  rw [cellI_is hI.d1.sm hq hI.c1, Option.bind_some]
  simp only
  rw [cellI_is hI.d2.sm hq hI.c2, Option.bind_some]
  simp only
  rw [cellI_is hI.d3.sm hq hI.c3, Option.bind_some]
  exact ⟨0, fun _ _ => by simp only [giveT, giveE, GiveOk, Bool.not_and, Bool.or_assoc]⟩
theorem row2 {ov : Bool} {zs : List Int} {tk t0 t1 t2 t3 : Int} (hz : XsOk zs) (ht : tk < (zs.length : Int)) (h0 : Ce t0) (h1 : Ce t1) (h2 : Ce t2) (h3 : Ce t3) : rowF ov 2 zs tk t0 t1 t2 t3 = some (((cellR t0 (rd zs tk) t2).1, (cellR t1 (rd zs tk) t3).1, t0, t1), (ov || !(cellR t0 (rd zs tk) t2).2) || !(cellR t1 (rd zs tk) t3).2) := by
  have hr : Sm (rd zs tk) := by have := hz.el tk; unfold Sm; omega
  unfold rowF
  rw [if_neg (by omega), if_pos rfl, cellI_is h0.sm hr h2, Option.bind_some]
  simp only
  rw [cellI_is h1.sm hr h3, Option.bind_some]
theorem row3 {ov : Bool} {zs : List Int} {tk t0 t1 t2 t3 : Int} (hz : XsOk zs) (ht : tk < (zs.length : Int)) (h0 : Ce t0) (h1 : Ce t1) (h2 : Ce t2) (h3 : Ce t3) : rowF ov 3 zs tk t0 t1 t2 t3 = some (((cellR t0 (rd zs tk) t1).1, t0, (cellR t2 (rd zs tk) t3).1, t2), (ov || !(cellR t0 (rd zs tk) t1).2) || !(cellR t2 (rd zs tk) t3).2) := by
  have hr : Sm (rd zs tk) := by have := hz.el tk; unfold Sm; omega
  unfold rowF
  rw [if_neg (by omega), if_neg (by decide), cellI_is h0.sm hr h1, Option.bind_some]
  simp only
  rw [cellI_is h2.sm hr h3, Option.bind_some]
/-- The next source is x. -/
def TurnX (xs ys : List Int) (s : ESt) : Prop := (s.lf = true ∧ s.i ≤ (xs.length : Int)) ∨ (s.lf = false ∧ ¬ s.j ≤ (ys.length : Int) ∧ s.i ≤ (xs.length : Int))
theorem X_left (hI : EInv xs ys s p n) (hx : XsOk xs) {z : Int × Bool} (ha : alikeG (cornT s) (cornL s) = z) (hno : ¬ (z.2 = true ∧ 0 < s.i ∧ 0 < s.j)) (ht : TurnX xs ys s) (hi : s.i < (xs.length : Int)) :
    Ev (fun k => stepX k xs ys s) (true, leftT s (rd xs s.i) false (s.ov || !LeftOk s (rd xs s.i))) := by
  refine Ev.congr (fun k => by unfold stepX; rfl) ?_
  refine Ev.bind hI.givesI ?_
  rw [ha]
  refine Ev.congr (fun k => if_neg hno) (Ev.congr (fun k => if_pos ht) ?_)
  rw [row2 hx hi hI.c0 hI.c1 hI.c2 hI.c3, Option.bind_some]
  simp only
  rw [row2 hx hi hI.d0 hI.d1 hI.d2 hI.d3, Option.bind_some, if_pos hi]
  exact ⟨0, fun _ _ => by simp only [leftT, LeftOk, Bool.not_and, Bool.or_assoc]⟩
theorem X_leftI (hI : EInv xs ys s p n) {z : Int × Bool} (ha : alikeG (cornT s) (cornL s) = z) (hno : ¬ (z.2 = true ∧ 0 < s.i ∧ 0 < s.j)) (ht : TurnX xs ys s) (hi : s.i = (xs.length : Int)) :
    Ev (fun k => stepX k xs ys s) (true, leftI s false) := by
  refine Ev.congr (fun k => by unfold stepX; rfl) ?_
  refine Ev.bind hI.givesI ?_
  rw [ha]
  refine Ev.congr (fun k => if_neg hno) (Ev.congr (fun k => if_pos ht) ?_)
  unfold rowF
  rw [if_pos hi, if_pos rfl, Option.bind_some]
  simp only
  rw [if_pos hi, if_pos trivial, Option.bind_some, if_neg (by omega)]
  exact Ev.now _
theorem X_right (hI : EInv xs ys s p n) (hy : XsOk ys) {z : Int × Bool} (ha : alikeG (cornT s) (cornL s) = z) (hno : ¬ (z.2 = true ∧ 0 < s.i ∧ 0 < s.j)) (ht : ¬ TurnX xs ys s) (hj : s.j < (ys.length : Int)) :
    Ev (fun k => stepX k xs ys s) (true, rightT s (rd ys s.j) true (s.ov || !RightOk s (rd ys s.j))) := by
  refine Ev.congr (fun k => by unfold stepX; rfl) ?_
  refine Ev.bind hI.givesI ?_
  rw [ha]
  refine Ev.congr (fun k => if_neg hno) (Ev.congr (fun k => if_neg ht) (Ev.congr (fun k => if_pos (by omega)) ?_))
  rw [row3 hy hj hI.c0 hI.c1 hI.c2 hI.c3, Option.bind_some]
  simp only
  rw [row3 hy hj hI.d0 hI.d1 hI.d2 hI.d3, Option.bind_some, if_pos hj]
  exact ⟨0, fun _ _ => by simp only [rightT, RightOk, Bool.not_and, Bool.or_assoc]⟩
theorem X_rightI (hI : EInv xs ys s p n) {z : Int × Bool} (ha : alikeG (cornT s) (cornL s) = z) (hno : ¬ (z.2 = true ∧ 0 < s.i ∧ 0 < s.j)) (ht : ¬ TurnX xs ys s) (hj : s.j = (ys.length : Int)) :
    Ev (fun k => stepX k xs ys s) (true, rightI s true) := by
  refine Ev.congr (fun k => by unfold stepX; rfl) ?_
  refine Ev.bind hI.givesI ?_
  rw [ha]
  refine Ev.congr (fun k => if_neg hno) (Ev.congr (fun k => if_neg ht) (Ev.congr (fun k => if_pos (by omega)) ?_))
  unfold rowF
  rw [if_pos hj, if_neg (by decide), Option.bind_some]
  simp only
  rw [if_pos hj, if_neg (by decide), Option.bind_some, if_neg (by omega)]
  exact Ev.now _
theorem X_end (hI : EInv xs ys s p n) (hi : s.i = (xs.length : Int) + 1) (hj : s.j = (ys.length : Int) + 1) (hc : s.L0 = 0) : Ev (fun k => stepX k xs ys s) (false, s) := by
  have ha : alikeG (cornT s) (cornL s) = (0, false) := alikeG_no (fun h => (h 0 (by show 0 < 4; omega)).1 (by show (corn s.L0 s.L1 s.L2 s.L3).getD 0 0 = 0; rw [(corn_sm hI.d0 hI.d1 hI.d2 hI.d3).1]; exact hc))
  refine Ev.congr (fun k => by unfold stepX; rfl) ?_
  refine Ev.bind hI.givesI ?_
  rw [ha]
  exact Ev.congr (fun k => if_neg (by simp)) (Ev.congr (fun k => if_neg (by omega)) (Ev.congr (fun k => if_neg (by omega)) (Ev.now _)))
end
/-! ### both machines with eight numbers to their ends -/
section
variable {xs ys : List Int} {s : ESt} {p n : Nat}
def Grd (xs ys : List Int) (s : ESt) : Prop := ((s.ms.length < 1000000 ∧ s.gs.length < 1000000) ∧ 0 ≤ s.i ∧ s.i < 1000000 ∧ 0 ≤ s.j ∧ s.j < 1000000) ∧ xs.length < 1000000 ∧ ys.length < 1000000
theorem EInv.grd (h : EInv xs ys s p n) (hx : XsOk xs) (hy : XsOk ys) : Grd xs ys s := by
  have := h.ml; have := h.gl; have := h.i0; have := h.i1; have := h.j0; have := h.j1; have := hx.len; have := hy.len
  unfold Grd; omega
theorem runE_bad (h : s.ov = false) : Ev2 (fun k m => runE k xs ys m s) s := ⟨1, fun k m _ hm => by
  obtain ⟨m, rfl⟩ : ∃ j, m = j + 1 := ⟨m - 1, by omega⟩
  show runE k xs ys (m + 1) s = some s
  rw [runE, if_neg (by rw [h]; decide)]⟩
theorem runE_next (h : s.ov = true) (hg : Grd xs ys s) {s' sf : ESt} (hs : Ev (fun k => stepE k xs ys s) (true, s')) (hr : Ev2 (fun k m => runE k xs ys m s') sf) : Ev2 (fun k m => runE k xs ys m s) sf := by
  unfold Grd at hg
  obtain ⟨K, hK⟩ := hs
  obtain ⟨N, hN⟩ := hr
  refine ⟨K + N + 1, fun k m hk hm => ?_⟩
  obtain ⟨m, rfl⟩ : ∃ j, m = j + 1 := ⟨m - 1, by omega⟩
  have e1 : stepE k xs ys s = some (true, s') := hK k (by omega)
  have e2 : runE k xs ys m s' = some sf := hN k m (by omega) (by omega)
  show runE k xs ys (m + 1) s = some sf
  rw [runE, if_pos h, if_pos hg, e1, Option.bind_some]
  exact (if_pos rfl).trans e2
theorem runE_stop (h : s.ov = true) (hg : Grd xs ys s) {s' : ESt} (hs : Ev (fun k => stepE k xs ys s) (false, s')) : Ev2 (fun k m => runE k xs ys m s) s' := by
  unfold Grd at hg
  obtain ⟨K, hK⟩ := hs
  refine ⟨K + 1, fun k m hk hm => ?_⟩
  obtain ⟨m, rfl⟩ : ∃ j, m = j + 1 := ⟨m - 1, by omega⟩
  have e1 : stepE k xs ys s = some (false, s') := hK k (by omega)
  show runE k xs ys (m + 1) s = some s'
  rw [runE, if_pos h, if_pos hg, e1, Option.bind_some]
  exact if_neg (by simp)
theorem runX_over (h : s.ov = true) : Ev2 (fun k m => runX k xs ys m s) s := ⟨1, fun k m _ hm => by
  obtain ⟨m, rfl⟩ : ∃ j, m = j + 1 := ⟨m - 1, by omega⟩
  show runX k xs ys (m + 1) s = some s
  rw [runX, if_pos h]⟩
theorem runX_next (h : s.ov = false) (hg : Grd xs ys s) {s' sf : ESt} (hs : Ev (fun k => stepX k xs ys s) (true, s')) (hr : Ev2 (fun k m => runX k xs ys m s') sf) : Ev2 (fun k m => runX k xs ys m s) sf := by
  unfold Grd at hg
  obtain ⟨K, hK⟩ := hs
  obtain ⟨N, hN⟩ := hr
  refine ⟨K + N + 1, fun k m hk hm => ?_⟩
  obtain ⟨m, rfl⟩ : ∃ j, m = j + 1 := ⟨m - 1, by omega⟩
  have e1 : stepX k xs ys s = some (true, s') := hK k (by omega)
  have e2 : runX k xs ys m s' = some sf := hN k m (by omega) (by omega)
  show runX k xs ys (m + 1) s = some sf
  rw [runX, if_neg (by rw [h]; decide), if_pos hg, e1, Option.bind_some]
  exact (if_pos rfl).trans e2
theorem runX_stop (h : s.ov = false) (hg : Grd xs ys s) {s' : ESt} (hs : Ev (fun k => stepX k xs ys s) (false, s')) : Ev2 (fun k m => runX k xs ys m s) s' := by
  unfold Grd at hg
  obtain ⟨K, hK⟩ := hs
  refine ⟨K + 1, fun k m hk hm => ?_⟩
  obtain ⟨m, rfl⟩ : ∃ j, m = j + 1 := ⟨m - 1, by omega⟩
  have e1 : stepX k xs ys s = some (false, s') := hK k (by omega)
  show runX k xs ys (m + 1) s = some s'
  rw [runX, if_neg (by rw [h]; decide), if_pos hg, e1, Option.bind_some]
  exact if_neg (by simp)
/-- The same numbers on the program's side: another turn, nothing over. -/
def fl8 (s : ESt) (lf ov : Bool) : ESt := ⟨s.T0, s.T1, s.T2, s.T3, s.L0, s.L1, s.L2, s.L3, s.i, s.j, lf, s.ms, s.gs, ov⟩
theorem EInv.fl8 (h : EInv xs ys s p n) (lf ov : Bool) : EInv xs ys (fl8 s lf ov) p n := ⟨h.c0, h.c1, h.c2, h.c3, h.d0, h.d1, h.d2, h.d3, h.i0, h.i1, h.j0, h.j1, h.ex, h.ey, h.pot, h.pb, h.nn, h.ml, h.gl, h.gb⟩
def LfOk (xs ys : List Int) (s : ESt) (lf : Bool) : Prop := lf = s.lf ∨ (xs.length : Int) < s.i ∨ (ys.length : Int) < s.j
theorem turn_same {lf : Bool} (h : LfOk xs ys s lf) : TurnX xs ys (fl8 s lf false) ↔ ((s.lf = true ∨ (ys.length : Int) < s.j) ∧ ¬ (xs.length : Int) < s.i) := by
  unfold TurnX fl8 LfOk at *
  simp only
  cases hl : s.lf <;> cases lf <;> simp [hl] at * <;> omega
theorem EInv.first (h : EInv xs ys s p n) {q : Int} (ha : alikeG (cornT s) (cornL s) = (q, true)) : s.L0 ≠ 0 ∧ q = s.T0.fdiv s.L0 ∧ Sm (-q) := by
  have e1 : (cornT s).getD 0 0 = s.T0 := by rw [cornT, (corn_sm h.c0 h.c1 h.c2 h.c3).1]; rfl
  have e2 : (cornL s).getD 0 0 = s.L0 := by rw [cornL, (corn_sm h.d0 h.d1 h.d2 h.d3).1]; rfl
  by_cases g : AlikeG (cornT s) (cornL s)
  · have h0 := g 0 (by show 0 < 4; omega)
    rw [alikeG_yes g, e1, e2] at ha
    rw [e2] at h0
    have hq : q = s.T0.fdiv s.L0 := (congrArg Prod.fst ha).symm
    exact ⟨h0.1, hq, (q_small h.c0 hq).1⟩
  · rw [alikeG_no g] at ha; cases ha
theorem leftOk_ce {a : Int} (h : LeftOk s a = true) (hI : EInv xs ys s p n) : (Ce (cellR s.T0 a s.T2).1 ∧ Ce (cellR s.T1 a s.T3).1 ∧ Ce s.T0 ∧ Ce s.T1) ∧ Ce (cellR s.L0 a s.L2).1 ∧ Ce (cellR s.L1 a s.L3).1 ∧ Ce s.L0 ∧ Ce s.L1 := by
  unfold LeftOk at h
  simp only [Bool.and_eq_true] at h
  obtain ⟨⟨⟨h0, h1⟩, h2⟩, h3⟩ := h
  obtain ⟨e0, b0⟩ := cellR_ok h0
  obtain ⟨e1, b1⟩ := cellR_ok h1
  obtain ⟨e2, b2⟩ := cellR_ok h2
  obtain ⟨e3, b3⟩ := cellR_ok h3
  exact ⟨⟨e0 ▸ b0, e1 ▸ b1, hI.c0, hI.c1⟩, e2 ▸ b2, e3 ▸ b3, hI.d0, hI.d1⟩
theorem rightOk_ce {a : Int} (h : RightOk s a = true) (hI : EInv xs ys s p n) : (Ce (cellR s.T0 a s.T1).1 ∧ Ce s.T0 ∧ Ce (cellR s.T2 a s.T3).1 ∧ Ce s.T2) ∧ Ce (cellR s.L0 a s.L1).1 ∧ Ce s.L0 ∧ Ce (cellR s.L2 a s.L3).1 ∧ Ce s.L2 := by
  unfold RightOk at h
  simp only [Bool.and_eq_true] at h
  obtain ⟨⟨⟨h0, h1⟩, h2⟩, h3⟩ := h
  obtain ⟨e0, b0⟩ := cellR_ok h0
  obtain ⟨e1, b1⟩ := cellR_ok h1
  obtain ⟨e2, b2⟩ := cellR_ok h2
  obtain ⟨e3, b3⟩ := cellR_ok h3
  exact ⟨⟨e0 ▸ b0, hI.c0, e1 ▸ b1, hI.c2⟩, e2 ▸ b2, hI.d0, e3 ▸ b3, hI.d2⟩
theorem EInv.leftT (hI : EInv xs ys s p n) (hi : s.i < (xs.length : Int)) {a : Int} (ho : LeftOk s a = true) (lf f : Bool) : ∃ n', n' < n ∧ EInv xs ys (leftT s a lf f) 100 n' := by
  obtain ⟨h1, h2⟩ := hI.takeX (by omega) ⟨2, a⟩ _ _ _ _ _ _ _ _ lf f (leftOk_ce ho hI) (fun h => by omega) (fun h => by
    obtain ⟨⟨x1, x2⟩, x3, x4⟩ := hI.ey h
    exact ⟨⟨by rw [x1, x2], x1⟩, by rw [x3, x4], x3⟩)
  exact ⟨_, h2, h1⟩
theorem EInv.leftI (hI : EInv xs ys s p n) (hi : s.i = (xs.length : Int)) (lf : Bool) : ∃ n', n' < n ∧ EInv xs ys (leftI s lf) 100 n' := by
  obtain ⟨h1, h2⟩ := hI.takeX (by omega) ⟨2, 0⟩ _ _ _ _ _ _ _ _ lf s.ov ⟨⟨hI.c0, hI.c1, hI.c0, hI.c1⟩, hI.d0, hI.d1, hI.d0, hI.d1⟩ (fun h => ⟨⟨rfl, rfl⟩, rfl, rfl⟩) (fun h => by
    obtain ⟨⟨x1, x2⟩, x3, x4⟩ := hI.ey h
    exact ⟨⟨x1, x1⟩, x3, x3⟩)
  exact ⟨_, h2, h1⟩
theorem EInv.rightT (hI : EInv xs ys s p n) (hj : s.j < (ys.length : Int)) {a : Int} (ho : RightOk s a = true) (lf f : Bool) : ∃ n', n' < n ∧ EInv xs ys (rightT s a lf f) 100 n' := by
  obtain ⟨h1, h2⟩ := hI.takeY (by omega) ⟨3, a⟩ _ _ _ _ _ _ _ _ lf f (rightOk_ce ho hI) (fun h => by
    obtain ⟨⟨x1, x2⟩, x3, x4⟩ := hI.ex h
    exact ⟨⟨by rw [x1, x2], x1⟩, by rw [x3, x4], x3⟩) (fun h => by omega)
  exact ⟨_, h2, h1⟩
theorem EInv.rightI (hI : EInv xs ys s p n) (hj : s.j = (ys.length : Int)) (lf : Bool) : ∃ n', n' < n ∧ EInv xs ys (rightI s lf) 100 n' := by
  obtain ⟨h1, h2⟩ := hI.takeY (by omega) ⟨3, 0⟩ _ _ _ _ _ _ _ _ lf s.ov ⟨⟨hI.c0, hI.c0, hI.c2, hI.c2⟩, hI.d0, hI.d0, hI.d2, hI.d2⟩ (fun h => by
    obtain ⟨⟨x1, x2⟩, x3, x4⟩ := hI.ex h
    exact ⟨⟨x1, x1⟩, x3, x3⟩) (fun h => ⟨⟨rfl, rfl⟩, rfl, rfl⟩)
  exact ⟨_, h2, h1⟩
theorem EInv.giveT (hI : EInv xs ys s p n) {q : Int} (hc : s.L0 ≠ 0) (hq : q = s.T0.fdiv s.L0) (ho : GiveOk s q = true) (f : Bool) : ∃ p' n', n' < n ∧ EInv xs ys (giveT s q f) p' n' := by
  unfold GiveOk at ho
  simp only [Bool.and_eq_true] at ho
  obtain ⟨⟨⟨h0, h1⟩, h2⟩, h3⟩ := ho
  obtain ⟨p', hp, h⟩ := hI.give hc q hq h0 h1 h2 h3 f
  have := hI.nn
  exact ⟨p', _, by omega, h⟩
end
/-- How both machines with eight numbers end. -/
def Ends8 (sS sX : ESt) : Prop :=
  (sS.ov = true ∧ sX.ov = false ∧ sX.ms = sS.ms ∧ sX.gs = sS.gs ∧ sS.gs.length ≤ 40 ∧ sS.ms.length ≤ 20000 ∧ ∀ z ∈ sS.gs, Sm z) ∨ (sX.ov = true ∧ (sS.ov = false ∨ (41 ≤ sS.gs.length ∧ ∀ z ∈ sS.gs, Sm z)))
theorem specE_ends {xs ys : List Int} (hx : XsOk xs) (hy : XsOk ys) (n : Nat) : ∀ (s : ESt) (p : Nat), EInv xs ys s p n → s.ov = true → ∃ sf, Ev2 (fun k m => runE k xs ys m s) sf ∧ (sf.ov = false ∨ (s.gs.length ≤ sf.gs.length ∧ ∀ z ∈ sf.gs, Sm z)) := by
  induction n using Nat.strongRecOn with
  | ind n ih =>
  intro s p hI ho
  have hg := hI.grd hx hy
  by_cases h : ((xs.length : Int) < s.i ∧ (ys.length : Int) < s.j) ∧ s.L0 = 0
  · exact ⟨s, runE_stop ho hg (E_end h), Or.inr ⟨Nat.le_refl _, hI.gb⟩⟩
  obtain ⟨q, al, ha⟩ : ∃ q al, alikeG (cornT s) (cornL s) = (q, al) := ⟨_, _, rfl⟩
  by_cases hgv : al = true ∧ 0 < s.i ∧ 0 < s.j
  · obtain ⟨rfl, ti, tj⟩ := hgv
    obtain ⟨hc, hq, hm⟩ := hI.first ha
    have hs := E_give hI h ha ti tj hm
    rw [ho, Bool.true_and] at hs
    cases h1 : GiveOk s q with
    | false => rw [h1] at hs; exact ⟨_, runE_next ho hg hs (runE_bad rfl), Or.inl rfl⟩
    | true =>
      rw [h1] at hs
      obtain ⟨p', n', hn, hJ⟩ := hI.giveT hc hq h1 true
      obtain ⟨sf, r1, r2⟩ := ih n' hn _ p' hJ rfl
      refine ⟨sf, runE_next ho hg hs r1, r2.imp id (fun r => ⟨?_, r.2⟩)⟩
      have := r.1
      simp only [giveT, giveE, List.length_append, List.length_cons, List.length_nil] at this
      omega
  have i1 := hI.i1; have j1 := hI.j1
  by_cases hb : (xs.length : Int) < s.i ∧ (ys.length : Int) < s.j
  · exfalso
    have hl := hI.last (by omega) (by omega) (fun hz => h ⟨hb, hz⟩)
    rw [ha] at hl
    have i0 := hI.i0
    exact hgv ⟨congrArg Prod.snd hl, by omega, by omega⟩
  by_cases ht : (s.lf = true ∨ (ys.length : Int) < s.j) ∧ ¬ (xs.length : Int) < s.i
  · by_cases hi : s.i < (xs.length : Int)
    · have hs := E_left hI hx ha hgv ht.1 hi
      rw [ho, Bool.true_and] at hs
      cases h1 : LeftOk s (rd xs s.i) with
      | false => rw [h1] at hs; exact ⟨_, runE_next ho hg hs (runE_bad rfl), Or.inl rfl⟩
      | true =>
        rw [h1] at hs
        obtain ⟨n', hn, hJ⟩ := hI.leftT hi h1 (!s.lf) true
        obtain ⟨sf, r1, r2⟩ := ih n' hn _ _ hJ rfl
        exact ⟨sf, runE_next ho hg hs r1, r2⟩
    · have hs := E_leftI hI ha hgv ht.1 (by omega)
      obtain ⟨n', hn, hJ⟩ := hI.leftI (by omega) (!s.lf)
      obtain ⟨sf, r1, r2⟩ := ih n' hn _ _ hJ ho
      exact ⟨sf, runE_next ho hg hs r1, r2⟩
  · have hj0 : ¬ (ys.length : Int) < s.j := fun hz => ht ⟨Or.inr hz, fun hz2 => hb ⟨hz2, hz⟩⟩
    by_cases hj : s.j < (ys.length : Int)
    · have hs := E_right hI hy ha hgv ht hj
      rw [ho, Bool.true_and] at hs
      cases h1 : RightOk s (rd ys s.j) with
      | false => rw [h1] at hs; exact ⟨_, runE_next ho hg hs (runE_bad rfl), Or.inl rfl⟩
      | true =>
        rw [h1] at hs
        obtain ⟨n', hn, hJ⟩ := hI.rightT hj h1 (!s.lf) true
        obtain ⟨sf, r1, r2⟩ := ih n' hn _ _ hJ rfl
        exact ⟨sf, runE_next ho hg hs r1, r2⟩
    · have hs := E_rightI hI ha hgv ht (by omega)
      obtain ⟨n', hn, hJ⟩ := hI.rightI (by omega) (!s.lf)
      obtain ⟨sf, r1, r2⟩ := ih n' hn _ _ hJ ho
      exact ⟨sf, runE_next ho hg hs r1, r2⟩
theorem both_end8 {xs ys : List Int} (hx : XsOk xs) (hy : XsOk ys) (n : Nat) : ∀ (s : ESt) (p : Nat) (lf : Bool), EInv xs ys s p n → s.ov = true → s.gs.length ≤ 40 → LfOk xs ys s lf → ∃ sS sX, Ev2 (fun k m => runE k xs ys m s) sS ∧ Ev2 (fun k m => runX k xs ys m (fl8 s lf false)) sX ∧ Ends8 sS sX := by
  induction n using Nat.strongRecOn with
  | ind n ih =>
  intro s p lf hI ho hG hL
  have hg := hI.grd hx hy
  have hK := hI.fl8 lf false
  have hgX : Grd xs ys (fl8 s lf false) := hg
  have i1 := hI.i1; have j1 := hI.j1
  by_cases h : ((xs.length : Int) < s.i ∧ (ys.length : Int) < s.j) ∧ s.L0 = 0
  · refine ⟨s, fl8 s lf false, runE_stop ho hg (E_end h), runX_stop rfl hgX (X_end hK (show s.i = _ by omega) (show s.j = _ by omega) h.2), Or.inl ⟨ho, rfl, rfl, rfl, hG, ?_, hI.gb⟩⟩
    have := hI.ml; omega
  obtain ⟨q, al, ha⟩ : ∃ q al, alikeG (cornT s) (cornL s) = (q, al) := ⟨_, _, rfl⟩
  have haX : alikeG (cornT (fl8 s lf false)) (cornL (fl8 s lf false)) = (q, al) := ha
  by_cases hgv : al = true ∧ 0 < s.i ∧ 0 < s.j
  · obtain ⟨rfl, ti, tj⟩ := hgv
    obtain ⟨hc, hq, hm⟩ := hI.first ha
    have hs := E_give hI h ha ti tj hm
    have hi : Ev (fun k => stepX k xs ys (fl8 s lf false)) (true, giveT (fl8 s lf false) q ((false || decide (40 < (s.gs.length : Int) + 1)) || !GiveOk s q)) := X_give hK haX ti tj hm
    rw [ho, Bool.true_and] at hs
    rw [Bool.false_or] at hi
    cases h1 : GiveOk s q with
    | false =>
      rw [h1] at hs hi
      simp only [Bool.not_false, Bool.or_true] at hi
      exact ⟨_, _, runE_next ho hg hs (runE_bad rfl), runX_next rfl hgX hi (runX_over rfl), Or.inr ⟨rfl, Or.inl rfl⟩⟩
    | true =>
      rw [h1] at hs hi
      obtain ⟨p', n', hn, hJ⟩ := hI.giveT hc hq h1 true
      have hlen : (giveT s q true).gs.length = s.gs.length + 1 := by simp [giveT, giveE]
      by_cases h40 : s.gs.length + 1 ≤ 40
      · rw [decide_eq_false (by omega)] at hi
        simp only [Bool.not_true, Bool.or_false] at hi
        obtain ⟨sS, sX, r1, r2, r3⟩ := ih n' hn _ p' lf hJ rfl (by omega) hL
        exact ⟨sS, sX, runE_next ho hg hs r1, runX_next rfl hgX hi r2, r3⟩
      · rw [decide_eq_true (by omega)] at hi
        simp only [Bool.not_true, Bool.or_false] at hi
        obtain ⟨sf, r1, r2⟩ := specE_ends hx hy n' _ p' hJ rfl
        exact ⟨sf, _, runE_next ho hg hs r1, runX_next rfl hgX hi (runX_over rfl), Or.inr ⟨rfl, r2.imp id (fun r => ⟨by have := r.1; omega, r.2⟩)⟩⟩
  by_cases hb : (xs.length : Int) < s.i ∧ (ys.length : Int) < s.j
  · exfalso
    have hl := hI.last (by omega) (by omega) (fun hz => h ⟨hb, hz⟩)
    rw [ha] at hl
    have i0 := hI.i0
    exact hgv ⟨congrArg Prod.snd hl, by omega, by omega⟩
  by_cases ht : (s.lf = true ∨ (ys.length : Int) < s.j) ∧ ¬ (xs.length : Int) < s.i
  · have hX := (turn_same hL).2 ht
    have hL2 : ∀ i', LfOk xs ys ⟨s.T0, s.T1, s.T2, s.T3, s.L0, s.L1, s.L2, s.L3, i', s.j, !s.lf, s.ms, s.gs, true⟩ false := fun i' => by
      rcases ht.1 with hl | hl
      · exact Or.inl (by simp [hl])
      · exact Or.inr (Or.inr hl)
    by_cases hi : s.i < (xs.length : Int)
    · have hs := E_left hI hx ha hgv ht.1 hi
      have hi2 : Ev (fun k => stepX k xs ys (fl8 s lf false)) (true, leftT (fl8 s lf false) (rd xs s.i) false (false || !LeftOk s (rd xs s.i))) := X_left hK hx haX hgv hX hi
      rw [ho, Bool.true_and] at hs
      rw [Bool.false_or] at hi2
      cases h1 : LeftOk s (rd xs s.i) with
      | false =>
        rw [h1] at hs hi2
        exact ⟨_, _, runE_next ho hg hs (runE_bad rfl), runX_next rfl hgX hi2 (runX_over rfl), Or.inr ⟨rfl, Or.inl rfl⟩⟩
      | true =>
        rw [h1] at hs hi2
        obtain ⟨n', hn, hJ⟩ := hI.leftT hi h1 (!s.lf) true
        obtain ⟨sS, sX, r1, r2, r3⟩ := ih n' hn _ _ false hJ rfl hG (hL2 (s.i + 1))
        exact ⟨sS, sX, runE_next ho hg hs r1, runX_next rfl hgX hi2 r2, r3⟩
    · have hs := E_leftI hI ha hgv ht.1 (by omega)
      have hi2 : Ev (fun k => stepX k xs ys (fl8 s lf false)) (true, leftI (fl8 s lf false) false) := X_leftI hK haX hgv hX (show s.i = _ by omega)
      obtain ⟨n', hn, hJ⟩ := hI.leftI (by omega) (!s.lf)
      obtain ⟨sS, sX, r1, r2, r3⟩ := ih n' hn _ _ false hJ ho hG (hL2 (s.i + 1))
      exact ⟨sS, sX, runE_next ho hg hs r1, runX_next rfl hgX hi2 r2, r3⟩
  · have hX : ¬ TurnX xs ys (fl8 s lf false) := fun hz => ht ((turn_same hL).1 hz)
    have hj0 : ¬ (ys.length : Int) < s.j := fun hz => ht ⟨Or.inr hz, fun hz2 => hb ⟨hz2, hz⟩⟩
    have hL2 : ∀ j', LfOk xs ys ⟨s.T0, s.T1, s.T2, s.T3, s.L0, s.L1, s.L2, s.L3, s.i, j', !s.lf, s.ms, s.gs, true⟩ true := fun j' => by
      by_cases hl : (xs.length : Int) < s.i
      · exact Or.inr (Or.inl hl)
      · refine Or.inl ?_
        cases hf : s.lf with
        | false => simp [hf]
        | true => exact absurd ⟨Or.inl hf, hl⟩ ht
    by_cases hj : s.j < (ys.length : Int)
    · have hs := E_right hI hy ha hgv ht hj
      have hi2 : Ev (fun k => stepX k xs ys (fl8 s lf false)) (true, rightT (fl8 s lf false) (rd ys s.j) true (false || !RightOk s (rd ys s.j))) := X_right hK hy haX hgv hX hj
      rw [ho, Bool.true_and] at hs
      rw [Bool.false_or] at hi2
      cases h1 : RightOk s (rd ys s.j) with
      | false =>
        rw [h1] at hs hi2
        exact ⟨_, _, runE_next ho hg hs (runE_bad rfl), runX_next rfl hgX hi2 (runX_over rfl), Or.inr ⟨rfl, Or.inl rfl⟩⟩
      | true =>
        rw [h1] at hs hi2
        obtain ⟨n', hn, hJ⟩ := hI.rightT hj h1 (!s.lf) true
        obtain ⟨sS, sX, r1, r2, r3⟩ := ih n' hn _ _ true hJ rfl hG (hL2 (s.j + 1))
        exact ⟨sS, sX, runE_next ho hg hs r1, runX_next rfl hgX hi2 r2, r3⟩
    · have hs := E_rightI hI ha hgv ht (by omega)
      have hi2 : Ev (fun k => stepX k xs ys (fl8 s lf false)) (true, rightI (fl8 s lf false) true) := X_rightI hK haX hgv hX (show s.j = _ by omega)
      obtain ⟨n', hn, hJ⟩ := hI.rightI (by omega) (!s.lf)
      obtain ⟨sS, sX, r1, r2, r3⟩ := ih n' hn _ _ true hJ ho hG (hL2 (s.j + 1))
      exact ⟨sS, sX, runE_next ho hg hs r1, runX_next rfl hgX hi2 r2, r3⟩
/-! ### the machines with eight numbers: what both sides return -/
theorem ends_code8 {sS sX : ESt} (h : Ends8 sS sX) : ∃ c, Ev (fun k => spec_l04Work_end.f k sS.ms sS.gs sS.ov) c ∧ Ev (fun k => impl_mover_code.f k sX.ms sX.gs sX.ov) c ∧ (c = 0 → sX.ms = sS.ms ∧ sX.gs = sS.gs ∧ sS.gs.length ≤ 40 ∧ sS.ms.length ≤ 20000) :=
  ends_code (sS := ⟨0, 0, 0, 0, 0, sS.ms, sS.gs, sS.ov⟩) (sI := ⟨0, 0, 0, 0, 0, sX.ms, sX.gs, sX.ov⟩) h
def st8 (T0 T1 T2 T3 L0 L1 L2 L3 : Int) (o : Bool) : ESt := ⟨T0, T1, T2, T3, L0, L1, L2, L3, 0, 0, true, [], [], o⟩
theorem eight_inv {T0 T1 T2 T3 L0 L1 L2 L3 : Int} {xs ys : List Int} (hx : XsOk xs) (hy : XsOk ys) (hT : inP T0 = true ∧ inP T1 = true ∧ inP T2 = true ∧ inP T3 = true) (hL : inP L0 = true ∧ inP L1 = true ∧ inP L2 = true ∧ inP L3 = true) :
    EInv xs ys (st8 T0 T1 T2 T3 L0 L1 L2 L3 true) 100 ((((xs.length : Int) + 1 - 0).toNat + ((ys.length : Int) + 1 - 0).toNat) * 101 + 100) := by
  have h1 := hx.len
  have h2 := hy.len
  refine ⟨in_ce hT.1, in_ce hT.2.1, in_ce hT.2.2.1, in_ce hT.2.2.2, in_ce hL.1, in_ce hL.2.1, in_ce hL.2.2.1, in_ce hL.2.2.2, Int.le_refl _, by show (0 : Int) ≤ _; omega, Int.le_refl _, by show (0 : Int) ≤ _; omega, fun h => ?_, fun h => ?_, pot100 (in_ce hL.1), by omega, rfl, ?_, Nat.le_refl _, fun z hz => by cases hz⟩
  · have : (0 : Int) = (xs.length : Int) + 1 := h
    omega
  · have : (0 : Int) = (ys.length : Int) + 1 := h
    omega
  · show 0 + _ ≤ 20000; omega
theorem given8_loop (T0 T1 T2 T3 L0 L1 L2 L3 : Int) : Ev (fun k => spec_l04EightGiven.l0 k 0 T0 T1 T2 T3 L0 L1 L2 L3) (if inP T0 = true ∧ inP L0 = true ∧ inP T1 = true ∧ inP L1 = true ∧ inP T2 = true ∧ inP L2 = true ∧ inP T3 = true ∧ inP L3 = true then 0 else 2) := by
  refine ⟨5, fun k hk => ?_⟩
  obtain ⟨k, rfl⟩ : ∃ m, k = m + 5 := ⟨k - 5, by omega⟩
  have w1 : wrap64 (0 + 1) = 1 := by rw [wrap64_id] <;> omega
  have w2 : wrap64 (1 + 1) = 2 := by rw [wrap64_id] <;> omega
  have w3 : wrap64 (2 + 1) = 3 := by rw [wrap64_id] <;> omega
  have w4 : wrap64 (3 + 1) = 4 := by rw [wrap64_id] <;> omega
  have r0 : ∀ a b c d : Int, rd [a, b, c, d] 0 = a := fun _ _ _ _ => rfl
  have r1 : ∀ a b c d : Int, rd [a, b, c, d] 1 = b := fun _ _ _ _ => rfl
  have r2 : ∀ a b c d : Int, rd [a, b, c, d] 2 = c := fun _ _ _ _ => rfl
  have r3 : ∀ a b c d : Int, rd [a, b, c, d] 3 = d := fun _ _ _ _ => rfl
  have hin : ∀ a : Int, spec_l00In.f a (-1000000000) 1000000000 = some (inP a) := fun a => l00In_some _ _ _
  simp only [spec_l04EightGiven.l0, hin, r0, r1, r2, r3, w1, w2, w3, w4, Option.bind_some]
  cases inP T0 <;> cases inP L0 <;> cases inP T1 <;> cases inP L1 <;> cases inP T2 <;> cases inP L2 <;> cases inP T3 <;> cases inP L3 <;> simp
/-- Both machines with eight numbers from their starts: one answer. -/
theorem eight_all (T0 T1 T2 T3 L0 L1 L2 L3 : Int) {xs ys : List Int} (hw : ∀ j, j < xs.length → -9223372036854775808 ≤ xs.getD j 0 ∧ xs.getD j 0 ≤ 9223372036854775807) (hv : ∀ j, j < ys.length → -9223372036854775808 ≤ ys.getD j 0 ∧ ys.getD j 0 ≤ 9223372036854775807) :
    (∃ c st, c ≠ 0 ∧ Ev (fun k => spec_l04EightGiven.f k T0 T1 T2 T3 L0 L1 L2 L3 xs ys) c ∧ Ev (fun k => eightX k T0 T1 T2 T3 L0 L1 L2 L3 xs ys) (st, c)) ∨
    (∃ sS sI c, Ev (fun k => spec_l04EightGiven.f k T0 T1 T2 T3 L0 L1 L2 L3 xs ys) 0 ∧ Ev (fun k => runE k xs ys k (st8 T0 T1 T2 T3 L0 L1 L2 L3 true)) sS ∧ Ev (fun k => spec_l04Work_end.f k sS.ms sS.gs sS.ov) c ∧ Ev (fun k => eightX k T0 T1 T2 T3 L0 L1 L2 L3 xs ys) (sI, c) ∧ (c = 0 → sI.ms = sS.ms ∧ sI.gs = sS.gs ∧ sS.gs.length ≤ 40 ∧ sS.ms.length ≤ 20000)) := by
  have e1 := specTerms_ev xs hw
  have e2 := implTerms_ev xs
  have f1 := specTerms_ev ys hv
  have f2 := implTerms_ev ys
  cases t : termsOk xs with
  | false =>
    rw [t] at e1 e2
    left
    refine ⟨1, _, by decide, Ev.congr (fun k => by unfold spec_l04EightGiven.f; rfl) (Ev.bind e1 (Ev.congr (fun k => if_neg Bool.false_ne_true) ?_)), Ev.congr (fun k => by unfold eightX; rfl) (Ev.bind e2 (Ev.congr (fun k => if_neg Bool.false_ne_true) (Ev.now _)))⟩
    exact Ev.step (fun k => by rw [spec_l04EightGiven.j0]) (Ev.congr (fun k => if_pos rfl) (Ev.now _))
  | true =>
    rw [t] at e1 e2
    cases u : termsOk ys with
    | false =>
      rw [u] at f1 f2
      left
      refine ⟨1, _, by decide, Ev.congr (fun k => by unfold spec_l04EightGiven.f; rfl) (Ev.bind e1 (Ev.congr (fun k => if_pos rfl) (Ev.bind f1 ?_))), Ev.congr (fun k => by unfold eightX; rfl) (Ev.bind e2 (Ev.congr (fun k => if_pos rfl) (Ev.bind f2 (Ev.congr (fun k => if_neg Bool.false_ne_true) (Ev.now _)))))⟩
      exact Ev.step (fun k => by rw [spec_l04EightGiven.j0]) (Ev.congr (fun k => if_pos (by decide)) (Ev.now _))
    | true =>
      rw [u] at f1 f2
      have hg : Ev (fun k => spec_l04EightGiven.f k T0 T1 T2 T3 L0 L1 L2 L3 xs ys) (if inP T0 = true ∧ inP L0 = true ∧ inP T1 = true ∧ inP L1 = true ∧ inP T2 = true ∧ inP L2 = true ∧ inP T3 = true ∧ inP L3 = true then 0 else 2) := by
        refine Ev.congr (fun k => by unfold spec_l04EightGiven.f; rfl) (Ev.bind e1 (Ev.congr (fun k => if_pos rfl) (Ev.bind f1 ?_)))
        exact Ev.step (fun k => by rw [spec_l04EightGiven.j0]) (Ev.congr (fun k => if_neg (by decide)) (given8_loop T0 T1 T2 T3 L0 L1 L2 L3))
      by_cases c : (inP T0 = true ∧ inP T1 = true ∧ inP T2 = true ∧ inP T3 = true) ∧ inP L0 = true ∧ inP L1 = true ∧ inP L2 = true ∧ inP L3 = true
      · right
        rw [if_pos ⟨c.1.1, c.2.1, c.1.2.1, c.2.2.1, c.1.2.2.1, c.2.2.2.1, c.1.2.2.2, c.2.2.2.2⟩] at hg
        have hx := xs_ok t
        have hy := xs_ok u
        obtain ⟨sS, sI, r1, r2, r3⟩ := both_end8 hx hy _ _ _ true (eight_inv hx hy c.1 c.2) rfl (by show 0 ≤ 40; omega) (Or.inl rfl)
        obtain ⟨cd, c1, c2, c3⟩ := ends_code8 r3
        refine ⟨sS, sI, cd, hg, r1.ev, c1, ?_, c3⟩
        refine Ev.congr (fun k => by unfold eightX; rfl) (Ev.bind e2 (Ev.congr (fun k => if_pos rfl) (Ev.bind f2 (Ev.congr (fun k => (if_pos rfl).trans (if_pos c)) ?_))))
        refine Ev.bind r2.ev ?_
        refine Ev.bind c2 ?_
        exact Ev.now _
      · left
        rw [if_neg (fun z => c ⟨⟨z.1, z.2.2.1, z.2.2.2.2.1, z.2.2.2.2.2.2.1⟩, z.2.1, z.2.2.2.1, z.2.2.2.2.2.1, z.2.2.2.2.2.2.2⟩)] at hg
        exact ⟨2, _, by decide, hg, Ev.congr (fun k => by unfold eightX; rfl) (Ev.bind e2 (Ev.congr (fun k => if_pos rfl) (Ev.bind f2 (Ev.congr (fun k => (if_pos rfl).trans (if_neg c)) (Ev.now _)))))⟩
/-! ### what a machine with eight numbers makes of two values; the order of its takes -/
/-- The law's look at the kinds of moves: the last kind, and how many terms of x and of y were taken. -/
def scan (X Y : Int) : List S52 → Int → Int → Int → Option (Int × Int × Int)
  | [], last, l, r => some (last, l, r)
  | m :: ms, last, l, r => if m.f0 = 1 then scan X Y ms last l r else if l ≤ X ∧ r ≤ Y ∧ m.f0 = last then none else if m.f0 = 2 then scan X Y ms m.f0 (l + 1) r else scan X Y ms m.f0 l (r + 1)
theorem scan_app (X Y : Int) (m : S52) : ∀ (ms : List S52) (last l r : Int), scan X Y (ms ++ [m]) last l r = (scan X Y ms last l r).bind fun t => scan X Y [m] t.1 t.2.1 t.2.2
  | [], last, l, r => rfl
  | a :: ms, last, l, r => by
    rw [List.cons_append]
    simp only [scan]
    by_cases c : a.f0 = 1
    · rw [if_pos c, if_pos c]; exact scan_app X Y m ms last l r
    · rw [if_neg c, if_neg c]
      by_cases d : l ≤ X ∧ r ≤ Y ∧ a.f0 = last
      · rw [if_pos d, if_pos d]; rfl
      · rw [if_neg d, if_neg d]
        by_cases e : a.f0 = 2
        · rw [if_pos e, if_pos e]; exact scan_app X Y m ms _ _ _
        · rw [if_neg e, if_neg e]; exact scan_app X Y m ms _ _ _
/-- A map of two values. -/
def bil (t0 t1 t2 t3 : Int) (u v : Int × Int) : Int := t0 * (u.1 * v.1) + t1 * (u.1 * v.2) + t2 * (u.2 * v.1) + t3 * (u.2 * v.2)
theorem bil_give (t0 t1 t2 t3 l0 l1 l2 l3 q : Int) (u v : Int × Int) : bil (l0 * -q + t0) (l1 * -q + t1) (l2 * -q + t2) (l3 * -q + t3) u v = bil t0 t1 t2 t3 u v - q * bil l0 l1 l2 l3 u v := by
  unfold bil; grind
theorem bil_left (t0 t1 t2 t3 a x y : Int) (v : Int × Int) : bil t0 t1 t2 t3 (a * x + y, x) v = bil (t0 * a + t2) (t1 * a + t3) t0 t1 (x, y) v := by
  unfold bil; grind
theorem bil_right (t0 t1 t2 t3 a x y : Int) (u : Int × Int) : bil t0 t1 t2 t3 u (a * x + y, x) = bil (t0 * a + t1) t0 (t2 * a + t3) t2 u (x, y) := by
  unfold bil; grind
structure EV (xs ys : List Int) (N : Int × Int) (s : ESt) (m n : Nat) : Prop where
  tm : s.i = (m : Int)
  tn : s.j = (n : Int)
  eq : gapp s.gs (bil s.T0 s.T1 s.T2 s.T3 (cf (xs.drop m)) (cf (ys.drop n)), bil s.L0 s.L1 s.L2 s.L3 (cf (xs.drop m)) (cf (ys.drop n))) = N
  sc : ∃ last, scan (xs.length : Int) (ys.length : Int) s.ms 3 0 0 = some (last, s.i, s.j) ∧ (s.i ≤ (xs.length : Int) → s.j ≤ (ys.length : Int) → last = if s.lf = true then 3 else 2)
section
variable {xs ys : List Int} {N : Int × Int} {s : ESt} {m n : Nat}
theorem EV.give (h : EV xs ys N s m n) {q : Int} (ho : GiveOk s q = true) (f : Bool) : EV xs ys N (giveT s q f) m n := by
  unfold GiveOk at ho
  simp only [Bool.and_eq_true] at ho
  obtain ⟨⟨⟨h0, h1⟩, h2⟩, h3⟩ := ho
  refine ⟨h.tm, h.tn, ?_, ?_⟩
  · show gapp (s.gs ++ [q]) (bil s.L0 s.L1 s.L2 s.L3 _ _, bil (cellR s.L0 (-q) s.T0).1 (cellR s.L1 (-q) s.T1).1 (cellR s.L2 (-q) s.T2).1 (cellR s.L3 (-q) s.T3).1 _ _) = N
    rw [(cellR_ok h0).1, (cellR_ok h1).1, (cellR_ok h2).1, (cellR_ok h3).1, gapp_app, bil_give, ← h.eq]
    congr 1
    refine Prod.ext ?_ rfl
    simp only
    omega
  · obtain ⟨last, e, h4⟩ := h.sc
    refine ⟨last, ?_, h4⟩
    show scan _ _ (s.ms ++ [(⟨1, q⟩ : S52)]) 3 0 0 = some (last, s.i, s.j)
    rw [scan_app, e]
    rfl
theorem scan_take {X Y : Int} {ms : List S52} {k a last i j : Int} {lf : Bool} (e : scan X Y ms 3 0 0 = some (last, i, j)) (h : i ≤ X → j ≤ Y → last = if lf = true then 3 else 2) (hk : i ≤ X → j ≤ Y → k = if lf = true then 2 else 3) (h1 : k = 2 ∨ k = 3) :
    scan X Y (ms ++ [(⟨k, a⟩ : S52)]) 3 0 0 = some (k, if k = 2 then i + 1 else i, if k = 2 then j else j + 1) := by
  rw [scan_app, e]
  simp only [Option.bind_some, scan]
  rw [if_neg (by omega), if_neg (by
    rintro ⟨a1, a2, a3⟩
    rw [h a1 a2, hk a1 a2] at a3
    cases lf <;> simp at a3)]
  rcases h1 with rfl | rfl
  · rfl
  · rfl
theorem EV.leftSc (h : EV xs ys N s m n) (ht : s.lf = true ∨ (ys.length : Int) < s.j) (a : Int) : ∃ last, scan (xs.length : Int) (ys.length : Int) (s.ms ++ [(⟨2, a⟩ : S52)]) 3 0 0 = some (last, s.i + 1, s.j) ∧ (s.i + 1 ≤ (xs.length : Int) → s.j ≤ (ys.length : Int) → last = if (!s.lf) = true then 3 else 2) := by
  obtain ⟨last, e, h4⟩ := h.sc
  refine ⟨2, scan_take e h4 (fun h1 h2 => ?_) (Or.inl rfl), fun h1 h2 => ?_⟩
  · rw [ht.resolve_right (by omega)]; rfl
  · rw [ht.resolve_right (by omega)]; rfl
theorem EV.rightSc (h : EV xs ys N s m n) (ht : ¬ ((s.lf = true ∨ (ys.length : Int) < s.j) ∧ ¬ (xs.length : Int) < s.i)) (a : Int) : ∃ last, scan (xs.length : Int) (ys.length : Int) (s.ms ++ [(⟨3, a⟩ : S52)]) 3 0 0 = some (last, s.i, s.j + 1) ∧ (s.i ≤ (xs.length : Int) → s.j + 1 ≤ (ys.length : Int) → last = if (!s.lf) = true then 3 else 2) := by
  obtain ⟨last, e, h4⟩ := h.sc
  have hf : s.i ≤ (xs.length : Int) → s.lf = false := fun h1 => by
    cases hl : s.lf with
    | false => rfl
    | true => exact absurd ⟨Or.inl hl, by omega⟩ ht
  refine ⟨3, scan_take e h4 (fun h1 h2 => ?_) (Or.inr rfl), fun h1 h2 => ?_⟩
  · rw [hf h1]; rfl
  · rw [hf h1]; rfl
theorem EV.leftT (h : EV xs ys N s m n) (hm : m < xs.length) (ht : s.lf = true ∨ (ys.length : Int) < s.j) {a : Int} (ha : a = xs.getD m 0) (ho : LeftOk s a = true) (f : Bool) : EV xs ys N (leftT s a (!s.lf) f) (m + 1) n := by
  unfold LeftOk at ho
  simp only [Bool.and_eq_true] at ho
  obtain ⟨⟨⟨h0, h1⟩, h2⟩, h3⟩ := ho
  have hd : xs.drop m = a :: xs.drop (m + 1) := by rw [ha]; exact drop_cons_getD hm
  refine ⟨by show s.i + 1 = _; rw [h.tm]; rfl, h.tn, ?_, h.leftSc ht a⟩
  show gapp s.gs (bil (cellR s.T0 a s.T2).1 (cellR s.T1 a s.T3).1 s.T0 s.T1 _ _, bil (cellR s.L0 a s.L2).1 (cellR s.L1 a s.L3).1 s.L0 s.L1 _ _) = N
  rw [(cellR_ok h0).1, (cellR_ok h1).1, (cellR_ok h2).1, (cellR_ok h3).1, ← h.eq, hd]
  show _ = gapp s.gs (bil s.T0 s.T1 s.T2 s.T3 (a * (cf (xs.drop (m + 1))).1 + (cf (xs.drop (m + 1))).2, (cf (xs.drop (m + 1))).1) _, bil s.L0 s.L1 s.L2 s.L3 (a * (cf (xs.drop (m + 1))).1 + (cf (xs.drop (m + 1))).2, (cf (xs.drop (m + 1))).1) _)
  rw [bil_left, bil_left]
theorem EV.leftI (h : EV xs ys N s m n) (hm : m = xs.length) (ht : s.lf = true ∨ (ys.length : Int) < s.j) : EV xs ys N (leftI s (!s.lf)) (m + 1) n := by
  have hd : xs.drop m = [] := List.drop_eq_nil_of_le (by omega)
  have hd2 : xs.drop (m + 1) = [] := List.drop_eq_nil_of_le (by omega)
  refine ⟨by show s.i + 1 = _; rw [h.tm]; rfl, h.tn, ?_, h.leftSc ht 0⟩
  show gapp s.gs (bil s.T0 s.T1 s.T0 s.T1 _ _, bil s.L0 s.L1 s.L0 s.L1 _ _) = N
  rw [← h.eq, hd, hd2]
  simp [bil, cf]
theorem EV.rightT (h : EV xs ys N s m n) (hn : n < ys.length) (ht : ¬ ((s.lf = true ∨ (ys.length : Int) < s.j) ∧ ¬ (xs.length : Int) < s.i)) {a : Int} (ha : a = ys.getD n 0) (ho : RightOk s a = true) (f : Bool) : EV xs ys N (rightT s a (!s.lf) f) m (n + 1) := by
  unfold RightOk at ho
  simp only [Bool.and_eq_true] at ho
  obtain ⟨⟨⟨h0, h1⟩, h2⟩, h3⟩ := ho
  have hd : ys.drop n = a :: ys.drop (n + 1) := by rw [ha]; exact drop_cons_getD hn
  refine ⟨h.tm, by show s.j + 1 = _; rw [h.tn]; rfl, ?_, h.rightSc ht a⟩
  show gapp s.gs (bil (cellR s.T0 a s.T1).1 s.T0 (cellR s.T2 a s.T3).1 s.T2 _ _, bil (cellR s.L0 a s.L1).1 s.L0 (cellR s.L2 a s.L3).1 s.L2 _ _) = N
  rw [(cellR_ok h0).1, (cellR_ok h1).1, (cellR_ok h2).1, (cellR_ok h3).1, ← h.eq, hd]
  show _ = gapp s.gs (bil s.T0 s.T1 s.T2 s.T3 _ (a * (cf (ys.drop (n + 1))).1 + (cf (ys.drop (n + 1))).2, (cf (ys.drop (n + 1))).1), bil s.L0 s.L1 s.L2 s.L3 _ (a * (cf (ys.drop (n + 1))).1 + (cf (ys.drop (n + 1))).2, (cf (ys.drop (n + 1))).1))
  rw [bil_right, bil_right]
theorem EV.rightI (h : EV xs ys N s m n) (hn : n = ys.length) (ht : ¬ ((s.lf = true ∨ (ys.length : Int) < s.j) ∧ ¬ (xs.length : Int) < s.i)) : EV xs ys N (rightI s (!s.lf)) m (n + 1) := by
  have hd : ys.drop n = [] := List.drop_eq_nil_of_le (by omega)
  have hd2 : ys.drop (n + 1) = [] := List.drop_eq_nil_of_le (by omega)
  refine ⟨h.tm, by show s.j + 1 = _; rw [h.tn]; rfl, ?_, h.rightSc ht 0⟩
  show gapp s.gs (bil s.T0 s.T0 s.T2 s.T2 _ _, bil s.L0 s.L0 s.L2 s.L2 _ _) = N
  rw [← h.eq, hd, hd2]
  simp [bil, cf]
end
theorem specE_vals {xs ys : List Int} (hx : XsOk xs) (hy : XsOk ys) (N : Int × Int) (n : Nat) : ∀ (s : ESt) (p a b : Nat), EInv xs ys s p n → EV xs ys N s a b → s.ov = true → ∃ sf, Ev2 (fun k m => runE k xs ys m s) sf ∧ (sf.ov = false ∨ (sf.L0 = 0 ∧ EV xs ys N sf (xs.length + 1) (ys.length + 1) ∧ ∀ z ∈ sf.gs, Sm z)) := by
  induction n using Nat.strongRecOn with
  | ind n ih =>
  intro s p a b hI hV ho
  have hg := hI.grd hx hy
  have i1 := hI.i1; have j1 := hI.j1
  have tm := hV.tm; have tn := hV.tn
  by_cases h : ((xs.length : Int) < s.i ∧ (ys.length : Int) < s.j) ∧ s.L0 = 0
  · refine ⟨s, runE_stop ho hg (E_end h), Or.inr ⟨h.2, ?_, hI.gb⟩⟩
    rw [show xs.length + 1 = a by omega, show ys.length + 1 = b by omega]
    exact hV
  obtain ⟨q, al, ha⟩ : ∃ q al, alikeG (cornT s) (cornL s) = (q, al) := ⟨_, _, rfl⟩
  by_cases hgv : al = true ∧ 0 < s.i ∧ 0 < s.j
  · obtain ⟨rfl, ti, tj⟩ := hgv
    obtain ⟨hc, hq, hm⟩ := hI.first ha
    have hs := E_give hI h ha ti tj hm
    rw [ho, Bool.true_and] at hs
    cases h1 : GiveOk s q with
    | false => rw [h1] at hs; exact ⟨_, runE_next ho hg hs (runE_bad rfl), Or.inl rfl⟩
    | true =>
      rw [h1] at hs
      obtain ⟨p', n', hn, hJ⟩ := hI.giveT hc hq h1 true
      obtain ⟨sf, r1, r2⟩ := ih n' hn _ p' a b hJ (hV.give h1 true) rfl
      exact ⟨sf, runE_next ho hg hs r1, r2⟩
  by_cases hb : (xs.length : Int) < s.i ∧ (ys.length : Int) < s.j
  · exfalso
    have hl := hI.last (by omega) (by omega) (fun hz => h ⟨hb, hz⟩)
    rw [ha] at hl
    have i0 := hI.i0
    exact hgv ⟨congrArg Prod.snd hl, by omega, by omega⟩
  by_cases ht : (s.lf = true ∨ (ys.length : Int) < s.j) ∧ ¬ (xs.length : Int) < s.i
  · by_cases hi : s.i < (xs.length : Int)
    · have hs := E_left hI hx ha hgv ht.1 hi
      rw [ho, Bool.true_and] at hs
      have hr : rd xs s.i = xs.getD a 0 := by rw [tm, rd_nat]
      cases h1 : LeftOk s (rd xs s.i) with
      | false => rw [h1] at hs; exact ⟨_, runE_next ho hg hs (runE_bad rfl), Or.inl rfl⟩
      | true =>
        rw [h1] at hs
        obtain ⟨n', hn, hJ⟩ := hI.leftT hi h1 (!s.lf) true
        obtain ⟨sf, r1, r2⟩ := ih n' hn _ _ (a + 1) b hJ (hV.leftT (by omega) ht.1 hr h1 true) rfl
        exact ⟨sf, runE_next ho hg hs r1, r2⟩
    · have hs := E_leftI hI ha hgv ht.1 (by omega)
      obtain ⟨n', hn, hJ⟩ := hI.leftI (by omega) (!s.lf)
      obtain ⟨sf, r1, r2⟩ := ih n' hn _ _ (a + 1) b hJ (hV.leftI (by omega) ht.1) ho
      exact ⟨sf, runE_next ho hg hs r1, r2⟩
  · have hj0 : ¬ (ys.length : Int) < s.j := fun hz => ht ⟨Or.inr hz, fun hz2 => hb ⟨hz2, hz⟩⟩
    by_cases hj : s.j < (ys.length : Int)
    · have hs := E_right hI hy ha hgv ht hj
      rw [ho, Bool.true_and] at hs
      have hr : rd ys s.j = ys.getD b 0 := by rw [tn, rd_nat]
      cases h1 : RightOk s (rd ys s.j) with
      | false => rw [h1] at hs; exact ⟨_, runE_next ho hg hs (runE_bad rfl), Or.inl rfl⟩
      | true =>
        rw [h1] at hs
        obtain ⟨n', hn, hJ⟩ := hI.rightT hj h1 (!s.lf) true
        obtain ⟨sf, r1, r2⟩ := ih n' hn _ _ a (b + 1) hJ (hV.rightT (by omega) ht hr h1 true) rfl
        exact ⟨sf, runE_next ho hg hs r1, r2⟩
    · have hs := E_rightI hI ha hgv ht (by omega)
      obtain ⟨n', hn, hJ⟩ := hI.rightI (by omega) (!s.lf)
      obtain ⟨sf, r1, r2⟩ := ih n' hn _ _ a (b + 1) hJ (hV.rightI (by omega) ht) ho
      exact ⟨sf, runE_next ho hg hs r1, r2⟩
theorem rdM_get (xs : List S52) (i : Nat) (h : i < xs.length) : rd_T52 xs (i : Int) = xs[i] := by
  simp [rd_T52, h]
theorem ratio_small2 {gs : List Int} (h : termsOk gs = true) (hp : ((cf gs).1.natAbs : Int) + (cf gs).2 ≤ 2147483648) : Ev (fun k => impl_RatioOf.f k gs) ((cf gs).1, (cf gs).2, 0) := by
  obtain ⟨-, a, l, rfl, hl⟩ := cf_snd_pos h
  refine (ratio_both h (fun i => ?_)).2
  have := cf_begin a l hl i
  omega
theorem eight_joint {T0 T1 T2 T3 L0 L1 L2 L3 : Int} {xs ys : List Int} (da : Drawn xs) (db : Drawn ys) (hT : inP T0 = true ∧ inP T1 = true ∧ inP T2 = true ∧ inP T3 = true) (hL : inP L0 = true ∧ inP L1 = true ∧ inP L2 = true ∧ inP L3 = true) :
    ∃ (gs : List Int) (ms : List S52) (c : Int), (gs.length ≤ 20000 ∧ ms.length ≤ 20000) ∧ (Ev (fun k => spec_EightTerms.f k T0 T1 T2 T3 L0 L1 L2 L3 xs ys) (gs, c) ∧ Ev (fun k => impl_EightTerms.f k T0 T1 T2 T3 L0 L1 L2 L3 xs ys) (gs, c)) ∧ (Ev (fun k => spec_EightMoves.f k T0 T1 T2 T3 L0 L1 L2 L3 xs ys) (ms, c) ∧ Ev (fun k => impl_EightMoves.f k T0 T1 T2 T3 L0 L1 L2 L3 xs ys) (ms, c)) ∧
      (∃ last l r, scan (xs.length : Int) (ys.length : Int) ms 3 0 0 = some (last, l, r) ∧ l ≤ (xs.length : Int) + 1 ∧ r ≤ (ys.length : Int) + 1) ∧
      ((c = 3 ∧ gs = []) ∨ (c = 4 ∧ gs = [] ∧ bil L0 L1 L2 L3 (cf xs) (cf ys) = 0) ∨
       (c = 0 ∧ termsOk gs = true ∧ ∃ a, bil T0 T1 T2 T3 (cf xs) (cf ys) = a * (cf gs).1 ∧ bil L0 L1 L2 L3 (cf xs) (cf ys) = a * (cf gs).2)) := by
  have t := drawn_ok da
  have u := drawn_ok db
  have hw := terms_wide t
  have hv := terms_wide u
  have hx := xs_ok t
  have hy := xs_ok u
  have hsc : ∃ last l r, scan (xs.length : Int) (ys.length : Int) [] 3 0 0 = some (last, l, r) ∧ l ≤ (xs.length : Int) + 1 ∧ r ≤ (ys.length : Int) + 1 := ⟨3, 0, 0, rfl, by omega, by omega⟩
  rcases eight_all T0 T1 T2 T3 L0 L1 L2 L3 hw hv with ⟨c, st, hc, g1, g2⟩ | ⟨sS, sI, c, g1, g2, g3, g4, g5⟩
  · exfalso
    have e1 := specTerms_ev xs hw
    rw [t] at e1
    have f1 := specTerms_ev ys hv
    rw [u] at f1
    have hg := given8_loop T0 T1 T2 T3 L0 L1 L2 L3
    rw [if_pos ⟨hT.1, hL.1, hT.2.1, hL.2.1, hT.2.2.1, hL.2.2.1, hT.2.2.2, hL.2.2.2⟩] at hg
    have hz : Ev (fun k => spec_l04EightGiven.f k T0 T1 T2 T3 L0 L1 L2 L3 xs ys) 0 := by
      refine Ev.congr (fun k => by unfold spec_l04EightGiven.f; rfl) (Ev.bind e1 (Ev.congr (fun k => if_pos rfl) (Ev.bind f1 ?_)))
      exact Ev.step (fun k => by rw [spec_l04EightGiven.j0]) (Ev.congr (fun k => if_neg (by decide)) hg)
    exact hc (ev_uniq g1 hz)
  · obtain ⟨sf, r1, r2⟩ := specE_vals hx hy (bil T0 T1 T2 T3 (cf xs) (cf ys), bil L0 L1 L2 L3 (cf xs) (cf ys)) _ _ _ 0 0 (eight_inv hx hy hT hL) ⟨rfl, rfl, rfl, 3, rfl, fun _ _ => rfl⟩ rfl
    obtain rfl := ev_uniq g2 r1.ev
    have hno : c ≠ 0 → (Ev (fun k => spec_EightTerms.f k T0 T1 T2 T3 L0 L1 L2 L3 xs ys) ([], c) ∧ Ev (fun k => impl_EightTerms.f k T0 T1 T2 T3 L0 L1 L2 L3 xs ys) ([], c)) ∧ (Ev (fun k => spec_EightMoves.f k T0 T1 T2 T3 L0 L1 L2 L3 xs ys) ([], c) ∧ Ev (fun k => impl_EightMoves.f k T0 T1 T2 T3 L0 L1 L2 L3 xs ys) ([], c)) := by
      intro z
      refine ⟨⟨?_, Ev.congr (fun k => by unfold impl_EightTerms.f; rfl) (Ev.bind g4 (Ev.congr (fun k => if_neg z) (Ev.now _)))⟩, ?_, Ev.congr (fun k => by unfold impl_EightMoves.f; rfl) (Ev.bind g4 (Ev.congr (fun k => if_neg z) (Ev.now _)))⟩
      · refine Ev.congr (fun k => by unfold spec_EightTerms.f; rfl) (Ev.bind g1 (Ev.congr (fun k => if_pos rfl) (Ev.bind g2 (Ev.bind g3 ?_))))
        simp only [if_neg z]
        exact Ev.now _
      · refine Ev.congr (fun k => by unfold spec_EightMoves.f; rfl) (Ev.bind g1 (Ev.congr (fun k => if_pos rfl) (Ev.bind g2 (Ev.bind g3 ?_))))
        simp only [if_neg z]
        exact Ev.now _
    rcases r2 with r2 | ⟨r2, r3, r4⟩
    · have hc : c = 3 := ev_uniq g3 (Ev.congr (fun k => by unfold spec_l04Work_end.f; rw [r2]; exact if_neg (by simp)) (Ev.now _))
      exact ⟨[], [], c, by simp, (hno (by omega)).1, (hno (by omega)).2, hsc, Or.inl ⟨hc, rfl⟩⟩
    · cases ho : sS.ov with
      | false =>
        have hc : c = 3 := ev_uniq g3 (Ev.congr (fun k => by unfold spec_l04Work_end.f; rw [ho]; exact if_neg (by simp)) (Ev.now _))
        exact ⟨[], [], c, by simp, (hno (by omega)).1, (hno (by omega)).2, hsc, Or.inl ⟨hc, rfl⟩⟩
      | true =>
        have hd : xs.drop (xs.length + 1) = [] := List.drop_eq_nil_of_le (by omega)
        have hd2 : ys.drop (ys.length + 1) = [] := List.drop_eq_nil_of_le (by omega)
        have heq := r3.eq
        have eb : ∀ a0 a1 a2 a3 : Int, bil a0 a1 a2 a3 (1, 0) (1, 0) = a0 := fun a0 a1 a2 a3 => by simp [bil]
        rw [hd, hd2] at heq
        simp only [cf] at heq
        rw [eb, eb, r2, gapp_cf] at heq
        by_cases z : (sS.gs.length : Int) = 0
        · have hc : c = 4 := ev_uniq g3 (Ev.congr (fun k => by unfold spec_l04Work_end.f; rw [ho]; exact (if_pos rfl).trans (if_pos z)) (Ev.now _))
          have hgs : sS.gs = [] := List.eq_nil_of_length_eq_zero (by omega)
          rw [hgs] at heq
          refine ⟨[], [], c, by simp, (hno (by omega)).1, (hno (by omega)).2, hsc, Or.inr (Or.inl ⟨hc, rfl, ?_⟩)⟩
          have := congrArg Prod.snd heq
          simp only [cf, Int.mul_zero] at this
          exact this.symm
        · have e1 := specTerms_ev sS.gs (sm_word r4)
          cases tg : termsOk sS.gs with
          | false =>
            rw [tg] at e1
            have hc : c = 3 := ev_uniq g3 (Ev.congr (fun k => by unfold spec_l04Work_end.f; rw [ho]; exact (if_pos rfl).trans (if_neg z)) (Ev.bind e1 (Ev.congr (fun k => if_neg Bool.false_ne_true) (Ev.now _))))
            exact ⟨[], [], c, by simp, (hno (by omega)).1, (hno (by omega)).2, hsc, Or.inl ⟨hc, rfl⟩⟩
          | true =>
            rw [tg] at e1
            have hc : c = 0 := ev_uniq g3 (Ev.congr (fun k => by unfold spec_l04Work_end.f; rw [ho]; exact (if_pos rfl).trans (if_neg z)) (Ev.bind e1 (Ev.congr (fun k => if_pos rfl) (Ev.now _))))
            subst hc
            obtain ⟨e2, e3, e4, e5⟩ := g5 rfl
            obtain ⟨last, hs, -⟩ := r3.sc
            have tm := r3.tm
            have tn := r3.tn
            refine ⟨sS.gs, sS.ms, 0, ⟨by omega, e5⟩, ⟨?_, ?_⟩, ⟨?_, ?_⟩, ⟨last, _, _, hs, by omega, by omega⟩, Or.inr (Or.inr ⟨rfl, tg, sS.T0, (congrArg Prod.fst heq).symm, (congrArg Prod.snd heq).symm⟩)⟩
            · refine Ev.congr (fun k => by unfold spec_EightTerms.f; rfl) (Ev.bind g1 (Ev.congr (fun k => if_pos rfl) (Ev.bind g2 (Ev.bind g3 ?_))))
              exact Ev.now _
            · rw [← e3]
              exact Ev.congr (fun k => by unfold impl_EightTerms.f; rfl) (Ev.bind g4 (Ev.congr (fun k => if_pos rfl) (Ev.now _)))
            · refine Ev.congr (fun k => by unfold spec_EightMoves.f; rfl) (Ev.bind g1 (Ev.congr (fun k => if_pos rfl) (Ev.bind g2 (Ev.bind g3 ?_))))
              exact Ev.now _
            · rw [← e2]
              exact Ev.congr (fun k => by unfold impl_EightMoves.f; rfl) (Ev.bind g4 (Ev.congr (fun k => if_pos rfl) (Ev.now _)))
theorem moves_loop8 (xs ys : List Int) (ms : List S52) (hms : ms.length ≤ 20000) (hxs : xs.length ≤ 40) (hys : ys.length ≤ 40) (d : Nat) :
    ∀ (i : Nat) (last l r : Int), i + d = ms.length → 0 ≤ l → l ≤ (i : Int) → 0 ≤ r → r ≤ (i : Int) → (∃ la lb rb, scan (xs.length : Int) (ys.length : Int) (ms.drop i) last l r = some (la, lb, rb) ∧ lb ≤ (xs.length : Int) + 1 ∧ rb ≤ (ys.length : Int) + 1) → Ev (fun k => laws_FnEights.l0 k xs ys ms ms last l r (i : Int)) true := by
  induction d with
  | zero =>
    rintro i last l r hi l0 l1 r0 r1 ⟨la, lb, rb, hs, hl, hr⟩
    have hd : ms.drop i = [] := List.drop_eq_nil_of_le (by omega)
    rw [hd] at hs
    simp only [scan, Option.some.injEq, Prod.mk.injEq] at hs
    obtain ⟨rfl, rfl, rfl⟩ := hs
    refine Ev.step (fun k => by rw [laws_FnEights.l0]) (Ev.congr (fun k => if_neg (by omega)) ?_)
    rw [wrap64_id (by omega) (by omega), wrap64_id (by omega) (by omega)]
    refine Ev.congr (fun k => if_pos hl) ?_
    rw [decide_eq_true hr]
    exact Ev.now _
  | succ d ih =>
    rintro i last l r hi l0 l1 r0 r1 ⟨la, lb, rb, hs, hl, hr⟩
    have hlt : i < ms.length := by omega
    have hd : ms.drop i = ms[i] :: ms.drop (i + 1) := List.drop_eq_getElem_cons hlt
    rw [hd] at hs
    simp only [scan] at hs
    have er := rdM_get ms i hlt
    have ew : wrap64 ((i : Int) + 1) = ((i + 1 : Nat) : Int) := by rw [wrap64_id (by omega) (by omega)]; omega
    refine Ev.step (fun k => by rw [laws_FnEights.l0]) (Ev.congr (fun k => if_pos (by omega)) (Ev.congr (fun k => if_pos (by omega)) (Ev.congr (fun k => if_pos (by omega)) ?_)))
    rw [er]
    refine Ev.congr (fun k => if_neg (by simp)) ?_
    by_cases c1 : ms[i].f0 = 1
    · rw [if_pos c1] at hs
      refine Ev.congr (fun k => if_pos c1) ?_
      rw [ew]
      exact ih (i + 1) last l r (by omega) l0 (by omega) r0 (by omega) ⟨la, lb, rb, hs, hl, hr⟩
    · rw [if_neg c1] at hs
      refine Ev.congr (fun k => if_neg c1) ?_
      by_cases c2 : l ≤ (xs.length : Int) ∧ r ≤ (ys.length : Int) ∧ ms[i].f0 = last
      · rw [if_pos c2] at hs; cases hs
      rw [if_neg c2] at hs
      have hj5 : Ev (fun k => laws_FnEights.j5 k xs ys ms ms l r (i : Int) false) true := by
        refine Ev.step (fun k => by rw [laws_FnEights.j5]) (Ev.congr (fun k => if_neg (by simp)) (Ev.congr (fun k => if_pos (by omega)) (Ev.congr (fun k => if_pos (by omega)) ?_)))
        rw [er, ew]
        by_cases c3 : ms[i].f0 = 2
        · rw [if_pos c3] at hs
          refine Ev.congr (fun k => if_pos c3) ?_
          rw [wrap64_id (n := l + 1) (by omega) (by omega)]
          exact ih (i + 1) _ (l + 1) r (by omega) (by omega) (by omega) r0 (by omega) ⟨la, lb, rb, hs, hl, hr⟩
        · rw [if_neg c3] at hs
          refine Ev.congr (fun k => if_neg c3) ?_
          rw [wrap64_id (n := r + 1) (by omega) (by omega)]
          exact ih (i + 1) _ l (r + 1) (by omega) l0 (by omega) (by omega) (by omega) ⟨la, lb, rb, hs, hl, hr⟩
      by_cases d1 : l ≤ (xs.length : Int)
      · refine Ev.congr (fun k => if_pos d1) ?_
        by_cases d2 : r ≤ (ys.length : Int)
        · have d3 : (ms[i].f0 == last) = false := beq_eq_false_iff_ne.mpr (fun z => c2 ⟨d1, d2, z⟩)
          refine Ev.congr (fun k => if_pos d2) ?_
          rw [d3]
          exact hj5
        · exact Ev.congr (fun k => if_neg d2) hj5
      · exact Ev.congr (fun k => if_neg d1) hj5
theorem prod_b {p q M K : Int} (hM : 0 ≤ M) (h1 : -M ≤ p) (h2 : p ≤ M) (h3 : -K ≤ q) (h4 : q ≤ K) : -(M * K) ≤ p * q ∧ p * q ≤ M * K := by
  have e : (p * q).natAbs ≤ M.natAbs * K.natAbs := by
    rw [Int.natAbs_mul]
    exact Nat.mul_le_mul (by omega) (by omega)
  have e2 : ((M.natAbs * K.natAbs : Nat) : Int) = M * K := by push_cast; rw [show (M.natAbs : Int) = M by omega, show (K.natAbs : Int) = K by omega]
  omega
/-- What both machines with eight numbers give, and what the law makes of it. -/
theorem eight_say {n d : Int} {gs : List Int} {a : Int} (tg : termsOk gs = true) (hn : n = a * (cf gs).1) (hd : d = a * (cf gs).2) (h0 : 1 ≤ d) (h1 : d ≤ 100000000) (h2 : -1900000000 ≤ n ∧ n ≤ 1900000000) :
    Ev (fun k => impl_RatioOf.f k gs) ((cf gs).1, (cf gs).2, 0) ∧ Ev (fun k => spec_l03Make.f k n d) ((cf gs).1, (cf gs).2, 0) := by
  obtain ⟨q1, -⟩ := cf_snd_pos tg
  have ha0 : a ≠ 0 := by
    intro z
    rw [z, Int.zero_mul] at hd
    omega
  have hap : ((cf gs).1.natAbs : Int) ≤ (n.natAbs : Int) := by
    rw [hn, Int.natAbs_mul]
    have : 1 * (cf gs).1.natAbs ≤ a.natAbs * (cf gs).1.natAbs := Nat.mul_le_mul_right _ (by omega)
    omega
  have haq : ((cf gs).2.natAbs : Int) ≤ (d.natAbs : Int) := by
    rw [hd, Int.natAbs_mul]
    have : 1 * (cf gs).2.natAbs ≤ a.natAbs * (cf gs).2.natAbs := Nat.mul_le_mul_right _ (by omega)
    omega
  have hok : ratioOk (cf gs).1 (cf gs).2 = true := by
    unfold ratioOk
    rw [cf_gcd]
    simp
    omega
  refine ⟨ratio_small2 tg (by omega), ?_⟩
  have h := specMake_any (n := n) (d := d) (by omega) (by omega) (by omega)
  rw [hn, hd, makeR_times q1 (cf_gcd gs) ha0, if_pos hok, ← hn, ← hd] at h
  exact h
theorem FnEights : laws_FnEights.Pure := by
  intro x0 x1 ⟨_, hb0⟩ ⟨_, hb1⟩
  apply Ev.rounds (r := true)
  obtain ⟨xs, da, ha⟩ := a2terms_ev x0 hb0
  obtain ⟨ys, db, hb⟩ := a2terms_ev x1 hb1
  obtain ⟨t, ht⟩ : ∃ t, laws_a2Long.f x0 x1 = some t := by unfold laws_a2Long.f; split <;> exact ⟨_, rfl⟩
  refine Ev.congr (fun k => by unfold laws_FnEights.f; rw [ht, Option.bind_some]) ?_
  cases t with
  | true => exact Ev.congr (fun k => if_pos rfl) (Ev.now _)
  | false =>
    have hsa : ∀ i, (((cf (xs.take (i + 1))).1.natAbs : Nat) : Int) ≤ 2147483648 ∧ (cf (xs.take (i + 1))).2 ≤ 2147483648 := fun i => by have := drawn_take da i; omega
    have hsb : ∀ i, (((cf (ys.take (i + 1))).1.natAbs : Nat) : Int) ≤ 2147483648 ∧ (cf (ys.take (i + 1))).2 ≤ 2147483648 := fun i => by have := drawn_take db i; omega
    have ra := drawn_ratio da
    have rb := drawn_ratio db
    have la := (termsOk_is (drawn_ok da)).1
    have lb := (termsOk_is (drawn_ok db)).1
    have iP : ∀ z : Int, -1000000000 ≤ z → z ≤ 1000000000 → inP z = true := fun z h1 h2 => by unfold inP; exact decide_eq_true ⟨h1, h2⟩
    have p0 := iP 0 (by omega) (by omega)
    have p1 := iP 1 (by omega) (by omega)
    obtain ⟨gs, ms, c, ⟨hgl, hml⟩, ⟨s1, s2⟩, ⟨s3, s4⟩, hsc, hcase⟩ := eight_joint (T0 := 0) (T1 := 1) (T2 := 1) (T3 := 0) (L0 := 0) (L1 := 0) (L2 := 0) (L3 := 1) da db ⟨p0, p1, p1, p0⟩ ⟨p0, p0, p0, p1⟩
    obtain ⟨gp, mp, cp, ⟨hgl2, hml2⟩, ⟨u1, u2⟩, ⟨u3, u4⟩, husc, hucase⟩ := eight_joint (T0 := 1) (T1 := 0) (T2 := 0) (T3 := 0) (L0 := 0) (L1 := 0) (L2 := 0) (L3 := 1) da db ⟨p1, p0, p0, p0⟩ ⟨p0, p0, p0, p1⟩
    have eS : bil 0 1 1 0 (cf xs) (cf ys) = (cf xs).1 * (cf ys).2 + (cf ys).1 * (cf xs).2 := by unfold bil; grind
    have eP : bil 1 0 0 0 (cf xs) (cf ys) = (cf xs).1 * (cf ys).1 := by unfold bil; grind
    have eD : bil 0 0 0 1 (cf xs) (cf ys) = (cf xs).2 * (cf ys).2 := by unfold bil; grind
    rw [eS, eD] at hcase
    rw [eP, eD] at hucase
    have m1 := prod_b (p := (cf xs).1) (q := (cf ys).2) (M := 40000) (K := 7776) (by omega) (by omega) (by omega) (by omega) (by omega)
    have m2 := prod_b (p := (cf ys).1) (q := (cf xs).2) (M := 40000) (K := 7776) (by omega) (by omega) (by omega) (by omega) (by omega)
    have m3 := prod_b (p := (cf xs).1) (q := (cf ys).1) (M := 40000) (K := 40000) (by omega) (by omega) (by omega) (by omega) (by omega)
    have m4 := prod_b (p := (cf xs).2) (q := (cf ys).2) (M := 7776) (K := 7776) (by omega) (by omega) (by omega) (by omega) (by omega)
    have m5 : 0 < (cf xs).2 * (cf ys).2 := Int.mul_pos (by omega) (by omega)
    have w1 : wrap64 ((cf xs).1 * (cf ys).2) = (cf xs).1 * (cf ys).2 := wrap64_id (by omega) (by omega)
    have w2 : wrap64 ((cf ys).1 * (cf xs).2) = (cf ys).1 * (cf xs).2 := wrap64_id (by omega) (by omega)
    have w3 : wrap64 ((cf xs).1 * (cf ys).1) = (cf xs).1 * (cf ys).1 := wrap64_id (by omega) (by omega)
    have w4 : wrap64 ((cf xs).2 * (cf ys).2) = (cf xs).2 * (cf ys).2 := wrap64_id (by omega) (by omega)
    have w5 : wrap64 ((cf xs).1 * (cf ys).2 + (cf ys).1 * (cf xs).2) = (cf xs).1 * (cf ys).2 + (cf ys).1 * (cf xs).2 := wrap64_id (by omega) (by omega)
    -- what is behind
    have hj2 : Ev (fun k => laws_FnEights.j2 k xs ys) true := by
      refine Ev.step (fun k => by rw [laws_FnEights.j2]) ?_
      simp only [impl_SumEight.f, spec_SumEight.f, Option.bind_some]
      refine Ev.bind s4 (Ev.bind s3 (Ev.congr (fun k => if_pos rfl) ?_))
      simp only [bne_self_eq_false]
      refine Ev.step (fun k => by rw [laws_FnEights.j3]) (Ev.congr (fun k => if_neg (by simp)) ?_)
      exact moves_loop8 xs ys ms hml la.2 lb.2 ms.length 0 3 0 0 (by omega) (by omega) (by omega) (by omega) (by omega) (by simpa using hsc)
    have hj1 : Ev (fun k => laws_FnEights.j1 k xs ys cp gp (cf xs).1 (cf xs).2 (cf ys).1 (cf ys).2) true := by
      refine Ev.step (fun k => by rw [laws_FnEights.j1]) ?_
      rcases hucase with ⟨rfl, rfl⟩ | ⟨rfl, rfl, hz⟩ | ⟨rfl, tg, a, hn1, hn2⟩
      · exact Ev.congr (fun k => if_neg (by decide)) (Ev.congr (fun k => if_pos rfl) hj2)
      · omega
      · obtain ⟨r1, r2⟩ := eight_say tg hn1 hn2 (by omega) (by omega) (by omega)
        have hsum : Ev (fun k => spec_A2Sum.f k (cf xs).1 (cf xs).2 (cf ys).1 (cf ys).2 true) ((cf gp).1, (cf gp).2, true) := by
          unfold spec_A2Sum.f
          rw [w3, w4]
          exact Ev.congr (fun k => if_pos rfl) (Ev.bind r2 (Ev.now _))
        refine Ev.congr (fun k => if_pos rfl) (Ev.bind r1 (Ev.bind hsum (Ev.congr (fun k => if_pos rfl) (Ev.congr (fun k => if_pos rfl) (Ev.congr (fun k => if_neg (by simp)) hj2)))))
    have hj0 : Ev (fun k => laws_FnEights.j0 k xs ys c gs cp gp false (cf xs).1 (cf xs).2 (cf ys).1 (cf ys).2) true := by
      refine Ev.step (fun k => by rw [laws_FnEights.j0]) (Ev.congr (fun k => if_neg (by simp)) ?_)
      rcases hcase with ⟨rfl, rfl⟩ | ⟨rfl, rfl, hz⟩ | ⟨rfl, tg, a, hn1, hn2⟩
      · exact Ev.congr (fun k => if_neg (by decide)) (Ev.congr (fun k => if_pos rfl) hj1)
      · omega
      · obtain ⟨r1, r2⟩ := eight_say tg hn1 hn2 (by omega) (by omega) (by omega)
        have hsum : Ev (fun k => spec_A2Sum.f k (cf xs).1 (cf xs).2 (cf ys).1 (cf ys).2 false) ((cf gs).1, (cf gs).2, true) := by
          unfold spec_A2Sum.f
          rw [w1, w2, w4, w5]
          exact Ev.congr (fun k => if_neg (by simp)) (Ev.bind r2 (Ev.now _))
        refine Ev.congr (fun k => if_pos rfl) (Ev.bind r1 (Ev.bind hsum (Ev.congr (fun k => if_pos rfl) (Ev.congr (fun k => if_pos rfl) (Ev.congr (fun k => if_neg (by simp)) hj1)))))
    refine Ev.congr (fun k => if_neg (by simp)) (Ev.bind ha (Ev.bind hb (Ev.bind (ratio_both (drawn_ok da) hsa).1 (Ev.bind (ratio_both (drawn_ok db) hsb).1 ?_))))
    simp only [impl_SumEight.f, spec_SumEight.f, impl_ProductEight.f, spec_ProductEight.f, Option.bind_some]
    refine Ev.bind s2 (Ev.bind s1 (Ev.bind u2 (Ev.bind u1 ?_)))
    refine Ev.congr (fun k => if_pos rfl) (Ev.bind (same_ev gs (by omega)) (Ev.congr (fun k => if_pos rfl) (Ev.congr (fun k => if_pos rfl) (Ev.bind (same_ev gp (by omega)) ?_))))
    exact hj0
end Go.Proofs.Ytgldplkbacfacaa.Pure
