/- Terms and ratios are found from each other and compared as each other, convergents lie on both sides of the value in turns and end with it, and terms are read from their texts, for all drawn bytes. -/
import Derived.Test.YtcldnanpdpfhlaaDoorMFnTermsx8
import Derived.Test.YtcldnanpdpfhlaaDoorMOpen
namespace Go.Proofs.YtcldnanpdpfhlaaDoor.Pure
open Go.RowKit Go.Proofs.YtcldnanpdpfhlaaDoor.MFnTerms Go.Proofs.YtcldnanpdpfhlaaDoor.MOpen Go.Proofs.YtcldnanpdpfhlaaDoorW.PrintWords Go.Proofs.YtcldnanpdpfhlaaDoorW.PrintLast Go.Proofs.YtcldnanpdpfhlaaDoorW.PrintMore
set_option linter.unusedVariables false
set_option linter.unusedSimpArgs false
theorem wrap64_id {n : Int} (h0 : -9223372036854775808 ≤ n) (h1 : n ≤ 9223372036854775807) : wrap64 n = n := by
  unfold wrap64; omega
theorem rd_nat (xs : List Int) (i : Nat) : rd xs (i : Int) = xs.getD i 0 := by simp [rd]
/-- What both say of terms from index i on. -/
def TermsFrom (xs : List Int) (i : Nat) : Prop :=
  (∀ j, i ≤ j → j < xs.length → -1000000000 ≤ xs.getD j 0 ∧ xs.getD j 0 ≤ 1000000000 ∧ (0 < j → 1 ≤ xs.getD j 0)) ∧ (xs.length = 1 ∨ 2 ≤ xs.getD (xs.length - 1) 0)
theorem TermsFrom.step {xs : List Int} {i : Nat} (hi : i < xs.length) : TermsFrom xs i ↔ (-1000000000 ≤ xs.getD i 0 ∧ xs.getD i 0 ≤ 1000000000 ∧ (0 < i → 1 ≤ xs.getD i 0)) ∧ TermsFrom xs (i + 1) := by
  unfold TermsFrom
  constructor
  · rintro ⟨h, e⟩; exact ⟨h i (Nat.le_refl _) hi, fun j h1 h2 => h j (by omega) h2, e⟩
  · rintro ⟨h0, h, e⟩
    refine ⟨fun j h1 h2 => ?_, e⟩
    by_cases c : j = i
    · subst c; exact h0
    · exact h j (by omega) h2
theorem TermsFrom.done {xs : List Int} : TermsFrom xs xs.length ↔ (xs.length = 1 ∨ 2 ≤ xs.getD (xs.length - 1) 0) := by
  unfold TermsFrom
  constructor
  · rintro ⟨_, e⟩; exact e
  · intro e; exact ⟨fun j h1 h2 => by omega, e⟩
open Classical in
noncomputable def termsFrom (xs : List Int) (i : Nat) : Bool := decide (TermsFrom xs i)
open Classical in
theorem termsFrom_bad {xs : List Int} {i : Nat} (hi : i < xs.length) (h : ¬ (-1000000000 ≤ xs.getD i 0 ∧ xs.getD i 0 ≤ 1000000000 ∧ (0 < i → 1 ≤ xs.getD i 0))) : termsFrom xs i = false := by
  unfold termsFrom; rw [decide_eq_false_iff_not, TermsFrom.step hi]; exact fun z => h z.1
open Classical in
theorem termsFrom_good {xs : List Int} {i : Nat} (hi : i < xs.length) (h : (-1000000000 ≤ xs.getD i 0 ∧ xs.getD i 0 ≤ 1000000000 ∧ (0 < i → 1 ≤ xs.getD i 0))) : termsFrom xs i = termsFrom xs (i + 1) := by
  unfold termsFrom; rw [decide_eq_decide, TermsFrom.step hi]; exact ⟨fun z => z.2, fun z => ⟨h, z⟩⟩
open Classical in
theorem termsFrom_one {xs : List Int} (h : xs.length = 1) : termsFrom xs xs.length = true :=
  @decide_eq_true _ _ (TermsFrom.done.2 (.inl h))
open Classical in
theorem termsFrom_end {xs : List Int} (h : xs.length ≠ 1) : termsFrom xs xs.length = decide (xs.getD (xs.length - 1) 0 ≥ 2) := by
  by_cases c : xs.getD (xs.length - 1) 0 ≥ 2
  · rw [show decide (xs.getD (xs.length - 1) 0 ≥ 2) = true from decide_eq_true c]; exact @decide_eq_true _ _ (TermsFrom.done.2 (.inr c))
  · rw [show decide (xs.getD (xs.length - 1) 0 ≥ 2) = false from decide_eq_false c]; exact @decide_eq_false _ _ (fun z => c ((TermsFrom.done.1 z).resolve_left h))
theorem size_small {a : Int} (h0 : -9223372036854775808 ≤ a) (h : a ≤ 9223372036854775807) : ∃ r, spec_l03Size.f a = some r ∧ (r > 1000000000 → ¬ (-1000000000 ≤ a ∧ a ≤ 1000000000)) ∧ (¬ r > 1000000000 → ¬ a < -1000000000 → (-1000000000 ≤ a ∧ a ≤ 1000000000)) := by
  unfold spec_l03Size.f
  split
  · exact ⟨_, rfl, fun h => by unfold wrap64 at h; omega, fun h1 h2 => by unfold wrap64 at h1; omega⟩
  · exact ⟨_, rfl, fun h => by omega, fun h1 h2 => by omega⟩
theorem specTerms_loop (xs : List Int) (hw : ∀ j, j < xs.length → -9223372036854775808 ≤ xs.getD j 0 ∧ xs.getD j 0 ≤ 9223372036854775807) (h1 : 1 ≤ xs.length) (hn : xs.length ≤ 4611686018427387904) (d : Nat) : ∀ (i k : Nat), i + d = xs.length → d < k → spec_l04Terms.l0 k xs (xs.length : Int) (i : Int) = some (termsFrom xs i) := by
  induction d with
  | zero =>
    intro i k hd hk
    obtain ⟨k, rfl⟩ : ∃ m, k = m + 1 := ⟨k - 1, by omega⟩
    obtain rfl : i = xs.length := by omega
    simp only [spec_l04Terms.l0]; rw [if_neg (by omega)]
    by_cases e : xs.length = 1
    · rw [if_pos (by omega), termsFrom_one e]
    · rw [if_neg (by omega), wrap64_id (by omega) (by omega), if_pos (by omega), if_pos (by omega), termsFrom_end e, show ((xs.length : Int) - 1) = ((xs.length - 1 : Nat) : Int) by omega, rd_nat]
  | succ d ih =>
    intro i k hd hk
    obtain ⟨k, rfl⟩ : ∃ m, k = m + 1 := ⟨k - 1, by omega⟩
    have hi : i < xs.length := by omega
    obtain ⟨r, hr, h2, h3⟩ := size_small (hw i hi).1 (hw i hi).2
    simp only [spec_l04Terms.l0, rd_nat]; rw [if_pos (by omega), if_pos (by omega), if_pos (by omega), hr]; simp only [Option.bind_some]
    by_cases c1 : r > 1000000000
    · rw [if_pos c1, termsFrom_bad hi (fun z => h2 c1 ⟨z.1, z.2.1⟩)]
    · rw [if_neg c1]
      by_cases c2 : xs.getD i 0 < -1000000000
      · rw [if_pos c2, termsFrom_bad hi (fun z => by omega)]
      · rw [if_neg c2, wrap64_id (by omega) (by omega)]
        have hg := h3 c1 c2
        by_cases c3 : (i : Int) > 0
        · rw [if_pos c3]
          by_cases c4 : xs.getD i 0 < 1
          · rw [if_pos c4, termsFrom_bad hi (fun z => by have := z.2.2 (by omega); omega)]
          · rw [if_neg c4, termsFrom_good hi ⟨hg.1, hg.2, fun _ => by omega⟩]; exact ih (i + 1) k (by omega) (by omega)
        · rw [if_neg c3, termsFrom_good hi ⟨hg.1, hg.2, fun _ => by omega⟩]; exact ih (i + 1) k (by omega) (by omega)
theorem implTerms_loop (xs : List Int) (h1 : 1 ≤ xs.length) (hn : xs.length ≤ 4611686018427387904) (d : Nat) : ∀ (i k : Nat), i + d = xs.length → d < k → impl_ValidTerms.l0 k xs xs (xs.length : Int) (i : Int) = some (termsFrom xs i) := by
  induction d with
  | zero =>
    intro i k hd hk
    obtain ⟨k, rfl⟩ : ∃ m, k = m + 1 := ⟨k - 1, by omega⟩
    obtain rfl : i = xs.length := by omega
    simp only [impl_ValidTerms.l0]; rw [if_neg (by omega)]
    by_cases e : xs.length = 1
    · rw [if_pos (by omega), termsFrom_one e]
    · rw [if_neg (by omega), wrap64_id (by omega) (by omega), if_pos (by omega), if_pos (by omega), termsFrom_end e, show ((xs.length : Int) - 1) = ((xs.length - 1 : Nat) : Int) by omega, rd_nat]
  | succ d ih =>
    intro i k hd hk
    obtain ⟨k, rfl⟩ : ∃ m, k = m + 1 := ⟨k - 1, by omega⟩
    have hi : i < xs.length := by omega
    have hwi : ∃ b, impl_within.f (xs.getD i 0) (-1000000000) 1000000000 = some b ∧ (b = true ↔ (-1000000000 ≤ xs.getD i 0 ∧ xs.getD i 0 ≤ 1000000000)) := by
      unfold impl_within.f
      split
      · exact ⟨_, rfl, by rw [decide_eq_true_iff]; omega⟩
      · exact ⟨_, rfl, fun z => by simp at z, fun z => by omega⟩
    obtain ⟨b, hb, h2⟩ := hwi
    simp only [impl_ValidTerms.l0, rd_nat]; rw [if_pos (by omega), if_pos (by omega), if_pos (by omega), hb]; simp only [Option.bind_some]
    by_cases c1 : b = true
    · have hg := h2.1 c1
      rw [if_pos c1, wrap64_id (by omega) (by omega)]
      by_cases c3 : (i : Int) > 0
      · rw [if_pos c3]
        by_cases c4 : xs.getD i 0 < 1
        · rw [if_pos c4, termsFrom_bad hi (fun z => by have := z.2.2 (by omega); omega)]
        · rw [if_neg c4, termsFrom_good hi ⟨hg.1, hg.2, fun _ => by omega⟩]; exact ih (i + 1) k (by omega) (by omega)
      · rw [if_neg c3, termsFrom_good hi ⟨hg.1, hg.2, fun _ => by omega⟩]; exact ih (i + 1) k (by omega) (by omega)
    · rw [if_neg c1, termsFrom_bad hi (fun z => c1 (h2.2 ⟨z.1, z.2.1⟩))]
/-- Whether terms are valid. -/
noncomputable def termsOk (xs : List Int) : Bool := decide (1 ≤ xs.length ∧ xs.length ≤ 40) && termsFrom xs 0
theorem specTerms_ev (xs : List Int) (hw : ∀ j, j < xs.length → -9223372036854775808 ≤ xs.getD j 0 ∧ xs.getD j 0 ≤ 9223372036854775807) : Ev (fun k => spec_l04Terms.f k xs) (termsOk xs) := by
  refine ⟨xs.length + 3, fun k hk => ?_⟩
  obtain ⟨k, rfl⟩ : ∃ m, k = m + 1 := ⟨k - 1, by omega⟩
  show spec_l04Terms.f (k + 1) xs = _
  unfold spec_l04Terms.f termsOk
  by_cases c : (xs.length : Int) < 1
  · rw [if_pos c]; simp only [spec_l04Terms.j0]; rw [if_pos trivial, decide_eq_false (by omega)]; rfl
  · rw [if_neg c]; simp only [spec_l04Terms.j0]
    by_cases c2 : (xs.length : Int) > 40
    · rw [if_pos (by simpa using c2), decide_eq_false (by omega)]; rfl
    · rw [if_neg (by simpa using c2), decide_eq_true (by omega), Bool.true_and]
      exact specTerms_loop xs hw (by omega) (by omega) xs.length 0 k (by omega) (by omega)
theorem implTerms_ev (xs : List Int) : Ev (fun k => impl_ValidTerms.f k xs) (termsOk xs) := by
  refine ⟨xs.length + 3, fun k hk => ?_⟩
  obtain ⟨k, rfl⟩ : ∃ m, k = m + 1 := ⟨k - 1, by omega⟩
  show impl_ValidTerms.f (k + 1) xs = _
  unfold impl_ValidTerms.f termsOk
  by_cases c : (xs.length : Int) < 1
  · rw [if_pos c]; simp only [impl_ValidTerms.j0]; rw [if_pos trivial, decide_eq_false (by omega)]; rfl
  · rw [if_neg c]; simp only [impl_ValidTerms.j0]
    by_cases c2 : (xs.length : Int) > 40
    · rw [if_pos (by simpa using c2), decide_eq_false (by omega)]; rfl
    · rw [if_neg (by simpa using c2), decide_eq_true (by omega), Bool.true_and]
      exact implTerms_loop xs (by omega) (by omega) xs.length 0 k (by omega) (by omega)
open Classical in
theorem termsOk_is {xs : List Int} (h : termsOk xs = true) : (1 ≤ xs.length ∧ xs.length ≤ 40) ∧ (∀ j, j < xs.length → -1000000000 ≤ xs.getD j 0 ∧ xs.getD j 0 ≤ 1000000000 ∧ (0 < j → 1 ≤ xs.getD j 0)) ∧ (xs.length = 1 ∨ 2 ≤ xs.getD (xs.length - 1) 0) := by
  unfold termsOk at h
  rw [Bool.and_eq_true, decide_eq_true_iff] at h
  have h2 : TermsFrom xs 0 := by
    have := h.2
    unfold termsFrom at this
    exact of_decide_eq_true this
  exact ⟨h.1, fun j hj => h2.1 j (by omega) hj, h2.2⟩
open Classical in
theorem termsOk_of {xs : List Int} (h1 : 1 ≤ xs.length ∧ xs.length ≤ 40) (h2 : ∀ j, j < xs.length → -1000000000 ≤ xs.getD j 0 ∧ xs.getD j 0 ≤ 1000000000 ∧ (0 < j → 1 ≤ xs.getD j 0)) (h3 : xs.length = 1 ∨ 2 ≤ xs.getD (xs.length - 1) 0) : termsOk xs = true := by
  unfold termsOk
  rw [Bool.and_eq_true, decide_eq_true_iff]
  refine ⟨h1, ?_⟩
  unfold termsFrom
  exact @decide_eq_true _ _ ⟨fun j _ hj => h2 j hj, h3⟩
theorem l00In_some (a b c : Int) : spec_l00In.f a b c = some (decide (b ≤ a ∧ a ≤ c)) := by
  unfold spec_l00In.f
  split <;> simp <;> omega
theorem within_some (a b c : Int) : impl_within.f a b c = some (decide (b ≤ a ∧ a ≤ c)) := l00In_some a b c
theorem size_is {a : Int} (h0 : -9223372036854775807 ≤ a) (h1 : a ≤ 9223372036854775807) : spec_l03Size.f a = some (a.natAbs : Int) := by
  unfold spec_l03Size.f
  split
  · rw [wrap64_id (by omega) (by omega)]; congr 1; omega
  · congr 1; omega
theorem mx_abs {a : Int} (h0 : -9223372036854775807 ≤ a) (h1 : a ≤ 9223372036854775807) : mx a (wrap64 (-a)) = (a.natAbs : Int) := by
  unfold mx; rw [wrap64_id (by omega) (by omega)]; split <;> omega
theorem tmod_nat (m n : Nat) : Int.tmod (m : Int) (n : Int) = ((m % n : Nat) : Int) := by
  rw [Int.tmod_eq_emod_of_nonneg (by omega)]; exact (Int.natCast_emod m n).symm
theorem specGcd_loop (n : Nat) : ∀ m : Nat, Ev (fun k => spec_l03Common.l0 k (m : Int) (n : Int)) (Nat.gcd m n : Int) := by
  induction n using Nat.strongRecOn with
  | _ n ih =>
    intro m
    refine Ev.step (fun k => by rw [spec_l03Common.l0]) ?_
    by_cases c : n = 0
    · subst c
      refine Ev.congr (fun k => if_pos rfl) ?_
      rw [Nat.gcd_zero_right]; exact Ev.now _
    · refine Ev.congr (fun k => if_neg (by omega)) ?_
      rw [tmod_nat, show Nat.gcd m n = Nat.gcd n (m % n) by rw [Nat.gcd_comm, Nat.gcd_rec, Nat.gcd_comm]]
      exact ih (m % n) (Nat.mod_lt _ (by omega)) n
theorem specGcd_ev {a b : Int} (ha : -9223372036854775807 ≤ a ∧ a ≤ 9223372036854775807) (hb : -9223372036854775807 ≤ b ∧ b ≤ 9223372036854775807) : Ev (fun k => spec_l03Common.f k a b) (Int.gcd a b : Int) := by
  refine Ev.congr (fun k => by unfold spec_l03Common.f; rfl) ?_
  rw [size_is ha.1 ha.2, size_is hb.1 hb.2]
  simp only [Option.bind_some]
  exact specGcd_loop b.natAbs a.natAbs
/-- Whether a ratio is valid. -/
def ratioOk (p q : Int) : Bool := decide (1 ≤ q ∧ q ≤ 2147483648) && (decide (-2147483648 ≤ p ∧ p ≤ 2147483648) && ((Int.gcd p q : Int) == 1))
theorem specRatio_ev (p q : Int) : Ev (fun k => spec_l03Ratio.f k p q) (ratioOk p q) := by
  refine Ev.congr (fun k => by unfold spec_l03Ratio.f; rfl) ?_
  rw [l00In_some, l00In_some]; simp only [Option.bind_some]
  unfold ratioOk
  by_cases c1 : 1 ≤ q ∧ q ≤ 2147483648
  · refine Ev.congr (fun k => if_pos (by simp [c1])) ?_
    rw [decide_eq_true c1, Bool.true_and]
    by_cases c2 : -2147483648 ≤ p ∧ p ≤ 2147483648
    · refine Ev.congr (fun k => if_pos (by simp [c2])) ?_
      rw [decide_eq_true c2, Bool.true_and]
      exact Ev.bind (specGcd_ev (by omega) (by omega)) (Ev.now _)
    · refine Ev.congr (fun k => if_neg (by simp; omega)) ?_
      rw [decide_eq_false c2, Bool.false_and]; exact Ev.now _
  · refine Ev.congr (fun k => if_neg (by simp; omega)) ?_
    rw [decide_eq_false c1, Bool.false_and]; exact Ev.now _
theorem ratioOk_is {p q : Int} (h : ratioOk p q = true) : (1 ≤ q ∧ q ≤ 2147483648) ∧ (-2147483648 ≤ p ∧ p ≤ 2147483648) ∧ Int.gcd p q = 1 := by
  unfold ratioOk at h
  simp only [Bool.and_eq_true, decide_eq_true_iff, beq_iff_eq] at h
  exact ⟨h.1, h.2.1, by omega⟩
theorem implGcd_in (n : Nat) : ∀ (m : Nat) (xs : List Int) (len i : Int) (r : Int), Ev (fun k => impl_common.l0 k (Nat.gcd m n : Int) xs len (wrap64 (i + 1))) r → Ev (fun k => impl_common.l1 k (m : Int) (n : Int) xs len i) r := by
  induction n using Nat.strongRecOn with
  | _ n ih =>
    intro m xs len i r h
    refine Ev.step (fun k => by rw [impl_common.l1]) ?_
    by_cases c : n = 0
    · subst c
      rw [Nat.gcd_zero_right] at h
      exact Ev.congr (fun k => if_pos rfl) h
    · refine Ev.congr (fun k => if_neg (by omega)) ?_
      rw [tmod_nat]
      refine ih (m % n) (Nat.mod_lt _ (by omega)) n xs len i r ?_
      rw [show Nat.gcd n (m % n) = Nat.gcd m n by rw [Nat.gcd_comm, ← Nat.gcd_rec, Nat.gcd_comm]]
      exact h
theorem implGcd_out (xs : List Int) (hn : xs.length ≤ 9) (hx : ∀ j : Nat, j < xs.length → -9223372036854775807 ≤ rd xs j ∧ rd xs j ≤ 9223372036854775807) (i : Nat) (hi : i < xs.length) (m : Nat) (r : Int) (h : Ev (fun k => impl_common.l0 k (Nat.gcd m (rd xs i).natAbs : Int) xs (xs.length : Int) ((i + 1 : Nat) : Int)) r) :
    Ev (fun k => impl_common.l0 k (m : Int) xs (xs.length : Int) (i : Int)) r := by
  refine Ev.step (fun k => by rw [impl_common.l0]) (Ev.congr (fun k => if_pos (by omega)) (Ev.congr (fun k => if_pos (by omega)) (Ev.congr (fun k => if_pos (by omega)) ?_)))
  rw [mx_abs (hx i hi).1 (hx i hi).2]
  refine implGcd_in _ _ _ _ _ _ ?_
  rw [wrap64_id (by omega) (by omega)]
  exact h
theorem implGcd_ev {a b : Int} (ha : -9223372036854775807 ≤ a ∧ a ≤ 9223372036854775807) (hb : -9223372036854775807 ≤ b ∧ b ≤ 9223372036854775807) : Ev (fun k => impl_common.f k [a, b]) (Int.gcd a b : Int) := by
  refine Ev.congr (fun k => by unfold impl_common.f; rfl) ?_
  have hx : ∀ j : Nat, j < [a, b].length → -9223372036854775807 ≤ rd [a, b] j ∧ rd [a, b] j ≤ 9223372036854775807 := by
    intro j hj
    have : j = 0 ∨ j = 1 := by simp at hj; omega
    rcases this with rfl | rfl
    · exact ha
    · exact hb
  refine implGcd_out [a, b] (by simp) hx 0 (by simp) 0 _ (implGcd_out [a, b] (by simp) hx 1 (by simp) _ _ ?_)
  refine Ev.step (fun k => by rw [impl_common.l0]) (Ev.congr (fun k => if_neg (by simp)) ?_)
  rw [Nat.gcd_zero_left]
  exact Ev.now _
theorem implRatio_ev (p q : Int) : Ev (fun k => impl_ValidRatio.f k p q) (ratioOk p q) := by
  refine Ev.congr (fun k => by unfold impl_ValidRatio.f; rfl) ?_
  rw [within_some, within_some]; simp only [Option.bind_some]
  unfold ratioOk
  by_cases c1 : 1 ≤ q ∧ q ≤ 2147483648
  · refine Ev.congr (fun k => if_pos (by simp [c1])) ?_
    rw [decide_eq_true c1, Bool.true_and]
    by_cases c2 : -2147483648 ≤ p ∧ p ≤ 2147483648
    · refine Ev.congr (fun k => if_pos (by simp [c2])) ?_
      rw [decide_eq_true c2, Bool.true_and]
      exact Ev.bind (implGcd_ev (by omega) (by omega)) (Ev.now _)
    · refine Ev.congr (fun k => if_neg (by simp; omega)) ?_
      rw [decide_eq_false c2, Bool.false_and]; exact Ev.now _
  · refine Ev.congr (fun k => if_neg (by simp; omega)) ?_
    rw [decide_eq_false c1, Bool.false_and]; exact Ev.now _
/-- What terms come to, from the last one on: the parts of their ratio. -/
def cf : List Int → Int × Int
  | [] => (1, 0)
  | a :: l => (a * (cf l).1 + (cf l).2, (cf l).1)
theorem cf_gcd : ∀ l : List Int, Int.gcd (cf l).1 (cf l).2 = 1
  | [] => by decide
  | a :: l => by
    have ih := cf_gcd l
    simp only [cf]
    rw [Int.gcd_comm, Int.gcd_mul_right_add_right]; exact ih
theorem cf_up : ∀ l : List Int, (∀ z ∈ l, 1 ≤ z) → 1 ≤ (cf l).1 ∧ 0 ≤ (cf l).2 ∧ (cf l).2 ≤ (cf l).1
  | [], _ => by simp [cf]
  | a :: l, h => by
    have ih := cf_up l (fun z hz => h z (List.mem_cons_of_mem _ hz))
    have ha := h a (List.mem_cons_self ..)
    have h1 : 1 * (cf l).1 ≤ a * (cf l).1 := Int.mul_le_mul_of_nonneg_right ha (by omega)
    simp only [cf]
    omega
theorem cf_drop (l : List Int) (h : ∀ z ∈ l, 1 ≤ z) : ∀ j, (cf (l.drop j)).1 ≤ (cf l).1 := by
  induction l with
  | nil => intro j; simp
  | cons a l ih =>
    intro j
    cases j with
    | zero => simp
    | succ j =>
      have h2 := ih (fun z hz => h z (List.mem_cons_of_mem _ hz)) j
      have h3 := cf_up l (fun z hz => h z (List.mem_cons_of_mem _ hz))
      have ha := h a (List.mem_cons_self ..)
      have h1 : 1 * (cf l).1 ≤ a * (cf l).1 := Int.mul_le_mul_of_nonneg_right ha (by omega)
      simp only [List.drop_succ_cons, cf]
      omega
/-- The same, from the first one on. -/
def fw (p q p0 q0 : Int) : List Int → Int × Int
  | [] => (p, q)
  | a :: l => fw (a * p + p0) (a * q + q0) p q l
theorem fw_cf : ∀ (l : List Int) (p q p0 q0 : Int), fw p q p0 q0 l = (p * (cf l).1 + p0 * (cf l).2, q * (cf l).1 + q0 * (cf l).2)
  | [], p, q, p0, q0 => by simp [fw, cf]
  | a :: l, p, q, p0, q0 => by
    simp only [fw, cf]
    rw [fw_cf l]
    refine Prod.ext ?_ ?_ <;> simp only <;> grind
theorem fw_start (l : List Int) : fw 1 0 0 1 l = cf l := by
  rw [fw_cf]; refine Prod.ext ?_ ?_ <;> simp
/-- What is known of terms that a value is asked of: the last one need not be 2. -/
def TermsLike (xs : List Int) : Prop := (1 ≤ xs.length ∧ xs.length ≤ 40) ∧ ∀ j, j < xs.length → -1000000000 ≤ xs.getD j 0 ∧ xs.getD j 0 ≤ 1000000000 ∧ (0 < j → 1 ≤ xs.getD j 0)
theorem TermsLike.rest {xs : List Int} (h : TermsLike xs) (m : Nat) : ∀ z ∈ xs.drop (m + 1), 1 ≤ z := by
  intro z hz
  obtain ⟨j, hj, rfl⟩ := List.mem_iff_getElem.1 hz
  simp only [List.length_drop] at hj
  have := (h.2 (m + 1 + j) (by omega)).2.2 (by omega)
  rw [List.getElem_drop]
  rwa [List.getD_eq_getElem?_getD, List.getElem?_eq_getElem (by omega)] at this
theorem TermsLike.take {xs : List Int} (h : TermsLike xs) (n : Nat) (h1 : 1 ≤ n) (h2 : n ≤ xs.length) : TermsLike (xs.take n) := by
  refine ⟨by simp; have := h.1; omega, fun j hj => ?_⟩
  simp only [List.length_take] at hj
  have := h.2 j (by omega)
  rw [List.getD_eq_getElem?_getD, List.getElem?_take_of_lt (by omega), ← List.getD_eq_getElem?_getD]
  exact this
/-- The ratio of terms, with a code. -/
def valR (xs : List Int) : Int × Int × Int := if ((cf xs).1.natAbs : Int) ≤ 2147483648 ∧ (cf xs).2 ≤ 2147483648 then ((cf xs).1, (cf xs).2, 0) else (0, 0, 3)
theorem specMake_one {p q : Int} (hq : 1 ≤ q) (hg : Int.gcd p q = 1) (hp : -4611686018427387904 ≤ p ∧ p ≤ 4611686018427387904) (hq2 : q ≤ 4611686018427387904) : Ev (fun k => spec_l03Make.f k p q) (if ratioOk p q = true then (p, q, 0) else (0, 0, 3)) := by
  refine Ev.congr (fun k => by unfold spec_l03Make.f; rfl) (Ev.bind (specGcd_ev (by omega) (by omega)) ?_)
  rw [hg]
  refine Ev.congr (fun k => if_neg (by omega)) (Ev.congr (fun k => if_neg (by decide)) ?_)
  rw [show ((1 : Nat) : Int) = 1 from rfl, Int.tdiv_one, Int.tdiv_one, wrap64_id (n := p) (by omega) (by omega), wrap64_id (n := q) (by omega) (by omega)]
  refine Ev.bind (specRatio_ev p q) ?_
  cases ratioOk p q <;> exact Ev.now _
theorem specValue_loop (xs : List Int) (h : TermsLike xs) : ∀ m : Nat, m < xs.length → (-4611686018427387904 ≤ (cf (xs.drop m)).1 ∧ (cf (xs.drop m)).1 ≤ 4611686018427387904) → (cf (xs.drop m)).2 ≤ 4611686018427387904 →
    Ev (fun k => spec_l04Value.l0 k xs (cf (xs.drop m)).1 (cf (xs.drop m)).2 ((m : Int) - 1)) (valR xs) := by
  have hone : 1 ≤ (cf xs).2 := by
    obtain ⟨a, l, rfl⟩ : ∃ a l, xs = a :: l := by
      cases xs with
      | nil => exact absurd h.1.1 (by simp)
      | cons a l => exact ⟨a, l, rfl⟩
    exact (cf_up l (by simpa using h.rest 0)).1
  intro m
  induction m with
  | zero =>
    intro hm hp hq
    refine Ev.step (fun k => by rw [spec_l04Value.l0]) (Ev.congr (fun k => if_neg (by omega)) ?_)
    rw [List.drop_zero] at hp hq ⊢
    refine Ev.bind (specMake_one hone (cf_gcd xs) hp hq) ?_
    have e : ratioOk (cf xs).1 (cf xs).2 = true ↔ ((cf xs).1.natAbs : Int) ≤ 2147483648 ∧ (cf xs).2 ≤ 2147483648 := by
      constructor
      · intro z; have := ratioOk_is z; omega
      · intro z; unfold ratioOk; rw [cf_gcd]; simp; omega
    unfold valR
    by_cases c : ratioOk (cf xs).1 (cf xs).2 = true
    · rw [if_pos c, if_pos (e.1 c)]; exact Ev.now _
    · rw [if_neg c, if_neg (fun z => c (e.2 z))]; exact Ev.now _
  | succ m ih =>
    intro hm hp hq
    have hup := cf_up _ (h.rest m)
    have hx := h.2 m (by omega)
    have hlen := h.1.2
    have hd : xs.drop m = xs.getD m 0 :: xs.drop (m + 1) := by
      rw [List.drop_eq_getElem_cons (by omega), List.getD_eq_getElem?_getD, List.getElem?_eq_getElem (by omega)]; rfl
    refine Ev.step (fun k => by rw [spec_l04Value.l0]) (Ev.congr (fun k => if_pos (by omega)) ?_)
    rw [size_is (by omega) (by omega)]; simp only [Option.bind_some]
    have hbig : 2147483648 < (cf (xs.drop (m + 1))).1 → valR xs = (0, 0, 3) := by
      intro z
      obtain ⟨a, l, rfl⟩ : ∃ a l, xs = a :: l := by
        cases xs with
        | nil => exact absurd h.1.1 (by simp)
        | cons a l => exact ⟨a, l, rfl⟩
      have h3 := cf_drop l (by simpa using h.rest 0) m
      rw [List.drop_succ_cons] at z
      unfold valR
      rw [if_neg]
      show ¬ (_ ∧ (cf l).1 ≤ _)
      omega
    by_cases c1 : (((cf (xs.drop (m + 1))).1.natAbs : Nat) : Int) > 2147483648
    · rw [hbig (by omega)]; exact Ev.congr (fun k => if_pos c1) (Ev.now _)
    · refine Ev.congr (fun k => if_neg c1) (Ev.congr (fun k => if_neg (by omega)) ?_)
      rw [show (((m + 1 : Nat) : Int) - 1) = (m : Int) by omega, rd_nat]
      have hmul : -(1000000000 * 2147483648) ≤ xs.getD m 0 * (cf (xs.drop (m + 1))).1 ∧ xs.getD m 0 * (cf (xs.drop (m + 1))).1 ≤ 1000000000 * 2147483648 := by
        have h5 : xs.getD m 0 * (cf (xs.drop (m + 1))).1 ≤ 1000000000 * (cf (xs.drop (m + 1))).1 := Int.mul_le_mul_of_nonneg_right (by omega) (by omega)
        have h6 : -1000000000 * (cf (xs.drop (m + 1))).1 ≤ xs.getD m 0 * (cf (xs.drop (m + 1))).1 := Int.mul_le_mul_of_nonneg_right (by omega) (by omega)
        omega
      rw [wrap64_id (n := xs.getD m 0 * (cf (xs.drop (m + 1))).1) (by omega) (by omega), wrap64_id (n := xs.getD m 0 * (cf (xs.drop (m + 1))).1 + (cf (xs.drop (m + 1))).2) (by omega) (by omega), wrap64_id (n := (m : Int) - 1) (by omega) (by omega)]
      refine Ev.congr (fun k => if_pos (by omega)) (Ev.congr (fun k => if_pos (by omega)) ?_)
      have := ih (by omega) (by rw [hd]; simp only [cf]; omega) (by rw [hd]; simp only [cf]; omega)
      rw [hd] at this
      exact this
theorem specValue_ev (xs : List Int) (h : TermsLike xs) : Ev (fun k => spec_l04Value.f k xs) (valR xs) := by
  refine Ev.congr (fun k => by unfold spec_l04Value.f; rfl) ?_
  have hn := h.1
  have hl := h.2 (xs.length - 1) (by omega)
  have hd : xs.drop (xs.length - 1) = [xs.getD (xs.length - 1) 0] := by
    rw [List.drop_eq_getElem_cons (by omega), List.getD_eq_getElem?_getD, List.getElem?_eq_getElem (by omega), List.drop_eq_nil_of_le (by omega)]; rfl
  have := specValue_loop xs h (xs.length - 1) (by omega) (by rw [hd]; simp only [cf, Int.mul_one, Int.add_zero]; omega) (by rw [hd]; simp [cf])
  rw [hd] at this
  rw [wrap64_id (n := (xs.length : Int) - 1) (by omega) (by omega), wrap64_id (n := (xs.length : Int) - 2) (by omega) (by omega)]
  refine Ev.congr (fun k => if_pos (by omega)) (Ev.congr (fun k => if_pos (by omega)) ?_)
  rw [show ((xs.length : Int) - 1) = ((xs.length - 1 : Nat) : Int) by omega, rd_nat, show ((xs.length : Int) - 2) = ((xs.length - 1 : Nat) : Int) - 1 by omega]
  simpa [cf] using this
/-- What holds while the convergents are found: state (p, q, p0, q0) behind i terms. -/
structure At (xs : List Int) (i : Nat) (p q p0 q0 : Int) : Prop where
  here : ∀ l, cf (xs.take i ++ l) = fw p q p0 q0 l
  p1 : -2147483648 ≤ p ∧ p ≤ 2147483648
  p2 : -2147483648 ≤ p0 ∧ p0 ≤ 2147483648
  q1 : 0 ≤ q ∧ q ≤ 2147483648
  q2 : 0 ≤ q0 ∧ q0 ≤ 2147483648
  sgn : i = 0 ∧ p = 1 ∧ p0 = 0 ∧ q = 0 ∧ q0 = 1 ∨ 1 ≤ i ∧ ((0 ≤ p ∧ 0 ≤ p0) ∨ (p ≤ 0 ∧ p0 ≤ 0) ∨ (p ≤ -1 ∧ p0 = 1))
theorem at_zero (xs : List Int) : At xs 0 1 0 0 1 := ⟨fun l => by rw [List.take_zero, List.nil_append, fw_start], by omega, by omega, by omega, by omega, .inl ⟨rfl, rfl, rfl, rfl, rfl⟩⟩
theorem take_step {xs : List Int} {i : Nat} (hi : i < xs.length) : xs.take (i + 1) = xs.take i ++ [xs.getD i 0] := by
  rw [List.take_add_one, List.getElem?_eq_getElem hi, List.getD_eq_getElem?_getD, List.getElem?_eq_getElem hi]; rfl
theorem at_here {xs : List Int} {i : Nat} {p q p0 q0 : Int} (h : At xs i p q p0 q0) (hi : i < xs.length) : cf (xs.take (i + 1)) = (xs.getD i 0 * p + p0, xs.getD i 0 * q + q0) := by
  rw [take_step hi, h.here]; rfl
/-- A round's products are small. -/
theorem at_small {xs : List Int} (hx : TermsLike xs) {i : Nat} {p q p0 q0 : Int} (h : At xs i p q p0 q0) (hi : i < xs.length) : (-2147483648000000000 ≤ xs.getD i 0 * p ∧ xs.getD i 0 * p ≤ 2147483648000000000) ∧ (-2147483648000000000 ≤ xs.getD i 0 * q ∧ xs.getD i 0 * q ≤ 2147483648000000000) ∧ (0 ≤ xs.getD i 0 * q + q0) := by
  have hz := hx.2 i hi
  have aux : ∀ y : Int, -2147483648 ≤ y → y ≤ 2147483648 → -2147483648000000000 ≤ xs.getD i 0 * y ∧ xs.getD i 0 * y ≤ 2147483648000000000 := by
    intro y h0 h1
    rcases Int.le_total 0 y with c | c
    · have h5 : xs.getD i 0 * y ≤ 1000000000 * y := Int.mul_le_mul_of_nonneg_right (by omega) c
      have h6 : -1000000000 * y ≤ xs.getD i 0 * y := Int.mul_le_mul_of_nonneg_right (by omega) c
      omega
    · have h5 : 1000000000 * y ≤ xs.getD i 0 * y := Int.mul_le_mul_of_nonpos_right (by omega) c
      have h6 : xs.getD i 0 * y ≤ -1000000000 * y := Int.mul_le_mul_of_nonpos_right (by omega) c
      omega
  refine ⟨aux p h.p1.1 h.p1.2, aux q (by have := h.q1; omega) h.q1.2, ?_⟩
  rcases h.sgn with ⟨rfl, rfl, rfl, rfl, rfl⟩ | ⟨h1, _⟩
  · simp
  · have := Int.mul_nonneg (a := xs.getD i 0) (b := q) (by have := hz.2.2 (by omega); omega) h.q1.1
    have := h.q2
    omega
theorem at_next {xs : List Int} (hx : TermsLike xs) {i : Nat} {p q p0 q0 : Int} (h : At xs i p q p0 q0) (hi : i < xs.length) (hp : -2147483648 ≤ xs.getD i 0 * p + p0 ∧ xs.getD i 0 * p + p0 ≤ 2147483648) (hq : xs.getD i 0 * q + q0 ≤ 2147483648) : At xs (i + 1) (xs.getD i 0 * p + p0) (xs.getD i 0 * q + q0) p q := by
  have hz := hx.2 i hi
  refine ⟨fun l => ?_, hp, h.p1, ⟨(at_small hx h hi).2.2, hq⟩, h.q1, .inr ⟨by omega, ?_⟩⟩
  · rw [take_step hi, List.append_assoc, h.here]; rfl
  · rcases h.sgn with ⟨rfl, rfl, rfl, rfl, rfl⟩ | ⟨h1, h2⟩
    · omega
    · have ha := hz.2.2 (by omega)
      have h3 : (0 ≤ p → 1 * p ≤ xs.getD i 0 * p) ∧ (p ≤ 0 → xs.getD i 0 * p ≤ 1 * p) := ⟨fun z => Int.mul_le_mul_of_nonneg_right ha z, fun z => Int.mul_le_mul_of_nonpos_right ha z⟩
      omega
theorem conv_step {xs : List Int} (hx : TermsLike xs) {i : Nat} {p q p0 q0 : Int} (h : At xs i p q p0 q0) (hi : i < xs.length) (out : List S25) (ho : out.length ≤ 40) (r : List S25)
    (hr : Ev (fun k => if (((xs.getD i 0 * p + p0).natAbs : Nat) : Int) > 2147483648 then some out else if xs.getD i 0 * q + q0 > 2147483648 then some out else impl_convergents.l0 k (out ++ [(⟨xs.getD i 0 * p + p0, xs.getD i 0 * q + q0⟩ : S25)]) (xs.getD i 0 * p + p0) (xs.getD i 0 * q + q0) p q xs (xs.length : Int) ((i : Int) + 1)) r) :
    Ev (fun k => impl_convergents.l0 k out p q p0 q0 xs (xs.length : Int) (i : Int)) r := by
  have hs := at_small hx h hi
  have h2 := h.p2
  have h3 := h.q2
  have hlen := hx.1.2
  refine Ev.step (fun k => by rw [impl_convergents.l0]) ?_
  rw [rd_nat, wrap64_id (n := xs.getD i 0 * p) (by omega) (by omega), wrap64_id (n := xs.getD i 0 * q) (by omega) (by omega), wrap64_id (n := xs.getD i 0 * p + p0) (by omega) (by omega), wrap64_id (n := xs.getD i 0 * q + q0) (by omega) (by omega), mx_abs (by omega) (by omega), wrap64_id (n := (i : Int) + 1) (by omega) (by omega)]
  refine Ev.congr (fun k => if_pos (by omega)) (Ev.congr (fun k => if_pos (by omega)) (Ev.congr (fun k => if_pos (by omega)) ?_))
  refine Ev.congr (fun k => ?_) hr
  rw [if_pos (show out.length < 8796093022208 by omega)]
theorem floor_bound {a b : Int} (hb : 0 < b) (h0 : -4611686018427387904 ≤ a) (h1 : a ≤ 4611686018427387904) : -4611686018427387904 ≤ a / b ∧ a / b ≤ 4611686018427387904 := by
  rcases Int.le_total 0 a with c | c
  · have := Int.ediv_nonneg c (Int.le_of_lt hb)
    have := Int.ediv_le_self b c
    omega
  · have h5 : a / b ≤ 0 := by
      have := Int.ediv_le_ediv hb c
      simpa using this
    have h6 := Int.emod_add_mul_ediv a b
    have h7 := Int.emod_lt_of_pos a hb
    have h8 := Int.emod_nonneg a (b := b) (by omega)
    have h9 : b * (a / b) ≤ 1 * (a / b) := Int.mul_le_mul_of_nonpos_right (by omega) h5
    refine ⟨?_, by omega⟩
    by_cases z : a / b = 0
    · omega
    · have h10 : (b - 1) * (a / b + 1) ≤ 0 := Int.mul_nonpos_of_nonneg_of_nonpos (by omega) (by omega)
      have h11 : (b - 1) * (a / b + 1) = b * (a / b) + b - a / b - 1 := by grind
      omega
/-- The greatest integer that is at most a / b, b being greater than 0. -/
theorem floor_is {a b : Int} (hb : 0 < b) (h0 : -4611686018427387904 ≤ a) (h1 : a ≤ 4611686018427387904) : impl_floor.f a b = some (a / b) := by
  unfold impl_floor.f
  rw [if_neg (by omega)]
  have hdm := Int.mul_tdiv_add_tmod a b
  have h3 := floor_bound hb h0 h1
  have key : (Int.tmod a b = 0 → Int.tdiv a b = a / b) ∧ (Int.tmod a b ≠ 0 → 0 ≤ a → Int.tdiv a b = a / b) ∧ (Int.tmod a b ≠ 0 → a < 0 → Int.tdiv a b - 1 = a / b) := by
    refine ⟨fun h => ?_, fun _ h => Int.tdiv_eq_ediv_of_nonneg h, fun h hn => ?_⟩
    · rw [h, Int.add_zero] at hdm
      have : b ∣ a := ⟨_, hdm.symm⟩
      exact Int.tdiv_eq_ediv_of_dvd this
    · have hnd : ¬ b ∣ a := fun hd => h (Int.tmod_eq_zero_of_dvd hd)
      rw [Int.tdiv_eq_ediv]
      have hs : Int.sign b = 1 := Int.sign_eq_one_of_pos hb
      rw [hs]
      split <;> omega
  by_cases c : Int.tmod a b = 0
  · rw [if_pos c, key.1 c, wrap64_id (by omega) (by omega)]
  · rw [if_neg c]
    by_cases hn : a < 0
    · have := key.2.2 c hn
      rw [if_pos (by simp [hn]; omega), wrap64_id (n := Int.tdiv a b) (by omega) (by omega), wrap64_id (by omega) (by omega), this]
    · rw [if_neg (by simp [hn]; omega), key.2.1 c (by omega), wrap64_id (by omega) (by omega)]
/-- The sign that an index has. -/
def sg (i : Nat) : Int := if i % 2 = 1 then -1 else 1
theorem tmod2 (i : Nat) : Int.tmod (i : Int) 2 = ((i % 2 : Nat) : Int) := by
  rw [Int.tmod_eq_emod_of_nonneg (by omega)]; omega
theorem sg_times (i : Nat) (t : Int) (ht : t = 1 ∨ t = -1) : wrap64 (t * wrap64 (1 - wrap64 (2 * Int.tmod (i : Int) 2))) = if t = 1 then sg i else -(sg i) := by
  rw [tmod2]; unfold sg
  have : i % 2 = 0 ∨ i % 2 = 1 := by omega
  rcases this with c | c <;> rcases ht with rfl | rfl <;> rw [c] <;> decide +kernel
theorem order_lt {a b : Int} (h : a < b) : impl_order.f a b = some (-1) := by unfold impl_order.f; rw [if_pos h]
theorem order_gt {a b : Int} (h : b < a) : impl_order.f a b = some 1 := by unfold impl_order.f; rw [if_neg (by omega), if_pos h]
theorem order_eq (a : Int) : impl_order.f a a = some 0 := by unfold impl_order.f; rw [if_neg (by omega), if_neg (by omega)]
theorem dec_lt {u : Nat} (h : u < 10) : Go.Lib.decDigits u = [UInt8.ofNat (48 + u)] := Go.Lib.decDigits_one h
theorem dec_split {u : Nat} (h : ¬ u < 10) : Go.Lib.decDigits u = Go.Lib.decDigits (u / 10) ++ [UInt8.ofNat (48 + u % 10)] := by
  conv => lhs; rw [Go.Lib.decDigits, dif_neg h]
theorem ofNat_nat (d : Nat) (h : d < 10) : (UInt8.ofNat (48 + d)).toNat = 48 + d := by
  rw [UInt8.toNat_ofNat', Nat.mod_eq_of_lt (by omega)]
theorem dec_digits (u : Nat) : ∀ x ∈ Go.Lib.decDigits u, 48 ≤ x.toNat ∧ x.toNat ≤ 57 := by
  induction u using Nat.strongRecOn with
  | _ u ih =>
  intro x hx
  by_cases h : u < 10
  · rw [dec_lt h] at hx
    obtain rfl := List.mem_singleton.1 hx
    rw [ofNat_nat u h]; omega
  · rw [dec_split h] at hx
    rcases List.mem_append.1 hx with hx | hx
    · exact ih (u / 10) (by omega) x hx
    · obtain rfl := List.mem_singleton.1 hx
      rw [ofNat_nat _ (by omega)]; omega
theorem dec_ne (u : Nat) : Go.Lib.decDigits u ≠ [] := by
  by_cases h : u < 10
  · rw [dec_lt h]; simp
  · rw [dec_split h]; simp
theorem dec_inj (u : Nat) : ∀ v, Go.Lib.decDigits u = Go.Lib.decDigits v → u = v := by
  induction u using Nat.strongRecOn with
  | _ u ih =>
  intro v h
  by_cases hu : u < 10
  · by_cases hv : v < 10
    · rw [dec_lt hu, dec_lt hv] at h
      have h2 : UInt8.ofNat (48 + u) = UInt8.ofNat (48 + v) := by simpa using h
      have h3 := congrArg UInt8.toNat h2
      rw [ofNat_nat u hu, ofNat_nat v hv] at h3
      omega
    · rw [dec_lt hu, dec_split hv] at h
      have hl := congrArg List.length h
      have hn := dec_ne (v / 10)
      have : 0 < (Go.Lib.decDigits (v / 10)).length := List.length_pos_iff.2 hn
      rw [List.length_append] at hl
      simp only [List.length_cons, List.length_nil] at hl
      omega
  · by_cases hv : v < 10
    · rw [dec_split hu, dec_lt hv] at h
      have hl := congrArg List.length h
      have : 0 < (Go.Lib.decDigits (u / 10)).length := List.length_pos_iff.2 (dec_ne _)
      rw [List.length_append] at hl
      simp only [List.length_cons, List.length_nil] at hl
      omega
    · rw [dec_split hu, dec_split hv] at h
      obtain ⟨h1, h2⟩ := List.append_inj' h rfl
      have e1 := ih (u / 10) (by omega) (v / 10) h1
      have h2' : UInt8.ofNat (48 + u % 10) = UInt8.ofNat (48 + v % 10) := by simpa using h2
      have h3 := congrArg UInt8.toNat h2'
      rw [ofNat_nat _ (by omega), ofNat_nat _ (by omega)] at h3
      omega
theorem parse_app (M : Nat) (L : List UInt8) (x : UInt8) : ∀ acc v, Go.Lib.parseUintM M acc L = .ok v → Go.Lib.parseUintM M acc (L ++ [x]) = Go.Lib.parseUintM M v [x] := by
  induction L with
  | nil => intro acc v h; simp only [Go.Lib.parseUintM] at h; cases h; rfl
  | cons c r ih =>
    intro acc v h
    rw [Go.Lib.parseUintM] at h
    rw [List.cons_append, Go.Lib.parseUintM]
    split at h
    · rename_i c1
      split at h
      · cases h
      · rename_i c2
        split at h
        · cases h
        · rename_i c3
          rw [if_pos c1, if_neg c2, if_neg c3]
          exact ih _ _ h
    · cases h
theorem parse_dec (M : Nat) (u : Nat) : u ≤ M → u < 1000000000000 → Go.Lib.parseUintM M 0 (Go.Lib.decDigits u) = .ok u := by
  induction u using Nat.strongRecOn with
  | _ u ih =>
  intro hu hs
  by_cases h : u < 10
  · rw [dec_lt h]
    simp only [Go.Lib.parseUintM]
    rw [ofNat_nat u h, if_pos (by omega), if_neg (by omega), if_neg (by omega), show 0 * 10 + (48 + u - 48) = u from by omega]
  · rw [dec_split h, parse_app M _ _ _ _ (ih (u / 10) (by omega) (by omega) (by omega))]
    simp only [Go.Lib.parseUintM]
    rw [ofNat_nat _ (by omega), if_pos (by omega), if_neg (by omega), if_neg (by omega), show u / 10 * 10 + (48 + u % 10 - 48) = u from by omega]
theorem parse_itoa (n : Int) (h0 : -100000000000 ≤ n) (h1 : n ≤ 100000000000) : Go.Lib.parseIntB 64 (Go.Lib.itoa n) = .ok n := by
  by_cases c : n < 0
  · obtain ⟨u, rfl⟩ : ∃ u : Nat, n = -(u : Int) := ⟨n.natAbs, by omega⟩
    rw [Go.Lib.itoa_neg u (by omega), Go.Lib.parseIntB_minus]
    unfold Go.Lib.parseUintB
    rw [if_neg (dec_ne u), parse_dec _ u (by omega) (by omega)]
    simp only [Go.Lib.signedC]
    rw [if_neg (by omega)]
  · obtain ⟨u, rfl⟩ : ∃ u : Nat, n = (u : Int) := ⟨n.toNat, by omega⟩
    rw [Go.Lib.itoa_nonneg]
    cases e : Go.Lib.decDigits u with
    | nil => exact absurd e (dec_ne u)
    | cons x r =>
      have hx := dec_digits u x (by rw [e]; exact List.mem_cons_self ..)
      rw [Go.Lib.parseIntB_plain _ _ _ (by omega) (by omega), ← e]
      unfold Go.Lib.parseUintB
      rw [if_neg (dec_ne u), parse_dec _ u (by omega) (by omega)]
      simp only [Go.Lib.signlessC]
      rw [if_neg (by omega)]
theorem itoa_inj {m n : Int} (h : Go.Lib.itoa m = Go.Lib.itoa n) : m = n := by
  have head : ∀ u : Nat, ∀ r, Go.Lib.decDigits u ≠ 45 :: r := fun u r e => by
    have := dec_digits u 45 (by rw [e]; exact List.mem_cons_self ..)
    simp at this
  by_cases cm : m < 0
  · obtain ⟨u, rfl⟩ : ∃ u : Nat, m = -(u : Int) := ⟨m.natAbs, by omega⟩
    by_cases cn : n < 0
    · obtain ⟨v, rfl⟩ : ∃ v : Nat, n = -(v : Int) := ⟨n.natAbs, by omega⟩
      rw [Go.Lib.itoa_neg u (by omega), Go.Lib.itoa_neg v (by omega)] at h
      rw [dec_inj u v (List.cons.inj h).2]
    · obtain ⟨v, rfl⟩ : ∃ v : Nat, n = (v : Int) := ⟨n.toNat, by omega⟩
      rw [Go.Lib.itoa_neg u (by omega), Go.Lib.itoa_nonneg] at h
      exact absurd h.symm (head v _)
  · obtain ⟨u, rfl⟩ : ∃ u : Nat, m = (u : Int) := ⟨m.toNat, by omega⟩
    by_cases cn : n < 0
    · obtain ⟨v, rfl⟩ : ∃ v : Nat, n = -(v : Int) := ⟨n.natAbs, by omega⟩
      rw [Go.Lib.itoa_neg v (by omega), Go.Lib.itoa_nonneg] at h
      exact absurd h (head u _)
    · obtain ⟨v, rfl⟩ : ∃ v : Nat, n = (v : Int) := ⟨n.toNat, by omega⟩
      rw [Go.Lib.itoa_nonneg, Go.Lib.itoa_nonneg] at h
      rw [dec_inj u v h]
/-- The pieces of a list between the bytes c; pre: what the first piece has so far. -/
def splitG (c : UInt8) : List UInt8 → List UInt8 → List (List UInt8)
  | pre, [] => [pre]
  | pre, x :: l => if x = c then pre :: splitG c [] l else splitG c (pre ++ [x]) l
theorem splitG_none (c : UInt8) : ∀ (l pre : List UInt8), (∀ k : Nat, l[k]? ≠ some c) → splitG c pre l = [pre ++ l]
  | [], pre, _ => by simp [splitG]
  | x :: l, pre, h => by
    have h0 : x ≠ c := fun e => h 0 (by simp [e])
    rw [splitG, if_neg h0, splitG_none c l (pre ++ [x]) (fun k => by have := h (k + 1); simpa using this)]
    simp
theorem splitG_some (c : UInt8) : ∀ (l pre : List UInt8) (i : Nat), l[i]? = some c → (∀ k, k < i → l[k]? ≠ some c) → splitG c pre l = (pre ++ l.take i) :: splitG c [] (l.drop (i + 1))
  | [], _, i, h, _ => by simp at h
  | x :: l, pre, 0, h, _ => by
    have h0 : x = c := by simpa using h
    rw [splitG, if_pos h0]; simp
  | x :: l, pre, i + 1, h, hk => by
    have h0 : x ≠ c := fun e => hk 0 (by omega) (by simp [e])
    rw [splitG, if_neg h0, splitG_some c l (pre ++ [x]) i (by simpa using h) (fun k hk2 => by have := hk (k + 1) (by omega); simpa using this)]
    simp
theorem ext_list (s : ByteArray) (a b : Nat) : (s.extract a b).data.toList = (s.data.toList.drop a).take (b - a) := by
  rw [ByteArray.data_extract, Array.toList_extract]
theorem splitB_is (c : UInt8) (k : Nat) : ∀ s : ByteArray, Go.Lib.countB s ⟨#[c]⟩ = k → (Go.Lib.splitB ⟨#[c]⟩ 0 k s).map (·.data.toList) = splitG c [] s.data.toList := by
  have hix1 : ∀ s : ByteArray, Go.Lib.indexB s ⟨#[c]⟩ = Go.Lib.indexByte s.data.toList c := fun s => Go.Lib.index_one s.data.toList c
  induction k with
  | zero =>
    intro s hk
    rcases Go.Lib.indexB_cases s ⟨#[c]⟩ with h | ⟨i, h, _⟩
    · rw [Go.Lib.splitB_zero, splitG_none c _ _ (Go.Lib.indexByte_none ((hix1 s).symm.trans h))]
      simp
    · rw [Go.Lib.countB_hit s ⟨#[c]⟩ i (Nat.le_refl 1) h] at hk
      omega
  | succ k ih =>
    intro s hk
    rcases Go.Lib.indexB_cases s ⟨#[c]⟩ with h | ⟨i, h, hr⟩
    · rw [Go.Lib.countB_miss s ⟨#[c]⟩ h] at hk; omega
    · have hb := Go.Lib.indexByte_some ((hix1 s).symm.trans h)
      rw [Go.Lib.countB_hit s ⟨#[c]⟩ i (Nat.le_refl 1) h] at hk
      rw [Go.Lib.splitB_hit ⟨#[c]⟩ 0 k s i h, List.map_cons, ih _ (by omega), splitG_some c _ _ i hb.1 hb.2, ext_list, ext_list]
      have e1 : (⟨#[c]⟩ : ByteArray).size = 1 := rfl
      have hl : s.data.toList.length = s.size := by simp
      rw [e1, show (s.data.toList.drop 0).take (i + 0 - 0) = [] ++ s.data.toList.take i from by simp, List.take_of_length_le (l := s.data.toList.drop (i + 1)) (by rw [List.length_drop]; omega)]
theorem integer_word (s : ByteArray) (hs : s.size ≤ 1048576) : ∃ (r : Int) (b : Bool), impl_integer.f s = some (r, b) ∧ (b = true → s.data.toList = Go.Lib.itoa r) ∧ (∀ n : Int, -10000000000 < n → n < 10000000000 → s.data.toList = Go.Lib.itoa n → b = true) := by
  unfold impl_integer.f
  rw [if_pos (by omega)]
  cases hp : Go.Lib.parseIntB 64 s.data.toList with
  | ok v =>
    have hb := Go.Lib.parseIntB_bounds hp
    have h63 : (2 : Nat) ^ (64 - 1) = 9223372036854775808 := by decide
    rw [h63] at hb
    simp only
    refine ⟨v, _, by rw [if_pos (by omega)], fun h => ?_, fun n h0 h1 h => ?_⟩
    · rw [beq_iff_eq] at h
      rw [h, Go.Lib.toList_data]
    · rw [h, parse_itoa n (by omega) (by omega)] at hp
      have e := Go.Lib.NumEnd.ok.inj hp
      subst e
      rw [beq_iff_eq, Go.Lib.toList_data]
      exact h.symm
  | range =>
    refine ⟨_, false, rfl, fun h => (by cases h), fun n h0 h1 h => ?_⟩
    rw [h, parse_itoa n (by omega) (by omega)] at hp
    cases hp
  | «syntax» =>
    refine ⟨_, false, rfl, fun h => (by cases h), fun n h0 h1 h => ?_⟩
    rw [h, parse_itoa n (by omega) (by omega)] at hp
    cases hp
theorem splitG_len (c : UInt8) : ∀ (l pre : List UInt8), ∀ p ∈ splitG c pre l, p.length ≤ pre.length + l.length
  | [], pre, p, h => by
    rw [splitG, List.mem_singleton] at h
    subst h; simp
  | x :: l, pre, p, h => by
    rw [splitG] at h
    split at h
    · rcases List.mem_cons.1 h with rfl | h
      · simp only [List.length_cons]; omega
      · have := splitG_len c l [] p h
        simp only [List.length_cons, List.length_nil] at this ⊢; omega
    · have := splitG_len c l (pre ++ [x]) p h
      rw [List.length_append] at this
      simp only [List.length_cons, List.length_nil] at this ⊢; omega
theorem splitB_size (c : UInt8) (s : ByteArray) : ∀ w ∈ Go.Lib.splitB ⟨#[c]⟩ 0 (Go.Lib.countB s ⟨#[c]⟩) s, w.size ≤ s.size := by
  intro w hw
  have h1 : w.data.toList ∈ splitG c [] s.data.toList := by
    rw [← splitB_is c _ s rfl]
    exact List.mem_map_of_mem (f := fun s : ByteArray => s.data.toList) hw
  have := splitG_len c _ _ _ h1
  simpa using this
theorem splitB_count (c : UInt8) (s : ByteArray) : (Go.Lib.splitB ⟨#[c]⟩ 0 (Go.Lib.countB s ⟨#[c]⟩) s).length ≤ s.size + 1 ∧ 1 ≤ (Go.Lib.splitB ⟨#[c]⟩ 0 (Go.Lib.countB s ⟨#[c]⟩) s).length := by
  have h1 := Go.Lib.splitB_all ⟨#[c]⟩ (Nat.le_refl 1) 0 _ s rfl
  have h2 := Go.Lib.countB_le ⟨#[c]⟩ (Nat.le_refl 1) s.size s (Nat.le_refl _)
  omega
/-- The word at place j. -/
def wd (W : List ByteArray) (j : Nat) : List UInt8 := (W.getD j ByteArray.empty).data.toList
/-- The words spell the numbers. -/
def Good (W : List ByteArray) (xs : List Int) : Prop := xs.length = W.length ∧ ∀ j, j < W.length → wd W j = Go.Lib.itoa (xs.getD j 0)
theorem Good.unique {W : List ByteArray} {xs ys : List Int} (h : Good W xs) (g : Good W ys) : xs = ys := by
  apply List.ext_getElem (h.1.trans g.1.symm)
  intro j h1 h2
  have a := h.2 j (by have := h.1; omega)
  have b := g.2 j (by have := h.1; omega)
  have := itoa_inj (a.symm.trans b)
  simpa [List.getD_eq_getElem?_getD, List.getElem?_eq_getElem, h1, h2] using this
theorem rdOf_wd (W : List ByteArray) (i : Nat) : rdOf ByteArray.empty W (i : Int) = W.getD i ByteArray.empty := rfl
theorem getD_size (W : List ByteArray) (M : Nat) (h : ∀ w ∈ W, w.size ≤ M) (i : Nat) (hi : i < W.length) : (W.getD i ByteArray.empty).size ≤ M := by
  rw [List.getD_eq_getElem?_getD, List.getElem?_eq_getElem hi]
  exact h _ (List.getElem_mem hi)
/-- A string out of a list of bytes. -/
def mk (L : List UInt8) : ByteArray := ⟨L.toArray⟩
theorem mk_app (A B : List UInt8) : mk A ++ mk B = mk (A ++ B) := by
  apply ByteArray.ext
  simp [mk]
theorem mk_size (A : List UInt8) : (mk A).size = A.length := by simp [mk, ByteArray.size]
/-- The text of the first i terms. -/
def txt (xs : List Int) : Nat → List UInt8
  | 0 => []
  | i + 1 => txt xs i ++ (if i = 0 then [] else if i = 1 then [59] else [44]) ++ Go.Lib.itoa (xs.getD i 0)
theorem itoa_len (n : Int) (h0 : -1000000000 ≤ n) (h1 : n ≤ 1000000000) : (Go.Lib.itoa n).length ≤ 21 := Go.Lib.itoa_length_le n (by omega) (by omega)
theorem txt_len (xs : List Int) (hx : ∀ j, j < xs.length → -1000000000 ≤ xs.getD j 0 ∧ xs.getD j 0 ≤ 1000000000) : ∀ i, i ≤ xs.length → (txt xs i).length ≤ 22 * i := by
  intro i
  induction i with
  | zero => intro _; exact Nat.le_refl _
  | succ i ih =>
    intro hi
    have h1 := ih (by omega)
    have h2 := itoa_len (xs.getD i 0) (hx i (by omega)).1 (hx i (by omega)).2
    simp only [txt, List.length_append]
    split
    · simp only [List.length_nil]; omega
    · split <;> (simp only [List.length_cons, List.length_nil]; omega)
theorem fmt_is (n : Int) (h0 : -1000000000 ≤ n) (h1 : n ≤ 1000000000) : strconv_FormatInt_54.f n 10 = some (mk (Go.Lib.itoa n)) := by
  unfold strconv_FormatInt_54.f
  rw [if_pos ⟨rfl, by omega, by omega⟩]; rfl
theorem implText_loop (xs : List Int) (hn : xs.length ≤ 40) (hx : ∀ j, j < xs.length → -1000000000 ≤ xs.getD j 0 ∧ xs.getD j 0 ≤ 1000000000) (d : Nat) : ∀ i : Nat, i + 1 + d = xs.length → Ev (fun k => impl_TermsText.l0 k (mk (txt xs (i + 1))) (mk (if i = 0 then [59] else [44])) (xs.drop 1) ((xs.drop 1).length : Int) (i : Int)) (mk (txt xs xs.length)) := by
  induction d with
  | zero =>
    intro i hi
    refine Ev.step (f := fun _ => some (mk (txt xs xs.length))) (fun k => ?_) ⟨0, fun k _ => rfl⟩
    rw [impl_TermsText.l0, if_neg (by rw [List.length_drop]; omega), show i + 1 = xs.length from by omega]
  | succ d ih =>
    intro i hi
    have hL := txt_len xs hx (i + 1) (by omega)
    have hI := itoa_len (xs.getD (i + 1) 0) (hx (i + 1) (by omega)).1 (hx (i + 1) (by omega)).2
    have e : wrap64 ((i : Int) + 1) = ((i + 1 : Nat) : Int) := by rw [wrap64_id (by omega) (by omega)]; omega
    have er : rd (xs.drop 1) (i : Int) = xs.getD (i + 1) 0 := by
      rw [rd_nat, List.getD_eq_getElem?_getD, List.getElem?_drop, List.getD_eq_getElem?_getD, Nat.add_comm]
    have nx := ih (i + 1) (by omega)
    have t1 : mk (txt xs (i + 1)) ++ (mk (if i = 0 then [59] else [44]) ++ mk (Go.Lib.itoa (xs.getD (i + 1) 0))) = mk (txt xs (i + 1 + 1)) := by
      rw [mk_app, mk_app]
      conv => rhs; rw [txt, if_neg (by omega)]
      rw [List.append_assoc]
      by_cases c : i = 0
      · subst c; rfl
      · rw [if_neg c, if_neg (by omega)]
    have hs : (if i = 0 then [59] else [44] : List UInt8).length = 1 := by split <;> rfl
    refine Ev.step (f := fun k => impl_TermsText.l0 k (mk (txt xs (i + 1 + 1))) (mk (if i + 1 = 0 then [59] else [44])) (xs.drop 1) ((xs.drop 1).length : Int) ((i + 1 : Nat) : Int)) (fun k => ?_) nx
    rw [impl_TermsText.l0, if_pos (by rw [List.length_drop]; omega), if_pos (by omega), if_pos (by rw [List.length_drop]; omega), er, fmt_is _ (hx (i + 1) (by omega)).1 (hx (i + 1) (by omega)).2, Option.bind_some, if_pos (by rw [mk_size, mk_size, hs]; omega), if_pos (by rw [mk_app, mk_size, mk_size, List.length_append, hs]; omega), t1, e, if_neg (show ¬ i + 1 = 0 by omega)]
    rfl
def joinTl (sep : List UInt8) (r : List (List UInt8)) : List UInt8 := (r.map (sep ++ ·)).flatten
theorem itoa_no59 (n : Int) : (59 : UInt8) ∉ Go.Lib.itoa n := by
  intro h
  by_cases c : n < 0
  · obtain ⟨u, rfl⟩ : ∃ u : Nat, n = -(u : Int) := ⟨n.natAbs, by omega⟩
    rw [Go.Lib.itoa_neg u (by omega)] at h
    rcases List.mem_cons.1 h with h | h
    · exact absurd h (by decide)
    · have := dec_digits u _ h
      simp at this
  · obtain ⟨u, rfl⟩ : ∃ u : Nat, n = (u : Int) := ⟨n.toNat, by omega⟩
    rw [Go.Lib.itoa_nonneg] at h
    have := dec_digits u _ h
    simp at this
/-- What both sides answer of the words. -/
def OutT (W : List ByteArray) (R : List Int × Int) : Prop := (∃ xs, Good W xs ∧ termsOk xs = true ∧ R = (xs, 0)) ∨ ((∀ xs, Good W xs → termsOk xs = false) ∧ R = ([], 5))
theorem OutT.unique {W : List ByteArray} {R S : List Int × Int} (h : OutT W R) (g : OutT W S) : R = S := by
  rcases h with ⟨xs, a1, a2, rfl⟩ | ⟨a1, rfl⟩
  · rcases g with ⟨ys, b1, b2, rfl⟩ | ⟨b1, rfl⟩
    · rw [a1.unique b1]
    · rw [b1 xs a1] at a2; cases a2
  · rcases g with ⟨ys, b1, b2, rfl⟩ | ⟨b1, rfl⟩
    · rw [a1 ys b1] at b2; cases b2
    · rfl
theorem OutT.bad {W : List ByteArray} (i : Nat) (hi : i < W.length) (h : ∀ n : Int, -10000000000 < n → n < 10000000000 → wd W i ≠ Go.Lib.itoa n) : OutT W ([], 5) := by
  refine Or.inr ⟨fun xs hg => ?_, rfl⟩
  cases e : termsOk xs with
  | false => rfl
  | true =>
    have h1 := (termsOk_is e).2.1 i (by rw [hg.1]; exact hi)
    exact absurd (hg.2 i hi) (h _ (by omega) (by omega))
theorem OutT.all {W : List ByteArray} {xs : List Int} (hg : Good W xs) : OutT W (if termsOk xs = true then (xs, 0) else ([], 5)) := by
  by_cases c : termsOk xs = true
  · rw [if_pos c]; exact Or.inl ⟨xs, hg, c, rfl⟩
  · rw [if_neg c]
    refine Or.inr ⟨fun ys h => ?_, rfl⟩
    rw [← hg.unique h]
    simpa using c
theorem implT_loop (W : List ByteArray) (hW : W.length ≤ 1048580) (hz : ∀ w ∈ W, w.size ≤ 1048576) (d : Nat) : ∀ (i : Nat) (acc : List Int), i + d = W.length → acc.length = W.length → (∀ j, j < i → wd W j = Go.Lib.itoa (acc.getD j 0)) → ∃ R, Ev (fun k => impl_ReadTerms.l0 k acc W (W.length : Int) (i : Int)) R ∧ OutT W R := by
  induction d with
  | zero =>
    intro i acc hi ha hj
    obtain rfl : i = W.length := by omega
    refine ⟨_, ?_, OutT.all (W := W) (xs := acc) ⟨ha, hj⟩⟩
    refine Ev.step (f := fun k => (impl_ValidTerms.f k acc).bind fun t193 => (if t193 = true then (some (acc, 0)) else (some (([] : List Int), 5)))) (fun k => by rw [impl_ReadTerms.l0, if_neg (by omega)]) ?_
    refine Ev.bind (implTerms_ev acc) ⟨0, fun k _ => ?_⟩
    by_cases c : termsOk acc = true
    · rw [if_pos c, if_pos c]
    · rw [if_neg c, if_neg c]
  | succ d ih =>
    intro i acc hi ha hj
    have e : wrap64 ((i : Int) + 1) = ((i + 1 : Nat) : Int) := by rw [wrap64_id (by omega) (by omega)]; omega
    obtain ⟨r, b, g1, g2, g3⟩ := integer_word (W.getD i ByteArray.empty) (getD_size W _ hz i (by omega))
    cases b with
    | true =>
      obtain ⟨R, q1, q2⟩ := ih (i + 1) (acc.set i r) (by omega) (by simpa using ha) (fun j hji => by
        by_cases c : j = i
        · subst c
          have h1 : (acc.set j r).getD j 0 = r := by simp [List.getD_eq_getElem?_getD, show j < acc.length by omega]
          rw [h1]
          exact g2 rfl
        · have c2 : ¬ i = j := fun h => c h.symm
          have h1 : (acc.set i r).getD j 0 = acc.getD j 0 := by simp [List.getD_eq_getElem?_getD, c2]
          rw [h1]
          exact hj j (by omega))
      refine ⟨R, Ev.step (fun k => ?_) q1, q2⟩
      rw [impl_ReadTerms.l0, if_pos (by omega), if_pos (by omega), if_pos (by omega), rdOf_wd, g1, Option.bind_some, if_pos rfl, if_pos (by omega), e]
      rfl
    | false =>
      refine ⟨([], 5), Ev.step (f := fun _ => some (([] : List Int), (5 : Int))) (fun k => ?_) ⟨0, fun k _ => rfl⟩, OutT.bad i (by omega) (fun n h0 h1 h => ?_)⟩
      · rw [impl_ReadTerms.l0, if_pos (by omega), if_pos (by omega), if_pos (by omega), rdOf_wd, g1, Option.bind_some, if_neg (by simp)]
      · have := g3 n h0 h1 h
        cases this
theorem implT_words (W : List ByteArray) (hW : W.length ≤ 1048580) (hz : ∀ w ∈ W, w.size ≤ 1048576) : ∃ R, Ev (fun k => impl_ReadTerms.j0 k W) R ∧ OutT W R := by
  obtain ⟨R, p1, p2⟩ := implT_loop W hW hz W.length 0 (List.replicate ((W.length : Int) : Int).toNat 0) (by omega) (by simp) (fun j h => by omega)
  refine ⟨R, Ev.step (fun k => ?_) p1, p2⟩
  rw [impl_ReadTerms.j0, if_pos (by omega), if_pos (by omega)]
  rfl
theorem txt_two (a b : Int) (r : List Int) : ∀ i, i ≤ r.length → txt (a :: b :: r) (i + 2) = Go.Lib.itoa a ++ [59] ++ (Go.Lib.itoa b ++ joinTl [44] ((r.take i).map Go.Lib.itoa)) := by
  intro i
  induction i with
  | zero =>
    intro _
    simp [txt, joinTl]
  | succ i ih =>
    intro hi
    rw [txt, ih (by omega), if_neg (by omega), if_neg (by omega), List.take_succ_eq_append_getElem (by omega : i < r.length)]
    unfold joinTl
    rw [List.map_append, List.map_append, List.flatten_append]
    simp only [List.map_cons, List.map_nil, List.flatten_cons, List.flatten_nil, List.append_nil, List.append_assoc]
    have : (a :: b :: r).getD (i + 2) 0 = r[i] := by simp [List.getD_eq_getElem?_getD, List.getElem?_eq_getElem (by omega : i < r.length)]
    rw [this]
theorem cut_none (L : List UInt8) (h : Go.Lib.indexByte L 59 = -1) : Go.Lib.cut L [59] = (L, [], false) := by
  unfold Go.Lib.cut
  rw [Go.Lib.index_one, h, if_neg (by decide)]
theorem cut_some (L : List UInt8) (i : Nat) (h : Go.Lib.indexByte L 59 = (i : Int)) : Go.Lib.cut L [59] = (L.take i, L.drop (i + 1), true) := by
  unfold Go.Lib.cut
  rw [Go.Lib.index_one, h, if_pos (by omega)]
  rfl
/-- Terms behind the first one: each at least 1, the last one at least 2. -/
def TailOk : List Int → Prop
  | [] => True
  | [a] => 2 ≤ a
  | a :: b :: l => 1 ≤ a ∧ TailOk (b :: l)
def HdOk : List Int → Prop
  | [] => True
  | _ :: l => TailOk l
theorem tailOk_tl {a : Int} {l : List Int} (h : TailOk (a :: l)) : TailOk l := by
  cases l with
  | nil => trivial
  | cons b l => exact h.2
theorem tailOk_hd {a : Int} {l : List Int} (h : TailOk (a :: l)) : 1 ≤ a := by
  cases l with
  | nil => have h2 : (2 : Int) ≤ a := h; omega
  | cons b l => exact h.1
theorem tailOk_mem : ∀ {l : List Int}, TailOk l → ∀ z ∈ l, 1 ≤ z
  | [], _, z, hz => by cases hz
  | a :: l, h, z, hz => by
    rcases List.mem_cons.1 hz with rfl | hz
    · exact tailOk_hd h
    · exact tailOk_mem (tailOk_tl h) z hz
theorem tailOk_lt : ∀ {l : List Int}, TailOk l → 0 ≤ (cf l).2 ∧ (cf l).2 < (cf l).1
  | [], _ => by simp [cf]
  | [a], h => by have h2 : (2 : Int) ≤ a := h; simp [cf]; omega
  | a :: b :: l, h => by
    have h2 := tailOk_lt h.2
    have h3 := cf_up l (tailOk_mem (tailOk_tl h.2))
    have h1 : 1 * (cf (b :: l)).1 ≤ a * (cf (b :: l)).1 := Int.mul_le_mul_of_nonneg_right h.1 (by omega)
    have e : (cf (b :: l)).2 = (cf l).1 := rfl
    show 0 ≤ (cf (b :: l)).1 ∧ (cf (b :: l)).1 < a * (cf (b :: l)).1 + (cf (b :: l)).2
    omega
theorem tailOk_of : ∀ {l : List Int}, (∀ z ∈ l, 1 ≤ z) → (∀ h : l ≠ [], 2 ≤ l.getLast h) → TailOk l
  | [], _, _ => trivial
  | [a], _, h => h (by simp)
  | a :: b :: l, h1, h2 => ⟨h1 a (by simp), tailOk_of (fun z hz => h1 z (List.mem_cons_of_mem _ hz)) (fun h => by have h3 := h2 (by simp); rwa [List.getLast_cons (by simp)] at h3)⟩
/-- The terms are found again. -/
theorem expand_cf : ∀ (l out : List Int), HdOk l → -4294967296 ≤ (cf l).1 → (cf l).1 ≤ 4294967296 → (cf l).2 ≤ 4294967296 → out.length + l.length ≤ 100 → Ev (fun k => impl_expand.l0 k (cf l).1 (cf l).2 out) (out ++ l)
  | [], out, _, _, _, _, _ => by
    rw [List.append_nil]
    exact Ev.step (f := fun _ => some out) (fun k => by rw [impl_expand.l0]; exact if_pos rfl) (Ev.now _)
  | a :: l, out, h, h0, h1, h2, hl => by
    have ht := tailOk_lt h
    have e1 : (cf (a :: l)).1 = a * (cf l).1 + (cf l).2 := rfl
    have e2 : (cf (a :: l)).2 = (cf l).1 := rfl
    rw [e1] at h0 h1
    rw [e2] at h2
    have hd : (a * (cf l).1 + (cf l).2) / (cf l).1 = a := by
      rw [Int.add_comm, Int.add_mul_ediv_right _ _ (by omega), Int.ediv_eq_zero_of_lt ht.1 ht.2]; omega
    have ih := expand_cf l (out ++ [a]) (by cases l with | nil => trivial | cons b l => exact tailOk_tl h) (by omega) (by omega) (by omega) (by simp at hl ⊢; omega)
    rw [List.append_assoc] at ih
    rw [e1, e2]
    refine Ev.step (fun k => by rw [impl_expand.l0]) (Ev.congr (fun k => if_neg (by omega)) ?_)
    rw [floor_is (by omega) (by omega) (by omega), hd]
    simp only [Option.bind_some]
    rw [wrap64_id (n := a * (cf l).1) (by omega) (by omega), show a * (cf l).1 + (cf l).2 - a * (cf l).1 = (cf l).2 by omega, wrap64_id (n := (cf l).2) (by omega) (by omega)]
    exact Ev.congr (fun k => if_pos (by omega)) ih
/-- The order of terms: what is behind the end is greater than all. -/
def cmpL : List Int → List Int → Int
  | [], [] => 0
  | [], _ :: _ => 1
  | _ :: _, [] => -1
  | a :: l, b :: m => if a < b then -1 else if b < a then 1 else -(cmpL l m)
def sgn (d : Int) : Int := if d < 0 then -1 else if 0 < d then 1 else 0
theorem sgn_neg (d : Int) : sgn (-d) = -(sgn d) := by unfold sgn; split <;> split <;> (try split) <;> omega
theorem cmp_cf : ∀ (l m : List Int), HdOk l → HdOk m → cmpL l m = sgn ((cf l).1 * (cf m).2 - (cf m).1 * (cf l).2)
  | [], [], _, _ => by simp [cmpL, cf, sgn]
  | [], b :: m, _, h => by
    have h2 := tailOk_lt (show TailOk m from h)
    have e : (cf (b :: m)).2 = (cf m).1 := rfl
    simp only [cmpL, cf, sgn, Int.mul_zero, Int.one_mul, Int.sub_zero]
    rw [if_neg (by omega), if_pos (by omega)]
  | a :: l, [], h, _ => by
    have h2 := tailOk_lt (show TailOk l from h)
    simp only [cmpL, cf, sgn, Int.mul_zero, Int.one_mul, Int.zero_sub]
    rw [if_pos (by omega)]
  | a :: l, b :: m, h, g => by
    have hl := tailOk_lt (show TailOk l from h)
    have hm := tailOk_lt (show TailOk m from g)
    have ih := cmp_cf l m (by cases l with | nil => trivial | cons x l => exact tailOk_tl h) (by cases m with | nil => trivial | cons x m => exact tailOk_tl g)
    have e1 : (cf (a :: l)).1 = a * (cf l).1 + (cf l).2 := rfl
    have e2 : (cf (a :: l)).2 = (cf l).1 := rfl
    have e3 : (cf (b :: m)).1 = b * (cf m).1 + (cf m).2 := rfl
    have e4 : (cf (b :: m)).2 = (cf m).1 := rfl
    rw [e1, e2, e3, e4]
    generalize (cf l).1 = X at *
    generalize (cf l).2 = Y at *
    generalize (cf m).1 = U at *
    generalize (cf m).2 = V at *
    have key : (a * X + Y) * U - (b * U + V) * X = (a - b) * (X * U) + (Y * U - V * X) := by grind
    rw [key]
    have p1 : 1 ≤ X * U := by
      have := Int.mul_le_mul (show (1 : Int) ≤ X by omega) (show (1 : Int) ≤ U by omega) (by omega) (by omega)
      simpa using this
    have p2 : 0 ≤ Y * U := Int.mul_nonneg hl.1 (by omega)
    have p3 : 0 ≤ V * X := Int.mul_nonneg hm.1 (by omega)
    have p4 : (Y + 1) * U ≤ X * U := Int.mul_le_mul_of_nonneg_right (by omega) (by omega)
    have p5 : (V + 1) * X ≤ U * X := Int.mul_le_mul_of_nonneg_right (by omega) (by omega)
    have p6 : (Y + 1) * U = Y * U + U := by grind
    have p7 : (V + 1) * X = V * X + X := by grind
    have p8 : U * X = X * U := Int.mul_comm _ _
    simp only [cmpL]
    rcases Int.lt_trichotomy a b with c | c | c
    · have q : (a - b) * (X * U) ≤ -1 * (X * U) := Int.mul_le_mul_of_nonneg_right (by omega) (by omega)
      rw [if_pos c]; unfold sgn; rw [if_pos (by omega)]
    · rw [if_neg (by omega), if_neg (by omega), ih, ← sgn_neg, c]
      congr 1
      grind
    · have q : 1 * (X * U) ≤ (a - b) * (X * U) := Int.mul_le_mul_of_nonneg_right (by omega) (by omega)
      rw [if_neg (by omega), if_pos c]; unfold sgn; rw [if_neg (by omega), if_pos (by omega)]
theorem drop_cons_getD {xs : List Int} {i : Nat} (hi : i < xs.length) : xs.drop i = xs.getD i 0 :: xs.drop (i + 1) := by
  rw [List.drop_eq_getElem_cons hi, List.getD_eq_getElem?_getD, List.getElem?_eq_getElem hi]; rfl
theorem sg_next (i : Nat) : sg (i + 1) = -(sg i) := by
  unfold sg
  have : i % 2 = 0 ∨ i % 2 = 1 := by omega
  rcases this with c | c
  · rw [if_pos (by omega), if_neg (by omega)]
  · rw [if_neg (by omega), if_pos (by omega)]; rfl
theorem implcmp_loop (a b : List Int) (ha : termsOk a = true) (hb : termsOk b = true) (n : Int) (hn : n = mx (a.length : Int) (b.length : Int)) (d : Nat) : ∀ i : Nat, (i : Int) + d = n → i ≤ a.length → i ≤ b.length →
    Ev (fun k => impl_CompareTerms.l0 k a b n (i : Int)) (sg i * cmpL (a.drop i) (b.drop i), 0) := by
  obtain ⟨ha1, ha2, _⟩ := termsOk_is ha
  obtain ⟨hb1, hb2, _⟩ := termsOk_is hb
  have hm : (n = a.length ∨ n = b.length) ∧ (a.length : Int) ≤ n ∧ (b.length : Int) ≤ n := by
    rw [hn]; unfold mx; split <;> omega
  induction d with
  | zero =>
    intro i hd hia hib
    rw [List.drop_eq_nil_of_le (by omega), List.drop_eq_nil_of_le (by omega)]
    simp only [cmpL, Int.mul_zero]
    refine Ev.step (fun k => by rw [impl_CompareTerms.l0]) (Ev.congr (fun k => if_neg (by omega)) (Ev.now _))
  | succ d ih =>
    intro i hd hia hib
    by_cases ca : i = a.length
    · have hb3 := hb2 i (by omega)
      rw [List.drop_eq_nil_of_le (show a.length ≤ i by omega), drop_cons_getD (show i < b.length by omega)]
      simp only [cmpL, Int.mul_one]
      refine Ev.step (fun k => by rw [impl_CompareTerms.l0]) (Ev.congr (fun k => if_pos (by omega)) (Ev.congr (fun k => if_neg (by omega)) ?_))
      refine Ev.step (fun k => by rw [impl_CompareTerms.j2]) (Ev.congr (fun k => if_pos (by omega)) (Ev.congr (fun k => if_pos (by omega)) ?_))
      rw [rd_nat, order_gt (by omega)]; simp only [Option.bind_some]
      rw [sg_times i 1 (.inl rfl)]
      exact Ev.now _
    · have ha3 := ha2 i (by omega)
      by_cases cb : i = b.length
      · rw [List.drop_eq_nil_of_le (show b.length ≤ i by omega), drop_cons_getD (show i < a.length by omega)]
        simp only [cmpL]
        rw [show sg i * -1 = -(sg i) by omega]
        refine Ev.step (fun k => by rw [impl_CompareTerms.l0]) (Ev.congr (fun k => if_pos (by omega)) (Ev.congr (fun k => if_pos (by omega)) (Ev.congr (fun k => if_pos (by omega)) ?_)))
        refine Ev.step (fun k => by rw [impl_CompareTerms.j2]) (Ev.congr (fun k => if_neg (by omega)) ?_)
        rw [rd_nat, order_lt (by omega)]; simp only [Option.bind_some]
        rw [sg_times i (-1) (.inr rfl)]
        exact Ev.now _
      · have hb3 := hb2 i (by omega)
        have hi : ∀ r : Int × Int, Ev (fun k => (impl_order.f (rd a i) (rd b i)).bind fun t125 => (if t125 = 0 then (impl_CompareTerms.l0 k a b n (wrap64 ((i : Int) + 1))) else (some (wrap64 (t125 * (wrap64 (1 - (wrap64 (2 * (Int.tmod (i : Int) 2)))))), 0)))) r → Ev (fun k => impl_CompareTerms.l0 k a b n (i : Int)) r := by
          intro r h
          refine Ev.step (fun k => by rw [impl_CompareTerms.l0]) (Ev.congr (fun k => if_pos (by omega)) (Ev.congr (fun k => if_pos (by omega)) (Ev.congr (fun k => if_pos (by omega)) ?_)))
          refine Ev.step (fun k => by rw [impl_CompareTerms.j2]) (Ev.congr (fun k => if_pos (by omega)) (Ev.congr (fun k => if_pos (by omega)) ?_))
          exact h
        rw [drop_cons_getD (show i < a.length by omega), drop_cons_getD (show i < b.length by omega)]
        simp only [cmpL, ← rd_nat]
        rcases Int.lt_trichotomy (rd a i) (rd b i) with c | c | c
        · rw [if_pos c, show sg i * -1 = -(sg i) by omega]
          refine hi _ ?_
          rw [order_lt c]; simp only [Option.bind_some]; rw [sg_times i (-1) (.inr rfl)]; exact Ev.now _
        · rw [if_neg (by omega), if_neg (by omega)]
          have h2 := ih (i + 1) (by omega) (by omega) (by omega)
          rw [sg_next] at h2
          rw [show sg i * -(cmpL (a.drop (i + 1)) (b.drop (i + 1))) = -(sg i) * cmpL (a.drop (i + 1)) (b.drop (i + 1)) by grind]
          refine hi _ ?_
          rw [c, order_eq]; simp only [Option.bind_some]
          refine Ev.congr (fun k => if_pos trivial) ?_
          rw [wrap64_id (by omega) (by omega)]; exact h2
        · rw [if_neg (by omega), if_pos c, Int.mul_one]
          refine hi _ ?_
          rw [order_gt c]; simp only [Option.bind_some]; rw [sg_times i 1 (.inl rfl)]; exact Ev.now _
theorem implcmp_ev (a b : List Int) (ha : termsOk a = true) (hb : termsOk b = true) : Ev (fun k => impl_CompareTerms.f k a b) (cmpL a b, 0) := by
  obtain ⟨d, hd⟩ : ∃ d : Nat, (d : Int) = mx (a.length : Int) (b.length : Int) := ⟨(mx (a.length : Int) (b.length : Int)).toNat, by unfold mx; split <;> omega⟩
  have hi := implcmp_loop a b ha hb _ rfl d 0 (by omega) (by omega) (by omega)
  rw [show sg 0 = 1 from rfl, Int.one_mul, List.drop_zero, List.drop_zero] at hi
  refine Ev.congr (fun k => by unfold impl_CompareTerms.f; rfl) (Ev.bind (implTerms_ev a) ?_)
  rw [ha]; refine Ev.congr (fun k => if_pos rfl) (Ev.bind (implTerms_ev b) ?_)
  rw [hb]; refine Ev.step (fun k => by rw [impl_CompareTerms.j0]) (Ev.congr (fun k => if_neg (by simp)) ?_)
  refine Ev.congr (fun k => ?_) hi
  unfold mx; split <;> rfl
theorem ratio_prod {p q : Int} (hp : -2147483648 ≤ p ∧ p ≤ 2147483648) (hq : 1 ≤ q ∧ q ≤ 2147483648) : -4611686018427387904 ≤ p * q ∧ p * q ≤ 4611686018427387904 := by
  have h1 : p * q ≤ 2147483648 * q := Int.mul_le_mul_of_nonneg_right hp.2 (by omega)
  have h2 : -2147483648 * q ≤ p * q := Int.mul_le_mul_of_nonneg_right hp.1 (by omega)
  omega
theorem specCompare_ev {p q u v : Int} (h : ratioOk p q = true) (g : ratioOk u v = true) : Ev (fun k => spec_CompareRatios.f k p q u v) (sgn (p * v - u * q), 0) := by
  have h1 := ratioOk_is h
  have g1 := ratioOk_is g
  have a1 := ratio_prod h1.2.1 g1.1
  have a2 := ratio_prod g1.2.1 h1.1
  refine Ev.congr (fun k => by unfold spec_CompareRatios.f; rfl) (Ev.bind (specRatio_ev p q) ?_)
  rw [h]; refine Ev.congr (fun k => if_pos rfl) (Ev.bind (specRatio_ev u v) ?_)
  rw [g]; refine Ev.congr (fun k => if_pos rfl) ?_
  unfold spec_l03Order.f sgn
  rw [wrap64_id (by omega) (by omega), wrap64_id (by omega) (by omega)]
  by_cases c : p * v < u * q
  · rw [if_pos c, if_pos (by omega)]; exact Ev.now _
  · rw [if_neg c, if_neg (show ¬ p * v - u * q < 0 by omega)]
    by_cases c2 : p * v > u * q
    · rw [if_pos c2, if_pos (by omega)]; exact Ev.now _
    · rw [if_neg c2, if_neg (by omega)]; exact Ev.now _
theorem implCompare_ev {p q u v : Int} (h : ratioOk p q = true) (g : ratioOk u v = true) : Ev (fun k => impl_CompareRatios.f k p q u v) (sgn (p * v - u * q), 0) := by
  have h1 := ratioOk_is h
  have g1 := ratioOk_is g
  have a1 := ratio_prod h1.2.1 g1.1
  have a2 := ratio_prod g1.2.1 h1.1
  refine Ev.congr (fun k => by unfold impl_CompareRatios.f; rfl) (Ev.bind (implRatio_ev p q) ?_)
  rw [h]; refine Ev.congr (fun k => if_pos rfl) (Ev.bind (implRatio_ev u v) ?_)
  rw [g]; refine Ev.congr (fun k => if_pos rfl) ?_
  unfold impl_order.f sgn
  rw [wrap64_id (by omega) (by omega), wrap64_id (by omega) (by omega)]
  by_cases c : p * v < u * q
  · rw [if_pos c, if_pos (by omega)]; exact Ev.now _
  · rw [if_neg c, if_neg (show ¬ p * v - u * q < 0 by omega)]
    by_cases c2 : p * v > u * q
    · rw [if_pos c2, if_pos (by omega)]; exact Ev.now _
    · rw [if_neg c2, if_neg (by omega)]; exact Ev.now _
theorem u64_wrap (n : Int) : IntKind.u64.wrap n = n % 18446744073709551616 := by simp [IntKind.wrap, IntKind.bits, IntKind.signed]
theorem and255 (n : Int) (h0 : 0 ≤ n) (h1 : n < 18446744073709551616) : Go.bits .and .u64 n 255 = n % 256 :=
  bits_mask .u64 64 (by decide) (fun n h0 h1 => by rw [u64_wrap]; exact Int.emod_eq_of_lt h0 (by simpa using h1)) 8 (by decide) n h0 (by simpa using h1)
theorem byte_at {s : List Int} (hs : ∀ z ∈ s, 0 ≤ z ∧ z ≤ 255) (i : Int) : 0 ≤ rd s i ∧ rd s i ≤ 255 := by
  unfold rd
  rw [List.getD_eq_getElem?_getD]
  rcases Nat.lt_or_ge i.toNat s.length with h | h
  · rw [List.getElem?_eq_getElem h]; exact hs _ (List.getElem_mem h)
  · rw [List.getElem?_eq_none h]; simp
theorem next_is (s : List Int) (hs : ∀ z ∈ s, 0 ≤ z ∧ z ≤ 255) (i : Int) (h0 : 0 ≤ i) (h1 : i ≤ 1000000000) (sd : Int) : ∃ x sd', spec_l00Src_next.f s i sd = some (x, i + 1, sd') ∧ 0 ≤ x ∧ x ≤ 255 := by
  have hb := byte_at hs i
  have ew : wrap64 (i + 1) = i + 1 := wrap64_id (by omega) (by omega)
  unfold spec_l00Src_next.f
  rw [ew]
  by_cases c : i < (s.length : Int)
  · rw [if_pos c, if_pos h0, if_pos (by omega)]
    exact ⟨_, _, rfl, by rw [wrap64_id (by omega) (by omega)]; omega⟩
  · rw [if_neg c, if_neg (by omega)]
    refine ⟨_, _, rfl, ?_⟩
    generalize IntKind.u64.wrap (sd * 6364136223846793005) = A
    rw [u64_wrap (IntKind.u64.wrap _ + 1442695040888963407)]
    generalize IntKind.u64.wrap _ + 1442695040888963407 = B
    have b0 : 0 ≤ B % 18446744073709551616 ∧ B % 18446744073709551616 < 18446744073709551616 := by omega
    rw [and255 _ (by omega) (by omega), wrap64_id (by omega) (by omega)]
    omega
theorem pick_is (s : List Int) (hs : ∀ z ∈ s, 0 ≤ z ∧ z ≤ 255) (i : Int) (h0 : 0 ≤ i) (h1 : i ≤ 1000000000) (sd n : Int) (hn : 2 ≤ n ∧ n ≤ 200) : ∃ x i' sd', spec_l00Src_pick.f s i sd n = some (x, i', sd') ∧ 0 ≤ x ∧ x < n ∧ 0 ≤ i' ∧ i' ≤ i + 1 := by
  obtain ⟨x, sd', hx, hx0, _⟩ := next_is s hs i h0 h1 sd
  unfold spec_l00Src_pick.f
  rw [if_neg (by omega), hx]
  simp only [Option.bind_some]
  rw [if_neg (by omega), if_neg (by omega)]
  refine ⟨_, _, _, rfl, ?_, ?_, by omega, by omega⟩
  · exact Int.tmod_nonneg _ hx0
  · exact Int.tmod_lt_of_pos _ (by omega)
/-- Terms as they are drawn: few and small. -/
def Drawn (xs : List Int) : Prop := ∃ a l, xs = a :: l ∧ l.length ≤ 5 ∧ (-4 ≤ a ∧ a ≤ 4) ∧ (∀ z ∈ l, 1 ≤ z ∧ z ≤ 5) ∧ TailOk l
theorem drawn_end (a : Int) (ha : -4 ≤ a ∧ a ≤ 4) (l : List Int) (hl : l.length ≤ 5) (hz : ∀ z ∈ l, 1 ≤ z ∧ z ≤ 5) (s : List Int) (i sd : Int) : ∃ xs, Drawn xs ∧ ∀ k, spec_l04Drawn.l0 (k + 1) (a :: l) 0 s i sd = some (xs, i, sd) := by
  rcases List.eq_nil_or_concat l with rfl | ⟨l', z, rfl⟩
  · refine ⟨[a], ⟨a, [], rfl, by simp, ha, by simp, trivial⟩, fun k => ?_⟩
    rw [spec_l04Drawn.l0, if_neg (by omega), if_neg (by simp)]
  · simp only [List.concat_eq_append] at *
    have hlen : (a :: (l' ++ [z])).length = l'.length + 2 := by simp
    have e1 : wrap64 (((a :: (l' ++ [z])).length : Int) - 1) = ((l'.length + 1 : Nat) : Int) := by
      rw [hlen, wrap64_id (by simp at hl; omega) (by simp at hl; omega)]; omega
    have e2 : rd (a :: (l' ++ [z])) ((l'.length + 1 : Nat) : Int) = z := by
      rw [rd_nat]; simp [List.getD_eq_getElem?_getD]
    have hz2 := hz z (by simp)
    by_cases c : z = 1
    · refine ⟨a :: (l' ++ [2]), ⟨a, l' ++ [2], rfl, by simpa using hl, ha, ?_, tailOk_of ?_ ?_⟩, fun k => ?_⟩
      · intro y hy
        rcases List.mem_append.1 hy with h | h
        · exact hz y (by simp [h])
        · rw [List.mem_singleton.1 h]; omega
      · intro y hy
        rcases List.mem_append.1 hy with h | h
        · exact (hz y (by simp [h])).1
        · rw [List.mem_singleton.1 h]; omega
      · intro h; simp
      · rw [spec_l04Drawn.l0, if_neg (by omega), e1, if_pos (by omega), if_pos (by omega), if_pos (by omega), e2, if_pos c]
        have e3 : (a :: (l' ++ [z])).set (((l'.length + 1 : Nat) : Int)).toNat 2 = a :: (l' ++ [2]) := by
          rw [show (((l'.length + 1 : Nat) : Int)).toNat = l'.length + 1 from rfl]
          simp [List.set_cons_succ]
        rw [e3]
    · refine ⟨a :: (l' ++ [z]), ⟨a, l' ++ [z], rfl, hl, ha, hz, tailOk_of (fun y hy => (hz y hy).1) (fun h => by simp; omega)⟩, fun k => ?_⟩
      rw [spec_l04Drawn.l0, if_neg (by omega), e1, if_pos (by omega), if_pos (by omega), if_pos (by omega), e2, if_neg c]
theorem drawn_loop (s : List Int) (hs : ∀ z ∈ s, 0 ≤ z ∧ z ≤ 255) (a : Int) (ha : -4 ≤ a ∧ a ≤ 4) (d : Nat) : ∀ (l : List Int) (i sd : Int), l.length + d ≤ 5 → (∀ z ∈ l, 1 ≤ z ∧ z ≤ 5) → 0 ≤ i → i + d ≤ 1000 → ∃ xs i' sd', Drawn xs ∧ Ev (fun k => spec_l04Drawn.l0 k (a :: l) (d : Int) s i sd) (xs, i', sd') := by
  induction d with
  | zero =>
    intro l i sd hl hz h0 h1
    obtain ⟨xs, hd, hx⟩ := drawn_end a ha l (by omega) hz s i sd
    exact ⟨xs, i, sd, hd, Ev.step (f := fun _ => some (xs, i, sd)) hx (Ev.now _)⟩
  | succ d ih =>
    intro l i sd hl hz h0 h1
    obtain ⟨x, i2, sd2, hp, hx0, hx1, hi0, hi1⟩ := pick_is s hs i h0 (by omega) sd 5 (by omega)
    obtain ⟨xs, i', sd', hd, he⟩ := ih (l ++ [1 + x]) i2 sd2 (by simp; omega) (by
      intro z h
      rcases List.mem_append.1 h with h | h
      · exact hz z h
      · rw [List.mem_singleton.1 h]; omega) hi0 (by omega)
    refine ⟨xs, i', sd', hd, Ev.step (fun k => by rw [spec_l04Drawn.l0]) (Ev.congr (fun k => if_pos (by omega)) ?_)⟩
    rw [hp]
    simp only [Option.bind_some]
    rw [wrap64_id (n := 1 + x) (by omega) (by omega), show wrap64 (((d + 1 : Nat) : Int) - 1) = (d : Int) by rw [wrap64_id (by omega) (by omega)]; omega]
    exact Ev.congr (fun k => if_pos (by simp; omega)) he
theorem a2terms_ev (s : List Int) (hs : ∀ z ∈ s, 0 ≤ z ∧ z ≤ 255) : ∃ xs, Drawn xs ∧ Ev (fun k => spec_A2Terms.f k s) xs := by
  obtain ⟨x, i1, sd1, hp, hx0, hx1, hi0, hi1⟩ := pick_is s hs 0 (by omega) (by omega) 0 9 (by omega)
  obtain ⟨y, i2, sd2, hq, hy0, hy1, hj0, hj1⟩ := pick_is s hs i1 hi0 (by omega) sd1 6 (by omega)
  obtain ⟨d, rfl⟩ : ∃ d : Nat, y = (d : Int) := ⟨y.toNat, by omega⟩
  obtain ⟨xs, i', sd', hd, he⟩ := drawn_loop s hs (x - 4) (by omega) d [] i2 sd2 (by simp; omega) (by simp) hj0 (by omega)
  refine ⟨xs, hd, Ev.congr (fun k => by unfold spec_A2Terms.f spec_l00From.f; rfl) ?_⟩
  simp only [Option.bind_some]
  refine Ev.bind (a := (xs, i', sd')) ?_ (Ev.now _)
  have e : ∀ k, spec_l04Drawn.f k s 0 0 6 = spec_l04Drawn.l0 k [x - 4] (d : Int) s i2 sd2 := fun k => by
    unfold spec_l04Drawn.f
    rw [hp, Option.bind_some]
    simp only
    rw [hq, Option.bind_some, wrap64_id (by omega) (by omega)]
  exact Ev.congr e he
theorem cf_small : ∀ l : List Int, (∀ z ∈ l, 1 ≤ z ∧ z ≤ 5) → (cf l).1 ≤ 6 ^ l.length
  | [], _ => by simp [cf]
  | a :: l, h => by
    have ih := cf_small l (fun z hz => h z (List.mem_cons_of_mem _ hz))
    have hu := cf_up l (fun z hz => (h z (List.mem_cons_of_mem _ hz)).1)
    have ha := h a (List.mem_cons_self ..)
    have h1 : a * (cf l).1 ≤ 5 * (cf l).1 := Int.mul_le_mul_of_nonneg_right ha.2 (by omega)
    rw [List.length_cons, Int.pow_succ]
    show a * (cf l).1 + (cf l).2 ≤ _
    omega
theorem cf_five (l : List Int) (hl : l.length ≤ 5) (h : ∀ z ∈ l, 1 ≤ z ∧ z ≤ 5) : 1 ≤ (cf l).1 ∧ (cf l).1 ≤ 7776 ∧ 0 ≤ (cf l).2 ∧ (cf l).2 ≤ (cf l).1 := by
  have h1 := cf_small l h
  have h2 := cf_up l (fun z hz => (h z hz).1)
  have h3 : (6 : Int) ^ l.length ≤ 7776 := by
    have : ∀ n : Nat, n ≤ 5 → (6 : Int) ^ n ≤ 7776 := by intro n hn; match n, hn with | 0, _ => decide | 1, _ => decide | 2, _ => decide | 3, _ => decide | 4, _ => decide | 5, _ => decide
    exact this _ hl
  omega
theorem cf_six (a : Int) (l : List Int) (ha : -4 ≤ a ∧ a ≤ 4) (hl : l.length ≤ 5) (h : ∀ z ∈ l, 1 ≤ z ∧ z ≤ 5) : (-40000 ≤ (cf (a :: l)).1 ∧ (cf (a :: l)).1 ≤ 40000) ∧ 1 ≤ (cf (a :: l)).2 ∧ (cf (a :: l)).2 ≤ 7776 := by
  have h1 := cf_five l hl h
  have h2 : a * (cf l).1 ≤ 4 * (cf l).1 := Int.mul_le_mul_of_nonneg_right ha.2 (by omega)
  have h3 : -4 * (cf l).1 ≤ a * (cf l).1 := Int.mul_le_mul_of_nonneg_right ha.1 (by omega)
  have e1 : (cf (a :: l)).1 = a * (cf l).1 + (cf l).2 := rfl
  have e2 : (cf (a :: l)).2 = (cf l).1 := rfl
  omega
theorem drawn_ok {xs : List Int} (h : Drawn xs) : termsOk xs = true := by
  obtain ⟨a, l, rfl, hl, ha, hz, ht⟩ := h
  refine termsOk_of (by simp; omega) ?_ ?_
  · intro j hj
    cases j with
    | zero => simp [List.getD_eq_getElem?_getD]; omega
    | succ j =>
      have hj2 : j < l.length := by simpa using hj
      have := hz l[j] (List.getElem_mem hj2)
      simp [List.getD_eq_getElem?_getD, hj2]; omega
  · rcases List.eq_nil_or_concat l with rfl | ⟨l', z, rfl⟩
    · simp
    · right
      simp only [List.concat_eq_append] at *
      have hz2 : ∀ {m : List Int} {z : Int}, TailOk (m ++ [z]) → 2 ≤ z := by
        intro m z h
        induction m with
        | nil => exact h
        | cons y m ih => exact ih (tailOk_tl h)
      have := hz2 ht
      simpa [List.getD_eq_getElem?_getD] using this
theorem drawn_ratio {xs : List Int} (h : Drawn xs) : (-40000 ≤ (cf xs).1 ∧ (cf xs).1 ≤ 40000) ∧ (1 ≤ (cf xs).2 ∧ (cf xs).2 ≤ 7776) ∧ ratioOk (cf xs).1 (cf xs).2 = true ∧ HdOk xs := by
  obtain ⟨a, l, rfl, hl, ha, hz, ht⟩ := h
  have h1 := cf_six a l ha hl hz
  refine ⟨h1.1, h1.2, ?_, ht⟩
  unfold ratioOk
  rw [cf_gcd]
  simp
  omega
theorem drawn_take {xs : List Int} (h : Drawn xs) (i : Nat) : (-40000 ≤ (cf (xs.take (i + 1))).1 ∧ (cf (xs.take (i + 1))).1 ≤ 40000) ∧ (1 ≤ (cf (xs.take (i + 1))).2 ∧ (cf (xs.take (i + 1))).2 ≤ 7776) ∧ ratioOk (cf (xs.take (i + 1))).1 (cf (xs.take (i + 1))).2 = true := by
  obtain ⟨a, l, rfl, hl, ha, hz, ht⟩ := h
  rw [List.take_succ_cons]
  have h1 := cf_six a (l.take i) ha (by rw [List.length_take]; omega) (fun z h => hz z (List.mem_of_mem_take h))
  refine ⟨h1.1, h1.2, ?_⟩
  unfold ratioOk
  rw [cf_gcd]
  simp
  omega
/-- On which side a beginning of the terms lies. -/
theorem cf_cross : ∀ (i : Nat) (l : List Int), (cf (l.take i)).1 * (cf l).2 - (cf l).1 * (cf (l.take i)).2 = (if i % 2 = 0 then 1 else -1) * (cf (l.drop i)).2
  | 0, l => by simp [cf]
  | i + 1, [] => by simp [cf]
  | i + 1, a :: l => by
    have ih := cf_cross i l
    rw [List.take_succ_cons, List.drop_succ_cons]
    simp only [cf]
    have key : (a * (cf (l.take i)).1 + (cf (l.take i)).2) * (cf l).1 - (a * (cf l).1 + (cf l).2) * (cf (l.take i)).1 = -((cf (l.take i)).1 * (cf l).2 - (cf l).1 * (cf (l.take i)).2) := by grind
    rw [key, ih]
    by_cases c : i % 2 = 0
    · rw [if_pos c, if_neg (by omega)]; omega
    · rw [if_neg c, if_pos (by omega)]; omega
/-- The convergents, one by one. -/
def convL (xs : List Int) (i : Nat) : List S25 := (List.range i).map fun j => ⟨(cf (xs.take (j + 1))).1, (cf (xs.take (j + 1))).2⟩
theorem convL_len (xs : List Int) (i : Nat) : (convL xs i).length = i := by simp [convL]
theorem convL_rd (xs : List Int) (i j : Nat) (h : j < i) : rd_T25 (convL xs i) (j : Int) = ⟨(cf (xs.take (j + 1))).1, (cf (xs.take (j + 1))).2⟩ := by
  simp [rd_T25, convL, List.getD_eq_getElem?_getD, h]
theorem conv_vals {xs : List Int} (hx : TermsLike xs) (hs : ∀ i, (((cf (xs.take (i + 1))).1.natAbs : Nat) : Int) ≤ 2147483648 ∧ (cf (xs.take (i + 1))).2 ≤ 2147483648) (d : Nat) : ∀ (i : Nat) (p q p0 q0 : Int), i + d = xs.length → At xs i p q p0 q0 →
    Ev (fun k => impl_convergents.l0 k (convL xs i) p q p0 q0 xs (xs.length : Int) (i : Int)) (convL xs xs.length) ∧ Ev (fun k => spec_ConvergentsOf.l0 k xs (convL xs i) ((i : Int) + 1)) (convL xs xs.length, 0) := by
  induction d with
  | zero =>
    intro i p q p0 q0 hd h
    have hlen := hx.1
    obtain rfl : i = xs.length := by omega
    refine ⟨?_, ?_⟩
    · exact Ev.step (fun k => by rw [impl_convergents.l0]) (Ev.congr (fun k => if_neg (by omega)) (Ev.now _))
    · exact Ev.step (fun k => by rw [spec_ConvergentsOf.l0]) (Ev.congr (fun k => if_neg (by omega)) (Ev.now _))
  | succ d ih =>
    intro i p q p0 q0 hd h
    have hlen := hx.1.2
    have hi : i < xs.length := by omega
    have hh := at_here h hi
    have hb := hs i
    rw [hh] at hb
    simp only at hb
    have hv : valR (xs.take (i + 1)) = (xs.getD i 0 * p + p0, xs.getD i 0 * q + q0, 0) := by
      unfold valR; rw [hh]; exact if_pos hb
    have hc : convL xs (i + 1) = convL xs i ++ [(⟨xs.getD i 0 * p + p0, xs.getD i 0 * q + q0⟩ : S25)] := by
      unfold convL; rw [List.range_succ, List.map_append, List.map_cons, List.map_nil, hh]
    obtain ⟨h2, h3⟩ := ih (i + 1) _ _ _ _ (by omega) (at_next hx h hi (by omega) hb.2)
    rw [hc] at h2 h3
    have hcl := convL_len xs i
    refine ⟨conv_step hx h hi _ (by omega) _ (Ev.congr (fun k => if_neg (by omega)) (Ev.congr (fun k => if_neg (by omega)) h2)), ?_⟩
    refine Ev.step (fun k => by rw [spec_ConvergentsOf.l0]) (Ev.congr (fun k => if_pos (by omega)) (Ev.congr (fun k => if_pos (by omega)) ?_))
    rw [show ((i : Int) + 1).toNat = i + 1 by omega]
    refine Ev.bind (specValue_ev _ (hx.take (i + 1) (by omega) (by omega))) ?_
    rw [hv]
    refine Ev.congr (fun k => if_pos rfl) (Ev.congr (fun k => if_pos (by omega)) ?_)
    rw [wrap64_id (n := (i : Int) + 1 + 1) (by omega) (by omega)]
    exact h3
theorem terms_wide {xs : List Int} (c : termsOk xs = true) : ∀ j, j < xs.length → -9223372036854775808 ≤ xs.getD j 0 ∧ xs.getD j 0 ≤ 9223372036854775807 := fun j hj => by
  have := (termsOk_is c).2.1 j hj
  omega
theorem conv_both {xs : List Int} (c : termsOk xs = true) (hs : ∀ i, (((cf (xs.take (i + 1))).1.natAbs : Nat) : Int) ≤ 2147483648 ∧ (cf (xs.take (i + 1))).2 ≤ 2147483648) : Ev (fun k => spec_ConvergentsOf.f k xs) (convL xs xs.length, 0) ∧ Ev (fun k => impl_ConvergentsOf.f k xs) (convL xs xs.length, 0) := by
  obtain ⟨h1, h2, _⟩ := termsOk_is c
  have hx : TermsLike xs := ⟨h1, h2⟩
  obtain ⟨p1, p2⟩ := conv_vals hx hs xs.length 0 1 0 0 1 (by omega) (at_zero xs)
  have hl := convL_len xs xs.length
  refine ⟨?_, ?_⟩
  · refine Ev.congr (fun k => by unfold spec_ConvergentsOf.f; rfl) (Ev.bind (specTerms_ev xs (terms_wide c)) ?_)
    rw [c]; exact Ev.congr (fun k => if_pos rfl) p2
  · refine Ev.congr (fun k => by unfold impl_ConvergentsOf.f impl_convergents.f; rfl) (Ev.bind (implTerms_ev xs) ?_)
    rw [c]; refine Ev.congr (fun k => if_pos rfl) (Ev.bind p1 ?_)
    exact Ev.congr (fun k => if_neg (by omega)) (Ev.now _)
theorem ratio_both {xs : List Int} (c : termsOk xs = true) (hs : ∀ i, (((cf (xs.take (i + 1))).1.natAbs : Nat) : Int) ≤ 2147483648 ∧ (cf (xs.take (i + 1))).2 ≤ 2147483648) : Ev (fun k => spec_RatioOf.f k xs) ((cf xs).1, (cf xs).2, 0) ∧ Ev (fun k => impl_RatioOf.f k xs) ((cf xs).1, (cf xs).2, 0) := by
  obtain ⟨h1, h2, _⟩ := termsOk_is c
  have hx : TermsLike xs := ⟨h1, h2⟩
  have hl := hs (xs.length - 1)
  rw [show xs.length - 1 + 1 = xs.length by omega, List.take_length] at hl
  have hcl := convL_len xs xs.length
  refine ⟨?_, ?_⟩
  · refine Ev.congr (fun k => by unfold spec_RatioOf.f; rfl) (Ev.bind (specTerms_ev xs (terms_wide c)) ?_)
    rw [c]
    have hv : valR xs = ((cf xs).1, (cf xs).2, 0) := by unfold valR; exact if_pos hl
    refine Ev.congr (fun k => if_pos rfl) (Ev.bind (specValue_ev xs hx) ?_)
    rw [hv]; exact Ev.now _
  · refine Ev.congr (fun k => by unfold impl_RatioOf.f; rfl) (Ev.bind (conv_both c hs).2 ?_)
    simp only
    rw [hcl, wrap64_id (by omega) (by omega)]
    have e : rd_T25 (convL xs xs.length) ((xs.length : Int) - 1) = ⟨(cf xs).1, (cf xs).2⟩ := by
      have h5 := convL_rd xs xs.length (xs.length - 1) (by omega)
      rw [show xs.length - 1 + 1 = xs.length by omega, List.take_length] at h5
      rw [← h5]; congr 1; omega
    rw [e]
    exact Ev.congr (fun k => if_pos trivial) (Ev.congr (fun k => if_pos (by omega)) (Ev.congr (fun k => if_pos (by omega)) (Ev.now _)))
theorem implText_ok (xs : List Int) (c : termsOk xs = true) : Ev (fun k => impl_TermsText.f k xs) (mk (txt xs xs.length)) := by
  have h := termsOk_is c
  have hx : ∀ j, j < xs.length → -1000000000 ≤ xs.getD j 0 ∧ xs.getD j 0 ≤ 1000000000 := fun j hj => ⟨(h.2.1 j hj).1, (h.2.1 j hj).2.1⟩
  refine Ev.bind (implTerms_ev xs) ?_
  refine Ev.congr (fun k => if_pos c) ?_
  refine Ev.congr (fun k => if_pos (by omega)) ?_
  have e0 : rd xs 0 = xs.getD 0 0 := rd_nat xs 0
  refine Ev.congr (fun k => by rw [e0, fmt_is _ (hx 0 (by omega)).1 (hx 0 (by omega)).2, Option.bind_some, if_pos (by omega)]) ?_
  have := implText_loop xs h.1.2 hx (xs.length - 1) 0 (by omega)
  exact this
theorem itoa_no44 (n : Int) : (44 : UInt8) ∉ Go.Lib.itoa n := by
  intro h
  by_cases c : n < 0
  · obtain ⟨u, rfl⟩ : ∃ u : Nat, n = -(u : Int) := ⟨n.natAbs, by omega⟩
    rw [Go.Lib.itoa_neg u (by omega)] at h
    rcases List.mem_cons.1 h with h | h
    · exact absurd h (by decide)
    · have := dec_digits u _ h
      simp at this
  · obtain ⟨u, rfl⟩ : ∃ u : Nat, n = (u : Int) := ⟨n.toNat, by omega⟩
    rw [Go.Lib.itoa_nonneg] at h
    have := dec_digits u _ h
    simp at this
theorem splitG_pieces (c : UInt8) : ∀ (r : List (List UInt8)) (x pre : List UInt8), c ∉ x → (∀ y ∈ r, c ∉ y) → splitG c pre (x ++ joinTl [c] r) = (pre ++ x) :: r
  | [], [], pre, _, _ => by simp [joinTl, splitG]
  | y :: r, [], pre, _, h => by
    have e : joinTl [c] (y :: r) = c :: (y ++ joinTl [c] r) := by simp [joinTl]
    rw [List.nil_append, e, splitG, if_pos rfl, splitG_pieces c r y [] (h y (by simp)) (fun z hz => h z (List.mem_cons_of_mem _ hz))]
    simp
  | r, z :: x, pre, hx, h => by
    rw [List.cons_append, splitG, if_neg (fun e => hx (by rw [e]; simp)), splitG_pieces c r x (pre ++ [z]) (fun hm => hx (List.mem_cons_of_mem _ hm)) h]
    simp
theorem good_of {W : List ByteArray} {xs : List Int} (h : W.map (·.data.toList) = xs.map Go.Lib.itoa) : Good W xs := by
  have hl : xs.length = W.length := by
    have := congrArg List.length h
    simpa using this.symm
  refine ⟨hl, fun j hj => ?_⟩
  have h1 : (W.map (·.data.toList))[j]? = (xs.map Go.Lib.itoa)[j]? := by rw [h]
  rw [List.getElem?_map, List.getElem?_map, List.getElem?_eq_getElem hj, List.getElem?_eq_getElem (by omega)] at h1
  simpa [wd, List.getD_eq_getElem?_getD, hj, hl] using h1
theorem read_of_good {W : List ByteArray} {xs : List Int} (c : termsOk xs = true) (hg : Good W xs) (hW : W.length ≤ 1048580) (hz : ∀ w ∈ W, w.size ≤ 1048576) : Ev (fun k => impl_ReadTerms.j0 k W) (xs, 0) := by
  obtain ⟨R, p1, p2⟩ := implT_words W hW hz
  have h := OutT.all hg
  rw [if_pos c] at h
  rw [p2.unique h] at p1
  exact p1
theorem implRead_ok (xs : List Int) (c : termsOk xs = true) : Ev (fun k => impl_ReadTerms.f k (mk (txt xs xs.length))) (xs, 0) := by
  have h := termsOk_is c
  have hx : ∀ j, j < xs.length → -1000000000 ≤ xs.getD j 0 ∧ xs.getD j 0 ≤ 1000000000 := fun j hj => ⟨(h.2.1 j hj).1, (h.2.1 j hj).2.1⟩
  have hL := txt_len xs hx xs.length (Nat.le_refl _)
  have hs : (mk (txt xs xs.length)).size ≤ 1048576 := by rw [mk_size]; omega
  have eD : ∀ D : List UInt8, (mk D).data.toList = D := fun D => by simp [mk]
  have hcut : ∀ s : ByteArray, s.size ≤ 1048576 → strings_Cut.f s (⟨#[59]⟩ : ByteArray) = some (mk (Go.Lib.cut s.data.toList [59]).1, mk (Go.Lib.cut s.data.toList [59]).2.1, (Go.Lib.cut s.data.toList [59]).2.2) := fun s hs => by
    unfold strings_Cut.f
    rw [if_pos (by omega)]
    rfl
  have hc := hcut _ hs
  rw [eD] at hc
  cases xs with
  | nil => exact absurd h.1.1 (by simp)
  | cons a r =>
    cases r with
    | nil =>
      have et : txt [a] [a].length = Go.Lib.itoa a := by simp [txt]
      rw [et] at hc hs ⊢
      have hn : Go.Lib.indexByte (Go.Lib.itoa a) 59 = -1 := by
        have hge := Go.Lib.indexByte_ge (Go.Lib.itoa a) 59
        by_cases h5 : Go.Lib.indexByte (Go.Lib.itoa a) 59 < 0
        · omega
        · obtain ⟨i, hi⟩ : ∃ i : Nat, Go.Lib.indexByte (Go.Lib.itoa a) 59 = (i : Int) := ⟨(Go.Lib.indexByte (Go.Lib.itoa a) 59).toNat, by omega⟩
          exact absurd (List.mem_of_getElem? (Go.Lib.indexByte_some hi).1) (itoa_no59 a)
      rw [cut_none _ hn] at hc
      refine Ev.congr (fun k => by unfold impl_ReadTerms.f; rw [hc, Option.bind_some]) ?_
      refine Ev.bind (Ev.now _) ?_
      refine Ev.congr (fun k => if_neg (by simp)) ?_
      exact read_of_good c (good_of (by simp [eD])) (by simp) (fun w hw => by rw [List.mem_singleton.1 hw]; exact hs)
    | cons b r =>
      have et := txt_two a b r r.length (Nat.le_refl _)
      rw [List.take_length] at et
      have et2 : txt (a :: b :: r) (a :: b :: r).length = Go.Lib.itoa a ++ [59] ++ (Go.Lib.itoa b ++ joinTl [44] (r.map Go.Lib.itoa)) := et
      rw [et2] at hc hs ⊢
      generalize hD : Go.Lib.itoa b ++ joinTl [44] (r.map Go.Lib.itoa) = D at hc hs ⊢
      have hT : (Go.Lib.itoa a ++ [59] ++ D).length ≤ 1048576 := by rw [mk_size] at hs; exact hs
      have hT2 : (Go.Lib.itoa a).length + 1 + D.length ≤ 1048576 := by simp only [List.length_append, List.length_cons, List.length_nil] at hT; omega
      have hi : Go.Lib.indexByte (Go.Lib.itoa a ++ [59] ++ D) 59 = (((Go.Lib.itoa a).length : Nat) : Int) := by
        have hge := Go.Lib.indexByte_ge (Go.Lib.itoa a ++ [59] ++ D) 59
        have hat : (Go.Lib.itoa a ++ [59] ++ D)[(Go.Lib.itoa a).length]? = some 59 := by simp
        by_cases h5 : Go.Lib.indexByte (Go.Lib.itoa a ++ [59] ++ D) 59 < 0
        · exact absurd hat (Go.Lib.indexByte_none (by omega) _)
        · obtain ⟨i, hi⟩ : ∃ i : Nat, Go.Lib.indexByte (Go.Lib.itoa a ++ [59] ++ D) 59 = (i : Int) := ⟨(Go.Lib.indexByte (Go.Lib.itoa a ++ [59] ++ D) 59).toNat, by omega⟩
          obtain ⟨b1, b2⟩ := Go.Lib.indexByte_some hi
          rw [hi]
          rcases Nat.lt_trichotomy i (Go.Lib.itoa a).length with c1 | c1 | c1
          · exfalso
            rw [List.append_assoc, List.getElem?_append_left c1] at b1
            exact itoa_no59 a (List.mem_of_getElem? b1)
          · rw [c1]
          · exact absurd hat (b2 _ c1)
      rw [cut_some _ _ hi] at hc
      have e1 : (Go.Lib.itoa a ++ [59] ++ D).take (Go.Lib.itoa a).length = Go.Lib.itoa a := by
        rw [List.append_assoc, List.take_left']; rfl
      have e2 : (Go.Lib.itoa a ++ [59] ++ D).drop ((Go.Lib.itoa a).length + 1) = D := by
        rw [List.drop_left']; simp
      rw [e1, e2] at hc
      have hDs : (mk D).size ≤ 1048576 := by rw [mk_size]; omega
      have hQ := splitB_is 44 _ (mk D) rfl
      have hQz := splitB_size 44 (mk D)
      have hQn := splitB_count 44 (mk D)
      have hsp : strings_Split.f (mk D) (⟨#[44]⟩ : ByteArray) = some (Go.Lib.splitB ⟨#[44]⟩ 0 (Go.Lib.countB (mk D) ⟨#[44]⟩) (mk D)) := by
        unfold strings_Split.f
        rw [if_pos ⟨by omega, Nat.le_refl 1⟩]
      generalize Go.Lib.splitB ⟨#[44]⟩ 0 (Go.Lib.countB (mk D) ⟨#[44]⟩) (mk D) = Q at hQ hQz hQn hsp
      rw [eD] at hQ
      have hW : Good ([mk (Go.Lib.itoa a)] ++ Q) (a :: b :: r) := by
        apply good_of
        rw [List.map_append, hQ, ← hD, splitG_pieces 44 _ _ [] (itoa_no44 b) (by
          intro y hy
          obtain ⟨z, _, rfl⟩ := List.mem_map.1 hy
          exact itoa_no44 z)]
        simp [eD]
      refine Ev.congr (fun k => by unfold impl_ReadTerms.f; rw [hc, Option.bind_some]) ?_
      refine Ev.bind (Ev.now _) ?_
      refine Ev.congr (fun k => if_pos rfl) ?_
      refine Ev.congr (fun k => by rw [hsp, Option.bind_some]) ?_
      refine Ev.congr (fun k => if_pos (by simp only [List.length_cons, List.length_nil]; omega)) ?_
      refine read_of_good c hW (by rw [List.length_append]; simp only [List.length_cons, List.length_nil]; omega) (fun w hw => ?_)
      rcases List.mem_append.1 hw with hw | hw
      · rw [List.mem_singleton.1 hw, mk_size]; show (Go.Lib.itoa a).length ≤ _; omega
      · exact Nat.le_trans (hQz w hw) hDs
theorem same_loop (xs : List Int) (hn : xs.length ≤ 1000) (d : Nat) : ∀ i : Nat, i + d = xs.length → Ev (fun k => spec_l00Same.l0 k xs xs (i : Int)) true := by
  induction d with
  | zero => intro i hi; exact Ev.step (fun k => by rw [spec_l00Same.l0]) (Ev.congr (fun k => if_neg (by omega)) (Ev.now _))
  | succ d ih =>
    intro i hi
    refine Ev.step (fun k => by rw [spec_l00Same.l0]) (Ev.congr (fun k => if_pos (by omega)) (Ev.congr (fun k => if_pos (by omega)) (Ev.congr (fun k => if_pos (by omega)) (Ev.congr (fun k => if_pos rfl) ?_))))
    rw [wrap64_id (by omega) (by omega)]
    exact ih (i + 1) (by omega)
theorem same_ev (xs : List Int) (hn : xs.length ≤ 1000) : Ev (fun k => spec_A2Same.f k xs xs) true := by
  refine Ev.congr (fun k => by unfold spec_A2Same.f spec_l00Same.f; rfl) (Ev.bind (a := true) ?_ (Ev.now _))
  exact Ev.congr (fun k => if_pos rfl) (same_loop xs hn xs.length 0 (by omega))
theorem drawn_tail {a : List Int} (h : Drawn a) (i : Nat) : 0 ≤ (cf (a.drop (i + 1))).2 := by
  obtain ⟨x, l, rfl, hl, hx, hz, ht⟩ := h
  rw [List.drop_succ_cons]
  exact (cf_up _ (fun z hz2 => (hz z (List.mem_of_mem_drop hz2)).1)).2.1
theorem law_loop (a : List Int) (da : Drawn a) (d : Nat) : ∀ i : Nat, i + d = a.length → Ev (fun k => laws_FnTerms.l0 k (convL a a.length) (convL a a.length) (i : Int) (cf a).1 (cf a).2) true := by
  have hlen := (termsOk_is (drawn_ok da)).1
  have hc := convL_len a a.length
  have hr := drawn_ratio da
  induction d with
  | zero =>
    intro i hi
    refine Ev.step (fun k => by rw [laws_FnTerms.l0]) (Ev.congr (fun k => if_neg (by omega)) ?_)
    rw [hc, wrap64_id (by omega) (by omega)]
    have e : rd_T25 (convL a a.length) ((a.length : Int) - 1) = ⟨(cf a).1, (cf a).2⟩ := by
      have h5 := convL_rd a a.length (a.length - 1) (by omega)
      rw [show a.length - 1 + 1 = a.length by omega, List.take_length] at h5
      rw [← h5]; congr 1; omega
    rw [e]
    refine Ev.congr (fun k => if_pos (by omega)) (Ev.congr (fun k => if_pos (by omega)) ?_)
    simp only [BEq.rfl, Bool.and_self]
    exact Ev.now _
  | succ d ih =>
    intro i hi
    have nx := ih (i + 1) (by omega)
    have ht := drawn_take da i
    have hx := cf_cross (i + 1) a
    have hd := drawn_tail da i
    have e := convL_rd a a.length i (by omega)
    refine Ev.step (fun k => by rw [laws_FnTerms.l0]) (Ev.congr (fun k => if_pos (by omega)) (Ev.congr (fun k => if_pos (by omega)) (Ev.congr (fun k => if_pos (by omega)) ?_)))
    rw [e]
    refine Ev.congr (fun k => if_neg (by simp)) (Ev.bind (implCompare_ev ht.2.2 hr.2.2.1) (Ev.congr (fun k => if_pos rfl) ?_))
    simp only
    rw [wrap64_id (by omega) (by omega), hx, tmod2]
    by_cases c : ((i : Int) + 1) < ((convL a a.length).length : Int)
    · refine Ev.congr (fun k => if_pos c) ?_
      by_cases c2 : i % 2 = 0
      · refine Ev.congr (fun k => if_pos (by omega)) ?_
        rw [if_neg (by omega)]
        refine Ev.congr (fun k => if_neg (by unfold sgn; split <;> (try split) <;> omega)) (Ev.congr (fun k => if_neg (by omega)) nx)
      · refine Ev.congr (fun k => if_neg (by omega)) (Ev.congr (fun k => if_pos (by omega)) ?_)
        rw [if_pos (by omega)]
        refine Ev.congr (fun k => if_neg (by unfold sgn; split <;> (try split) <;> omega)) nx
    · exact Ev.congr (fun k => if_neg c) nx
theorem FnTerms : laws_FnTerms.Pure := by
  intro x0 x1 ⟨_, hb0⟩ ⟨_, hb1⟩
  apply Ev.rounds (r := true)
  obtain ⟨a, da, ha⟩ := a2terms_ev x0 hb0
  obtain ⟨b, db, hb⟩ := a2terms_ev x1 hb1
  have ca := drawn_ok da
  have cb := drawn_ok db
  have la := (termsOk_is ca).1
  have ra := drawn_ratio da
  have rb := drawn_ratio db
  have hsa : ∀ i, (((cf (a.take (i + 1))).1.natAbs : Nat) : Int) ≤ 2147483648 ∧ (cf (a.take (i + 1))).2 ≤ 2147483648 := fun i => by have := drawn_take da i; omega
  have hsb : ∀ i, (((cf (b.take (i + 1))).1.natAbs : Nat) : Int) ≤ 2147483648 ∧ (cf (b.take (i + 1))).2 ≤ 2147483648 := fun i => by have := drawn_take db i; omega
  obtain ⟨t, ht⟩ : ∃ t, laws_a2Long.f x0 x1 = some t := by unfold laws_a2Long.f; split <;> exact ⟨_, rfl⟩
  refine Ev.congr (fun k => by unfold laws_FnTerms.f; rw [ht, Option.bind_some]) ?_
  cases t with
  | true => exact Ev.congr (fun k => if_pos rfl) (Ev.now _)
  | false =>
    refine Ev.congr (fun k => if_neg (by simp)) ?_
    refine Ev.bind ha (Ev.bind hb (Ev.bind (implText_ok a ca) (Ev.bind (implRead_ok a ca) (Ev.bind (ratio_both ca hsa).2 (Ev.bind (ratio_both ca hsa).1 ?_)))))
    refine Ev.congr (fun k => if_pos rfl) (Ev.bind (same_ev a (by omega)) (Ev.congr (fun k => if_pos rfl) (Ev.bind (implTerms_ev a) ?_)))
    refine Ev.congr (fun k => if_pos ca) (Ev.congr (fun k => if_pos rfl) (Ev.congr (fun k => if_pos rfl) ?_))
    simp only [BEq.rfl, Bool.not_true, Bool.or_self]
    refine Ev.step (fun k => by rw [laws_FnTerms.j0]) (Ev.congr (fun k => if_neg (by simp)) ?_)
    have hterms : Ev (fun k => impl_TermsOf.f k (cf a).1 (cf a).2) (a, 0) := by
      refine Ev.congr (fun k => by unfold impl_TermsOf.f; rfl) (Ev.bind (implRatio_ev _ _) ?_)
      rw [ra.2.2.1]
      refine Ev.congr (fun k => if_pos rfl) (Ev.bind (a := a) ?_ (Ev.bind (implTerms_ev a) ?_))
      · exact expand_cf a [] ra.2.2.2 (by omega) (by omega) (by omega) (by simp; omega)
      · rw [ca]; exact Ev.congr (fun k => if_pos rfl) (Ev.now _)
    refine Ev.bind hterms (Ev.bind (ratio_both cb hsb).1 (Ev.bind (implcmp_ev a b ca cb) (Ev.bind (specCompare_ev ra.2.2.1 rb.2.2.1) ?_)))
    refine Ev.congr (fun k => if_pos rfl) (Ev.bind (same_ev a (by omega)) (Ev.congr (fun k => if_pos rfl) (Ev.congr (fun k => if_pos rfl) (Ev.congr (fun k => if_pos rfl) ?_))))
    simp only
    rw [cmp_cf a b ra.2.2.2 rb.2.2.2]
    simp only [bne_self_eq_false]
    refine Ev.step (fun k => by rw [laws_FnTerms.j1]) (Ev.congr (fun k => if_neg (by simp)) ?_)
    refine Ev.bind (conv_both ca hsa).2 (Ev.bind (conv_both ca hsa).1 ?_)
    refine Ev.congr (fun k => if_pos rfl) (Ev.congr (fun k => if_pos rfl) ?_)
    simp only
    have hc := convL_len a a.length
    refine Ev.congr (fun k => if_pos (by omega)) ?_
    rw [hc]
    simp only [bne_self_eq_false]
    refine Ev.step (fun k => by rw [laws_FnTerms.j2]) (Ev.congr (fun k => if_neg (by simp)) ?_)
    exact law_loop a da a.length 0 (by omega)
end Go.Proofs.YtcldnanpdpfhlaaDoor.Pure
