/- The program's TermsOf returns what the reference's returns, for every ratio. -/
import Derived.Test.YtdnkpfmcpalojaaMFnExactTermsOfx3
import Derived.Test.YtdnkpfmcpalojaaMOpen
namespace Go.Proofs.Ytdnkpfmcpalojaa.Pure
open Go.RowKit Go.Proofs.Ytdnkpfmcpalojaa.MFnExactTermsOf Go.Proofs.Ytdnkpfmcpalojaa.MOpen Go.Proofs.YtdnkpfmcpalojaaW.PrintWords Go.Proofs.YtdnkpfmcpalojaaW.PrintLast Go.Proofs.YtdnkpfmcpalojaaW.PrintMore
set_option linter.unusedVariables false
set_option linter.unusedSimpArgs false
theorem wrap64_id {n : Int} (h0 : -9223372036854775808 ≤ n) (h1 : n ≤ 9223372036854775807) : wrap64 n = n := by
  unfold wrap64; omega
theorem rd_nat (xs : List Int) (i : Nat) : rd xs (i : Int) = xs.getD i 0 := by simp [rd]
theorem rd_get (xs : List Int) (i : Nat) (h : i < xs.length) : rd xs (i : Int) = xs[i] := by simp [rd, h]
theorem ev_k {α : Type} {f : Nat → Option α} {r : α} (n : Nat) (h : ∀ k, n ≤ k → f k = some r) : Ev f r := ⟨n, h⟩
theorem l00In_some (a b c : Int) : spec_l00In.f a b c = some (decide (b ≤ a ∧ a ≤ c)) := by
  unfold spec_l00In.f
  split <;> simp <;> omega
theorem within_some (a b c : Int) : impl_within.f a b c = some (decide (b ≤ a ∧ a ≤ c)) := l00In_some a b c
theorem size_is {a : Int} (h0 : -9223372036854775807 ≤ a) (h1 : a ≤ 9223372036854775807) : spec_l03Size.f a = some (a.natAbs : Int) := by
  unfold spec_l03Size.f
  split
  · rw [wrap64_id (by omega) (by omega)]; congr 1; omega
  · congr 1; omega
theorem mx_abs {a : Int} (h0 : -9223372036854775807 ≤ a) (h1 : a ≤ 9223372036854775807) : mx a (wrap64 (-a)) = (a.natAbs : Int) := by
  unfold mx; rw [wrap64_id (by omega) (by omega)]; split <;> omega
theorem tmod_nat (m n : Nat) : Int.tmod (m : Int) (n : Int) = ((m % n : Nat) : Int) := by
  rw [Int.tmod_eq_emod_of_nonneg (by omega)]; exact (Int.natCast_emod m n).symm
theorem specGcd_loop (n : Nat) : ∀ m : Nat, Ev (fun k => spec_l03Common.l0 k (m : Int) (n : Int)) (Nat.gcd m n : Int) := by
  induction n using Nat.strongRecOn with
  | _ n ih =>
    intro m
    refine Ev.step (fun k => by rw [spec_l03Common.l0]) ?_
    by_cases c : n = 0
    · subst c
      refine Ev.congr (fun k => if_pos rfl) ?_
      rw [Nat.gcd_zero_right]; exact Ev.now _
    · refine Ev.congr (fun k => if_neg (by omega)) ?_
      rw [tmod_nat, show Nat.gcd m n = Nat.gcd n (m % n) by rw [Nat.gcd_comm, Nat.gcd_rec, Nat.gcd_comm]]
      exact ih (m % n) (Nat.mod_lt _ (by omega)) n
theorem specGcd_ev {a b : Int} (ha : -9223372036854775807 ≤ a ∧ a ≤ 9223372036854775807) (hb : -9223372036854775807 ≤ b ∧ b ≤ 9223372036854775807) : Ev (fun k => spec_l03Common.f k a b) (Int.gcd a b : Int) := by
  refine Ev.congr (fun k => by unfold spec_l03Common.f; rfl) ?_
  rw [size_is ha.1 ha.2, size_is hb.1 hb.2]
  simp only [Option.bind_some]
  exact specGcd_loop b.natAbs a.natAbs
theorem implGcd_in (n : Nat) : ∀ (m : Nat) (xs : List Int) (len i : Int) (r : Int), Ev (fun k => impl_common.l0 k (Nat.gcd m n : Int) xs len (wrap64 (i + 1))) r → Ev (fun k => impl_common.l1 k (m : Int) (n : Int) xs len i) r := by
  induction n using Nat.strongRecOn with
  | _ n ih =>
    intro m xs len i r h
    refine Ev.step (fun k => by rw [impl_common.l1]) ?_
    by_cases c : n = 0
    · subst c
      rw [Nat.gcd_zero_right] at h
      exact Ev.congr (fun k => if_pos rfl) h
    · refine Ev.congr (fun k => if_neg (by omega)) ?_
      rw [tmod_nat]
      refine ih (m % n) (Nat.mod_lt _ (by omega)) n xs len i r ?_
      rw [show Nat.gcd n (m % n) = Nat.gcd m n by rw [Nat.gcd_comm, ← Nat.gcd_rec, Nat.gcd_comm]]
      exact h
theorem implGcd_out (xs : List Int) (hn : xs.length ≤ 9) (hx : ∀ j : Nat, j < xs.length → -9223372036854775807 ≤ rd xs j ∧ rd xs j ≤ 9223372036854775807) (i : Nat) (hi : i < xs.length) (m : Nat) (r : Int) (h : Ev (fun k => impl_common.l0 k (Nat.gcd m (rd xs i).natAbs : Int) xs (xs.length : Int) ((i + 1 : Nat) : Int)) r) :
    Ev (fun k => impl_common.l0 k (m : Int) xs (xs.length : Int) (i : Int)) r := by
  refine Ev.step (fun k => by rw [impl_common.l0]) (Ev.congr (fun k => if_pos (by omega)) (Ev.congr (fun k => if_pos (by omega)) (Ev.congr (fun k => if_pos (by omega)) ?_)))
  rw [mx_abs (hx i hi).1 (hx i hi).2]
  refine implGcd_in _ _ _ _ _ _ ?_
  rw [wrap64_id (by omega) (by omega)]
  exact h
theorem implGcd_ev {a b : Int} (ha : -9223372036854775807 ≤ a ∧ a ≤ 9223372036854775807) (hb : -9223372036854775807 ≤ b ∧ b ≤ 9223372036854775807) : Ev (fun k => impl_common.f k [a, b]) (Int.gcd a b : Int) := by
  refine Ev.congr (fun k => by unfold impl_common.f; rfl) ?_
  have hx : ∀ j : Nat, j < [a, b].length → -9223372036854775807 ≤ rd [a, b] j ∧ rd [a, b] j ≤ 9223372036854775807 := by
    intro j hj
    have : j = 0 ∨ j = 1 := by simp at hj; omega
    rcases this with rfl | rfl
    · exact ha
    · exact hb
  refine implGcd_out [a, b] (by simp) hx 0 (by simp) 0 _ (implGcd_out [a, b] (by simp) hx 1 (by simp) _ _ ?_)
  refine Ev.step (fun k => by rw [impl_common.l0]) (Ev.congr (fun k => if_neg (by simp)) ?_)
  rw [Nat.gcd_zero_left]
  exact Ev.now _
/-- Whether a ratio is valid. -/
def ratioOk (p q : Int) : Bool := decide (1 ≤ q ∧ q ≤ 2147483648) && (decide (-2147483648 ≤ p ∧ p ≤ 2147483648) && ((Int.gcd p q : Int) == 1))
theorem specRatio_ev (p q : Int) : Ev (fun k => spec_l03Ratio.f k p q) (ratioOk p q) := by
  refine Ev.congr (fun k => by unfold spec_l03Ratio.f; rfl) ?_
  rw [l00In_some, l00In_some]; simp only [Option.bind_some]
  unfold ratioOk
  by_cases c1 : 1 ≤ q ∧ q ≤ 2147483648
  · refine Ev.congr (fun k => if_pos (by simp [c1])) ?_
    rw [decide_eq_true c1, Bool.true_and]
    by_cases c2 : -2147483648 ≤ p ∧ p ≤ 2147483648
    · refine Ev.congr (fun k => if_pos (by simp [c2])) ?_
      rw [decide_eq_true c2, Bool.true_and]
      exact Ev.bind (specGcd_ev (by omega) (by omega)) (Ev.now _)
    · refine Ev.congr (fun k => if_neg (by simp; omega)) ?_
      rw [decide_eq_false c2, Bool.false_and]; exact Ev.now _
  · refine Ev.congr (fun k => if_neg (by simp; omega)) ?_
    rw [decide_eq_false c1, Bool.false_and]; exact Ev.now _
theorem ratioOk_is {p q : Int} (h : ratioOk p q = true) : (1 ≤ q ∧ q ≤ 2147483648) ∧ (-2147483648 ≤ p ∧ p ≤ 2147483648) ∧ Int.gcd p q = 1 := by
  unfold ratioOk at h
  simp only [Bool.and_eq_true, decide_eq_true_iff, beq_iff_eq] at h
  exact ⟨h.1, h.2.1, by omega⟩
theorem implRatio_ev (p q : Int) : Ev (fun k => impl_ValidRatio.f k p q) (ratioOk p q) := by
  refine Ev.congr (fun k => by unfold impl_ValidRatio.f; rfl) ?_
  rw [within_some, within_some]; simp only [Option.bind_some]
  unfold ratioOk
  by_cases c1 : 1 ≤ q ∧ q ≤ 2147483648
  · refine Ev.congr (fun k => if_pos (by simp [c1])) ?_
    rw [decide_eq_true c1, Bool.true_and]
    by_cases c2 : -2147483648 ≤ p ∧ p ≤ 2147483648
    · refine Ev.congr (fun k => if_pos (by simp [c2])) ?_
      rw [decide_eq_true c2, Bool.true_and]
      exact Ev.bind (implGcd_ev (by omega) (by omega)) (Ev.now _)
    · refine Ev.congr (fun k => if_neg (by simp; omega)) ?_
      rw [decide_eq_false c2, Bool.false_and]; exact Ev.now _
  · refine Ev.congr (fun k => if_neg (by simp; omega)) ?_
    rw [decide_eq_false c1, Bool.false_and]; exact Ev.now _
theorem floor_same (a b : Int) : spec_l04Floor.f a b = impl_floor.f a b := rfl
theorem floor_bound {a b : Int} (hb : 0 < b) (h0 : -4611686018427387904 ≤ a) (h1 : a ≤ 4611686018427387904) : -4611686018427387904 ≤ a / b ∧ a / b ≤ 4611686018427387904 := by
  rcases Int.le_total 0 a with c | c
  · have := Int.ediv_nonneg c (Int.le_of_lt hb)
    have := Int.ediv_le_self b c
    omega
  · have h5 : a / b ≤ 0 := by
      have := Int.ediv_le_ediv hb c
      simpa using this
    have h6 := Int.emod_add_mul_ediv a b
    have h7 := Int.emod_lt_of_pos a hb
    have h8 := Int.emod_nonneg a (b := b) (by omega)
    have h9 : b * (a / b) ≤ 1 * (a / b) := Int.mul_le_mul_of_nonpos_right (by omega) h5
    refine ⟨?_, by omega⟩
    by_cases z : a / b = 0
    · omega
    · have h10 : (b - 1) * (a / b + 1) ≤ 0 := Int.mul_nonpos_of_nonneg_of_nonpos (by omega) (by omega)
      have h11 : (b - 1) * (a / b + 1) = b * (a / b) + b - a / b - 1 := by grind
      omega
/-- The greatest integer that is at most a / b, b being greater than 0. -/
theorem floor_is {a b : Int} (hb : 0 < b) (h0 : -4611686018427387904 ≤ a) (h1 : a ≤ 4611686018427387904) : impl_floor.f a b = some (a / b) := by
  unfold impl_floor.f
  rw [if_neg (by omega)]
  have hdm := Int.mul_tdiv_add_tmod a b
  have h3 := floor_bound hb h0 h1
  have key : (Int.tmod a b = 0 → Int.tdiv a b = a / b) ∧ (Int.tmod a b ≠ 0 → 0 ≤ a → Int.tdiv a b = a / b) ∧ (Int.tmod a b ≠ 0 → a < 0 → Int.tdiv a b - 1 = a / b) := by
    refine ⟨fun h => ?_, fun _ h => Int.tdiv_eq_ediv_of_nonneg h, fun h hn => ?_⟩
    · rw [h, Int.add_zero] at hdm
      have : b ∣ a := ⟨_, hdm.symm⟩
      exact Int.tdiv_eq_ediv_of_dvd this
    · have hnd : ¬ b ∣ a := fun hd => h (Int.tmod_eq_zero_of_dvd hd)
      rw [Int.tdiv_eq_ediv]
      have hs : Int.sign b = 1 := Int.sign_eq_one_of_pos hb
      rw [hs]
      split <;> omega
  by_cases c : Int.tmod a b = 0
  · rw [if_pos c, key.1 c, wrap64_id (by omega) (by omega)]
  · rw [if_neg c]
    by_cases hn : a < 0
    · have := key.2.2 c hn
      rw [if_pos (by simp [hn]; omega), wrap64_id (n := Int.tdiv a b) (by omega) (by omega), wrap64_id (by omega) (by omega), this]
    · rw [if_neg (by simp [hn]; omega), key.2.1 c (by omega), wrap64_id (by omega) (by omega)]
/-- Both loops go on alike; d: what is left to divide by. -/
theorem expand_loop (d : Nat) : ∀ (p q : Int) (out : List Int), 0 ≤ q → q < d → -4294967296 ≤ p → p ≤ 4294967296 → q ≤ 4294967296 → out.length + q ≤ 4294967299 → (∀ z ∈ out, -4611686018427387904 ≤ z ∧ z ≤ 4611686018427387904) → ∃ r : List Int, r.length ≤ out.length + d ∧ (∀ s : List Int × Int, Ev (fun k => (spec_l04Terms.f k r).bind fun t => (if t = true then (some (r, (0 : Int))) else (some ((([] : List Int)), 3)))) s → Ev (fun k => spec_TermsOf.l0 k out p q) s) ∧ Ev (fun k => impl_expand.l0 k p q out) r ∧ (∀ z ∈ r, -4611686018427387904 ≤ z ∧ z ≤ 4611686018427387904) := by
  induction d with
  | zero => intro p q out h0 h1; omega
  | succ d ih =>
    intro p q out h0 h1 hp0 hp1 hq1 hl hz
    by_cases c : q = 0
    · refine ⟨out, by omega, ?_, ?_, hz⟩
      · intro s hs
        refine Ev.step (fun k => by rw [spec_TermsOf.l0]) (Ev.congr (fun k => if_pos c) ?_)
        exact hs
      · exact Ev.step (fun k => by rw [impl_expand.l0]) (Ev.congr (fun k => if_pos c) (Ev.now _))
    · have hm := Int.emod_add_mul_ediv p q
      have hm0 := Int.emod_nonneg p (b := q) (by omega)
      have hm1 := Int.emod_lt_of_pos p (b := q) (by omega)
      have hc : p / q * q = q * (p / q) := Int.mul_comm _ _
      have w1 : wrap64 (p / q * q) = p / q * q := wrap64_id (by omega) (by omega)
      have w2 : wrap64 (p - p / q * q) = p % q := by rw [show p - p / q * q = p % q by omega]; exact wrap64_id (by omega) (by omega)
      have hb : -4611686018427387904 ≤ p / q ∧ p / q ≤ 4611686018427387904 := floor_bound (by omega) (by omega) (by omega)
      obtain ⟨r, h2, h3, h4, h5⟩ := ih q (p % q) (out ++ [p / q]) hm0 (by omega) (by omega) (by omega) (by omega) (by simp; omega) (by
        intro z hz2
        rcases List.mem_append.1 hz2 with h | h
        · exact hz z h
        · simp at h; subst h; exact hb)
      refine ⟨r, by simp at h2; omega, ?_, ?_, h5⟩
      · intro s hs
        refine Ev.step (fun k => by rw [spec_TermsOf.l0]) (Ev.congr (fun k => if_neg c) ?_)
        rw [floor_same, floor_is (by omega) (by omega) (by omega)]
        simp only [Option.bind_some]
        rw [w1, w2]
        exact Ev.congr (fun k => if_pos (by omega)) (h3 s hs)
      · refine Ev.step (fun k => by rw [impl_expand.l0]) (Ev.congr (fun k => if_neg c) ?_)
        rw [floor_is (by omega) (by omega) (by omega)]
        simp only [Option.bind_some]
        rw [w1, w2]
        exact Ev.congr (fun k => if_pos (by omega)) h4
/-- What both say of terms from index i on. -/
def TermsFrom (xs : List Int) (i : Nat) : Prop :=
  (∀ j, i ≤ j → j < xs.length → -1000000000 ≤ xs.getD j 0 ∧ xs.getD j 0 ≤ 1000000000 ∧ (0 < j → 1 ≤ xs.getD j 0)) ∧ (xs.length = 1 ∨ 2 ≤ xs.getD (xs.length - 1) 0)
theorem TermsFrom.step {xs : List Int} {i : Nat} (hi : i < xs.length) : TermsFrom xs i ↔ (-1000000000 ≤ xs.getD i 0 ∧ xs.getD i 0 ≤ 1000000000 ∧ (0 < i → 1 ≤ xs.getD i 0)) ∧ TermsFrom xs (i + 1) := by
  unfold TermsFrom
  constructor
  · rintro ⟨h, e⟩; exact ⟨h i (Nat.le_refl _) hi, fun j h1 h2 => h j (by omega) h2, e⟩
  · rintro ⟨h0, h, e⟩
    refine ⟨fun j h1 h2 => ?_, e⟩
    by_cases c : j = i
    · subst c; exact h0
    · exact h j (by omega) h2
theorem TermsFrom.done {xs : List Int} : TermsFrom xs xs.length ↔ (xs.length = 1 ∨ 2 ≤ xs.getD (xs.length - 1) 0) := by
  unfold TermsFrom
  constructor
  · rintro ⟨_, e⟩; exact e
  · intro e; exact ⟨fun j h1 h2 => by omega, e⟩
open Classical in
noncomputable def termsFrom (xs : List Int) (i : Nat) : Bool := decide (TermsFrom xs i)
open Classical in
theorem termsFrom_bad {xs : List Int} {i : Nat} (hi : i < xs.length) (h : ¬ (-1000000000 ≤ xs.getD i 0 ∧ xs.getD i 0 ≤ 1000000000 ∧ (0 < i → 1 ≤ xs.getD i 0))) : termsFrom xs i = false := by
  unfold termsFrom; rw [decide_eq_false_iff_not, TermsFrom.step hi]; exact fun z => h z.1
open Classical in
theorem termsFrom_good {xs : List Int} {i : Nat} (hi : i < xs.length) (h : (-1000000000 ≤ xs.getD i 0 ∧ xs.getD i 0 ≤ 1000000000 ∧ (0 < i → 1 ≤ xs.getD i 0))) : termsFrom xs i = termsFrom xs (i + 1) := by
  unfold termsFrom; rw [decide_eq_decide, TermsFrom.step hi]; exact ⟨fun z => z.2, fun z => ⟨h, z⟩⟩
open Classical in
theorem termsFrom_one {xs : List Int} (h : xs.length = 1) : termsFrom xs xs.length = true :=
  @decide_eq_true _ _ (TermsFrom.done.2 (.inl h))
open Classical in
theorem termsFrom_end {xs : List Int} (h : xs.length ≠ 1) : termsFrom xs xs.length = decide (xs.getD (xs.length - 1) 0 ≥ 2) := by
  by_cases c : xs.getD (xs.length - 1) 0 ≥ 2
  · rw [show decide (xs.getD (xs.length - 1) 0 ≥ 2) = true from decide_eq_true c]; exact @decide_eq_true _ _ (TermsFrom.done.2 (.inr c))
  · rw [show decide (xs.getD (xs.length - 1) 0 ≥ 2) = false from decide_eq_false c]; exact @decide_eq_false _ _ (fun z => c ((TermsFrom.done.1 z).resolve_left h))
theorem size_small {a : Int} (h0 : -9223372036854775808 ≤ a) (h : a ≤ 9223372036854775807) : ∃ r, spec_l03Size.f a = some r ∧ (r > 1000000000 → ¬ (-1000000000 ≤ a ∧ a ≤ 1000000000)) ∧ (¬ r > 1000000000 → ¬ a < -1000000000 → (-1000000000 ≤ a ∧ a ≤ 1000000000)) := by
  unfold spec_l03Size.f
  split
  · exact ⟨_, rfl, fun h => by unfold wrap64 at h; omega, fun h1 h2 => by unfold wrap64 at h1; omega⟩
  · exact ⟨_, rfl, fun h => by omega, fun h1 h2 => by omega⟩
theorem specTerms_loop (xs : List Int) (hw : ∀ j, j < xs.length → -9223372036854775808 ≤ xs.getD j 0 ∧ xs.getD j 0 ≤ 9223372036854775807) (h1 : 1 ≤ xs.length) (hn : xs.length ≤ 4611686018427387904) (d : Nat) : ∀ (i k : Nat), i + d = xs.length → d < k → spec_l04Terms.l0 k xs (xs.length : Int) (i : Int) = some (termsFrom xs i) := by
  induction d with
  | zero =>
    intro i k hd hk
    obtain ⟨k, rfl⟩ : ∃ m, k = m + 1 := ⟨k - 1, by omega⟩
    obtain rfl : i = xs.length := by omega
    simp only [spec_l04Terms.l0]; rw [if_neg (by omega)]
    by_cases e : xs.length = 1
    · rw [if_pos (by omega), termsFrom_one e]
    · rw [if_neg (by omega), wrap64_id (by omega) (by omega), if_pos (by omega), if_pos (by omega), termsFrom_end e, show ((xs.length : Int) - 1) = ((xs.length - 1 : Nat) : Int) by omega, rd_nat]
  | succ d ih =>
    intro i k hd hk
    obtain ⟨k, rfl⟩ : ∃ m, k = m + 1 := ⟨k - 1, by omega⟩
    have hi : i < xs.length := by omega
    obtain ⟨r, hr, h2, h3⟩ := size_small (hw i hi).1 (hw i hi).2
    simp only [spec_l04Terms.l0, rd_nat]; rw [if_pos (by omega), if_pos (by omega), if_pos (by omega), hr]; simp only [Option.bind_some]
    by_cases c1 : r > 1000000000
    · rw [if_pos c1, termsFrom_bad hi (fun z => h2 c1 ⟨z.1, z.2.1⟩)]
    · rw [if_neg c1]
      by_cases c2 : xs.getD i 0 < -1000000000
      · rw [if_pos c2, termsFrom_bad hi (fun z => by omega)]
      · rw [if_neg c2, wrap64_id (by omega) (by omega)]
        have hg := h3 c1 c2
        by_cases c3 : (i : Int) > 0
        · rw [if_pos c3]
          by_cases c4 : xs.getD i 0 < 1
          · rw [if_pos c4, termsFrom_bad hi (fun z => by have := z.2.2 (by omega); omega)]
          · rw [if_neg c4, termsFrom_good hi ⟨hg.1, hg.2, fun _ => by omega⟩]; exact ih (i + 1) k (by omega) (by omega)
        · rw [if_neg c3, termsFrom_good hi ⟨hg.1, hg.2, fun _ => by omega⟩]; exact ih (i + 1) k (by omega) (by omega)
theorem implTerms_loop (xs : List Int) (h1 : 1 ≤ xs.length) (hn : xs.length ≤ 4611686018427387904) (d : Nat) : ∀ (i k : Nat), i + d = xs.length → d < k → impl_ValidTerms.l0 k xs xs (xs.length : Int) (i : Int) = some (termsFrom xs i) := by
  induction d with
  | zero =>
    intro i k hd hk
    obtain ⟨k, rfl⟩ : ∃ m, k = m + 1 := ⟨k - 1, by omega⟩
    obtain rfl : i = xs.length := by omega
    simp only [impl_ValidTerms.l0]; rw [if_neg (by omega)]
    by_cases e : xs.length = 1
    · rw [if_pos (by omega), termsFrom_one e]
    · rw [if_neg (by omega), wrap64_id (by omega) (by omega), if_pos (by omega), if_pos (by omega), termsFrom_end e, show ((xs.length : Int) - 1) = ((xs.length - 1 : Nat) : Int) by omega, rd_nat]
  | succ d ih =>
    intro i k hd hk
    obtain ⟨k, rfl⟩ : ∃ m, k = m + 1 := ⟨k - 1, by omega⟩
    have hi : i < xs.length := by omega
    have hwi : ∃ b, impl_within.f (xs.getD i 0) (-1000000000) 1000000000 = some b ∧ (b = true ↔ (-1000000000 ≤ xs.getD i 0 ∧ xs.getD i 0 ≤ 1000000000)) := by
      unfold impl_within.f
      split
      · exact ⟨_, rfl, by rw [decide_eq_true_iff]; omega⟩
      · exact ⟨_, rfl, fun z => by simp at z, fun z => by omega⟩
    obtain ⟨b, hb, h2⟩ := hwi
    simp only [impl_ValidTerms.l0, rd_nat]; rw [if_pos (by omega), if_pos (by omega), if_pos (by omega), hb]; simp only [Option.bind_some]
    by_cases c1 : b = true
    · have hg := h2.1 c1
      rw [if_pos c1, wrap64_id (by omega) (by omega)]
      by_cases c3 : (i : Int) > 0
      · rw [if_pos c3]
        by_cases c4 : xs.getD i 0 < 1
        · rw [if_pos c4, termsFrom_bad hi (fun z => by have := z.2.2 (by omega); omega)]
        · rw [if_neg c4, termsFrom_good hi ⟨hg.1, hg.2, fun _ => by omega⟩]; exact ih (i + 1) k (by omega) (by omega)
      · rw [if_neg c3, termsFrom_good hi ⟨hg.1, hg.2, fun _ => by omega⟩]; exact ih (i + 1) k (by omega) (by omega)
    · rw [if_neg c1, termsFrom_bad hi (fun z => c1 (h2.2 ⟨z.1, z.2.1⟩))]
/-- Whether terms are valid. -/
noncomputable def termsOk (xs : List Int) : Bool := decide (1 ≤ xs.length ∧ xs.length ≤ 40) && termsFrom xs 0
theorem specTerms_ev (xs : List Int) (hw : ∀ j, j < xs.length → -9223372036854775808 ≤ xs.getD j 0 ∧ xs.getD j 0 ≤ 9223372036854775807) : Ev (fun k => spec_l04Terms.f k xs) (termsOk xs) := by
  refine ⟨xs.length + 3, fun k hk => ?_⟩
  obtain ⟨k, rfl⟩ : ∃ m, k = m + 1 := ⟨k - 1, by omega⟩
  show spec_l04Terms.f (k + 1) xs = _
  unfold spec_l04Terms.f termsOk
  by_cases c : (xs.length : Int) < 1
  · rw [if_pos c]; simp only [spec_l04Terms.j0]; rw [if_pos trivial, decide_eq_false (by omega)]; rfl
  · rw [if_neg c]; simp only [spec_l04Terms.j0]
    by_cases c2 : (xs.length : Int) > 40
    · rw [if_pos (by simpa using c2), decide_eq_false (by omega)]; rfl
    · rw [if_neg (by simpa using c2), decide_eq_true (by omega), Bool.true_and]
      exact specTerms_loop xs hw (by omega) (by omega) xs.length 0 k (by omega) (by omega)
theorem implTerms_ev (xs : List Int) : Ev (fun k => impl_ValidTerms.f k xs) (termsOk xs) := by
  refine ⟨xs.length + 3, fun k hk => ?_⟩
  obtain ⟨k, rfl⟩ : ∃ m, k = m + 1 := ⟨k - 1, by omega⟩
  show impl_ValidTerms.f (k + 1) xs = _
  unfold impl_ValidTerms.f termsOk
  by_cases c : (xs.length : Int) < 1
  · rw [if_pos c]; simp only [impl_ValidTerms.j0]; rw [if_pos trivial, decide_eq_false (by omega)]; rfl
  · rw [if_neg c]; simp only [impl_ValidTerms.j0]
    by_cases c2 : (xs.length : Int) > 40
    · rw [if_pos (by simpa using c2), decide_eq_false (by omega)]; rfl
    · rw [if_neg (by simpa using c2), decide_eq_true (by omega), Bool.true_and]
      exact implTerms_loop xs (by omega) (by omega) xs.length 0 k (by omega) (by omega)
theorem terms_w {l : List Int} (hw : ∀ z ∈ l, -9223372036854775808 ≤ z ∧ z ≤ 9223372036854775807) : ∀ j, j < l.length → -9223372036854775808 ≤ l.getD j 0 ∧ l.getD j 0 ≤ 9223372036854775807 := by
  intro j hj
  rw [List.getD_eq_getElem?_getD, List.getElem?_eq_getElem hj]
  exact hw _ (List.getElem_mem hj)
open Classical in
theorem termsOk_is {xs : List Int} (h : termsOk xs = true) : (1 ≤ xs.length ∧ xs.length ≤ 40) ∧ (∀ j, j < xs.length → -1000000000 ≤ xs.getD j 0 ∧ xs.getD j 0 ≤ 1000000000 ∧ (0 < j → 1 ≤ xs.getD j 0)) ∧ (xs.length = 1 ∨ 2 ≤ xs.getD (xs.length - 1) 0) := by
  unfold termsOk at h
  rw [Bool.and_eq_true, decide_eq_true_iff] at h
  have h2 : TermsFrom xs 0 := by
    have := h.2
    unfold termsFrom at this
    exact of_decide_eq_true this
  exact ⟨h.1, fun j hj => h2.1 j (by omega) hj, h2.2⟩
open Classical in
theorem termsOk_of {xs : List Int} (h1 : 1 ≤ xs.length ∧ xs.length ≤ 40) (h2 : ∀ j, j < xs.length → -1000000000 ≤ xs.getD j 0 ∧ xs.getD j 0 ≤ 1000000000 ∧ (0 < j → 1 ≤ xs.getD j 0)) (h3 : xs.length = 1 ∨ 2 ≤ xs.getD (xs.length - 1) 0) : termsOk xs = true := by
  unfold termsOk
  rw [Bool.and_eq_true, decide_eq_true_iff]
  refine ⟨h1, ?_⟩
  unfold termsFrom
  exact @decide_eq_true _ _ ⟨fun j _ hj => h2 j hj, h3⟩
theorem eqInt64S_loop (xs : List Int) (hn : xs.length ≤ 4611686018427387904) (d : Nat) : ∀ (i : Nat) (k : Nat), i + d = xs.length → d < k → laws_eqInt64S.l0 k xs xs (i : Int) = some true := by
  induction d with
  | zero =>
    intro i k hd hk
    obtain ⟨k, rfl⟩ : ∃ m, k = m + 1 := ⟨k - 1, by omega⟩
    simp only [laws_eqInt64S.l0]; rw [if_neg (by omega)]
  | succ d ih =>
    intro i k hd hk
    obtain ⟨k, rfl⟩ : ∃ m, k = m + 1 := ⟨k - 1, by omega⟩
    simp only [laws_eqInt64S.l0]; rw [if_pos (by omega), if_pos (by omega), if_pos (by omega), if_pos trivial, wrap64_id (by omega) (by omega)]
    exact ih (i + 1) k (by omega) (by omega)
theorem eqInt64S_ev (xs : List Int) (hn : xs.length ≤ 4611686018427387904) : Ev (fun k => laws_eqInt64S.f k xs xs) true := by
  refine ⟨xs.length + 1, fun k hk => ?_⟩
  show laws_eqInt64S.f k xs xs = some true
  unfold laws_eqInt64S.f
  rw [if_pos rfl]
  exact eqInt64S_loop xs hn xs.length 0 k (by omega) (by omega)
theorem markInt64S_loop (d : Nat) : ∀ (i : Nat) (xs : List Int) (a : Int) (k : Nat), 0 ≤ a → a + xs.length ≤ 4611686018427387904 → i + d = xs.length → (∀ j, j < i → xs.getD j 0 = a + j) → d < k → laws_markInt64S.l0 k xs (a + i) (i : Int) = some (a + xs.length, (List.range xs.length).map (fun j : Nat => a + (j : Int))) := by
  induction d with
  | zero =>
    intro i xs a k h0 ha hd hj hk
    obtain ⟨k, rfl⟩ : ∃ m, k = m + 1 := ⟨k - 1, by omega⟩
    simp only [laws_markInt64S.l0]; rw [if_neg (by omega)]
    have e : xs = (List.range xs.length).map (fun j : Nat => a + (j : Int)) := by
      apply List.ext_getElem (by simp)
      intro j h1 h2
      have := hj j (by omega)
      simpa [List.getD_eq_getElem?_getD, List.getElem?_eq_getElem, h1, h2] using this
    rw [← e, show i = xs.length by omega]
  | succ d ih =>
    intro i xs a k h0 ha hd hj hk
    obtain ⟨k, rfl⟩ : ∃ m, k = m + 1 := ⟨k - 1, by omega⟩
    simp only [laws_markInt64S.l0]; rw [if_pos (by omega), if_pos (by omega), wrap64_id (by omega) (by omega), wrap64_id (by omega) (by omega)]
    have := ih (i + 1) (xs.set i (a + i)) a k h0 (by simpa using ha) (by simp; omega) ?_ (by omega)
    · simpa [Int.add_assoc] using this
    · intro j hji
      have hjl : j < xs.length := by omega
      by_cases e : j = i
      · subst e; simp [List.getD_eq_getElem?_getD, hjl]
      · have e' : ¬ i = j := fun h => e h.symm
        have := hj j (by omega)
        simpa [List.getD_eq_getElem?_getD, List.getElem?_set, e'] using this
theorem markInt64S_ev (xs : List Int) (a : Int) (h0 : 0 ≤ a) (ha : a + xs.length ≤ 4611686018427387904) : Ev (fun k => laws_markInt64S.f k xs a) (a + xs.length, (List.range xs.length).map (fun j : Nat => a + (j : Int))) := by
  refine ⟨xs.length + 1, fun k hk => ?_⟩
  show laws_markInt64S.f k xs a = _
  unfold laws_markInt64S.f
  have := markInt64S_loop xs.length 0 xs a k h0 ha (by omega) (fun j h => by omega) (by omega)
  simpa using this
theorem heldInt64S_loop (n : Nat) (a : Int) (h0 : 0 ≤ a) (ha : a + n ≤ 4611686018427387904) (d : Nat) : ∀ (i : Nat) (k : Nat), i + d = n → d < k → laws_heldInt64S.l0 k ((List.range n).map (fun j : Nat => a + (j : Int))) (a + i) (i : Int) = some (a + n) := by
  induction d with
  | zero =>
    intro i k hd hk
    obtain ⟨k, rfl⟩ : ∃ m, k = m + 1 := ⟨k - 1, by omega⟩
    simp only [laws_heldInt64S.l0]; rw [if_neg (by simp; omega), show i = n by omega]
  | succ d ih =>
    intro i k hd hk
    obtain ⟨k, rfl⟩ : ∃ m, k = m + 1 := ⟨k - 1, by omega⟩
    simp only [laws_heldInt64S.l0]; rw [if_pos (by simp; omega), if_pos (by omega), if_pos ?_, wrap64_id (by omega) (by omega), wrap64_id (by omega) (by omega)]
    · have := ih (i + 1) k (by omega) (by omega)
      simpa [Int.add_assoc] using this
    · have hi : i < n := by omega
      rw [rd_nat]; simp [List.getD_eq_getElem?_getD, hi]
theorem heldInt64S_ev (n : Nat) (a : Int) (h0 : 0 ≤ a) (ha : a + n ≤ 4611686018427387904) : Ev (fun k => laws_heldInt64S.f k ((List.range n).map (fun j : Nat => a + (j : Int))) a) (a + n) := by
  refine ⟨n + 1, fun k hk => ?_⟩
  show laws_heldInt64S.f k _ a = _
  unfold laws_heldInt64S.f
  have := heldInt64S_loop n a h0 ha n 0 k (by omega) (by omega)
  simpa using this
theorem termsOf_ev (p q : Int) : ∃ r : List Int × Int, r.1.length ≤ 2147483649 ∧ Ev (fun k => spec_TermsOf.f k p q) r ∧ Ev (fun k => impl_TermsOf.f k p q) r := by
  by_cases c : ratioOk p q = true
  · obtain ⟨⟨hq0, hq1⟩, ⟨hp0, hp1⟩, _⟩ := ratioOk_is c
    obtain ⟨r, h1, h2, h3, h4⟩ := expand_loop (q.toNat + 1) p q [] (by omega) (by omega) (by omega) (by omega) (by omega) (by simp; omega) (by simp)
    have hs := specTerms_ev r (terms_w (fun z hz => by have := h4 z hz; omega))
    have hi := implTerms_ev r
    refine ⟨if termsOk r = true then (r, 0) else ([], 3), ?_, ?_, ?_⟩
    · split
      · simp at h1 ⊢; omega
      · simp
    · refine Ev.congr (fun k => by unfold spec_TermsOf.f; rfl) (Ev.bind (specRatio_ev p q) ?_)
      rw [c]; refine Ev.congr (fun k => if_pos rfl) (h2 _ (Ev.bind hs ?_))
      cases termsOk r <;> exact Ev.now _
    · refine Ev.congr (fun k => by unfold impl_TermsOf.f; rfl) (Ev.bind (implRatio_ev p q) ?_)
      rw [c]; refine Ev.congr (fun k => if_pos rfl) (Ev.bind (a := r) ?_ (Ev.bind hi ?_))
      · exact h3
      · cases termsOk r <;> exact Ev.now _
  · simp only [Bool.not_eq_true] at c
    refine ⟨([], 1), by simp, ?_, ?_⟩
    · refine Ev.congr (fun k => by unfold spec_TermsOf.f; rfl) (Ev.bind (specRatio_ev p q) ?_)
      rw [c]; exact Ev.now _
    · refine Ev.congr (fun k => by unfold impl_TermsOf.f; rfl) (Ev.bind (implRatio_ev p q) ?_)
      rw [c]; exact Ev.now _
theorem FnExactTermsOf : laws_FnExactTermsOf.Pure := by
  intro x hw
  apply Ev.rounds (r := true)
  obtain ⟨⟨r1, r2⟩, hr, hs, hi⟩ := termsOf_ev x.f0 x.f1
  simp only at hr
  refine Ev.congr (fun k => by unfold laws_FnExactTermsOf.f laws_toRatio.f; rfl) ?_
  repeat' (first
    | (refine Ev.bind (show Ev (fun k => laws_toRatio.f x.f0 x.f1) (x.f0, x.f1) from Ev.now _) ?_; try dsimp only)
    | (refine Ev.bind (hs) ?_; try dsimp only)
    | (refine Ev.bind (hi) ?_; try dsimp only)
    | (refine Ev.bind (eqInt64S_ev _ (by omega)) ?_; try dsimp only)
    | (refine Ev.bind (markInt64S_ev _ 1 (by omega) (by omega)) ?_; try dsimp only)
    | (refine Ev.bind (heldInt64S_ev _ 1 (by omega) (by omega)) ?_; try dsimp only)
    | exact ⟨0, fun k _ => rfl⟩
    | (refine Ev.congr (fun k => if_pos rfl) ?_; try dsimp only)
    | (refine Ev.congr (fun k => if_neg (by simp; done)) ?_; try dsimp only)
    | (refine Ev.congr (fun k => if_neg (by omega)) ?_; try dsimp only)
    | (refine Ev.congr (fun k => if_pos (by simp; done)) ?_; try dsimp only)
    | (refine Ev.congr (fun k => if_pos (by omega)) ?_; try dsimp only)
    | (refine Ev.step (fun k => by rw [laws_FnExactTermsOf.j0]) ?_; try dsimp only)
    | (refine Ev.step (fun k => by rw [laws_FnExactTermsOf.j1]) ?_; try dsimp only)
    )
end Go.Proofs.Ytdnkpfmcpalojaa.Pure
