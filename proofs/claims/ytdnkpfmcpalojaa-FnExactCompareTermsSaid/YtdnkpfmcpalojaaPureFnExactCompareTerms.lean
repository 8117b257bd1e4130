/- The program's CompareTerms returns what the reference's returns, for all lists of int64. -/
import Derived.Test.YtdnkpfmcpalojaaMFnExactCompareTermsx4
import Derived.Test.YtdnkpfmcpalojaaMOpen
namespace Go.Proofs.Ytdnkpfmcpalojaa.Pure
open Go.RowKit Go.Proofs.Ytdnkpfmcpalojaa.MFnExactCompareTerms Go.Proofs.Ytdnkpfmcpalojaa.MOpen Go.Proofs.YtdnkpfmcpalojaaW.PrintWords Go.Proofs.YtdnkpfmcpalojaaW.PrintLast Go.Proofs.YtdnkpfmcpalojaaW.PrintMore
set_option linter.unusedVariables false
set_option linter.unusedSimpArgs false
theorem wrap64_id {n : Int} (h0 : -9223372036854775808 ≤ n) (h1 : n ≤ 9223372036854775807) : wrap64 n = n := by
  unfold wrap64; omega
theorem rd_nat (xs : List Int) (i : Nat) : rd xs (i : Int) = xs.getD i 0 := by simp [rd]
theorem rd_get (xs : List Int) (i : Nat) (h : i < xs.length) : rd xs (i : Int) = xs[i] := by simp [rd, h]
theorem ev_k {α : Type} {f : Nat → Option α} {r : α} (n : Nat) (h : ∀ k, n ≤ k → f k = some r) : Ev f r := ⟨n, h⟩
/-- What both say of terms from index i on. -/
def TermsFrom (xs : List Int) (i : Nat) : Prop :=
  (∀ j, i ≤ j → j < xs.length → -1000000000 ≤ xs.getD j 0 ∧ xs.getD j 0 ≤ 1000000000 ∧ (0 < j → 1 ≤ xs.getD j 0)) ∧ (xs.length = 1 ∨ 2 ≤ xs.getD (xs.length - 1) 0)
theorem TermsFrom.step {xs : List Int} {i : Nat} (hi : i < xs.length) : TermsFrom xs i ↔ (-1000000000 ≤ xs.getD i 0 ∧ xs.getD i 0 ≤ 1000000000 ∧ (0 < i → 1 ≤ xs.getD i 0)) ∧ TermsFrom xs (i + 1) := by
  unfold TermsFrom
  constructor
  · rintro ⟨h, e⟩; exact ⟨h i (Nat.le_refl _) hi, fun j h1 h2 => h j (by omega) h2, e⟩
  · rintro ⟨h0, h, e⟩
    refine ⟨fun j h1 h2 => ?_, e⟩
    by_cases c : j = i
    · subst c; exact h0
    · exact h j (by omega) h2
theorem TermsFrom.done {xs : List Int} : TermsFrom xs xs.length ↔ (xs.length = 1 ∨ 2 ≤ xs.getD (xs.length - 1) 0) := by
  unfold TermsFrom
  constructor
  · rintro ⟨_, e⟩; exact e
  · intro e; exact ⟨fun j h1 h2 => by omega, e⟩
open Classical in
noncomputable def termsFrom (xs : List Int) (i : Nat) : Bool := decide (TermsFrom xs i)
open Classical in
theorem termsFrom_bad {xs : List Int} {i : Nat} (hi : i < xs.length) (h : ¬ (-1000000000 ≤ xs.getD i 0 ∧ xs.getD i 0 ≤ 1000000000 ∧ (0 < i → 1 ≤ xs.getD i 0))) : termsFrom xs i = false := by
  unfold termsFrom; rw [decide_eq_false_iff_not, TermsFrom.step hi]; exact fun z => h z.1
open Classical in
theorem termsFrom_good {xs : List Int} {i : Nat} (hi : i < xs.length) (h : (-1000000000 ≤ xs.getD i 0 ∧ xs.getD i 0 ≤ 1000000000 ∧ (0 < i → 1 ≤ xs.getD i 0))) : termsFrom xs i = termsFrom xs (i + 1) := by
  unfold termsFrom; rw [decide_eq_decide, TermsFrom.step hi]; exact ⟨fun z => z.2, fun z => ⟨h, z⟩⟩
open Classical in
theorem termsFrom_one {xs : List Int} (h : xs.length = 1) : termsFrom xs xs.length = true :=
  @decide_eq_true _ _ (TermsFrom.done.2 (.inl h))
open Classical in
theorem termsFrom_end {xs : List Int} (h : xs.length ≠ 1) : termsFrom xs xs.length = decide (xs.getD (xs.length - 1) 0 ≥ 2) := by
  by_cases c : xs.getD (xs.length - 1) 0 ≥ 2
  · rw [show decide (xs.getD (xs.length - 1) 0 ≥ 2) = true from decide_eq_true c]; exact @decide_eq_true _ _ (TermsFrom.done.2 (.inr c))
  · rw [show decide (xs.getD (xs.length - 1) 0 ≥ 2) = false from decide_eq_false c]; exact @decide_eq_false _ _ (fun z => c ((TermsFrom.done.1 z).resolve_left h))
theorem size_small {a : Int} (h0 : -9223372036854775808 ≤ a) (h : a ≤ 9223372036854775807) : ∃ r, spec_l03Size.f a = some r ∧ (r > 1000000000 → ¬ (-1000000000 ≤ a ∧ a ≤ 1000000000)) ∧ (¬ r > 1000000000 → ¬ a < -1000000000 → (-1000000000 ≤ a ∧ a ≤ 1000000000)) := by
  unfold spec_l03Size.f
  split
  · exact ⟨_, rfl, fun h => by unfold wrap64 at h; omega, fun h1 h2 => by unfold wrap64 at h1; omega⟩
  · exact ⟨_, rfl, fun h => by omega, fun h1 h2 => by omega⟩
theorem specTerms_loop (xs : List Int) (hw : ∀ j, j < xs.length → -9223372036854775808 ≤ xs.getD j 0 ∧ xs.getD j 0 ≤ 9223372036854775807) (h1 : 1 ≤ xs.length) (hn : xs.length ≤ 4611686018427387904) (d : Nat) : ∀ (i k : Nat), i + d = xs.length → d < k → spec_l04Terms.l0 k xs (xs.length : Int) (i : Int) = some (termsFrom xs i) := by
  induction d with
  | zero =>
    intro i k hd hk
    obtain ⟨k, rfl⟩ : ∃ m, k = m + 1 := ⟨k - 1, by omega⟩
    obtain rfl : i = xs.length := by omega
    simp only [spec_l04Terms.l0]; rw [if_neg (by omega)]
    by_cases e : xs.length = 1
    · rw [if_pos (by omega), termsFrom_one e]
    · rw [if_neg (by omega), wrap64_id (by omega) (by omega), if_pos (by omega), if_pos (by omega), termsFrom_end e, show ((xs.length : Int) - 1) = ((xs.length - 1 : Nat) : Int) by omega, rd_nat]
  | succ d ih =>
    intro i k hd hk
    obtain ⟨k, rfl⟩ : ∃ m, k = m + 1 := ⟨k - 1, by omega⟩
    have hi : i < xs.length := by omega
    obtain ⟨r, hr, h2, h3⟩ := size_small (hw i hi).1 (hw i hi).2
    simp only [spec_l04Terms.l0, rd_nat]; rw [if_pos (by omega), if_pos (by omega), if_pos (by omega), hr]; simp only [Option.bind_some]
    by_cases c1 : r > 1000000000
    · rw [if_pos c1, termsFrom_bad hi (fun z => h2 c1 ⟨z.1, z.2.1⟩)]
    · rw [if_neg c1]
      by_cases c2 : xs.getD i 0 < -1000000000
      · rw [if_pos c2, termsFrom_bad hi (fun z => by omega)]
      · rw [if_neg c2, wrap64_id (by omega) (by omega)]
        have hg := h3 c1 c2
        by_cases c3 : (i : Int) > 0
        · rw [if_pos c3]
          by_cases c4 : xs.getD i 0 < 1
          · rw [if_pos c4, termsFrom_bad hi (fun z => by have := z.2.2 (by omega); omega)]
          · rw [if_neg c4, termsFrom_good hi ⟨hg.1, hg.2, fun _ => by omega⟩]; exact ih (i + 1) k (by omega) (by omega)
        · rw [if_neg c3, termsFrom_good hi ⟨hg.1, hg.2, fun _ => by omega⟩]; exact ih (i + 1) k (by omega) (by omega)
theorem implTerms_loop (xs : List Int) (h1 : 1 ≤ xs.length) (hn : xs.length ≤ 4611686018427387904) (d : Nat) : ∀ (i k : Nat), i + d = xs.length → d < k → impl_ValidTerms.l0 k xs xs (xs.length : Int) (i : Int) = some (termsFrom xs i) := by
  induction d with
  | zero =>
    intro i k hd hk
    obtain ⟨k, rfl⟩ : ∃ m, k = m + 1 := ⟨k - 1, by omega⟩
    obtain rfl : i = xs.length := by omega
    simp only [impl_ValidTerms.l0]; rw [if_neg (by omega)]
    by_cases e : xs.length = 1
    · rw [if_pos (by omega), termsFrom_one e]
    · rw [if_neg (by omega), wrap64_id (by omega) (by omega), if_pos (by omega), if_pos (by omega), termsFrom_end e, show ((xs.length : Int) - 1) = ((xs.length - 1 : Nat) : Int) by omega, rd_nat]
  | succ d ih =>
    intro i k hd hk
    obtain ⟨k, rfl⟩ : ∃ m, k = m + 1 := ⟨k - 1, by omega⟩
    have hi : i < xs.length := by omega
    have hwi : ∃ b, impl_within.f (xs.getD i 0) (-1000000000) 1000000000 = some b ∧ (b = true ↔ (-1000000000 ≤ xs.getD i 0 ∧ xs.getD i 0 ≤ 1000000000)) := by
      unfold impl_within.f
      split
      · exact ⟨_, rfl, by rw [decide_eq_true_iff]; omega⟩
      · exact ⟨_, rfl, fun z => by simp at z, fun z => by omega⟩
    obtain ⟨b, hb, h2⟩ := hwi
    simp only [impl_ValidTerms.l0, rd_nat]; rw [if_pos (by omega), if_pos (by omega), if_pos (by omega), hb]; simp only [Option.bind_some]
    by_cases c1 : b = true
    · have hg := h2.1 c1
      rw [if_pos c1, wrap64_id (by omega) (by omega)]
      by_cases c3 : (i : Int) > 0
      · rw [if_pos c3]
        by_cases c4 : xs.getD i 0 < 1
        · rw [if_pos c4, termsFrom_bad hi (fun z => by have := z.2.2 (by omega); omega)]
        · rw [if_neg c4, termsFrom_good hi ⟨hg.1, hg.2, fun _ => by omega⟩]; exact ih (i + 1) k (by omega) (by omega)
      · rw [if_neg c3, termsFrom_good hi ⟨hg.1, hg.2, fun _ => by omega⟩]; exact ih (i + 1) k (by omega) (by omega)
    · rw [if_neg c1, termsFrom_bad hi (fun z => c1 (h2.2 ⟨z.1, z.2.1⟩))]
/-- Whether terms are valid. -/
noncomputable def termsOk (xs : List Int) : Bool := decide (1 ≤ xs.length ∧ xs.length ≤ 40) && termsFrom xs 0
theorem specTerms_ev (xs : List Int) (hw : ∀ j, j < xs.length → -9223372036854775808 ≤ xs.getD j 0 ∧ xs.getD j 0 ≤ 9223372036854775807) : Ev (fun k => spec_l04Terms.f k xs) (termsOk xs) := by
  refine ⟨xs.length + 3, fun k hk => ?_⟩
  obtain ⟨k, rfl⟩ : ∃ m, k = m + 1 := ⟨k - 1, by omega⟩
  show spec_l04Terms.f (k + 1) xs = _
  unfold spec_l04Terms.f termsOk
  by_cases c : (xs.length : Int) < 1
  · rw [if_pos c]; simp only [spec_l04Terms.j0]; rw [if_pos trivial, decide_eq_false (by omega)]; rfl
  · rw [if_neg c]; simp only [spec_l04Terms.j0]
    by_cases c2 : (xs.length : Int) > 40
    · rw [if_pos (by simpa using c2), decide_eq_false (by omega)]; rfl
    · rw [if_neg (by simpa using c2), decide_eq_true (by omega), Bool.true_and]
      exact specTerms_loop xs hw (by omega) (by omega) xs.length 0 k (by omega) (by omega)
theorem implTerms_ev (xs : List Int) : Ev (fun k => impl_ValidTerms.f k xs) (termsOk xs) := by
  refine ⟨xs.length + 3, fun k hk => ?_⟩
  obtain ⟨k, rfl⟩ : ∃ m, k = m + 1 := ⟨k - 1, by omega⟩
  show impl_ValidTerms.f (k + 1) xs = _
  unfold impl_ValidTerms.f termsOk
  by_cases c : (xs.length : Int) < 1
  · rw [if_pos c]; simp only [impl_ValidTerms.j0]; rw [if_pos trivial, decide_eq_false (by omega)]; rfl
  · rw [if_neg c]; simp only [impl_ValidTerms.j0]
    by_cases c2 : (xs.length : Int) > 40
    · rw [if_pos (by simpa using c2), decide_eq_false (by omega)]; rfl
    · rw [if_neg (by simpa using c2), decide_eq_true (by omega), Bool.true_and]
      exact implTerms_loop xs (by omega) (by omega) xs.length 0 k (by omega) (by omega)
theorem terms_w {l : List Int} (hw : ∀ z ∈ l, -9223372036854775808 ≤ z ∧ z ≤ 9223372036854775807) : ∀ j, j < l.length → -9223372036854775808 ≤ l.getD j 0 ∧ l.getD j 0 ≤ 9223372036854775807 := by
  intro j hj
  rw [List.getD_eq_getElem?_getD, List.getElem?_eq_getElem hj]
  exact hw _ (List.getElem_mem hj)
open Classical in
theorem termsOk_is {xs : List Int} (h : termsOk xs = true) : (1 ≤ xs.length ∧ xs.length ≤ 40) ∧ (∀ j, j < xs.length → -1000000000 ≤ xs.getD j 0 ∧ xs.getD j 0 ≤ 1000000000 ∧ (0 < j → 1 ≤ xs.getD j 0)) ∧ (xs.length = 1 ∨ 2 ≤ xs.getD (xs.length - 1) 0) := by
  unfold termsOk at h
  rw [Bool.and_eq_true, decide_eq_true_iff] at h
  have h2 : TermsFrom xs 0 := by
    have := h.2
    unfold termsFrom at this
    exact of_decide_eq_true this
  exact ⟨h.1, fun j hj => h2.1 j (by omega) hj, h2.2⟩
open Classical in
theorem termsOk_of {xs : List Int} (h1 : 1 ≤ xs.length ∧ xs.length ≤ 40) (h2 : ∀ j, j < xs.length → -1000000000 ≤ xs.getD j 0 ∧ xs.getD j 0 ≤ 1000000000 ∧ (0 < j → 1 ≤ xs.getD j 0)) (h3 : xs.length = 1 ∨ 2 ≤ xs.getD (xs.length - 1) 0) : termsOk xs = true := by
  unfold termsOk
  rw [Bool.and_eq_true, decide_eq_true_iff]
  refine ⟨h1, ?_⟩
  unfold termsFrom
  exact @decide_eq_true _ _ ⟨fun j _ hj => h2 j hj, h3⟩
theorem toInt64S_loop (xs : List Int) (hn : xs.length ≤ 4611686018427387904) (d : Nat) : ∀ (i : Nat) (acc : List Int) (k : Nat), acc.length = xs.length → (∀ j, j < i → acc.getD j 0 = xs.getD j 0) → i + d = xs.length → d < k → laws_toInt64S.l0 k xs acc (i : Int) = some xs := by
  induction d with
  | zero =>
    intro i acc k hl hj hd hk
    obtain ⟨k, rfl⟩ : ∃ m, k = m + 1 := ⟨k - 1, by omega⟩
    simp only [laws_toInt64S.l0]; rw [if_neg (by omega)]
    congr 1
    apply List.ext_getElem hl
    intro j h1 h2
    have := hj j (by omega)
    simpa [List.getD_eq_getElem?_getD, List.getElem?_eq_getElem, h1, h2] using this
  | succ d ih =>
    intro i acc k hl hj hd hk
    obtain ⟨k, rfl⟩ : ∃ m, k = m + 1 := ⟨k - 1, by omega⟩
    simp only [laws_toInt64S.l0]; rw [if_pos (by omega), if_pos (by omega), if_pos (by omega), wrap64_id (by omega) (by omega)]
    refine ih (i + 1) _ k ?_ ?_ (by omega) (by omega)
    · simpa using hl
    · intro j hji
      have hjl : j < acc.length := by omega
      by_cases e : j = i
      · subst e; simp [List.getD_eq_getElem?_getD, rd_nat, hjl]
      · have e' : ¬ i = j := fun h => e h.symm
        have := hj j (by omega)
        simpa [List.getD_eq_getElem?_getD, List.getElem?_set, e'] using this
theorem toInt64S_ev (xs : List Int) (hn : xs.length ≤ 17592186044416) : Ev (fun k => laws_toInt64S.f k xs) xs := by
  refine ⟨xs.length + 1, fun k hk => ?_⟩
  show laws_toInt64S.f k xs = some xs
  unfold laws_toInt64S.f
  rw [if_pos (by omega), if_pos (by simp; omega)]
  exact toInt64S_loop xs (by omega) xs.length 0 _ k (by simp) (fun j h => by omega) (by omega) (by omega)
theorem eqInt64S_loop (xs : List Int) (hn : xs.length ≤ 4611686018427387904) (d : Nat) : ∀ (i : Nat) (k : Nat), i + d = xs.length → d < k → laws_eqInt64S.l0 k xs xs (i : Int) = some true := by
  induction d with
  | zero =>
    intro i k hd hk
    obtain ⟨k, rfl⟩ : ∃ m, k = m + 1 := ⟨k - 1, by omega⟩
    simp only [laws_eqInt64S.l0]; rw [if_neg (by omega)]
  | succ d ih =>
    intro i k hd hk
    obtain ⟨k, rfl⟩ : ∃ m, k = m + 1 := ⟨k - 1, by omega⟩
    simp only [laws_eqInt64S.l0]; rw [if_pos (by omega), if_pos (by omega), if_pos (by omega), if_pos trivial, wrap64_id (by omega) (by omega)]
    exact ih (i + 1) k (by omega) (by omega)
theorem eqInt64S_ev (xs : List Int) (hn : xs.length ≤ 4611686018427387904) : Ev (fun k => laws_eqInt64S.f k xs xs) true := by
  refine ⟨xs.length + 1, fun k hk => ?_⟩
  show laws_eqInt64S.f k xs xs = some true
  unfold laws_eqInt64S.f
  rw [if_pos rfl]
  exact eqInt64S_loop xs hn xs.length 0 k (by omega) (by omega)
/-- The sign that an index has. -/
def sg (i : Nat) : Int := if i % 2 = 1 then -1 else 1
theorem tmod2 (i : Nat) : Int.tmod (i : Int) 2 = ((i % 2 : Nat) : Int) := by
  rw [Int.tmod_eq_emod_of_nonneg (by omega)]; omega
theorem specCmp (a b : List Int) (i : Nat) (r : Int) (h : Ev (fun k => spec_l04Compare.j2 k a b (i : Int) (sg i) (decide (i = a.length ∧ i = b.length))) r) : Ev (fun k => spec_l04Compare.l0 k a b (i : Int)) r := by
  refine Ev.step (fun k => by rw [spec_l04Compare.l0]) ?_
  rw [tmod2]
  have h1 : Ev (fun k => spec_l04Compare.j1 k a b (i : Int) (sg i)) r := by
    refine Ev.step (fun k => by rw [spec_l04Compare.j1]) ?_
    by_cases c : i = a.length
    · refine Ev.congr (fun k => if_pos (by omega)) ?_
      rw [show ((i : Int) == (b.length : Int)) = decide (i = a.length ∧ i = b.length) by
        rw [Bool.eq_iff_iff]; simp; omega]
      exact h
    · refine Ev.congr (fun k => if_neg (by omega)) ?_
      rw [show decide (i = a.length ∧ i = b.length) = false by simp; omega] at h
      exact h
  unfold sg at h1
  by_cases c : i % 2 = 1
  · rw [if_pos c] at h1; exact Ev.congr (fun k => if_pos (by omega)) h1
  · rw [if_neg c] at h1; exact Ev.congr (fun k => if_neg (by omega)) h1
theorem sg_times (i : Nat) (t : Int) (ht : t = 1 ∨ t = -1) : wrap64 (t * wrap64 (1 - wrap64 (2 * Int.tmod (i : Int) 2))) = if t = 1 then sg i else -(sg i) := by
  rw [tmod2]; unfold sg
  have : i % 2 = 0 ∨ i % 2 = 1 := by omega
  rcases this with c | c <;> rcases ht with rfl | rfl <;> rw [c] <;> decide +kernel
theorem sg_neg (i : Nat) : wrap64 (-(sg i)) = -(sg i) := by
  unfold sg; split <;> decide +kernel
theorem order_lt {a b : Int} (h : a < b) : impl_order.f a b = some (-1) := by unfold impl_order.f; rw [if_pos h]
theorem order_gt {a b : Int} (h : b < a) : impl_order.f a b = some 1 := by unfold impl_order.f; rw [if_neg (by omega), if_pos h]
theorem order_eq (a : Int) : impl_order.f a a = some 0 := by unfold impl_order.f; rw [if_neg (by omega), if_neg (by omega)]
theorem cmp_loop (a b : List Int) (ha : termsOk a = true) (hb : termsOk b = true) (n : Int) (hn : n = mx (a.length : Int) (b.length : Int)) (d : Nat) : ∀ i : Nat, (i : Int) + d = n → i ≤ a.length → i ≤ b.length →
    ∃ r : Int, Ev (fun k => spec_l04Compare.l0 k a b (i : Int)) r ∧ Ev (fun k => impl_CompareTerms.l0 k a b n (i : Int)) (r, 0) := by
  obtain ⟨ha1, ha2, _⟩ := termsOk_is ha
  obtain ⟨hb1, hb2, _⟩ := termsOk_is hb
  have hm : (n = a.length ∨ n = b.length) ∧ (a.length : Int) ≤ n ∧ (b.length : Int) ≤ n := by
    rw [hn]; unfold mx; split <;> omega
  induction d with
  | zero =>
    intro i hd hia hib
    refine ⟨0, specCmp a b i 0 ?_, ?_⟩
    · rw [show decide (i = a.length ∧ i = b.length) = true by simp; omega]
      refine Ev.step (fun k => by rw [spec_l04Compare.j2]) (Ev.congr (fun k => if_pos rfl) (Ev.now _))
    · refine Ev.step (fun k => by rw [impl_CompareTerms.l0]) (Ev.congr (fun k => if_neg (by omega)) (Ev.now _))
  | succ d ih =>
    intro i hd hia hib
    by_cases ca : i = a.length
    · -- a has ended
      have hb3 := hb2 i (by omega)
      refine ⟨sg i, specCmp a b i _ ?_, ?_⟩
      · rw [show decide (i = a.length ∧ i = b.length) = false by simp; omega]
        refine Ev.step (fun k => by rw [spec_l04Compare.j2]) (Ev.congr (fun k => if_neg (by simp)) (Ev.congr (fun k => if_pos (by omega)) (Ev.now _)))
      · refine Ev.step (fun k => by rw [impl_CompareTerms.l0]) (Ev.congr (fun k => if_pos (by omega)) (Ev.congr (fun k => if_neg (by omega)) ?_))
        refine Ev.step (fun k => by rw [impl_CompareTerms.j2]) (Ev.congr (fun k => if_pos (by omega)) (Ev.congr (fun k => if_pos (by omega)) ?_))
        rw [rd_nat, order_gt (by omega)]; simp only [Option.bind_some]
        rw [sg_times i 1 (.inl rfl)]
        exact Ev.now _
    · have ha3 := ha2 i (by omega)
      by_cases cb : i = b.length
      · refine ⟨-(sg i), specCmp a b i _ ?_, ?_⟩
        · rw [show decide (i = a.length ∧ i = b.length) = false by simp; omega]
          refine Ev.step (fun k => by rw [spec_l04Compare.j2]) (Ev.congr (fun k => if_neg (by simp)) (Ev.congr (fun k => if_neg (by omega)) (Ev.congr (fun k => if_pos (by omega)) ?_)))
          rw [sg_neg]; exact Ev.now _
        · refine Ev.step (fun k => by rw [impl_CompareTerms.l0]) (Ev.congr (fun k => if_pos (by omega)) (Ev.congr (fun k => if_pos (by omega)) (Ev.congr (fun k => if_pos (by omega)) ?_)))
          refine Ev.step (fun k => by rw [impl_CompareTerms.j2]) (Ev.congr (fun k => if_neg (by omega)) ?_)
          rw [rd_nat, order_lt (by omega)]; simp only [Option.bind_some]
          rw [sg_times i (-1) (.inr rfl)]
          exact Ev.now _
      · have hb3 := hb2 i (by omega)
        -- both go on
        have hs : ∀ r : Int, Ev (fun k => if rd a i > rd b i then some (sg i) else if rd a i < rd b i then some (wrap64 (-(sg i))) else spec_l04Compare.l0 k a b (wrap64 ((i : Int) + 1))) r → Ev (fun k => spec_l04Compare.l0 k a b (i : Int)) r := by
          intro r h
          refine specCmp a b i _ ?_
          rw [show decide (i = a.length ∧ i = b.length) = false by simp; omega]
          refine Ev.step (fun k => by rw [spec_l04Compare.j2]) (Ev.congr (fun k => if_neg (by simp)) (Ev.congr (fun k => if_neg (by omega)) (Ev.congr (fun k => if_neg (by omega)) (Ev.congr (fun k => if_pos (by omega)) (Ev.congr (fun k => if_pos (by omega)) (Ev.congr (fun k => if_pos (by omega)) ?_))))))
          exact h
        have hi : ∀ r : Int × Int, Ev (fun k => (impl_order.f (rd a i) (rd b i)).bind fun t125 => (if t125 = 0 then (impl_CompareTerms.l0 k a b n (wrap64 ((i : Int) + 1))) else (some (wrap64 (t125 * (wrap64 (1 - (wrap64 (2 * (Int.tmod (i : Int) 2)))))), 0)))) r → Ev (fun k => impl_CompareTerms.l0 k a b n (i : Int)) r := by
          intro r h
          refine Ev.step (fun k => by rw [impl_CompareTerms.l0]) (Ev.congr (fun k => if_pos (by omega)) (Ev.congr (fun k => if_pos (by omega)) (Ev.congr (fun k => if_pos (by omega)) ?_)))
          refine Ev.step (fun k => by rw [impl_CompareTerms.j2]) (Ev.congr (fun k => if_pos (by omega)) (Ev.congr (fun k => if_pos (by omega)) ?_))
          exact h
        rcases Int.lt_trichotomy (rd a i) (rd b i) with c | c | c
        · refine ⟨-(sg i), hs _ ?_, hi _ ?_⟩
          · refine Ev.congr (fun k => if_neg (by omega)) (Ev.congr (fun k => if_pos c) ?_)
            rw [sg_neg]; exact Ev.now _
          · rw [order_lt c]; simp only [Option.bind_some]; rw [sg_times i (-1) (.inr rfl)]; exact Ev.now _
        · obtain ⟨r, h1, h2⟩ := ih (i + 1) (by omega) (by omega) (by omega)
          refine ⟨r, hs _ ?_, hi _ ?_⟩
          · refine Ev.congr (fun k => if_neg (by omega)) (Ev.congr (fun k => if_neg (by omega)) ?_)
            rw [wrap64_id (by omega) (by omega)]; exact h1
          · rw [c, order_eq]; simp only [Option.bind_some]
            refine Ev.congr (fun k => if_pos trivial) ?_
            rw [wrap64_id (by omega) (by omega)]; exact h2
        · refine ⟨sg i, hs _ ?_, hi _ ?_⟩
          · refine Ev.congr (fun k => if_pos (by omega)) ?_
            exact Ev.now _
          · rw [order_gt c]; simp only [Option.bind_some]; rw [sg_times i 1 (.inl rfl)]; exact Ev.now _
theorem cmp_ev (a b : List Int) (ha : ∀ j, j < a.length → -9223372036854775808 ≤ a.getD j 0 ∧ a.getD j 0 ≤ 9223372036854775807) (hb : ∀ j, j < b.length → -9223372036854775808 ≤ b.getD j 0 ∧ b.getD j 0 ≤ 9223372036854775807) : ∃ r : Int × Int, Ev (fun k => spec_CompareTerms.f k a b) r ∧ Ev (fun k => impl_CompareTerms.f k a b) r := by
  by_cases c0 : termsOk a = true
  · by_cases c1 : termsOk b = true
    · obtain ⟨d, hd⟩ : ∃ d : Nat, (d : Int) = mx (a.length : Int) (b.length : Int) := ⟨(mx (a.length : Int) (b.length : Int)).toNat, by unfold mx; split <;> omega⟩
      obtain ⟨r, hs, hi⟩ := cmp_loop a b c0 c1 _ rfl d 0 (by omega) (by omega) (by omega)
      refine ⟨(r, 0), ?_, ?_⟩
      · refine Ev.congr (fun k => by unfold spec_CompareTerms.f; rfl) (Ev.bind (specTerms_ev a ha) ?_)
        rw [c0]; refine Ev.congr (fun k => if_pos rfl) (Ev.bind (specTerms_ev b hb) ?_)
        rw [c1]; refine Ev.congr (fun k => if_pos rfl) (Ev.bind (a := r) ?_ (Ev.now _))
        exact hs
      · refine Ev.congr (fun k => by unfold impl_CompareTerms.f; rfl) (Ev.bind (implTerms_ev a) ?_)
        rw [c0]; refine Ev.congr (fun k => if_pos rfl) (Ev.bind (implTerms_ev b) ?_)
        rw [c1]; refine Ev.step (fun k => by rw [impl_CompareTerms.j0]) (Ev.congr (fun k => if_neg (by simp)) ?_)
        refine Ev.congr (fun k => ?_) hi
        unfold mx; split <;> rfl
    · simp only [Bool.not_eq_true] at c1
      refine ⟨(0, 1), ?_, ?_⟩
      · refine Ev.congr (fun k => by unfold spec_CompareTerms.f; rfl) (Ev.bind (specTerms_ev a ha) ?_)
        rw [c0]; refine Ev.congr (fun k => if_pos rfl) (Ev.bind (specTerms_ev b hb) ?_)
        rw [c1]; exact Ev.now _
      · refine Ev.congr (fun k => by unfold impl_CompareTerms.f; rfl) (Ev.bind (implTerms_ev a) ?_)
        rw [c0]; refine Ev.congr (fun k => if_pos rfl) (Ev.bind (implTerms_ev b) ?_)
        rw [c1]; refine Ev.step (fun k => by rw [impl_CompareTerms.j0]) (Ev.congr (fun k => if_pos (by simp)) (Ev.now _))
  · simp only [Bool.not_eq_true] at c0
    refine ⟨(0, 1), ?_, ?_⟩
    · refine Ev.congr (fun k => by unfold spec_CompareTerms.f; rfl) (Ev.bind (specTerms_ev a ha) ?_)
      rw [c0]; exact Ev.now _
    · refine Ev.congr (fun k => by unfold impl_CompareTerms.f; rfl) (Ev.bind (implTerms_ev a) ?_)
      rw [c0]; refine Ev.congr (fun k => if_neg (by simp)) (Ev.step (fun k => by rw [impl_CompareTerms.j0]) (Ev.congr (fun k => if_pos (by simp)) (Ev.now _)))
theorem FnExactCompareTerms : laws_FnExactCompareTerms.Pure := by
  intro l0 l1 ⟨hl, hw⟩ ⟨hl1, hw1⟩
  apply Ev.rounds (r := true)
  obtain ⟨⟨r1, r2⟩, hs, hi⟩ := cmp_ev l0 l1 (terms_w hw) (terms_w hw1)
  by_cases c : (l0.length : Int) > 1048576
  · exact ⟨0, fun k _ => by show laws_FnExactCompareTerms.f k l0 l1 = _; unfold laws_FnExactCompareTerms.f; rw [if_pos c]⟩
  by_cases c1 : (l1.length : Int) > 1048576
  · exact ⟨0, fun k _ => by show laws_FnExactCompareTerms.f k l0 l1 = _; unfold laws_FnExactCompareTerms.f; rw [if_neg c, if_pos c1]⟩
  · refine Ev.congr (fun k => by unfold laws_FnExactCompareTerms.f; rw [if_neg c, if_neg c1]) ?_
    repeat' (first
      | (refine Ev.bind (toInt64S_ev l0 (by omega)) ?_; try dsimp only)
      | (refine Ev.bind (toInt64S_ev l1 (by omega)) ?_; try dsimp only)
      | (refine Ev.bind (hs) ?_; try dsimp only)
      | (refine Ev.bind (hi) ?_; try dsimp only)
      | (refine Ev.bind (eqInt64S_ev _ (by omega)) ?_; try dsimp only)
      | exact ⟨0, fun k _ => rfl⟩
      | (refine Ev.congr (fun k => if_pos rfl) ?_; try dsimp only)
      | (refine Ev.congr (fun k => if_neg (by simp; done)) ?_; try dsimp only)
      | (refine Ev.congr (fun k => if_neg (by omega)) ?_; try dsimp only)
      | (refine Ev.congr (fun k => if_pos (by simp; done)) ?_; try dsimp only)
      | (refine Ev.congr (fun k => if_pos (by omega)) ?_; try dsimp only)
      | (refine Ev.step (fun k => by rw [laws_FnExactCompareTerms.j0]) ?_; try dsimp only)
      )
end Go.Proofs.Ytdnkpfmcpalojaa.Pure
