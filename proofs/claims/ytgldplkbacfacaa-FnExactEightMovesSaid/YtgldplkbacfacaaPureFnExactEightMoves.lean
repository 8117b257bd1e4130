/- The program's EightMoves returns what the reference's returns, for every machine and all lists of terms, in memory of its own. -/
import Derived.Test.YtgldplkbacfacaaMFnExactEightMovesx13
import Derived.Test.YtgldplkbacfacaaMOpen
namespace Go.Proofs.Ytgldplkbacfacaa.Pure
open Go.RowKit Go.Proofs.Ytgldplkbacfacaa.MFnExactEightMoves Go.Proofs.Ytgldplkbacfacaa.MOpen Go.Proofs.YtgldplkbacfacaaW.PrintWords Go.Proofs.YtgldplkbacfacaaW.PrintLast Go.Proofs.YtgldplkbacfacaaW.PrintMore
set_option linter.unusedVariables false
set_option linter.unusedSimpArgs false
theorem wrap64_id {n : Int} (h0 : -9223372036854775808 ≤ n) (h1 : n ≤ 9223372036854775807) : wrap64 n = n := by
  unfold wrap64; omega
theorem rd_nat (xs : List Int) (i : Nat) : rd xs (i : Int) = xs.getD i 0 := by simp [rd]
theorem rd_get (xs : List Int) (i : Nat) (h : i < xs.length) : rd xs (i : Int) = xs[i] := by simp [rd, h]
theorem ev_k {α : Type} {f : Nat → Option α} {r : α} (n : Nat) (h : ∀ k, n ≤ k → f k = some r) : Ev f r := ⟨n, h⟩
theorem l00In_some (a b c : Int) : spec_l00In.f a b c = some (decide (b ≤ a ∧ a ≤ c)) := by
  unfold spec_l00In.f
  split <;> simp <;> omega
theorem within_some (a b c : Int) : impl_within.f a b c = some (decide (b ≤ a ∧ a ≤ c)) := l00In_some a b c
theorem size_is {a : Int} (h0 : -9223372036854775807 ≤ a) (h1 : a ≤ 9223372036854775807) : spec_l03Size.f a = some (a.natAbs : Int) := by
  unfold spec_l03Size.f
  split
  · rw [wrap64_id (by omega) (by omega)]; congr 1; omega
  · congr 1; omega
theorem mx_abs {a : Int} (h0 : -9223372036854775807 ≤ a) (h1 : a ≤ 9223372036854775807) : mx a (wrap64 (-a)) = (a.natAbs : Int) := by
  unfold mx; rw [wrap64_id (by omega) (by omega)]; split <;> omega
/-- What both say of terms from index i on. -/
def TermsFrom (xs : List Int) (i : Nat) : Prop :=
  (∀ j, i ≤ j → j < xs.length → -1000000000 ≤ xs.getD j 0 ∧ xs.getD j 0 ≤ 1000000000 ∧ (0 < j → 1 ≤ xs.getD j 0)) ∧ (xs.length = 1 ∨ 2 ≤ xs.getD (xs.length - 1) 0)
theorem TermsFrom.step {xs : List Int} {i : Nat} (hi : i < xs.length) : TermsFrom xs i ↔ (-1000000000 ≤ xs.getD i 0 ∧ xs.getD i 0 ≤ 1000000000 ∧ (0 < i → 1 ≤ xs.getD i 0)) ∧ TermsFrom xs (i + 1) := by
  unfold TermsFrom
  constructor
  · rintro ⟨h, e⟩; exact ⟨h i (Nat.le_refl _) hi, fun j h1 h2 => h j (by omega) h2, e⟩
  · rintro ⟨h0, h, e⟩
    refine ⟨fun j h1 h2 => ?_, e⟩
    by_cases c : j = i
    · subst c; exact h0
    · exact h j (by omega) h2
theorem TermsFrom.done {xs : List Int} : TermsFrom xs xs.length ↔ (xs.length = 1 ∨ 2 ≤ xs.getD (xs.length - 1) 0) := by
  unfold TermsFrom
  constructor
  · rintro ⟨_, e⟩; exact e
  · intro e; exact ⟨fun j h1 h2 => by omega, e⟩
open Classical in
noncomputable def termsFrom (xs : List Int) (i : Nat) : Bool := decide (TermsFrom xs i)
open Classical in
theorem termsFrom_bad {xs : List Int} {i : Nat} (hi : i < xs.length) (h : ¬ (-1000000000 ≤ xs.getD i 0 ∧ xs.getD i 0 ≤ 1000000000 ∧ (0 < i → 1 ≤ xs.getD i 0))) : termsFrom xs i = false := by
  unfold termsFrom; rw [decide_eq_false_iff_not, TermsFrom.step hi]; exact fun z => h z.1
open Classical in
theorem termsFrom_good {xs : List Int} {i : Nat} (hi : i < xs.length) (h : (-1000000000 ≤ xs.getD i 0 ∧ xs.getD i 0 ≤ 1000000000 ∧ (0 < i → 1 ≤ xs.getD i 0))) : termsFrom xs i = termsFrom xs (i + 1) := by
  unfold termsFrom; rw [decide_eq_decide, TermsFrom.step hi]; exact ⟨fun z => z.2, fun z => ⟨h, z⟩⟩
open Classical in
theorem termsFrom_one {xs : List Int} (h : xs.length = 1) : termsFrom xs xs.length = true :=
  @decide_eq_true _ _ (TermsFrom.done.2 (.inl h))
open Classical in
theorem termsFrom_end {xs : List Int} (h : xs.length ≠ 1) : termsFrom xs xs.length = decide (xs.getD (xs.length - 1) 0 ≥ 2) := by
  by_cases c : xs.getD (xs.length - 1) 0 ≥ 2
  · rw [show decide (xs.getD (xs.length - 1) 0 ≥ 2) = true from decide_eq_true c]; exact @decide_eq_true _ _ (TermsFrom.done.2 (.inr c))
  · rw [show decide (xs.getD (xs.length - 1) 0 ≥ 2) = false from decide_eq_false c]; exact @decide_eq_false _ _ (fun z => c ((TermsFrom.done.1 z).resolve_left h))
theorem size_small {a : Int} (h0 : -9223372036854775808 ≤ a) (h : a ≤ 9223372036854775807) : ∃ r, spec_l03Size.f a = some r ∧ (r > 1000000000 → ¬ (-1000000000 ≤ a ∧ a ≤ 1000000000)) ∧ (¬ r > 1000000000 → ¬ a < -1000000000 → (-1000000000 ≤ a ∧ a ≤ 1000000000)) := by
  unfold spec_l03Size.f
  split
  · exact ⟨_, rfl, fun h => by unfold wrap64 at h; omega, fun h1 h2 => by unfold wrap64 at h1; omega⟩
  · exact ⟨_, rfl, fun h => by omega, fun h1 h2 => by omega⟩
theorem specTerms_loop (xs : List Int) (hw : ∀ j, j < xs.length → -9223372036854775808 ≤ xs.getD j 0 ∧ xs.getD j 0 ≤ 9223372036854775807) (h1 : 1 ≤ xs.length) (hn : xs.length ≤ 4611686018427387904) (d : Nat) : ∀ (i k : Nat), i + d = xs.length → d < k → spec_l04Terms.l0 k xs (xs.length : Int) (i : Int) = some (termsFrom xs i) := by
  induction d with
  | zero =>
    intro i k hd hk
    obtain ⟨k, rfl⟩ : ∃ m, k = m + 1 := ⟨k - 1, by omega⟩
    obtain rfl : i = xs.length := by omega
    simp only [spec_l04Terms.l0]; rw [if_neg (by omega)]
    by_cases e : xs.length = 1
    · rw [if_pos (by omega), termsFrom_one e]
    · rw [if_neg (by omega), wrap64_id (by omega) (by omega), if_pos (by omega), if_pos (by omega), termsFrom_end e, show ((xs.length : Int) - 1) = ((xs.length - 1 : Nat) : Int) by omega, rd_nat]
  | succ d ih =>
    intro i k hd hk
    obtain ⟨k, rfl⟩ : ∃ m, k = m + 1 := ⟨k - 1, by omega⟩
    have hi : i < xs.length := by omega
    obtain ⟨r, hr, h2, h3⟩ := size_small (hw i hi).1 (hw i hi).2
    simp only [spec_l04Terms.l0, rd_nat]; rw [if_pos (by omega), if_pos (by omega), if_pos (by omega), hr]; simp only [Option.bind_some]
    by_cases c1 : r > 1000000000
    · rw [if_pos c1, termsFrom_bad hi (fun z => h2 c1 ⟨z.1, z.2.1⟩)]
    · rw [if_neg c1]
      by_cases c2 : xs.getD i 0 < -1000000000
      · rw [if_pos c2, termsFrom_bad hi (fun z => by omega)]
      · rw [if_neg c2, wrap64_id (by omega) (by omega)]
        have hg := h3 c1 c2
        by_cases c3 : (i : Int) > 0
        · rw [if_pos c3]
          by_cases c4 : xs.getD i 0 < 1
          · rw [if_pos c4, termsFrom_bad hi (fun z => by have := z.2.2 (by omega); omega)]
          · rw [if_neg c4, termsFrom_good hi ⟨hg.1, hg.2, fun _ => by omega⟩]; exact ih (i + 1) k (by omega) (by omega)
        · rw [if_neg c3, termsFrom_good hi ⟨hg.1, hg.2, fun _ => by omega⟩]; exact ih (i + 1) k (by omega) (by omega)
theorem implTerms_loop (xs : List Int) (h1 : 1 ≤ xs.length) (hn : xs.length ≤ 4611686018427387904) (d : Nat) : ∀ (i k : Nat), i + d = xs.length → d < k → impl_ValidTerms.l0 k xs xs (xs.length : Int) (i : Int) = some (termsFrom xs i) := by
  induction d with
  | zero =>
    intro i k hd hk
    obtain ⟨k, rfl⟩ : ∃ m, k = m + 1 := ⟨k - 1, by omega⟩
    obtain rfl : i = xs.length := by omega
    simp only [impl_ValidTerms.l0]; rw [if_neg (by omega)]
    by_cases e : xs.length = 1
    · rw [if_pos (by omega), termsFrom_one e]
    · rw [if_neg (by omega), wrap64_id (by omega) (by omega), if_pos (by omega), if_pos (by omega), termsFrom_end e, show ((xs.length : Int) - 1) = ((xs.length - 1 : Nat) : Int) by omega, rd_nat]
  | succ d ih =>
    intro i k hd hk
    obtain ⟨k, rfl⟩ : ∃ m, k = m + 1 := ⟨k - 1, by omega⟩
    have hi : i < xs.length := by omega
    have hwi : ∃ b, impl_within.f (xs.getD i 0) (-1000000000) 1000000000 = some b ∧ (b = true ↔ (-1000000000 ≤ xs.getD i 0 ∧ xs.getD i 0 ≤ 1000000000)) := by
      unfold impl_within.f
      split
      · exact ⟨_, rfl, by rw [decide_eq_true_iff]; omega⟩
      · exact ⟨_, rfl, fun z => by simp at z, fun z => by omega⟩
    obtain ⟨b, hb, h2⟩ := hwi
    simp only [impl_ValidTerms.l0, rd_nat]; rw [if_pos (by omega), if_pos (by omega), if_pos (by omega), hb]; simp only [Option.bind_some]
    by_cases c1 : b = true
    · have hg := h2.1 c1
      rw [if_pos c1, wrap64_id (by omega) (by omega)]
      by_cases c3 : (i : Int) > 0
      · rw [if_pos c3]
        by_cases c4 : xs.getD i 0 < 1
        · rw [if_pos c4, termsFrom_bad hi (fun z => by have := z.2.2 (by omega); omega)]
        · rw [if_neg c4, termsFrom_good hi ⟨hg.1, hg.2, fun _ => by omega⟩]; exact ih (i + 1) k (by omega) (by omega)
      · rw [if_neg c3, termsFrom_good hi ⟨hg.1, hg.2, fun _ => by omega⟩]; exact ih (i + 1) k (by omega) (by omega)
    · rw [if_neg c1, termsFrom_bad hi (fun z => c1 (h2.2 ⟨z.1, z.2.1⟩))]
/-- Whether terms are valid. -/
noncomputable def termsOk (xs : List Int) : Bool := decide (1 ≤ xs.length ∧ xs.length ≤ 40) && termsFrom xs 0
theorem specTerms_ev (xs : List Int) (hw : ∀ j, j < xs.length → -9223372036854775808 ≤ xs.getD j 0 ∧ xs.getD j 0 ≤ 9223372036854775807) : Ev (fun k => spec_l04Terms.f k xs) (termsOk xs) := by
  refine ⟨xs.length + 3, fun k hk => ?_⟩
  obtain ⟨k, rfl⟩ : ∃ m, k = m + 1 := ⟨k - 1, by omega⟩
  show spec_l04Terms.f (k + 1) xs = _
  unfold spec_l04Terms.f termsOk
  by_cases c : (xs.length : Int) < 1
  · rw [if_pos c]; simp only [spec_l04Terms.j0]; rw [if_pos trivial, decide_eq_false (by omega)]; rfl
  · rw [if_neg c]; simp only [spec_l04Terms.j0]
    by_cases c2 : (xs.length : Int) > 40
    · rw [if_pos (by simpa using c2), decide_eq_false (by omega)]; rfl
    · rw [if_neg (by simpa using c2), decide_eq_true (by omega), Bool.true_and]
      exact specTerms_loop xs hw (by omega) (by omega) xs.length 0 k (by omega) (by omega)
theorem implTerms_ev (xs : List Int) : Ev (fun k => impl_ValidTerms.f k xs) (termsOk xs) := by
  refine ⟨xs.length + 3, fun k hk => ?_⟩
  obtain ⟨k, rfl⟩ : ∃ m, k = m + 1 := ⟨k - 1, by omega⟩
  show impl_ValidTerms.f (k + 1) xs = _
  unfold impl_ValidTerms.f termsOk
  by_cases c : (xs.length : Int) < 1
  · rw [if_pos c]; simp only [impl_ValidTerms.j0]; rw [if_pos trivial, decide_eq_false (by omega)]; rfl
  · rw [if_neg c]; simp only [impl_ValidTerms.j0]
    by_cases c2 : (xs.length : Int) > 40
    · rw [if_pos (by simpa using c2), decide_eq_false (by omega)]; rfl
    · rw [if_neg (by simpa using c2), decide_eq_true (by omega), Bool.true_and]
      exact implTerms_loop xs (by omega) (by omega) xs.length 0 k (by omega) (by omega)
theorem terms_w {l : List Int} (hw : ∀ z ∈ l, -9223372036854775808 ≤ z ∧ z ≤ 9223372036854775807) : ∀ j, j < l.length → -9223372036854775808 ≤ l.getD j 0 ∧ l.getD j 0 ≤ 9223372036854775807 := by
  intro j hj
  rw [List.getD_eq_getElem?_getD, List.getElem?_eq_getElem hj]
  exact hw _ (List.getElem_mem hj)
open Classical in
theorem termsOk_is {xs : List Int} (h : termsOk xs = true) : (1 ≤ xs.length ∧ xs.length ≤ 40) ∧ (∀ j, j < xs.length → -1000000000 ≤ xs.getD j 0 ∧ xs.getD j 0 ≤ 1000000000 ∧ (0 < j → 1 ≤ xs.getD j 0)) ∧ (xs.length = 1 ∨ 2 ≤ xs.getD (xs.length - 1) 0) := by
  unfold termsOk at h
  rw [Bool.and_eq_true, decide_eq_true_iff] at h
  have h2 : TermsFrom xs 0 := by
    have := h.2
    unfold termsFrom at this
    exact of_decide_eq_true this
  exact ⟨h.1, fun j hj => h2.1 j (by omega) hj, h2.2⟩
open Classical in
theorem termsOk_of {xs : List Int} (h1 : 1 ≤ xs.length ∧ xs.length ≤ 40) (h2 : ∀ j, j < xs.length → -1000000000 ≤ xs.getD j 0 ∧ xs.getD j 0 ≤ 1000000000 ∧ (0 < j → 1 ≤ xs.getD j 0)) (h3 : xs.length = 1 ∨ 2 ≤ xs.getD (xs.length - 1) 0) : termsOk xs = true := by
  unfold termsOk
  rw [Bool.and_eq_true, decide_eq_true_iff]
  refine ⟨h1, ?_⟩
  unfold termsFrom
  exact @decide_eq_true _ _ ⟨fun j _ hj => h2 j hj, h3⟩
theorem toInt64S_loop (xs : List Int) (hn : xs.length ≤ 4611686018427387904) (d : Nat) : ∀ (i : Nat) (acc : List Int) (k : Nat), acc.length = xs.length → (∀ j, j < i → acc.getD j 0 = xs.getD j 0) → i + d = xs.length → d < k → laws_toInt64S.l0 k xs acc (i : Int) = some xs := by
  induction d with
  | zero =>
    intro i acc k hl hj hd hk
    obtain ⟨k, rfl⟩ : ∃ m, k = m + 1 := ⟨k - 1, by omega⟩
    simp only [laws_toInt64S.l0]; rw [if_neg (by omega)]
    congr 1
    apply List.ext_getElem hl
    intro j h1 h2
    have := hj j (by omega)
    simpa [List.getD_eq_getElem?_getD, List.getElem?_eq_getElem, h1, h2] using this
  | succ d ih =>
    intro i acc k hl hj hd hk
    obtain ⟨k, rfl⟩ : ∃ m, k = m + 1 := ⟨k - 1, by omega⟩
    simp only [laws_toInt64S.l0]; rw [if_pos (by omega), if_pos (by omega), if_pos (by omega), wrap64_id (by omega) (by omega)]
    refine ih (i + 1) _ k ?_ ?_ (by omega) (by omega)
    · simpa using hl
    · intro j hji
      have hjl : j < acc.length := by omega
      by_cases e : j = i
      · subst e; simp [List.getD_eq_getElem?_getD, rd_nat, hjl]
      · have e' : ¬ i = j := fun h => e h.symm
        have := hj j (by omega)
        simpa [List.getD_eq_getElem?_getD, List.getElem?_set, e'] using this
theorem toInt64S_ev (xs : List Int) (hn : xs.length ≤ 17592186044416) : Ev (fun k => laws_toInt64S.f k xs) xs := by
  refine ⟨xs.length + 1, fun k hk => ?_⟩
  show laws_toInt64S.f k xs = some xs
  unfold laws_toInt64S.f
  rw [if_pos (by omega), if_pos (by simp; omega)]
  exact toInt64S_loop xs (by omega) xs.length 0 _ k (by simp) (fun j h => by omega) (by omega) (by omega)
theorem eqInt64S_loop (xs : List Int) (hn : xs.length ≤ 4611686018427387904) (d : Nat) : ∀ (i : Nat) (k : Nat), i + d = xs.length → d < k → laws_eqInt64S.l0 k xs xs (i : Int) = some true := by
  induction d with
  | zero =>
    intro i k hd hk
    obtain ⟨k, rfl⟩ : ∃ m, k = m + 1 := ⟨k - 1, by omega⟩
    simp only [laws_eqInt64S.l0]; rw [if_neg (by omega)]
  | succ d ih =>
    intro i k hd hk
    obtain ⟨k, rfl⟩ : ∃ m, k = m + 1 := ⟨k - 1, by omega⟩
    simp only [laws_eqInt64S.l0]; rw [if_pos (by omega), if_pos (by omega), if_pos (by omega), if_pos trivial, wrap64_id (by omega) (by omega)]
    exact ih (i + 1) k (by omega) (by omega)
theorem eqInt64S_ev (xs : List Int) (hn : xs.length ≤ 4611686018427387904) : Ev (fun k => laws_eqInt64S.f k xs xs) true := by
  refine ⟨xs.length + 1, fun k hk => ?_⟩
  show laws_eqInt64S.f k xs xs = some true
  unfold laws_eqInt64S.f
  rw [if_pos rfl]
  exact eqInt64S_loop xs hn xs.length 0 k (by omega) (by omega)
theorem markInt64S_loop (d : Nat) : ∀ (i : Nat) (xs : List Int) (a : Int) (k : Nat), 0 ≤ a → a + xs.length ≤ 4611686018427387904 → i + d = xs.length → (∀ j, j < i → xs.getD j 0 = a + j) → d < k → laws_markInt64S.l0 k xs (a + i) (i : Int) = some (a + xs.length, (List.range xs.length).map (fun j : Nat => a + (j : Int))) := by
  induction d with
  | zero =>
    intro i xs a k h0 ha hd hj hk
    obtain ⟨k, rfl⟩ : ∃ m, k = m + 1 := ⟨k - 1, by omega⟩
    simp only [laws_markInt64S.l0]; rw [if_neg (by omega)]
    have e : xs = (List.range xs.length).map (fun j : Nat => a + (j : Int)) := by
      apply List.ext_getElem (by simp)
      intro j h1 h2
      have := hj j (by omega)
      simpa [List.getD_eq_getElem?_getD, List.getElem?_eq_getElem, h1, h2] using this
    rw [← e, show i = xs.length by omega]
  | succ d ih =>
    intro i xs a k h0 ha hd hj hk
    obtain ⟨k, rfl⟩ : ∃ m, k = m + 1 := ⟨k - 1, by omega⟩
    simp only [laws_markInt64S.l0]; rw [if_pos (by omega), if_pos (by omega), wrap64_id (by omega) (by omega), wrap64_id (by omega) (by omega)]
    have := ih (i + 1) (xs.set i (a + i)) a k h0 (by simpa using ha) (by simp; omega) ?_ (by omega)
    · simpa [Int.add_assoc] using this
    · intro j hji
      have hjl : j < xs.length := by omega
      by_cases e : j = i
      · subst e; simp [List.getD_eq_getElem?_getD, hjl]
      · have e' : ¬ i = j := fun h => e h.symm
        have := hj j (by omega)
        simpa [List.getD_eq_getElem?_getD, List.getElem?_set, e'] using this
theorem markInt64S_ev (xs : List Int) (a : Int) (h0 : 0 ≤ a) (ha : a + xs.length ≤ 4611686018427387904) : Ev (fun k => laws_markInt64S.f k xs a) (a + xs.length, (List.range xs.length).map (fun j : Nat => a + (j : Int))) := by
  refine ⟨xs.length + 1, fun k hk => ?_⟩
  show laws_markInt64S.f k xs a = _
  unfold laws_markInt64S.f
  have := markInt64S_loop xs.length 0 xs a k h0 ha (by omega) (fun j h => by omega) (by omega)
  simpa using this
theorem eqMove_same (p q : Int) : laws_eqMove.f p q p q = some true := by
  unfold laws_eqMove.f; rw [if_pos rfl, if_pos rfl]
/-- A list of moves that has been marked, from a number on. -/
def markedM (n : Nat) (a : Int) : List S52 := (List.range n).map (fun j : Nat => ⟨IntKind.i8.wrap (a + 2 * (j : Int)), a + 2 * (j : Int) + 1⟩)
theorem rdM_get (xs : List S52) (i : Nat) (h : i < xs.length) : rd_T52 xs (i : Int) = xs[i] := by
  simp [rd_T52, h]
theorem eqMoveS_loop (xs : List S52) (hn : xs.length ≤ 4611686018427387904) (d : Nat) : ∀ (i : Nat) (k : Nat), i + d = xs.length → d < k → laws_eqMoveS.l0 k xs xs (i : Int) = some true := by
  induction d with
  | zero =>
    intro i k hd hk
    obtain ⟨k, rfl⟩ : ∃ m, k = m + 1 := ⟨k - 1, by omega⟩
    simp only [laws_eqMoveS.l0]; rw [if_neg (by omega)]
  | succ d ih =>
    intro i k hd hk
    obtain ⟨k, rfl⟩ : ∃ m, k = m + 1 := ⟨k - 1, by omega⟩
    simp only [laws_eqMoveS.l0]; rw [if_pos (by omega), if_pos (by omega), if_pos (by omega), eqMove_same]
    simp only [Option.bind_some]
    rw [if_pos trivial, wrap64_id (by omega) (by omega)]
    exact ih (i + 1) k (by omega) (by omega)
theorem eqMoveS_ev (xs : List S52) (hn : xs.length ≤ 4611686018427387904) : Ev (fun k => laws_eqMoveS.f k xs xs) true := by
  refine ⟨xs.length + 1, fun k hk => ?_⟩
  show laws_eqMoveS.f k xs xs = some true
  unfold laws_eqMoveS.f
  rw [if_pos rfl]
  exact eqMoveS_loop xs hn xs.length 0 k (by omega) (by omega)
theorem markMoveS_loop (d : Nat) : ∀ (i : Nat) (xs : List S52) (a : Int) (k : Nat), 0 ≤ a → a + 2 * xs.length ≤ 4611686018427387904 → i + d = xs.length → (∀ j, j < i → xs[j]? = some ⟨IntKind.i8.wrap (a + 2 * (j : Int)), a + 2 * (j : Int) + 1⟩) → d < k → laws_markMoveS.l0 k xs (a + 2 * (i : Int)) (i : Int) = some (a + 2 * xs.length, markedM xs.length a) := by
  induction d with
  | zero =>
    intro i xs a k h0 ha hd hj hk
    obtain ⟨k, rfl⟩ : ∃ m, k = m + 1 := ⟨k - 1, by omega⟩
    simp only [laws_markMoveS.l0]; rw [if_neg (by omega)]
    have e : xs = markedM xs.length a := by
      apply List.ext_getElem? 
      intro j
      by_cases c : j < xs.length
      · rw [hj j (by omega)]; simp [markedM, c]
      · rw [List.getElem?_eq_none (by omega), List.getElem?_eq_none (by simp [markedM]; omega)]
    rw [← e, show i = xs.length by omega]
  | succ d ih =>
    intro i xs a k h0 ha hd hj hk
    obtain ⟨k, rfl⟩ : ∃ m, k = m + 1 := ⟨k - 1, by omega⟩
    simp only [laws_markMoveS.l0]; rw [if_pos (by omega), if_pos (by omega)]
    simp only [Option.bind_some, Int.toNat_natCast]
    have hi : i < xs.length := by omega
    have e1 : rd_T52 (xs.set i ⟨IntKind.i8.wrap (a + 2 * (i : Int)), (rd_T52 xs (i : Int)).f1⟩) (i : Int) = ⟨IntKind.i8.wrap (a + 2 * (i : Int)), (rd_T52 xs (i : Int)).f1⟩ := by
      rw [rdM_get _ i (by simpa using hi)]; simp
    rw [e1, List.set_set, wrap64_id (n := a + 2 * (i : Int) + 1) (by omega) (by omega), wrap64_id (n := a + 2 * (i : Int) + 1 + 1) (by omega) (by omega), wrap64_id (n := (i : Int) + 1) (by omega) (by omega)]
    have := ih (i + 1) (xs.set i ⟨IntKind.i8.wrap (a + 2 * (i : Int)), a + 2 * (i : Int) + 1⟩) a k h0 (by simpa using ha) (by simp; omega) ?_ (by omega)
    · rw [show a + 2 * ((i + 1 : Nat) : Int) = a + 2 * (i : Int) + 1 + 1 by omega] at this
      simpa using this
    · intro j hji
      by_cases e : j = i
      · subst e; simp [hi]
      · rw [List.getElem?_set_ne (by omega)]; exact hj j (by omega)
theorem markMoveS_ev (xs : List S52) (a : Int) (h0 : 0 ≤ a) (ha : a + 2 * xs.length ≤ 4611686018427387904) : Ev (fun k => laws_markMoveS.f k xs a) (a + 2 * xs.length, markedM xs.length a) := by
  refine ⟨xs.length + 1, fun k hk => ?_⟩
  show laws_markMoveS.f k xs a = _
  unfold laws_markMoveS.f
  have := markMoveS_loop xs.length 0 xs a k h0 ha (by omega) (fun j h => by omega) (by omega)
  simpa using this
theorem heldMoveS_loop (n : Nat) (a : Int) (h0 : 0 ≤ a) (ha : a + 2 * n ≤ 4611686018427387904) (d : Nat) : ∀ (i : Nat) (k : Nat), i + d = n → d < k → laws_heldMoveS.l0 k (markedM n a) (a + 2 * (i : Int)) (i : Int) = some (a + 2 * n) := by
  induction d with
  | zero =>
    intro i k hd hk
    obtain ⟨k, rfl⟩ : ∃ m, k = m + 1 := ⟨k - 1, by omega⟩
    simp only [laws_heldMoveS.l0]; rw [if_neg (by simp [markedM]; omega), show i = n by omega]
  | succ d ih =>
    intro i k hd hk
    obtain ⟨k, rfl⟩ : ∃ m, k = m + 1 := ⟨k - 1, by omega⟩
    have hg : rd_T52 (markedM n a) (i : Int) = ⟨IntKind.i8.wrap (a + 2 * (i : Int)), a + 2 * (i : Int) + 1⟩ := by
      rw [rdM_get _ i (by simp [markedM]; omega)]; simp [markedM]
    simp only [laws_heldMoveS.l0]; rw [if_pos (by simp [markedM]; omega), if_pos (by omega), hg, wrap64_id (n := a + 2 * (i : Int) + 1) (by omega) (by omega), if_pos rfl, if_pos rfl, wrap64_id (n := a + 2 * (i : Int) + 1 + 1) (by omega) (by omega), wrap64_id (n := (i : Int) + 1) (by omega) (by omega)]
    have := ih (i + 1) k (by omega) (by omega)
    rw [show a + 2 * ((i + 1 : Nat) : Int) = a + 2 * (i : Int) + 1 + 1 by omega] at this
    exact this
theorem heldMoveS_ev (n : Nat) (a : Int) (h0 : 0 ≤ a) (ha : a + 2 * n ≤ 4611686018427387904) : Ev (fun k => laws_heldMoveS.f k (markedM n a) a) (a + 2 * n) := by
  refine ⟨n + 1, fun k hk => ?_⟩
  show laws_heldMoveS.f k _ a = _
  unfold laws_heldMoveS.f
  have := heldMoveS_loop n a h0 ha n 0 k (by omega) (by omega)
  simpa using this
theorem tdiv_small {a b : Int} (h0 : -4611686018427387904 ≤ a) (h1 : a ≤ 4611686018427387904) : -4611686018427387904 ≤ Int.tdiv a b ∧ Int.tdiv a b ≤ 4611686018427387904 := by
  have := Int.natAbs_tdiv_le_natAbs a b
  omega
theorem floorS_is {a b : Int} (hb : b ≠ 0) (h0 : -4611686018427387904 ≤ a) (h1 : a ≤ 4611686018427387904) : spec_l04Floor.f a b = some (a.fdiv b) := by
  have hs := tdiv_small (b := b) h0 h1
  have hf := Int.fdiv_eq_tdiv (a := a) (b := b)
  unfold spec_l04Floor.f
  rw [if_neg hb]
  by_cases c : Int.tmod a b = 0
  · have hd : b ∣ a := Int.dvd_of_tmod_eq_zero c
    rw [if_pos hd] at hf
    rw [if_pos c, wrap64_id (by omega) (by omega)]; congr 1; omega
  · have hd : ¬ b ∣ a := fun h => c (Int.tmod_eq_zero_of_dvd h)
    rw [if_neg hd] at hf
    rw [if_neg c]
    have ha : a ≠ 0 := fun h => hd (h ▸ Int.dvd_zero b)
    rcases Int.lt_trichotomy b 0 with hb2 | hb2 | hb2
    · have sg : b.sign = -1 := Int.sign_eq_neg_one_of_neg hb2
      rw [if_neg (show ¬ 0 ≤ b by omega), if_neg (show ¬ 0 ≤ b by omega), sg] at hf
      by_cases c2 : a < 0
      · rw [if_neg (by omega)] at hf
        rw [if_neg (by simp [c2, hb2]), wrap64_id (by omega) (by omega)]; congr 1; omega
      · rw [if_pos (by omega)] at hf
        rw [if_pos (by simp [c2, hb2]), wrap64_id (n := Int.tdiv a b) (by omega) (by omega), wrap64_id (by omega) (by omega)]; congr 1; omega
    · exact absurd hb2 hb
    · have sg : b.sign = 1 := Int.sign_eq_one_of_pos hb2
      rw [if_pos (show 0 ≤ b by omega), if_pos (show 0 ≤ b by omega), sg] at hf
      by_cases c2 : a < 0
      · rw [if_neg (by omega)] at hf
        rw [if_pos (by simp [c2]; omega), wrap64_id (n := Int.tdiv a b) (by omega) (by omega), wrap64_id (by omega) (by omega)]; congr 1; omega
      · rw [if_pos (by omega)] at hf
        rw [if_neg (by simp [c2]; omega), wrap64_id (by omega) (by omega)]; congr 1; omega
theorem floorI_is {a b : Int} (hb : b ≠ 0) (h0 : -4611686018427387904 ≤ a) (h1 : a ≤ 4611686018427387904) : impl_floor.f a b = some (a.fdiv b) := floorS_is hb h0 h1
def alikeR (a e c g : Int) : Int × Bool := if c ≠ 0 ∧ g ≠ 0 ∧ (0 < c ↔ 0 < g) ∧ a.fdiv c = e.fdiv g then (a.fdiv c, true) else (0, false)
def Sm (a : Int) : Prop := -4611686018427387904 ≤ a ∧ a ≤ 4611686018427387904
theorem u64_wrap (n : Int) : IntKind.u64.wrap n = n % 18446744073709551616 := by simp [IntKind.wrap, IntKind.bits, IntKind.signed]
theorem and32 (n : Int) (h0 : 0 ≤ n) (h1 : n < 18446744073709551616) : Go.bits .and .u64 n 4294967295 = n % 4294967296 :=
  bits_mask .u64 64 (by decide) (fun n h0 h1 => by rw [u64_wrap]; exact Int.emod_eq_of_lt h0 (by simpa using h1)) 32 (by decide) n h0 (by simpa using h1)
theorem mul64_small {x y : Int} (hx : 0 ≤ x ∧ x ≤ 9223372036854775808) (hy : 0 ≤ y ∧ y ≤ 9223372036854775808) : ∃ h l, bits_Mul64.f x y = some (h, l) ∧ (h = 0 → l = x * y) ∧ (h ≠ 0 → 18446744073709551616 ≤ x * y) := by
  unfold bits_Mul64.f
  rw [and32 y (by omega) (by omega), and32 x (by omega) (by omega)]
  have hx1 : x = x / 4294967296 * 4294967296 + x % 4294967296 := by omega
  have hy1 : y = y / 4294967296 * 4294967296 + y % 4294967296 := by omega
  have bx : 0 ≤ x / 4294967296 ∧ x / 4294967296 ≤ 2147483648 := by omega
  have by_ : 0 ≤ y / 4294967296 ∧ y / 4294967296 ≤ 2147483648 := by omega
  have bx0 : 0 ≤ x % 4294967296 ∧ x % 4294967296 ≤ 4294967295 := by omega
  have by0 : 0 ≤ y % 4294967296 ∧ y % 4294967296 ≤ 4294967295 := by omega
  have prod : x * y = (x / 4294967296) * (y / 4294967296) * 18446744073709551616 + ((x / 4294967296) * (y % 4294967296) + (x % 4294967296) * (y / 4294967296)) * 4294967296 + (x % 4294967296) * (y % 4294967296) := by
    conv => lhs; rw [hx1, hy1]
    grind
  have mb : ∀ {a b A B : Int}, 0 ≤ a → a ≤ A → 0 ≤ b → b ≤ B → 0 ≤ a * b ∧ a * b ≤ A * B := fun h0 h1 h2 h3 => ⟨Int.mul_nonneg h0 h2, Int.mul_le_mul h1 h3 h2 (by omega)⟩
  have p1 := mb bx.1 bx.2 by_.1 by_.2
  have p2 := mb bx.1 bx.2 by0.1 by0.2
  have p3 := mb bx0.1 bx0.2 by_.1 by_.2
  have p4 := mb bx0.1 bx0.2 by0.1 by0.2
  generalize hP : x * y = P at *
  generalize (x / 4294967296) * (y / 4294967296) = a at *
  generalize (x / 4294967296) * (y % 4294967296) = b at *
  generalize (x % 4294967296) * (y / 4294967296) = c at *
  generalize (x % 4294967296) * (y % 4294967296) = d at *
  simp only [u64_wrap]
  have e1 : a % 18446744073709551616 = a := by omega
  have e2 : b % 18446744073709551616 = b := by omega
  have e3 : c % 18446744073709551616 = c := by omega
  have e4 : d % 18446744073709551616 = d := by omega
  rw [e1, e2, e3, e4]
  have e5 : (b + d / 4294967296) % 18446744073709551616 = b + d / 4294967296 := by omega
  rw [e5, and32 _ (by omega) (by omega)]
  have e6 : (a + (b + d / 4294967296) / 4294967296) % 18446744073709551616 = a + (b + d / 4294967296) / 4294967296 := by omega
  have e7 : ((b + d / 4294967296) % 4294967296 + c) % 18446744073709551616 = (b + d / 4294967296) % 4294967296 + c := by omega
  rw [e6, e7]
  refine ⟨_, _, rfl, ?_, ?_⟩ <;> omega
def Ce (a : Int) : Prop := -1000000000000000 ≤ a ∧ a ≤ 1000000000000000
def cellR (a b c : Int) : Int × Bool := if -2000000000000000 ≤ a * b ∧ a * b ≤ 2000000000000000 then (a * b + c, decide (-1000000000000000 ≤ a * b + c ∧ a * b + c ≤ 1000000000000000)) else (0, false)
theorem natAbs_prod (a b : Int) : ((a.natAbs : Int) * (b.natAbs : Int) ≤ 2000000000000000) ↔ (-2000000000000000 ≤ a * b ∧ a * b ≤ 2000000000000000) := by
  have h : (a.natAbs : Int) * (b.natAbs : Int) = ((a * b).natAbs : Int) := by rw [Int.natAbs_mul]; exact (Int.natCast_mul _ _).symm
  rw [h]; omega
theorem cellS_is {ok : Bool} {a b c : Int} (ha : Sm a) (hb : Sm b) (hc : Ce c) : specC ok a b c = some ((cellR a b c).1, ok && (cellR a b c).2) := by
  unfold specC spec_l04Cell.f cellR
  unfold Sm at ha hb; unfold Ce at hc
  by_cases b0 : b = 0
  · subst b0
    rw [if_pos rfl, if_pos (by simp)]
    simp only [Int.mul_zero, Int.zero_add]
    rw [show wrap64 0 = 0 by decide +kernel, Int.zero_add, wrap64_id (by omega) (by omega), size_is (by omega) (by omega)]
    simp only [Option.bind_some]
    congr 3
    rw [Bool.eq_iff_iff]; simp; omega
  · rw [if_neg b0, size_is (a := a) (by omega) (by omega), size_is (a := b) (by omega) (by omega)]
    simp only [Option.bind_some]
    rw [if_neg (by omega)]
    have hd : (2000000000000000 : Int) / (b.natAbs : Int) ≤ 2000000000000000 := Int.ediv_le_self _ (by omega)
    have hd0 : 0 ≤ (2000000000000000 : Int) / (b.natAbs : Int) := Int.ediv_nonneg (by omega) (by omega)
    have ht : Int.tdiv 2000000000000000 (b.natAbs : Int) = 2000000000000000 / (b.natAbs : Int) := Int.tdiv_eq_ediv_of_nonneg (by omega)
    rw [ht, wrap64_id (by omega) (by omega)]
    have hq : ((a.natAbs : Int) > 2000000000000000 / (b.natAbs : Int)) ↔ ¬ (-2000000000000000 ≤ a * b ∧ a * b ≤ 2000000000000000) := by
      rw [← natAbs_prod, gt_iff_lt, Int.ediv_lt_iff_lt_mul (by omega)]; omega
    by_cases z : -2000000000000000 ≤ a * b ∧ a * b ≤ 2000000000000000
    · rw [if_neg (fun h => hq.1 h z), if_pos z, wrap64_id (n := a * b) (by omega) (by omega), wrap64_id (n := a * b + c) (by omega) (by omega), size_is (by omega) (by omega)]
      simp only [Option.bind_some]
      congr 3
      rw [Bool.eq_iff_iff]; simp; omega
    · rw [if_pos (hq.2 z), if_neg z]; rfl
theorem cellI_is {ov : Bool} {a b c : Int} (ha : Sm a) (hb : Sm b) (hc : Ce c) : implC ov a b c = some ((cellR a b c).1, ov || !(cellR a b c).2) := by
  unfold implC cellR
  unfold Sm at ha hb; unfold Ce at hc
  rw [mx_abs (by omega) (by omega), mx_abs (by omega) (by omega), u64_wrap, u64_wrap, Int.emod_eq_of_lt (by omega) (by omega), Int.emod_eq_of_lt (by omega) (by omega)]
  obtain ⟨h, l, e, e1, e2⟩ := mul64_small (x := (a.natAbs : Int)) (y := (b.natAbs : Int)) (by omega) (by omega)
  have hp := natAbs_prod a b
  rw [e]
  simp only [Option.bind_some]
  by_cases h0 : h = 0
  · rw [if_pos h0, e1 h0]
    by_cases z : -2000000000000000 ≤ a * b ∧ a * b ≤ 2000000000000000
    · rw [if_neg (by have := hp.2 z; omega), if_pos z, wrap64_id (n := a * b) (by omega) (by omega), wrap64_id (n := a * b + c) (by omega) (by omega)]
      cases ov with
      | true => rw [if_pos rfl]; rfl
      | false =>
        rw [if_neg (by decide), within_some]
        simp only [Option.bind_some, Bool.false_or]
    · rw [if_pos (by have : ¬ (a.natAbs : Int) * (b.natAbs : Int) ≤ 2000000000000000 := fun w => z (hp.1 w); omega), if_neg z]; simp
  · rw [if_neg h0, if_neg (fun z => by have := hp.2 z; have := e2 h0; omega)]; simp
theorem cellR_comm (a b c : Int) : cellR a b c = cellR b a c := by unfold cellR; rw [Int.mul_comm]
theorem cellR_ok {a b c : Int} (h : (cellR a b c).2 = true) : (cellR a b c).1 = a * b + c ∧ Ce (a * b + c) := by
  unfold cellR at h ⊢
  split at h
  · rename_i z
    rw [if_pos z]
    exact ⟨rfl, by simpa [Ce] using h⟩
  · cases h
theorem fmod_sign (A : Int) {C : Int} : (0 < C → 0 ≤ A.fmod C ∧ A.fmod C < C) ∧ (C < 0 → C < A.fmod C ∧ A.fmod C ≤ 0) := by
  refine ⟨fun h => ⟨Int.fmod_nonneg_of_pos A h, Int.fmod_lt_of_pos A h⟩, fun h => ?_⟩
  have h1 := Int.fmod_nonneg_of_pos (-A) (b := -C) (by omega)
  have h2 := Int.fmod_lt_of_pos (-A) (b := -C) (by omega)
  rw [Int.neg_fmod_neg] at h1 h2
  omega
theorem fmod_half_pos {C x : Int} (h0 : 0 < x) (h1 : x < C) : 0 ≤ C.fmod x ∧ 2 * C.fmod x < C := by
  have e := Int.mul_fdiv_add_fmod C x
  have l := (fmod_sign C (C := x)).1 h0
  have q : 1 ≤ C.fdiv x := by
    rcases Int.lt_or_le (C.fdiv x) 1 with h | h
    · have : x * C.fdiv x ≤ x * 0 := Int.mul_le_mul_of_nonneg_left (by omega) (by omega)
      omega
    · exact h
  have : x * 1 ≤ x * C.fdiv x := Int.mul_le_mul_of_nonneg_left q (by omega)
  omega
theorem fmod_half {A C : Int} (hC : C ≠ 0) (hx : A.fmod C ≠ 0) : 2 * (C.fmod (A.fmod C)).natAbs < C.natAbs := by
  rcases Int.lt_or_le 0 C with h | h
  · have l := (fmod_sign A).1 h
    have := fmod_half_pos (C := C) (x := A.fmod C) (by omega) l.2
    omega
  · have l := (fmod_sign A (C := C)).2 (by omega)
    have := fmod_half_pos (C := -C) (x := -(A.fmod C)) (by omega) (by omega)
    rw [Int.neg_fmod_neg] at this
    omega
def Ev2 {α : Type} (f : Nat → Nat → Option α) (r : α) : Prop := ∃ N, ∀ k m, N ≤ k → N ≤ m → f k m = some r
structure XsOk (xs : List Int) : Prop where
  len : xs.length ≤ 40
  el : ∀ i : Int, -1000000000 ≤ rd xs i ∧ rd xs i ≤ 1000000000
theorem pot100 {A C : Int} (hC : Ce C) : C ≠ 0 → ∃ i j : Nat, C.natAbs < 2 ^ i ∧ (A.fmod C).natAbs < 2 ^ j ∧ i + j ≤ 100 := by
  intro h
  unfold Ce at hC
  have := fmod_sign A (C := C)
  refine ⟨50, 50, ?_, ?_, by omega⟩ <;> (rw [show (2 : Nat) ^ 50 = 1125899906842624 by decide]; omega)
theorem q_small {a c q : Int} (ha : Ce a) (h : q = a.fdiv c) : Sm (-q) ∧ wrap64 (-q) = -q := by
  have := Int.natAbs_fdiv_le_natAbs a c
  unfold Ce at ha; unfold Sm
  exact ⟨by omega, wrap64_id (by omega) (by omega)⟩
theorem Ce.sm {a : Int} (h : Ce a) : Sm a := by unfold Ce at h; unfold Sm; omega
-- single steps
def Ends (sS sI : PSt) : Prop :=
  (sS.ov = true ∧ sI.ov = false ∧ sI.ms = sS.ms ∧ sI.gs = sS.gs ∧ sS.gs.length ≤ 40 ∧ sS.ms.length ≤ 20000 ∧ ∀ z ∈ sS.gs, Sm z) ∨ (sI.ov = true ∧ (sS.ov = false ∨ (41 ≤ sS.gs.length ∧ ∀ z ∈ sS.gs, Sm z)))
theorem Ev2.ev {α : Type} {f : Nat → Nat → Option α} {r : α} (h : Ev2 f r) : Ev (fun k => f k k) r := by
  obtain ⟨N, hN⟩ := h
  exact ⟨N, fun k hk => hN k k hk hk⟩
theorem sm_word {gs : List Int} (h : ∀ z ∈ gs, Sm z) : ∀ j, j < gs.length → -9223372036854775808 ≤ gs.getD j 0 ∧ gs.getD j 0 ≤ 9223372036854775807 := by
  refine terms_w (fun z hz => ?_)
  have := h z hz
  unfold Sm at this
  omega
theorem xs_ok {xs : List Int} (h : termsOk xs = true) : XsOk xs := by
  obtain ⟨h1, h2, -⟩ := termsOk_is h
  refine ⟨h1.2, fun i => ?_⟩
  unfold rd
  by_cases c : i.toNat < xs.length
  · have := h2 _ c; exact ⟨this.1, this.2.1⟩
  · rw [List.getD_eq_getElem?_getD, List.getElem?_eq_none (by omega)]; simp
theorem big_bad {gs : List Int} (h : 41 ≤ gs.length) : termsOk gs = false := by
  unfold termsOk
  rw [decide_eq_false (by omega), Bool.false_and]
theorem ends_code {sS sI : PSt} (h : Ends sS sI) : ∃ c, Ev (fun k => spec_l04Work_end.f k sS.ms sS.gs sS.ov) c ∧ Ev (fun k => impl_mover_code.f k sI.ms sI.gs sI.ov) c ∧ (c = 0 → sI.ms = sS.ms ∧ sI.gs = sS.gs ∧ sS.gs.length ≤ 40 ∧ sS.ms.length ≤ 20000) := by
  rcases h with ⟨h1, h2, h3, h4, h5, h6, h7⟩ | ⟨h1, h2⟩
  · rw [h1, h2, h3, h4]
    by_cases z : (sS.gs.length : Int) = 0
    · refine ⟨4, Ev.congr (fun k => by unfold spec_l04Work_end.f; exact (if_pos rfl).trans (if_pos z)) (Ev.now _), ?_, fun h => absurd h (by decide)⟩
      refine Ev.congr (fun k => by unfold impl_mover_code.f; exact (if_neg (by simp)).trans (if_neg (by omega))) ?_
      exact Ev.step (fun k => by rw [impl_mover_code.j0]) (Ev.congr (fun k => (if_neg (by simp)).trans (if_pos z)) (Ev.now _))
    · have e1 := specTerms_ev sS.gs (sm_word h7)
      have e2 := implTerms_ev sS.gs
      cases t : termsOk sS.gs with
      | true =>
        rw [t] at e1 e2
        refine ⟨0, Ev.congr (fun k => by unfold spec_l04Work_end.f; exact (if_pos rfl).trans (if_neg z)) (Ev.bind e1 (Ev.congr (fun k => if_pos rfl) (Ev.now _))), ?_, fun _ => ⟨rfl, rfl, h5, h6⟩⟩
        refine Ev.congr (fun k => by unfold impl_mover_code.f; exact (if_neg (by simp)).trans (if_pos (by omega))) (Ev.bind e2 ?_)
        exact Ev.step (fun k => by rw [impl_mover_code.j0]) (Ev.congr (fun k => (if_neg (by simp)).trans (if_neg z)) (Ev.now _))
      | false =>
        rw [t] at e1 e2
        refine ⟨3, Ev.congr (fun k => by unfold spec_l04Work_end.f; exact (if_pos rfl).trans (if_neg z)) (Ev.bind e1 (Ev.congr (fun k => if_neg Bool.false_ne_true) (Ev.now _))), ?_, fun h => absurd h (by decide)⟩
        refine Ev.congr (fun k => by unfold impl_mover_code.f; exact (if_neg (by simp)).trans (if_pos (by omega))) (Ev.bind e2 ?_)
        exact Ev.step (fun k => by rw [impl_mover_code.j0]) (Ev.congr (fun k => if_pos (by simp)) (Ev.now _))
  · refine ⟨3, ?_, ?_, fun h => absurd h (by decide)⟩
    · rcases h2 with h2 | ⟨h2, h3⟩
      · rw [h2]
        exact Ev.congr (fun k => by unfold spec_l04Work_end.f; exact if_neg (by simp)) (Ev.now _)
      · cases o : sS.ov with
        | false => exact Ev.congr (fun k => by unfold spec_l04Work_end.f; exact if_neg (by simp)) (Ev.now _)
        | true =>
          have e1 := specTerms_ev sS.gs (sm_word h3)
          rw [big_bad h2] at e1
          exact Ev.congr (fun k => by unfold spec_l04Work_end.f; exact (if_pos rfl).trans (if_neg (by omega))) (Ev.bind e1 (Ev.congr (fun k => if_neg Bool.false_ne_true) (Ev.now _)))
    · rw [h1]
      refine Ev.congr (fun k => by unfold impl_mover_code.f; exact if_pos rfl) ?_
      exact Ev.step (fun k => by rw [impl_mover_code.j0]) (Ev.congr (fun k => if_pos rfl) (Ev.now _))
theorem in_ce {a : Int} (h : inP a = true) : Ce a := by
  unfold inP at h; have := of_decide_eq_true h; unfold Ce; omega
/-! ### the common greatest integer of several quotients -/
/-- All divisors have one sign, all quotients one greatest integer. -/
def AlikeG (xs ys : List Int) : Prop := ∀ j, j < ys.length → ys.getD j 0 ≠ 0 ∧ (0 < ys.getD j 0 ↔ 0 < ys.getD 0 0) ∧ (xs.getD j 0).fdiv (ys.getD j 0) = (xs.getD 0 0).fdiv (ys.getD 0 0)
open Classical in
noncomputable def alikeG (xs ys : List Int) : Int × Bool := if AlikeG xs ys then ((xs.getD 0 0).fdiv (ys.getD 0 0), true) else (0, false)
section
variable {xs ys : List Int}
theorem alikeG_yes (h : AlikeG xs ys) : alikeG xs ys = ((xs.getD 0 0).fdiv (ys.getD 0 0), true) := by unfold alikeG; exact if_pos h
theorem alikeG_no (h : ¬ AlikeG xs ys) : alikeG xs ys = (0, false) := by unfold alikeG; exact if_neg h
theorem alikeS_l1 (hn : xs.length = ys.length) (hm : ys.length ≤ 1000) (hs : ∀ j, j < ys.length → Sm (xs.getD j 0)) (hz : ∀ j, j < ys.length → ys.getD j 0 ≠ 0 ∧ (0 < ys.getD j 0 ↔ 0 < ys.getD 0 0)) (d : Nat) : ∀ (i k : Nat), i + d = ys.length → d < k → (∀ j, j < i → (xs.getD j 0).fdiv (ys.getD j 0) = (xs.getD 0 0).fdiv (ys.getD 0 0)) → spec_l04Alike.l1 k xs ys ((xs.getD 0 0).fdiv (ys.getD 0 0)) (i : Int) = some (alikeG xs ys) := by
  induction d with
  | zero =>
    intro i k hd hk hj
    obtain ⟨k, rfl⟩ : ∃ m, k = m + 1 := ⟨k - 1, by omega⟩
    rw [spec_l04Alike.l1, if_neg (by omega), alikeG_yes (fun j h => ⟨(hz j h).1, (hz j h).2, hj j (by omega)⟩)]
  | succ d ih =>
    intro i k hd hk hj
    obtain ⟨k, rfl⟩ : ∃ m, k = m + 1 := ⟨k - 1, by omega⟩
    have hi : i < ys.length := by omega
    rw [spec_l04Alike.l1, if_pos (by omega), if_pos (by omega), if_pos (by omega), rd_nat, rd_nat, floorS_is (hz i hi).1 (hs i hi).1 (hs i hi).2, Option.bind_some]
    by_cases c : (xs.getD i 0).fdiv (ys.getD i 0) = (xs.getD 0 0).fdiv (ys.getD 0 0)
    · rw [if_pos c, wrap64_id (by omega) (by omega)]
      exact ih (i + 1) k (by omega) (by omega) (fun j h => by
        by_cases e : j = i
        · subst e; exact c
        · exact hj j (by omega))
    · rw [if_neg c, alikeG_no (fun h => c (h i hi).2.2)]
theorem alikeS_l0 (hn : xs.length = ys.length) (h0 : 0 < ys.length) (hm : ys.length ≤ 1000) (hs : ∀ j, j < ys.length → Sm (xs.getD j 0)) (d : Nat) : ∀ (i k : Nat), i + d = ys.length → d + ys.length + 1 < k → (∀ j, j < i → ys.getD j 0 ≠ 0 ∧ (0 < ys.getD j 0 ↔ 0 < ys.getD 0 0)) → spec_l04Alike.l0 k xs ys (i : Int) = some (alikeG xs ys) := by
  induction d with
  | zero =>
    intro i k hd hk hj
    obtain ⟨k, rfl⟩ : ∃ m, k = m + 1 := ⟨k - 1, by omega⟩
    have hz := fun j (h : j < ys.length) => hj j (by omega)
    rw [spec_l04Alike.l0, if_neg (by omega), if_pos (by omega), if_pos (by omega), show rd xs 0 = xs.getD 0 0 from rd_nat xs 0, show rd ys 0 = ys.getD 0 0 from rd_nat ys 0, floorS_is (hz 0 h0).1 (hs 0 h0).1 (hs 0 h0).2, Option.bind_some]
    exact alikeS_l1 hn hm hs hz (ys.length - 1) 1 k (by omega) (by omega) (fun j h => by
      have : j = 0 := by omega
      subst this; rfl)
  | succ d ih =>
    intro i k hd hk hj
    obtain ⟨k, rfl⟩ : ∃ m, k = m + 1 := ⟨k - 1, by omega⟩
    have hi : i < ys.length := by omega
    rw [spec_l04Alike.l0, if_pos (by omega), if_pos (by omega), rd_nat, show rd ys 0 = ys.getD 0 0 from rd_nat ys 0]
    by_cases z : ys.getD i 0 = 0
    · rw [if_pos z, alikeG_no (fun h => (h i hi).1 z)]
    rw [if_neg z, if_pos (by omega)]
    by_cases s : (0 < ys.getD i 0 ↔ 0 < ys.getD 0 0)
    · rw [if_neg (by simp only [gt_iff_lt, bne_iff_ne, ne_eq, decide_eq_decide, Classical.not_not]; exact s), wrap64_id (by omega) (by omega)]
      exact ih (i + 1) k (by omega) (by omega) (fun j h => by
        by_cases e : j = i
        · subst e; exact ⟨z, s⟩
        · exact hj j (by omega))
    · rw [if_pos (by simp only [gt_iff_lt, bne_iff_ne, ne_eq, decide_eq_decide]; exact s), alikeG_no (fun h => s (h i hi).2.1)]
theorem alikeS_g (hn : xs.length = ys.length) (h0 : 0 < ys.length) (hm : ys.length ≤ 1000) (hs : ∀ j, j < ys.length → Sm (xs.getD j 0)) : Ev (fun k => spec_l04Alike.f k xs ys) (alikeG xs ys) :=
  ⟨ys.length + ys.length + 2, fun k hk => by
    show spec_l04Alike.f k xs ys = _
    unfold spec_l04Alike.f
    exact alikeS_l0 hn h0 hm hs ys.length 0 k (by omega) (by omega) (fun j h => by omega)⟩
theorem givesI_l0 (hn : xs.length = ys.length) (h0 : 0 < ys.length) (hm : ys.length ≤ 1000) (hs : ∀ j, j < ys.length → Sm (xs.getD j 0)) (hz : ∀ j, j < ys.length → ys.getD j 0 ≠ 0) (d : Nat) : ∀ (i k : Nat), i + d = ys.length → d < k → (∀ j, j < i → (0 < ys.getD j 0 ↔ 0 < ys.getD 0 0) ∧ (xs.getD j 0).fdiv (ys.getD j 0) = (xs.getD 0 0).fdiv (ys.getD 0 0)) → impl_gives.l0 k xs ys ((xs.getD 0 0).fdiv (ys.getD 0 0)) (xs.length : Int) (i : Int) = some (alikeG xs ys) := by
  induction d with
  | zero =>
    intro i k hd hk hj
    obtain ⟨k, rfl⟩ : ∃ m, k = m + 1 := ⟨k - 1, by omega⟩
    rw [impl_gives.l0, if_neg (by omega), alikeG_yes (fun j h => ⟨hz j h, hj j (by omega)⟩)]
  | succ d ih =>
    intro i k hd hk hj
    obtain ⟨k, rfl⟩ : ∃ m, k = m + 1 := ⟨k - 1, by omega⟩
    have hi : i < ys.length := by omega
    have z1 := hz i hi; have z2 := hz 0 h0
    rw [impl_gives.l0, if_pos (by omega), if_pos (by omega), if_pos (by omega), if_pos (by omega), rd_nat, show rd ys 0 = ys.getD 0 0 from rd_nat ys 0]
    by_cases s : (0 < ys.getD i 0 ↔ 0 < ys.getD 0 0)
    · rw [if_neg (by simp only [bne_iff_ne, ne_eq, decide_eq_decide, Classical.not_not]; omega), if_pos (by omega), rd_nat, floorI_is z1 (hs i hi).1 (hs i hi).2, Option.bind_some]
      by_cases c : (xs.getD i 0).fdiv (ys.getD i 0) = (xs.getD 0 0).fdiv (ys.getD 0 0)
      · rw [if_pos c, wrap64_id (by omega) (by omega)]
        exact ih (i + 1) k (by omega) (by omega) (fun j h => by
          by_cases e : j = i
          · subst e; exact ⟨s, c⟩
          · exact hj j (by omega))
      · rw [if_neg c, alikeG_no (fun h => c (h i hi).2.2)]
    · rw [if_pos (by simp only [bne_iff_ne, ne_eq, decide_eq_decide]; omega), alikeG_no (fun h => s (h i hi).2.1)]
theorem index_loop (hm : ys.length ≤ 1000) (d : Nat) : ∀ (i k : Nat), i + d = ys.length → d < k → ∃ r : Int, slices_Index_int64_int64.l0 k ys 0 (ys.length : Int) (i : Int) = some r ∧ (0 ≤ r ↔ ∃ j, i ≤ j ∧ j < ys.length ∧ ys.getD j 0 = 0) := by
  induction d with
  | zero =>
    intro i k hd hk
    obtain ⟨k, rfl⟩ : ∃ m, k = m + 1 := ⟨k - 1, by omega⟩
    exact ⟨-1, by rw [slices_Index_int64_int64.l0, if_neg (by omega)], fun h => by omega, fun ⟨j, h1, h2, _⟩ => by omega⟩
  | succ d ih =>
    intro i k hd hk
    obtain ⟨k, rfl⟩ : ∃ m, k = m + 1 := ⟨k - 1, by omega⟩
    rw [slices_Index_int64_int64.l0, if_pos (by omega), if_pos (by omega), if_pos (by omega), rd_nat]
    by_cases z : 0 = ys.getD i 0
    · exact ⟨i, by rw [if_pos z], ⟨fun _ => ⟨i, by omega, by omega, z.symm⟩, fun _ => by omega⟩⟩
    · rw [if_neg z, wrap64_id (by omega) (by omega)]
      obtain ⟨r, e, h⟩ := ih (i + 1) k (by omega) (by omega)
      refine ⟨r, e, h.trans ⟨fun ⟨j, h1, h2, h3⟩ => ⟨j, by omega, h2, h3⟩, fun ⟨j, h1, h2, h3⟩ => ⟨j, ?_, h2, h3⟩⟩⟩
      rcases Nat.eq_or_lt_of_le h1 with rfl | h4
      · exact absurd h3.symm z
      · exact h4
theorem givesI_g (hn : xs.length = ys.length) (h0 : 0 < ys.length) (hm : ys.length ≤ 1000) (hs : ∀ j, j < ys.length → Sm (xs.getD j 0)) : Ev (fun k => impl_gives.f k xs ys) (alikeG xs ys) := by
  refine ⟨ys.length + 1, fun k hk => ?_⟩
  show impl_gives.f k xs ys = _
  obtain ⟨r, e, hr⟩ := index_loop hm ys.length 0 k (by omega) (by omega)
  unfold impl_gives.f slices_Contains_int64_int64.f slices_Index_int64_int64.f
  rw [show ((0 : Nat) : Int) = 0 from rfl] at e
  rw [e, Option.bind_some, Option.bind_some]
  by_cases z : ∃ j, 0 ≤ j ∧ j < ys.length ∧ ys.getD j 0 = 0
  · rw [if_pos (by simpa using hr.2 z)]
    obtain ⟨j, _, h2, h3⟩ := z
    rw [alikeG_no (fun h => (h j h2).1 h3)]
  · have hz : ∀ j, j < ys.length → ys.getD j 0 ≠ 0 := fun j h h2 => z ⟨j, by omega, h, h2⟩
    rw [if_neg (by simp only [decide_eq_true_eq]; exact fun h => z (hr.1 h)), if_pos (by omega), if_pos (by omega), show rd xs 0 = xs.getD 0 0 from rd_nat xs 0, show rd ys 0 = ys.getD 0 0 from rd_nat ys 0, floorI_is (hz 0 h0) (hs 0 h0).1 (hs 0 h0).2, Option.bind_some]
    exact givesI_l0 hn h0 hm hs hz ys.length 0 k (by omega) (by omega) (fun j h => by omega)
end
/-! ### the machines with eight numbers: what holds while they move -/
structure EInv (xs ys : List Int) (s : ESt) (p n : Nat) : Prop where
  c0 : Ce s.T0
  c1 : Ce s.T1
  c2 : Ce s.T2
  c3 : Ce s.T3
  d0 : Ce s.L0
  d1 : Ce s.L1
  d2 : Ce s.L2
  d3 : Ce s.L3
  i0 : 0 ≤ s.i
  i1 : s.i ≤ (xs.length : Int) + 1
  j0 : 0 ≤ s.j
  j1 : s.j ≤ (ys.length : Int) + 1
  ex : s.i = (xs.length : Int) + 1 → (s.T0 = s.T2 ∧ s.T1 = s.T3) ∧ s.L0 = s.L2 ∧ s.L1 = s.L3
  ey : s.j = (ys.length : Int) + 1 → (s.T0 = s.T1 ∧ s.T2 = s.T3) ∧ s.L0 = s.L1 ∧ s.L2 = s.L3
  pot : s.L0 ≠ 0 → ∃ a b : Nat, s.L0.natAbs < 2 ^ a ∧ (s.T0.fmod s.L0).natAbs < 2 ^ b ∧ a + b ≤ p
  pb : p ≤ 100
  nn : n = (((xs.length : Int) + 1 - s.i).toNat + ((ys.length : Int) + 1 - s.j).toNat) * 101 + p
  ml : s.ms.length + n ≤ 20000
  gl : s.gs.length ≤ s.ms.length
  gb : ∀ z ∈ s.gs, Sm z
def cornT (s : ESt) : List Int := corn s.T0 s.T1 s.T2 s.T3
def cornL (s : ESt) : List Int := corn s.L0 s.L1 s.L2 s.L3
theorem corn_sm {a b c d : Int} (ha : Ce a) (hb : Ce b) (hc : Ce c) (hd : Ce d) : corn a b c d = [a, a + b, a + c, a + b + c + d] ∧ ∀ j, j < 4 → Sm ((corn a b c d).getD j 0) := by
  unfold Ce at *
  have e : corn a b c d = [a, a + b, a + c, a + b + c + d] := by
    unfold corn
    rw [wrap64_id (n := a + b) (by omega) (by omega), wrap64_id (n := a + c) (by omega) (by omega), wrap64_id (n := a + b + c) (by omega) (by omega), wrap64_id (n := a + b + c + d) (by omega) (by omega)]
  refine ⟨e, fun j hj => ?_⟩
  rw [e]; unfold Sm
  rcases (show j = 0 ∨ j = 1 ∨ j = 2 ∨ j = 3 by omega) with rfl | rfl | rfl | rfl <;> simp <;> omega
section
variable {xs ys : List Int} {s : ESt} {p n : Nat}
theorem EInv.alikeS (h : EInv xs ys s p n) : Ev (fun k => spec_l04Alike.f k (cornT s) (cornL s)) (alikeG (cornT s) (cornL s)) :=
  alikeS_g rfl (by show 0 < 4; omega) (by show 4 ≤ 1000; omega) (fun j hj => (corn_sm h.c0 h.c1 h.c2 h.c3).2 j hj)
theorem EInv.givesI (h : EInv xs ys s p n) : Ev (fun k => impl_gives.f k (cornT s) (cornL s)) (alikeG (cornT s) (cornL s)) :=
  givesI_g rfl (by show 0 < 4; omega) (by show 4 ≤ 1000; omega) (fun j hj => (corn_sm h.c0 h.c1 h.c2 h.c3).2 j hj)
/-- Behind the terms of both, all quotients are the same. -/
theorem EInv.last (h : EInv xs ys s p n) (hi : s.i = (xs.length : Int) + 1) (hj : s.j = (ys.length : Int) + 1) (hc : s.L0 ≠ 0) : alikeG (cornT s) (cornL s) = (s.T0.fdiv s.L0, true) := by
  obtain ⟨⟨x1, x2⟩, x3, x4⟩ := h.ex hi
  obtain ⟨⟨y1, y2⟩, y3, y4⟩ := h.ey hj
  have e1 : cornT s = [s.T0, s.T0 + s.T0, s.T0 + s.T0, s.T0 + s.T0 + s.T0 + s.T0] := by
    rw [cornT, (corn_sm h.c0 h.c1 h.c2 h.c3).1, ← y1, ← y2, ← x1]
  have e2 : cornL s = [s.L0, s.L0 + s.L0, s.L0 + s.L0, s.L0 + s.L0 + s.L0 + s.L0] := by
    rw [cornL, (corn_sm h.d0 h.d1 h.d2 h.d3).1, ← y3, ← y4, ← x3]
  rw [e1, e2]
  refine alikeG_yes (fun j hj => ?_)
  have hj4 : j < 4 := hj
  rcases (show j = 0 ∨ j = 1 ∨ j = 2 ∨ j = 3 by omega) with rfl | rfl | rfl | rfl
  · exact ⟨hc, Iff.rfl, rfl⟩
  · exact ⟨by simp; omega, by simp; omega, by simp; rw [show s.T0 + s.T0 = 2 * s.T0 by omega, show s.L0 + s.L0 = 2 * s.L0 by omega, Int.mul_fdiv_mul_of_pos _ _ (by omega)]⟩
  · exact ⟨by simp; omega, by simp; omega, by simp; rw [show s.T0 + s.T0 = 2 * s.T0 by omega, show s.L0 + s.L0 = 2 * s.L0 by omega, Int.mul_fdiv_mul_of_pos _ _ (by omega)]⟩
  · exact ⟨by simp; omega, by simp; omega, by simp; rw [show s.T0 + s.T0 + s.T0 + s.T0 = 4 * s.T0 by omega, show s.L0 + s.L0 + s.L0 + s.L0 = 4 * s.L0 by omega, Int.mul_fdiv_mul_of_pos _ _ (by omega)]⟩
end
def giveE (s : ESt) (q x0 x1 x2 x3 : Int) (f : Bool) : ESt := ⟨s.L0, s.L1, s.L2, s.L3, x0, x1, x2, x3, s.i, s.j, s.lf, s.ms ++ [⟨1, q⟩], s.gs ++ [q], f⟩
theorem EInv.give {xs ys : List Int} {s : ESt} {p n : Nat} (h : EInv xs ys s p n) (hc : s.L0 ≠ 0) (q : Int) (hq : q = s.T0.fdiv s.L0) (h0 : (cellR s.L0 (-q) s.T0).2 = true) (h1 : (cellR s.L1 (-q) s.T1).2 = true) (h2 : (cellR s.L2 (-q) s.T2).2 = true) (h3 : (cellR s.L3 (-q) s.T3).2 = true) (f : Bool) :
    ∃ p', p' + 1 ≤ p ∧ EInv xs ys (giveE s q (cellR s.L0 (-q) s.T0).1 (cellR s.L1 (-q) s.T1).1 (cellR s.L2 (-q) s.T2).1 (cellR s.L3 (-q) s.T3).1 f) p' ((((xs.length : Int) + 1 - s.i).toNat + ((ys.length : Int) + 1 - s.j).toNat) * 101 + p') := by
  obtain ⟨e0, b0⟩ := cellR_ok h0
  obtain ⟨e1, b1⟩ := cellR_ok h1
  obtain ⟨e2, b2⟩ := cellR_ok h2
  obtain ⟨e3, b3⟩ := cellR_ok h3
  have hx : s.L0 * -q + s.T0 = s.T0.fmod s.L0 := by
    have := Int.mul_fdiv_add_fmod s.T0 s.L0
    rw [hq]; have : s.L0 * -s.T0.fdiv s.L0 = -(s.L0 * s.T0.fdiv s.L0) := by rw [Int.mul_neg]
    omega
  obtain ⟨a, b, ha, hb, hab⟩ := h.pot hc
  have ha1 : 1 ≤ a := by
    rcases Nat.eq_zero_or_pos a with z | z
    · subst z; simp at ha; omega
    · exact z
  have hn := h.nn; have hml := h.ml; have hgl := h.gl; have hpb := h.pb
  refine ⟨p - 1, by omega, ?_⟩
  unfold giveE
  rw [e0, e1, e2, e3]
  refine ⟨h.d0, h.d1, h.d2, h.d3, b0, b1, b2, b3, h.i0, h.i1, h.j0, h.j1, fun ht => ?_, fun ht => ?_, fun hz => ?_, by omega, rfl, ?_, ?_, ?_⟩
  · obtain ⟨⟨x1, x2⟩, x3, x4⟩ := h.ex ht
    exact ⟨⟨x3, x4⟩, by show s.L0 * -q + s.T0 = s.L2 * -q + s.T2; rw [x1, x3], by show s.L1 * -q + s.T1 = s.L3 * -q + s.T3; rw [x2, x4]⟩
  · obtain ⟨⟨x1, x2⟩, x3, x4⟩ := h.ey ht
    exact ⟨⟨x3, x4⟩, by show s.L0 * -q + s.T0 = s.L1 * -q + s.T1; rw [x1, x3], by show s.L2 * -q + s.T2 = s.L3 * -q + s.T3; rw [x2, x4]⟩
  · show ∃ a b : Nat, (s.L0 * -q + s.T0).natAbs < 2 ^ a ∧ (s.L0.fmod (s.L0 * -q + s.T0)).natAbs < 2 ^ b ∧ a + b ≤ p - 1
    rw [hx]
    refine ⟨b, a - 1, hb, ?_, by omega⟩
    have hz2 : s.T0.fmod s.L0 ≠ 0 := by rw [← hx]; exact hz
    have := fmod_half hc hz2
    have e : 2 ^ a = 2 * 2 ^ (a - 1) := by rw [← Nat.pow_succ']; congr 1; omega
    omega
  · simp only [List.length_append, List.length_cons, List.length_nil]; omega
  · simp only [List.length_append, List.length_cons, List.length_nil]; omega
  · intro z hz
    rcases List.mem_append.1 hz with hz | hz
    · exact h.gb z hz
    · rw [List.mem_singleton.1 hz, hq]
      have := Int.natAbs_fdiv_le_natAbs s.T0 s.L0
      have := h.c0; unfold Ce at this; unfold Sm; omega
/-- A term of x, then one of y. -/
theorem EInv.takeX {xs ys : List Int} {s : ESt} {p n : Nat} (h : EInv xs ys s p n) (hi : s.i ≤ (xs.length : Int)) (m : S52) (a0 a1 a2 a3 b0 b1 b2 b3 : Int) (lf f : Bool) (hc : (Ce a0 ∧ Ce a1 ∧ Ce a2 ∧ Ce a3) ∧ Ce b0 ∧ Ce b1 ∧ Ce b2 ∧ Ce b3)
    (hx : s.i = (xs.length : Int) → (a0 = a2 ∧ a1 = a3) ∧ b0 = b2 ∧ b1 = b3) (hy : s.j = (ys.length : Int) + 1 → (a0 = a1 ∧ a2 = a3) ∧ b0 = b1 ∧ b2 = b3) :
    EInv xs ys ⟨a0, a1, a2, a3, b0, b1, b2, b3, s.i + 1, s.j, lf, s.ms ++ [m], s.gs, f⟩ 100 ((((xs.length : Int) + 1 - (s.i + 1)).toNat + ((ys.length : Int) + 1 - s.j).toNat) * 101 + 100) ∧ (((xs.length : Int) + 1 - (s.i + 1)).toNat + ((ys.length : Int) + 1 - s.j).toNat) * 101 + 100 < n := by
  have hn := h.nn; have hml := h.ml; have hgl := h.gl; have h0 := h.i0
  obtain ⟨⟨c0, c1, c2, c3⟩, d0, d1, d2, d3⟩ := hc
  refine ⟨⟨c0, c1, c2, c3, d0, d1, d2, d3, by show 0 ≤ s.i + 1; omega, by show s.i + 1 ≤ _; omega, h.j0, h.j1, fun ht => hx (by have : s.i + 1 = (xs.length : Int) + 1 := ht; omega), fun ht => hy ht, pot100 d0, by omega, rfl, ?_, ?_, h.gb⟩, by omega⟩
  · simp only [List.length_append, List.length_cons, List.length_nil]; omega
  · simp only [List.length_append, List.length_cons, List.length_nil]; omega
theorem EInv.takeY {xs ys : List Int} {s : ESt} {p n : Nat} (h : EInv xs ys s p n) (hj : s.j ≤ (ys.length : Int)) (m : S52) (a0 a1 a2 a3 b0 b1 b2 b3 : Int) (lf f : Bool) (hc : (Ce a0 ∧ Ce a1 ∧ Ce a2 ∧ Ce a3) ∧ Ce b0 ∧ Ce b1 ∧ Ce b2 ∧ Ce b3)
    (hx : s.i = (xs.length : Int) + 1 → (a0 = a2 ∧ a1 = a3) ∧ b0 = b2 ∧ b1 = b3) (hy : s.j = (ys.length : Int) → (a0 = a1 ∧ a2 = a3) ∧ b0 = b1 ∧ b2 = b3) :
    EInv xs ys ⟨a0, a1, a2, a3, b0, b1, b2, b3, s.i, s.j + 1, lf, s.ms ++ [m], s.gs, f⟩ 100 ((((xs.length : Int) + 1 - s.i).toNat + ((ys.length : Int) + 1 - (s.j + 1)).toNat) * 101 + 100) ∧ (((xs.length : Int) + 1 - s.i).toNat + ((ys.length : Int) + 1 - (s.j + 1)).toNat) * 101 + 100 < n := by
  have hn := h.nn; have hml := h.ml; have hgl := h.gl; have h0 := h.j0
  obtain ⟨⟨c0, c1, c2, c3⟩, d0, d1, d2, d3⟩ := hc
  refine ⟨⟨c0, c1, c2, c3, d0, d1, d2, d3, h.i0, h.i1, by show 0 ≤ s.j + 1; omega, by show s.j + 1 ≤ _; omega, fun ht => hx ht, fun ht => hy (by have : s.j + 1 = (ys.length : Int) + 1 := ht; omega), pot100 d0, by omega, rfl, ?_, ?_, h.gb⟩, by omega⟩
  · simp only [List.length_append, List.length_cons, List.length_nil]; omega
  · simp only [List.length_append, List.length_cons, List.length_nil]; omega
/-! ### single steps of both machines with eight numbers -/
section
variable {xs ys : List Int} {s : ESt} {p n : Nat}
def GiveOk (s : ESt) (q : Int) : Bool := (((cellR s.L0 (-q) s.T0).2 && (cellR s.L1 (-q) s.T1).2) && (cellR s.L2 (-q) s.T2).2) && (cellR s.L3 (-q) s.T3).2
def giveT (s : ESt) (q : Int) (f : Bool) : ESt := giveE s q (cellR s.L0 (-q) s.T0).1 (cellR s.L1 (-q) s.T1).1 (cellR s.L2 (-q) s.T2).1 (cellR s.L3 (-q) s.T3).1 f
def LeftOk (s : ESt) (a : Int) : Bool := (((cellR s.T0 a s.T2).2 && (cellR s.T1 a s.T3).2) && (cellR s.L0 a s.L2).2) && (cellR s.L1 a s.L3).2
def leftT (s : ESt) (a : Int) (lf f : Bool) : ESt := ⟨(cellR s.T0 a s.T2).1, (cellR s.T1 a s.T3).1, s.T0, s.T1, (cellR s.L0 a s.L2).1, (cellR s.L1 a s.L3).1, s.L0, s.L1, s.i + 1, s.j, lf, s.ms ++ [⟨2, a⟩], s.gs, f⟩
def leftI (s : ESt) (lf : Bool) : ESt := ⟨s.T0, s.T1, s.T0, s.T1, s.L0, s.L1, s.L0, s.L1, s.i + 1, s.j, lf, s.ms ++ [⟨2, 0⟩], s.gs, s.ov⟩
def RightOk (s : ESt) (a : Int) : Bool := (((cellR s.T0 a s.T1).2 && (cellR s.T2 a s.T3).2) && (cellR s.L0 a s.L1).2) && (cellR s.L2 a s.L3).2
def rightT (s : ESt) (a : Int) (lf f : Bool) : ESt := ⟨(cellR s.T0 a s.T1).1, s.T0, (cellR s.T2 a s.T3).1, s.T2, (cellR s.L0 a s.L1).1, s.L0, (cellR s.L2 a s.L3).1, s.L2, s.i, s.j + 1, lf, s.ms ++ [⟨3, a⟩], s.gs, f⟩
def rightI (s : ESt) (lf : Bool) : ESt := ⟨s.T0, s.T0, s.T2, s.T2, s.L0, s.L0, s.L2, s.L2, s.i, s.j + 1, lf, s.ms ++ [⟨3, 0⟩], s.gs, s.ov⟩
theorem E_end (h : ((xs.length : Int) < s.i ∧ (ys.length : Int) < s.j) ∧ s.L0 = 0) : Ev (fun k => stepE k xs ys s) (false, s) := Ev.congr (fun k => by unfold stepE; exact if_pos h) (Ev.now _)
theorem E_give (hI : EInv xs ys s p n) (hne : ¬ (((xs.length : Int) < s.i ∧ (ys.length : Int) < s.j) ∧ s.L0 = 0)) {q : Int} (ha : alikeG (cornT s) (cornL s) = (q, true)) (hi : 0 < s.i) (hj : 0 < s.j) (hq : Sm (-q)) :
    Ev (fun k => stepE k xs ys s) (true, giveT s q (s.ov && GiveOk s q)) := by
  have hw : wrap64 (-q) = -q := wrap64_id (by unfold Sm at hq; omega) (by unfold Sm at hq; omega)
  refine Ev.congr (fun k => by unfold stepE; exact if_neg hne) ?_
  refine Ev.bind hI.alikeS ?_
  rw [ha]
  refine Ev.congr (fun k => if_pos ⟨rfl, hi, hj⟩) ?_
  simp only
  rw [hw, cellS_is hq hI.d0.sm hI.c0, Option.bind_some]
  simp only
  rw [cellS_is hq hI.d1.sm hI.c1, Option.bind_some]
  simp only
  rw [cellS_is hq hI.d2.sm hI.c2, Option.bind_some]
  simp only
  rw [cellS_is hq hI.d3.sm hI.c3, Option.bind_some, cellR_comm (-q) s.L0, cellR_comm (-q) s.L1, cellR_comm (-q) s.L2, cellR_comm (-q) s.L3]
  exact ⟨0, fun _ _ => by simp only [giveT, giveE, GiveOk, Bool.and_assoc]⟩
theorem E_left (hI : EInv xs ys s p n) (hx : XsOk xs) {z : Int × Bool} (ha : alikeG (cornT s) (cornL s) = z) (hno : ¬ (z.2 = true ∧ 0 < s.i ∧ 0 < s.j)) (ht : s.lf = true ∨ (ys.length : Int) < s.j) (hi : s.i < (xs.length : Int)) :
    Ev (fun k => stepE k xs ys s) (true, leftT s (rd xs s.i) (!s.lf) (s.ov && LeftOk s (rd xs s.i))) := by
  have hr : Sm (rd xs s.i) := by have := hx.el s.i; unfold Sm; omega
  refine Ev.congr (fun k => by unfold stepE; exact if_neg (by omega)) ?_
  refine Ev.bind hI.alikeS ?_
  rw [ha]
  refine Ev.congr (fun k => if_neg hno) (Ev.congr (fun k => if_neg (by omega)) (Ev.congr (fun k => if_pos ⟨ht, by omega⟩) (Ev.congr (fun k => if_pos hi) ?_)))
  rw [cellS_is hI.c0.sm hr hI.c2, Option.bind_some]
  simp only
  rw [cellS_is hI.c1.sm hr hI.c3, Option.bind_some]
  simp only
  rw [cellS_is hI.d0.sm hr hI.d2, Option.bind_some]
  simp only
  rw [cellS_is hI.d1.sm hr hI.d3, Option.bind_some]
  exact ⟨0, fun _ _ => by simp only [leftT, LeftOk, Bool.and_assoc]⟩
theorem E_leftI (hI : EInv xs ys s p n) {z : Int × Bool} (ha : alikeG (cornT s) (cornL s) = z) (hno : ¬ (z.2 = true ∧ 0 < s.i ∧ 0 < s.j)) (ht : s.lf = true ∨ (ys.length : Int) < s.j) (hi : s.i = (xs.length : Int)) :
    Ev (fun k => stepE k xs ys s) (true, leftI s (!s.lf)) := by
  refine Ev.congr (fun k => by unfold stepE; exact if_neg (by omega)) ?_
  refine Ev.bind hI.alikeS ?_
  rw [ha]
  exact Ev.congr (fun k => if_neg hno) (Ev.congr (fun k => if_neg (by omega)) (Ev.congr (fun k => if_pos ⟨ht, by omega⟩) (Ev.congr (fun k => if_neg (by omega)) (Ev.now _))))
theorem E_right (hI : EInv xs ys s p n) (hy : XsOk ys) {z : Int × Bool} (ha : alikeG (cornT s) (cornL s) = z) (hno : ¬ (z.2 = true ∧ 0 < s.i ∧ 0 < s.j)) (ht : ¬ ((s.lf = true ∨ (ys.length : Int) < s.j) ∧ ¬ (xs.length : Int) < s.i)) (hj : s.j < (ys.length : Int)) :
    Ev (fun k => stepE k xs ys s) (true, rightT s (rd ys s.j) (!s.lf) (s.ov && RightOk s (rd ys s.j))) := by
  have hr : Sm (rd ys s.j) := by have := hy.el s.j; unfold Sm; omega
  refine Ev.congr (fun k => by unfold stepE; exact if_neg (by omega)) ?_
  refine Ev.bind hI.alikeS ?_
  rw [ha]
  refine Ev.congr (fun k => if_neg hno) (Ev.congr (fun k => if_neg (by omega)) (Ev.congr (fun k => if_neg ht) (Ev.congr (fun k => if_pos hj) ?_)))
  rw [cellS_is hI.c0.sm hr hI.c1, Option.bind_some]
  simp only
  rw [cellS_is hI.c2.sm hr hI.c3, Option.bind_some]
  simp only
  rw [cellS_is hI.d0.sm hr hI.d1, Option.bind_some]
  simp only
  rw [cellS_is hI.d2.sm hr hI.d3, Option.bind_some]
  exact ⟨0, fun _ _ => by simp only [rightT, RightOk, Bool.and_assoc]⟩
theorem E_rightI (hI : EInv xs ys s p n) {z : Int × Bool} (ha : alikeG (cornT s) (cornL s) = z) (hno : ¬ (z.2 = true ∧ 0 < s.i ∧ 0 < s.j)) (ht : ¬ ((s.lf = true ∨ (ys.length : Int) < s.j) ∧ ¬ (xs.length : Int) < s.i)) (hj : s.j = (ys.length : Int)) :
    Ev (fun k => stepE k xs ys s) (true, rightI s (!s.lf)) := by
  refine Ev.congr (fun k => by unfold stepE; exact if_neg (by omega)) ?_
  refine Ev.bind hI.alikeS ?_
  rw [ha]
  exact Ev.congr (fun k => if_neg hno) (Ev.congr (fun k => if_neg (by omega)) (Ev.congr (fun k => if_neg ht) (Ev.congr (fun k => if_neg (by omega)) (Ev.now _))))
end
section
variable {xs ys : List Int} {s : ESt} {p n : Nat}
theorem X_give (hI : EInv xs ys s p n) {q : Int} (ha : alikeG (cornT s) (cornL s) = (q, true)) (hi : 0 < s.i) (hj : 0 < s.j) (hq : Sm (-q)) :
    Ev (fun k => stepX k xs ys s) (true, giveT s q ((s.ov || decide (40 < (s.gs.length : Int) + 1)) || !GiveOk s q)) := by
  have hw : wrap64 (-q) = -q := wrap64_id (by unfold Sm at hq; omega) (by unfold Sm at hq; omega)
  refine Ev.congr (fun k => by unfold stepX; rfl) ?_
  refine Ev.bind hI.givesI ?_
  rw [ha]
  refine Ev.congr (fun k => if_pos ⟨rfl, hi, hj⟩) ?_
  simp only
  rw [hw, cellI_is hI.d0.sm hq hI.c0, Option.bind_some]
  simp only
  rw [cellI_is hI.d1.sm hq hI.c1, Option.bind_some]
  simp only
  rw [cellI_is hI.d2.sm hq hI.c2, Option.bind_some]
  simp only
  rw [cellI_is hI.d3.sm hq hI.c3, Option.bind_some]
  exact ⟨0, fun _ _ => by simp only [giveT, giveE, GiveOk, Bool.not_and, Bool.or_assoc]⟩
theorem row2 {ov : Bool} {zs : List Int} {tk t0 t1 t2 t3 : Int} (hz : XsOk zs) (ht : tk < (zs.length : Int)) (h0 : Ce t0) (h1 : Ce t1) (h2 : Ce t2) (h3 : Ce t3) : rowF ov 2 zs tk t0 t1 t2 t3 = some (((cellR t0 (rd zs tk) t2).1, (cellR t1 (rd zs tk) t3).1, t0, t1), (ov || !(cellR t0 (rd zs tk) t2).2) || !(cellR t1 (rd zs tk) t3).2) := by
  have hr : Sm (rd zs tk) := by have := hz.el tk; unfold Sm; omega
  unfold rowF
  rw [if_neg (by omega), if_pos rfl, cellI_is h0.sm hr h2, Option.bind_some]
  simp only
  rw [cellI_is h1.sm hr h3, Option.bind_some]
theorem row3 {ov : Bool} {zs : List Int} {tk t0 t1 t2 t3 : Int} (hz : XsOk zs) (ht : tk < (zs.length : Int)) (h0 : Ce t0) (h1 : Ce t1) (h2 : Ce t2) (h3 : Ce t3) : rowF ov 3 zs tk t0 t1 t2 t3 = some (((cellR t0 (rd zs tk) t1).1, t0, (cellR t2 (rd zs tk) t3).1, t2), (ov || !(cellR t0 (rd zs tk) t1).2) || !(cellR t2 (rd zs tk) t3).2) := by
  have hr : Sm (rd zs tk) := by have := hz.el tk; unfold Sm; omega
  unfold rowF
  rw [if_neg (by omega), if_neg (by decide), cellI_is h0.sm hr h1, Option.bind_some]
  simp only
  rw [cellI_is h2.sm hr h3, Option.bind_some]
/-- The next source is x. -/
def TurnX (xs ys : List Int) (s : ESt) : Prop := (s.lf = true ∧ s.i ≤ (xs.length : Int)) ∨ (s.lf = false ∧ ¬ s.j ≤ (ys.length : Int) ∧ s.i ≤ (xs.length : Int))
theorem X_left (hI : EInv xs ys s p n) (hx : XsOk xs) {z : Int × Bool} (ha : alikeG (cornT s) (cornL s) = z) (hno : ¬ (z.2 = true ∧ 0 < s.i ∧ 0 < s.j)) (ht : TurnX xs ys s) (hi : s.i < (xs.length : Int)) :
    Ev (fun k => stepX k xs ys s) (true, leftT s (rd xs s.i) false (s.ov || !LeftOk s (rd xs s.i))) := by
  refine Ev.congr (fun k => by unfold stepX; rfl) ?_
  refine Ev.bind hI.givesI ?_
  rw [ha]
  refine Ev.congr (fun k => if_neg hno) (Ev.congr (fun k => if_pos ht) ?_)
  rw [row2 hx hi hI.c0 hI.c1 hI.c2 hI.c3, Option.bind_some]
  simp only
  rw [row2 hx hi hI.d0 hI.d1 hI.d2 hI.d3, Option.bind_some, if_pos hi]
  exact ⟨0, fun _ _ => by simp only [leftT, LeftOk, Bool.not_and, Bool.or_assoc]⟩
theorem X_leftI (hI : EInv xs ys s p n) {z : Int × Bool} (ha : alikeG (cornT s) (cornL s) = z) (hno : ¬ (z.2 = true ∧ 0 < s.i ∧ 0 < s.j)) (ht : TurnX xs ys s) (hi : s.i = (xs.length : Int)) :
    Ev (fun k => stepX k xs ys s) (true, leftI s false) := by
  refine Ev.congr (fun k => by unfold stepX; rfl) ?_
  refine Ev.bind hI.givesI ?_
  rw [ha]
  refine Ev.congr (fun k => if_neg hno) (Ev.congr (fun k => if_pos ht) ?_)
  unfold rowF
  rw [if_pos hi, if_pos rfl, Option.bind_some]
  simp only
  rw [if_pos hi, if_pos trivial, Option.bind_some, if_neg (by omega)]
  exact Ev.now _
theorem X_right (hI : EInv xs ys s p n) (hy : XsOk ys) {z : Int × Bool} (ha : alikeG (cornT s) (cornL s) = z) (hno : ¬ (z.2 = true ∧ 0 < s.i ∧ 0 < s.j)) (ht : ¬ TurnX xs ys s) (hj : s.j < (ys.length : Int)) :
    Ev (fun k => stepX k xs ys s) (true, rightT s (rd ys s.j) true (s.ov || !RightOk s (rd ys s.j))) := by
  refine Ev.congr (fun k => by unfold stepX; rfl) ?_
  refine Ev.bind hI.givesI ?_
  rw [ha]
  refine Ev.congr (fun k => if_neg hno) (Ev.congr (fun k => if_neg ht) (Ev.congr (fun k => if_pos (by omega)) ?_))
  rw [row3 hy hj hI.c0 hI.c1 hI.c2 hI.c3, Option.bind_some]
  simp only
  rw [row3 hy hj hI.d0 hI.d1 hI.d2 hI.d3, Option.bind_some, if_pos hj]
  exact ⟨0, fun _ _ => by simp only [rightT, RightOk, Bool.not_and, Bool.or_assoc]⟩
theorem X_rightI (hI : EInv xs ys s p n) {z : Int × Bool} (ha : alikeG (cornT s) (cornL s) = z) (hno : ¬ (z.2 = true ∧ 0 < s.i ∧ 0 < s.j)) (ht : ¬ TurnX xs ys s) (hj : s.j = (ys.length : Int)) :
    Ev (fun k => stepX k xs ys s) (true, rightI s true) := by
  refine Ev.congr (fun k => by unfold stepX; rfl) ?_
  refine Ev.bind hI.givesI ?_
  rw [ha]
  refine Ev.congr (fun k => if_neg hno) (Ev.congr (fun k => if_neg ht) (Ev.congr (fun k => if_pos (by omega)) ?_))
  unfold rowF
  rw [if_pos hj, if_neg (by decide), Option.bind_some]
  simp only
  rw [if_pos hj, if_neg (by decide), Option.bind_some, if_neg (by omega)]
  exact Ev.now _
theorem X_end (hI : EInv xs ys s p n) (hi : s.i = (xs.length : Int) + 1) (hj : s.j = (ys.length : Int) + 1) (hc : s.L0 = 0) : Ev (fun k => stepX k xs ys s) (false, s) := by
  have ha : alikeG (cornT s) (cornL s) = (0, false) := alikeG_no (fun h => (h 0 (by show 0 < 4; omega)).1 (by show (corn s.L0 s.L1 s.L2 s.L3).getD 0 0 = 0; rw [(corn_sm hI.d0 hI.d1 hI.d2 hI.d3).1]; exact hc))
  refine Ev.congr (fun k => by unfold stepX; rfl) ?_
  refine Ev.bind hI.givesI ?_
  rw [ha]
  exact Ev.congr (fun k => if_neg (by simp)) (Ev.congr (fun k => if_neg (by omega)) (Ev.congr (fun k => if_neg (by omega)) (Ev.now _)))
end
/-! ### both machines with eight numbers to their ends -/
section
variable {xs ys : List Int} {s : ESt} {p n : Nat}
def Grd (xs ys : List Int) (s : ESt) : Prop := ((s.ms.length < 1000000 ∧ s.gs.length < 1000000) ∧ 0 ≤ s.i ∧ s.i < 1000000 ∧ 0 ≤ s.j ∧ s.j < 1000000) ∧ xs.length < 1000000 ∧ ys.length < 1000000
theorem EInv.grd (h : EInv xs ys s p n) (hx : XsOk xs) (hy : XsOk ys) : Grd xs ys s := by
  have := h.ml; have := h.gl; have := h.i0; have := h.i1; have := h.j0; have := h.j1; have := hx.len; have := hy.len
  unfold Grd; omega
theorem runE_bad (h : s.ov = false) : Ev2 (fun k m => runE k xs ys m s) s := ⟨1, fun k m _ hm => by
  obtain ⟨m, rfl⟩ : ∃ j, m = j + 1 := ⟨m - 1, by omega⟩
  show runE k xs ys (m + 1) s = some s
  rw [runE, if_neg (by rw [h]; decide)]⟩
theorem runE_next (h : s.ov = true) (hg : Grd xs ys s) {s' sf : ESt} (hs : Ev (fun k => stepE k xs ys s) (true, s')) (hr : Ev2 (fun k m => runE k xs ys m s') sf) : Ev2 (fun k m => runE k xs ys m s) sf := by
  unfold Grd at hg
  obtain ⟨K, hK⟩ := hs
  obtain ⟨N, hN⟩ := hr
  refine ⟨K + N + 1, fun k m hk hm => ?_⟩
  obtain ⟨m, rfl⟩ : ∃ j, m = j + 1 := ⟨m - 1, by omega⟩
  have e1 : stepE k xs ys s = some (true, s') := hK k (by omega)
  have e2 : runE k xs ys m s' = some sf := hN k m (by omega) (by omega)
  show runE k xs ys (m + 1) s = some sf
  rw [runE, if_pos h, if_pos hg, e1, Option.bind_some]
  exact (if_pos rfl).trans e2
theorem runE_stop (h : s.ov = true) (hg : Grd xs ys s) {s' : ESt} (hs : Ev (fun k => stepE k xs ys s) (false, s')) : Ev2 (fun k m => runE k xs ys m s) s' := by
  unfold Grd at hg
  obtain ⟨K, hK⟩ := hs
  refine ⟨K + 1, fun k m hk hm => ?_⟩
  obtain ⟨m, rfl⟩ : ∃ j, m = j + 1 := ⟨m - 1, by omega⟩
  have e1 : stepE k xs ys s = some (false, s') := hK k (by omega)
  show runE k xs ys (m + 1) s = some s'
  rw [runE, if_pos h, if_pos hg, e1, Option.bind_some]
  exact if_neg (by simp)
theorem runX_over (h : s.ov = true) : Ev2 (fun k m => runX k xs ys m s) s := ⟨1, fun k m _ hm => by
  obtain ⟨m, rfl⟩ : ∃ j, m = j + 1 := ⟨m - 1, by omega⟩
  show runX k xs ys (m + 1) s = some s
  rw [runX, if_pos h]⟩
theorem runX_next (h : s.ov = false) (hg : Grd xs ys s) {s' sf : ESt} (hs : Ev (fun k => stepX k xs ys s) (true, s')) (hr : Ev2 (fun k m => runX k xs ys m s') sf) : Ev2 (fun k m => runX k xs ys m s) sf := by
  unfold Grd at hg
  obtain ⟨K, hK⟩ := hs
  obtain ⟨N, hN⟩ := hr
  refine ⟨K + N + 1, fun k m hk hm => ?_⟩
  obtain ⟨m, rfl⟩ : ∃ j, m = j + 1 := ⟨m - 1, by omega⟩
  have e1 : stepX k xs ys s = some (true, s') := hK k (by omega)
  have e2 : runX k xs ys m s' = some sf := hN k m (by omega) (by omega)
  show runX k xs ys (m + 1) s = some sf
  rw [runX, if_neg (by rw [h]; decide), if_pos hg, e1, Option.bind_some]
  exact (if_pos rfl).trans e2
theorem runX_stop (h : s.ov = false) (hg : Grd xs ys s) {s' : ESt} (hs : Ev (fun k => stepX k xs ys s) (false, s')) : Ev2 (fun k m => runX k xs ys m s) s' := by
  unfold Grd at hg
  obtain ⟨K, hK⟩ := hs
  refine ⟨K + 1, fun k m hk hm => ?_⟩
  obtain ⟨m, rfl⟩ : ∃ j, m = j + 1 := ⟨m - 1, by omega⟩
  have e1 : stepX k xs ys s = some (false, s') := hK k (by omega)
  show runX k xs ys (m + 1) s = some s'
  rw [runX, if_neg (by rw [h]; decide), if_pos hg, e1, Option.bind_some]
  exact if_neg (by simp)
/-- The same numbers on the program's side: another turn, nothing over. -/
def fl8 (s : ESt) (lf ov : Bool) : ESt := ⟨s.T0, s.T1, s.T2, s.T3, s.L0, s.L1, s.L2, s.L3, s.i, s.j, lf, s.ms, s.gs, ov⟩
theorem EInv.fl8 (h : EInv xs ys s p n) (lf ov : Bool) : EInv xs ys (fl8 s lf ov) p n := ⟨h.c0, h.c1, h.c2, h.c3, h.d0, h.d1, h.d2, h.d3, h.i0, h.i1, h.j0, h.j1, h.ex, h.ey, h.pot, h.pb, h.nn, h.ml, h.gl, h.gb⟩
def LfOk (xs ys : List Int) (s : ESt) (lf : Bool) : Prop := lf = s.lf ∨ (xs.length : Int) < s.i ∨ (ys.length : Int) < s.j
theorem turn_same {lf : Bool} (h : LfOk xs ys s lf) : TurnX xs ys (fl8 s lf false) ↔ ((s.lf = true ∨ (ys.length : Int) < s.j) ∧ ¬ (xs.length : Int) < s.i) := by
  unfold TurnX fl8 LfOk at *
  simp only
  cases hl : s.lf <;> cases lf <;> simp [hl] at * <;> omega
theorem EInv.first (h : EInv xs ys s p n) {q : Int} (ha : alikeG (cornT s) (cornL s) = (q, true)) : s.L0 ≠ 0 ∧ q = s.T0.fdiv s.L0 ∧ Sm (-q) := by
  have e1 : (cornT s).getD 0 0 = s.T0 := by rw [cornT, (corn_sm h.c0 h.c1 h.c2 h.c3).1]; rfl
  have e2 : (cornL s).getD 0 0 = s.L0 := by rw [cornL, (corn_sm h.d0 h.d1 h.d2 h.d3).1]; rfl
  by_cases g : AlikeG (cornT s) (cornL s)
  · have h0 := g 0 (by show 0 < 4; omega)
    rw [alikeG_yes g, e1, e2] at ha
    rw [e2] at h0
    have hq : q = s.T0.fdiv s.L0 := (congrArg Prod.fst ha).symm
    exact ⟨h0.1, hq, (q_small h.c0 hq).1⟩
  · rw [alikeG_no g] at ha; cases ha
theorem leftOk_ce {a : Int} (h : LeftOk s a = true) (hI : EInv xs ys s p n) : (Ce (cellR s.T0 a s.T2).1 ∧ Ce (cellR s.T1 a s.T3).1 ∧ Ce s.T0 ∧ Ce s.T1) ∧ Ce (cellR s.L0 a s.L2).1 ∧ Ce (cellR s.L1 a s.L3).1 ∧ Ce s.L0 ∧ Ce s.L1 := by
  unfold LeftOk at h
  simp only [Bool.and_eq_true] at h
  obtain ⟨⟨⟨h0, h1⟩, h2⟩, h3⟩ := h
  obtain ⟨e0, b0⟩ := cellR_ok h0
  obtain ⟨e1, b1⟩ := cellR_ok h1
  obtain ⟨e2, b2⟩ := cellR_ok h2
  obtain ⟨e3, b3⟩ := cellR_ok h3
  exact ⟨⟨e0 ▸ b0, e1 ▸ b1, hI.c0, hI.c1⟩, e2 ▸ b2, e3 ▸ b3, hI.d0, hI.d1⟩
theorem rightOk_ce {a : Int} (h : RightOk s a = true) (hI : EInv xs ys s p n) : (Ce (cellR s.T0 a s.T1).1 ∧ Ce s.T0 ∧ Ce (cellR s.T2 a s.T3).1 ∧ Ce s.T2) ∧ Ce (cellR s.L0 a s.L1).1 ∧ Ce s.L0 ∧ Ce (cellR s.L2 a s.L3).1 ∧ Ce s.L2 := by
  unfold RightOk at h
  simp only [Bool.and_eq_true] at h
  obtain ⟨⟨⟨h0, h1⟩, h2⟩, h3⟩ := h
  obtain ⟨e0, b0⟩ := cellR_ok h0
  obtain ⟨e1, b1⟩ := cellR_ok h1
  obtain ⟨e2, b2⟩ := cellR_ok h2
  obtain ⟨e3, b3⟩ := cellR_ok h3
  exact ⟨⟨e0 ▸ b0, hI.c0, e1 ▸ b1, hI.c2⟩, e2 ▸ b2, hI.d0, e3 ▸ b3, hI.d2⟩
theorem EInv.leftT (hI : EInv xs ys s p n) (hi : s.i < (xs.length : Int)) {a : Int} (ho : LeftOk s a = true) (lf f : Bool) : ∃ n', n' < n ∧ EInv xs ys (leftT s a lf f) 100 n' := by
  obtain ⟨h1, h2⟩ := hI.takeX (by omega) ⟨2, a⟩ _ _ _ _ _ _ _ _ lf f (leftOk_ce ho hI) (fun h => by omega) (fun h => by
    obtain ⟨⟨x1, x2⟩, x3, x4⟩ := hI.ey h
    exact ⟨⟨by rw [x1, x2], x1⟩, by rw [x3, x4], x3⟩)
  exact ⟨_, h2, h1⟩
theorem EInv.leftI (hI : EInv xs ys s p n) (hi : s.i = (xs.length : Int)) (lf : Bool) : ∃ n', n' < n ∧ EInv xs ys (leftI s lf) 100 n' := by
  obtain ⟨h1, h2⟩ := hI.takeX (by omega) ⟨2, 0⟩ _ _ _ _ _ _ _ _ lf s.ov ⟨⟨hI.c0, hI.c1, hI.c0, hI.c1⟩, hI.d0, hI.d1, hI.d0, hI.d1⟩ (fun h => ⟨⟨rfl, rfl⟩, rfl, rfl⟩) (fun h => by
    obtain ⟨⟨x1, x2⟩, x3, x4⟩ := hI.ey h
    exact ⟨⟨x1, x1⟩, x3, x3⟩)
  exact ⟨_, h2, h1⟩
theorem EInv.rightT (hI : EInv xs ys s p n) (hj : s.j < (ys.length : Int)) {a : Int} (ho : RightOk s a = true) (lf f : Bool) : ∃ n', n' < n ∧ EInv xs ys (rightT s a lf f) 100 n' := by
  obtain ⟨h1, h2⟩ := hI.takeY (by omega) ⟨3, a⟩ _ _ _ _ _ _ _ _ lf f (rightOk_ce ho hI) (fun h => by
    obtain ⟨⟨x1, x2⟩, x3, x4⟩ := hI.ex h
    exact ⟨⟨by rw [x1, x2], x1⟩, by rw [x3, x4], x3⟩) (fun h => by omega)
  exact ⟨_, h2, h1⟩
theorem EInv.rightI (hI : EInv xs ys s p n) (hj : s.j = (ys.length : Int)) (lf : Bool) : ∃ n', n' < n ∧ EInv xs ys (rightI s lf) 100 n' := by
  obtain ⟨h1, h2⟩ := hI.takeY (by omega) ⟨3, 0⟩ _ _ _ _ _ _ _ _ lf s.ov ⟨⟨hI.c0, hI.c0, hI.c2, hI.c2⟩, hI.d0, hI.d0, hI.d2, hI.d2⟩ (fun h => by
    obtain ⟨⟨x1, x2⟩, x3, x4⟩ := hI.ex h
    exact ⟨⟨x1, x1⟩, x3, x3⟩) (fun h => ⟨⟨rfl, rfl⟩, rfl, rfl⟩)
  exact ⟨_, h2, h1⟩
theorem EInv.giveT (hI : EInv xs ys s p n) {q : Int} (hc : s.L0 ≠ 0) (hq : q = s.T0.fdiv s.L0) (ho : GiveOk s q = true) (f : Bool) : ∃ p' n', n' < n ∧ EInv xs ys (giveT s q f) p' n' := by
  unfold GiveOk at ho
  simp only [Bool.and_eq_true] at ho
  obtain ⟨⟨⟨h0, h1⟩, h2⟩, h3⟩ := ho
  obtain ⟨p', hp, h⟩ := hI.give hc q hq h0 h1 h2 h3 f
  have := hI.nn
  exact ⟨p', _, by omega, h⟩
end
/-- How both machines with eight numbers end. -/
def Ends8 (sS sX : ESt) : Prop :=
  (sS.ov = true ∧ sX.ov = false ∧ sX.ms = sS.ms ∧ sX.gs = sS.gs ∧ sS.gs.length ≤ 40 ∧ sS.ms.length ≤ 20000 ∧ ∀ z ∈ sS.gs, Sm z) ∨ (sX.ov = true ∧ (sS.ov = false ∨ (41 ≤ sS.gs.length ∧ ∀ z ∈ sS.gs, Sm z)))
theorem specE_ends {xs ys : List Int} (hx : XsOk xs) (hy : XsOk ys) (n : Nat) : ∀ (s : ESt) (p : Nat), EInv xs ys s p n → s.ov = true → ∃ sf, Ev2 (fun k m => runE k xs ys m s) sf ∧ (sf.ov = false ∨ (s.gs.length ≤ sf.gs.length ∧ ∀ z ∈ sf.gs, Sm z)) := by
  induction n using Nat.strongRecOn with
  | ind n ih =>
  intro s p hI ho
  have hg := hI.grd hx hy
  by_cases h : ((xs.length : Int) < s.i ∧ (ys.length : Int) < s.j) ∧ s.L0 = 0
  · exact ⟨s, runE_stop ho hg (E_end h), Or.inr ⟨Nat.le_refl _, hI.gb⟩⟩
  obtain ⟨q, al, ha⟩ : ∃ q al, alikeG (cornT s) (cornL s) = (q, al) := ⟨_, _, rfl⟩
  by_cases hgv : al = true ∧ 0 < s.i ∧ 0 < s.j
  · obtain ⟨rfl, ti, tj⟩ := hgv
    obtain ⟨hc, hq, hm⟩ := hI.first ha
    have hs := E_give hI h ha ti tj hm
    rw [ho, Bool.true_and] at hs
    cases h1 : GiveOk s q with
    | false => rw [h1] at hs; exact ⟨_, runE_next ho hg hs (runE_bad rfl), Or.inl rfl⟩
    | true =>
      rw [h1] at hs
      obtain ⟨p', n', hn, hJ⟩ := hI.giveT hc hq h1 true
      obtain ⟨sf, r1, r2⟩ := ih n' hn _ p' hJ rfl
      refine ⟨sf, runE_next ho hg hs r1, r2.imp id (fun r => ⟨?_, r.2⟩)⟩
      have := r.1
      simp only [giveT, giveE, List.length_append, List.length_cons, List.length_nil] at this
      omega
  have i1 := hI.i1; have j1 := hI.j1
  by_cases hb : (xs.length : Int) < s.i ∧ (ys.length : Int) < s.j
  · exfalso
    have hl := hI.last (by omega) (by omega) (fun hz => h ⟨hb, hz⟩)
    rw [ha] at hl
    have i0 := hI.i0
    exact hgv ⟨congrArg Prod.snd hl, by omega, by omega⟩
  by_cases ht : (s.lf = true ∨ (ys.length : Int) < s.j) ∧ ¬ (xs.length : Int) < s.i
  · by_cases hi : s.i < (xs.length : Int)
    · have hs := E_left hI hx ha hgv ht.1 hi
      rw [ho, Bool.true_and] at hs
      cases h1 : LeftOk s (rd xs s.i) with
      | false => rw [h1] at hs; exact ⟨_, runE_next ho hg hs (runE_bad rfl), Or.inl rfl⟩
      | true =>
        rw [h1] at hs
        obtain ⟨n', hn, hJ⟩ := hI.leftT hi h1 (!s.lf) true
        obtain ⟨sf, r1, r2⟩ := ih n' hn _ _ hJ rfl
        exact ⟨sf, runE_next ho hg hs r1, r2⟩
    · have hs := E_leftI hI ha hgv ht.1 (by omega)
      obtain ⟨n', hn, hJ⟩ := hI.leftI (by omega) (!s.lf)
      obtain ⟨sf, r1, r2⟩ := ih n' hn _ _ hJ ho
      exact ⟨sf, runE_next ho hg hs r1, r2⟩
  · have hj0 : ¬ (ys.length : Int) < s.j := fun hz => ht ⟨Or.inr hz, fun hz2 => hb ⟨hz2, hz⟩⟩
    by_cases hj : s.j < (ys.length : Int)
    · have hs := E_right hI hy ha hgv ht hj
      rw [ho, Bool.true_and] at hs
      cases h1 : RightOk s (rd ys s.j) with
      | false => rw [h1] at hs; exact ⟨_, runE_next ho hg hs (runE_bad rfl), Or.inl rfl⟩
      | true =>
        rw [h1] at hs
        obtain ⟨n', hn, hJ⟩ := hI.rightT hj h1 (!s.lf) true
        obtain ⟨sf, r1, r2⟩ := ih n' hn _ _ hJ rfl
        exact ⟨sf, runE_next ho hg hs r1, r2⟩
    · have hs := E_rightI hI ha hgv ht (by omega)
      obtain ⟨n', hn, hJ⟩ := hI.rightI (by omega) (!s.lf)
      obtain ⟨sf, r1, r2⟩ := ih n' hn _ _ hJ ho
      exact ⟨sf, runE_next ho hg hs r1, r2⟩
theorem both_end8 {xs ys : List Int} (hx : XsOk xs) (hy : XsOk ys) (n : Nat) : ∀ (s : ESt) (p : Nat) (lf : Bool), EInv xs ys s p n → s.ov = true → s.gs.length ≤ 40 → LfOk xs ys s lf → ∃ sS sX, Ev2 (fun k m => runE k xs ys m s) sS ∧ Ev2 (fun k m => runX k xs ys m (fl8 s lf false)) sX ∧ Ends8 sS sX := by
  induction n using Nat.strongRecOn with
  | ind n ih =>
  intro s p lf hI ho hG hL
  have hg := hI.grd hx hy
  have hK := hI.fl8 lf false
  have hgX : Grd xs ys (fl8 s lf false) := hg
  have i1 := hI.i1; have j1 := hI.j1
  by_cases h : ((xs.length : Int) < s.i ∧ (ys.length : Int) < s.j) ∧ s.L0 = 0
  · refine ⟨s, fl8 s lf false, runE_stop ho hg (E_end h), runX_stop rfl hgX (X_end hK (show s.i = _ by omega) (show s.j = _ by omega) h.2), Or.inl ⟨ho, rfl, rfl, rfl, hG, ?_, hI.gb⟩⟩
    have := hI.ml; omega
  obtain ⟨q, al, ha⟩ : ∃ q al, alikeG (cornT s) (cornL s) = (q, al) := ⟨_, _, rfl⟩
  have haX : alikeG (cornT (fl8 s lf false)) (cornL (fl8 s lf false)) = (q, al) := ha
  by_cases hgv : al = true ∧ 0 < s.i ∧ 0 < s.j
  · obtain ⟨rfl, ti, tj⟩ := hgv
    obtain ⟨hc, hq, hm⟩ := hI.first ha
    have hs := E_give hI h ha ti tj hm
    have hi : Ev (fun k => stepX k xs ys (fl8 s lf false)) (true, giveT (fl8 s lf false) q ((false || decide (40 < (s.gs.length : Int) + 1)) || !GiveOk s q)) := X_give hK haX ti tj hm
    rw [ho, Bool.true_and] at hs
    rw [Bool.false_or] at hi
    cases h1 : GiveOk s q with
    | false =>
      rw [h1] at hs hi
      simp only [Bool.not_false, Bool.or_true] at hi
      exact ⟨_, _, runE_next ho hg hs (runE_bad rfl), runX_next rfl hgX hi (runX_over rfl), Or.inr ⟨rfl, Or.inl rfl⟩⟩
    | true =>
      rw [h1] at hs hi
      obtain ⟨p', n', hn, hJ⟩ := hI.giveT hc hq h1 true
      have hlen : (giveT s q true).gs.length = s.gs.length + 1 := by simp [giveT, giveE]
      by_cases h40 : s.gs.length + 1 ≤ 40
      · rw [decide_eq_false (by omega)] at hi
        simp only [Bool.not_true, Bool.or_false] at hi
        obtain ⟨sS, sX, r1, r2, r3⟩ := ih n' hn _ p' lf hJ rfl (by omega) hL
        exact ⟨sS, sX, runE_next ho hg hs r1, runX_next rfl hgX hi r2, r3⟩
      · rw [decide_eq_true (by omega)] at hi
        simp only [Bool.not_true, Bool.or_false] at hi
        obtain ⟨sf, r1, r2⟩ := specE_ends hx hy n' _ p' hJ rfl
        exact ⟨sf, _, runE_next ho hg hs r1, runX_next rfl hgX hi (runX_over rfl), Or.inr ⟨rfl, r2.imp id (fun r => ⟨by have := r.1; omega, r.2⟩)⟩⟩
  by_cases hb : (xs.length : Int) < s.i ∧ (ys.length : Int) < s.j
  · exfalso
    have hl := hI.last (by omega) (by omega) (fun hz => h ⟨hb, hz⟩)
    rw [ha] at hl
    have i0 := hI.i0
    exact hgv ⟨congrArg Prod.snd hl, by omega, by omega⟩
  by_cases ht : (s.lf = true ∨ (ys.length : Int) < s.j) ∧ ¬ (xs.length : Int) < s.i
  · have hX := (turn_same hL).2 ht
    have hL2 : ∀ i', LfOk xs ys ⟨s.T0, s.T1, s.T2, s.T3, s.L0, s.L1, s.L2, s.L3, i', s.j, !s.lf, s.ms, s.gs, true⟩ false := fun i' => by
      rcases ht.1 with hl | hl
      · exact Or.inl (by simp [hl])
      · exact Or.inr (Or.inr hl)
    by_cases hi : s.i < (xs.length : Int)
    · have hs := E_left hI hx ha hgv ht.1 hi
      have hi2 : Ev (fun k => stepX k xs ys (fl8 s lf false)) (true, leftT (fl8 s lf false) (rd xs s.i) false (false || !LeftOk s (rd xs s.i))) := X_left hK hx haX hgv hX hi
      rw [ho, Bool.true_and] at hs
      rw [Bool.false_or] at hi2
      cases h1 : LeftOk s (rd xs s.i) with
      | false =>
        rw [h1] at hs hi2
        exact ⟨_, _, runE_next ho hg hs (runE_bad rfl), runX_next rfl hgX hi2 (runX_over rfl), Or.inr ⟨rfl, Or.inl rfl⟩⟩
      | true =>
        rw [h1] at hs hi2
        obtain ⟨n', hn, hJ⟩ := hI.leftT hi h1 (!s.lf) true
        obtain ⟨sS, sX, r1, r2, r3⟩ := ih n' hn _ _ false hJ rfl hG (hL2 (s.i + 1))
        exact ⟨sS, sX, runE_next ho hg hs r1, runX_next rfl hgX hi2 r2, r3⟩
    · have hs := E_leftI hI ha hgv ht.1 (by omega)
      have hi2 : Ev (fun k => stepX k xs ys (fl8 s lf false)) (true, leftI (fl8 s lf false) false) := X_leftI hK haX hgv hX (show s.i = _ by omega)
      obtain ⟨n', hn, hJ⟩ := hI.leftI (by omega) (!s.lf)
      obtain ⟨sS, sX, r1, r2, r3⟩ := ih n' hn _ _ false hJ ho hG (hL2 (s.i + 1))
      exact ⟨sS, sX, runE_next ho hg hs r1, runX_next rfl hgX hi2 r2, r3⟩
  · have hX : ¬ TurnX xs ys (fl8 s lf false) := fun hz => ht ((turn_same hL).1 hz)
    have hj0 : ¬ (ys.length : Int) < s.j := fun hz => ht ⟨Or.inr hz, fun hz2 => hb ⟨hz2, hz⟩⟩
    have hL2 : ∀ j', LfOk xs ys ⟨s.T0, s.T1, s.T2, s.T3, s.L0, s.L1, s.L2, s.L3, s.i, j', !s.lf, s.ms, s.gs, true⟩ true := fun j' => by
      by_cases hl : (xs.length : Int) < s.i
      · exact Or.inr (Or.inl hl)
      · refine Or.inl ?_
        cases hf : s.lf with
        | false => simp [hf]
        | true => exact absurd ⟨Or.inl hf, hl⟩ ht
    by_cases hj : s.j < (ys.length : Int)
    · have hs := E_right hI hy ha hgv ht hj
      have hi2 : Ev (fun k => stepX k xs ys (fl8 s lf false)) (true, rightT (fl8 s lf false) (rd ys s.j) true (false || !RightOk s (rd ys s.j))) := X_right hK hy haX hgv hX hj
      rw [ho, Bool.true_and] at hs
      rw [Bool.false_or] at hi2
      cases h1 : RightOk s (rd ys s.j) with
      | false =>
        rw [h1] at hs hi2
        exact ⟨_, _, runE_next ho hg hs (runE_bad rfl), runX_next rfl hgX hi2 (runX_over rfl), Or.inr ⟨rfl, Or.inl rfl⟩⟩
      | true =>
        rw [h1] at hs hi2
        obtain ⟨n', hn, hJ⟩ := hI.rightT hj h1 (!s.lf) true
        obtain ⟨sS, sX, r1, r2, r3⟩ := ih n' hn _ _ true hJ rfl hG (hL2 (s.j + 1))
        exact ⟨sS, sX, runE_next ho hg hs r1, runX_next rfl hgX hi2 r2, r3⟩
    · have hs := E_rightI hI ha hgv ht (by omega)
      have hi2 : Ev (fun k => stepX k xs ys (fl8 s lf false)) (true, rightI (fl8 s lf false) true) := X_rightI hK haX hgv hX (show s.j = _ by omega)
      obtain ⟨n', hn, hJ⟩ := hI.rightI (by omega) (!s.lf)
      obtain ⟨sS, sX, r1, r2, r3⟩ := ih n' hn _ _ true hJ ho hG (hL2 (s.j + 1))
      exact ⟨sS, sX, runE_next ho hg hs r1, runX_next rfl hgX hi2 r2, r3⟩
/-! ### the machines with eight numbers: what both sides return -/
theorem ends_code8 {sS sX : ESt} (h : Ends8 sS sX) : ∃ c, Ev (fun k => spec_l04Work_end.f k sS.ms sS.gs sS.ov) c ∧ Ev (fun k => impl_mover_code.f k sX.ms sX.gs sX.ov) c ∧ (c = 0 → sX.ms = sS.ms ∧ sX.gs = sS.gs ∧ sS.gs.length ≤ 40 ∧ sS.ms.length ≤ 20000) :=
  ends_code (sS := ⟨0, 0, 0, 0, 0, sS.ms, sS.gs, sS.ov⟩) (sI := ⟨0, 0, 0, 0, 0, sX.ms, sX.gs, sX.ov⟩) h
def st8 (T0 T1 T2 T3 L0 L1 L2 L3 : Int) (o : Bool) : ESt := ⟨T0, T1, T2, T3, L0, L1, L2, L3, 0, 0, true, [], [], o⟩
theorem eight_inv {T0 T1 T2 T3 L0 L1 L2 L3 : Int} {xs ys : List Int} (hx : XsOk xs) (hy : XsOk ys) (hT : inP T0 = true ∧ inP T1 = true ∧ inP T2 = true ∧ inP T3 = true) (hL : inP L0 = true ∧ inP L1 = true ∧ inP L2 = true ∧ inP L3 = true) :
    EInv xs ys (st8 T0 T1 T2 T3 L0 L1 L2 L3 true) 100 ((((xs.length : Int) + 1 - 0).toNat + ((ys.length : Int) + 1 - 0).toNat) * 101 + 100) := by
  have h1 := hx.len
  have h2 := hy.len
  refine ⟨in_ce hT.1, in_ce hT.2.1, in_ce hT.2.2.1, in_ce hT.2.2.2, in_ce hL.1, in_ce hL.2.1, in_ce hL.2.2.1, in_ce hL.2.2.2, Int.le_refl _, by show (0 : Int) ≤ _; omega, Int.le_refl _, by show (0 : Int) ≤ _; omega, fun h => ?_, fun h => ?_, pot100 (in_ce hL.1), by omega, rfl, ?_, Nat.le_refl _, fun z hz => by cases hz⟩
  · have : (0 : Int) = (xs.length : Int) + 1 := h
    omega
  · have : (0 : Int) = (ys.length : Int) + 1 := h
    omega
  · show 0 + _ ≤ 20000; omega
def in8 (T0 T1 T2 T3 L0 L1 L2 L3 : Int) : Prop := (inP T0 = true ∧ inP T1 = true ∧ inP T2 = true ∧ inP T3 = true) ∧ inP L0 = true ∧ inP L1 = true ∧ inP L2 = true ∧ inP L3 = true
theorem given8_loop (T0 T1 T2 T3 L0 L1 L2 L3 : Int) : Ev (fun k => spec_l04EightGiven.l0 k 0 T0 T1 T2 T3 L0 L1 L2 L3) (if inP T0 = true ∧ inP L0 = true ∧ inP T1 = true ∧ inP L1 = true ∧ inP T2 = true ∧ inP L2 = true ∧ inP T3 = true ∧ inP L3 = true then 0 else 2) := by
  refine ⟨5, fun k hk => ?_⟩
  obtain ⟨k, rfl⟩ : ∃ m, k = m + 5 := ⟨k - 5, by omega⟩
  have w1 : wrap64 (0 + 1) = 1 := by rw [wrap64_id] <;> omega
  have w2 : wrap64 (1 + 1) = 2 := by rw [wrap64_id] <;> omega
  have w3 : wrap64 (2 + 1) = 3 := by rw [wrap64_id] <;> omega
  have w4 : wrap64 (3 + 1) = 4 := by rw [wrap64_id] <;> omega
  have r0 : ∀ a b c d : Int, rd [a, b, c, d] 0 = a := fun _ _ _ _ => rfl
  have r1 : ∀ a b c d : Int, rd [a, b, c, d] 1 = b := fun _ _ _ _ => rfl
  have r2 : ∀ a b c d : Int, rd [a, b, c, d] 2 = c := fun _ _ _ _ => rfl
  have r3 : ∀ a b c d : Int, rd [a, b, c, d] 3 = d := fun _ _ _ _ => rfl
  have hin : ∀ a : Int, spec_l00In.f a (-1000000000) 1000000000 = some (inP a) := fun a => l00In_some _ _ _
  simp only [spec_l04EightGiven.l0, hin, r0, r1, r2, r3, w1, w2, w3, w4, Option.bind_some]
  cases inP T0 <;> cases inP L0 <;> cases inP T1 <;> cases inP L1 <;> cases inP T2 <;> cases inP L2 <;> cases inP T3 <;> cases inP L3 <;> simp
/-- Both machines with eight numbers from their starts: one answer. -/
theorem eight_all (T0 T1 T2 T3 L0 L1 L2 L3 : Int) {xs ys : List Int} (hw : ∀ j, j < xs.length → -9223372036854775808 ≤ xs.getD j 0 ∧ xs.getD j 0 ≤ 9223372036854775807) (hv : ∀ j, j < ys.length → -9223372036854775808 ≤ ys.getD j 0 ∧ ys.getD j 0 ≤ 9223372036854775807) :
    (∃ c st, c ≠ 0 ∧ Ev (fun k => spec_l04EightGiven.f k T0 T1 T2 T3 L0 L1 L2 L3 xs ys) c ∧ Ev (fun k => eightX k T0 T1 T2 T3 L0 L1 L2 L3 xs ys) (st, c)) ∨
    (∃ sS sI c, Ev (fun k => spec_l04EightGiven.f k T0 T1 T2 T3 L0 L1 L2 L3 xs ys) 0 ∧ Ev (fun k => runE k xs ys k (st8 T0 T1 T2 T3 L0 L1 L2 L3 true)) sS ∧ Ev (fun k => spec_l04Work_end.f k sS.ms sS.gs sS.ov) c ∧ Ev (fun k => eightX k T0 T1 T2 T3 L0 L1 L2 L3 xs ys) (sI, c) ∧ (c = 0 → sI.ms = sS.ms ∧ sI.gs = sS.gs ∧ sS.gs.length ≤ 40 ∧ sS.ms.length ≤ 20000)) := by
  have e1 := specTerms_ev xs hw
  have e2 := implTerms_ev xs
  have f1 := specTerms_ev ys hv
  have f2 := implTerms_ev ys
  cases t : termsOk xs with
  | false =>
    rw [t] at e1 e2
    left
    refine ⟨1, _, by decide, Ev.congr (fun k => by unfold spec_l04EightGiven.f; rfl) (Ev.bind e1 (Ev.congr (fun k => if_neg Bool.false_ne_true) ?_)), Ev.congr (fun k => by unfold eightX; rfl) (Ev.bind e2 (Ev.congr (fun k => if_neg Bool.false_ne_true) (Ev.now _)))⟩
    exact Ev.step (fun k => by rw [spec_l04EightGiven.j0]) (Ev.congr (fun k => if_pos rfl) (Ev.now _))
  | true =>
    rw [t] at e1 e2
    cases u : termsOk ys with
    | false =>
      rw [u] at f1 f2
      left
      refine ⟨1, _, by decide, Ev.congr (fun k => by unfold spec_l04EightGiven.f; rfl) (Ev.bind e1 (Ev.congr (fun k => if_pos rfl) (Ev.bind f1 ?_))), Ev.congr (fun k => by unfold eightX; rfl) (Ev.bind e2 (Ev.congr (fun k => if_pos rfl) (Ev.bind f2 (Ev.congr (fun k => if_neg Bool.false_ne_true) (Ev.now _)))))⟩
      exact Ev.step (fun k => by rw [spec_l04EightGiven.j0]) (Ev.congr (fun k => if_pos (by decide)) (Ev.now _))
    | true =>
      rw [u] at f1 f2
      have hg : Ev (fun k => spec_l04EightGiven.f k T0 T1 T2 T3 L0 L1 L2 L3 xs ys) (if inP T0 = true ∧ inP L0 = true ∧ inP T1 = true ∧ inP L1 = true ∧ inP T2 = true ∧ inP L2 = true ∧ inP T3 = true ∧ inP L3 = true then 0 else 2) := by
        refine Ev.congr (fun k => by unfold spec_l04EightGiven.f; rfl) (Ev.bind e1 (Ev.congr (fun k => if_pos rfl) (Ev.bind f1 ?_)))
        exact Ev.step (fun k => by rw [spec_l04EightGiven.j0]) (Ev.congr (fun k => if_neg (by decide)) (given8_loop T0 T1 T2 T3 L0 L1 L2 L3))
      by_cases c : (inP T0 = true ∧ inP T1 = true ∧ inP T2 = true ∧ inP T3 = true) ∧ inP L0 = true ∧ inP L1 = true ∧ inP L2 = true ∧ inP L3 = true
      · right
        rw [if_pos ⟨c.1.1, c.2.1, c.1.2.1, c.2.2.1, c.1.2.2.1, c.2.2.2.1, c.1.2.2.2, c.2.2.2.2⟩] at hg
        have hx := xs_ok t
        have hy := xs_ok u
        obtain ⟨sS, sI, r1, r2, r3⟩ := both_end8 hx hy _ _ _ true (eight_inv hx hy c.1 c.2) rfl (by show 0 ≤ 40; omega) (Or.inl rfl)
        obtain ⟨cd, c1, c2, c3⟩ := ends_code8 r3
        refine ⟨sS, sI, cd, hg, r1.ev, c1, ?_, c3⟩
        refine Ev.congr (fun k => by unfold eightX; rfl) (Ev.bind e2 (Ev.congr (fun k => if_pos rfl) (Ev.bind f2 (Ev.congr (fun k => (if_pos rfl).trans (if_pos c)) ?_))))
        refine Ev.bind r2.ev ?_
        refine Ev.bind c2 ?_
        exact Ev.now _
      · left
        rw [if_neg (fun z => c ⟨⟨z.1, z.2.2.1, z.2.2.2.2.1, z.2.2.2.2.2.2.1⟩, z.2.1, z.2.2.2.1, z.2.2.2.2.2.1, z.2.2.2.2.2.2.2⟩)] at hg
        exact ⟨2, _, by decide, hg, Ev.congr (fun k => by unfold eightX; rfl) (Ev.bind e2 (Ev.congr (fun k => if_pos rfl) (Ev.bind f2 (Ev.congr (fun k => (if_pos rfl).trans (if_neg c)) (Ev.now _)))))⟩
theorem toA4_ev (a b c d : Int) : Ev (fun k => laws_toInt64A4.f k a b c d) (a, b, c, d) := by
  refine ⟨5, fun k hk => ?_⟩
  obtain ⟨k, rfl⟩ : ∃ m, k = m + 5 := ⟨k - 5, by omega⟩
  have w1 : wrap64 (0 + 1) = 1 := by rw [wrap64_id] <;> omega
  have w2 : wrap64 (1 + 1) = 2 := by rw [wrap64_id] <;> omega
  have w3 : wrap64 (2 + 1) = 3 := by rw [wrap64_id] <;> omega
  have w4 : wrap64 (3 + 1) = 4 := by rw [wrap64_id] <;> omega
  show laws_toInt64A4.f (k + 5) a b c d = _
  unfold laws_toInt64A4.f
  simp only [laws_toInt64A4.l0, w1, w2, w3, w4]
  rfl
theorem toEight_ev (a b c d e f g h : Int) : Ev (fun k => laws_toEight.f k a b c d e f g h) (a, b, c, d, e, f, g, h) :=
  Ev.congr (fun k => by unfold laws_toEight.f; rfl) (Ev.bind (toA4_ev a b c d) (by
    refine Ev.bind (toA4_ev e f g h) ?_
    exact Ev.now _))
theorem eightMoves_ev (T0 T1 T2 T3 L0 L1 L2 L3 : Int) {xs ys : List Int} (hw : ∀ j, j < xs.length → -9223372036854775808 ≤ xs.getD j 0 ∧ xs.getD j 0 ≤ 9223372036854775807) (hv : ∀ j, j < ys.length → -9223372036854775808 ≤ ys.getD j 0 ∧ ys.getD j 0 ≤ 9223372036854775807) : ∃ (gs : List S52) (c : Int), gs.length ≤ 20000 ∧ Ev (fun k => spec_EightMoves.f k T0 T1 T2 T3 L0 L1 L2 L3 xs ys) (gs, c) ∧ Ev (fun k => impl_EightMoves.f k T0 T1 T2 T3 L0 L1 L2 L3 xs ys) (gs, c) := by
  rcases eight_all T0 T1 T2 T3 L0 L1 L2 L3 hw hv with ⟨c, st, hc, h1, h2⟩ | ⟨sS, sI, c, h1, h2, h3, h4, h5⟩
  · exact ⟨[], c, by simp, Ev.congr (fun k => by unfold spec_EightMoves.f; rfl) (Ev.bind h1 (Ev.congr (fun k => if_neg hc) (Ev.now _))), Ev.congr (fun k => by unfold impl_EightMoves.f; rfl) (Ev.bind h2 (Ev.congr (fun k => if_neg hc) (Ev.now _)))⟩
  · by_cases z : c = 0
    · subst z
      obtain ⟨e1, e2, e3, e4⟩ := h5 rfl
      refine ⟨sS.ms, 0, by omega, ?_, ?_⟩
      · refine Ev.congr (fun k => by unfold spec_EightMoves.f; rfl) (Ev.bind h1 (Ev.congr (fun k => if_pos rfl) ?_))
        refine Ev.bind h2 ?_
        refine Ev.bind h3 ?_
        exact Ev.now _
      rw [← e1]
      exact Ev.congr (fun k => by unfold impl_EightMoves.f; rfl) (Ev.bind h4 (Ev.congr (fun k => if_pos rfl) (Ev.now _)))
    · refine ⟨[], c, by simp, ?_, Ev.congr (fun k => by unfold impl_EightMoves.f; rfl) (Ev.bind h4 (Ev.congr (fun k => if_neg z) (Ev.now _)))⟩
      refine Ev.congr (fun k => by unfold spec_EightMoves.f; rfl) (Ev.bind h1 (Ev.congr (fun k => if_pos rfl) (Ev.bind h2 (Ev.bind h3 ?_))))
      simp only [if_neg z]
      exact Ev.now _
theorem FnExactEightMoves : laws_FnExactEightMoves.Pure := by
  intro x xs ys hx hxs hys
  apply Ev.rounds (r := true)
  by_cases hb : (xs.length : Int) > 1048576
  · exact Ev.congr (fun k => by unfold laws_FnExactEightMoves.f; exact if_pos hb) (Ev.now _)
  by_cases hb2 : (ys.length : Int) > 1048576
  · exact Ev.congr (fun k => by unfold laws_FnExactEightMoves.f; exact (if_neg hb).trans (if_pos hb2)) (Ev.now _)
  obtain ⟨gs, c, hl, hs, hi⟩ := eightMoves_ev x.f0.f0 x.f0.f1 x.f0.f2 x.f0.f3 x.f1.f0 x.f1.f1 x.f1.f2 x.f1.f3 (terms_w hxs.2) (terms_w hys.2)
  have ht := toInt64S_ev xs (by omega)
  have ht2 := toInt64S_ev ys (by omega)
  have he := toEight_ev x.f0.f0 x.f0.f1 x.f0.f2 x.f0.f3 x.f1.f0 x.f1.f1 x.f1.f2 x.f1.f3
  refine Ev.congr (fun k => by unfold laws_FnExactEightMoves.f; exact (if_neg hb).trans (if_neg hb2)) ?_
  repeat' (first
    | (refine Ev.bind (he) ?_; try dsimp only)
    | (refine Ev.bind (ht) ?_; try dsimp only)
    | (refine Ev.bind (ht2) ?_; try dsimp only)
    | (refine Ev.bind (hs) ?_; try dsimp only)
    | (refine Ev.bind (hi) ?_; try dsimp only)
    | (refine Ev.bind (eqMoveS_ev _ (by omega)) ?_; try dsimp only)
    | (refine Ev.bind (markMoveS_ev _ 1 (by omega) (by omega)) ?_; try dsimp only)
    | (refine Ev.bind (heldMoveS_ev _ 1 (by omega) (by omega)) ?_; try dsimp only)
    | (refine Ev.bind (eqInt64S_ev _ (by omega)) ?_; try dsimp only)
    | (refine Ev.bind (markInt64S_ev _ 1 (by omega) (by omega)) ?_; try dsimp only)
    | (refine Ev.bind (markInt64S_ev ys _ (by omega) (by omega)) ?_; try dsimp only)
    | (refine Ev.bind (heldInt64S_ev _ 1 (by omega) (by omega)) ?_; try dsimp only)
    | exact ⟨0, fun k _ => rfl⟩
    | (refine Ev.congr (fun k => if_pos rfl) ?_; try dsimp only)
    | (refine Ev.congr (fun k => if_neg (by simp; done)) ?_; try dsimp only)
    | (refine Ev.congr (fun k => if_neg (by omega)) ?_; try dsimp only)
    | (refine Ev.congr (fun k => if_pos (by simp; done)) ?_; try dsimp only)
    | (refine Ev.congr (fun k => if_pos (by omega)) ?_; try dsimp only)
    | (refine Ev.step (fun k => by rw [laws_FnExactEightMoves.j0]) ?_; try dsimp only)
    | (refine Ev.step (fun k => by rw [laws_FnExactEightMoves.j1]) ?_; try dsimp only)
    | (refine Ev.step (fun k => by rw [laws_FnExactEightMoves.j2]) ?_; try dsimp only)
    )
end Go.Proofs.Ytgldplkbacfacaa.Pure
