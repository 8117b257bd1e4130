/- The program's PairMoves returns the moves and the code that the reference's returns, for every four numbers and list of terms, in memory of its own. -/
import Derived.Test.YtgldplkbacfacaaMFnExactPairMovesx8
import Derived.Test.YtgldplkbacfacaaMOpen
namespace Go.Proofs.Ytgldplkbacfacaa.Pure
open Go.RowKit Go.Proofs.Ytgldplkbacfacaa.MFnExactPairMoves Go.Proofs.Ytgldplkbacfacaa.MOpen Go.Proofs.YtgldplkbacfacaaW.PrintWords Go.Proofs.YtgldplkbacfacaaW.PrintLast Go.Proofs.YtgldplkbacfacaaW.PrintMore
set_option linter.unusedVariables false
set_option linter.unusedSimpArgs false
theorem wrap64_id {n : Int} (h0 : -9223372036854775808 ≤ n) (h1 : n ≤ 9223372036854775807) : wrap64 n = n := by
  unfold wrap64; omega
theorem rd_nat (xs : List Int) (i : Nat) : rd xs (i : Int) = xs.getD i 0 := by simp [rd]
theorem rd_get (xs : List Int) (i : Nat) (h : i < xs.length) : rd xs (i : Int) = xs[i] := by simp [rd, h]
theorem ev_k {α : Type} {f : Nat → Option α} {r : α} (n : Nat) (h : ∀ k, n ≤ k → f k = some r) : Ev f r := ⟨n, h⟩
theorem l00In_some (a b c : Int) : spec_l00In.f a b c = some (decide (b ≤ a ∧ a ≤ c)) := by
  unfold spec_l00In.f
  split <;> simp <;> omega
theorem within_some (a b c : Int) : impl_within.f a b c = some (decide (b ≤ a ∧ a ≤ c)) := l00In_some a b c
theorem size_is {a : Int} (h0 : -9223372036854775807 ≤ a) (h1 : a ≤ 9223372036854775807) : spec_l03Size.f a = some (a.natAbs : Int) := by
  unfold spec_l03Size.f
  split
  · rw [wrap64_id (by omega) (by omega)]; congr 1; omega
  · congr 1; omega
theorem mx_abs {a : Int} (h0 : -9223372036854775807 ≤ a) (h1 : a ≤ 9223372036854775807) : mx a (wrap64 (-a)) = (a.natAbs : Int) := by
  unfold mx; rw [wrap64_id (by omega) (by omega)]; split <;> omega
/-- What both say of terms from index i on. -/
def TermsFrom (xs : List Int) (i : Nat) : Prop :=
  (∀ j, i ≤ j → j < xs.length → -1000000000 ≤ xs.getD j 0 ∧ xs.getD j 0 ≤ 1000000000 ∧ (0 < j → 1 ≤ xs.getD j 0)) ∧ (xs.length = 1 ∨ 2 ≤ xs.getD (xs.length - 1) 0)
theorem TermsFrom.step {xs : List Int} {i : Nat} (hi : i < xs.length) : TermsFrom xs i ↔ (-1000000000 ≤ xs.getD i 0 ∧ xs.getD i 0 ≤ 1000000000 ∧ (0 < i → 1 ≤ xs.getD i 0)) ∧ TermsFrom xs (i + 1) := by
  unfold TermsFrom
  constructor
  · rintro ⟨h, e⟩; exact ⟨h i (Nat.le_refl _) hi, fun j h1 h2 => h j (by omega) h2, e⟩
  · rintro ⟨h0, h, e⟩
    refine ⟨fun j h1 h2 => ?_, e⟩
    by_cases c : j = i
    · subst c; exact h0
    · exact h j (by omega) h2
theorem TermsFrom.done {xs : List Int} : TermsFrom xs xs.length ↔ (xs.length = 1 ∨ 2 ≤ xs.getD (xs.length - 1) 0) := by
  unfold TermsFrom
  constructor
  · rintro ⟨_, e⟩; exact e
  · intro e; exact ⟨fun j h1 h2 => by omega, e⟩
open Classical in
noncomputable def termsFrom (xs : List Int) (i : Nat) : Bool := decide (TermsFrom xs i)
open Classical in
theorem termsFrom_bad {xs : List Int} {i : Nat} (hi : i < xs.length) (h : ¬ (-1000000000 ≤ xs.getD i 0 ∧ xs.getD i 0 ≤ 1000000000 ∧ (0 < i → 1 ≤ xs.getD i 0))) : termsFrom xs i = false := by
  unfold termsFrom; rw [decide_eq_false_iff_not, TermsFrom.step hi]; exact fun z => h z.1
open Classical in
theorem termsFrom_good {xs : List Int} {i : Nat} (hi : i < xs.length) (h : (-1000000000 ≤ xs.getD i 0 ∧ xs.getD i 0 ≤ 1000000000 ∧ (0 < i → 1 ≤ xs.getD i 0))) : termsFrom xs i = termsFrom xs (i + 1) := by
  unfold termsFrom; rw [decide_eq_decide, TermsFrom.step hi]; exact ⟨fun z => z.2, fun z => ⟨h, z⟩⟩
open Classical in
theorem termsFrom_one {xs : List Int} (h : xs.length = 1) : termsFrom xs xs.length = true :=
  @decide_eq_true _ _ (TermsFrom.done.2 (.inl h))
open Classical in
theorem termsFrom_end {xs : List Int} (h : xs.length ≠ 1) : termsFrom xs xs.length = decide (xs.getD (xs.length - 1) 0 ≥ 2) := by
  by_cases c : xs.getD (xs.length - 1) 0 ≥ 2
  · rw [show decide (xs.getD (xs.length - 1) 0 ≥ 2) = true from decide_eq_true c]; exact @decide_eq_true _ _ (TermsFrom.done.2 (.inr c))
  · rw [show decide (xs.getD (xs.length - 1) 0 ≥ 2) = false from decide_eq_false c]; exact @decide_eq_false _ _ (fun z => c ((TermsFrom.done.1 z).resolve_left h))
theorem size_small {a : Int} (h0 : -9223372036854775808 ≤ a) (h : a ≤ 9223372036854775807) : ∃ r, spec_l03Size.f a = some r ∧ (r > 1000000000 → ¬ (-1000000000 ≤ a ∧ a ≤ 1000000000)) ∧ (¬ r > 1000000000 → ¬ a < -1000000000 → (-1000000000 ≤ a ∧ a ≤ 1000000000)) := by
  unfold spec_l03Size.f
  split
  · exact ⟨_, rfl, fun h => by unfold wrap64 at h; omega, fun h1 h2 => by unfold wrap64 at h1; omega⟩
  · exact ⟨_, rfl, fun h => by omega, fun h1 h2 => by omega⟩
theorem specTerms_loop (xs : List Int) (hw : ∀ j, j < xs.length → -9223372036854775808 ≤ xs.getD j 0 ∧ xs.getD j 0 ≤ 9223372036854775807) (h1 : 1 ≤ xs.length) (hn : xs.length ≤ 4611686018427387904) (d : Nat) : ∀ (i k : Nat), i + d = xs.length → d < k → spec_l04Terms.l0 k xs (xs.length : Int) (i : Int) = some (termsFrom xs i) := by
  induction d with
  | zero =>
    intro i k hd hk
    obtain ⟨k, rfl⟩ : ∃ m, k = m + 1 := ⟨k - 1, by omega⟩
    obtain rfl : i = xs.length := by omega
    simp only [spec_l04Terms.l0]; rw [if_neg (by omega)]
    by_cases e : xs.length = 1
    · rw [if_pos (by omega), termsFrom_one e]
    · rw [if_neg (by omega), wrap64_id (by omega) (by omega), if_pos (by omega), if_pos (by omega), termsFrom_end e, show ((xs.length : Int) - 1) = ((xs.length - 1 : Nat) : Int) by omega, rd_nat]
  | succ d ih =>
    intro i k hd hk
    obtain ⟨k, rfl⟩ : ∃ m, k = m + 1 := ⟨k - 1, by omega⟩
    have hi : i < xs.length := by omega
    obtain ⟨r, hr, h2, h3⟩ := size_small (hw i hi).1 (hw i hi).2
    simp only [spec_l04Terms.l0, rd_nat]; rw [if_pos (by omega), if_pos (by omega), if_pos (by omega), hr]; simp only [Option.bind_some]
    by_cases c1 : r > 1000000000
    · rw [if_pos c1, termsFrom_bad hi (fun z => h2 c1 ⟨z.1, z.2.1⟩)]
    · rw [if_neg c1]
      by_cases c2 : xs.getD i 0 < -1000000000
      · rw [if_pos c2, termsFrom_bad hi (fun z => by omega)]
      · rw [if_neg c2, wrap64_id (by omega) (by omega)]
        have hg := h3 c1 c2
        by_cases c3 : (i : Int) > 0
        · rw [if_pos c3]
          by_cases c4 : xs.getD i 0 < 1
          · rw [if_pos c4, termsFrom_bad hi (fun z => by have := z.2.2 (by omega); omega)]
          · rw [if_neg c4, termsFrom_good hi ⟨hg.1, hg.2, fun _ => by omega⟩]; exact ih (i + 1) k (by omega) (by omega)
        · rw [if_neg c3, termsFrom_good hi ⟨hg.1, hg.2, fun _ => by omega⟩]; exact ih (i + 1) k (by omega) (by omega)
theorem implTerms_loop (xs : List Int) (h1 : 1 ≤ xs.length) (hn : xs.length ≤ 4611686018427387904) (d : Nat) : ∀ (i k : Nat), i + d = xs.length → d < k → impl_ValidTerms.l0 k xs xs (xs.length : Int) (i : Int) = some (termsFrom xs i) := by
  induction d with
  | zero =>
    intro i k hd hk
    obtain ⟨k, rfl⟩ : ∃ m, k = m + 1 := ⟨k - 1, by omega⟩
    obtain rfl : i = xs.length := by omega
    simp only [impl_ValidTerms.l0]; rw [if_neg (by omega)]
    by_cases e : xs.length = 1
    · rw [if_pos (by omega), termsFrom_one e]
    · rw [if_neg (by omega), wrap64_id (by omega) (by omega), if_pos (by omega), if_pos (by omega), termsFrom_end e, show ((xs.length : Int) - 1) = ((xs.length - 1 : Nat) : Int) by omega, rd_nat]
  | succ d ih =>
    intro i k hd hk
    obtain ⟨k, rfl⟩ : ∃ m, k = m + 1 := ⟨k - 1, by omega⟩
    have hi : i < xs.length := by omega
    have hwi : ∃ b, impl_within.f (xs.getD i 0) (-1000000000) 1000000000 = some b ∧ (b = true ↔ (-1000000000 ≤ xs.getD i 0 ∧ xs.getD i 0 ≤ 1000000000)) := by
      unfold impl_within.f
      split
      · exact ⟨_, rfl, by rw [decide_eq_true_iff]; omega⟩
      · exact ⟨_, rfl, fun z => by simp at z, fun z => by omega⟩
    obtain ⟨b, hb, h2⟩ := hwi
    simp only [impl_ValidTerms.l0, rd_nat]; rw [if_pos (by omega), if_pos (by omega), if_pos (by omega), hb]; simp only [Option.bind_some]
    by_cases c1 : b = true
    · have hg := h2.1 c1
      rw [if_pos c1, wrap64_id (by omega) (by omega)]
      by_cases c3 : (i : Int) > 0
      · rw [if_pos c3]
        by_cases c4 : xs.getD i 0 < 1
        · rw [if_pos c4, termsFrom_bad hi (fun z => by have := z.2.2 (by omega); omega)]
        · rw [if_neg c4, termsFrom_good hi ⟨hg.1, hg.2, fun _ => by omega⟩]; exact ih (i + 1) k (by omega) (by omega)
      · rw [if_neg c3, termsFrom_good hi ⟨hg.1, hg.2, fun _ => by omega⟩]; exact ih (i + 1) k (by omega) (by omega)
    · rw [if_neg c1, termsFrom_bad hi (fun z => c1 (h2.2 ⟨z.1, z.2.1⟩))]
/-- Whether terms are valid. -/
noncomputable def termsOk (xs : List Int) : Bool := decide (1 ≤ xs.length ∧ xs.length ≤ 40) && termsFrom xs 0
theorem specTerms_ev (xs : List Int) (hw : ∀ j, j < xs.length → -9223372036854775808 ≤ xs.getD j 0 ∧ xs.getD j 0 ≤ 9223372036854775807) : Ev (fun k => spec_l04Terms.f k xs) (termsOk xs) := by
  refine ⟨xs.length + 3, fun k hk => ?_⟩
  obtain ⟨k, rfl⟩ : ∃ m, k = m + 1 := ⟨k - 1, by omega⟩
  show spec_l04Terms.f (k + 1) xs = _
  unfold spec_l04Terms.f termsOk
  by_cases c : (xs.length : Int) < 1
  · rw [if_pos c]; simp only [spec_l04Terms.j0]; rw [if_pos trivial, decide_eq_false (by omega)]; rfl
  · rw [if_neg c]; simp only [spec_l04Terms.j0]
    by_cases c2 : (xs.length : Int) > 40
    · rw [if_pos (by simpa using c2), decide_eq_false (by omega)]; rfl
    · rw [if_neg (by simpa using c2), decide_eq_true (by omega), Bool.true_and]
      exact specTerms_loop xs hw (by omega) (by omega) xs.length 0 k (by omega) (by omega)
theorem implTerms_ev (xs : List Int) : Ev (fun k => impl_ValidTerms.f k xs) (termsOk xs) := by
  refine ⟨xs.length + 3, fun k hk => ?_⟩
  obtain ⟨k, rfl⟩ : ∃ m, k = m + 1 := ⟨k - 1, by omega⟩
  show impl_ValidTerms.f (k + 1) xs = _
  unfold impl_ValidTerms.f termsOk
  by_cases c : (xs.length : Int) < 1
  · rw [if_pos c]; simp only [impl_ValidTerms.j0]; rw [if_pos trivial, decide_eq_false (by omega)]; rfl
  · rw [if_neg c]; simp only [impl_ValidTerms.j0]
    by_cases c2 : (xs.length : Int) > 40
    · rw [if_pos (by simpa using c2), decide_eq_false (by omega)]; rfl
    · rw [if_neg (by simpa using c2), decide_eq_true (by omega), Bool.true_and]
      exact implTerms_loop xs (by omega) (by omega) xs.length 0 k (by omega) (by omega)
theorem terms_w {l : List Int} (hw : ∀ z ∈ l, -9223372036854775808 ≤ z ∧ z ≤ 9223372036854775807) : ∀ j, j < l.length → -9223372036854775808 ≤ l.getD j 0 ∧ l.getD j 0 ≤ 9223372036854775807 := by
  intro j hj
  rw [List.getD_eq_getElem?_getD, List.getElem?_eq_getElem hj]
  exact hw _ (List.getElem_mem hj)
open Classical in
theorem termsOk_is {xs : List Int} (h : termsOk xs = true) : (1 ≤ xs.length ∧ xs.length ≤ 40) ∧ (∀ j, j < xs.length → -1000000000 ≤ xs.getD j 0 ∧ xs.getD j 0 ≤ 1000000000 ∧ (0 < j → 1 ≤ xs.getD j 0)) ∧ (xs.length = 1 ∨ 2 ≤ xs.getD (xs.length - 1) 0) := by
  unfold termsOk at h
  rw [Bool.and_eq_true, decide_eq_true_iff] at h
  have h2 : TermsFrom xs 0 := by
    have := h.2
    unfold termsFrom at this
    exact of_decide_eq_true this
  exact ⟨h.1, fun j hj => h2.1 j (by omega) hj, h2.2⟩
open Classical in
theorem termsOk_of {xs : List Int} (h1 : 1 ≤ xs.length ∧ xs.length ≤ 40) (h2 : ∀ j, j < xs.length → -1000000000 ≤ xs.getD j 0 ∧ xs.getD j 0 ≤ 1000000000 ∧ (0 < j → 1 ≤ xs.getD j 0)) (h3 : xs.length = 1 ∨ 2 ≤ xs.getD (xs.length - 1) 0) : termsOk xs = true := by
  unfold termsOk
  rw [Bool.and_eq_true, decide_eq_true_iff]
  refine ⟨h1, ?_⟩
  unfold termsFrom
  exact @decide_eq_true _ _ ⟨fun j _ hj => h2 j hj, h3⟩
theorem toInt64S_loop (xs : List Int) (hn : xs.length ≤ 4611686018427387904) (d : Nat) : ∀ (i : Nat) (acc : List Int) (k : Nat), acc.length = xs.length → (∀ j, j < i → acc.getD j 0 = xs.getD j 0) → i + d = xs.length → d < k → laws_toInt64S.l0 k xs acc (i : Int) = some xs := by
  induction d with
  | zero =>
    intro i acc k hl hj hd hk
    obtain ⟨k, rfl⟩ : ∃ m, k = m + 1 := ⟨k - 1, by omega⟩
    simp only [laws_toInt64S.l0]; rw [if_neg (by omega)]
    congr 1
    apply List.ext_getElem hl
    intro j h1 h2
    have := hj j (by omega)
    simpa [List.getD_eq_getElem?_getD, List.getElem?_eq_getElem, h1, h2] using this
  | succ d ih =>
    intro i acc k hl hj hd hk
    obtain ⟨k, rfl⟩ : ∃ m, k = m + 1 := ⟨k - 1, by omega⟩
    simp only [laws_toInt64S.l0]; rw [if_pos (by omega), if_pos (by omega), if_pos (by omega), wrap64_id (by omega) (by omega)]
    refine ih (i + 1) _ k ?_ ?_ (by omega) (by omega)
    · simpa using hl
    · intro j hji
      have hjl : j < acc.length := by omega
      by_cases e : j = i
      · subst e; simp [List.getD_eq_getElem?_getD, rd_nat, hjl]
      · have e' : ¬ i = j := fun h => e h.symm
        have := hj j (by omega)
        simpa [List.getD_eq_getElem?_getD, List.getElem?_set, e'] using this
theorem toInt64S_ev (xs : List Int) (hn : xs.length ≤ 17592186044416) : Ev (fun k => laws_toInt64S.f k xs) xs := by
  refine ⟨xs.length + 1, fun k hk => ?_⟩
  show laws_toInt64S.f k xs = some xs
  unfold laws_toInt64S.f
  rw [if_pos (by omega), if_pos (by simp; omega)]
  exact toInt64S_loop xs (by omega) xs.length 0 _ k (by simp) (fun j h => by omega) (by omega) (by omega)
theorem eqInt64S_loop (xs : List Int) (hn : xs.length ≤ 4611686018427387904) (d : Nat) : ∀ (i : Nat) (k : Nat), i + d = xs.length → d < k → laws_eqInt64S.l0 k xs xs (i : Int) = some true := by
  induction d with
  | zero =>
    intro i k hd hk
    obtain ⟨k, rfl⟩ : ∃ m, k = m + 1 := ⟨k - 1, by omega⟩
    simp only [laws_eqInt64S.l0]; rw [if_neg (by omega)]
  | succ d ih =>
    intro i k hd hk
    obtain ⟨k, rfl⟩ : ∃ m, k = m + 1 := ⟨k - 1, by omega⟩
    simp only [laws_eqInt64S.l0]; rw [if_pos (by omega), if_pos (by omega), if_pos (by omega), if_pos trivial, wrap64_id (by omega) (by omega)]
    exact ih (i + 1) k (by omega) (by omega)
theorem eqInt64S_ev (xs : List Int) (hn : xs.length ≤ 4611686018427387904) : Ev (fun k => laws_eqInt64S.f k xs xs) true := by
  refine ⟨xs.length + 1, fun k hk => ?_⟩
  show laws_eqInt64S.f k xs xs = some true
  unfold laws_eqInt64S.f
  rw [if_pos rfl]
  exact eqInt64S_loop xs hn xs.length 0 k (by omega) (by omega)
theorem markInt64S_loop (d : Nat) : ∀ (i : Nat) (xs : List Int) (a : Int) (k : Nat), 0 ≤ a → a + xs.length ≤ 4611686018427387904 → i + d = xs.length → (∀ j, j < i → xs.getD j 0 = a + j) → d < k → laws_markInt64S.l0 k xs (a + i) (i : Int) = some (a + xs.length, (List.range xs.length).map (fun j : Nat => a + (j : Int))) := by
  induction d with
  | zero =>
    intro i xs a k h0 ha hd hj hk
    obtain ⟨k, rfl⟩ : ∃ m, k = m + 1 := ⟨k - 1, by omega⟩
    simp only [laws_markInt64S.l0]; rw [if_neg (by omega)]
    have e : xs = (List.range xs.length).map (fun j : Nat => a + (j : Int)) := by
      apply List.ext_getElem (by simp)
      intro j h1 h2
      have := hj j (by omega)
      simpa [List.getD_eq_getElem?_getD, List.getElem?_eq_getElem, h1, h2] using this
    rw [← e, show i = xs.length by omega]
  | succ d ih =>
    intro i xs a k h0 ha hd hj hk
    obtain ⟨k, rfl⟩ : ∃ m, k = m + 1 := ⟨k - 1, by omega⟩
    simp only [laws_markInt64S.l0]; rw [if_pos (by omega), if_pos (by omega), wrap64_id (by omega) (by omega), wrap64_id (by omega) (by omega)]
    have := ih (i + 1) (xs.set i (a + i)) a k h0 (by simpa using ha) (by simp; omega) ?_ (by omega)
    · simpa [Int.add_assoc] using this
    · intro j hji
      have hjl : j < xs.length := by omega
      by_cases e : j = i
      · subst e; simp [List.getD_eq_getElem?_getD, hjl]
      · have e' : ¬ i = j := fun h => e h.symm
        have := hj j (by omega)
        simpa [List.getD_eq_getElem?_getD, List.getElem?_set, e'] using this
theorem markInt64S_ev (xs : List Int) (a : Int) (h0 : 0 ≤ a) (ha : a + xs.length ≤ 4611686018427387904) : Ev (fun k => laws_markInt64S.f k xs a) (a + xs.length, (List.range xs.length).map (fun j : Nat => a + (j : Int))) := by
  refine ⟨xs.length + 1, fun k hk => ?_⟩
  show laws_markInt64S.f k xs a = _
  unfold laws_markInt64S.f
  have := markInt64S_loop xs.length 0 xs a k h0 ha (by omega) (fun j h => by omega) (by omega)
  simpa using this
theorem eqMove_same (p q : Int) : laws_eqMove.f p q p q = some true := by
  unfold laws_eqMove.f; rw [if_pos rfl, if_pos rfl]
/-- A list of moves that has been marked, from a number on. -/
def markedM (n : Nat) (a : Int) : List S52 := (List.range n).map (fun j : Nat => ⟨IntKind.i8.wrap (a + 2 * (j : Int)), a + 2 * (j : Int) + 1⟩)
theorem rdM_get (xs : List S52) (i : Nat) (h : i < xs.length) : rd_T52 xs (i : Int) = xs[i] := by
  simp [rd_T52, h]
theorem eqMoveS_loop (xs : List S52) (hn : xs.length ≤ 4611686018427387904) (d : Nat) : ∀ (i : Nat) (k : Nat), i + d = xs.length → d < k → laws_eqMoveS.l0 k xs xs (i : Int) = some true := by
  induction d with
  | zero =>
    intro i k hd hk
    obtain ⟨k, rfl⟩ : ∃ m, k = m + 1 := ⟨k - 1, by omega⟩
    simp only [laws_eqMoveS.l0]; rw [if_neg (by omega)]
  | succ d ih =>
    intro i k hd hk
    obtain ⟨k, rfl⟩ : ∃ m, k = m + 1 := ⟨k - 1, by omega⟩
    simp only [laws_eqMoveS.l0]; rw [if_pos (by omega), if_pos (by omega), if_pos (by omega), eqMove_same]
    simp only [Option.bind_some]
    rw [if_pos trivial, wrap64_id (by omega) (by omega)]
    exact ih (i + 1) k (by omega) (by omega)
theorem eqMoveS_ev (xs : List S52) (hn : xs.length ≤ 4611686018427387904) : Ev (fun k => laws_eqMoveS.f k xs xs) true := by
  refine ⟨xs.length + 1, fun k hk => ?_⟩
  show laws_eqMoveS.f k xs xs = some true
  unfold laws_eqMoveS.f
  rw [if_pos rfl]
  exact eqMoveS_loop xs hn xs.length 0 k (by omega) (by omega)
theorem markMoveS_loop (d : Nat) : ∀ (i : Nat) (xs : List S52) (a : Int) (k : Nat), 0 ≤ a → a + 2 * xs.length ≤ 4611686018427387904 → i + d = xs.length → (∀ j, j < i → xs[j]? = some ⟨IntKind.i8.wrap (a + 2 * (j : Int)), a + 2 * (j : Int) + 1⟩) → d < k → laws_markMoveS.l0 k xs (a + 2 * (i : Int)) (i : Int) = some (a + 2 * xs.length, markedM xs.length a) := by
  induction d with
  | zero =>
    intro i xs a k h0 ha hd hj hk
    obtain ⟨k, rfl⟩ : ∃ m, k = m + 1 := ⟨k - 1, by omega⟩
    simp only [laws_markMoveS.l0]; rw [if_neg (by omega)]
    have e : xs = markedM xs.length a := by
      apply List.ext_getElem? 
      intro j
      by_cases c : j < xs.length
      · rw [hj j (by omega)]; simp [markedM, c]
      · rw [List.getElem?_eq_none (by omega), List.getElem?_eq_none (by simp [markedM]; omega)]
    rw [← e, show i = xs.length by omega]
  | succ d ih =>
    intro i xs a k h0 ha hd hj hk
    obtain ⟨k, rfl⟩ : ∃ m, k = m + 1 := ⟨k - 1, by omega⟩
    simp only [laws_markMoveS.l0]; rw [if_pos (by omega), if_pos (by omega)]
    simp only [Option.bind_some, Int.toNat_natCast]
    have hi : i < xs.length := by omega
    have e1 : rd_T52 (xs.set i ⟨IntKind.i8.wrap (a + 2 * (i : Int)), (rd_T52 xs (i : Int)).f1⟩) (i : Int) = ⟨IntKind.i8.wrap (a + 2 * (i : Int)), (rd_T52 xs (i : Int)).f1⟩ := by
      rw [rdM_get _ i (by simpa using hi)]; simp
    rw [e1, List.set_set, wrap64_id (n := a + 2 * (i : Int) + 1) (by omega) (by omega), wrap64_id (n := a + 2 * (i : Int) + 1 + 1) (by omega) (by omega), wrap64_id (n := (i : Int) + 1) (by omega) (by omega)]
    have := ih (i + 1) (xs.set i ⟨IntKind.i8.wrap (a + 2 * (i : Int)), a + 2 * (i : Int) + 1⟩) a k h0 (by simpa using ha) (by simp; omega) ?_ (by omega)
    · rw [show a + 2 * ((i + 1 : Nat) : Int) = a + 2 * (i : Int) + 1 + 1 by omega] at this
      simpa using this
    · intro j hji
      by_cases e : j = i
      · subst e; simp [hi]
      · rw [List.getElem?_set_ne (by omega)]; exact hj j (by omega)
theorem markMoveS_ev (xs : List S52) (a : Int) (h0 : 0 ≤ a) (ha : a + 2 * xs.length ≤ 4611686018427387904) : Ev (fun k => laws_markMoveS.f k xs a) (a + 2 * xs.length, markedM xs.length a) := by
  refine ⟨xs.length + 1, fun k hk => ?_⟩
  show laws_markMoveS.f k xs a = _
  unfold laws_markMoveS.f
  have := markMoveS_loop xs.length 0 xs a k h0 ha (by omega) (fun j h => by omega) (by omega)
  simpa using this
theorem heldMoveS_loop (n : Nat) (a : Int) (h0 : 0 ≤ a) (ha : a + 2 * n ≤ 4611686018427387904) (d : Nat) : ∀ (i : Nat) (k : Nat), i + d = n → d < k → laws_heldMoveS.l0 k (markedM n a) (a + 2 * (i : Int)) (i : Int) = some (a + 2 * n) := by
  induction d with
  | zero =>
    intro i k hd hk
    obtain ⟨k, rfl⟩ : ∃ m, k = m + 1 := ⟨k - 1, by omega⟩
    simp only [laws_heldMoveS.l0]; rw [if_neg (by simp [markedM]; omega), show i = n by omega]
  | succ d ih =>
    intro i k hd hk
    obtain ⟨k, rfl⟩ : ∃ m, k = m + 1 := ⟨k - 1, by omega⟩
    have hg : rd_T52 (markedM n a) (i : Int) = ⟨IntKind.i8.wrap (a + 2 * (i : Int)), a + 2 * (i : Int) + 1⟩ := by
      rw [rdM_get _ i (by simp [markedM]; omega)]; simp [markedM]
    simp only [laws_heldMoveS.l0]; rw [if_pos (by simp [markedM]; omega), if_pos (by omega), hg, wrap64_id (n := a + 2 * (i : Int) + 1) (by omega) (by omega), if_pos rfl, if_pos rfl, wrap64_id (n := a + 2 * (i : Int) + 1 + 1) (by omega) (by omega), wrap64_id (n := (i : Int) + 1) (by omega) (by omega)]
    have := ih (i + 1) k (by omega) (by omega)
    rw [show a + 2 * ((i + 1 : Nat) : Int) = a + 2 * (i : Int) + 1 + 1 by omega] at this
    exact this
theorem heldMoveS_ev (n : Nat) (a : Int) (h0 : 0 ≤ a) (ha : a + 2 * n ≤ 4611686018427387904) : Ev (fun k => laws_heldMoveS.f k (markedM n a) a) (a + 2 * n) := by
  refine ⟨n + 1, fun k hk => ?_⟩
  show laws_heldMoveS.f k _ a = _
  unfold laws_heldMoveS.f
  have := heldMoveS_loop n a h0 ha n 0 k (by omega) (by omega)
  simpa using this
/-! ### floor, the common greatest integer of two quotients, a cell -/
theorem tdiv_small {a b : Int} (h0 : -4611686018427387904 ≤ a) (h1 : a ≤ 4611686018427387904) : -4611686018427387904 ≤ Int.tdiv a b ∧ Int.tdiv a b ≤ 4611686018427387904 := by
  have := Int.natAbs_tdiv_le_natAbs a b
  omega
theorem floorS_is {a b : Int} (hb : b ≠ 0) (h0 : -4611686018427387904 ≤ a) (h1 : a ≤ 4611686018427387904) : spec_l04Floor.f a b = some (a.fdiv b) := by
  have hs := tdiv_small (b := b) h0 h1
  have hf := Int.fdiv_eq_tdiv (a := a) (b := b)
  unfold spec_l04Floor.f
  rw [if_neg hb]
  by_cases c : Int.tmod a b = 0
  · have hd : b ∣ a := Int.dvd_of_tmod_eq_zero c
    rw [if_pos hd] at hf
    rw [if_pos c, wrap64_id (by omega) (by omega)]; congr 1; omega
  · have hd : ¬ b ∣ a := fun h => c (Int.tmod_eq_zero_of_dvd h)
    rw [if_neg hd] at hf
    rw [if_neg c]
    have ha : a ≠ 0 := fun h => hd (h ▸ Int.dvd_zero b)
    rcases Int.lt_trichotomy b 0 with hb2 | hb2 | hb2
    · have sg : b.sign = -1 := Int.sign_eq_neg_one_of_neg hb2
      rw [if_neg (show ¬ 0 ≤ b by omega), if_neg (show ¬ 0 ≤ b by omega), sg] at hf
      by_cases c2 : a < 0
      · rw [if_neg (by omega)] at hf
        rw [if_neg (by simp [c2, hb2]), wrap64_id (by omega) (by omega)]; congr 1; omega
      · rw [if_pos (by omega)] at hf
        rw [if_pos (by simp [c2, hb2]), wrap64_id (n := Int.tdiv a b) (by omega) (by omega), wrap64_id (by omega) (by omega)]; congr 1; omega
    · exact absurd hb2 hb
    · have sg : b.sign = 1 := Int.sign_eq_one_of_pos hb2
      rw [if_pos (show 0 ≤ b by omega), if_pos (show 0 ≤ b by omega), sg] at hf
      by_cases c2 : a < 0
      · rw [if_neg (by omega)] at hf
        rw [if_pos (by simp [c2]; omega), wrap64_id (n := Int.tdiv a b) (by omega) (by omega), wrap64_id (by omega) (by omega)]; congr 1; omega
      · rw [if_pos (by omega)] at hf
        rw [if_neg (by simp [c2]; omega), wrap64_id (by omega) (by omega)]; congr 1; omega
theorem floorI_is {a b : Int} (hb : b ≠ 0) (h0 : -4611686018427387904 ≤ a) (h1 : a ≤ 4611686018427387904) : impl_floor.f a b = some (a.fdiv b) := floorS_is hb h0 h1
/-- What both sides say of two quotients. -/
def alikeR (a e c g : Int) : Int × Bool := if c ≠ 0 ∧ g ≠ 0 ∧ (0 < c ↔ 0 < g) ∧ a.fdiv c = e.fdiv g then (a.fdiv c, true) else (0, false)
def Sm (a : Int) : Prop := -4611686018427387904 ≤ a ∧ a ≤ 4611686018427387904
theorem alikeS {a e c g : Int} (ha : Sm a) (he : Sm e) : Ev (fun k => spec_l04Alike.f k [a, e] [c, g]) (alikeR a e c g) := by
  have r0 : ∀ x y : Int, rd [x, y] 0 = x := fun _ _ => rfl
  have r1 : ∀ x y : Int, rd [x, y] 1 = y := fun _ _ => rfl
  refine Ev.congr (fun k => by unfold spec_l04Alike.f; rfl) ?_
  refine Ev.step (fun k => by rw [spec_l04Alike.l0]) (Ev.congr (fun k => if_pos (by simp)) (Ev.congr (fun k => if_pos (by omega)) ?_))
  rw [r0]
  by_cases c0 : c = 0
  · refine Ev.congr (fun k => if_pos c0) ?_
    unfold alikeR; rw [if_neg (fun h => h.1 c0)]; exact Ev.now _
  refine Ev.congr (fun k => if_neg c0) (Ev.congr (fun k => if_pos (by simp)) (Ev.congr (fun k => if_neg (by simp)) ?_))
  rw [show wrap64 (0 + 1) = 1 by decide +kernel]
  refine Ev.step (fun k => by rw [spec_l04Alike.l0]) (Ev.congr (fun k => if_pos (by simp)) (Ev.congr (fun k => if_pos (by omega)) ?_))
  rw [r1, r0]
  by_cases g0 : g = 0
  · refine Ev.congr (fun k => if_pos g0) ?_
    unfold alikeR; rw [if_neg (fun h => h.2.1 g0)]; exact Ev.now _
  refine Ev.congr (fun k => if_neg g0) (Ev.congr (fun k => if_pos (by simp)) ?_)
  by_cases s : (0 < c ↔ 0 < g)
  rotate_left
  · refine Ev.congr (fun k => if_pos (by simp only [bne_iff_ne, ne_eq, decide_eq_decide]; exact fun h => s ⟨fun x => h.2 x, fun x => h.1 x⟩)) ?_
    unfold alikeR; rw [if_neg (fun h => s h.2.2.1)]; exact Ev.now _
  refine Ev.congr (fun k => if_neg (by simp only [bne_iff_ne, ne_eq, decide_eq_decide, Classical.not_not]; exact ⟨fun x => s.2 x, fun x => s.1 x⟩)) ?_
  rw [show wrap64 (1 + 1) = 2 by decide +kernel]
  refine Ev.step (fun k => by rw [spec_l04Alike.l0]) (Ev.congr (fun k => if_neg (by simp)) (Ev.congr (fun k => if_pos (by simp)) (Ev.congr (fun k => if_pos (by simp)) ?_)))
  rw [r0, r0, floorS_is c0 ha.1 ha.2]
  simp only [Option.bind_some]
  refine Ev.step (fun k => by rw [spec_l04Alike.l1]) (Ev.congr (fun k => if_pos (by simp)) (Ev.congr (fun k => if_pos (by omega)) (Ev.congr (fun k => if_pos (by simp)) ?_)))
  rw [r1, r1, floorS_is g0 he.1 he.2]
  simp only [Option.bind_some]
  by_cases q : a.fdiv c = e.fdiv g
  · refine Ev.congr (fun k => if_pos q.symm) ?_
    rw [show wrap64 (1 + 1) = 2 by decide +kernel]
    refine Ev.step (fun k => by rw [spec_l04Alike.l1]) (Ev.congr (fun k => if_neg (by simp)) ?_)
    unfold alikeR; rw [if_pos ⟨c0, g0, s, q⟩]; exact Ev.now _
  · refine Ev.congr (fun k => if_neg (fun h => q h.symm)) ?_
    unfold alikeR; rw [if_neg (fun h => q h.2.2.2)]; exact Ev.now _
theorem contains_two (c g : Int) : Ev (fun k => slices_Contains_int64_int64.f k [c, g] 0) (decide (c = 0 ∨ g = 0)) := by
  have r0 : ∀ x y : Int, rd [x, y] 0 = x := fun _ _ => rfl
  have r1 : ∀ x y : Int, rd [x, y] 1 = y := fun _ _ => rfl
  have fin : ∀ r : Int, Ev (fun k => slices_Index_int64_int64.l0 k [c, g] 0 2 0) r → Ev (fun k => slices_Contains_int64_int64.f k [c, g] 0) (decide (r ≥ 0)) := fun r h =>
    Ev.congr (fun k => by unfold slices_Contains_int64_int64.f slices_Index_int64_int64.f; rfl) (Ev.bind (a := r) h (Ev.now _))
  have e0 : ∀ r : Int, Ev (fun k => if (0 : Int) = c then some (0 : Int) else slices_Index_int64_int64.l0 k [c, g] 0 2 1) r → Ev (fun k => slices_Index_int64_int64.l0 k [c, g] 0 2 0) r := fun r h => by
    refine Ev.step (fun k => by rw [slices_Index_int64_int64.l0]) (Ev.congr (fun k => if_pos (by omega)) (Ev.congr (fun k => if_pos (by omega)) (Ev.congr (fun k => if_pos (by simp)) ?_)))
    rw [r0, show wrap64 (0 + 1) = 1 by decide +kernel]; exact h
  have e1 : ∀ r : Int, Ev (fun k => if (0 : Int) = g then some (1 : Int) else slices_Index_int64_int64.l0 k [c, g] 0 2 2) r → Ev (fun k => slices_Index_int64_int64.l0 k [c, g] 0 2 1) r := fun r h => by
    refine Ev.step (fun k => by rw [slices_Index_int64_int64.l0]) (Ev.congr (fun k => if_pos (by omega)) (Ev.congr (fun k => if_pos (by omega)) (Ev.congr (fun k => if_pos (by simp)) ?_)))
    rw [r1, show wrap64 (1 + 1) = 2 by decide +kernel]; exact h
  by_cases c0 : c = 0
  · rw [show decide (c = 0 ∨ g = 0) = decide ((0 : Int) ≥ 0) by simp [c0]]
    exact fin 0 (e0 0 (Ev.congr (fun k => if_pos c0.symm) (Ev.now _)))
  · by_cases g0 : g = 0
    · rw [show decide (c = 0 ∨ g = 0) = decide ((1 : Int) ≥ 0) by simp [g0]]
      exact fin 1 (e0 1 (Ev.congr (fun k => if_neg (fun h => c0 h.symm)) (e1 1 (Ev.congr (fun k => if_pos g0.symm) (Ev.now _)))))
    · rw [show decide (c = 0 ∨ g = 0) = decide ((-1 : Int) ≥ 0) by simp [c0, g0]]
      refine fin (-1) (e0 (-1) (Ev.congr (fun k => if_neg (fun h => c0 h.symm)) (e1 (-1) (Ev.congr (fun k => if_neg (fun h => g0 h.symm)) ?_))))
      exact Ev.step (fun k => by rw [slices_Index_int64_int64.l0]) (Ev.congr (fun k => if_neg (by omega)) (Ev.now _))
theorem givesI {a e c g : Int} (ha : Sm a) (he : Sm e) : Ev (fun k => impl_gives.f k [a, e] [c, g]) (alikeR a e c g) := by
  have r0 : ∀ x y : Int, rd [x, y] 0 = x := fun _ _ => rfl
  have r1 : ∀ x y : Int, rd [x, y] 1 = y := fun _ _ => rfl
  refine Ev.congr (fun k => by unfold impl_gives.f; rfl) (Ev.bind (contains_two c g) ?_)
  by_cases z : c = 0 ∨ g = 0
  · rw [decide_eq_true z]
    refine Ev.congr (fun k => if_pos rfl) ?_
    unfold alikeR; rw [if_neg (fun h => z.elim h.1 h.2.1)]; exact Ev.now _
  rw [decide_eq_false z]
  have c0 : c ≠ 0 := fun h => z (Or.inl h)
  have g0 : g ≠ 0 := fun h => z (Or.inr h)
  refine Ev.congr (fun k => if_neg (by decide)) (Ev.congr (fun k => if_pos (by simp)) (Ev.congr (fun k => if_pos (by simp)) ?_))
  rw [r0, r0, floorI_is c0 ha.1 ha.2]
  simp only [Option.bind_some]
  rw [show (([a, e] : List Int).length : Int) = 2 from rfl]
  refine Ev.step (fun k => by rw [impl_gives.l0]) (Ev.congr (fun k => if_pos (by omega)) (Ev.congr (fun k => if_pos (by omega)) (Ev.congr (fun k => if_pos (by simp)) (Ev.congr (fun k => if_pos (by simp)) (Ev.congr (fun k => if_neg (by simp)) (Ev.congr (fun k => if_pos (by simp)) ?_))))))
  rw [r0, r0, floorI_is c0 ha.1 ha.2]
  simp only [Option.bind_some]
  refine Ev.congr (fun k => if_pos trivial) ?_
  rw [show wrap64 (0 + 1) = 1 by decide +kernel]
  refine Ev.step (fun k => by rw [impl_gives.l0]) (Ev.congr (fun k => if_pos (by omega)) (Ev.congr (fun k => if_pos (by omega)) (Ev.congr (fun k => if_pos (by simp)) (Ev.congr (fun k => if_pos (by simp)) ?_))))
  rw [r1, r0, r1]
  by_cases s : (0 < c ↔ 0 < g)
  rotate_left
  · refine Ev.congr (fun k => if_pos (by simp only [bne_iff_ne, ne_eq, decide_eq_decide]; omega)) ?_
    unfold alikeR; rw [if_neg (fun h => s h.2.2.1)]; exact Ev.now _
  refine Ev.congr (fun k => if_neg (by simp only [bne_iff_ne, ne_eq, decide_eq_decide, Classical.not_not]; omega)) (Ev.congr (fun k => if_pos (by simp)) ?_)
  rw [floorI_is g0 he.1 he.2]
  simp only [Option.bind_some]
  by_cases q : a.fdiv c = e.fdiv g
  · refine Ev.congr (fun k => if_pos q.symm) ?_
    rw [show wrap64 (1 + 1) = 2 by decide +kernel]
    refine Ev.step (fun k => by rw [impl_gives.l0]) (Ev.congr (fun k => if_neg (by omega)) ?_)
    unfold alikeR; rw [if_pos ⟨c0, g0, s, q⟩]; exact Ev.now _
  · refine Ev.congr (fun k => if_neg (fun h => q h.symm)) ?_
    unfold alikeR; rw [if_neg (fun h => q h.2.2.2)]; exact Ev.now _
theorem u64_wrap (n : Int) : IntKind.u64.wrap n = n % 18446744073709551616 := by simp [IntKind.wrap, IntKind.bits, IntKind.signed]
theorem and32 (n : Int) (h0 : 0 ≤ n) (h1 : n < 18446744073709551616) : Go.bits .and .u64 n 4294967295 = n % 4294967296 :=
  bits_mask .u64 64 (by decide) (fun n h0 h1 => by rw [u64_wrap]; exact Int.emod_eq_of_lt h0 (by simpa using h1)) 32 (by decide) n h0 (by simpa using h1)
/-- Whether a product of two words is at most a bound below 2 to the power 64. -/
theorem mul64_small {x y : Int} (hx : 0 ≤ x ∧ x ≤ 9223372036854775808) (hy : 0 ≤ y ∧ y ≤ 9223372036854775808) : ∃ h l, bits_Mul64.f x y = some (h, l) ∧ (h = 0 → l = x * y) ∧ (h ≠ 0 → 18446744073709551616 ≤ x * y) := by
  unfold bits_Mul64.f
  rw [and32 y (by omega) (by omega), and32 x (by omega) (by omega)]
  have hx1 : x = x / 4294967296 * 4294967296 + x % 4294967296 := by omega
  have hy1 : y = y / 4294967296 * 4294967296 + y % 4294967296 := by omega
  have bx : 0 ≤ x / 4294967296 ∧ x / 4294967296 ≤ 2147483648 := by omega
  have by_ : 0 ≤ y / 4294967296 ∧ y / 4294967296 ≤ 2147483648 := by omega
  have bx0 : 0 ≤ x % 4294967296 ∧ x % 4294967296 ≤ 4294967295 := by omega
  have by0 : 0 ≤ y % 4294967296 ∧ y % 4294967296 ≤ 4294967295 := by omega
  have prod : x * y = (x / 4294967296) * (y / 4294967296) * 18446744073709551616 + ((x / 4294967296) * (y % 4294967296) + (x % 4294967296) * (y / 4294967296)) * 4294967296 + (x % 4294967296) * (y % 4294967296) := by
    conv => lhs; rw [hx1, hy1]
    grind
  have mb : ∀ {a b A B : Int}, 0 ≤ a → a ≤ A → 0 ≤ b → b ≤ B → 0 ≤ a * b ∧ a * b ≤ A * B := fun h0 h1 h2 h3 => ⟨Int.mul_nonneg h0 h2, Int.mul_le_mul h1 h3 h2 (by omega)⟩
  have p1 := mb bx.1 bx.2 by_.1 by_.2
  have p2 := mb bx.1 bx.2 by0.1 by0.2
  have p3 := mb bx0.1 bx0.2 by_.1 by_.2
  have p4 := mb bx0.1 bx0.2 by0.1 by0.2
  generalize hP : x * y = P at *
  generalize (x / 4294967296) * (y / 4294967296) = a at *
  generalize (x / 4294967296) * (y % 4294967296) = b at *
  generalize (x % 4294967296) * (y / 4294967296) = c at *
  generalize (x % 4294967296) * (y % 4294967296) = d at *
  simp only [u64_wrap]
  have e1 : a % 18446744073709551616 = a := by omega
  have e2 : b % 18446744073709551616 = b := by omega
  have e3 : c % 18446744073709551616 = c := by omega
  have e4 : d % 18446744073709551616 = d := by omega
  rw [e1, e2, e3, e4]
  have e5 : (b + d / 4294967296) % 18446744073709551616 = b + d / 4294967296 := by omega
  rw [e5, and32 _ (by omega) (by omega)]
  have e6 : (a + (b + d / 4294967296) / 4294967296) % 18446744073709551616 = a + (b + d / 4294967296) / 4294967296 := by omega
  have e7 : ((b + d / 4294967296) % 4294967296 + c) % 18446744073709551616 = (b + d / 4294967296) % 4294967296 + c := by omega
  rw [e6, e7]
  refine ⟨_, _, rfl, ?_, ?_⟩ <;> omega
/-- A number of a machine: at most 10 to the power 15. -/
def Ce (a : Int) : Prop := -1000000000000000 ≤ a ∧ a ≤ 1000000000000000
def cellR (a b c : Int) : Int × Bool := if -2000000000000000 ≤ a * b ∧ a * b ≤ 2000000000000000 then (a * b + c, decide (-1000000000000000 ≤ a * b + c ∧ a * b + c ≤ 1000000000000000)) else (0, false)
theorem natAbs_prod (a b : Int) : ((a.natAbs : Int) * (b.natAbs : Int) ≤ 2000000000000000) ↔ (-2000000000000000 ≤ a * b ∧ a * b ≤ 2000000000000000) := by
  have h : (a.natAbs : Int) * (b.natAbs : Int) = ((a * b).natAbs : Int) := by rw [Int.natAbs_mul]; exact (Int.natCast_mul _ _).symm
  rw [h]; omega
theorem cellS_is {ok : Bool} {a b c : Int} (ha : Sm a) (hb : Sm b) (hc : Ce c) : specC ok a b c = some ((cellR a b c).1, ok && (cellR a b c).2) := by
  unfold specC spec_l04Cell.f cellR
  unfold Sm at ha hb; unfold Ce at hc
  by_cases b0 : b = 0
  · subst b0
    rw [if_pos rfl, if_pos (by simp)]
    simp only [Int.mul_zero, Int.zero_add]
    rw [show wrap64 0 = 0 by decide +kernel, Int.zero_add, wrap64_id (by omega) (by omega), size_is (by omega) (by omega)]
    simp only [Option.bind_some]
    congr 3
    rw [Bool.eq_iff_iff]; simp; omega
  · rw [if_neg b0, size_is (a := a) (by omega) (by omega), size_is (a := b) (by omega) (by omega)]
    simp only [Option.bind_some]
    rw [if_neg (by omega)]
    have hd : (2000000000000000 : Int) / (b.natAbs : Int) ≤ 2000000000000000 := Int.ediv_le_self _ (by omega)
    have hd0 : 0 ≤ (2000000000000000 : Int) / (b.natAbs : Int) := Int.ediv_nonneg (by omega) (by omega)
    have ht : Int.tdiv 2000000000000000 (b.natAbs : Int) = 2000000000000000 / (b.natAbs : Int) := Int.tdiv_eq_ediv_of_nonneg (by omega)
    rw [ht, wrap64_id (by omega) (by omega)]
    have hq : ((a.natAbs : Int) > 2000000000000000 / (b.natAbs : Int)) ↔ ¬ (-2000000000000000 ≤ a * b ∧ a * b ≤ 2000000000000000) := by
      rw [← natAbs_prod, gt_iff_lt, Int.ediv_lt_iff_lt_mul (by omega)]; omega
    by_cases z : -2000000000000000 ≤ a * b ∧ a * b ≤ 2000000000000000
    · rw [if_neg (fun h => hq.1 h z), if_pos z, wrap64_id (n := a * b) (by omega) (by omega), wrap64_id (n := a * b + c) (by omega) (by omega), size_is (by omega) (by omega)]
      simp only [Option.bind_some]
      congr 3
      rw [Bool.eq_iff_iff]; simp; omega
    · rw [if_pos (hq.2 z), if_neg z]; rfl
theorem cellI_is {ov : Bool} {a b c : Int} (ha : Sm a) (hb : Sm b) (hc : Ce c) : implC ov a b c = some ((cellR a b c).1, ov || !(cellR a b c).2) := by
  unfold implC cellR
  unfold Sm at ha hb; unfold Ce at hc
  rw [mx_abs (by omega) (by omega), mx_abs (by omega) (by omega), u64_wrap, u64_wrap, Int.emod_eq_of_lt (by omega) (by omega), Int.emod_eq_of_lt (by omega) (by omega)]
  obtain ⟨h, l, e, e1, e2⟩ := mul64_small (x := (a.natAbs : Int)) (y := (b.natAbs : Int)) (by omega) (by omega)
  have hp := natAbs_prod a b
  rw [e]
  simp only [Option.bind_some]
  by_cases h0 : h = 0
  · rw [if_pos h0, e1 h0]
    by_cases z : -2000000000000000 ≤ a * b ∧ a * b ≤ 2000000000000000
    · rw [if_neg (by have := hp.2 z; omega), if_pos z, wrap64_id (n := a * b) (by omega) (by omega), wrap64_id (n := a * b + c) (by omega) (by omega)]
      cases ov with
      | true => rw [if_pos rfl]; rfl
      | false =>
        rw [if_neg (by decide), within_some]
        simp only [Option.bind_some, Bool.false_or]
    · rw [if_pos (by have : ¬ (a.natAbs : Int) * (b.natAbs : Int) ≤ 2000000000000000 := fun w => z (hp.1 w); omega), if_neg z]; simp
  · rw [if_neg h0, if_neg (fun z => by have := hp.2 z; have := e2 h0; omega)]; simp
theorem cellR_comm (a b c : Int) : cellR a b c = cellR b a c := by unfold cellR; rw [Int.mul_comm]
theorem cellR_ok {a b c : Int} (h : (cellR a b c).2 = true) : (cellR a b c).1 = a * b + c ∧ Ce (a * b + c) := by
  unfold cellR at h ⊢
  split at h
  · rename_i z
    rw [if_pos z]
    exact ⟨rfl, by simpa [Ce] using h⟩
  · cases h
/-! ### the two machines, side by side -/
theorem fmod_sign (A : Int) {C : Int} : (0 < C → 0 ≤ A.fmod C ∧ A.fmod C < C) ∧ (C < 0 → C < A.fmod C ∧ A.fmod C ≤ 0) := by
  refine ⟨fun h => ⟨Int.fmod_nonneg_of_pos A h, Int.fmod_lt_of_pos A h⟩, fun h => ?_⟩
  have h1 := Int.fmod_nonneg_of_pos (-A) (b := -C) (by omega)
  have h2 := Int.fmod_lt_of_pos (-A) (b := -C) (by omega)
  rw [Int.neg_fmod_neg] at h1 h2
  omega
theorem fmod_half_pos {C x : Int} (h0 : 0 < x) (h1 : x < C) : 0 ≤ C.fmod x ∧ 2 * C.fmod x < C := by
  have e := Int.mul_fdiv_add_fmod C x
  have l := (fmod_sign C (C := x)).1 h0
  have q : 1 ≤ C.fdiv x := by
    rcases Int.lt_or_le (C.fdiv x) 1 with h | h
    · have : x * C.fdiv x ≤ x * 0 := Int.mul_le_mul_of_nonneg_left (by omega) (by omega)
      omega
    · exact h
  have : x * 1 ≤ x * C.fdiv x := Int.mul_le_mul_of_nonneg_left q (by omega)
  omega
theorem fmod_half {A C : Int} (hC : C ≠ 0) (hx : A.fmod C ≠ 0) : 2 * (C.fmod (A.fmod C)).natAbs < C.natAbs := by
  rcases Int.lt_or_le 0 C with h | h
  · have l := (fmod_sign A).1 h
    have := fmod_half_pos (C := C) (x := A.fmod C) (by omega) l.2
    omega
  · have l := (fmod_sign A (C := C)).2 (by omega)
    have := fmod_half_pos (C := -C) (x := -(A.fmod C)) (by omega) (by omega)
    rw [Int.neg_fmod_neg] at this
    omega
def Ev2 {α : Type} (f : Nat → Nat → Option α) (r : α) : Prop := ∃ N, ∀ k m, N ≤ k → N ≤ m → f k m = some r
/-- What holds of a machine that moves: p bounds the terms that it may give in a row, n all its moves. -/
structure PInv (xs : List Int) (s : PSt) (p n : Nat) : Prop where
  cA : Ce s.A
  cB : Ce s.B
  cC : Ce s.C
  cD : Ce s.D
  t0 : 0 ≤ s.tk
  t1 : s.tk ≤ (xs.length : Int) + 1
  te : s.tk = (xs.length : Int) + 1 → s.A = s.B ∧ s.C = s.D
  pot : s.C ≠ 0 → ∃ i j : Nat, s.C.natAbs < 2 ^ i ∧ (s.A.fmod s.C).natAbs < 2 ^ j ∧ i + j ≤ p
  pb : p ≤ 100
  nn : n = ((xs.length : Int) + 1 - s.tk).toNat * 101 + p
  ml : s.ms.length + n ≤ 20000
  gl : s.gs.length ≤ s.ms.length
  gb : ∀ z ∈ s.gs, Sm z
structure XsOk (xs : List Int) : Prop where
  len : xs.length ≤ 40
  el : ∀ i : Int, -1000000000 ≤ rd xs i ∧ rd xs i ≤ 1000000000
theorem pot100 {A C : Int} (hC : Ce C) : C ≠ 0 → ∃ i j : Nat, C.natAbs < 2 ^ i ∧ (A.fmod C).natAbs < 2 ^ j ∧ i + j ≤ 100 := by
  intro h
  unfold Ce at hC
  have := fmod_sign A (C := C)
  refine ⟨50, 50, ?_, ?_, by omega⟩ <;> (rw [show (2 : Nat) ^ 50 = 1125899906842624 by decide]; omega)
def giveSt (s : PSt) (q x y : Int) (f : Bool) : PSt := ⟨s.C, s.D, x, y, s.tk, s.ms ++ [⟨1, q⟩], s.gs ++ [q], f⟩
def takeSt (s : PSt) (a x y : Int) (f : Bool) : PSt := ⟨x, s.A, y, s.C, s.tk + 1, s.ms ++ [⟨2, a⟩], s.gs, f⟩
def infSt (s : PSt) : PSt := ⟨s.A, s.A, s.C, s.C, s.tk + 1, s.ms ++ [⟨2, 0⟩], s.gs, s.ov⟩
section
variable {xs : List Int} {s : PSt} {p n : Nat}
theorem PInv.sum (h : PInv xs s p n) : wrap64 (s.A + s.B) = s.A + s.B ∧ wrap64 (s.C + s.D) = s.C + s.D ∧ Sm s.A ∧ Sm (s.A + s.B) := by
  have h1 := h.cA; have h2 := h.cB; have h3 := h.cC; have h4 := h.cD
  unfold Ce at h1 h2 h3 h4; unfold Sm
  exact ⟨wrap64_id (by omega) (by omega), wrap64_id (by omega) (by omega), by omega, by omega⟩
theorem PInv.give (h : PInv xs s p n) (hc : s.C ≠ 0) (q : Int) (hq : q = s.A.fdiv s.C) (h1 : (cellR s.C (-q) s.A).2 = true) (h2 : (cellR s.D (-q) s.B).2 = true) (f : Bool) :
    ∃ p', p' + 1 ≤ p ∧ PInv xs (giveSt s q (cellR s.C (-q) s.A).1 (cellR s.D (-q) s.B).1 f) p' (((xs.length : Int) + 1 - s.tk).toNat * 101 + p') := by
  obtain ⟨e1, b1⟩ := cellR_ok h1
  obtain ⟨e2, b2⟩ := cellR_ok h2
  have hx : s.C * -q + s.A = s.A.fmod s.C := by
    have := Int.mul_fdiv_add_fmod s.A s.C
    rw [hq]; have : s.C * -s.A.fdiv s.C = -(s.C * s.A.fdiv s.C) := by rw [Int.mul_neg]
    omega
  obtain ⟨i, j, hi, hj, hij⟩ := h.pot hc
  have hi1 : 1 ≤ i := by
    rcases Nat.eq_zero_or_pos i with h0 | h0
    · subst h0; simp at hi; omega
    · exact h0
  have hn := h.nn; have hml := h.ml; have hgl := h.gl; have hpb := h.pb
  refine ⟨p - 1, by omega, ?_⟩
  unfold giveSt
  rw [e1, e2]
  refine ⟨h.cC, h.cD, b1, b2, h.t0, h.t1, fun ht => ?_, fun hz => ?_, by omega, rfl, ?_, ?_, ?_⟩
  · obtain ⟨y1, y2⟩ := h.te ht
    exact ⟨y2, by show s.C * -q + s.A = s.D * -q + s.B; rw [y1, y2]⟩
  · show ∃ i j : Nat, (s.C * -q + s.A).natAbs < 2 ^ i ∧ (s.C.fmod (s.C * -q + s.A)).natAbs < 2 ^ j ∧ i + j ≤ p - 1
    rw [hx]
    refine ⟨j, i - 1, hj, ?_, by omega⟩
    have hz2 : s.A.fmod s.C ≠ 0 := by rw [← hx]; exact hz
    have := fmod_half hc hz2
    have e : 2 ^ i = 2 * 2 ^ (i - 1) := by rw [← Nat.pow_succ']; congr 1; omega
    omega
  · simp only [List.length_append, List.length_cons, List.length_nil]; omega
  · simp only [List.length_append, List.length_cons, List.length_nil]; omega
  · intro z hz
    rcases List.mem_append.1 hz with hz | hz
    · exact h.gb z hz
    · rw [List.mem_singleton.1 hz, hq]
      have := Int.natAbs_fdiv_le_natAbs s.A s.C
      have := h.cA; unfold Ce at this; unfold Sm; omega
theorem PInv.take (h : PInv xs s p n) (hlt : s.tk < (xs.length : Int)) (a x y : Int) (hx : Ce x) (hy : Ce y) (f : Bool) :
    PInv xs (takeSt s a x y f) 100 (((xs.length : Int) + 1 - (s.tk + 1)).toNat * 101 + 100) ∧ ((xs.length : Int) + 1 - (s.tk + 1)).toNat * 101 + 100 < n := by
  have hn := h.nn; have hml := h.ml; have hgl := h.gl; have h0 := h.t0
  refine ⟨?_, by omega⟩
  unfold takeSt
  refine ⟨hx, h.cA, hy, h.cC, by show 0 ≤ s.tk + 1; omega, by show s.tk + 1 ≤ _; omega, fun ht => ?_, pot100 hy, by omega, rfl, ?_, ?_, h.gb⟩
  · have : s.tk + 1 = (xs.length : Int) + 1 := ht
    omega
  · simp only [List.length_append, List.length_cons, List.length_nil]; omega
  · simp only [List.length_append, List.length_cons, List.length_nil]; omega
theorem PInv.inf (h : PInv xs s p n) (hle : s.tk = (xs.length : Int)) :
    PInv xs (infSt s) 100 (((xs.length : Int) + 1 - (s.tk + 1)).toNat * 101 + 100) ∧ ((xs.length : Int) + 1 - (s.tk + 1)).toNat * 101 + 100 < n := by
  have hn := h.nn; have hml := h.ml; have hgl := h.gl; have h0 := h.t0
  refine ⟨?_, by omega⟩
  unfold infSt
  refine ⟨h.cA, h.cA, h.cC, h.cC, by show 0 ≤ s.tk + 1; omega, by show s.tk + 1 ≤ _; omega, fun _ => ⟨rfl, rfl⟩, pot100 h.cC, by omega, rfl, ?_, ?_, h.gb⟩
  · simp only [List.length_append, List.length_cons, List.length_nil]; omega
  · simp only [List.length_append, List.length_cons, List.length_nil]; omega
theorem PInv.guard (h : PInv xs s p n) (hx : XsOk xs) : s.ms.length < 1000000 ∧ s.gs.length < 1000000 ∧ 0 ≤ s.tk ∧ s.tk < 1000000 ∧ xs.length < 1000000 := by
  have := h.ml; have := h.gl; have := h.t0; have := h.t1; have := hx.len
  omega
/-- Behind all terms both quotients are the same. -/
theorem PInv.last (h : PInv xs s p n) (ht : s.tk = (xs.length : Int) + 1) (hc : s.C ≠ 0) : alikeR s.A (s.A + s.B) s.C (s.C + s.D) = (s.A.fdiv s.C, true) := by
  obtain ⟨e1, e2⟩ := h.te ht
  unfold alikeR
  rw [← e1, ← e2, if_pos]
  refine ⟨hc, by omega, by omega, ?_⟩
  rw [show s.A + s.A = 2 * s.A by omega, show s.C + s.C = 2 * s.C by omega, Int.mul_fdiv_mul_of_pos _ _ (by omega)]
theorem alikeR_true {a e c g q : Int} (h : alikeR a e c g = (q, true)) : c ≠ 0 ∧ q = a.fdiv c := by
  unfold alikeR at h
  split at h
  · rename_i z; exact ⟨z.1, (congrArg Prod.fst h).symm⟩
  · cases h
theorem q_small {a c q : Int} (ha : Ce a) (h : q = a.fdiv c) : Sm (-q) ∧ wrap64 (-q) = -q := by
  have := Int.natAbs_fdiv_le_natAbs a c
  unfold Ce at ha; unfold Sm
  exact ⟨by omega, wrap64_id (by omega) (by omega)⟩
theorem Ce.sm {a : Int} (h : Ce a) : Sm a := by unfold Ce at h; unfold Sm; omega
-- single steps
theorem S_end (h : (xs.length : Int) < s.tk ∧ s.C = 0) : Ev (fun k => stepS k xs s) (false, s) := Ev.congr (fun k => by unfold stepS; exact if_pos h) (Ev.now _)
theorem S_give (hI : PInv xs s p n) (hne : ¬ ((xs.length : Int) < s.tk ∧ s.C = 0)) {q : Int} (ha : alikeR s.A (s.A + s.B) s.C (s.C + s.D) = (q, true)) (ht : 0 < s.tk) :
    Ev (fun k => stepS k xs s) (true, giveSt s q (cellR s.C (-q) s.A).1 (cellR s.D (-q) s.B).1 ((s.ov && (cellR s.C (-q) s.A).2) && (cellR s.D (-q) s.B).2)) := by
  obtain ⟨w1, w2, m1, m2⟩ := hI.sum
  obtain ⟨hc, hq⟩ := alikeR_true ha
  obtain ⟨m3, w3⟩ := q_small hI.cA hq
  refine Ev.congr (fun k => by unfold stepS; exact if_neg hne) ?_
  rw [w1, w2]
  refine Ev.bind (alikeS m1 m2) ?_
  rw [ha]
  refine Ev.congr (fun k => if_pos ⟨rfl, ht⟩) ?_
  simp only
  rw [w3, cellS_is m3 hI.cC.sm hI.cA, Option.bind_some]
  simp only
  rw [cellS_is m3 hI.cD.sm hI.cB, Option.bind_some, cellR_comm (-q) s.C, cellR_comm (-q) s.D]
  exact Ev.now _
theorem S_inf (hI : PInv xs s p n) {z : Int × Bool} (ha : alikeR s.A (s.A + s.B) s.C (s.C + s.D) = z) (hno : ¬ (z.2 = true ∧ 0 < s.tk)) (ht : s.tk = (xs.length : Int)) : Ev (fun k => stepS k xs s) (true, infSt s) := by
  obtain ⟨w1, w2, m1, m2⟩ := hI.sum
  refine Ev.congr (fun k => by unfold stepS; exact if_neg (by omega)) ?_
  rw [w1, w2]
  refine Ev.bind (alikeS m1 m2) ?_
  rw [ha]
  exact Ev.congr (fun k => if_neg hno) (Ev.congr (fun k => if_pos ht) (Ev.now _))
theorem S_take (hI : PInv xs s p n) (hx : XsOk xs) {z : Int × Bool} (ha : alikeR s.A (s.A + s.B) s.C (s.C + s.D) = z) (hno : ¬ (z.2 = true ∧ 0 < s.tk)) (ht : s.tk < (xs.length : Int)) :
    Ev (fun k => stepS k xs s) (true, takeSt s (rd xs s.tk) (cellR s.A (rd xs s.tk) s.B).1 (cellR s.C (rd xs s.tk) s.D).1 ((s.ov && (cellR s.A (rd xs s.tk) s.B).2) && (cellR s.C (rd xs s.tk) s.D).2)) := by
  obtain ⟨w1, w2, m1, m2⟩ := hI.sum
  have hr := hx.el s.tk
  refine Ev.congr (fun k => by unfold stepS; exact if_neg (by omega)) ?_
  rw [w1, w2]
  refine Ev.bind (alikeS m1 m2) ?_
  rw [ha]
  refine Ev.congr (fun k => if_neg hno) (Ev.congr (fun k => if_neg (by omega)) (Ev.congr (fun k => if_pos ht) ?_))
  rw [cellS_is hI.cA.sm (by unfold Sm; omega) hI.cB, Option.bind_some]
  simp only
  rw [cellS_is hI.cC.sm (by unfold Sm; omega) hI.cD, Option.bind_some]
  exact Ev.now _
theorem I_give (hI : PInv xs s p n) {q : Int} (ha : alikeR s.A (s.A + s.B) s.C (s.C + s.D) = (q, true)) (ht : 0 < s.tk) (f : Bool) (hf : f = (((s.ov || decide (40 < (s.gs.length : Int) + 1)) || !(cellR s.C (-q) s.A).2) || !(cellR s.D (-q) s.B).2)) :
    Ev (fun k => stepI k xs s) (!f, giveSt s q (cellR s.C (-q) s.A).1 (cellR s.D (-q) s.B).1 f) := by
  obtain ⟨w1, w2, m1, m2⟩ := hI.sum
  obtain ⟨hc, hq⟩ := alikeR_true ha
  obtain ⟨m3, w3⟩ := q_small hI.cA hq
  refine Ev.congr (fun k => by unfold stepI; rfl) ?_
  rw [w1, w2]
  refine Ev.bind (givesI m1 m2) ?_
  rw [ha]
  refine Ev.congr (fun k => if_pos ⟨rfl, ht⟩) ?_
  simp only
  rw [w3, cellI_is hI.cC.sm m3 hI.cA, Option.bind_some]
  simp only
  rw [cellI_is hI.cD.sm m3 hI.cB, Option.bind_some, hf]
  exact Ev.now _
theorem I_take (hI : PInv xs s p n) (hx : XsOk xs) {z : Int × Bool} (ha : alikeR s.A (s.A + s.B) s.C (s.C + s.D) = z) (hno : ¬ (z.2 = true ∧ 0 < s.tk)) (ht : s.tk < (xs.length : Int)) (f : Bool) (hf : f = ((s.ov || !(cellR s.A (rd xs s.tk) s.B).2) || !(cellR s.C (rd xs s.tk) s.D).2)) :
    Ev (fun k => stepI k xs s) (!f, takeSt s (rd xs s.tk) (cellR s.A (rd xs s.tk) s.B).1 (cellR s.C (rd xs s.tk) s.D).1 f) := by
  obtain ⟨w1, w2, m1, m2⟩ := hI.sum
  have hr := hx.el s.tk
  refine Ev.congr (fun k => by unfold stepI; rfl) ?_
  rw [w1, w2]
  refine Ev.bind (givesI m1 m2) ?_
  rw [ha]
  refine Ev.congr (fun k => if_neg hno) (Ev.congr (fun k => if_pos ht) ?_)
  rw [cellI_is hI.cA.sm (by unfold Sm; omega) hI.cB, Option.bind_some]
  simp only
  rw [cellI_is hI.cC.sm (by unfold Sm; omega) hI.cD, Option.bind_some, hf]
  exact Ev.now _
theorem I_inf (hI : PInv xs s p n) {z : Int × Bool} (ha : alikeR s.A (s.A + s.B) s.C (s.C + s.D) = z) (hno : ¬ (z.2 = true ∧ 0 < s.tk)) (ht : s.tk = (xs.length : Int)) : Ev (fun k => stepI k xs s) (!s.ov, infSt s) := by
  obtain ⟨w1, w2, m1, m2⟩ := hI.sum
  refine Ev.congr (fun k => by unfold stepI; rfl) ?_
  rw [w1, w2]
  refine Ev.bind (givesI m1 m2) ?_
  rw [ha]
  exact Ev.congr (fun k => if_neg hno) (Ev.congr (fun k => if_neg (by omega)) (Ev.congr (fun k => if_pos (by omega)) (Ev.now _)))
theorem I_end (hI : PInv xs s p n) (ht : s.tk = (xs.length : Int) + 1) (hc : s.C = 0) : Ev (fun k => stepI k xs s) (false, s) := by
  obtain ⟨w1, w2, m1, m2⟩ := hI.sum
  refine Ev.congr (fun k => by unfold stepI; rfl) ?_
  rw [w1, w2]
  refine Ev.bind (givesI m1 m2) ?_
  rw [show alikeR s.A (s.A + s.B) s.C (s.C + s.D) = (0, false) by unfold alikeR; rw [if_neg (fun h => h.1 hc)]]
  exact Ev.congr (fun k => if_neg (by simp)) (Ev.congr (fun k => if_neg (by omega)) (Ev.congr (fun k => if_neg (by omega)) (Ev.now _)))
-- runs
theorem runS_bad (h : s.ov = false) : Ev2 (fun k m => runS k xs m s) s := ⟨1, fun k m _ hm => by
  obtain ⟨m, rfl⟩ : ∃ j, m = j + 1 := ⟨m - 1, by omega⟩
  show runS k xs (m + 1) s = some s
  rw [runS, if_neg (by rw [h]; decide)]⟩
theorem runS_next (h : s.ov = true) (hg : s.ms.length < 1000000 ∧ s.gs.length < 1000000 ∧ 0 ≤ s.tk ∧ s.tk < 1000000 ∧ xs.length < 1000000) {s' sf : PSt} (hs : Ev (fun k => stepS k xs s) (true, s')) (hr : Ev2 (fun k m => runS k xs m s') sf) : Ev2 (fun k m => runS k xs m s) sf := by
  obtain ⟨K, hK⟩ := hs
  obtain ⟨N, hN⟩ := hr
  refine ⟨K + N + 1, fun k m hk hm => ?_⟩
  obtain ⟨m, rfl⟩ : ∃ j, m = j + 1 := ⟨m - 1, by omega⟩
  have e1 : stepS k xs s = some (true, s') := hK k (by omega)
  have e2 : runS k xs m s' = some sf := hN k m (by omega) (by omega)
  show runS k xs (m + 1) s = some sf
  rw [runS, if_pos h, if_pos hg, e1, Option.bind_some]
  exact (if_pos rfl).trans e2
theorem runS_stop (h : s.ov = true) (hg : s.ms.length < 1000000 ∧ s.gs.length < 1000000 ∧ 0 ≤ s.tk ∧ s.tk < 1000000 ∧ xs.length < 1000000) {s' : PSt} (hs : Ev (fun k => stepS k xs s) (false, s')) : Ev2 (fun k m => runS k xs m s) s' := by
  obtain ⟨K, hK⟩ := hs
  refine ⟨K + 1, fun k m hk hm => ?_⟩
  obtain ⟨m, rfl⟩ : ∃ j, m = j + 1 := ⟨m - 1, by omega⟩
  have e1 : stepS k xs s = some (false, s') := hK k (by omega)
  show runS k xs (m + 1) s = some s'
  rw [runS, if_pos h, if_pos hg, e1, Option.bind_some]
  exact if_neg (by simp)
theorem runI_next (hg : s.ms.length < 1000000 ∧ s.gs.length < 1000000 ∧ 0 ≤ s.tk ∧ s.tk < 1000000 ∧ xs.length < 1000000) {s' sf : PSt} (hs : Ev (fun k => stepI k xs s) (true, s')) (hr : Ev2 (fun k m => runI k xs m s') sf) : Ev2 (fun k m => runI k xs m s) sf := by
  obtain ⟨K, hK⟩ := hs
  obtain ⟨N, hN⟩ := hr
  refine ⟨K + N + 1, fun k m hk hm => ?_⟩
  obtain ⟨m, rfl⟩ : ∃ j, m = j + 1 := ⟨m - 1, by omega⟩
  have e1 : stepI k xs s = some (true, s') := hK k (by omega)
  have e2 : runI k xs m s' = some sf := hN k m (by omega) (by omega)
  show runI k xs (m + 1) s = some sf
  rw [runI, if_pos hg, e1, Option.bind_some]
  exact (if_pos rfl).trans e2
theorem runI_stop (hg : s.ms.length < 1000000 ∧ s.gs.length < 1000000 ∧ 0 ≤ s.tk ∧ s.tk < 1000000 ∧ xs.length < 1000000) {s' : PSt} (hs : Ev (fun k => stepI k xs s) (false, s')) : Ev2 (fun k m => runI k xs m s) s' := by
  obtain ⟨K, hK⟩ := hs
  refine ⟨K + 1, fun k m hk hm => ?_⟩
  obtain ⟨m, rfl⟩ : ∃ j, m = j + 1 := ⟨m - 1, by omega⟩
  have e1 : stepI k xs s = some (false, s') := hK k (by omega)
  show runI k xs (m + 1) s = some s'
  rw [runI, if_pos hg, e1, Option.bind_some]
  exact if_neg (by simp)
end
/-! ### both machines to their ends -/
def fl (s : PSt) (b : Bool) : PSt := ⟨s.A, s.B, s.C, s.D, s.tk, s.ms, s.gs, b⟩
theorem PInv.fl {xs : List Int} {s : PSt} {p n : Nat} (h : PInv xs s p n) (b : Bool) : PInv xs (fl s b) p n := ⟨h.cA, h.cB, h.cC, h.cD, h.t0, h.t1, h.te, h.pot, h.pb, h.nn, h.ml, h.gl, h.gb⟩
theorem spec_ends {xs : List Int} (hx : XsOk xs) (n : Nat) : ∀ (s : PSt) (p : Nat), PInv xs s p n → s.ov = true → ∃ sf, Ev2 (fun k m => runS k xs m s) sf ∧ (sf.ov = false ∨ (s.gs.length ≤ sf.gs.length ∧ ∀ z ∈ sf.gs, Sm z)) := by
  induction n using Nat.strongRecOn with
  | ind n ih =>
  intro s p hI ho
  have hg := hI.guard hx
  by_cases h : (xs.length : Int) < s.tk ∧ s.C = 0
  · exact ⟨s, runS_stop ho hg (S_end h), Or.inr ⟨Nat.le_refl _, hI.gb⟩⟩
  obtain ⟨q, al, ha⟩ : ∃ q al, alikeR s.A (s.A + s.B) s.C (s.C + s.D) = (q, al) := ⟨_, _, rfl⟩
  by_cases hgv : al = true ∧ 0 < s.tk
  · obtain ⟨rfl, ht⟩ := hgv
    have hs := S_give hI h ha ht
    obtain ⟨hc, hq⟩ := alikeR_true ha
    rw [ho, Bool.true_and] at hs
    cases h1 : (cellR s.C (-q) s.A).2 with
    | false => rw [h1] at hs; exact ⟨_, runS_next ho hg hs (runS_bad rfl), Or.inl rfl⟩
    | true =>
      rw [h1, Bool.true_and] at hs
      cases h2 : (cellR s.D (-q) s.B).2 with
      | false => rw [h2] at hs; exact ⟨_, runS_next ho hg hs (runS_bad rfl), Or.inl rfl⟩
      | true =>
        rw [h2] at hs
        obtain ⟨p', hp, hJ⟩ := hI.give hc q hq h1 h2 true
        have hn := hI.nn
        obtain ⟨sf, r1, r2⟩ := ih _ (by omega) _ p' hJ rfl
        refine ⟨sf, runS_next ho hg hs r1, r2.imp id (fun r => ⟨?_, r.2⟩)⟩
        have := r.1
        simp only [giveSt, List.length_append, List.length_cons, List.length_nil] at this
        omega
  · have h1 := hI.t1
    rcases Int.lt_trichotomy s.tk (xs.length : Int) with ht | ht | ht
    · have hs := S_take hI hx ha hgv ht
      rw [ho, Bool.true_and] at hs
      cases h1 : (cellR s.A (rd xs s.tk) s.B).2 with
      | false => rw [h1] at hs; exact ⟨_, runS_next ho hg hs (runS_bad rfl), Or.inl rfl⟩
      | true =>
        rw [h1, Bool.true_and] at hs
        cases h2 : (cellR s.C (rd xs s.tk) s.D).2 with
        | false => rw [h2] at hs; exact ⟨_, runS_next ho hg hs (runS_bad rfl), Or.inl rfl⟩
        | true =>
          rw [h2] at hs
          obtain ⟨e1, b1⟩ := cellR_ok h1
          obtain ⟨e2, b2⟩ := cellR_ok h2
          obtain ⟨hJ, hn⟩ := hI.take ht (rd xs s.tk) _ _ (e1 ▸ b1) (e2 ▸ b2) true
          obtain ⟨sf, r1, r2⟩ := ih _ hn _ _ hJ rfl
          exact ⟨sf, runS_next ho hg hs r1, r2⟩
    · have hs := S_inf hI ha hgv ht
      obtain ⟨hJ, hn⟩ := hI.inf ht
      obtain ⟨sf, r1, r2⟩ := ih _ hn _ _ hJ ho
      exact ⟨sf, runS_next ho hg hs r1, r2⟩
    · exfalso
      have he : s.tk = (xs.length : Int) + 1 := by omega
      have hl := hI.last he (fun hz => h ⟨by omega, hz⟩)
      rw [ha] at hl
      exact hgv ⟨(congrArg Prod.snd hl), by omega⟩
/-- How both machines end: alike, or both without an answer. -/
def Ends (sS sI : PSt) : Prop :=
  (sS.ov = true ∧ sI.ov = false ∧ sI.ms = sS.ms ∧ sI.gs = sS.gs ∧ sS.gs.length ≤ 40 ∧ sS.ms.length ≤ 20000 ∧ ∀ z ∈ sS.gs, Sm z) ∨ (sI.ov = true ∧ (sS.ov = false ∨ (41 ≤ sS.gs.length ∧ ∀ z ∈ sS.gs, Sm z)))
theorem both_end {xs : List Int} (hx : XsOk xs) (n : Nat) : ∀ (s : PSt) (p : Nat), PInv xs s p n → s.ov = true → s.gs.length ≤ 40 → ∃ sS sI, Ev2 (fun k m => runS k xs m s) sS ∧ Ev2 (fun k m => runI k xs m (fl s false)) sI ∧ Ends sS sI := by
  induction n using Nat.strongRecOn with
  | ind n ih =>
  intro s p hI ho hG
  have hg := hI.guard hx
  have hK := hI.fl false
  by_cases h : (xs.length : Int) < s.tk ∧ s.C = 0
  · have h1 := hI.t1
    refine ⟨s, fl s false, runS_stop ho hg (S_end h), runI_stop (s := fl s false) hg (I_end (s := fl s false) hK (show s.tk = _ by omega) h.2), Or.inl ⟨ho, rfl, rfl, rfl, hG, ?_, hI.gb⟩⟩
    have := hI.ml; omega
  obtain ⟨q, al, ha⟩ : ∃ q al, alikeR s.A (s.A + s.B) s.C (s.C + s.D) = (q, al) := ⟨_, _, rfl⟩
  by_cases hgv : al = true ∧ 0 < s.tk
  · obtain ⟨rfl, ht⟩ := hgv
    have hs := S_give hI h ha ht
    have hi := I_give hK ha ht _ rfl
    obtain ⟨hc, hq⟩ := alikeR_true ha
    rw [ho, Bool.true_and] at hs
    rw [show (fl s false).ov = false from rfl, Bool.false_or] at hi
    simp only [show (fl s false).A = s.A from rfl, show (fl s false).B = s.B from rfl, show (fl s false).C = s.C from rfl, show (fl s false).D = s.D from rfl, show (fl s false).gs = s.gs from rfl] at hi
    cases h1 : (cellR s.C (-q) s.A).2 with
    | false =>
      rw [h1] at hs hi
      simp only [Bool.not_false, Bool.or_true, Bool.true_or, Bool.not_true] at hi
      exact ⟨_, _, runS_next ho hg hs (runS_bad rfl), runI_stop (s := fl s false) hg hi, Or.inr ⟨rfl, Or.inl rfl⟩⟩
    | true =>
      rw [h1, Bool.true_and] at hs
      rw [h1] at hi
      cases h2 : (cellR s.D (-q) s.B).2 with
      | false =>
        rw [h2] at hs hi
        simp only [Bool.not_false, Bool.or_true, Bool.true_or, Bool.not_true] at hi
        exact ⟨_, _, runS_next ho hg hs (runS_bad rfl), runI_stop (s := fl s false) hg hi, Or.inr ⟨rfl, Or.inl rfl⟩⟩
      | true =>
        rw [h2] at hs hi
        obtain ⟨p', hp, hJ⟩ := hI.give hc q hq h1 h2 true
        have hn := hI.nn
        have hlen : (giveSt s q (cellR s.C (-q) s.A).1 (cellR s.D (-q) s.B).1 true).gs.length = s.gs.length + 1 := by simp [giveSt]
        by_cases h40 : s.gs.length + 1 ≤ 40
        · rw [decide_eq_false (by omega)] at hi
          simp only [Bool.not_true, Bool.or_false, Bool.not_false] at hi
          obtain ⟨sS, sI, r1, r2, r3⟩ := ih _ (by omega) _ p' hJ rfl (by omega)
          exact ⟨sS, sI, runS_next ho hg hs r1, runI_next (s := fl s false) hg hi r2, r3⟩
        · rw [decide_eq_true (by omega)] at hi
          simp only [Bool.not_true, Bool.or_false, Bool.true_or] at hi
          obtain ⟨sf, r1, r2⟩ := spec_ends hx _ _ p' hJ rfl
          exact ⟨sf, _, runS_next ho hg hs r1, runI_stop (s := fl s false) hg hi, Or.inr ⟨rfl, r2.imp id (fun r => ⟨by have := r.1; omega, r.2⟩)⟩⟩
  · have h1 := hI.t1
    rcases Int.lt_trichotomy s.tk (xs.length : Int) with ht | ht | ht
    · have hs := S_take hI hx ha hgv ht
      have hi := I_take hK hx ha hgv ht _ rfl
      rw [ho, Bool.true_and] at hs
      rw [show (fl s false).ov = false from rfl, Bool.false_or] at hi
      simp only [show (fl s false).A = s.A from rfl, show (fl s false).B = s.B from rfl, show (fl s false).C = s.C from rfl, show (fl s false).D = s.D from rfl, show (fl s false).tk = s.tk from rfl] at hi
      cases h1 : (cellR s.A (rd xs s.tk) s.B).2 with
      | false =>
        rw [h1] at hs hi
        simp only [Bool.not_false, Bool.or_true, Bool.true_or, Bool.not_true] at hi
        exact ⟨_, _, runS_next ho hg hs (runS_bad rfl), runI_stop (s := fl s false) hg hi, Or.inr ⟨rfl, Or.inl rfl⟩⟩
      | true =>
        rw [h1, Bool.true_and] at hs
        rw [h1] at hi
        cases h2 : (cellR s.C (rd xs s.tk) s.D).2 with
        | false =>
          rw [h2] at hs hi
          simp only [Bool.not_false, Bool.or_true, Bool.true_or, Bool.not_true] at hi
          exact ⟨_, _, runS_next ho hg hs (runS_bad rfl), runI_stop (s := fl s false) hg hi, Or.inr ⟨rfl, Or.inl rfl⟩⟩
        | true =>
          rw [h2] at hs hi
          simp only [Bool.not_true, Bool.or_false, Bool.not_false] at hi
          obtain ⟨e1, b1⟩ := cellR_ok h1
          obtain ⟨e2, b2⟩ := cellR_ok h2
          obtain ⟨hJ, hn⟩ := hI.take ht (rd xs s.tk) _ _ (e1 ▸ b1) (e2 ▸ b2) true
          obtain ⟨sS, sI, r1, r2, r3⟩ := ih _ hn _ _ hJ rfl hG
          exact ⟨sS, sI, runS_next ho hg hs r1, runI_next (s := fl s false) hg hi r2, r3⟩
    · have hs := S_inf hI ha hgv ht
      have hi := I_inf hK ha hgv ht
      obtain ⟨hJ, hn⟩ := hI.inf ht
      obtain ⟨sS, sI, r1, r2, r3⟩ := ih _ hn _ _ hJ ho hG
      exact ⟨sS, sI, runS_next ho hg hs r1, runI_next (s := fl s false) hg hi r2, r3⟩
    · exfalso
      have he : s.tk = (xs.length : Int) + 1 := by omega
      have hl := hI.last he (fun hz => h ⟨by omega, hz⟩)
      rw [ha] at hl
      exact hgv ⟨(congrArg Prod.snd hl), by omega⟩
/-! ### what both sides return -/
theorem Ev2.ev {α : Type} {f : Nat → Nat → Option α} {r : α} (h : Ev2 f r) : Ev (fun k => f k k) r := by
  obtain ⟨N, hN⟩ := h
  exact ⟨N, fun k hk => hN k k hk hk⟩
theorem sm_word {gs : List Int} (h : ∀ z ∈ gs, Sm z) : ∀ j, j < gs.length → -9223372036854775808 ≤ gs.getD j 0 ∧ gs.getD j 0 ≤ 9223372036854775807 := by
  refine terms_w (fun z hz => ?_)
  have := h z hz
  unfold Sm at this
  omega
theorem xs_ok {xs : List Int} (h : termsOk xs = true) : XsOk xs := by
  obtain ⟨h1, h2, -⟩ := termsOk_is h
  refine ⟨h1.2, fun i => ?_⟩
  unfold rd
  by_cases c : i.toNat < xs.length
  · have := h2 _ c; exact ⟨this.1, this.2.1⟩
  · rw [List.getD_eq_getElem?_getD, List.getElem?_eq_none (by omega)]; simp
theorem big_bad {gs : List Int} (h : 41 ≤ gs.length) : termsOk gs = false := by
  unfold termsOk
  rw [decide_eq_false (by omega), Bool.false_and]
/-- What a machine's end means. -/
theorem ends_code {sS sI : PSt} (h : Ends sS sI) : ∃ c, Ev (fun k => spec_l04Work_end.f k sS.ms sS.gs sS.ov) c ∧ Ev (fun k => impl_mover_code.f k sI.ms sI.gs sI.ov) c ∧ (c = 0 → sI.ms = sS.ms ∧ sI.gs = sS.gs ∧ sS.gs.length ≤ 40 ∧ sS.ms.length ≤ 20000) := by
  rcases h with ⟨h1, h2, h3, h4, h5, h6, h7⟩ | ⟨h1, h2⟩
  · rw [h1, h2, h3, h4]
    by_cases z : (sS.gs.length : Int) = 0
    · refine ⟨4, Ev.congr (fun k => by unfold spec_l04Work_end.f; exact (if_pos rfl).trans (if_pos z)) (Ev.now _), ?_, fun h => absurd h (by decide)⟩
      refine Ev.congr (fun k => by unfold impl_mover_code.f; exact (if_neg (by simp)).trans (if_neg (by omega))) ?_
      exact Ev.step (fun k => by rw [impl_mover_code.j0]) (Ev.congr (fun k => (if_neg (by simp)).trans (if_pos z)) (Ev.now _))
    · have e1 := specTerms_ev sS.gs (sm_word h7)
      have e2 := implTerms_ev sS.gs
      cases t : termsOk sS.gs with
      | true =>
        rw [t] at e1 e2
        refine ⟨0, Ev.congr (fun k => by unfold spec_l04Work_end.f; exact (if_pos rfl).trans (if_neg z)) (Ev.bind e1 (Ev.congr (fun k => if_pos rfl) (Ev.now _))), ?_, fun _ => ⟨rfl, rfl, h5, h6⟩⟩
        refine Ev.congr (fun k => by unfold impl_mover_code.f; exact (if_neg (by simp)).trans (if_pos (by omega))) (Ev.bind e2 ?_)
        exact Ev.step (fun k => by rw [impl_mover_code.j0]) (Ev.congr (fun k => (if_neg (by simp)).trans (if_neg z)) (Ev.now _))
      | false =>
        rw [t] at e1 e2
        refine ⟨3, Ev.congr (fun k => by unfold spec_l04Work_end.f; exact (if_pos rfl).trans (if_neg z)) (Ev.bind e1 (Ev.congr (fun k => if_neg Bool.false_ne_true) (Ev.now _))), ?_, fun h => absurd h (by decide)⟩
        refine Ev.congr (fun k => by unfold impl_mover_code.f; exact (if_neg (by simp)).trans (if_pos (by omega))) (Ev.bind e2 ?_)
        exact Ev.step (fun k => by rw [impl_mover_code.j0]) (Ev.congr (fun k => if_pos (by simp)) (Ev.now _))
  · refine ⟨3, ?_, ?_, fun h => absurd h (by decide)⟩
    · rcases h2 with h2 | ⟨h2, h3⟩
      · rw [h2]
        exact Ev.congr (fun k => by unfold spec_l04Work_end.f; exact if_neg (by simp)) (Ev.now _)
      · cases o : sS.ov with
        | false => exact Ev.congr (fun k => by unfold spec_l04Work_end.f; exact if_neg (by simp)) (Ev.now _)
        | true =>
          have e1 := specTerms_ev sS.gs (sm_word h3)
          rw [big_bad h2] at e1
          exact Ev.congr (fun k => by unfold spec_l04Work_end.f; exact (if_pos rfl).trans (if_neg (by omega))) (Ev.bind e1 (Ev.congr (fun k => if_neg Bool.false_ne_true) (Ev.now _)))
    · rw [h1]
      refine Ev.congr (fun k => by unfold impl_mover_code.f; exact if_pos rfl) ?_
      exact Ev.step (fun k => by rw [impl_mover_code.j0]) (Ev.congr (fun k => if_pos rfl) (Ev.now _))
def st0 (A B C D : Int) (o : Bool) : PSt := ⟨A, B, C, D, 0, [], [], o⟩
theorem in_ce {a : Int} (h : inP a = true) : Ce a := by
  unfold inP at h; have := of_decide_eq_true h; unfold Ce; omega
theorem pair_inv {A B C D : Int} {xs : List Int} (hx : XsOk xs) (hA : inP A = true) (hB : inP B = true) (hC : inP C = true) (hD : inP D = true) : PInv xs (st0 A B C D true) 100 (((xs.length : Int) + 1 - 0).toNat * 101 + 100) := by
  have := hx.len
  refine ⟨in_ce hA, in_ce hB, in_ce hC, in_ce hD, Int.le_refl _, by show (0 : Int) ≤ _; omega, fun h => ?_, pot100 (in_ce hC), by omega, rfl, ?_, Nat.le_refl _, fun z hz => by cases hz⟩
  · have : (0 : Int) = (xs.length : Int) + 1 := h
    omega
  · show 0 + _ ≤ 20000; omega
/-- Both machines from their starts: one answer. -/
theorem pair_all (A B C D : Int) {xs : List Int} (hw : ∀ j, j < xs.length → -9223372036854775808 ≤ xs.getD j 0 ∧ xs.getD j 0 ≤ 9223372036854775807) :
    (∃ c st, c ≠ 0 ∧ Ev (fun k => spec_l04PairGiven.f k A B C D xs) c ∧ Ev (fun k => pairF k A B C D xs) (st, c)) ∨
    (∃ sS sI c, Ev (fun k => spec_l04PairGiven.f k A B C D xs) 0 ∧ Ev (fun k => runS k xs k (st0 A B C D true)) sS ∧ Ev (fun k => spec_l04Work_end.f k sS.ms sS.gs sS.ov) c ∧ Ev (fun k => pairF k A B C D xs) (sI, c) ∧ (c = 0 → sI.ms = sS.ms ∧ sI.gs = sS.gs ∧ sS.gs.length ≤ 40 ∧ sS.ms.length ≤ 20000)) := by
  have e1 := specTerms_ev xs hw
  have e2 := implTerms_ev xs
  cases t : termsOk xs with
  | false =>
    rw [t] at e1 e2
    left
    exact ⟨1, _, by decide, Ev.congr (fun k => by unfold spec_l04PairGiven.f; rfl) (Ev.bind e1 (Ev.congr (fun k => if_neg Bool.false_ne_true) (Ev.now _))), Ev.congr (fun k => by unfold pairF; rfl) (Ev.bind e2 (Ev.congr (fun k => if_neg Bool.false_ne_true) (Ev.now _)))⟩
  | true =>
    rw [t] at e1 e2
    have hg : Ev (fun k => spec_l04PairGiven.f k A B C D xs) (if inP A = true ∧ inP B = true ∧ inP C = true ∧ inP D = true then 0 else 2) := by
      refine Ev.congr (fun k => by unfold spec_l04PairGiven.f; rfl) (Ev.bind e1 (Ev.congr (fun k => if_pos rfl) ?_))
      simp only [l00In_some, Option.bind_some]
      unfold inP
      refine ⟨0, fun k _ => ?_⟩
      by_cases h1 : (-1000000000 ≤ A ∧ A ≤ 1000000000) <;> by_cases h2 : (-1000000000 ≤ B ∧ B ≤ 1000000000) <;> by_cases h3 : (-1000000000 ≤ C ∧ C ≤ 1000000000) <;> by_cases h4 : (-1000000000 ≤ D ∧ D ≤ 1000000000) <;> simp [h1, h2, h3, h4]
    by_cases c : inP A = true ∧ inP B = true ∧ inP C = true ∧ inP D = true
    · right
      rw [if_pos c] at hg
      have hx := xs_ok t
      obtain ⟨sS, sI, r1, r2, r3⟩ := both_end hx _ _ _ (pair_inv hx c.1 c.2.1 c.2.2.1 c.2.2.2) rfl (by show 0 ≤ 40; omega)
      obtain ⟨cd, c1, c2, c3⟩ := ends_code r3
      refine ⟨sS, sI, cd, hg, r1.ev, c1, ?_, c3⟩
      refine Ev.congr (fun k => by unfold pairF; rfl) (Ev.bind e2 (Ev.congr (fun k => (if_pos rfl).trans (if_pos c)) ?_))
      refine Ev.bind r2.ev ?_
      refine Ev.bind c2 ?_
      exact Ev.now _
    · left
      rw [if_neg c] at hg
      exact ⟨2, _, by decide, hg, Ev.congr (fun k => by unfold pairF; rfl) (Ev.bind e2 (Ev.congr (fun k => (if_pos rfl).trans (if_neg c)) (Ev.now _)))⟩
theorem pairMoves_ev (A B C D : Int) {xs : List Int} (hw : ∀ j, j < xs.length → -9223372036854775808 ≤ xs.getD j 0 ∧ xs.getD j 0 ≤ 9223372036854775807) : ∃ (gs : List S52) (c : Int), gs.length ≤ 20000 ∧ Ev (fun k => spec_PairMoves.f k A B C D xs) (gs, c) ∧ Ev (fun k => impl_PairMoves.f k A B C D xs) (gs, c) := by
  rcases pair_all A B C D hw with ⟨c, st, hc, h1, h2⟩ | ⟨sS, sI, c, h1, h2, h3, h4, h5⟩
  · exact ⟨[], c, by simp, Ev.congr (fun k => by unfold spec_PairMoves.f; rfl) (Ev.bind h1 (Ev.congr (fun k => if_neg hc) (Ev.now _))), Ev.congr (fun k => by unfold impl_PairMoves.f; rfl) (Ev.bind h2 (Ev.congr (fun k => if_neg hc) (Ev.now _)))⟩
  · by_cases z : c = 0
    · subst z
      obtain ⟨e1, e2, e3, e4⟩ := h5 rfl
      refine ⟨sS.ms, 0, by omega, ?_, ?_⟩
      · refine Ev.congr (fun k => by unfold spec_PairMoves.f; rfl) (Ev.bind h1 (Ev.congr (fun k => if_pos rfl) ?_))
        refine Ev.bind h2 ?_
        refine Ev.bind h3 ?_
        exact Ev.now _
      rw [← e1]
      exact Ev.congr (fun k => by unfold impl_PairMoves.f; rfl) (Ev.bind h4 (Ev.congr (fun k => if_pos rfl) (Ev.now _)))
    · refine ⟨[], c, by simp, ?_, Ev.congr (fun k => by unfold impl_PairMoves.f; rfl) (Ev.bind h4 (Ev.congr (fun k => if_neg z) (Ev.now _)))⟩
      refine Ev.congr (fun k => by unfold spec_PairMoves.f; rfl) (Ev.bind h1 (Ev.congr (fun k => if_pos rfl) (Ev.bind h2 (Ev.bind h3 ?_))))
      simp only [if_neg z]
      exact Ev.now _
theorem FnExactPairMoves : laws_FnExactPairMoves.Pure := by
  intro x xs hx hxs
  apply Ev.rounds (r := true)
  by_cases hb : (xs.length : Int) > 1048576
  · exact Ev.congr (fun k => by unfold laws_FnExactPairMoves.f; exact if_pos hb) (Ev.now _)
  obtain ⟨gs, c, hl, hs, hi⟩ := pairMoves_ev x.f0 x.f1 x.f2 x.f3 (terms_w hxs.2)
  have ht := toInt64S_ev xs (by omega)
  refine Ev.congr (fun k => by unfold laws_FnExactPairMoves.f laws_toPair.f; exact if_neg hb) ?_
  repeat' (first
    | (refine Ev.bind (show Ev (fun k => laws_toPair.f x.f0 x.f1 x.f2 x.f3) (x.f0, x.f1, x.f2, x.f3) from Ev.now _) ?_; try dsimp only)
    | (refine Ev.bind (show Ev (fun k => some (x.f0, x.f1, x.f2, x.f3)) (x.f0, x.f1, x.f2, x.f3) from Ev.now _) ?_; try dsimp only)
    | (refine Ev.bind (ht) ?_; try dsimp only)
    | (refine Ev.bind (hs) ?_; try dsimp only)
    | (refine Ev.bind (hi) ?_; try dsimp only)
    | (refine Ev.bind (eqMoveS_ev _ (by omega)) ?_; try dsimp only)
    | (refine Ev.bind (markMoveS_ev _ 1 (by omega) (by omega)) ?_; try dsimp only)
    | (refine Ev.bind (heldMoveS_ev _ 1 (by omega) (by omega)) ?_; try dsimp only)
    | (refine Ev.bind (eqInt64S_ev _ (by omega)) ?_; try dsimp only)
    | (refine Ev.bind (markInt64S_ev _ 1 (by omega) (by omega)) ?_; try dsimp only)
    | (refine Ev.bind (heldInt64S_ev _ 1 (by omega) (by omega)) ?_; try dsimp only)
    | exact ⟨0, fun k _ => rfl⟩
    | (refine Ev.congr (fun k => if_pos rfl) ?_; try dsimp only)
    | (refine Ev.congr (fun k => if_neg (by simp; done)) ?_; try dsimp only)
    | (refine Ev.congr (fun k => if_neg (by omega)) ?_; try dsimp only)
    | (refine Ev.congr (fun k => if_pos (by simp; done)) ?_; try dsimp only)
    | (refine Ev.congr (fun k => if_pos (by omega)) ?_; try dsimp only)
    | (refine Ev.step (fun k => by rw [laws_FnExactPairMoves.j0]) ?_; try dsimp only)
    | (refine Ev.step (fun k => by rw [laws_FnExactPairMoves.j1]) ?_; try dsimp only)
    | (refine Ev.step (fun k => by rw [laws_FnExactPairMoves.j2]) ?_; try dsimp only)
    )
end Go.Proofs.Ytgldplkbacfacaa.Pure
