/- The program's ValidPoly returns what the reference's returns, for every list of int64. -/
import Derived.Test.YtpijklhonoekbaaMFnExactValidPolyx2
import Derived.Test.YtpijklhonoekbaaMOpen
namespace Go.Proofs.Ytpijklhonoekbaa.Pure
open Go.RowKit Go.Proofs.Ytpijklhonoekbaa.MFnExactValidPoly Go.Proofs.Ytpijklhonoekbaa.MOpen Go.Proofs.YtpijklhonoekbaaW.PrintWords Go.Proofs.YtpijklhonoekbaaW.PrintLast Go.Proofs.YtpijklhonoekbaaW.PrintMore
set_option linter.unusedVariables false
set_option linter.unusedSimpArgs false
theorem wrap64_id {n : Int} (h0 : -9223372036854775808 ≤ n) (h1 : n ≤ 9223372036854775807) : wrap64 n = n := by
  unfold wrap64; omega
theorem rd_nat (xs : List Int) (i : Nat) : rd xs (i : Int) = xs.getD i 0 := by simp [rd]
theorem rd_get (xs : List Int) (i : Nat) (h : i < xs.length) : rd xs (i : Int) = xs[i] := by simp [rd, h]
theorem ev_k {α : Type} {f : Nat → Option α} {r : α} (n : Nat) (h : ∀ k, n ≤ k → f k = some r) : Ev f r := ⟨n, h⟩
def inCoef (x : Int) : Bool := decide (-1000000 ≤ x ∧ x ≤ 1000000)
/-- What both sides say of a polynomial. -/
def polyOk (xs : List Int) : Bool := decide (2 ≤ xs.length ∧ xs.length ≤ 9) && (!(rd xs ((xs.length : Int) - 1) == 0) && xs.all inCoef)
theorem l00In_some (a b c : Int) : spec_l00In.f a b c = some (decide (b ≤ a ∧ a ≤ c)) := by
  unfold spec_l00In.f
  split <;> simp <;> omega
theorem within_some (a b c : Int) : impl_within.f a b c = some (decide (b ≤ a ∧ a ≤ c)) := l00In_some a b c
theorem specPoly_loop (xs : List Int) (hn : xs.length ≤ 9) (d : Nat) : ∀ (i k : Nat), i + d = xs.length → d < k → spec_l05Ok.l0 k xs (i : Int) = some ((xs.drop i).all inCoef) := by
  induction d with
  | zero =>
    intro i k hd hk
    obtain ⟨k, rfl⟩ : ∃ m, k = m + 1 := ⟨k - 1, by omega⟩
    simp only [spec_l05Ok.l0]; rw [if_neg (by omega), List.drop_eq_nil_of_le (by omega)]; rfl
  | succ d ih =>
    intro i k hd hk
    obtain ⟨k, rfl⟩ : ∃ m, k = m + 1 := ⟨k - 1, by omega⟩
    have hi : i < xs.length := by omega
    simp only [spec_l05Ok.l0]; rw [if_pos (by omega), if_pos (by omega), rd_get xs i hi, l00In_some, wrap64_id (by omega) (by omega), List.drop_eq_getElem_cons hi, List.all_cons]
    have := ih (i + 1) k (by omega) (by omega)
    simp only [Option.bind_some]
    show (if inCoef xs[i] = true then _ else _) = _
    cases inCoef xs[i]
    · simp
    · simpa using this
theorem implPoly_loop (xs : List Int) (hn : xs.length ≤ 9) (d : Nat) : ∀ (i k : Nat), i + d = xs.length → d < k → ∃ r : Int, slices_IndexFunc_int64_int64_f46.l0 k xs (xs.length : Int) (i : Int) = some r ∧ decide (r ≥ 0) = !((xs.drop i).all inCoef) := by
  induction d with
  | zero =>
    intro i k hd hk
    obtain ⟨k, rfl⟩ : ∃ m, k = m + 1 := ⟨k - 1, by omega⟩
    simp only [slices_IndexFunc_int64_int64_f46.l0]; rw [if_neg (by omega), List.drop_eq_nil_of_le (by omega)]
    exact ⟨_, rfl, by simp⟩
  | succ d ih =>
    intro i k hd hk
    obtain ⟨k, rfl⟩ : ∃ m, k = m + 1 := ⟨k - 1, by omega⟩
    have hi : i < xs.length := by omega
    obtain ⟨r, h1, h2⟩ := ih (i + 1) k (by omega) (by omega)
    simp only [slices_IndexFunc_int64_int64_f46.l0, impl_ValidPoly_1.f]; rw [if_pos (by omega), if_pos (by omega), if_pos (by omega), rd_get xs i hi, within_some, wrap64_id (by omega) (by omega), List.drop_eq_getElem_cons hi, List.all_cons]
    simp only [Option.bind_some]
    show ∃ r, (if (!inCoef xs[i]) = true then _ else _) = some r ∧ _
    cases inCoef xs[i]
    · exact ⟨_, rfl, by simp⟩
    · exact ⟨r, by simpa using h1, by simpa using h2⟩
theorem specPoly_ev (xs : List Int) : Ev (fun k => spec_l05Ok.f k xs) (polyOk xs) := by
  refine ev_k (xs.length + 3) (fun k hk => ?_)
  obtain ⟨k, rfl⟩ : ∃ m, k = m + 1 := ⟨k - 1, by omega⟩
  show spec_l05Ok.f (k + 1) xs = _
  unfold spec_l05Ok.f polyOk
  rw [l00In_some]; simp only [Option.bind_some]
  by_cases c : 2 ≤ xs.length ∧ xs.length ≤ 9
  · have hl := specPoly_loop xs c.2 xs.length 0 k (by omega) (by omega)
    rw [if_pos (by simp; omega), wrap64_id (by omega) (by omega), if_pos (by omega), if_pos (by omega)]
    simp only [spec_l05Ok.j0]
    simp only [c, and_self, decide_true, Bool.true_and]
    cases (rd xs ((xs.length : Int) - 1) == 0)
    · simpa using hl
    · simp
  · rw [if_neg (by simp; omega)]
    simp only [spec_l05Ok.j0]
    simp [c]
theorem implPoly_ev (xs : List Int) : Ev (fun k => impl_ValidPoly.f k xs) (polyOk xs) := by
  refine ev_k (xs.length + 3) (fun k hk => ?_)
  show impl_ValidPoly.f k xs = _
  unfold impl_ValidPoly.f polyOk
  by_cases c : 2 ≤ xs.length ∧ xs.length ≤ 9
  · obtain ⟨r, h1, h2⟩ := implPoly_loop xs c.2 xs.length 0 k (by omega) (by omega)
    rw [if_neg (by omega), if_neg (by omega), wrap64_id (by omega) (by omega), if_pos (by omega), if_pos (by omega)]
    simp only [c, and_self, decide_true, Bool.true_and]
    unfold slices_ContainsFunc_int64_int64_f46.f slices_IndexFunc_int64_int64_f46.f
    have h1' : slices_IndexFunc_int64_int64_f46.l0 k xs (xs.length : Int) 0 = some r := h1
    rw [h1']; simp only [Option.bind_some, h2, List.drop_zero, Bool.not_not]
    by_cases e : rd xs ((xs.length : Int) - 1) = 0
    · rw [if_pos e, e]; simp
    · rw [if_neg e]; simp [e]
  · simp only [c, decide_false, Bool.false_and]
    by_cases c2 : (xs.length : Int) < 2
    · rw [if_pos c2]
    · rw [if_neg c2, if_pos (by omega)]
theorem toInt64S_loop (xs : List Int) (hn : xs.length ≤ 4611686018427387904) (d : Nat) : ∀ (i : Nat) (acc : List Int) (k : Nat), acc.length = xs.length → (∀ j, j < i → acc.getD j 0 = xs.getD j 0) → i + d = xs.length → d < k → laws_toInt64S.l0 k xs acc (i : Int) = some xs := by
  induction d with
  | zero =>
    intro i acc k hl hj hd hk
    obtain ⟨k, rfl⟩ : ∃ m, k = m + 1 := ⟨k - 1, by omega⟩
    simp only [laws_toInt64S.l0]; rw [if_neg (by omega)]
    congr 1
    apply List.ext_getElem hl
    intro j h1 h2
    have := hj j (by omega)
    simpa [List.getD_eq_getElem?_getD, List.getElem?_eq_getElem, h1, h2] using this
  | succ d ih =>
    intro i acc k hl hj hd hk
    obtain ⟨k, rfl⟩ : ∃ m, k = m + 1 := ⟨k - 1, by omega⟩
    simp only [laws_toInt64S.l0]; rw [if_pos (by omega), if_pos (by omega), if_pos (by omega), wrap64_id (by omega) (by omega)]
    refine ih (i + 1) _ k ?_ ?_ (by omega) (by omega)
    · simpa using hl
    · intro j hji
      have hjl : j < acc.length := by omega
      by_cases e : j = i
      · subst e; simp [List.getD_eq_getElem?_getD, rd_nat, hjl]
      · have e' : ¬ i = j := fun h => e h.symm
        have := hj j (by omega)
        simpa [List.getD_eq_getElem?_getD, List.getElem?_set, e'] using this
theorem toInt64S_ev (xs : List Int) (hn : xs.length ≤ 17592186044416) : Ev (fun k => laws_toInt64S.f k xs) xs := by
  refine ⟨xs.length + 1, fun k hk => ?_⟩
  show laws_toInt64S.f k xs = some xs
  unfold laws_toInt64S.f
  rw [if_pos (by omega), if_pos (by simp; omega)]
  exact toInt64S_loop xs (by omega) xs.length 0 _ k (by simp) (fun j h => by omega) (by omega) (by omega)
theorem eqInt64S_loop (xs : List Int) (hn : xs.length ≤ 4611686018427387904) (d : Nat) : ∀ (i : Nat) (k : Nat), i + d = xs.length → d < k → laws_eqInt64S.l0 k xs xs (i : Int) = some true := by
  induction d with
  | zero =>
    intro i k hd hk
    obtain ⟨k, rfl⟩ : ∃ m, k = m + 1 := ⟨k - 1, by omega⟩
    simp only [laws_eqInt64S.l0]; rw [if_neg (by omega)]
  | succ d ih =>
    intro i k hd hk
    obtain ⟨k, rfl⟩ : ∃ m, k = m + 1 := ⟨k - 1, by omega⟩
    simp only [laws_eqInt64S.l0]; rw [if_pos (by omega), if_pos (by omega), if_pos (by omega), if_pos trivial, wrap64_id (by omega) (by omega)]
    exact ih (i + 1) k (by omega) (by omega)
theorem eqInt64S_ev (xs : List Int) (hn : xs.length ≤ 4611686018427387904) : Ev (fun k => laws_eqInt64S.f k xs xs) true := by
  refine ⟨xs.length + 1, fun k hk => ?_⟩
  show laws_eqInt64S.f k xs xs = some true
  unfold laws_eqInt64S.f
  rw [if_pos rfl]
  exact eqInt64S_loop xs hn xs.length 0 k (by omega) (by omega)
theorem FnExactValidPoly : laws_FnExactValidPoly.Pure := by
  intro l0 ⟨hl, hw⟩
  apply Ev.rounds (r := true)
  by_cases c : (l0.length : Int) > 1048576
  · exact ⟨0, fun k _ => by show laws_FnExactValidPoly.f k l0 = _; unfold laws_FnExactValidPoly.f; rw [if_pos c]⟩
  · refine Ev.congr (fun k => by unfold laws_FnExactValidPoly.f; rw [if_neg c]) ?_
    refine Ev.bind (toInt64S_ev l0 (by omega)) (Ev.bind (Ev.bind (specPoly_ev l0) (Ev.now _)) (Ev.bind (toInt64S_ev l0 (by omega)) (Ev.bind (implPoly_ev l0) ?_)))
    refine Ev.congr (fun k => if_neg (by simp)) ?_
    refine Ev.bind (toInt64S_ev l0 (by omega)) (Ev.bind (eqInt64S_ev l0 (by omega)) ?_)
    exact ⟨0, fun k _ => rfl⟩
end Go.Proofs.Ytpijklhonoekbaa.Pure
