/- The program's SlopeOf returns what the reference's returns, for every list of int64. -/
import Derived.Test.YtpijklhonoekbaaMFnExactSlopeOfx3
import Derived.Test.YtpijklhonoekbaaMOpen
namespace Go.Proofs.Ytpijklhonoekbaa.Pure
open Go.RowKit Go.Proofs.Ytpijklhonoekbaa.MFnExactSlopeOf Go.Proofs.Ytpijklhonoekbaa.MOpen Go.Proofs.YtpijklhonoekbaaW.PrintWords Go.Proofs.YtpijklhonoekbaaW.PrintLast Go.Proofs.YtpijklhonoekbaaW.PrintMore
set_option linter.unusedVariables false
set_option linter.unusedSimpArgs false
theorem wrap64_id {n : Int} (h0 : -9223372036854775808 ≤ n) (h1 : n ≤ 9223372036854775807) : wrap64 n = n := by
  unfold wrap64; omega
theorem rd_nat (xs : List Int) (i : Nat) : rd xs (i : Int) = xs.getD i 0 := by simp [rd]
theorem rd_get (xs : List Int) (i : Nat) (h : i < xs.length) : rd xs (i : Int) = xs[i] := by simp [rd, h]
theorem ev_k {α : Type} {f : Nat → Option α} {r : α} (n : Nat) (h : ∀ k, n ≤ k → f k = some r) : Ev f r := ⟨n, h⟩
def inCoef (x : Int) : Bool := decide (-1000000 ≤ x ∧ x ≤ 1000000)
/-- What both sides say of a polynomial. -/
def polyOk (xs : List Int) : Bool := decide (2 ≤ xs.length ∧ xs.length ≤ 9) && (!(rd xs ((xs.length : Int) - 1) == 0) && xs.all inCoef)
theorem l00In_some (a b c : Int) : spec_l00In.f a b c = some (decide (b ≤ a ∧ a ≤ c)) := by
  unfold spec_l00In.f
  split <;> simp <;> omega
theorem within_some (a b c : Int) : impl_within.f a b c = some (decide (b ≤ a ∧ a ≤ c)) := l00In_some a b c
theorem specPoly_loop (xs : List Int) (hn : xs.length ≤ 9) (d : Nat) : ∀ (i k : Nat), i + d = xs.length → d < k → spec_l05Ok.l0 k xs (i : Int) = some ((xs.drop i).all inCoef) := by
  induction d with
  | zero =>
    intro i k hd hk
    obtain ⟨k, rfl⟩ : ∃ m, k = m + 1 := ⟨k - 1, by omega⟩
    simp only [spec_l05Ok.l0]; rw [if_neg (by omega), List.drop_eq_nil_of_le (by omega)]; rfl
  | succ d ih =>
    intro i k hd hk
    obtain ⟨k, rfl⟩ : ∃ m, k = m + 1 := ⟨k - 1, by omega⟩
    have hi : i < xs.length := by omega
    simp only [spec_l05Ok.l0]; rw [if_pos (by omega), if_pos (by omega), rd_get xs i hi, l00In_some, wrap64_id (by omega) (by omega), List.drop_eq_getElem_cons hi, List.all_cons]
    have := ih (i + 1) k (by omega) (by omega)
    simp only [Option.bind_some]
    show (if inCoef xs[i] = true then _ else _) = _
    cases inCoef xs[i]
    · simp
    · simpa using this
theorem implPoly_loop (xs : List Int) (hn : xs.length ≤ 9) (d : Nat) : ∀ (i k : Nat), i + d = xs.length → d < k → ∃ r : Int, slices_IndexFunc_int64_int64_f46.l0 k xs (xs.length : Int) (i : Int) = some r ∧ decide (r ≥ 0) = !((xs.drop i).all inCoef) := by
  induction d with
  | zero =>
    intro i k hd hk
    obtain ⟨k, rfl⟩ : ∃ m, k = m + 1 := ⟨k - 1, by omega⟩
    simp only [slices_IndexFunc_int64_int64_f46.l0]; rw [if_neg (by omega), List.drop_eq_nil_of_le (by omega)]
    exact ⟨_, rfl, by simp⟩
  | succ d ih =>
    intro i k hd hk
    obtain ⟨k, rfl⟩ : ∃ m, k = m + 1 := ⟨k - 1, by omega⟩
    have hi : i < xs.length := by omega
    obtain ⟨r, h1, h2⟩ := ih (i + 1) k (by omega) (by omega)
    simp only [slices_IndexFunc_int64_int64_f46.l0, impl_ValidPoly_1.f]; rw [if_pos (by omega), if_pos (by omega), if_pos (by omega), rd_get xs i hi, within_some, wrap64_id (by omega) (by omega), List.drop_eq_getElem_cons hi, List.all_cons]
    simp only [Option.bind_some]
    show ∃ r, (if (!inCoef xs[i]) = true then _ else _) = some r ∧ _
    cases inCoef xs[i]
    · exact ⟨_, rfl, by simp⟩
    · exact ⟨r, by simpa using h1, by simpa using h2⟩
theorem specPoly_ev (xs : List Int) : Ev (fun k => spec_l05Ok.f k xs) (polyOk xs) := by
  refine ev_k (xs.length + 3) (fun k hk => ?_)
  obtain ⟨k, rfl⟩ : ∃ m, k = m + 1 := ⟨k - 1, by omega⟩
  show spec_l05Ok.f (k + 1) xs = _
  unfold spec_l05Ok.f polyOk
  rw [l00In_some]; simp only [Option.bind_some]
  by_cases c : 2 ≤ xs.length ∧ xs.length ≤ 9
  · have hl := specPoly_loop xs c.2 xs.length 0 k (by omega) (by omega)
    rw [if_pos (by simp; omega), wrap64_id (by omega) (by omega), if_pos (by omega), if_pos (by omega)]
    simp only [spec_l05Ok.j0]
    simp only [c, and_self, decide_true, Bool.true_and]
    cases (rd xs ((xs.length : Int) - 1) == 0)
    · simpa using hl
    · simp
  · rw [if_neg (by simp; omega)]
    simp only [spec_l05Ok.j0]
    simp [c]
theorem implPoly_ev (xs : List Int) : Ev (fun k => impl_ValidPoly.f k xs) (polyOk xs) := by
  refine ev_k (xs.length + 3) (fun k hk => ?_)
  show impl_ValidPoly.f k xs = _
  unfold impl_ValidPoly.f polyOk
  by_cases c : 2 ≤ xs.length ∧ xs.length ≤ 9
  · obtain ⟨r, h1, h2⟩ := implPoly_loop xs c.2 xs.length 0 k (by omega) (by omega)
    rw [if_neg (by omega), if_neg (by omega), wrap64_id (by omega) (by omega), if_pos (by omega), if_pos (by omega)]
    simp only [c, and_self, decide_true, Bool.true_and]
    unfold slices_ContainsFunc_int64_int64_f46.f slices_IndexFunc_int64_int64_f46.f
    have h1' : slices_IndexFunc_int64_int64_f46.l0 k xs (xs.length : Int) 0 = some r := h1
    rw [h1']; simp only [Option.bind_some, h2, List.drop_zero, Bool.not_not]
    by_cases e : rd xs ((xs.length : Int) - 1) = 0
    · rw [if_pos e, e]; simp
    · rw [if_neg e]; simp [e]
  · simp only [c, decide_false, Bool.false_and]
    by_cases c2 : (xs.length : Int) < 2
    · rw [if_pos c2]
    · rw [if_neg c2, if_pos (by omega)]
theorem toInt64S_loop (xs : List Int) (hn : xs.length ≤ 4611686018427387904) (d : Nat) : ∀ (i : Nat) (acc : List Int) (k : Nat), acc.length = xs.length → (∀ j, j < i → acc.getD j 0 = xs.getD j 0) → i + d = xs.length → d < k → laws_toInt64S.l0 k xs acc (i : Int) = some xs := by
  induction d with
  | zero =>
    intro i acc k hl hj hd hk
    obtain ⟨k, rfl⟩ : ∃ m, k = m + 1 := ⟨k - 1, by omega⟩
    simp only [laws_toInt64S.l0]; rw [if_neg (by omega)]
    congr 1
    apply List.ext_getElem hl
    intro j h1 h2
    have := hj j (by omega)
    simpa [List.getD_eq_getElem?_getD, List.getElem?_eq_getElem, h1, h2] using this
  | succ d ih =>
    intro i acc k hl hj hd hk
    obtain ⟨k, rfl⟩ : ∃ m, k = m + 1 := ⟨k - 1, by omega⟩
    simp only [laws_toInt64S.l0]; rw [if_pos (by omega), if_pos (by omega), if_pos (by omega), wrap64_id (by omega) (by omega)]
    refine ih (i + 1) _ k ?_ ?_ (by omega) (by omega)
    · simpa using hl
    · intro j hji
      have hjl : j < acc.length := by omega
      by_cases e : j = i
      · subst e; simp [List.getD_eq_getElem?_getD, rd_nat, hjl]
      · have e' : ¬ i = j := fun h => e h.symm
        have := hj j (by omega)
        simpa [List.getD_eq_getElem?_getD, List.getElem?_set, e'] using this
theorem toInt64S_ev (xs : List Int) (hn : xs.length ≤ 17592186044416) : Ev (fun k => laws_toInt64S.f k xs) xs := by
  refine ⟨xs.length + 1, fun k hk => ?_⟩
  show laws_toInt64S.f k xs = some xs
  unfold laws_toInt64S.f
  rw [if_pos (by omega), if_pos (by simp; omega)]
  exact toInt64S_loop xs (by omega) xs.length 0 _ k (by simp) (fun j h => by omega) (by omega) (by omega)
theorem eqInt64S_loop (xs : List Int) (hn : xs.length ≤ 4611686018427387904) (d : Nat) : ∀ (i : Nat) (k : Nat), i + d = xs.length → d < k → laws_eqInt64S.l0 k xs xs (i : Int) = some true := by
  induction d with
  | zero =>
    intro i k hd hk
    obtain ⟨k, rfl⟩ : ∃ m, k = m + 1 := ⟨k - 1, by omega⟩
    simp only [laws_eqInt64S.l0]; rw [if_neg (by omega)]
  | succ d ih =>
    intro i k hd hk
    obtain ⟨k, rfl⟩ : ∃ m, k = m + 1 := ⟨k - 1, by omega⟩
    simp only [laws_eqInt64S.l0]; rw [if_pos (by omega), if_pos (by omega), if_pos (by omega), if_pos trivial, wrap64_id (by omega) (by omega)]
    exact ih (i + 1) k (by omega) (by omega)
theorem eqInt64S_ev (xs : List Int) (hn : xs.length ≤ 4611686018427387904) : Ev (fun k => laws_eqInt64S.f k xs xs) true := by
  refine ⟨xs.length + 1, fun k hk => ?_⟩
  show laws_eqInt64S.f k xs xs = some true
  unfold laws_eqInt64S.f
  rw [if_pos rfl]
  exact eqInt64S_loop xs hn xs.length 0 k (by omega) (by omega)
theorem markInt64S_loop (d : Nat) : ∀ (i : Nat) (xs : List Int) (a : Int) (k : Nat), 0 ≤ a → a + xs.length ≤ 4611686018427387904 → i + d = xs.length → (∀ j, j < i → xs.getD j 0 = a + j) → d < k → laws_markInt64S.l0 k xs (a + i) (i : Int) = some (a + xs.length, (List.range xs.length).map (fun j : Nat => a + (j : Int))) := by
  induction d with
  | zero =>
    intro i xs a k h0 ha hd hj hk
    obtain ⟨k, rfl⟩ : ∃ m, k = m + 1 := ⟨k - 1, by omega⟩
    simp only [laws_markInt64S.l0]; rw [if_neg (by omega)]
    have e : xs = (List.range xs.length).map (fun j : Nat => a + (j : Int)) := by
      apply List.ext_getElem (by simp)
      intro j h1 h2
      have := hj j (by omega)
      simpa [List.getD_eq_getElem?_getD, List.getElem?_eq_getElem, h1, h2] using this
    rw [← e, show i = xs.length by omega]
  | succ d ih =>
    intro i xs a k h0 ha hd hj hk
    obtain ⟨k, rfl⟩ : ∃ m, k = m + 1 := ⟨k - 1, by omega⟩
    simp only [laws_markInt64S.l0]; rw [if_pos (by omega), if_pos (by omega), wrap64_id (by omega) (by omega), wrap64_id (by omega) (by omega)]
    have := ih (i + 1) (xs.set i (a + i)) a k h0 (by simpa using ha) (by simp; omega) ?_ (by omega)
    · simpa [Int.add_assoc] using this
    · intro j hji
      have hjl : j < xs.length := by omega
      by_cases e : j = i
      · subst e; simp [List.getD_eq_getElem?_getD, hjl]
      · have e' : ¬ i = j := fun h => e h.symm
        have := hj j (by omega)
        simpa [List.getD_eq_getElem?_getD, List.getElem?_set, e'] using this
theorem markInt64S_ev (xs : List Int) (a : Int) (h0 : 0 ≤ a) (ha : a + xs.length ≤ 4611686018427387904) : Ev (fun k => laws_markInt64S.f k xs a) (a + xs.length, (List.range xs.length).map (fun j : Nat => a + (j : Int))) := by
  refine ⟨xs.length + 1, fun k hk => ?_⟩
  show laws_markInt64S.f k xs a = _
  unfold laws_markInt64S.f
  have := markInt64S_loop xs.length 0 xs a k h0 ha (by omega) (fun j h => by omega) (by omega)
  simpa using this
theorem heldInt64S_loop (n : Nat) (a : Int) (h0 : 0 ≤ a) (ha : a + n ≤ 4611686018427387904) (d : Nat) : ∀ (i : Nat) (k : Nat), i + d = n → d < k → laws_heldInt64S.l0 k ((List.range n).map (fun j : Nat => a + (j : Int))) (a + i) (i : Int) = some (a + n) := by
  induction d with
  | zero =>
    intro i k hd hk
    obtain ⟨k, rfl⟩ : ∃ m, k = m + 1 := ⟨k - 1, by omega⟩
    simp only [laws_heldInt64S.l0]; rw [if_neg (by simp; omega), show i = n by omega]
  | succ d ih =>
    intro i k hd hk
    obtain ⟨k, rfl⟩ : ∃ m, k = m + 1 := ⟨k - 1, by omega⟩
    simp only [laws_heldInt64S.l0]; rw [if_pos (by simp; omega), if_pos (by omega), if_pos ?_, wrap64_id (by omega) (by omega), wrap64_id (by omega) (by omega)]
    · have := ih (i + 1) k (by omega) (by omega)
      simpa [Int.add_assoc] using this
    · have hi : i < n := by omega
      rw [rd_nat]; simp [List.getD_eq_getElem?_getD, hi]
theorem heldInt64S_ev (n : Nat) (a : Int) (h0 : 0 ≤ a) (ha : a + n ≤ 4611686018427387904) : Ev (fun k => laws_heldInt64S.f k ((List.range n).map (fun j : Nat => a + (j : Int))) a) (a + n) := by
  refine ⟨n + 1, fun k hk => ?_⟩
  show laws_heldInt64S.f k _ a = _
  unfold laws_heldInt64S.f
  have := heldInt64S_loop n a h0 ha n 0 k (by omega) (by omega)
  simpa using this
/-- A list of n elements of which the first i are told. -/
def built {α : Type} (g : Nat → α) (z : α) (n i : Nat) : List α := (List.range i).map g ++ List.replicate (n - i) z
theorem built_zero {α : Type} (g : Nat → α) (z : α) (n : Nat) : built g z n 0 = List.replicate n z := by simp [built]
theorem built_all {α : Type} (g : Nat → α) (z : α) (n : Nat) : built g z n n = (List.range n).map g := by simp [built]
theorem built_length {α : Type} (g : Nat → α) (z : α) (n i : Nat) (h : i ≤ n) : (built g z n i).length = n := by simp [built]; omega
theorem built_set {α : Type} (g : Nat → α) (z : α) (n i : Nat) (h : i < n) : (built g z n i).set i (g i) = built g z n (i + 1) := by
  unfold built
  rw [List.set_append_right _ _ (by simp), show n - i = (n - (i + 1)) + 1 by omega, List.replicate_succ]
  simp [List.range_succ]
def slopeAt (xs : List Int) (i : Nat) : Int := wrap64 (((i : Int) + 1) * rd xs ((i : Int) + 1))
def slopeList (xs : List Int) : List Int := (List.range (xs.length - 1)).map (slopeAt xs)
theorem specSlope_loop (xs : List Int) (hn : xs.length ≤ 9) (d : Nat) : ∀ (i k : Nat), i + 1 + d = xs.length → d < k → spec_l05Slope.l0 k xs ((List.range i).map (slopeAt xs)) ((i : Int) + 1) = some (slopeList xs) := by
  induction d with
  | zero =>
    intro i k hd hk
    obtain ⟨k, rfl⟩ : ∃ m, k = m + 1 := ⟨k - 1, by omega⟩
    simp only [spec_l05Slope.l0]; rw [if_neg (by omega)]
    unfold slopeList; rw [show xs.length - 1 = i by omega]
  | succ d ih =>
    intro i k hd hk
    obtain ⟨k, rfl⟩ : ∃ m, k = m + 1 := ⟨k - 1, by omega⟩
    simp only [spec_l05Slope.l0]; rw [if_pos (by omega), if_pos (by omega), if_pos (by simp; omega), wrap64_id (n := (i : Int) + 1 + 1) (by omega) (by omega)]
    have := ih (i + 1) k (by omega) (by omega)
    rw [List.range_succ, List.map_append] at this
    exact this
theorem implSlope_loop (xs : List Int) (hn : xs.length ≤ 9) (d : Nat) : ∀ (i k : Nat), i + 1 + d = xs.length → d < k → impl_slope.l0 k xs (built (slopeAt xs) 0 (xs.length - 1) i) ((xs.length : Int) - 1) (i : Int) = some (slopeList xs) := by
  induction d with
  | zero =>
    intro i k hd hk
    obtain ⟨k, rfl⟩ : ∃ m, k = m + 1 := ⟨k - 1, by omega⟩
    simp only [impl_slope.l0]; rw [if_neg (by omega)]
    rw [show i = xs.length - 1 by omega, built_all]; rfl
  | succ d ih =>
    intro i k hd hk
    obtain ⟨k, rfl⟩ : ∃ m, k = m + 1 := ⟨k - 1, by omega⟩
    have hb := built_length (slopeAt xs) 0 (xs.length - 1) i (by omega)
    simp only [impl_slope.l0]; rw [wrap64_id (n := (i : Int) + 1) (by omega) (by omega), if_pos (by omega), if_pos (by omega), if_pos (by omega), if_pos (by omega), if_pos (by omega)]
    have := ih (i + 1) k (by omega) (by omega)
    rw [← built_set _ _ _ _ (by omega)] at this
    exact this
theorem slope_ev (xs : List Int) : ∃ r : List Int × Int, r.1.length ≤ 9 ∧ Ev (fun k => spec_SlopeOf.f k xs) r ∧ Ev (fun k => impl_SlopeOf.f k xs) r := by
  by_cases c : polyOk xs = true
  · have hc : 2 ≤ xs.length ∧ xs.length ≤ 9 := by
      unfold polyOk at c; simp at c; omega
    refine ⟨(slopeList xs, 0), by simp [slopeList]; omega, ?_, ?_⟩
    · refine Ev.congr (fun k => by unfold spec_SlopeOf.f; rfl) (Ev.bind (specPoly_ev xs) ?_)
      rw [c]; refine Ev.congr (fun k => if_pos rfl) (Ev.bind (a := slopeList xs) ?_ (Ev.now _))
      exact ev_k (xs.length + 1) (fun k hk => specSlope_loop xs hc.2 (xs.length - 1) 0 k (by omega) (by omega))
    · refine Ev.congr (fun k => by unfold impl_SlopeOf.f; rfl) (Ev.bind (implPoly_ev xs) ?_)
      rw [c]; refine Ev.congr (fun k => if_pos rfl) (Ev.bind (a := slopeList xs) ?_ (Ev.now _))
      refine ev_k (xs.length + 1) (fun k hk => ?_)
      have := implSlope_loop xs hc.2 (xs.length - 1) 0 k (by omega) (by omega)
      show impl_slope.f k xs = _
      unfold impl_slope.f
      rw [wrap64_id (by omega) (by omega), if_pos (by omega), if_pos (by omega)]
      simp only [Option.bind_some]
      rw [built_zero] at this
      simp only [List.length_replicate]
      rw [show ((xs.length : Int) - 1).toNat = xs.length - 1 by omega, show ((xs.length - 1 : Nat) : Int) = (xs.length : Int) - 1 by omega]
      exact this
  · simp only [Bool.not_eq_true] at c
    refine ⟨([], 1), by simp, ?_, ?_⟩
    · refine Ev.congr (fun k => by unfold spec_SlopeOf.f; rfl) (Ev.bind (specPoly_ev xs) ?_)
      rw [c]; exact Ev.now _
    · refine Ev.congr (fun k => by unfold impl_SlopeOf.f; rfl) (Ev.bind (implPoly_ev xs) ?_)
      rw [c]; exact Ev.now _
theorem FnExactSlopeOf : laws_FnExactSlopeOf.Pure := by
  intro l0 ⟨hl, hw⟩
  apply Ev.rounds (r := true)
  obtain ⟨⟨r1, r2⟩, hr, hs, hi⟩ := slope_ev l0
  simp only at hr
  by_cases c : (l0.length : Int) > 1048576
  · exact ⟨0, fun k _ => by show laws_FnExactSlopeOf.f k l0 = _; unfold laws_FnExactSlopeOf.f; rw [if_pos c]⟩
  · refine Ev.congr (fun k => by unfold laws_FnExactSlopeOf.f; rw [if_neg c]) ?_
    repeat' (first
      | (refine Ev.bind (toInt64S_ev l0 (by omega)) ?_; try dsimp only)
      | (refine Ev.bind (hs) ?_; try dsimp only)
      | (refine Ev.bind (hi) ?_; try dsimp only)
      | (refine Ev.bind (eqInt64S_ev _ (by omega)) ?_; try dsimp only)
      | (refine Ev.bind (markInt64S_ev _ 1 (by omega) (by omega)) ?_; try dsimp only)
      | (refine Ev.bind (heldInt64S_ev _ 1 (by omega) (by omega)) ?_; try dsimp only)
      | exact ⟨0, fun k _ => rfl⟩
      | (refine Ev.congr (fun k => if_pos rfl) ?_; try dsimp only)
      | (refine Ev.congr (fun k => if_neg (by simp; done)) ?_; try dsimp only)
      | (refine Ev.congr (fun k => if_neg (by omega)) ?_; try dsimp only)
      | (refine Ev.congr (fun k => if_pos (by simp; done)) ?_; try dsimp only)
      | (refine Ev.congr (fun k => if_pos (by omega)) ?_; try dsimp only)
      | (refine Ev.step (fun k => by rw [laws_FnExactSlopeOf.j0]) ?_; try dsimp only)
      | (refine Ev.step (fun k => by rw [laws_FnExactSlopeOf.j1]) ?_; try dsimp only)
      | (refine Ev.step (fun k => by rw [laws_FnExactSlopeOf.j2]) ?_; try dsimp only)
      )
end Go.Proofs.Ytpijklhonoekbaa.Pure
