/- The program's TimesPoly returns what the reference's returns, for all lists of int64. -/
import Derived.Test.YtpijklhonoekbaaMFnExactTimesPolyx4
import Derived.Test.YtpijklhonoekbaaMOpen
namespace Go.Proofs.Ytpijklhonoekbaa.Pure
open Go.RowKit Go.Proofs.Ytpijklhonoekbaa.MFnExactTimesPoly Go.Proofs.Ytpijklhonoekbaa.MOpen Go.Proofs.YtpijklhonoekbaaW.PrintWords Go.Proofs.YtpijklhonoekbaaW.PrintLast Go.Proofs.YtpijklhonoekbaaW.PrintMore
set_option linter.unusedVariables false
set_option linter.unusedSimpArgs false
theorem wrap64_id {n : Int} (h0 : -9223372036854775808 ≤ n) (h1 : n ≤ 9223372036854775807) : wrap64 n = n := by
  unfold wrap64; omega
theorem rd_nat (xs : List Int) (i : Nat) : rd xs (i : Int) = xs.getD i 0 := by simp [rd]
theorem rd_get (xs : List Int) (i : Nat) (h : i < xs.length) : rd xs (i : Int) = xs[i] := by simp [rd, h]
theorem ev_k {α : Type} {f : Nat → Option α} {r : α} (n : Nat) (h : ∀ k, n ≤ k → f k = some r) : Ev f r := ⟨n, h⟩
def inCoef (x : Int) : Bool := decide (-1000000 ≤ x ∧ x ≤ 1000000)
/-- What both sides say of a polynomial. -/
def polyOk (xs : List Int) : Bool := decide (2 ≤ xs.length ∧ xs.length ≤ 9) && (!(rd xs ((xs.length : Int) - 1) == 0) && xs.all inCoef)
theorem l00In_some (a b c : Int) : spec_l00In.f a b c = some (decide (b ≤ a ∧ a ≤ c)) := by
  unfold spec_l00In.f
  split <;> simp <;> omega
theorem within_some (a b c : Int) : impl_within.f a b c = some (decide (b ≤ a ∧ a ≤ c)) := l00In_some a b c
theorem specPoly_loop (xs : List Int) (hn : xs.length ≤ 9) (d : Nat) : ∀ (i k : Nat), i + d = xs.length → d < k → spec_l05Ok.l0 k xs (i : Int) = some ((xs.drop i).all inCoef) := by
  induction d with
  | zero =>
    intro i k hd hk
    obtain ⟨k, rfl⟩ : ∃ m, k = m + 1 := ⟨k - 1, by omega⟩
    simp only [spec_l05Ok.l0]; rw [if_neg (by omega), List.drop_eq_nil_of_le (by omega)]; rfl
  | succ d ih =>
    intro i k hd hk
    obtain ⟨k, rfl⟩ : ∃ m, k = m + 1 := ⟨k - 1, by omega⟩
    have hi : i < xs.length := by omega
    simp only [spec_l05Ok.l0]; rw [if_pos (by omega), if_pos (by omega), rd_get xs i hi, l00In_some, wrap64_id (by omega) (by omega), List.drop_eq_getElem_cons hi, List.all_cons]
    have := ih (i + 1) k (by omega) (by omega)
    simp only [Option.bind_some]
    show (if inCoef xs[i] = true then _ else _) = _
    cases inCoef xs[i]
    · simp
    · simpa using this
theorem implPoly_loop (xs : List Int) (hn : xs.length ≤ 9) (d : Nat) : ∀ (i k : Nat), i + d = xs.length → d < k → ∃ r : Int, slices_IndexFunc_int64_int64_f46.l0 k xs (xs.length : Int) (i : Int) = some r ∧ decide (r ≥ 0) = !((xs.drop i).all inCoef) := by
  induction d with
  | zero =>
    intro i k hd hk
    obtain ⟨k, rfl⟩ : ∃ m, k = m + 1 := ⟨k - 1, by omega⟩
    simp only [slices_IndexFunc_int64_int64_f46.l0]; rw [if_neg (by omega), List.drop_eq_nil_of_le (by omega)]
    exact ⟨_, rfl, by simp⟩
  | succ d ih =>
    intro i k hd hk
    obtain ⟨k, rfl⟩ : ∃ m, k = m + 1 := ⟨k - 1, by omega⟩
    have hi : i < xs.length := by omega
    obtain ⟨r, h1, h2⟩ := ih (i + 1) k (by omega) (by omega)
    simp only [slices_IndexFunc_int64_int64_f46.l0, impl_ValidPoly_1.f]; rw [if_pos (by omega), if_pos (by omega), if_pos (by omega), rd_get xs i hi, within_some, wrap64_id (by omega) (by omega), List.drop_eq_getElem_cons hi, List.all_cons]
    simp only [Option.bind_some]
    show ∃ r, (if (!inCoef xs[i]) = true then _ else _) = some r ∧ _
    cases inCoef xs[i]
    · exact ⟨_, rfl, by simp⟩
    · exact ⟨r, by simpa using h1, by simpa using h2⟩
theorem specPoly_ev (xs : List Int) : Ev (fun k => spec_l05Ok.f k xs) (polyOk xs) := by
  refine ev_k (xs.length + 3) (fun k hk => ?_)
  obtain ⟨k, rfl⟩ : ∃ m, k = m + 1 := ⟨k - 1, by omega⟩
  show spec_l05Ok.f (k + 1) xs = _
  unfold spec_l05Ok.f polyOk
  rw [l00In_some]; simp only [Option.bind_some]
  by_cases c : 2 ≤ xs.length ∧ xs.length ≤ 9
  · have hl := specPoly_loop xs c.2 xs.length 0 k (by omega) (by omega)
    rw [if_pos (by simp; omega), wrap64_id (by omega) (by omega), if_pos (by omega), if_pos (by omega)]
    simp only [spec_l05Ok.j0]
    simp only [c, and_self, decide_true, Bool.true_and]
    cases (rd xs ((xs.length : Int) - 1) == 0)
    · simpa using hl
    · simp
  · rw [if_neg (by simp; omega)]
    simp only [spec_l05Ok.j0]
    simp [c]
theorem implPoly_ev (xs : List Int) : Ev (fun k => impl_ValidPoly.f k xs) (polyOk xs) := by
  refine ev_k (xs.length + 3) (fun k hk => ?_)
  show impl_ValidPoly.f k xs = _
  unfold impl_ValidPoly.f polyOk
  by_cases c : 2 ≤ xs.length ∧ xs.length ≤ 9
  · obtain ⟨r, h1, h2⟩ := implPoly_loop xs c.2 xs.length 0 k (by omega) (by omega)
    rw [if_neg (by omega), if_neg (by omega), wrap64_id (by omega) (by omega), if_pos (by omega), if_pos (by omega)]
    simp only [c, and_self, decide_true, Bool.true_and]
    unfold slices_ContainsFunc_int64_int64_f46.f slices_IndexFunc_int64_int64_f46.f
    have h1' : slices_IndexFunc_int64_int64_f46.l0 k xs (xs.length : Int) 0 = some r := h1
    rw [h1']; simp only [Option.bind_some, h2, List.drop_zero, Bool.not_not]
    by_cases e : rd xs ((xs.length : Int) - 1) = 0
    · rw [if_pos e, e]; simp
    · rw [if_neg e]; simp [e]
  · simp only [c, decide_false, Bool.false_and]
    by_cases c2 : (xs.length : Int) < 2
    · rw [if_pos c2]
    · rw [if_neg c2, if_pos (by omega)]
theorem toInt64S_loop (xs : List Int) (hn : xs.length ≤ 4611686018427387904) (d : Nat) : ∀ (i : Nat) (acc : List Int) (k : Nat), acc.length = xs.length → (∀ j, j < i → acc.getD j 0 = xs.getD j 0) → i + d = xs.length → d < k → laws_toInt64S.l0 k xs acc (i : Int) = some xs := by
  induction d with
  | zero =>
    intro i acc k hl hj hd hk
    obtain ⟨k, rfl⟩ : ∃ m, k = m + 1 := ⟨k - 1, by omega⟩
    simp only [laws_toInt64S.l0]; rw [if_neg (by omega)]
    congr 1
    apply List.ext_getElem hl
    intro j h1 h2
    have := hj j (by omega)
    simpa [List.getD_eq_getElem?_getD, List.getElem?_eq_getElem, h1, h2] using this
  | succ d ih =>
    intro i acc k hl hj hd hk
    obtain ⟨k, rfl⟩ : ∃ m, k = m + 1 := ⟨k - 1, by omega⟩
    simp only [laws_toInt64S.l0]; rw [if_pos (by omega), if_pos (by omega), if_pos (by omega), wrap64_id (by omega) (by omega)]
    refine ih (i + 1) _ k ?_ ?_ (by omega) (by omega)
    · simpa using hl
    · intro j hji
      have hjl : j < acc.length := by omega
      by_cases e : j = i
      · subst e; simp [List.getD_eq_getElem?_getD, rd_nat, hjl]
      · have e' : ¬ i = j := fun h => e h.symm
        have := hj j (by omega)
        simpa [List.getD_eq_getElem?_getD, List.getElem?_set, e'] using this
theorem toInt64S_ev (xs : List Int) (hn : xs.length ≤ 17592186044416) : Ev (fun k => laws_toInt64S.f k xs) xs := by
  refine ⟨xs.length + 1, fun k hk => ?_⟩
  show laws_toInt64S.f k xs = some xs
  unfold laws_toInt64S.f
  rw [if_pos (by omega), if_pos (by simp; omega)]
  exact toInt64S_loop xs (by omega) xs.length 0 _ k (by simp) (fun j h => by omega) (by omega) (by omega)
theorem eqInt64S_loop (xs : List Int) (hn : xs.length ≤ 4611686018427387904) (d : Nat) : ∀ (i : Nat) (k : Nat), i + d = xs.length → d < k → laws_eqInt64S.l0 k xs xs (i : Int) = some true := by
  induction d with
  | zero =>
    intro i k hd hk
    obtain ⟨k, rfl⟩ : ∃ m, k = m + 1 := ⟨k - 1, by omega⟩
    simp only [laws_eqInt64S.l0]; rw [if_neg (by omega)]
  | succ d ih =>
    intro i k hd hk
    obtain ⟨k, rfl⟩ : ∃ m, k = m + 1 := ⟨k - 1, by omega⟩
    simp only [laws_eqInt64S.l0]; rw [if_pos (by omega), if_pos (by omega), if_pos (by omega), if_pos trivial, wrap64_id (by omega) (by omega)]
    exact ih (i + 1) k (by omega) (by omega)
theorem eqInt64S_ev (xs : List Int) (hn : xs.length ≤ 4611686018427387904) : Ev (fun k => laws_eqInt64S.f k xs xs) true := by
  refine ⟨xs.length + 1, fun k hk => ?_⟩
  show laws_eqInt64S.f k xs xs = some true
  unfold laws_eqInt64S.f
  rw [if_pos rfl]
  exact eqInt64S_loop xs hn xs.length 0 k (by omega) (by omega)
theorem markInt64S_loop (d : Nat) : ∀ (i : Nat) (xs : List Int) (a : Int) (k : Nat), 0 ≤ a → a + xs.length ≤ 4611686018427387904 → i + d = xs.length → (∀ j, j < i → xs.getD j 0 = a + j) → d < k → laws_markInt64S.l0 k xs (a + i) (i : Int) = some (a + xs.length, (List.range xs.length).map (fun j : Nat => a + (j : Int))) := by
  induction d with
  | zero =>
    intro i xs a k h0 ha hd hj hk
    obtain ⟨k, rfl⟩ : ∃ m, k = m + 1 := ⟨k - 1, by omega⟩
    simp only [laws_markInt64S.l0]; rw [if_neg (by omega)]
    have e : xs = (List.range xs.length).map (fun j : Nat => a + (j : Int)) := by
      apply List.ext_getElem (by simp)
      intro j h1 h2
      have := hj j (by omega)
      simpa [List.getD_eq_getElem?_getD, List.getElem?_eq_getElem, h1, h2] using this
    rw [← e, show i = xs.length by omega]
  | succ d ih =>
    intro i xs a k h0 ha hd hj hk
    obtain ⟨k, rfl⟩ : ∃ m, k = m + 1 := ⟨k - 1, by omega⟩
    simp only [laws_markInt64S.l0]; rw [if_pos (by omega), if_pos (by omega), wrap64_id (by omega) (by omega), wrap64_id (by omega) (by omega)]
    have := ih (i + 1) (xs.set i (a + i)) a k h0 (by simpa using ha) (by simp; omega) ?_ (by omega)
    · simpa [Int.add_assoc] using this
    · intro j hji
      have hjl : j < xs.length := by omega
      by_cases e : j = i
      · subst e; simp [List.getD_eq_getElem?_getD, hjl]
      · have e' : ¬ i = j := fun h => e h.symm
        have := hj j (by omega)
        simpa [List.getD_eq_getElem?_getD, List.getElem?_set, e'] using this
theorem markInt64S_ev (xs : List Int) (a : Int) (h0 : 0 ≤ a) (ha : a + xs.length ≤ 4611686018427387904) : Ev (fun k => laws_markInt64S.f k xs a) (a + xs.length, (List.range xs.length).map (fun j : Nat => a + (j : Int))) := by
  refine ⟨xs.length + 1, fun k hk => ?_⟩
  show laws_markInt64S.f k xs a = _
  unfold laws_markInt64S.f
  have := markInt64S_loop xs.length 0 xs a k h0 ha (by omega) (fun j h => by omega) (by omega)
  simpa using this
theorem heldInt64S_loop (n : Nat) (a : Int) (h0 : 0 ≤ a) (ha : a + n ≤ 4611686018427387904) (d : Nat) : ∀ (i : Nat) (k : Nat), i + d = n → d < k → laws_heldInt64S.l0 k ((List.range n).map (fun j : Nat => a + (j : Int))) (a + i) (i : Int) = some (a + n) := by
  induction d with
  | zero =>
    intro i k hd hk
    obtain ⟨k, rfl⟩ : ∃ m, k = m + 1 := ⟨k - 1, by omega⟩
    simp only [laws_heldInt64S.l0]; rw [if_neg (by simp; omega), show i = n by omega]
  | succ d ih =>
    intro i k hd hk
    obtain ⟨k, rfl⟩ : ∃ m, k = m + 1 := ⟨k - 1, by omega⟩
    simp only [laws_heldInt64S.l0]; rw [if_pos (by simp; omega), if_pos (by omega), if_pos ?_, wrap64_id (by omega) (by omega), wrap64_id (by omega) (by omega)]
    · have := ih (i + 1) k (by omega) (by omega)
      simpa [Int.add_assoc] using this
    · have hi : i < n := by omega
      rw [rd_nat]; simp [List.getD_eq_getElem?_getD, hi]
theorem heldInt64S_ev (n : Nat) (a : Int) (h0 : 0 ≤ a) (ha : a + n ≤ 4611686018427387904) : Ev (fun k => laws_heldInt64S.f k ((List.range n).map (fun j : Nat => a + (j : Int))) a) (a + n) := by
  refine ⟨n + 1, fun k hk => ?_⟩
  show laws_heldInt64S.f k _ a = _
  unfold laws_heldInt64S.f
  have := heldInt64S_loop n a h0 ha n 0 k (by omega) (by omega)
  simpa using this
def TimesTo (x0 x1 out : List Int) (i : Int) : Prop := ∃ r : List Int × Int, r.1.length ≤ 17 ∧ Ev (fun k => spec_TimesPoly.l0 k x0 x1 out i) r ∧ Ev (fun k => impl_TimesPoly.l0 k x1 out x0 (x0.length : Int) i) r
def TimesIn (x0 x1 out : List Int) (i j : Int) : Prop := ∃ r : List Int × Int, r.1.length ≤ 17 ∧ Ev (fun k => spec_TimesPoly.l1 k x0 x1 out i j) r ∧ Ev (fun k => impl_TimesPoly.l1 k x1 out i (rd x0 i) x0 (x0.length : Int) i x1 (x1.length : Int) j) r
theorem times_in (x0 x1 : List Int) (h0 : 2 ≤ x0.length ∧ x0.length ≤ 9) (h1 : 2 ≤ x1.length ∧ x1.length ≤ 9) (i : Nat) (hi : i < x0.length) (hnext : ∀ out : List Int, out.length = x0.length + x1.length - 1 → TimesTo x0 x1 out ((i : Int) + 1)) (d : Nat) :
    ∀ (j : Nat) (out : List Int), j + d = x1.length → out.length = x0.length + x1.length - 1 → TimesIn x0 x1 out (i : Int) (j : Int) := by
  induction d with
  | zero =>
    intro j out hd ho
    obtain ⟨r, hr, hs, hm⟩ := hnext out ho
    refine ⟨r, hr, ?_, ?_⟩
    · refine Ev.step (fun k => by rw [spec_TimesPoly.l1]) (Ev.congr (fun k => if_neg (by omega)) ?_)
      rw [wrap64_id (by omega) (by omega)]; exact hs
    · refine Ev.step (fun k => by rw [impl_TimesPoly.l1]) (Ev.congr (fun k => if_neg (by omega)) ?_)
      rw [wrap64_id (by omega) (by omega)]; exact hm
  | succ d ih =>
    intro j out hd ho
    have w1 : wrap64 ((i : Int) + (j : Int)) = (i : Int) + (j : Int) := wrap64_id (by omega) (by omega)
    have w2 : wrap64 ((j : Int) + 1) = (j : Int) + 1 := wrap64_id (by omega) (by omega)
    obtain ⟨r, hr, hs, hm⟩ := ih (j + 1) (out.set ((i : Int) + (j : Int)).toNat (wrap64 (rd out ((i : Int) + (j : Int)) + wrap64 (rd x0 i * rd x1 j)))) (by omega) (by simpa using ho)
    refine ⟨r, hr, ?_, ?_⟩
    · refine Ev.step (fun k => by rw [spec_TimesPoly.l1]) ?_
      rw [w1, w2]
      refine Ev.congr (fun k => if_pos (by omega)) (Ev.congr (fun k => if_pos (by omega)) (Ev.congr (fun k => if_pos (by omega)) (Ev.congr (fun k => if_pos (by omega)) (Ev.congr (fun k => if_pos (by omega)) (Ev.congr (fun k => if_pos (by omega)) hs)))))
    · refine Ev.step (fun k => by rw [impl_TimesPoly.l1]) ?_
      rw [w1, w2]
      refine Ev.congr (fun k => if_pos (by omega)) (Ev.congr (fun k => if_pos (by omega)) (Ev.congr (fun k => if_pos (by omega)) (Ev.congr (fun k => if_pos (by omega)) (Ev.congr (fun k => if_pos (by omega)) hm))))
theorem times_to (x0 x1 : List Int) (h0 : 2 ≤ x0.length ∧ x0.length ≤ 9) (h1 : 2 ≤ x1.length ∧ x1.length ≤ 9) (d : Nat) :
    ∀ (i : Nat) (out : List Int), i + d = x0.length → out.length = x0.length + x1.length - 1 → TimesTo x0 x1 out (i : Int) := by
  induction d with
  | zero =>
    intro i out hd ho
    refine ⟨if polyOk out = true then (out, 0) else ([], 3), by split <;> simp; omega, ?_, ?_⟩
    · refine Ev.step (fun k => by rw [spec_TimesPoly.l0]) (Ev.congr (fun k => if_neg (by omega)) (Ev.bind (specPoly_ev out) ?_))
      cases polyOk out <;> exact Ev.now _
    · refine Ev.step (fun k => by rw [impl_TimesPoly.l0]) (Ev.congr (fun k => if_neg (by omega)) (Ev.bind (implPoly_ev out) ?_))
      cases polyOk out <;> exact Ev.now _
  | succ d ih =>
    intro i out hd ho
    obtain ⟨r, hr, hs, hm⟩ := times_in x0 x1 h0 h1 i (by omega) (fun out ho => ih (i + 1) out (by omega) ho) x1.length 0 out (by omega) ho
    refine ⟨r, hr, ?_, ?_⟩
    · refine Ev.step (fun k => by rw [spec_TimesPoly.l0]) (Ev.congr (fun k => if_pos (by omega)) ?_)
      exact hs
    · refine Ev.step (fun k => by rw [impl_TimesPoly.l0]) (Ev.congr (fun k => if_pos (by omega)) (Ev.congr (fun k => if_pos (by omega)) (Ev.congr (fun k => if_pos (by omega)) ?_)))
      exact hm
theorem times_ev (x0 x1 : List Int) : ∃ r : List Int × Int, r.1.length ≤ 17 ∧ Ev (fun k => spec_TimesPoly.f k x0 x1) r ∧ Ev (fun k => impl_TimesPoly.f k x0 x1) r := by
  have hb : ∀ xs, polyOk xs = true → 2 ≤ xs.length ∧ xs.length ≤ 9 := fun xs c => by
    unfold polyOk at c; simp at c; omega
  by_cases c0 : polyOk x0 = true
  · by_cases c1 : polyOk x1 = true
    · have h0 := hb x0 c0
      have h1 := hb x1 c1
      have w1 : wrap64 ((x0.length : Int) + (x1.length : Int)) = (x0.length : Int) + (x1.length : Int) := wrap64_id (by omega) (by omega)
      have w2 : wrap64 ((x0.length : Int) + (x1.length : Int) - 1) = (x0.length : Int) + (x1.length : Int) - 1 := wrap64_id (by omega) (by omega)
      obtain ⟨r, hr, hs, hm⟩ := times_to x0 x1 h0 h1 x0.length 0 (List.replicate ((x0.length : Int) + (x1.length : Int) - 1).toNat 0) (by omega) (by simp; omega)
      refine ⟨r, hr, ?_, ?_⟩
      · refine Ev.congr (fun k => by unfold spec_TimesPoly.f; rfl) (Ev.bind (specPoly_ev x0) ?_)
        rw [c0]; refine Ev.congr (fun k => if_pos rfl) (Ev.bind (specPoly_ev x1) ?_)
        rw [c1]; refine Ev.step (fun k => by rw [spec_TimesPoly.j0]) (Ev.congr (fun k => if_neg (by simp)) ?_)
        rw [w1, w2]; exact Ev.congr (fun k => if_pos (by omega)) (Ev.congr (fun k => if_pos (by omega)) hs)
      · refine Ev.congr (fun k => by unfold impl_TimesPoly.f; rfl) (Ev.bind (implPoly_ev x0) ?_)
        rw [c0]; refine Ev.congr (fun k => if_pos rfl) (Ev.bind (implPoly_ev x1) ?_)
        rw [c1]; refine Ev.step (fun k => by rw [impl_TimesPoly.j0]) (Ev.congr (fun k => if_neg (by simp)) ?_)
        rw [w1, w2]; exact Ev.congr (fun k => if_pos (by omega)) (Ev.congr (fun k => if_pos (by omega)) hm)
    · simp only [Bool.not_eq_true] at c1
      refine ⟨([], 1), by simp, ?_, ?_⟩
      · refine Ev.congr (fun k => by unfold spec_TimesPoly.f; rfl) (Ev.bind (specPoly_ev x0) ?_)
        rw [c0]; refine Ev.congr (fun k => if_pos rfl) (Ev.bind (specPoly_ev x1) ?_)
        rw [c1]; exact Ev.step (fun k => by rw [spec_TimesPoly.j0]) (Ev.congr (fun k => if_pos (by simp)) (Ev.now _))
      · refine Ev.congr (fun k => by unfold impl_TimesPoly.f; rfl) (Ev.bind (implPoly_ev x0) ?_)
        rw [c0]; refine Ev.congr (fun k => if_pos rfl) (Ev.bind (implPoly_ev x1) ?_)
        rw [c1]; exact Ev.step (fun k => by rw [impl_TimesPoly.j0]) (Ev.congr (fun k => if_pos (by simp)) (Ev.now _))
  · simp only [Bool.not_eq_true] at c0
    refine ⟨([], 1), by simp, ?_, ?_⟩
    · refine Ev.congr (fun k => by unfold spec_TimesPoly.f; rfl) (Ev.bind (specPoly_ev x0) ?_)
      rw [c0]; exact Ev.congr (fun k => if_neg (by simp)) (Ev.step (fun k => by rw [spec_TimesPoly.j0]) (Ev.congr (fun k => if_pos (by simp)) (Ev.now _)))
    · refine Ev.congr (fun k => by unfold impl_TimesPoly.f; rfl) (Ev.bind (implPoly_ev x0) ?_)
      rw [c0]; exact Ev.congr (fun k => if_neg (by simp)) (Ev.step (fun k => by rw [impl_TimesPoly.j0]) (Ev.congr (fun k => if_pos (by simp)) (Ev.now _)))
theorem FnExactTimesPoly : laws_FnExactTimesPoly.Pure := by
  intro l0 l1 ⟨hl, hw⟩ ⟨hl1, hw1⟩
  apply Ev.rounds (r := true)
  obtain ⟨⟨r1, r2⟩, hr, hs, hi⟩ := times_ev l0 l1
  simp only at hr
  by_cases c : (l0.length : Int) > 1048576
  · exact ⟨0, fun k _ => by show laws_FnExactTimesPoly.f k l0 l1 = _; unfold laws_FnExactTimesPoly.f; rw [if_pos c]⟩
  by_cases c1 : (l1.length : Int) > 1048576
  · exact ⟨0, fun k _ => by show laws_FnExactTimesPoly.f k l0 l1 = _; unfold laws_FnExactTimesPoly.f; rw [if_neg c, if_pos c1]⟩
  · refine Ev.congr (fun k => by unfold laws_FnExactTimesPoly.f; rw [if_neg c, if_neg c1]) ?_
    repeat' (first
      | (refine Ev.bind (toInt64S_ev l0 (by omega)) ?_; try dsimp only)
      | (refine Ev.bind (toInt64S_ev l1 (by omega)) ?_; try dsimp only)
      | (refine Ev.bind (hs) ?_; try dsimp only)
      | (refine Ev.bind (hi) ?_; try dsimp only)
      | (refine Ev.bind (eqInt64S_ev _ (by omega)) ?_; try dsimp only)
      | (refine Ev.bind (markInt64S_ev _ _ (by omega) (by omega)) ?_; try dsimp only)
      | (refine Ev.bind (heldInt64S_ev _ 1 (by omega) (by omega)) ?_; try dsimp only)
      | exact ⟨0, fun k _ => rfl⟩
      | (refine Ev.congr (fun k => if_pos rfl) ?_; try dsimp only)
      | (refine Ev.congr (fun k => if_neg (by simp; done)) ?_; try dsimp only)
      | (refine Ev.congr (fun k => if_neg (by omega)) ?_; try dsimp only)
      | (refine Ev.congr (fun k => if_pos (by simp; done)) ?_; try dsimp only)
      | (refine Ev.congr (fun k => if_pos (by omega)) ?_; try dsimp only)
      | (refine Ev.step (fun k => by rw [laws_FnExactTimesPoly.j0]) ?_; try dsimp only)
      | (refine Ev.step (fun k => by rw [laws_FnExactTimesPoly.j1]) ?_; try dsimp only)
      | (refine Ev.step (fun k => by rw [laws_FnExactTimesPoly.j2]) ?_; try dsimp only)
      )
end Go.Proofs.Ytpijklhonoekbaa.Pure
