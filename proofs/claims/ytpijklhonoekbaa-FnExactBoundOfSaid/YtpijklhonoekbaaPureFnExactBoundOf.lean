/- The program's BoundOf returns what the reference's returns, for every list of int64. -/
import Derived.Test.YtpijklhonoekbaaMFnExactBoundOfx2
import Derived.Test.YtpijklhonoekbaaMOpen
namespace Go.Proofs.Ytpijklhonoekbaa.Pure
open Go.RowKit Go.Proofs.Ytpijklhonoekbaa.MFnExactBoundOf Go.Proofs.Ytpijklhonoekbaa.MOpen Go.Proofs.YtpijklhonoekbaaW.PrintWords Go.Proofs.YtpijklhonoekbaaW.PrintLast Go.Proofs.YtpijklhonoekbaaW.PrintMore
set_option linter.unusedVariables false
set_option linter.unusedSimpArgs false
theorem wrap64_id {n : Int} (h0 : -9223372036854775808 ≤ n) (h1 : n ≤ 9223372036854775807) : wrap64 n = n := by
  unfold wrap64; omega
theorem rd_nat (xs : List Int) (i : Nat) : rd xs (i : Int) = xs.getD i 0 := by simp [rd]
theorem rd_get (xs : List Int) (i : Nat) (h : i < xs.length) : rd xs (i : Int) = xs[i] := by simp [rd, h]
theorem ev_k {α : Type} {f : Nat → Option α} {r : α} (n : Nat) (h : ∀ k, n ≤ k → f k = some r) : Ev f r := ⟨n, h⟩
def inCoef (x : Int) : Bool := decide (-1000000 ≤ x ∧ x ≤ 1000000)
/-- What both sides say of a polynomial. -/
def polyOk (xs : List Int) : Bool := decide (2 ≤ xs.length ∧ xs.length ≤ 9) && (!(rd xs ((xs.length : Int) - 1) == 0) && xs.all inCoef)
theorem l00In_some (a b c : Int) : spec_l00In.f a b c = some (decide (b ≤ a ∧ a ≤ c)) := by
  unfold spec_l00In.f
  split <;> simp <;> omega
theorem within_some (a b c : Int) : impl_within.f a b c = some (decide (b ≤ a ∧ a ≤ c)) := l00In_some a b c
theorem specPoly_loop (xs : List Int) (hn : xs.length ≤ 9) (d : Nat) : ∀ (i k : Nat), i + d = xs.length → d < k → spec_l05Ok.l0 k xs (i : Int) = some ((xs.drop i).all inCoef) := by
  induction d with
  | zero =>
    intro i k hd hk
    obtain ⟨k, rfl⟩ : ∃ m, k = m + 1 := ⟨k - 1, by omega⟩
    simp only [spec_l05Ok.l0]; rw [if_neg (by omega), List.drop_eq_nil_of_le (by omega)]; rfl
  | succ d ih =>
    intro i k hd hk
    obtain ⟨k, rfl⟩ : ∃ m, k = m + 1 := ⟨k - 1, by omega⟩
    have hi : i < xs.length := by omega
    simp only [spec_l05Ok.l0]; rw [if_pos (by omega), if_pos (by omega), rd_get xs i hi, l00In_some, wrap64_id (by omega) (by omega), List.drop_eq_getElem_cons hi, List.all_cons]
    have := ih (i + 1) k (by omega) (by omega)
    simp only [Option.bind_some]
    show (if inCoef xs[i] = true then _ else _) = _
    cases inCoef xs[i]
    · simp
    · simpa using this
theorem implPoly_loop (xs : List Int) (hn : xs.length ≤ 9) (d : Nat) : ∀ (i k : Nat), i + d = xs.length → d < k → ∃ r : Int, slices_IndexFunc_int64_int64_f46.l0 k xs (xs.length : Int) (i : Int) = some r ∧ decide (r ≥ 0) = !((xs.drop i).all inCoef) := by
  induction d with
  | zero =>
    intro i k hd hk
    obtain ⟨k, rfl⟩ : ∃ m, k = m + 1 := ⟨k - 1, by omega⟩
    simp only [slices_IndexFunc_int64_int64_f46.l0]; rw [if_neg (by omega), List.drop_eq_nil_of_le (by omega)]
    exact ⟨_, rfl, by simp⟩
  | succ d ih =>
    intro i k hd hk
    obtain ⟨k, rfl⟩ : ∃ m, k = m + 1 := ⟨k - 1, by omega⟩
    have hi : i < xs.length := by omega
    obtain ⟨r, h1, h2⟩ := ih (i + 1) k (by omega) (by omega)
    simp only [slices_IndexFunc_int64_int64_f46.l0, impl_ValidPoly_1.f]; rw [if_pos (by omega), if_pos (by omega), if_pos (by omega), rd_get xs i hi, within_some, wrap64_id (by omega) (by omega), List.drop_eq_getElem_cons hi, List.all_cons]
    simp only [Option.bind_some]
    show ∃ r, (if (!inCoef xs[i]) = true then _ else _) = some r ∧ _
    cases inCoef xs[i]
    · exact ⟨_, rfl, by simp⟩
    · exact ⟨r, by simpa using h1, by simpa using h2⟩
theorem specPoly_ev (xs : List Int) : Ev (fun k => spec_l05Ok.f k xs) (polyOk xs) := by
  refine ev_k (xs.length + 3) (fun k hk => ?_)
  obtain ⟨k, rfl⟩ : ∃ m, k = m + 1 := ⟨k - 1, by omega⟩
  show spec_l05Ok.f (k + 1) xs = _
  unfold spec_l05Ok.f polyOk
  rw [l00In_some]; simp only [Option.bind_some]
  by_cases c : 2 ≤ xs.length ∧ xs.length ≤ 9
  · have hl := specPoly_loop xs c.2 xs.length 0 k (by omega) (by omega)
    rw [if_pos (by simp; omega), wrap64_id (by omega) (by omega), if_pos (by omega), if_pos (by omega)]
    simp only [spec_l05Ok.j0]
    simp only [c, and_self, decide_true, Bool.true_and]
    cases (rd xs ((xs.length : Int) - 1) == 0)
    · simpa using hl
    · simp
  · rw [if_neg (by simp; omega)]
    simp only [spec_l05Ok.j0]
    simp [c]
theorem implPoly_ev (xs : List Int) : Ev (fun k => impl_ValidPoly.f k xs) (polyOk xs) := by
  refine ev_k (xs.length + 3) (fun k hk => ?_)
  show impl_ValidPoly.f k xs = _
  unfold impl_ValidPoly.f polyOk
  by_cases c : 2 ≤ xs.length ∧ xs.length ≤ 9
  · obtain ⟨r, h1, h2⟩ := implPoly_loop xs c.2 xs.length 0 k (by omega) (by omega)
    rw [if_neg (by omega), if_neg (by omega), wrap64_id (by omega) (by omega), if_pos (by omega), if_pos (by omega)]
    simp only [c, and_self, decide_true, Bool.true_and]
    unfold slices_ContainsFunc_int64_int64_f46.f slices_IndexFunc_int64_int64_f46.f
    have h1' : slices_IndexFunc_int64_int64_f46.l0 k xs (xs.length : Int) 0 = some r := h1
    rw [h1']; simp only [Option.bind_some, h2, List.drop_zero, Bool.not_not]
    by_cases e : rd xs ((xs.length : Int) - 1) = 0
    · rw [if_pos e, e]; simp
    · rw [if_neg e]; simp [e]
  · simp only [c, decide_false, Bool.false_and]
    by_cases c2 : (xs.length : Int) < 2
    · rw [if_pos c2]
    · rw [if_neg c2, if_pos (by omega)]
theorem toInt64S_loop (xs : List Int) (hn : xs.length ≤ 4611686018427387904) (d : Nat) : ∀ (i : Nat) (acc : List Int) (k : Nat), acc.length = xs.length → (∀ j, j < i → acc.getD j 0 = xs.getD j 0) → i + d = xs.length → d < k → laws_toInt64S.l0 k xs acc (i : Int) = some xs := by
  induction d with
  | zero =>
    intro i acc k hl hj hd hk
    obtain ⟨k, rfl⟩ : ∃ m, k = m + 1 := ⟨k - 1, by omega⟩
    simp only [laws_toInt64S.l0]; rw [if_neg (by omega)]
    congr 1
    apply List.ext_getElem hl
    intro j h1 h2
    have := hj j (by omega)
    simpa [List.getD_eq_getElem?_getD, List.getElem?_eq_getElem, h1, h2] using this
  | succ d ih =>
    intro i acc k hl hj hd hk
    obtain ⟨k, rfl⟩ : ∃ m, k = m + 1 := ⟨k - 1, by omega⟩
    simp only [laws_toInt64S.l0]; rw [if_pos (by omega), if_pos (by omega), if_pos (by omega), wrap64_id (by omega) (by omega)]
    refine ih (i + 1) _ k ?_ ?_ (by omega) (by omega)
    · simpa using hl
    · intro j hji
      have hjl : j < acc.length := by omega
      by_cases e : j = i
      · subst e; simp [List.getD_eq_getElem?_getD, rd_nat, hjl]
      · have e' : ¬ i = j := fun h => e h.symm
        have := hj j (by omega)
        simpa [List.getD_eq_getElem?_getD, List.getElem?_set, e'] using this
theorem toInt64S_ev (xs : List Int) (hn : xs.length ≤ 17592186044416) : Ev (fun k => laws_toInt64S.f k xs) xs := by
  refine ⟨xs.length + 1, fun k hk => ?_⟩
  show laws_toInt64S.f k xs = some xs
  unfold laws_toInt64S.f
  rw [if_pos (by omega), if_pos (by simp; omega)]
  exact toInt64S_loop xs (by omega) xs.length 0 _ k (by simp) (fun j h => by omega) (by omega) (by omega)
theorem eqInt64S_loop (xs : List Int) (hn : xs.length ≤ 4611686018427387904) (d : Nat) : ∀ (i : Nat) (k : Nat), i + d = xs.length → d < k → laws_eqInt64S.l0 k xs xs (i : Int) = some true := by
  induction d with
  | zero =>
    intro i k hd hk
    obtain ⟨k, rfl⟩ : ∃ m, k = m + 1 := ⟨k - 1, by omega⟩
    simp only [laws_eqInt64S.l0]; rw [if_neg (by omega)]
  | succ d ih =>
    intro i k hd hk
    obtain ⟨k, rfl⟩ : ∃ m, k = m + 1 := ⟨k - 1, by omega⟩
    simp only [laws_eqInt64S.l0]; rw [if_pos (by omega), if_pos (by omega), if_pos (by omega), if_pos trivial, wrap64_id (by omega) (by omega)]
    exact ih (i + 1) k (by omega) (by omega)
theorem eqInt64S_ev (xs : List Int) (hn : xs.length ≤ 4611686018427387904) : Ev (fun k => laws_eqInt64S.f k xs xs) true := by
  refine ⟨xs.length + 1, fun k hk => ?_⟩
  show laws_eqInt64S.f k xs xs = some true
  unfold laws_eqInt64S.f
  rw [if_pos rfl]
  exact eqInt64S_loop xs hn xs.length 0 k (by omega) (by omega)
theorem shl_at (m : Nat) (h : m ≤ 20) : shl .i64 1 (m : Int) = 2 ^ m := by
  have : ∀ m : Fin 21, shl .i64 1 ((m : Nat) : Int) = 2 ^ (m : Nat) := by decide +kernel
  exact this ⟨m, by omega⟩
theorem pow_at (m : Nat) (h : m ≤ 20) : (1 : Int) ≤ 2 ^ m ∧ (2 : Int) ^ m ≤ 1048576 := by
  have : ∀ m : Fin 21, (1 : Int) ≤ 2 ^ (m : Nat) ∧ (2 : Int) ^ (m : Nat) ≤ 1048576 := by decide +kernel
  exact this ⟨m, by omega⟩
theorem u64_wrap {m : Int} (h0 : 0 ≤ m) (h1 : m ≤ 9223372036854775807) : IntKind.u64.wrap m = m := by
  simp [IntKind.wrap, IntKind.signed, IntKind.bits]; omega
def absOf (x : Int) : Int := if x < 0 then -x else x
theorem specAbs (x : Int) (h0 : -1000000 ≤ x) (h1 : x ≤ 1000000) : spec_l05Abs.f x = some (absOf x) := by
  unfold spec_l05Abs.f absOf
  rw [wrap64_id (by omega) (by omega)]
  split <;> rfl
theorem absOf_mx (x : Int) (h0 : -1000000 ≤ x) (h1 : x ≤ 1000000) : mx x (wrap64 (-x)) = absOf x := by
  unfold mx absOf
  rw [wrap64_id (by omega) (by omega)]
  split <;> split <;> omega
theorem absOf_bounds (x : Int) (h0 : -1000000 ≤ x) (h1 : x ≤ 1000000) : 0 ≤ absOf x ∧ absOf x ≤ 1000000 := by
  unfold absOf; split <;> omega
theorem most_same (m x : Int) (hm : 0 ≤ m) (h0 : -1000000 ≤ x) (h1 : x ≤ 1000000) : spec_l00Max.f m (absOf x) = some (mx (mx m x) (wrap64 (-x))) := by
  unfold spec_l00Max.f mx absOf
  rw [wrap64_id (by omega) (by omega)]
  repeat' split
  all_goals first | rfl | (congr 1; omega) | omega
theorem bound_up (xs : List Int) (L : Int) (hn : 2 ≤ xs.length ∧ xs.length ≤ 9) (hL : absOf (rd xs ((xs.length : Int) - 1)) = L) (hl0 : -1000000 ≤ rd xs ((xs.length : Int) - 1)) (hl1 : rd xs ((xs.length : Int) - 1) ≤ 1000000) (h1 : 1 ≤ L) (x : Int) (hx : 0 ≤ x ∧ x ≤ 1000000) (d : Nat) :
    ∀ m : Nat, m + d = 20 → ∃ r : Int, Ev (fun k => spec_l05Bound.l1 k xs x (m : Int)) r ∧ Ev (fun k => impl_bound.l1 k L x (m : Int)) r := by
  have hL2 : L ≤ 1000000 := by rw [← hL]; exact (absOf_bounds _ hl0 hl1).2
  have key : ∀ m : Nat, m ≤ 20 → wrap64 (L * wrap64 (2 ^ m - 1)) = L * (2 ^ m - 1) := by
    intro m hm
    have hp := pow_at m hm
    rw [wrap64_id (n := 2 ^ m - 1) (by omega) (by omega)]
    have h2 := Int.mul_nonneg (a := L) (b := 2 ^ m - 1) (by omega) (by omega)
    have h3 : L * (2 ^ m - 1) ≤ 1000000 * 1048576 := Int.mul_le_mul hL2 (by omega) (by omega) (by omega)
    exact wrap64_id (by omega) (by omega)
  have body : ∀ m : Nat, m ≤ 20 → ∀ r, (Ev (fun k => if L * (2 ^ m - 1) < x then spec_l05Bound.l1 k xs x ((m : Int) + 1) else some (m : Int)) r → Ev (fun k => spec_l05Bound.l1 k xs x (m : Int)) r) ∧
      (Ev (fun k => if L * (2 ^ m - 1) < x then impl_bound.l1 k L x ((m : Int) + 1) else some (m : Int)) r → Ev (fun k => impl_bound.l1 k L x (m : Int)) r) := by
    intro m hm r
    constructor
    · intro h
      refine Ev.step (fun k => by rw [spec_l05Bound.l1]) ?_
      rw [wrap64_id (n := (xs.length : Int) - 1) (by omega) (by omega), specAbs _ hl0 hl1, u64_wrap (m := (m : Int)) (by omega) (by omega), wrap64_id (n := (m : Int) + 1) (by omega) (by omega), hL]
      simp only [Option.bind_some]
      rw [shl_at m hm, key m hm]
      refine Ev.congr (fun k => if_pos (by omega)) (Ev.congr (fun k => if_pos (by omega)) (Ev.congr (fun k => if_pos (by omega)) ?_))
      exact h
    · intro h
      refine Ev.step (fun k => by rw [impl_bound.l1]) ?_
      rw [shl_at m hm, key m hm, wrap64_id (n := (m : Int) + 1) (by omega) (by omega)]
      refine Ev.congr (fun k => if_pos (by omega)) ?_
      exact h
  induction d with
  | zero =>
    intro m hd
    obtain rfl : m = 20 := by omega
    have h4 : ¬ (L * (2 ^ 20 - 1) < x) := by
      have : 1 * (2 ^ 20 - 1) ≤ L * (2 ^ 20 - 1) := Int.mul_le_mul_of_nonneg_right h1 (by decide)
      have e : (2 : Int) ^ 20 = 1048576 := by decide
      omega
    refine ⟨(20 : Nat), (body 20 (by omega) _).1 ?_, (body 20 (by omega) _).2 ?_⟩
    · exact Ev.congr (fun k => if_neg h4) (Ev.now _)
    · exact Ev.congr (fun k => if_neg h4) (Ev.now _)
  | succ d ih =>
    intro m hd
    by_cases h4 : L * (2 ^ m - 1) < x
    · obtain ⟨r, hs, hi⟩ := ih (m + 1) (by omega)
      refine ⟨r, (body m (by omega) _).1 (Ev.congr (fun k => if_pos h4) hs), (body m (by omega) _).2 (Ev.congr (fun k => if_pos h4) hi)⟩
    · exact ⟨m, (body m (by omega) _).1 (Ev.congr (fun k => if_neg h4) (Ev.now _)), (body m (by omega) _).2 (Ev.congr (fun k => if_neg h4) (Ev.now _))⟩
theorem bound_most (xs : List Int) (L : Int) (hn : 2 ≤ xs.length ∧ xs.length ≤ 9) (hc : ∀ j : Nat, j < xs.length → -1000000 ≤ rd xs (j : Int) ∧ rd xs (j : Int) ≤ 1000000) (hL : absOf (rd xs ((xs.length : Int) - 1)) = L) (h1 : 1 ≤ L) (d : Nat) :
    ∀ (i : Nat) (x : Int), i + d + 1 = xs.length → 0 ≤ x ∧ x ≤ 1000000 → ∃ r : Int, Ev (fun k => spec_l05Bound.l0 k xs x (i : Int)) r ∧ Ev (fun k => impl_bound.l0 k L x (xs.take (xs.length - 1)) ((xs.length : Int) - 1) (i : Int)) r := by
  have hlast := hc (xs.length - 1) (by omega)
  rw [show ((xs.length - 1 : Nat) : Int) = (xs.length : Int) - 1 by omega] at hlast
  induction d with
  | zero =>
    intro i x hd hx
    obtain ⟨r, hs, hi⟩ := bound_up xs L hn hL hlast.1 hlast.2 h1 x hx 20 0 (by omega)
    refine ⟨r, ?_, ?_⟩
    · refine Ev.step (fun k => by rw [spec_l05Bound.l0]) ?_
      rw [wrap64_id (n := (i : Int) + 1) (by omega) (by omega)]
      refine Ev.congr (fun k => if_neg (by omega)) ?_
      exact hs
    · refine Ev.step (fun k => by rw [impl_bound.l0]) (Ev.congr (fun k => if_neg (by omega)) ?_)
      exact hi
  | succ d ih =>
    intro i x hd hx
    have hi1 := hc i (by omega)
    have hq : 0 ≤ mx (mx x (rd xs i)) (wrap64 (-(rd xs i))) ∧ mx (mx x (rd xs i)) (wrap64 (-(rd xs i))) ≤ 1000000 := by
      rw [wrap64_id (by omega) (by omega)]; unfold mx; repeat' split
      all_goals omega
    obtain ⟨r, hs, hm⟩ := ih (i + 1) _ (by omega) hq
    have ht : rd (xs.take (xs.length - 1)) (i : Int) = rd xs (i : Int) := by
      simp only [rd, List.getD_eq_getElem?_getD]
      rw [List.getElem?_take_of_lt (by omega)]
    refine ⟨r, ?_, ?_⟩
    · refine Ev.step (fun k => by rw [spec_l05Bound.l0]) ?_
      rw [wrap64_id (n := (i : Int) + 1) (by omega) (by omega), specAbs _ hi1.1 hi1.2]
      simp only [Option.bind_some]
      rw [most_same x _ hx.1 hi1.1 hi1.2]
      simp only [Option.bind_some]
      refine Ev.congr (fun k => if_pos (by omega)) (Ev.congr (fun k => if_pos (by omega)) (Ev.congr (fun k => if_pos (by omega)) ?_))
      exact hs
    · refine Ev.step (fun k => by rw [impl_bound.l0]) ?_
      rw [ht, wrap64_id (n := (i : Int) + 1) (by omega) (by omega)]
      refine Ev.congr (fun k => if_pos (by omega)) (Ev.congr (fun k => if_pos (by omega)) (Ev.congr (fun k => if_pos (by simp; omega)) ?_))
      exact hm
theorem bound_ev (xs : List Int) : ∃ r : Int × Int, Ev (fun k => spec_BoundOf.f k xs) r ∧ Ev (fun k => impl_BoundOf.f k xs) r := by
  by_cases c : polyOk xs = true
  · have hc : (2 ≤ xs.length ∧ xs.length ≤ 9) ∧ ¬ rd xs ((xs.length : Int) - 1) = 0 ∧ ∀ x ∈ xs, -1000000 ≤ x ∧ x ≤ 1000000 := by
      unfold polyOk inCoef at c; simpa using c
    obtain ⟨hn, hne, hin⟩ := hc
    have hc2 : ∀ j : Nat, j < xs.length → -1000000 ≤ rd xs (j : Int) ∧ rd xs (j : Int) ≤ 1000000 := by
      intro j hj; rw [rd_get xs j hj]; exact hin _ (List.getElem_mem hj)
    have hlast := hc2 (xs.length - 1) (by omega)
    rw [show ((xs.length - 1 : Nat) : Int) = (xs.length : Int) - 1 by omega] at hlast
    obtain ⟨r, hs, hi⟩ := bound_most xs _ hn hc2 rfl (by unfold absOf; split <;> omega) (xs.length - 1) 0 0 (by omega) (by omega)
    refine ⟨(r, 0), ?_, ?_⟩
    · refine Ev.congr (fun k => by unfold spec_BoundOf.f; rfl) (Ev.bind (specPoly_ev xs) ?_)
      rw [c]; refine Ev.congr (fun k => if_pos rfl) (Ev.bind (a := r) ?_ (Ev.now _))
      exact hs
    · refine Ev.congr (fun k => by unfold impl_BoundOf.f; rfl) (Ev.bind (implPoly_ev xs) ?_)
      rw [c]; refine Ev.congr (fun k => if_pos rfl) (Ev.bind (a := r) ?_ (Ev.now _))
      refine Ev.congr (fun k => by unfold impl_bound.f; rfl) ?_
      rw [wrap64_id (n := (xs.length : Int) - 1) (by omega) (by omega), absOf_mx _ hlast.1 hlast.2]
      refine Ev.congr (fun k => if_pos (by omega)) (Ev.congr (fun k => if_pos (by omega)) (Ev.congr (fun k => if_pos (by omega)) ?_))
      rw [show ((xs.length : Int) - 1).toNat = xs.length - 1 by omega, show ((xs.take (xs.length - 1)).length : Int) = (xs.length : Int) - 1 by simp; omega]
      exact hi
  · simp only [Bool.not_eq_true] at c
    refine ⟨(0, 1), ?_, ?_⟩
    · refine Ev.congr (fun k => by unfold spec_BoundOf.f; rfl) (Ev.bind (specPoly_ev xs) ?_)
      rw [c]; exact Ev.now _
    · refine Ev.congr (fun k => by unfold impl_BoundOf.f; rfl) (Ev.bind (implPoly_ev xs) ?_)
      rw [c]; exact Ev.now _
theorem FnExactBoundOf : laws_FnExactBoundOf.Pure := by
  intro l0 ⟨hl, hw⟩
  apply Ev.rounds (r := true)
  obtain ⟨⟨r1, r2⟩, hs, hi⟩ := bound_ev l0
  by_cases c : (l0.length : Int) > 1048576
  · exact ⟨0, fun k _ => by show laws_FnExactBoundOf.f k l0 = _; unfold laws_FnExactBoundOf.f; rw [if_pos c]⟩
  · refine Ev.congr (fun k => by unfold laws_FnExactBoundOf.f; rw [if_neg c]) ?_
    repeat' (first
      | (refine Ev.bind (toInt64S_ev l0 (by omega)) ?_; try dsimp only)
      | (refine Ev.bind (hs) ?_; try dsimp only)
      | (refine Ev.bind (hi) ?_; try dsimp only)
      | (refine Ev.bind (eqInt64S_ev _ (by omega)) ?_; try dsimp only)
      | exact ⟨0, fun k _ => rfl⟩
      | (refine Ev.congr (fun k => if_pos rfl) ?_; try dsimp only)
      | (refine Ev.congr (fun k => if_neg (by simp; done)) ?_; try dsimp only)
      | (refine Ev.congr (fun k => if_neg (by omega)) ?_; try dsimp only)
      | (refine Ev.congr (fun k => if_pos (by simp; done)) ?_; try dsimp only)
      | (refine Ev.congr (fun k => if_pos (by omega)) ?_; try dsimp only)
      | (refine Ev.step (fun k => by rw [laws_FnExactBoundOf.j0]) ?_; try dsimp only)
      )
end Go.Proofs.Ytpijklhonoekbaa.Pure
