/- The program's RootTerms returns what the reference's returns, for every int64. -/
import Derived.Test.YtpijklhonoekbaaPFnExactRootTermsx2
namespace Go.Proofs.Ytpijklhonoekbaa.Pure
open Go.RowKit Go.Proofs.Ytpijklhonoekbaa.PFnExactRootTerms Go.Proofs.YtpijklhonoekbaaW.PrintWords Go.Proofs.YtpijklhonoekbaaW.PrintLast

theorem wrap64_id {n : Int} (h0 : -9223372036854775808 ≤ n) (h1 : n ≤ 9223372036854775807) : wrap64 n = n := by
  unfold wrap64; omega
theorem rd_nat (xs : List Int) (i : Nat) : rd xs (i : Int) = xs.getD i 0 := by simp [rd]
theorem eqInt64S_loop (xs : List Int) (hn : xs.length ≤ 4611686018427387904) (d : Nat) : ∀ (i : Nat) (k : Nat), i + d = xs.length → d < k → laws_eqInt64S.l0 k xs xs (i : Int) = some true := by
  induction d with
  | zero =>
    intro i k hd hk
    obtain ⟨k, rfl⟩ : ∃ m, k = m + 1 := ⟨k - 1, by omega⟩
    simp only [laws_eqInt64S.l0]; rw [if_neg (by omega)]
  | succ d ih =>
    intro i k hd hk
    obtain ⟨k, rfl⟩ : ∃ m, k = m + 1 := ⟨k - 1, by omega⟩
    simp only [laws_eqInt64S.l0]; rw [if_pos (by omega), if_pos (by omega), if_pos (by omega), if_pos trivial, wrap64_id (by omega) (by omega)]
    exact ih (i + 1) k (by omega) (by omega)
theorem eqInt64S_ev (xs : List Int) (hn : xs.length ≤ 4611686018427387904) : Ev (fun k => laws_eqInt64S.f k xs xs) true := by
  refine ⟨xs.length + 1, fun k hk => ?_⟩
  show laws_eqInt64S.f k xs xs = some true
  unfold laws_eqInt64S.f
  rw [if_pos rfl]
  exact eqInt64S_loop xs hn xs.length 0 k (by omega) (by omega)
theorem markInt64S_loop (d : Nat) : ∀ (i : Nat) (xs : List Int) (a : Int) (k : Nat), 0 ≤ a → a + xs.length ≤ 4611686018427387904 → i + d = xs.length → (∀ j, j < i → xs.getD j 0 = a + j) → d < k → laws_markInt64S.l0 k xs (a + i) (i : Int) = some (a + xs.length, (List.range xs.length).map (fun j : Nat => a + (j : Int))) := by
  induction d with
  | zero =>
    intro i xs a k h0 ha hd hj hk
    obtain ⟨k, rfl⟩ : ∃ m, k = m + 1 := ⟨k - 1, by omega⟩
    simp only [laws_markInt64S.l0]; rw [if_neg (by omega)]
    have e : xs = (List.range xs.length).map (fun j : Nat => a + (j : Int)) := by
      apply List.ext_getElem (by simp)
      intro j h1 h2
      have := hj j (by omega)
      simpa [List.getD_eq_getElem?_getD, List.getElem?_eq_getElem, h1, h2] using this
    rw [← e, show i = xs.length by omega]
  | succ d ih =>
    intro i xs a k h0 ha hd hj hk
    obtain ⟨k, rfl⟩ : ∃ m, k = m + 1 := ⟨k - 1, by omega⟩
    simp only [laws_markInt64S.l0]; rw [if_pos (by omega), if_pos (by omega), wrap64_id (by omega) (by omega), wrap64_id (by omega) (by omega)]
    have := ih (i + 1) (xs.set i (a + i)) a k h0 (by simpa using ha) (by simp; omega) ?_ (by omega)
    · simpa [Int.add_assoc] using this
    · intro j hji
      have hjl : j < xs.length := by omega
      by_cases e : j = i
      · subst e; simp [List.getD_eq_getElem?_getD, hjl]
      · have e' : ¬ i = j := fun h => e h.symm
        have := hj j (by omega)
        simpa [List.getD_eq_getElem?_getD, List.getElem?_set, e'] using this
theorem markInt64S_ev (xs : List Int) (a : Int) (h0 : 0 ≤ a) (ha : a + xs.length ≤ 4611686018427387904) : Ev (fun k => laws_markInt64S.f k xs a) (a + xs.length, (List.range xs.length).map (fun j : Nat => a + (j : Int))) := by
  refine ⟨xs.length + 1, fun k hk => ?_⟩
  show laws_markInt64S.f k xs a = _
  unfold laws_markInt64S.f
  have := markInt64S_loop xs.length 0 xs a k h0 ha (by omega) (fun j h => by omega) (by omega)
  simpa using this
theorem heldInt64S_loop (n : Nat) (a : Int) (h0 : 0 ≤ a) (ha : a + n ≤ 4611686018427387904) (d : Nat) : ∀ (i : Nat) (k : Nat), i + d = n → d < k → laws_heldInt64S.l0 k ((List.range n).map (fun j : Nat => a + (j : Int))) (a + i) (i : Int) = some (a + n) := by
  induction d with
  | zero =>
    intro i k hd hk
    obtain ⟨k, rfl⟩ : ∃ m, k = m + 1 := ⟨k - 1, by omega⟩
    simp only [laws_heldInt64S.l0]; rw [if_neg (by simp; omega), show i = n by omega]
  | succ d ih =>
    intro i k hd hk
    obtain ⟨k, rfl⟩ : ∃ m, k = m + 1 := ⟨k - 1, by omega⟩
    simp only [laws_heldInt64S.l0]; rw [if_pos (by simp; omega), if_pos (by omega), if_pos ?_, wrap64_id (by omega) (by omega), wrap64_id (by omega) (by omega)]
    · have := ih (i + 1) k (by omega) (by omega)
      simpa [Int.add_assoc] using this
    · have hi : i < n := by omega
      rw [rd_nat]; simp [List.getD_eq_getElem?_getD, hi]
theorem heldInt64S_ev (n : Nat) (a : Int) (h0 : 0 ≤ a) (ha : a + n ≤ 4611686018427387904) : Ev (fun k => laws_heldInt64S.f k ((List.range n).map (fun j : Nat => a + (j : Int))) a) (a + n) := by
  refine ⟨n + 1, fun k hk => ?_⟩
  show laws_heldInt64S.f k _ a = _
  unfold laws_heldInt64S.f
  have := heldInt64S_loop n a h0 ha n 0 k (by omega) (by omega)
  simpa using this
theorem sq_lt {a b : Int} (h0 : 0 ≤ a) (h : a < b) : a * a < b * b := by
  have h1 : a * a ≤ a * b := Int.mul_le_mul_of_nonneg_left (by omega) h0
  have h2 : a * b < b * b := Int.mul_lt_mul_of_pos_right h (by omega)
  omega
theorem root_loop (n : Int) (hn : n ≤ 1000000) (d : Nat) : ∀ (i : Int), 0 ≤ i → i * i ≤ n → 1001 - i ≤ d → ∃ r, i ≤ r ∧ r ≤ 1000 ∧ r * r ≤ n ∧ n < (r + 1) * (r + 1) ∧ ∀ k, d < k → impl_squareRoot.l0 k n i = some r := by
  induction d with
  | zero =>
    intro i h0 h1 h2
    have := sq_lt (a := 1000) (b := i) (by omega) (by omega)
    omega
  | succ d ih =>
    intro i h0 h1 h2
    have hi : i ≤ 1000 := by
      by_cases c : i ≤ 1000
      · exact c
      · have := sq_lt (a := 1000) (b := i) (by omega) (by omega); omega
    have hb : 0 ≤ (i + 1) * (i + 1) ∧ (i + 1) * (i + 1) ≤ 1001 * 1001 := ⟨Int.mul_nonneg (by omega) (by omega), Int.mul_le_mul (by omega) (by omega) (by omega) (by omega)⟩
    by_cases c : (i + 1) * (i + 1) ≤ n
    · obtain ⟨r, q1, q2, q3, q4, q5⟩ := ih (i + 1) (by omega) c (by omega)
      refine ⟨r, by omega, q2, q3, q4, fun k hk => ?_⟩
      obtain ⟨k, rfl⟩ : ∃ m, k = m + 1 := ⟨k - 1, by omega⟩
      simp only [impl_squareRoot.l0]; rw [wrap64_id (n := i + 1) (by omega) (by omega), wrap64_id (by omega) (by omega), if_pos c]
      exact q5 k (by omega)
    · refine ⟨i, by omega, hi, h1, by omega, fun k hk => ?_⟩
      obtain ⟨k, rfl⟩ : ∃ m, k = m + 1 := ⟨k - 1, by omega⟩
      simp only [impl_squareRoot.l0]; rw [wrap64_id (n := i + 1) (by omega) (by omega), wrap64_id (by omega) (by omega), if_neg c]
theorem root_same : ∀ k n i, spec_l04Root.l0 k n i = impl_squareRoot.l0 k n i := by
  intro k
  induction k with
  | zero => intro n i; rfl
  | succ k ih => intro n i; simp only [spec_l04Root.l0, impl_squareRoot.l0, ih]
theorem period_same : ∀ k n f p m d a, spec_l04Period.l0 k n f p m d a = impl_RootTerms.l0 k n f p m d a := by
  intro k
  induction k with
  | zero => intros; rfl
  | succ k ih => intro n f p m d a; simp only [spec_l04Period.l0, impl_RootTerms.l0, ih]
/-- One round of the period: the new numbers. -/
theorem period_step {n f m d a e : Int} (hf : 0 ≤ f) (hfn : f * f < n) (hnf : n < (f + 1) * (f + 1)) (hd : 1 ≤ d) (hd2 : d ≤ 2 * f + 1) (ha : a = (f + m) / d) (he : n - m * m = d * e) :
    -f ≤ d * a - m ∧ d * a - m ≤ f ∧ ∃ d', 1 ≤ d' ∧ d' ≤ 2 * f + 1 ∧ n - (d * a - m) * (d * a - m) = d * d' := by
  have hr := Int.emod_add_mul_ediv (f + m) d
  have hr0 := Int.emod_nonneg (f + m) (b := d) (by omega)
  have hr1 := Int.emod_lt_of_pos (f + m) (b := d) (by omega)
  rw [← ha] at hr
  generalize hq : d * a = q at *
  have h1 : -f ≤ q - m := by omega
  have h2 : q - m ≤ f := by omega
  have hsq : (q - m) * (q - m) ≤ f * f := by
    rcases Int.le_total 0 (q - m) with c | c
    · exact Int.mul_le_mul h2 h2 c hf
    · have h3 : (-(q - m)) * (-(q - m)) ≤ f * f := Int.mul_le_mul (by omega) (by omega) (by omega) hf
      rwa [Int.neg_mul_neg] at h3
  have hdv : n - (q - m) * (q - m) = d * (e - a * q + 2 * (a * m)) := by
    have e1 : (q - m) * (q - m) = q * q - 2 * (q * m) + m * m := by grind
    have e2 : d * (e - a * q + 2 * (a * m)) = d * e - q * q + 2 * (q * m) := by rw [← hq]; grind
    rw [e1, e2, ← he]; omega
  generalize hdd : e - a * q + 2 * (a * m) = d' at *
  have hpos : 0 < d * d' := by omega
  have hd'1 : 1 ≤ d' := by
    by_cases c : 1 ≤ d'
    · exact c
    · have := Int.mul_nonpos_of_nonneg_of_nonpos (a := d) (b := d') (by omega) (by omega); omega
  refine ⟨h1, h2, d', hd'1, ?_, hdv⟩
  have hup : d * d' < d * (f + 1 + (q - m)) := by
    have e3 : (f + 1) * (f + 1) - (q - m) * (q - m) = (f + 1 - (q - m)) * (f + 1 + (q - m)) := by grind
    have e4 : (f + 1 - (q - m)) * (f + 1 + (q - m)) ≤ d * (f + 1 + (q - m)) := Int.mul_le_mul_of_nonneg_right (by omega) (by omega)
    omega
  have := Int.lt_of_mul_lt_mul_left hup (by omega)
  omega
theorem period_loop (n f : Int) (hf : 0 ≤ f) (hf2 : f ≤ 1000) (hn : n ≤ 1000000) (hfn : f * f < n) (hnf : n < (f + 1) * (f + 1)) (t : Nat) : ∀ (p : List Int) (m d a e : Int), p.length + t = 3000 → 1 ≤ d → d ≤ 2 * f + 1 → -f ≤ m → m ≤ f → a = (f + m) / d → n - m * m = d * e →
    ∃ r : Int × List Int × Int, r.2.1.length ≤ 3000 ∧ ∀ k, t + 1 < k → impl_RootTerms.l0 k n f p m d a = some r := by
  have hff := Int.mul_nonneg hf hf
  have aux : ∀ (p : List Int) (m d a e : Int), 1 ≤ d → d ≤ 2 * f + 1 → -f ≤ m → m ≤ f → a = (f + m) / d → n - m * m = d * e → ∃ m' d' a', -f ≤ m' ∧ m' ≤ f ∧ 1 ≤ d' ∧ d' ≤ 2 * f + 1 ∧ a' = (f + m') / d' ∧ n - m' * m' = d' * d ∧ ∀ k,
      impl_RootTerms.l0 (k + 1) n f p m d a = if a = 2 * f then some (f, p, 0) else if (p.length : Int) = 3000 then some (0, [], 3) else if p.length < 17592186044416 then impl_RootTerms.l0 k n f (p ++ [a']) m' d' a' else none := by
    intro p m d a e hd hd2 hm1 hm2 ha he
    obtain ⟨h1, h2, d', h3, h4, h5⟩ := period_step hf hfn hnf hd hd2 ha he
    have hr := Int.emod_add_mul_ediv (f + m) d
    have hr0 := Int.emod_nonneg (f + m) (b := d) (by omega)
    have hr1 := Int.emod_lt_of_pos (f + m) (b := d) (by omega)
    rw [← ha] at hr
    refine ⟨d * a - m, d', (f + (d * a - m)) / d', h1, h2, h3, h4, rfl, by rw [h5, Int.mul_comm], fun k => ?_⟩
    have hsq : 0 ≤ (d * a - m) * (d * a - m) ∧ (d * a - m) * (d * a - m) ≤ 1000 * 1000 := by
      rcases Int.le_total 0 (d * a - m) with c | c
      · exact ⟨Int.mul_nonneg c c, Int.mul_le_mul (by omega) (by omega) c (by omega)⟩
      · have h6 : (-(d * a - m)) * (-(d * a - m)) ≤ 1000 * 1000 := Int.mul_le_mul (by omega) (by omega) (by omega) (by omega)
        rw [Int.neg_mul_neg] at h6
        exact ⟨Int.mul_nonneg_of_nonpos_of_nonpos c c, h6⟩
    have w1 : wrap64 (d * a) = d * a := wrap64_id (by omega) (by omega)
    have w2 : wrap64 (d * a - m) = d * a - m := wrap64_id (by omega) (by omega)
    have w3 : wrap64 ((d * a - m) * (d * a - m)) = (d * a - m) * (d * a - m) := wrap64_id (by omega) (by omega)
    have w4 : wrap64 (n - (d * a - m) * (d * a - m)) = d * d' := by rw [← h5]; exact wrap64_id (by omega) (by omega)
    have w5 : wrap64 (Int.tdiv (d * d') d) = d' := by
      rw [Int.mul_tdiv_cancel_left _ (by omega)]; exact wrap64_id (by omega) (by omega)
    have w6 : wrap64 (f + (d * a - m)) = f + (d * a - m) := wrap64_id (by omega) (by omega)
    have w7 : wrap64 (Int.tdiv (f + (d * a - m)) d') = (f + (d * a - m)) / d' := by
      rw [Int.tdiv_eq_ediv_of_nonneg (by omega)]
      have := Int.ediv_nonneg (a := f + (d * a - m)) (b := d') (by omega) (by omega)
      have := Int.ediv_le_self (a := f + (d * a - m)) d' (by omega)
      exact wrap64_id (by omega) (by omega)
    have w8 : wrap64 (2 * f) = 2 * f := wrap64_id (by omega) (by omega)
    simp only [impl_RootTerms.l0]
    rw [w1, w2, w3, w4, w5, w6, w7, w8, if_neg (show ¬ d = 0 by omega), if_neg (show ¬ d' = 0 by omega)]
  induction t with
  | zero =>
    intro p m d a e hp hd hd2 hm1 hm2 ha he
    obtain ⟨m', d', a', _, _, _, _, _, _, hs⟩ := aux p m d a e hd hd2 hm1 hm2 ha he
    refine ⟨if a = 2 * f then (f, p, 0) else (0, [], 3), by split <;> simp; omega, fun k hk => ?_⟩
    obtain ⟨k, rfl⟩ : ∃ m, k = m + 1 := ⟨k - 1, by omega⟩
    rw [hs]
    by_cases c : a = 2 * f
    · rw [if_pos c, if_pos c]
    · rw [if_neg c, if_neg c, if_pos (by omega)]
  | succ t ih =>
    intro p m d a e hp hd hd2 hm1 hm2 ha he
    obtain ⟨m', d', a', g1, g2, g3, g4, g5, g6, hs⟩ := aux p m d a e hd hd2 hm1 hm2 ha he
    by_cases c : a = 2 * f
    · refine ⟨(f, p, 0), by simp; omega, fun k hk => ?_⟩
      obtain ⟨k, rfl⟩ : ∃ m, k = m + 1 := ⟨k - 1, by omega⟩
      rw [hs, if_pos c]
    · obtain ⟨r, hr1, hr2⟩ := ih (p ++ [a']) m' d' a' d (by simp; omega) g3 g4 g1 g2 g5 g6
      refine ⟨r, hr1, fun k hk => ?_⟩
      obtain ⟨k, rfl⟩ : ∃ m, k = m + 1 := ⟨k - 1, by omega⟩
      rw [hs, if_neg c, if_neg (by omega), if_pos (by omega)]
      exact hr2 k (by omega)
theorem rootTerms_ev (n : Int) : ∃ r : Int × List Int × Int, r.2.1.length ≤ 3000 ∧ Ev (fun k => impl_RootTerms.f k n) r ∧ Ev (fun k => spec_RootTerms.f k n) r := by
  by_cases c : 0 ≤ n ∧ n ≤ 1000000
  · have hw : impl_within.f n 0 1000000 = some true := by unfold impl_within.f; rw [if_pos (by omega)]; simp [c.2]
    have hw2 : spec_l00In.f n 0 1000000 = some true := by unfold spec_l00In.f; rw [if_pos (by omega)]; simp [c.2]
    obtain ⟨f, h1, h2, h3, h4, h5⟩ := root_loop n c.2 1002 0 (by omega) (by omega) (by omega)
    have hb : 0 ≤ f * f ∧ f * f ≤ 1000 * 1000 := ⟨Int.mul_nonneg h1 h1, Int.mul_le_mul h2 h2 h1 (by omega)⟩
    have wf : wrap64 (f * f) = f * f := wrap64_id (by omega) (by omega)
    by_cases e : f * f = n
    · refine ⟨(f, [], 0), by simp, ⟨1003, fun k hk => ?_⟩, ⟨1003, fun k hk => ?_⟩⟩
      · show impl_RootTerms.f k n = _
        unfold impl_RootTerms.f impl_squareRoot.f
        rw [hw]; simp only [Option.bind_some]; rw [if_pos trivial, h5 k (by omega)]; simp only [Option.bind_some]; rw [wf, if_pos e]
      · show spec_RootTerms.f k n = _
        unfold spec_RootTerms.f spec_l04Period.f spec_l04Root.f
        rw [hw2]; simp only [Option.bind_some]; rw [if_pos trivial, root_same, h5 k (by omega)]; simp only [Option.bind_some]; rw [wf, if_pos e]; rfl
    · obtain ⟨r, hr1, hr2⟩ := period_loop n f h1 h2 c.2 (by omega) h4 3000 [] 0 1 f n (by simp) (by omega) (by omega) (by omega) h1 (by simp) (by omega)
      refine ⟨r, hr1, ⟨3003, fun k hk => ?_⟩, ⟨3003, fun k hk => ?_⟩⟩
      · show impl_RootTerms.f k n = _
        unfold impl_RootTerms.f impl_squareRoot.f
        rw [hw]; simp only [Option.bind_some]; rw [if_pos trivial, h5 k (by omega)]; simp only [Option.bind_some]; rw [wf, if_neg e]
        exact hr2 k (by omega)
      · show spec_RootTerms.f k n = _
        unfold spec_RootTerms.f spec_l04Period.f spec_l04Root.f
        rw [hw2]; simp only [Option.bind_some]; rw [if_pos trivial, root_same, h5 k (by omega)]; simp only [Option.bind_some]; rw [wf, if_neg e, period_same, hr2 k (by omega)]; rfl
  · have hw : impl_within.f n 0 1000000 = some false := by unfold impl_within.f; split <;> simp; omega
    have hw2 : spec_l00In.f n 0 1000000 = some false := by unfold spec_l00In.f; split <;> simp; omega
    refine ⟨(0, [], 2), by simp, ⟨0, fun k _ => ?_⟩, ⟨0, fun k _ => ?_⟩⟩
    · show impl_RootTerms.f k n = _
      unfold impl_RootTerms.f; rw [hw]; rfl
    · show spec_RootTerms.f k n = _
      unfold spec_RootTerms.f spec_l04Period.f; rw [hw2]; rfl
theorem FnExactRootTerms : laws_FnExactRootTerms.Pure := by
  intro n _
  apply Ev.rounds (r := true)
  obtain ⟨⟨r1, r2, r3⟩, hl, hi, hs⟩ := rootTerms_ev n
  simp only at hl
  refine Ev.congr (fun k => by unfold laws_FnExactRootTerms.f; rfl) ?_
  refine Ev.bind hs (Ev.bind hi ?_)
  refine Ev.congr (fun k => if_pos rfl) ?_
  refine Ev.bind (eqInt64S_ev r2 (by omega)) ?_
  refine Ev.congr (fun k => if_pos rfl) ?_
  refine Ev.step (fun k => by simp only [laws_FnExactRootTerms.j0]; exact if_neg (by simp)) ?_
  refine Ev.bind (markInt64S_ev r2 1 (by omega) (by omega)) ?_
  have hh := heldInt64S_ev r2.length 1 (by omega) (by omega)
  refine Ev.bind hh ?_
  refine Ev.congr (fun k => if_neg (by omega)) ?_
  refine Ev.congr (fun k => if_pos rfl) ?_
  refine Ev.bind hi ?_
  refine Ev.congr (fun k => if_pos rfl) ?_
  refine Ev.bind (eqInt64S_ev r2 (by omega)) ?_
  refine Ev.congr (fun k => if_pos rfl) ?_
  refine Ev.step (fun k => by simp only [laws_FnExactRootTerms.j1]; exact if_neg (by simp)) ?_
  refine Ev.bind hh ?_
  refine Ev.congr (fun k => if_neg (by omega)) ?_
  exact ⟨0, fun k _ => if_pos rfl⟩
end Go.Proofs.Ytpijklhonoekbaa.Pure
