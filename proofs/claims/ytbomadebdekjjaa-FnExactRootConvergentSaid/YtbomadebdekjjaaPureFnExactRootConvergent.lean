/- The program's RootConvergent returns what the reference's returns, for all arguments. -/
import Derived.Test.YtbomadebdekjjaaMFnExactRootConvergentx5
import Derived.Test.YtbomadebdekjjaaMOpen
namespace Go.Proofs.Ytbomadebdekjjaa.Pure
open Go.RowKit Go.Proofs.Ytbomadebdekjjaa.MFnExactRootConvergent Go.Proofs.Ytbomadebdekjjaa.MOpen Go.Proofs.YtbomadebdekjjaaW.PrintWords Go.Proofs.YtbomadebdekjjaaW.PrintLast Go.Proofs.YtbomadebdekjjaaW.PrintMore
set_option linter.unusedVariables false
set_option linter.unusedSimpArgs false
theorem wrap64_id {n : Int} (h0 : -9223372036854775808 ≤ n) (h1 : n ≤ 9223372036854775807) : wrap64 n = n := by
  unfold wrap64; omega
theorem rd_nat (xs : List Int) (i : Nat) : rd xs (i : Int) = xs.getD i 0 := by simp [rd]
theorem rd_get (xs : List Int) (i : Nat) (h : i < xs.length) : rd xs (i : Int) = xs[i] := by simp [rd, h]
theorem ev_k {α : Type} {f : Nat → Option α} {r : α} (n : Nat) (h : ∀ k, n ≤ k → f k = some r) : Ev f r := ⟨n, h⟩
theorem sq_lt {a b : Int} (h0 : 0 ≤ a) (h : a < b) : a * a < b * b := by
  have h1 : a * a ≤ a * b := Int.mul_le_mul_of_nonneg_left (by omega) h0
  have h2 : a * b < b * b := Int.mul_lt_mul_of_pos_right h (by omega)
  omega
theorem root_loop (n : Int) (hn : n ≤ 1000000) (d : Nat) : ∀ (i : Int), 0 ≤ i → i * i ≤ n → 1001 - i ≤ d → ∃ r, i ≤ r ∧ r ≤ 1000 ∧ r * r ≤ n ∧ n < (r + 1) * (r + 1) ∧ ∀ k, d < k → impl_squareRoot.l0 k n i = some r := by
  induction d with
  | zero =>
    intro i h0 h1 h2
    have := sq_lt (a := 1000) (b := i) (by omega) (by omega)
    omega
  | succ d ih =>
    intro i h0 h1 h2
    have hi : i ≤ 1000 := by
      by_cases c : i ≤ 1000
      · exact c
      · have := sq_lt (a := 1000) (b := i) (by omega) (by omega); omega
    have hb : 0 ≤ (i + 1) * (i + 1) ∧ (i + 1) * (i + 1) ≤ 1001 * 1001 := ⟨Int.mul_nonneg (by omega) (by omega), Int.mul_le_mul (by omega) (by omega) (by omega) (by omega)⟩
    by_cases c : (i + 1) * (i + 1) ≤ n
    · obtain ⟨r, q1, q2, q3, q4, q5⟩ := ih (i + 1) (by omega) c (by omega)
      refine ⟨r, by omega, q2, q3, q4, fun k hk => ?_⟩
      obtain ⟨k, rfl⟩ : ∃ m, k = m + 1 := ⟨k - 1, by omega⟩
      simp only [impl_squareRoot.l0]; rw [wrap64_id (n := i + 1) (by omega) (by omega), wrap64_id (by omega) (by omega), if_pos c]
      exact q5 k (by omega)
    · refine ⟨i, by omega, hi, h1, by omega, fun k hk => ?_⟩
      obtain ⟨k, rfl⟩ : ∃ m, k = m + 1 := ⟨k - 1, by omega⟩
      simp only [impl_squareRoot.l0]; rw [wrap64_id (n := i + 1) (by omega) (by omega), wrap64_id (by omega) (by omega), if_neg c]
theorem root_same : ∀ k n i, spec_l04Root.l0 k n i = impl_squareRoot.l0 k n i := by
  intro k
  induction k with
  | zero => intro n i; rfl
  | succ k ih => intro n i; simp only [spec_l04Root.l0, impl_squareRoot.l0, ih]
theorem period_same : ∀ k n f p m d a, spec_l04Period.l0 k n f p m d a = impl_RootTerms.l0 k n f p m d a := by
  intro k
  induction k with
  | zero => intros; rfl
  | succ k ih => intro n f p m d a; simp only [spec_l04Period.l0, impl_RootTerms.l0, ih]
/-- One round of the period: the new numbers. -/
theorem period_step {n f m d a e : Int} (hf : 0 ≤ f) (hfn : f * f < n) (hnf : n < (f + 1) * (f + 1)) (hd : 1 ≤ d) (hd2 : d ≤ 2 * f + 1) (ha : a = (f + m) / d) (he : n - m * m = d * e) :
    -f ≤ d * a - m ∧ d * a - m ≤ f ∧ ∃ d', 1 ≤ d' ∧ d' ≤ 2 * f + 1 ∧ n - (d * a - m) * (d * a - m) = d * d' := by
  have hr := Int.emod_add_mul_ediv (f + m) d
  have hr0 := Int.emod_nonneg (f + m) (b := d) (by omega)
  have hr1 := Int.emod_lt_of_pos (f + m) (b := d) (by omega)
  rw [← ha] at hr
  generalize hq : d * a = q at *
  have h1 : -f ≤ q - m := by omega
  have h2 : q - m ≤ f := by omega
  have hsq : (q - m) * (q - m) ≤ f * f := by
    rcases Int.le_total 0 (q - m) with c | c
    · exact Int.mul_le_mul h2 h2 c hf
    · have h3 : (-(q - m)) * (-(q - m)) ≤ f * f := Int.mul_le_mul (by omega) (by omega) (by omega) hf
      rwa [Int.neg_mul_neg] at h3
  have hdv : n - (q - m) * (q - m) = d * (e - a * q + 2 * (a * m)) := by
    have e1 : (q - m) * (q - m) = q * q - 2 * (q * m) + m * m := by grind
    have e2 : d * (e - a * q + 2 * (a * m)) = d * e - q * q + 2 * (q * m) := by rw [← hq]; grind
    rw [e1, e2, ← he]; omega
  generalize hdd : e - a * q + 2 * (a * m) = d' at *
  have hpos : 0 < d * d' := by omega
  have hd'1 : 1 ≤ d' := by
    by_cases c : 1 ≤ d'
    · exact c
    · have := Int.mul_nonpos_of_nonneg_of_nonpos (a := d) (b := d') (by omega) (by omega); omega
  refine ⟨h1, h2, d', hd'1, ?_, hdv⟩
  have hup : d * d' < d * (f + 1 + (q - m)) := by
    have e3 : (f + 1) * (f + 1) - (q - m) * (q - m) = (f + 1 - (q - m)) * (f + 1 + (q - m)) := by grind
    have e4 : (f + 1 - (q - m)) * (f + 1 + (q - m)) ≤ d * (f + 1 + (q - m)) := Int.mul_le_mul_of_nonneg_right (by omega) (by omega)
    omega
  have := Int.lt_of_mul_lt_mul_left hup (by omega)
  omega
theorem period_loop (n f : Int) (hf : 0 ≤ f) (hf2 : f ≤ 1000) (hn : n ≤ 1000000) (hfn : f * f < n) (hnf : n < (f + 1) * (f + 1)) (t : Nat) : ∀ (p : List Int) (m d a e : Int), p.length + t = 3000 → 1 ≤ d → d ≤ 2 * f + 1 → -f ≤ m → m ≤ f → a = (f + m) / d → n - m * m = d * e →
    ∃ r : Int × List Int × Int, r.2.1.length ≤ 3000 ∧ ∀ k, t + 1 < k → impl_RootTerms.l0 k n f p m d a = some r := by
  have hff := Int.mul_nonneg hf hf
  have aux : ∀ (p : List Int) (m d a e : Int), 1 ≤ d → d ≤ 2 * f + 1 → -f ≤ m → m ≤ f → a = (f + m) / d → n - m * m = d * e → ∃ m' d' a', -f ≤ m' ∧ m' ≤ f ∧ 1 ≤ d' ∧ d' ≤ 2 * f + 1 ∧ a' = (f + m') / d' ∧ n - m' * m' = d' * d ∧ ∀ k,
      impl_RootTerms.l0 (k + 1) n f p m d a = if a = 2 * f then some (f, p, 0) else if (p.length : Int) = 3000 then some (0, [], 3) else if p.length < 17592186044416 then impl_RootTerms.l0 k n f (p ++ [a']) m' d' a' else none := by
    intro p m d a e hd hd2 hm1 hm2 ha he
    obtain ⟨h1, h2, d', h3, h4, h5⟩ := period_step hf hfn hnf hd hd2 ha he
    have hr := Int.emod_add_mul_ediv (f + m) d
    have hr0 := Int.emod_nonneg (f + m) (b := d) (by omega)
    have hr1 := Int.emod_lt_of_pos (f + m) (b := d) (by omega)
    rw [← ha] at hr
    refine ⟨d * a - m, d', (f + (d * a - m)) / d', h1, h2, h3, h4, rfl, by rw [h5, Int.mul_comm], fun k => ?_⟩
    have hsq : 0 ≤ (d * a - m) * (d * a - m) ∧ (d * a - m) * (d * a - m) ≤ 1000 * 1000 := by
      rcases Int.le_total 0 (d * a - m) with c | c
      · exact ⟨Int.mul_nonneg c c, Int.mul_le_mul (by omega) (by omega) c (by omega)⟩
      · have h6 : (-(d * a - m)) * (-(d * a - m)) ≤ 1000 * 1000 := Int.mul_le_mul (by omega) (by omega) (by omega) (by omega)
        rw [Int.neg_mul_neg] at h6
        exact ⟨Int.mul_nonneg_of_nonpos_of_nonpos c c, h6⟩
    have w1 : wrap64 (d * a) = d * a := wrap64_id (by omega) (by omega)
    have w2 : wrap64 (d * a - m) = d * a - m := wrap64_id (by omega) (by omega)
    have w3 : wrap64 ((d * a - m) * (d * a - m)) = (d * a - m) * (d * a - m) := wrap64_id (by omega) (by omega)
    have w4 : wrap64 (n - (d * a - m) * (d * a - m)) = d * d' := by rw [← h5]; exact wrap64_id (by omega) (by omega)
    have w5 : wrap64 (Int.tdiv (d * d') d) = d' := by
      rw [Int.mul_tdiv_cancel_left _ (by omega)]; exact wrap64_id (by omega) (by omega)
    have w6 : wrap64 (f + (d * a - m)) = f + (d * a - m) := wrap64_id (by omega) (by omega)
    have w7 : wrap64 (Int.tdiv (f + (d * a - m)) d') = (f + (d * a - m)) / d' := by
      rw [Int.tdiv_eq_ediv_of_nonneg (by omega)]
      have := Int.ediv_nonneg (a := f + (d * a - m)) (b := d') (by omega) (by omega)
      have := Int.ediv_le_self (a := f + (d * a - m)) d' (by omega)
      exact wrap64_id (by omega) (by omega)
    have w8 : wrap64 (2 * f) = 2 * f := wrap64_id (by omega) (by omega)
    simp only [impl_RootTerms.l0]
    rw [w1, w2, w3, w4, w5, w6, w7, w8, if_neg (show ¬ d = 0 by omega), if_neg (show ¬ d' = 0 by omega)]
  induction t with
  | zero =>
    intro p m d a e hp hd hd2 hm1 hm2 ha he
    obtain ⟨m', d', a', _, _, _, _, _, _, hs⟩ := aux p m d a e hd hd2 hm1 hm2 ha he
    refine ⟨if a = 2 * f then (f, p, 0) else (0, [], 3), by split <;> simp; omega, fun k hk => ?_⟩
    obtain ⟨k, rfl⟩ : ∃ m, k = m + 1 := ⟨k - 1, by omega⟩
    rw [hs]
    by_cases c : a = 2 * f
    · rw [if_pos c, if_pos c]
    · rw [if_neg c, if_neg c, if_pos (by omega)]
  | succ t ih =>
    intro p m d a e hp hd hd2 hm1 hm2 ha he
    obtain ⟨m', d', a', g1, g2, g3, g4, g5, g6, hs⟩ := aux p m d a e hd hd2 hm1 hm2 ha he
    by_cases c : a = 2 * f
    · refine ⟨(f, p, 0), by simp; omega, fun k hk => ?_⟩
      obtain ⟨k, rfl⟩ : ∃ m, k = m + 1 := ⟨k - 1, by omega⟩
      rw [hs, if_pos c]
    · obtain ⟨r, hr1, hr2⟩ := ih (p ++ [a']) m' d' a' d (by simp; omega) g3 g4 g1 g2 g5 g6
      refine ⟨r, hr1, fun k hk => ?_⟩
      obtain ⟨k, rfl⟩ : ∃ m, k = m + 1 := ⟨k - 1, by omega⟩
      rw [hs, if_neg c, if_neg (by omega), if_pos (by omega)]
      exact hr2 k (by omega)
theorem period_ev (n : Int) : ∃ r : Int × List Int × Int, r.2.1.length ≤ 3000 ∧ Ev (fun k => impl_RootTerms.f k n) r ∧ Ev (fun k => spec_l04Period.f k n) r := by
  by_cases c : 0 ≤ n ∧ n ≤ 1000000
  · have hw : impl_within.f n 0 1000000 = some true := by unfold impl_within.f; rw [if_pos (by omega)]; simp [c.2]
    have hw2 : spec_l00In.f n 0 1000000 = some true := by unfold spec_l00In.f; rw [if_pos (by omega)]; simp [c.2]
    obtain ⟨f, h1, h2, h3, h4, h5⟩ := root_loop n c.2 1002 0 (by omega) (by omega) (by omega)
    have hb : 0 ≤ f * f ∧ f * f ≤ 1000 * 1000 := ⟨Int.mul_nonneg h1 h1, Int.mul_le_mul h2 h2 h1 (by omega)⟩
    have wf : wrap64 (f * f) = f * f := wrap64_id (by omega) (by omega)
    by_cases e : f * f = n
    · refine ⟨(f, [], 0), by simp, ⟨1003, fun k hk => ?_⟩, ⟨1003, fun k hk => ?_⟩⟩
      · show impl_RootTerms.f k n = _
        unfold impl_RootTerms.f impl_squareRoot.f
        rw [hw]; simp only [Option.bind_some]; rw [if_pos trivial, h5 k (by omega)]; simp only [Option.bind_some]; rw [wf, if_pos e]
      · show spec_l04Period.f k n = _
        unfold spec_l04Period.f spec_l04Root.f
        rw [hw2]; simp only [Option.bind_some]; rw [if_pos trivial, root_same, h5 k (by omega)]; simp only [Option.bind_some]; rw [wf, if_pos e]
    · obtain ⟨r, hr1, hr2⟩ := period_loop n f h1 h2 c.2 (by omega) h4 3000 [] 0 1 f n (by simp) (by omega) (by omega) (by omega) h1 (by simp) (by omega)
      refine ⟨r, hr1, ⟨3003, fun k hk => ?_⟩, ⟨3003, fun k hk => ?_⟩⟩
      · show impl_RootTerms.f k n = _
        unfold impl_RootTerms.f impl_squareRoot.f
        rw [hw]; simp only [Option.bind_some]; rw [if_pos trivial, h5 k (by omega)]; simp only [Option.bind_some]; rw [wf, if_neg e]
        exact hr2 k (by omega)
      · show spec_l04Period.f k n = _
        unfold spec_l04Period.f spec_l04Root.f
        rw [hw2]; simp only [Option.bind_some]; rw [if_pos trivial, root_same, h5 k (by omega)]; simp only [Option.bind_some]; rw [wf, if_neg e, period_same, hr2 k (by omega)]
  · have hw : impl_within.f n 0 1000000 = some false := by unfold impl_within.f; split <;> simp; omega
    have hw2 : spec_l00In.f n 0 1000000 = some false := by unfold spec_l00In.f; split <;> simp; omega
    refine ⟨(0, [], 2), by simp, ⟨0, fun k _ => ?_⟩, ⟨0, fun k _ => ?_⟩⟩
    · show impl_RootTerms.f k n = _
      unfold impl_RootTerms.f; rw [hw]; rfl
    · show spec_l04Period.f k n = _
      unfold spec_l04Period.f; rw [hw2]; rfl
theorem l00In_some (a b c : Int) : spec_l00In.f a b c = some (decide (b ≤ a ∧ a ≤ c)) := by
  unfold spec_l00In.f
  split <;> simp <;> omega
theorem within_some (a b c : Int) : impl_within.f a b c = some (decide (b ≤ a ∧ a ≤ c)) := l00In_some a b c
theorem rootTerm_some (f : Int) (p : List Int) (k : Int) (hk : 0 ≤ k ∧ k ≤ 1000000000) (h : p ≠ [] ∨ k = 0) : ∃ t, impl_rootTerm.f f p k = some t ∧ spec_l04RootAt.f f p k = some t := by
  have hs : spec_l04RootAt.f f p k = impl_rootTerm.f f p k := rfl
  rw [hs]
  suffices h2 : ∃ t, impl_rootTerm.f f p k = some t by
    obtain ⟨t, h2⟩ := h2; exact ⟨t, h2, h2⟩
  unfold impl_rootTerm.f
  by_cases c : k = 0
  · exact ⟨_, by rw [if_pos c]⟩
  · have hp : 0 < p.length := by
      rcases h with h | h
      · exact List.length_pos_iff.2 h
      · exact absurd h c
    rw [if_neg c, wrap64_id (by omega) (by omega), Int.tmod_eq_emod_of_nonneg (by omega)]
    have h1 := Int.emod_nonneg (k - 1) (b := (p.length : Int)) (by omega)
    have h2 := Int.emod_lt_of_pos (k - 1) (b := (p.length : Int)) (by omega)
    exact ⟨_, by rw [if_neg (by omega), if_pos h1, if_pos h2]⟩
def tmA (f : Int) (l : List Int) (i : Int) : Int := if i = 0 then f else rd l (Int.tmod (wrap64 (i - 1)) (l.length : Int))
/-- The parts of a convergent by value: d more steps. -/
def cvR (f : Int) (l : List Int) : Nat → Int → Int → Int → Int → Int → S24 × S24 × Int
  | 0, _, p, q, _, _ => (wenc p, wenc q, 0)
  | d + 1, i, p, q, p0, q0 => if ((tmA f l i * p).natAbs < 4294967296 ^ 6 ∧ (tmA f l i * q).natAbs < 4294967296 ^ 6) ∧ ((tmA f l i * p + p0).natAbs < 4294967296 ^ 6 ∧ (tmA f l i * q + q0).natAbs < 4294967296 ^ 6) then cvR f l d (i + 1) (tmA f l i * p + p0) (tmA f l i * q + q0) p q else (wenc 0, wenc 0, 3)
theorem fitC_yes {n : Nat} (h : n < 4294967296 ^ 6) : Wide.fitC n = 0 := if_pos h
theorem fitC_no {n : Nat} (h : ¬ n < 4294967296 ^ 6) : ¬ Wide.fitC n = 0 := by
  unfold Wide.fitC; rw [if_neg h]; decide
theorem fitZ_yes {z : Int} (h : z.natAbs < 4294967296 ^ 6) : Wide.fitZ z = z := if_pos h
theorem addZ_yes {a b : Int} (h : (a + b).natAbs < 4294967296 ^ 6) : Wide.addZ a b = a + b := if_pos h
theorem ovM_yes {n : Nat} (h : n < 4294967296 ^ 6) : Wide.ovM n = false := decide_eq_false (fun e => e h)
theorem ovM_no {n : Nat} (h : ¬ n < 4294967296 ^ 6) : Wide.ovM n = true := decide_eq_true h
def I64 (x : Int) : Prop := -9223372036854775808 ≤ x ∧ x < 9223372036854775808
theorem tmA_at {f : Int} {l : List Int} {i : Int} (hi : 0 ≤ i ∧ i ≤ 1000000000) (h : l ≠ [] ∨ i = 0) : impl_rootTerm.f f l i = some (tmA f l i) ∧ spec_l04RootAt.f f l i = some (tmA f l i) := by
  obtain ⟨t, h1, h2⟩ := rootTerm_some f l i hi h
  have e : t = tmA f l i := by
    unfold impl_rootTerm.f at h1
    unfold tmA
    by_cases c : i = 0
    · rw [if_pos c] at h1 ⊢; exact (Option.some.inj h1).symm
    · rw [if_neg c] at h1 ⊢
      split at h1
      · simp at h1
      · split at h1
        · split at h1
          · exact (Option.some.inj h1).symm
          · simp at h1
        · simp at h1
  subst e
  exact ⟨h1, h2⟩
theorem getD_I64 {l : List Int} (hl : ∀ x ∈ l, I64 x) (j : Nat) : I64 (l.getD j 0) := by
  rw [List.getD_eq_getElem?_getD]
  cases h : l[j]? with
  | none => exact ⟨by decide, by decide⟩
  | some x => exact hl _ (List.mem_of_getElem? h)
theorem tmA_I64 {f : Int} {l : List Int} (hf : I64 f) (hl : ∀ x ∈ l, I64 x) (i : Int) : I64 (tmA f l i) := by
  unfold tmA
  split
  · exact hf
  · exact getD_I64 hl _
theorem lp_cv {f : Int} {l : List Int} {m : Int} (hm : m ≤ 1000000000) (h0 : l ≠ [] ∨ m = 0) (hf : I64 f) (hl : ∀ x ∈ l, I64 x) : ∀ (d : Nat) (i p q p0 q0 : Int) (k : Nat), 0 ≤ i → i + d = m + 1 → d < k → lpR f l m k i p q p0 q0 = some (cvR f l d i p q p0 q0) := by
  intro d
  induction d with
  | zero =>
    intro i p q p0 q0 k hi hd hk
    obtain ⟨k, rfl⟩ : ∃ j, k = j + 1 := ⟨k - 1, by omega⟩
    rw [lpR, if_neg (by omega)]; rfl
  | succ d ih =>
    intro i p q p0 q0 k hi hd hk
    obtain ⟨k, rfl⟩ : ∃ j, k = j + 1 := ⟨k - 1, by omega⟩
    rw [lpR, if_pos (by omega), (tmA_at ⟨hi, by omega⟩ (by rcases h0 with h | h; exact .inl h; exact .inr (by omega))).2]
    simp only [Option.bind_some, cvR]
    rw [if_pos (show -9223372036854775808 ≤ tmA f l i ∧ tmA f l i < 9223372036854775808 from tmA_I64 hf hl i)]
    generalize tmA f l i = a
    by_cases c1 : (a * p).natAbs < 4294967296 ^ 6 ∧ (a * q).natAbs < 4294967296 ^ 6
    · rw [if_pos ⟨fitC_yes c1.1, fitC_yes c1.2⟩, fitZ_yes c1.1, fitZ_yes c1.2]
      by_cases c2 : (a * p + p0).natAbs < 4294967296 ^ 6 ∧ (a * q + q0).natAbs < 4294967296 ^ 6
      · rw [if_pos ⟨fitC_yes c2.1, fitC_yes c2.2⟩, fitZ_yes c2.1, fitZ_yes c2.2, if_pos ⟨c1, c2⟩, wrap64_id (by omega) (by omega)]
        exact ih _ _ _ _ _ k (by omega) (by omega) (by omega)
      · rw [if_neg (fun e => c2 ⟨Classical.byContradiction fun z => fitC_no z e.1, Classical.byContradiction fun z => fitC_no z e.2⟩), if_neg (fun e => c2 e.2)]
    · rw [if_neg (fun e => c1 ⟨Classical.byContradiction fun z => fitC_no z e.1, Classical.byContradiction fun z => fitC_no z e.2⟩), if_neg (fun e => c1 e.1)]
theorem rc_over {f : Int} {l : List Int} {m : Int} (k : Nat) (i p q p0 q0 : Int) (hk : 0 < k) : rcR f l m k i p q p0 q0 true = some (wenc 0, wenc 0, 3) := by
  obtain ⟨k, rfl⟩ : ∃ j, k = j + 1 := ⟨k - 1, by omega⟩
  rw [rcR, if_neg (by simp), if_pos rfl]
theorem rc_cv {f : Int} {l : List Int} {m : Int} (hm : m ≤ 1000000000) (h0 : l ≠ [] ∨ m = 0) (hf : I64 f) (hl : ∀ x ∈ l, I64 x) : ∀ (d : Nat) (i p q p0 q0 : Int) (k : Nat), 0 ≤ i → i + d = m + 1 → d + 1 < k → rcR f l m k i p q p0 q0 false = some (cvR f l d i p q p0 q0) := by
  intro d
  induction d with
  | zero =>
    intro i p q p0 q0 k hi hd hk
    obtain ⟨k, rfl⟩ : ∃ j, k = j + 1 := ⟨k - 1, by omega⟩
    rw [rcR, if_neg (by omega), if_neg (by decide)]; rfl
  | succ d ih =>
    intro i p q p0 q0 k hi hd hk
    obtain ⟨k, rfl⟩ : ∃ j, k = j + 1 := ⟨k - 1, by omega⟩
    rw [rcR, if_pos ⟨by omega, rfl⟩, (tmA_at ⟨hi, by omega⟩ (by rcases h0 with h | h; exact .inl h; exact .inr (by omega))).1]
    simp only [Option.bind_some, cvR]
    rw [if_pos (show -9223372036854775808 ≤ tmA f l i ∧ tmA f l i < 9223372036854775808 from tmA_I64 hf hl i)]
    generalize tmA f l i = a
    by_cases c1 : (a * p).natAbs < 4294967296 ^ 6 ∧ (a * q).natAbs < 4294967296 ^ 6
    · rw [ovM_yes c1.1, ovM_yes c1.2, fitZ_yes c1.1, fitZ_yes c1.2]
      by_cases c2 : (a * p + p0).natAbs < 4294967296 ^ 6 ∧ (a * q + q0).natAbs < 4294967296 ^ 6
      · rw [ovM_yes c2.1, ovM_yes c2.2, addZ_yes c2.1, addZ_yes c2.2, if_pos ⟨c1, c2⟩, wrap64_id (by omega) (by omega)]
        exact ih _ _ _ _ _ k (by omega) (by omega) (by omega)
      · rw [if_neg (fun e => c2 e.2)]
        have e : ((((false || false) || Wide.ovM (a * p + p0).natAbs) || false) || Wide.ovM (a * q + q0).natAbs) = true := by
          by_cases c3 : (a * p + p0).natAbs < 4294967296 ^ 6
          · rw [ovM_yes c3, ovM_no (fun z => c2 ⟨c3, z⟩)]; rfl
          · rw [ovM_no c3]; simp
        rw [e]
        exact rc_over _ _ _ _ _ _ (by omega)
    · rw [if_neg (fun e => c1 e.1)]
      have e : ((((false || Wide.ovM (a * p).natAbs) || Wide.ovM (Wide.fitZ (a * p) + p0).natAbs) || Wide.ovM (a * q).natAbs) || Wide.ovM (Wide.fitZ (a * q) + q0).natAbs) = true := by
        by_cases c3 : (a * p).natAbs < 4294967296 ^ 6
        · rw [ovM_no (fun z => c1 ⟨c3, z⟩ : ¬ (a * q).natAbs < 4294967296 ^ 6)]; simp
        · rw [ovM_no c3]; simp
      rw [e]
      exact rc_over _ _ _ _ _ _ (by omega)
theorem wrap_I64 (x : Int) : I64 (wrap64 x) := by
  unfold I64 wrap64
  omega
theorem loop_I64 : ∀ (k : Nat) (n f m d a : Int) (p : List Int) (r : Int × List Int × Int), I64 f → (∀ x ∈ p, I64 x) → impl_RootTerms.l0 k n f p m d a = some r → I64 r.1 ∧ ∀ x ∈ r.2.1, I64 x := by
  intro k
  induction k with
  | zero => intro n f m d a p r _ _ h; simp [impl_RootTerms.l0] at h
  | succ k ih =>
    intro n f m d a p r hf hp h
    simp only [impl_RootTerms.l0] at h
    repeat' split at h
    all_goals first
      | (obtain rfl := Option.some.inj h; exact ⟨hf, hp⟩)
      | (obtain rfl := Option.some.inj h; exact ⟨⟨by decide, by decide⟩, by simp⟩)
      | (exact absurd h (by simp))
      | (refine ih _ _ _ _ _ _ _ hf ?_ h; intro x hx; rcases List.mem_append.1 hx with hx | hx; exact hp x hx; (obtain rfl := List.mem_singleton.1 hx; exact wrap_I64 _))
theorem root_I64 : ∀ (k : Nat) (n i r : Int), I64 i → impl_squareRoot.l0 k n i = some r → I64 r := by
  intro k
  induction k with
  | zero => intro n i r _ h; simp [impl_squareRoot.l0] at h
  | succ k ih =>
    intro n i r hi h
    simp only [impl_squareRoot.l0] at h
    split at h
    · exact ih _ _ _ (wrap_I64 _) h
    · obtain rfl := Option.some.inj h; exact hi
theorem terms_I64 {k : Nat} {n : Int} {r : Int × List Int × Int} (h : impl_RootTerms.f k n = some r) : I64 r.1 ∧ ∀ x ∈ r.2.1, I64 x := by
  have z : I64 0 := ⟨by decide, by decide⟩
  unfold impl_RootTerms.f at h
  obtain ⟨t, ht, h⟩ := Option.bind_eq_some_iff.mp h
  split at h
  · obtain ⟨f, hf, h⟩ := Option.bind_eq_some_iff.mp h
    have hF : I64 f := root_I64 _ _ _ _ z (by unfold impl_squareRoot.f at hf; exact hf)
    split at h
    · obtain rfl := Option.some.inj h; exact ⟨hF, by simp⟩
    · exact loop_I64 _ _ _ _ _ _ _ _ hF (by simp) h
  · obtain rfl := Option.some.inj h; exact ⟨z, by simp⟩
theorem eqA6_ev (a : S23) (k : Nat) : laws_eqUint32A6.f (k + 7) a a = some true := by
  unfold laws_eqUint32A6.f
  simp [laws_eqUint32A6.l0, wrap64]
theorem eqWide_ev (a : S24) : Ev (fun k => laws_eqWide.f k a a) true := by
  refine ⟨7, fun k hk => ?_⟩
  obtain ⟨k, rfl⟩ : ∃ j, k = j + 7 := ⟨k - 7, by omega⟩
  show laws_eqWide.f (k + 7) a a = some true
  unfold laws_eqWide.f
  rw [eqA6_ev]
  simp
theorem index_ev (n k most : Int) (_hm : most ≤ 1000000000) : (∃ (f : Int) (p : List Int), (I64 f ∧ ∀ x ∈ p, I64 x) ∧ (p ≠ [] ∨ k = 0) ∧ (0 ≤ k ∧ k ≤ most) ∧ Ev (fun q => spec_l04Index.f q n k most) (f, p, 0) ∧ Ev (fun q => impl_rootBegin.f q n k most) (f, p, 0)) ∨ (∃ (e : Int) (f1 f2 : Int) (p1 p2 : List Int), ¬ e = 0 ∧ Ev (fun q => spec_l04Index.f q n k most) (f1, p1, e) ∧ Ev (fun q => impl_rootBegin.f q n k most) (f2, p2, e)) := by
  by_cases c : (0 ≤ n ∧ n ≤ 1000000) ∧ (0 ≤ k ∧ k ≤ most)
  · obtain ⟨⟨f, p, e⟩, hl, hi, hs⟩ := period_ev n
    have hb : I64 f ∧ ∀ x ∈ p, I64 x := by
      obtain ⟨m, hm⟩ := hi
      exact terms_I64 (hm m (Nat.le_refl _))
    have spec : ∀ r, Ev (fun q => if e = 0 then (if (p.length : Int) = 0 then (if k > 0 then some (f, p, (6 : Int)) else some (f, p, e)) else some (f, p, e)) else some (f, p, e)) r → Ev (fun q => spec_l04Index.f q n k most) r := by
      intro r h
      refine Ev.congr (fun q => by unfold spec_l04Index.f; rfl) ?_
      rw [l00In_some, l00In_some]; simp only [Option.bind_some]
      refine Ev.congr (fun q => if_pos (by simp; omega)) (Ev.step (fun q => by rw [spec_l04Index.j0]) (Ev.congr (fun q => if_neg (by simp; omega)) (Ev.bind hs ?_)))
      exact h
    have impl : ∀ r, Ev (fun q => if e = 0 then (if (p.length : Int) = 0 then (if k > 0 then some ((0 : Int), ([] : List Int), (6 : Int)) else some (f, p, e)) else some (f, p, e)) else some (f, p, e)) r → Ev (fun q => impl_rootBegin.f q n k most) r := by
      intro r h
      refine Ev.congr (fun q => by unfold impl_rootBegin.f; rfl) ?_
      rw [within_some, within_some]; simp only [Option.bind_some]
      refine Ev.congr (fun q => if_pos (by simp; omega)) (Ev.step (fun q => by rw [impl_rootBegin.j0]) (Ev.congr (fun q => if_neg (by simp; omega)) (Ev.bind hi ?_)))
      exact h
    by_cases ce : e = 0
    · by_cases cp : (p.length : Int) = 0 ∧ k > 0
      · refine .inr ⟨6, f, 0, p, [], by decide, spec _ ?_, impl _ ?_⟩
        · exact Ev.congr (fun q => if_pos ce) (Ev.congr (fun q => if_pos cp.1) (Ev.congr (fun q => if_pos cp.2) (Ev.now _)))
        · exact Ev.congr (fun q => if_pos ce) (Ev.congr (fun q => if_pos cp.1) (Ev.congr (fun q => if_pos cp.2) (Ev.now _)))
      · have hp : p ≠ [] ∨ k = 0 := by
          by_cases z : k = 0
          · exact .inr z
          · refine .inl fun hp => cp ⟨by rw [hp]; rfl, by omega⟩
        subst ce
        refine .inl ⟨f, p, hb, hp, c.2, spec _ ?_, impl _ ?_⟩
        · by_cases cl : (p.length : Int) = 0
          · exact Ev.congr (fun q => if_pos rfl) (Ev.congr (fun q => if_pos cl) (Ev.congr (fun q => if_neg (fun z => cp ⟨cl, z⟩)) (Ev.now _)))
          · exact Ev.congr (fun q => if_pos rfl) (Ev.congr (fun q => if_neg cl) (Ev.now _))
        · by_cases cl : (p.length : Int) = 0
          · exact Ev.congr (fun q => if_pos rfl) (Ev.congr (fun q => if_pos cl) (Ev.congr (fun q => if_neg (fun z => cp ⟨cl, z⟩)) (Ev.now _)))
          · exact Ev.congr (fun q => if_pos rfl) (Ev.congr (fun q => if_neg cl) (Ev.now _))
    · exact .inr ⟨e, f, f, p, p, ce, spec _ (Ev.congr (fun q => if_neg ce) (Ev.now _)), impl _ (Ev.congr (fun q => if_neg ce) (Ev.now _))⟩
  · refine .inr ⟨2, 0, 0, [], [], by decide, ?_, ?_⟩
    · refine Ev.congr (fun q => by unfold spec_l04Index.f; rfl) ?_
      rw [l00In_some, l00In_some]; simp only [Option.bind_some]
      by_cases c1 : 0 ≤ n ∧ n ≤ 1000000
      · exact Ev.congr (fun q => if_pos (by simp; omega)) (Ev.step (fun q => by rw [spec_l04Index.j0]) (Ev.congr (fun q => if_pos (by simp; omega)) (Ev.now _)))
      · exact Ev.congr (fun q => if_neg (by simp; omega)) (Ev.step (fun q => by rw [spec_l04Index.j0]) (Ev.congr (fun q => if_pos rfl) (Ev.now _)))
    · refine Ev.congr (fun q => by unfold impl_rootBegin.f; rfl) ?_
      rw [within_some, within_some]; simp only [Option.bind_some]
      by_cases c1 : 0 ≤ n ∧ n ≤ 1000000
      · exact Ev.congr (fun q => if_pos (by simp; omega)) (Ev.step (fun q => by rw [impl_rootBegin.j0]) (Ev.congr (fun q => if_pos (by simp; omega)) (Ev.now _)))
      · exact Ev.congr (fun q => if_neg (by simp; omega)) (Ev.step (fun q => by rw [impl_rootBegin.j0]) (Ev.congr (fun q => if_pos rfl) (Ev.now _)))
theorem rootConvergent_ev (n k : Int) : ∃ r : S24 × S24 × Int, Ev (fun q => spec_RootConvergent.f q n k) r ∧ Ev (fun q => impl_RootConvergent.f q n k) r := by
  rcases index_ev n k 1000 (by decide) with ⟨f, p, hb, hp, hk, hs, hi⟩ | ⟨e, f1, f2, p1, p2, he, hs, hi⟩
  · have k1 : Ev (fun q => spec_l04Parts.f q f p k) (cvR f p (k + 1).toNat 0 1 0 0 1) := ⟨(k + 1).toNat + 1, fun q hq => lp_cv (by omega) hp hb.1 hb.2 _ _ _ _ _ _ q (by omega) (by omega) (by omega)⟩
    have k2 : Ev (fun q => impl_rootConvergent.f q f p k) (cvR f p (k + 1).toNat 0 1 0 0 1) := ⟨(k + 1).toNat + 2, fun q hq => rc_cv (by omega) hp hb.1 hb.2 _ _ _ _ _ _ q (by omega) (by omega) (by omega)⟩
    exact ⟨_, Ev.congr (fun q => by unfold spec_RootConvergent.f; rfl) (Ev.bind hs (Ev.congr (fun q => if_pos rfl) (Ev.bind k1 (Ev.now _)))), Ev.congr (fun q => by unfold impl_RootConvergent.f; rfl) (Ev.bind hi (Ev.congr (fun q => if_pos rfl) (Ev.bind k2 (Ev.now _))))⟩
  · exact ⟨_, Ev.congr (fun q => by unfold spec_RootConvergent.f; rfl) (Ev.bind hs (Ev.congr (fun q => if_neg he) (Ev.now _))), Ev.congr (fun q => by unfold impl_RootConvergent.f; rfl) (Ev.bind hi (Ev.congr (fun q => if_neg he) (Ev.now _)))⟩
theorem FnExactRootConvergent : laws_FnExactRootConvergent.Pure := by
  intro n k _ _
  apply Ev.rounds (r := true)
  obtain ⟨⟨r1, r2, r3⟩, hs, hi⟩ := rootConvergent_ev n k
  refine Ev.congr (fun k => by unfold laws_FnExactRootConvergent.f; rfl) ?_
  refine Ev.bind hs (Ev.bind hi (Ev.bind (eqWide_ev _) ?_))
  refine Ev.congr (fun q => if_pos rfl) (Ev.bind (eqWide_ev _) ?_)
  exact Ev.congr (fun q => if_pos rfl) (Ev.congr (fun q => if_pos rfl) (Ev.now _))
end Go.Proofs.Ytbomadebdekjjaa.Pure
