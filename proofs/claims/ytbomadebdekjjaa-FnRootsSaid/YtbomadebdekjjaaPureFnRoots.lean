/- The first term of a root is its greatest integer, the period ends with twice this, and is the same backwards but for this; units solve their equation. -/
import Derived.Test.YtbomadebdekjjaaMFnRootsx9
import Derived.Test.YtbomadebdekjjaaMOpen
namespace Go.Proofs.Ytbomadebdekjjaa.Pure
open Go.RowKit Go.Proofs.Ytbomadebdekjjaa.MFnRoots Go.Proofs.Ytbomadebdekjjaa.MOpen Go.Proofs.YtbomadebdekjjaaW.PrintWords Go.Proofs.YtbomadebdekjjaaW.PrintLast Go.Proofs.YtbomadebdekjjaaW.PrintMore
set_option linter.unusedVariables false
set_option linter.unusedSimpArgs false
theorem wrap64_id {n : Int} (h0 : -9223372036854775808 ≤ n) (h1 : n ≤ 9223372036854775807) : wrap64 n = n := by
  unfold wrap64; omega
theorem rd_nat (xs : List Int) (i : Nat) : rd xs (i : Int) = xs.getD i 0 := by simp [rd]
theorem rd_get (xs : List Int) (i : Nat) (h : i < xs.length) : rd xs (i : Int) = xs[i] := by simp [rd, h]
theorem ev_k {α : Type} {f : Nat → Option α} {r : α} (n : Nat) (h : ∀ k, n ≤ k → f k = some r) : Ev f r := ⟨n, h⟩
theorem sq_lt {a b : Int} (h0 : 0 ≤ a) (h : a < b) : a * a < b * b := by
  have h1 : a * a ≤ a * b := Int.mul_le_mul_of_nonneg_left (by omega) h0
  have h2 : a * b < b * b := Int.mul_lt_mul_of_pos_right h (by omega)
  omega
theorem root_loop (n : Int) (hn : n ≤ 1000000) (d : Nat) : ∀ (i : Int), 0 ≤ i → i * i ≤ n → 1001 - i ≤ d → ∃ r, i ≤ r ∧ r ≤ 1000 ∧ r * r ≤ n ∧ n < (r + 1) * (r + 1) ∧ ∀ k, d < k → impl_squareRoot.l0 k n i = some r := by
  induction d with
  | zero =>
    intro i h0 h1 h2
    have := sq_lt (a := 1000) (b := i) (by omega) (by omega)
    omega
  | succ d ih =>
    intro i h0 h1 h2
    have hi : i ≤ 1000 := by
      by_cases c : i ≤ 1000
      · exact c
      · have := sq_lt (a := 1000) (b := i) (by omega) (by omega); omega
    have hb : 0 ≤ (i + 1) * (i + 1) ∧ (i + 1) * (i + 1) ≤ 1001 * 1001 := ⟨Int.mul_nonneg (by omega) (by omega), Int.mul_le_mul (by omega) (by omega) (by omega) (by omega)⟩
    by_cases c : (i + 1) * (i + 1) ≤ n
    · obtain ⟨r, q1, q2, q3, q4, q5⟩ := ih (i + 1) (by omega) c (by omega)
      refine ⟨r, by omega, q2, q3, q4, fun k hk => ?_⟩
      obtain ⟨k, rfl⟩ : ∃ m, k = m + 1 := ⟨k - 1, by omega⟩
      simp only [impl_squareRoot.l0]; rw [wrap64_id (n := i + 1) (by omega) (by omega), wrap64_id (by omega) (by omega), if_pos c]
      exact q5 k (by omega)
    · refine ⟨i, by omega, hi, h1, by omega, fun k hk => ?_⟩
      obtain ⟨k, rfl⟩ : ∃ m, k = m + 1 := ⟨k - 1, by omega⟩
      simp only [impl_squareRoot.l0]; rw [wrap64_id (n := i + 1) (by omega) (by omega), wrap64_id (by omega) (by omega), if_neg c]
theorem root_same : ∀ k n i, spec_l04Root.l0 k n i = impl_squareRoot.l0 k n i := by
  intro k
  induction k with
  | zero => intro n i; rfl
  | succ k ih => intro n i; simp only [spec_l04Root.l0, impl_squareRoot.l0, ih]
theorem period_same : ∀ k n f p m d a, spec_l04Period.l0 k n f p m d a = impl_RootTerms.l0 k n f p m d a := by
  intro k
  induction k with
  | zero => intros; rfl
  | succ k ih => intro n f p m d a; simp only [spec_l04Period.l0, impl_RootTerms.l0, ih]
/-- One round of the period: the new numbers. -/
theorem period_step {n f m d a e : Int} (hf : 0 ≤ f) (hfn : f * f < n) (hnf : n < (f + 1) * (f + 1)) (hd : 1 ≤ d) (hd2 : d ≤ 2 * f + 1) (ha : a = (f + m) / d) (he : n - m * m = d * e) :
    -f ≤ d * a - m ∧ d * a - m ≤ f ∧ ∃ d', 1 ≤ d' ∧ d' ≤ 2 * f + 1 ∧ n - (d * a - m) * (d * a - m) = d * d' := by
  have hr := Int.emod_add_mul_ediv (f + m) d
  have hr0 := Int.emod_nonneg (f + m) (b := d) (by omega)
  have hr1 := Int.emod_lt_of_pos (f + m) (b := d) (by omega)
  rw [← ha] at hr
  generalize hq : d * a = q at *
  have h1 : -f ≤ q - m := by omega
  have h2 : q - m ≤ f := by omega
  have hsq : (q - m) * (q - m) ≤ f * f := by
    rcases Int.le_total 0 (q - m) with c | c
    · exact Int.mul_le_mul h2 h2 c hf
    · have h3 : (-(q - m)) * (-(q - m)) ≤ f * f := Int.mul_le_mul (by omega) (by omega) (by omega) hf
      rwa [Int.neg_mul_neg] at h3
  have hdv : n - (q - m) * (q - m) = d * (e - a * q + 2 * (a * m)) := by
    have e1 : (q - m) * (q - m) = q * q - 2 * (q * m) + m * m := by grind
    have e2 : d * (e - a * q + 2 * (a * m)) = d * e - q * q + 2 * (q * m) := by rw [← hq]; grind
    rw [e1, e2, ← he]; omega
  generalize hdd : e - a * q + 2 * (a * m) = d' at *
  have hpos : 0 < d * d' := by omega
  have hd'1 : 1 ≤ d' := by
    by_cases c : 1 ≤ d'
    · exact c
    · have := Int.mul_nonpos_of_nonneg_of_nonpos (a := d) (b := d') (by omega) (by omega); omega
  refine ⟨h1, h2, d', hd'1, ?_, hdv⟩
  have hup : d * d' < d * (f + 1 + (q - m)) := by
    have e3 : (f + 1) * (f + 1) - (q - m) * (q - m) = (f + 1 - (q - m)) * (f + 1 + (q - m)) := by grind
    have e4 : (f + 1 - (q - m)) * (f + 1 + (q - m)) ≤ d * (f + 1 + (q - m)) := Int.mul_le_mul_of_nonneg_right (by omega) (by omega)
    omega
  have := Int.lt_of_mul_lt_mul_left hup (by omega)
  omega
theorem period_loop (n f : Int) (hf : 0 ≤ f) (hf2 : f ≤ 1000) (hn : n ≤ 1000000) (hfn : f * f < n) (hnf : n < (f + 1) * (f + 1)) (t : Nat) : ∀ (p : List Int) (m d a e : Int), p.length + t = 3000 → 1 ≤ d → d ≤ 2 * f + 1 → -f ≤ m → m ≤ f → a = (f + m) / d → n - m * m = d * e →
    ∃ r : Int × List Int × Int, r.2.1.length ≤ 3000 ∧ ∀ k, t + 1 < k → impl_RootTerms.l0 k n f p m d a = some r := by
  have hff := Int.mul_nonneg hf hf
  have aux : ∀ (p : List Int) (m d a e : Int), 1 ≤ d → d ≤ 2 * f + 1 → -f ≤ m → m ≤ f → a = (f + m) / d → n - m * m = d * e → ∃ m' d' a', -f ≤ m' ∧ m' ≤ f ∧ 1 ≤ d' ∧ d' ≤ 2 * f + 1 ∧ a' = (f + m') / d' ∧ n - m' * m' = d' * d ∧ ∀ k,
      impl_RootTerms.l0 (k + 1) n f p m d a = if a = 2 * f then some (f, p, 0) else if (p.length : Int) = 3000 then some (0, [], 3) else if p.length < 17592186044416 then impl_RootTerms.l0 k n f (p ++ [a']) m' d' a' else none := by
    intro p m d a e hd hd2 hm1 hm2 ha he
    obtain ⟨h1, h2, d', h3, h4, h5⟩ := period_step hf hfn hnf hd hd2 ha he
    have hr := Int.emod_add_mul_ediv (f + m) d
    have hr0 := Int.emod_nonneg (f + m) (b := d) (by omega)
    have hr1 := Int.emod_lt_of_pos (f + m) (b := d) (by omega)
    rw [← ha] at hr
    refine ⟨d * a - m, d', (f + (d * a - m)) / d', h1, h2, h3, h4, rfl, by rw [h5, Int.mul_comm], fun k => ?_⟩
    have hsq : 0 ≤ (d * a - m) * (d * a - m) ∧ (d * a - m) * (d * a - m) ≤ 1000 * 1000 := by
      rcases Int.le_total 0 (d * a - m) with c | c
      · exact ⟨Int.mul_nonneg c c, Int.mul_le_mul (by omega) (by omega) c (by omega)⟩
      · have h6 : (-(d * a - m)) * (-(d * a - m)) ≤ 1000 * 1000 := Int.mul_le_mul (by omega) (by omega) (by omega) (by omega)
        rw [Int.neg_mul_neg] at h6
        exact ⟨Int.mul_nonneg_of_nonpos_of_nonpos c c, h6⟩
    have w1 : wrap64 (d * a) = d * a := wrap64_id (by omega) (by omega)
    have w2 : wrap64 (d * a - m) = d * a - m := wrap64_id (by omega) (by omega)
    have w3 : wrap64 ((d * a - m) * (d * a - m)) = (d * a - m) * (d * a - m) := wrap64_id (by omega) (by omega)
    have w4 : wrap64 (n - (d * a - m) * (d * a - m)) = d * d' := by rw [← h5]; exact wrap64_id (by omega) (by omega)
    have w5 : wrap64 (Int.tdiv (d * d') d) = d' := by
      rw [Int.mul_tdiv_cancel_left _ (by omega)]; exact wrap64_id (by omega) (by omega)
    have w6 : wrap64 (f + (d * a - m)) = f + (d * a - m) := wrap64_id (by omega) (by omega)
    have w7 : wrap64 (Int.tdiv (f + (d * a - m)) d') = (f + (d * a - m)) / d' := by
      rw [Int.tdiv_eq_ediv_of_nonneg (by omega)]
      have := Int.ediv_nonneg (a := f + (d * a - m)) (b := d') (by omega) (by omega)
      have := Int.ediv_le_self (a := f + (d * a - m)) d' (by omega)
      exact wrap64_id (by omega) (by omega)
    have w8 : wrap64 (2 * f) = 2 * f := wrap64_id (by omega) (by omega)
    simp only [impl_RootTerms.l0]
    rw [w1, w2, w3, w4, w5, w6, w7, w8, if_neg (show ¬ d = 0 by omega), if_neg (show ¬ d' = 0 by omega)]
  induction t with
  | zero =>
    intro p m d a e hp hd hd2 hm1 hm2 ha he
    obtain ⟨m', d', a', _, _, _, _, _, _, hs⟩ := aux p m d a e hd hd2 hm1 hm2 ha he
    refine ⟨if a = 2 * f then (f, p, 0) else (0, [], 3), by split <;> simp; omega, fun k hk => ?_⟩
    obtain ⟨k, rfl⟩ : ∃ m, k = m + 1 := ⟨k - 1, by omega⟩
    rw [hs]
    by_cases c : a = 2 * f
    · rw [if_pos c, if_pos c]
    · rw [if_neg c, if_neg c, if_pos (by omega)]
  | succ t ih =>
    intro p m d a e hp hd hd2 hm1 hm2 ha he
    obtain ⟨m', d', a', g1, g2, g3, g4, g5, g6, hs⟩ := aux p m d a e hd hd2 hm1 hm2 ha he
    by_cases c : a = 2 * f
    · refine ⟨(f, p, 0), by simp; omega, fun k hk => ?_⟩
      obtain ⟨k, rfl⟩ : ∃ m, k = m + 1 := ⟨k - 1, by omega⟩
      rw [hs, if_pos c]
    · obtain ⟨r, hr1, hr2⟩ := ih (p ++ [a']) m' d' a' d (by simp; omega) g3 g4 g1 g2 g5 g6
      refine ⟨r, hr1, fun k hk => ?_⟩
      obtain ⟨k, rfl⟩ : ∃ m, k = m + 1 := ⟨k - 1, by omega⟩
      rw [hs, if_neg c, if_neg (by omega), if_pos (by omega)]
      exact hr2 k (by omega)
theorem period_ev (n : Int) : ∃ r : Int × List Int × Int, r.2.1.length ≤ 3000 ∧ Ev (fun k => impl_RootTerms.f k n) r ∧ Ev (fun k => spec_l04Period.f k n) r := by
  by_cases c : 0 ≤ n ∧ n ≤ 1000000
  · have hw : impl_within.f n 0 1000000 = some true := by unfold impl_within.f; rw [if_pos (by omega)]; simp [c.2]
    have hw2 : spec_l00In.f n 0 1000000 = some true := by unfold spec_l00In.f; rw [if_pos (by omega)]; simp [c.2]
    obtain ⟨f, h1, h2, h3, h4, h5⟩ := root_loop n c.2 1002 0 (by omega) (by omega) (by omega)
    have hb : 0 ≤ f * f ∧ f * f ≤ 1000 * 1000 := ⟨Int.mul_nonneg h1 h1, Int.mul_le_mul h2 h2 h1 (by omega)⟩
    have wf : wrap64 (f * f) = f * f := wrap64_id (by omega) (by omega)
    by_cases e : f * f = n
    · refine ⟨(f, [], 0), by simp, ⟨1003, fun k hk => ?_⟩, ⟨1003, fun k hk => ?_⟩⟩
      · show impl_RootTerms.f k n = _
        unfold impl_RootTerms.f impl_squareRoot.f
        rw [hw]; simp only [Option.bind_some]; rw [if_pos trivial, h5 k (by omega)]; simp only [Option.bind_some]; rw [wf, if_pos e]
      · show spec_l04Period.f k n = _
        unfold spec_l04Period.f spec_l04Root.f
        rw [hw2]; simp only [Option.bind_some]; rw [if_pos trivial, root_same, h5 k (by omega)]; simp only [Option.bind_some]; rw [wf, if_pos e]
    · obtain ⟨r, hr1, hr2⟩ := period_loop n f h1 h2 c.2 (by omega) h4 3000 [] 0 1 f n (by simp) (by omega) (by omega) (by omega) h1 (by simp) (by omega)
      refine ⟨r, hr1, ⟨3003, fun k hk => ?_⟩, ⟨3003, fun k hk => ?_⟩⟩
      · show impl_RootTerms.f k n = _
        unfold impl_RootTerms.f impl_squareRoot.f
        rw [hw]; simp only [Option.bind_some]; rw [if_pos trivial, h5 k (by omega)]; simp only [Option.bind_some]; rw [wf, if_neg e]
        exact hr2 k (by omega)
      · show spec_l04Period.f k n = _
        unfold spec_l04Period.f spec_l04Root.f
        rw [hw2]; simp only [Option.bind_some]; rw [if_pos trivial, root_same, h5 k (by omega)]; simp only [Option.bind_some]; rw [wf, if_neg e, period_same, hr2 k (by omega)]
  · have hw : impl_within.f n 0 1000000 = some false := by unfold impl_within.f; split <;> simp; omega
    have hw2 : spec_l00In.f n 0 1000000 = some false := by unfold spec_l00In.f; split <;> simp; omega
    refine ⟨(0, [], 2), by simp, ⟨0, fun k _ => ?_⟩, ⟨0, fun k _ => ?_⟩⟩
    · show impl_RootTerms.f k n = _
      unfold impl_RootTerms.f; rw [hw]; rfl
    · show spec_l04Period.f k n = _
      unfold spec_l04Period.f; rw [hw2]; rfl
theorem l00In_some (a b c : Int) : spec_l00In.f a b c = some (decide (b ≤ a ∧ a ≤ c)) := by
  unfold spec_l00In.f
  split <;> simp <;> omega
theorem within_some (a b c : Int) : impl_within.f a b c = some (decide (b ≤ a ∧ a ≤ c)) := l00In_some a b c
theorem rootTerm_some (f : Int) (p : List Int) (k : Int) (hk : 0 ≤ k ∧ k ≤ 1000000000) (h : p ≠ [] ∨ k = 0) : ∃ t, impl_rootTerm.f f p k = some t ∧ spec_l04RootAt.f f p k = some t := by
  have hs : spec_l04RootAt.f f p k = impl_rootTerm.f f p k := rfl
  rw [hs]
  suffices h2 : ∃ t, impl_rootTerm.f f p k = some t by
    obtain ⟨t, h2⟩ := h2; exact ⟨t, h2, h2⟩
  unfold impl_rootTerm.f
  by_cases c : k = 0
  · exact ⟨_, by rw [if_pos c]⟩
  · have hp : 0 < p.length := by
      rcases h with h | h
      · exact List.length_pos_iff.2 h
      · exact absurd h c
    rw [if_neg c, wrap64_id (by omega) (by omega), Int.tmod_eq_emod_of_nonneg (by omega)]
    have h1 := Int.emod_nonneg (k - 1) (b := (p.length : Int)) (by omega)
    have h2 := Int.emod_lt_of_pos (k - 1) (b := (p.length : Int)) (by omega)
    exact ⟨_, by rw [if_neg (by omega), if_pos h1, if_pos h2]⟩
def tmA (f : Int) (l : List Int) (i : Int) : Int := if i = 0 then f else rd l (Int.tmod (wrap64 (i - 1)) (l.length : Int))
/-- The parts of a convergent by value: d more steps. -/
def cvR (f : Int) (l : List Int) : Nat → Int → Int → Int → Int → Int → S24 × S24 × Int
  | 0, _, p, q, _, _ => (wenc p, wenc q, 0)
  | d + 1, i, p, q, p0, q0 => if ((tmA f l i * p).natAbs < 4294967296 ^ 6 ∧ (tmA f l i * q).natAbs < 4294967296 ^ 6) ∧ ((tmA f l i * p + p0).natAbs < 4294967296 ^ 6 ∧ (tmA f l i * q + q0).natAbs < 4294967296 ^ 6) then cvR f l d (i + 1) (tmA f l i * p + p0) (tmA f l i * q + q0) p q else (wenc 0, wenc 0, 3)
theorem fitC_yes {n : Nat} (h : n < 4294967296 ^ 6) : Wide.fitC n = 0 := if_pos h
theorem fitC_no {n : Nat} (h : ¬ n < 4294967296 ^ 6) : ¬ Wide.fitC n = 0 := by
  unfold Wide.fitC; rw [if_neg h]; decide
theorem fitZ_yes {z : Int} (h : z.natAbs < 4294967296 ^ 6) : Wide.fitZ z = z := if_pos h
theorem addZ_yes {a b : Int} (h : (a + b).natAbs < 4294967296 ^ 6) : Wide.addZ a b = a + b := if_pos h
theorem ovM_yes {n : Nat} (h : n < 4294967296 ^ 6) : Wide.ovM n = false := decide_eq_false (fun e => e h)
theorem ovM_no {n : Nat} (h : ¬ n < 4294967296 ^ 6) : Wide.ovM n = true := decide_eq_true h
def I64 (x : Int) : Prop := -9223372036854775808 ≤ x ∧ x < 9223372036854775808
theorem tmA_at {f : Int} {l : List Int} {i : Int} (hi : 0 ≤ i ∧ i ≤ 1000000000) (h : l ≠ [] ∨ i = 0) : impl_rootTerm.f f l i = some (tmA f l i) ∧ spec_l04RootAt.f f l i = some (tmA f l i) := by
  obtain ⟨t, h1, h2⟩ := rootTerm_some f l i hi h
  have e : t = tmA f l i := by
    unfold impl_rootTerm.f at h1
    unfold tmA
    by_cases c : i = 0
    · rw [if_pos c] at h1 ⊢; exact (Option.some.inj h1).symm
    · rw [if_neg c] at h1 ⊢
      split at h1
      · simp at h1
      · split at h1
        · split at h1
          · exact (Option.some.inj h1).symm
          · simp at h1
        · simp at h1
  subst e
  exact ⟨h1, h2⟩
theorem getD_I64 {l : List Int} (hl : ∀ x ∈ l, I64 x) (j : Nat) : I64 (l.getD j 0) := by
  rw [List.getD_eq_getElem?_getD]
  cases h : l[j]? with
  | none => exact ⟨by decide, by decide⟩
  | some x => exact hl _ (List.mem_of_getElem? h)
theorem tmA_I64 {f : Int} {l : List Int} (hf : I64 f) (hl : ∀ x ∈ l, I64 x) (i : Int) : I64 (tmA f l i) := by
  unfold tmA
  split
  · exact hf
  · exact getD_I64 hl _
theorem lp_cv {f : Int} {l : List Int} {m : Int} (hm : m ≤ 1000000000) (h0 : l ≠ [] ∨ m = 0) (hf : I64 f) (hl : ∀ x ∈ l, I64 x) : ∀ (d : Nat) (i p q p0 q0 : Int) (k : Nat), 0 ≤ i → i + d = m + 1 → d < k → lpR f l m k i p q p0 q0 = some (cvR f l d i p q p0 q0) := by
  intro d
  induction d with
  | zero =>
    intro i p q p0 q0 k hi hd hk
    obtain ⟨k, rfl⟩ : ∃ j, k = j + 1 := ⟨k - 1, by omega⟩
    rw [lpR, if_neg (by omega)]; rfl
  | succ d ih =>
    intro i p q p0 q0 k hi hd hk
    obtain ⟨k, rfl⟩ : ∃ j, k = j + 1 := ⟨k - 1, by omega⟩
    rw [lpR, if_pos (by omega), (tmA_at ⟨hi, by omega⟩ (by rcases h0 with h | h; exact .inl h; exact .inr (by omega))).2]
    simp only [Option.bind_some, cvR]
    rw [if_pos (show -9223372036854775808 ≤ tmA f l i ∧ tmA f l i < 9223372036854775808 from tmA_I64 hf hl i)]
    generalize tmA f l i = a
    by_cases c1 : (a * p).natAbs < 4294967296 ^ 6 ∧ (a * q).natAbs < 4294967296 ^ 6
    · rw [if_pos ⟨fitC_yes c1.1, fitC_yes c1.2⟩, fitZ_yes c1.1, fitZ_yes c1.2]
      by_cases c2 : (a * p + p0).natAbs < 4294967296 ^ 6 ∧ (a * q + q0).natAbs < 4294967296 ^ 6
      · rw [if_pos ⟨fitC_yes c2.1, fitC_yes c2.2⟩, fitZ_yes c2.1, fitZ_yes c2.2, if_pos ⟨c1, c2⟩, wrap64_id (by omega) (by omega)]
        exact ih _ _ _ _ _ k (by omega) (by omega) (by omega)
      · rw [if_neg (fun e => c2 ⟨Classical.byContradiction fun z => fitC_no z e.1, Classical.byContradiction fun z => fitC_no z e.2⟩), if_neg (fun e => c2 e.2)]
    · rw [if_neg (fun e => c1 ⟨Classical.byContradiction fun z => fitC_no z e.1, Classical.byContradiction fun z => fitC_no z e.2⟩), if_neg (fun e => c1 e.1)]
theorem rc_over {f : Int} {l : List Int} {m : Int} (k : Nat) (i p q p0 q0 : Int) (hk : 0 < k) : rcR f l m k i p q p0 q0 true = some (wenc 0, wenc 0, 3) := by
  obtain ⟨k, rfl⟩ : ∃ j, k = j + 1 := ⟨k - 1, by omega⟩
  rw [rcR, if_neg (by simp), if_pos rfl]
theorem rc_cv {f : Int} {l : List Int} {m : Int} (hm : m ≤ 1000000000) (h0 : l ≠ [] ∨ m = 0) (hf : I64 f) (hl : ∀ x ∈ l, I64 x) : ∀ (d : Nat) (i p q p0 q0 : Int) (k : Nat), 0 ≤ i → i + d = m + 1 → d + 1 < k → rcR f l m k i p q p0 q0 false = some (cvR f l d i p q p0 q0) := by
  intro d
  induction d with
  | zero =>
    intro i p q p0 q0 k hi hd hk
    obtain ⟨k, rfl⟩ : ∃ j, k = j + 1 := ⟨k - 1, by omega⟩
    rw [rcR, if_neg (by omega), if_neg (by decide)]; rfl
  | succ d ih =>
    intro i p q p0 q0 k hi hd hk
    obtain ⟨k, rfl⟩ : ∃ j, k = j + 1 := ⟨k - 1, by omega⟩
    rw [rcR, if_pos ⟨by omega, rfl⟩, (tmA_at ⟨hi, by omega⟩ (by rcases h0 with h | h; exact .inl h; exact .inr (by omega))).1]
    simp only [Option.bind_some, cvR]
    rw [if_pos (show -9223372036854775808 ≤ tmA f l i ∧ tmA f l i < 9223372036854775808 from tmA_I64 hf hl i)]
    generalize tmA f l i = a
    by_cases c1 : (a * p).natAbs < 4294967296 ^ 6 ∧ (a * q).natAbs < 4294967296 ^ 6
    · rw [ovM_yes c1.1, ovM_yes c1.2, fitZ_yes c1.1, fitZ_yes c1.2]
      by_cases c2 : (a * p + p0).natAbs < 4294967296 ^ 6 ∧ (a * q + q0).natAbs < 4294967296 ^ 6
      · rw [ovM_yes c2.1, ovM_yes c2.2, addZ_yes c2.1, addZ_yes c2.2, if_pos ⟨c1, c2⟩, wrap64_id (by omega) (by omega)]
        exact ih _ _ _ _ _ k (by omega) (by omega) (by omega)
      · rw [if_neg (fun e => c2 e.2)]
        have e : ((((false || false) || Wide.ovM (a * p + p0).natAbs) || false) || Wide.ovM (a * q + q0).natAbs) = true := by
          by_cases c3 : (a * p + p0).natAbs < 4294967296 ^ 6
          · rw [ovM_yes c3, ovM_no (fun z => c2 ⟨c3, z⟩)]; rfl
          · rw [ovM_no c3]; simp
        rw [e]
        exact rc_over _ _ _ _ _ _ (by omega)
    · rw [if_neg (fun e => c1 e.1)]
      have e : ((((false || Wide.ovM (a * p).natAbs) || Wide.ovM (Wide.fitZ (a * p) + p0).natAbs) || Wide.ovM (a * q).natAbs) || Wide.ovM (Wide.fitZ (a * q) + q0).natAbs) = true := by
        by_cases c3 : (a * p).natAbs < 4294967296 ^ 6
        · rw [ovM_no (fun z => c1 ⟨c3, z⟩ : ¬ (a * q).natAbs < 4294967296 ^ 6)]; simp
        · rw [ovM_no c3]; simp
      rw [e]
      exact rc_over _ _ _ _ _ _ (by omega)
theorem wrap_I64 (x : Int) : I64 (wrap64 x) := by
  unfold I64 wrap64
  omega
theorem loop_I64 : ∀ (k : Nat) (n f m d a : Int) (p : List Int) (r : Int × List Int × Int), I64 f → (∀ x ∈ p, I64 x) → impl_RootTerms.l0 k n f p m d a = some r → I64 r.1 ∧ ∀ x ∈ r.2.1, I64 x := by
  intro k
  induction k with
  | zero => intro n f m d a p r _ _ h; simp [impl_RootTerms.l0] at h
  | succ k ih =>
    intro n f m d a p r hf hp h
    simp only [impl_RootTerms.l0] at h
    repeat' split at h
    all_goals first
      | (obtain rfl := Option.some.inj h; exact ⟨hf, hp⟩)
      | (obtain rfl := Option.some.inj h; exact ⟨⟨by decide, by decide⟩, by simp⟩)
      | (exact absurd h (by simp))
      | (refine ih _ _ _ _ _ _ _ hf ?_ h; intro x hx; rcases List.mem_append.1 hx with hx | hx; exact hp x hx; (obtain rfl := List.mem_singleton.1 hx; exact wrap_I64 _))
theorem root_I64 : ∀ (k : Nat) (n i r : Int), I64 i → impl_squareRoot.l0 k n i = some r → I64 r := by
  intro k
  induction k with
  | zero => intro n i r _ h; simp [impl_squareRoot.l0] at h
  | succ k ih =>
    intro n i r hi h
    simp only [impl_squareRoot.l0] at h
    split at h
    · exact ih _ _ _ (wrap_I64 _) h
    · obtain rfl := Option.some.inj h; exact hi
theorem terms_I64 {k : Nat} {n : Int} {r : Int × List Int × Int} (h : impl_RootTerms.f k n = some r) : I64 r.1 ∧ ∀ x ∈ r.2.1, I64 x := by
  have z : I64 0 := ⟨by decide, by decide⟩
  unfold impl_RootTerms.f at h
  obtain ⟨t, ht, h⟩ := Option.bind_eq_some_iff.mp h
  split at h
  · obtain ⟨f, hf, h⟩ := Option.bind_eq_some_iff.mp h
    have hF : I64 f := root_I64 _ _ _ _ z (by unfold impl_squareRoot.f at hf; exact hf)
    split at h
    · obtain rfl := Option.some.inj h; exact ⟨hF, by simp⟩
    · exact loop_I64 _ _ _ _ _ _ _ _ hF (by simp) h
  · obtain rfl := Option.some.inj h; exact ⟨z, by simp⟩
/-- The period of a root, by naturals: none where a bound is left. -/
def perN : Nat → Nat → Nat → Nat → Nat → Nat → Option (List Nat)
  | 0, _, _, _, _, _ => none
  | k + 1, n, f, m, d, a => bif a == 2 * f then some [] else bif Nat.ble m (d * a) && (Nat.ble (d * a) 4000 && (Nat.ble ((d * a - m) * (d * a - m)) n && (Nat.ble 1 d && Nat.ble 1 ((n - (d * a - m) * (d * a - m)) / d)))) then (perN k n f (d * a - m) ((n - (d * a - m) * (d * a - m)) / d) ((f + (d * a - m)) / ((n - (d * a - m) * (d * a - m)) / d))).map (((f + (d * a - m)) / ((n - (d * a - m) * (d * a - m)) / d)) :: ·) else none
/-- The convergent's parts, by naturals. -/
def cvN : Nat → List Nat → Nat → Nat → Nat → Nat → Option (Nat × Nat)
  | 0, _, p, q, _, _ => some (p, q)
  | _ + 1, [], _, _, _, _ => none
  | d + 1, a :: S, p, q, p0, q0 => bif Nat.blt (a * p + p0) (4294967296 ^ 6) && Nat.blt (a * q + q0) (4294967296 ^ 6) then cvN d S (a * p + p0) (a * q + q0) p q else none
def rtN : Nat → Nat → Nat → Nat
  | 0, _, i => i
  | k + 1, n, i => bif Nat.ble ((i + 1) * (i + 1)) n then rtN k n (i + 1) else i
def lastN (l : List Nat) : Nat := bif l.length % 2 == 1 then 2 * l.length else l.length
def pellN (n f : Nat) (l : List Nat) : Bool := match cvN (lastN l) (f :: (l ++ l)) 1 0 0 1 with
  | none => true
  | some (p, q) => p * p == n * (q * q) + 1
def chkN2 (n f : Nat) : Bool := Nat.ble (f * f) n && (Nat.blt n ((f + 1) * (f + 1)) && (f * f == n || match perN 100 n f 0 1 f with
  | none => false
  | some l => (!l.isEmpty) && (l.getLast? == some (2 * f) && (l.dropLast == l.dropLast.reverse && (Nat.ble l.length 100 && pellN n f l)))))
def chkN (n : Nat) : Bool := chkN2 n (rtN 40 n 0)
def allN : Nat → Bool
  | 0 => true
  | n + 1 => chkN n && allN n
set_option maxRecDepth 100000 in
theorem allN_ok : allN 1024 = true := by kernel_rfl
theorem ev_uniq {α : Type} {f : Nat → Option α} {r s : α} (h : Ev f r) (g : Ev f s) : r = s := by
  obtain ⟨n, h⟩ := h
  obtain ⟨m, g⟩ := g
  exact Option.some.inj ((h (max n m) (Nat.le_max_left ..)).symm.trans (g (max n m) (Nat.le_max_right ..)))
theorem allN_is : ∀ n, allN n = true → ∀ m, m < n → chkN m = true := by
  intro n
  induction n with
  | zero => intro _ m h; exact absurd h (by omega)
  | succ n ih =>
    intro h m hm
    rw [allN, Bool.and_eq_true] at h
    by_cases c : m = n
    · rw [c]; exact h.1
    · exact ih h.2 m (by omega)
/-- The list as the program keeps it. -/
def zl (l : List Nat) : List Int := l.map (fun x : Nat => (x : Int))
theorem per_link (n f : Nat) (hn : n < 1024) (hf : f ≤ 40) : ∀ (k m d a : Nat) (l : List Nat), perN k n f m d a = some l → m ≤ 40000 → 1 ≤ d → ∀ (p : List Int) (q : Nat), p.length + l.length ≤ 2999 → k ≤ q → impl_RootTerms.l0 q n f p m d a = some ((f : Int), p ++ zl l, 0) := by
  intro k
  induction k with
  | zero => intro m d a l h; simp [perN] at h
  | succ k ih =>
    intro m d a l h hm hd p q hp hq
    obtain ⟨q, rfl⟩ : ∃ j, q = j + 1 := ⟨q - 1, by omega⟩
    rw [perN] at h
    have w8 : wrap64 (2 * (f : Int)) = 2 * (f : Int) := wrap64_id (by omega) (by omega)
    by_cases ca : a = 2 * f
    · rw [show (a == 2 * f) = true by simpa using ca] at h
      obtain rfl := Option.some.inj h
      simp only [impl_RootTerms.l0]
      rw [w8, if_pos (by omega)]
      simp [zl]
    · rw [show (a == 2 * f) = false by simpa using ca] at h
      simp only [cond_false] at h
      cases hc : (Nat.ble m (d * a) && (Nat.ble (d * a) 4000 && (Nat.ble ((d * a - m) * (d * a - m)) n && (Nat.ble 1 d && Nat.ble 1 ((n - (d * a - m) * (d * a - m)) / d))))) with
      | false => rw [hc] at h; simp at h
      | true =>
        rw [hc] at h
        simp only [cond_true] at h
        simp only [Bool.and_eq_true, Nat.ble_eq] at hc
        obtain ⟨h1, h2, h3, h4, h5⟩ := hc
        obtain ⟨t, ht, rfl⟩ := Option.map_eq_some_iff.mp h
        simp only [List.length_cons] at hp
        have e1 : (d : Int) * (a : Int) = ((d * a : Nat) : Int) := by push_cast; rfl
        generalize hda : d * a = da at *
        obtain ⟨m', hm'⟩ : ∃ x, da - m = x := ⟨_, rfl⟩
        rw [hm'] at h3 h5 ht h ⊢
        have e2 : (da : Int) - (m : Int) = (m' : Int) := by omega
        have e3 : (m' : Int) * (m' : Int) = ((m' * m' : Nat) : Int) := by push_cast; rfl
        generalize hmm : m' * m' = mm at *
        have e4 : (n : Int) - (mm : Int) = ((n - mm : Nat) : Int) := by omega
        have e5 : Int.tdiv ((n - mm : Nat) : Int) (d : Int) = (((n - mm) / d : Nat) : Int) := (Int.ofNat_tdiv _ _).symm
        have hd' : (n - mm) / d ≤ n - mm := Nat.div_le_self _ _
        generalize hdd : (n - mm) / d = d' at *
        have e6 : (f : Int) + (m' : Int) = ((f + m' : Nat) : Int) := by push_cast; rfl
        have e7 : Int.tdiv ((f + m' : Nat) : Int) (d' : Int) = (((f + m') / d' : Nat) : Int) := (Int.ofNat_tdiv _ _).symm
        have ha' : (f + m') / d' ≤ f + m' := Nat.div_le_self _ _
        generalize haa : (f + m') / d' = a' at *
        simp only [impl_RootTerms.l0]
        rw [w8, if_neg (by omega), if_neg (by omega), e1, wrap64_id (n := (da : Int)) (by omega) (by omega), e2, wrap64_id (n := (m' : Int)) (by omega) (by omega), e3, wrap64_id (n := (mm : Int)) (by omega) (by omega), e4, wrap64_id (n := ((n - mm : Nat) : Int)) (by omega) (by omega), e5, wrap64_id (n := (d' : Int)) (by omega) (by omega), e6, wrap64_id (n := ((f + m' : Nat) : Int)) (by omega) (by omega), e7, wrap64_id (n := (a' : Int)) (by omega) (by omega)]
        rw [if_neg (by omega), if_neg (by omega), if_pos (by omega), ih m' d' a' t ht (by omega) (by omega) _ q (by simp; omega) (by omega)]
        simp [zl]
theorem rt_bound : ∀ k n i, rtN k n i ≤ i + k := by
  intro k
  induction k with
  | zero => intro n i; simp [rtN]
  | succ k ih =>
    intro n i
    rw [rtN]
    cases Nat.ble ((i + 1) * (i + 1)) n with
    | false => exact Nat.le_add_right _ _
    | true => simp only [cond_true]; have := ih n (i + 1); omega
theorem root_uniq {n : Int} {f r : Int} (h0 : 0 ≤ f) (h1 : 0 ≤ r) (a : f * f ≤ n) (b : n < (f + 1) * (f + 1)) (c : r * r ≤ n) (d : n < (r + 1) * (r + 1)) : f = r := by
  by_cases e : f < r
  · have := Int.mul_le_mul (show f + 1 ≤ r by omega) (show f + 1 ≤ r by omega) (by omega) h1
    omega
  · by_cases e2 : r < f
    · have := Int.mul_le_mul (show r + 1 ≤ f by omega) (show r + 1 ≤ f by omega) (by omega) h0
      omega
    · omega
theorem per_root (n : Nat) (hn : n < 1024) (f : Nat) (a : f * f ≤ n) (b : n < (f + 1) * (f + 1)) : ∀ k, 1002 < k → impl_squareRoot.l0 k n 0 = some (f : Int) := by
  obtain ⟨r, h1, h2, h3, h4, h5⟩ := root_loop (n : Int) (by omega) 1002 0 (by omega) (by omega) (by omega)
  have a' : (f : Int) * (f : Int) ≤ (n : Int) := by exact_mod_cast a
  have b' : (n : Int) < ((f : Int) + 1) * ((f : Int) + 1) := by exact_mod_cast b
  obtain rfl := root_uniq (by omega) h1 a' b' h3 h4
  exact h5
theorem per_all (n : Nat) (hn : n < 1024) (f : Nat) (hf : f ≤ 40) (l : List Nat) (hl : l.length ≤ 100) (h7 : perN 100 n f 0 1 f = some l) (k : Nat) (hk : 1003 ≤ k) : impl_RootTerms.l0 k n f [] 0 1 f = some ((f : Int), zl l, 0) := by
  have h8 := per_link n f hn hf 100 0 1 f l h7 (by omega) (by omega) [] k (by simp; omega) (by omega)
  rw [List.nil_append] at h8
  exact h8
theorem in_yes (n : Nat) (hn : n < 1024) : impl_within.f (n : Int) 0 1000000 = some true := by rw [within_some]; simp; omega
theorem sq_wrap (f : Nat) (hf : f * f < 1024) : wrap64 ((f : Int) * (f : Int)) = ((f * f : Nat) : Int) := by
  have e : (f : Int) * (f : Int) = ((f * f : Nat) : Int) := by push_cast; rfl
  rw [e]
  exact wrap64_id (by omega) (by omega)
theorem terms_gen {n f s : Int} {k : Nat} (h1 : impl_within.f n 0 1000000 = some true) (h2 : impl_squareRoot.l0 k n 0 = some f) (h3 : wrap64 (f * f) = s) : impl_RootTerms.f k n = if s = n then some (f, [], 0) else impl_RootTerms.l0 k n f [] 0 1 f := by
  unfold impl_RootTerms.f impl_squareRoot.f
  rw [h1, Option.bind_some, if_pos rfl, h2, Option.bind_some, h3]
theorem terms_impl (n : Nat) (hn : n < 1024) (f : Nat) (hf : f ≤ 40) (a : f * f ≤ n) (b : n < (f + 1) * (f + 1)) (l : List Nat) (hl : l.length ≤ 100) (h : (f * f = n ∧ l = []) ∨ (¬ f * f = n ∧ perN 100 n f 0 1 f = some l)) (k : Nat) (hk : 1003 ≤ k) : impl_RootTerms.f k n = some ((f : Int), zl l, 0) := by
  have e := terms_gen (in_yes n hn) (per_root n hn f a b k hk) (sq_wrap f (Nat.lt_of_le_of_lt a hn))
  rw [e]
  rcases h with ⟨h6, h7⟩ | ⟨h6, h7⟩
  · rw [if_pos (by omega), h7]; rfl
  · rw [if_neg (by omega)]
    exact per_all n hn f hf l hl h7 k hk
theorem terms_link (n : Nat) (hn : n < 1024) (f : Nat) (hf : f ≤ 40) (a : f * f ≤ n) (b : n < (f + 1) * (f + 1)) (l : List Nat) (hl : l.length ≤ 100) (h : (f * f = n ∧ l = []) ∨ (¬ f * f = n ∧ perN 100 n f 0 1 f = some l)) : Ev (fun k => impl_RootTerms.f k n) ((f : Int), zl l, 0) ∧ Ev (fun k => spec_l04Period.f k n) ((f : Int), zl l, 0) := by
  have hi : Ev (fun k => impl_RootTerms.f k n) ((f : Int), zl l, 0) := ⟨1003, fun k hk => terms_impl n hn f hf a b l hl h k hk⟩
  obtain ⟨r, -, h1, h2⟩ := period_ev (n : Int)
  have e := ev_uniq h1 hi
  rw [e] at h2
  exact ⟨hi, h2⟩
theorem cv_link (F : Int) (L : List Int) : ∀ (d : Nat) (S : List Nat) (i : Nat) (p q p0 q0 : Nat), (∀ j, j < d → ∃ x, S[j]? = some x ∧ (x : Int) = tmA F L ((i + j : Nat) : Int)) → cvR F L d (i : Int) p q p0 q0 = match cvN d S p q p0 q0 with
    | some (a, b) => (wenc (a : Int), wenc (b : Int), 0)
    | none => (wenc 0, wenc 0, 3) := by
  intro d
  induction d with
  | zero => intro S i p q p0 q0 _; simp [cvR, cvN]
  | succ d ih =>
    intro S i p q p0 q0 h
    obtain ⟨x, hx, ex⟩ := h 0 (by omega)
    cases S with
    | nil => simp at hx
    | cons a S =>
      simp at hx
      subst hx
      rw [Nat.add_zero] at ex
      rw [cvR, cvN, ← ex]
      have e1 : (a : Int) * (p : Int) + (p0 : Int) = ((a * p + p0 : Nat) : Int) := by push_cast; rfl
      have e2 : (a : Int) * (q : Int) + (q0 : Int) = ((a * q + q0 : Nat) : Int) := by push_cast; rfl
      have e3 : (a : Int) * (p : Int) = ((a * p : Nat) : Int) := by push_cast; rfl
      have e4 : (a : Int) * (q : Int) = ((a * q : Nat) : Int) := by push_cast; rfl
      rw [e1, e2, e3, e4]
      simp only [Int.natAbs_natCast]
      have hs : cvR F L d ((i : Int) + 1) ((a * p + p0 : Nat) : Int) ((a * q + q0 : Nat) : Int) p q = _ := ih S (i + 1) (a * p + p0) (a * q + q0) p q (fun j hj => by
        obtain ⟨y, hy, ey⟩ := h (j + 1) (by omega)
        exact ⟨y, by simpa using hy, by rw [ey]; congr 1; omega⟩)
      rw [hs]
      cases hc : (Nat.blt (a * p + p0) (4294967296 ^ 6) && Nat.blt (a * q + q0) (4294967296 ^ 6)) with
      | true =>
        have hc2 : (a * p + p0 < 4294967296 ^ 6) ∧ (a * q + q0 < 4294967296 ^ 6) := by
          rw [Bool.and_eq_true] at hc
          exact ⟨Nat.le_of_ble_eq_true hc.1, Nat.le_of_ble_eq_true hc.2⟩
        rw [if_pos ⟨⟨Nat.lt_of_le_of_lt (Nat.le_add_right _ _) hc2.1, Nat.lt_of_le_of_lt (Nat.le_add_right _ _) hc2.2⟩, hc2⟩]
        rfl
      | false =>
        rw [if_neg (fun z => by
          rw [show Nat.blt (a * p + p0) (4294967296 ^ 6) = true from Nat.ble_eq_true_of_le z.2.1, show Nat.blt (a * q + q0) (4294967296 ^ 6) = true from Nat.ble_eq_true_of_le z.2.2] at hc
          exact absurd hc (by decide))]
        rfl
theorem tm_link (f : Nat) (l : List Nat) (hl : l.length ≤ 100) (h0 : l ≠ []) (j : Nat) (hj : j < 2 * l.length + 1) : ∃ x, (f :: (l ++ l))[j]? = some x ∧ (x : Int) = tmA f (zl l) (j : Int) := by
  have hp : 0 < l.length := List.length_pos_iff.2 h0
  have hz : (zl l).length = l.length := by simp [zl]
  cases j with
  | zero => exact ⟨f, rfl, rfl⟩
  | succ j =>
    unfold tmA
    rw [if_neg (by omega), hz, show ((j + 1 : Nat) : Int) - 1 = (j : Int) by omega, wrap64_id (by omega) (by omega), ← Int.ofNat_tmod, rd_nat]
    have hm : j % l.length < l.length := Nat.mod_lt _ hp
    refine ⟨l[j % l.length], ?_, ?_⟩
    · simp only [List.getElem?_cons_succ]
      by_cases c : j < l.length
      · rw [List.getElem?_append_left c, List.getElem?_eq_getElem c]
        simp [Nat.mod_eq_of_lt c]
      · rw [List.getElem?_append_right (by omega), List.getElem?_eq_getElem (by omega)]
        have : j % l.length = j - l.length := by rw [Nat.mod_eq_sub_mod (by omega), Nat.mod_eq_of_lt (by omega)]
        simp [this]
    · simp [zl, List.getD_eq_getElem?_getD, hm]
/-- What the numbers' value is, read back. -/
theorem lb_sum {m : Nat} (hm : m < 4294967296 ^ 6) : ((Wide.lb m 0 : Nat) : Int) + 4294967296 * (((Wide.lb m 1 : Nat) : Int) + 4294967296 * (((Wide.lb m 2 : Nat) : Int) + 4294967296 * (((Wide.lb m 3 : Nat) : Int) + 4294967296 * (((Wide.lb m 4 : Nat) : Int) + 4294967296 * ((Wide.lb m 5 : Nat) : Int))))) = (m : Int) := by
  have l0 := Wide.low_succ m 0
  have l1 := Wide.low_succ m 1
  have l2 := Wide.low_succ m 2
  have l3 := Wide.low_succ m 3
  have l4 := Wide.low_succ m 4
  have l5 := Wide.low_succ m 5
  have l6 := Nat.mod_eq_of_lt hm
  rw [Nat.pow_zero, Nat.mod_one] at l0
  simp only [Nat.reduceAdd, Nat.reducePow] at l0 l1 l2 l3 l4 l5 l6
  omega
theorem wun_wenc {z : Int} (h : z.natAbs < 4294967296 ^ 6) : wun (wenc z) = some z := by
  have hv : wval (wenc z) = z := by
    unfold wval wenc wlm
    simp only
    rw [lb_sum h]
    by_cases c : z < 0
    · rw [if_pos (decide_eq_true c)]; omega
    · rw [if_neg (by simpa using c)]; omega
  unfold wun
  rw [hv, if_pos ⟨⟨rfl, rfl, rfl, rfl, rfl, rfl, rfl⟩, h⟩]
theorem mun_wlm {m : Nat} (h : m < 4294967296 ^ 6) : mun (wlm m) = some m := by
  have hv : mval (wlm m) = m := by
    unfold mval wlm
    simp only
    rw [lb_sum h]; simp
  unfold mun
  rw [hv, if_pos ⟨⟨rfl, rfl, rfl, rfl, rfl, rfl⟩, h⟩]
theorem at_is (s : List Int) (hs : ∀ z ∈ s, 0 ≤ z ∧ z ≤ 255) (i n : Int) (h0 : 0 ≤ i) (hn : 1 ≤ n) : ∃ v, laws_a2At.f s i n = some v ∧ 0 ≤ v ∧ v < n := by
  unfold laws_a2At.f
  by_cases c : i ≥ (s.length : Int)
  · exact ⟨0, by rw [if_pos c], by omega, by omega⟩
  · have hr : 0 ≤ rd s i ∧ rd s i ≤ 255 := by
      obtain ⟨j, rfl⟩ : ∃ j : Nat, i = j := ⟨i.toNat, by omega⟩
      rw [rd_get s j (by omega)]
      exact hs _ (List.getElem_mem _)
    refine ⟨Int.tmod (wrap64 (rd s i)) n, by rw [if_neg c, if_neg (by omega), if_pos h0, if_pos (by omega), if_neg (by omega)], ?_⟩
    rw [wrap64_id (by omega) (by omega), Int.tmod_eq_emod_of_nonneg (by omega)]
    exact ⟨Int.emod_nonneg _ (by omega), Int.emod_lt_of_pos _ (by omega)⟩
theorem same_loop (xs : List Int) (hn : xs.length ≤ 1000000) (d : Nat) : ∀ i : Nat, i + d = xs.length → Ev (fun k => spec_l00Same.l0 k xs xs (i : Int)) true := by
  induction d with
  | zero => intro i hi; exact Ev.step (fun k => by rw [spec_l00Same.l0]) (Ev.congr (fun k => if_neg (by omega)) (Ev.now _))
  | succ d ih =>
    intro i hi
    refine Ev.step (fun k => by rw [spec_l00Same.l0]) (Ev.congr (fun k => if_pos (by omega)) (Ev.congr (fun k => if_pos (by omega)) (Ev.congr (fun k => if_pos (by omega)) (Ev.congr (fun k => if_pos rfl) ?_))))
    rw [wrap64_id (by omega) (by omega)]
    exact ih (i + 1) (by omega)
theorem same_ev (xs : List Int) (hn : xs.length ≤ 1000000) : Ev (fun k => spec_A2Same.f k xs xs) true := by
  refine Ev.congr (fun k => by unfold spec_A2Same.f spec_l00Same.f; rfl) (Ev.bind (a := true) ?_ (Ev.now _))
  exact Ev.congr (fun k => if_pos rfl) (same_loop xs hn xs.length 0 (by omega))
theorem nat_abs {m : Nat} (h : m < 4294967296 ^ 6) : (m : Int).natAbs < 4294967296 ^ 6 := by rw [Int.natAbs_natCast]; exact h
theorem fitZ_nat {m : Nat} (h : m < 4294967296 ^ 6) : Wide.fitZ (m : Int) = (m : Int) := fitZ_yes (nat_abs h)
/-- A number that stands in limbs is a good one. -/
theorem ok_nat (m : Nat) : spec_l01Ok.f (wenc (m : Int)) = some true := by
  unfold spec_l01Ok.f
  have : (wenc (m : Int)).f0 = false := by
    show decide ((m : Int) < 0) = false
    exact decide_eq_false (by omega)
  rw [this]
  exact if_neg (by simp)
theorem mul_ev (a b : Nat) (ha : a < 4294967296 ^ 6) (hb : b < 4294967296 ^ 6) : Ev (fun k => spec_MulWides.f k (wenc (a : Int)) (wenc (b : Int))) (wenc (Wide.fitZ ((a : Int) * (b : Int))), Wide.fitC ((a : Int) * (b : Int)).natAbs) := by
  refine Ev.congr (fun k => by unfold spec_MulWides.f spec_l01Mul.f; rfl) ?_
  rw [ok_nat a, ok_nat b, wun_wenc (nat_abs ha), wun_wenc (nat_abs hb)]
  simp only [Option.bind_some, if_true]
  exact Ev.now _
theorem neg_wenc (m : Nat) (h : m < 4294967296 ^ 6) : spec_l01Neg.f (wenc (m : Int)) = some (wenc (-(m : Int))) := by
  unfold spec_l01Neg.f spec_l01Made.f
  have e0 : (wenc (m : Int)).f1 = wlm m := by show wlm (m : Int).natAbs = wlm m; simp
  have e1 : (wenc (m : Int)).f0 = false := by
    show decide ((m : Int) < 0) = false
    exact decide_eq_false (by omega)
  rw [e0, e1, mun_wlm h]
  simp only [Option.bind_some]
  congr 1
  unfold wenc
  have e2 : (-(m : Int)).natAbs = m := by omega
  rw [e2]
  congr 1
  unfold Wide.zN
  by_cases c : m = 0
  · subst c; decide
  · have : decide (m = 0) = false := decide_eq_false c
    simp only [Bool.not_false, Bool.true_and]
    simp only [this, Bool.not_false]
    exact (decide_eq_true (by omega)).symm
theorem sub_ev (a b c : Nat) (ha : a < 4294967296 ^ 6) (hb : b < 4294967296 ^ 6) (hc : (a : Int) - (b : Int) = (c : Int)) (hd : c < 4294967296 ^ 6) : Ev (fun k => spec_SubWides.f k (wenc (a : Int)) (wenc (b : Int))) (wenc (c : Int), 0) := by
  refine Ev.congr (fun k => by unfold spec_SubWides.f; rfl) ?_
  rw [ok_nat a, ok_nat b]
  simp only [Option.bind_some, if_true]
  refine Ev.step (fun k => by rw [spec_SubWides.j0]) (Ev.congr (fun k => if_neg (by simp)) ?_)
  have e : (a : Int) + -(b : Int) = (c : Int) := by omega
  refine Ev.congr (fun k => by unfold spec_l01Add.f; rfl) ?_
  rw [neg_wenc b hb]
  simp only [Option.bind_some]
  rw [wun_wenc (nat_abs ha), wun_wenc (z := -(b : Int)) (by rw [Int.natAbs_neg]; exact nat_abs hb)]
  simp only [Option.bind_some]
  rw [e, fitZ_nat hd, fitC_yes (nat_abs hd)]
  exact Ev.now _
theorem of_wenc (z : Int) (h : I64 z) : spec_WideOf.f z = some (wenc z) := by
  unfold spec_WideOf.f spec_l01Of.f
  rw [if_pos (show -9223372036854775808 ≤ z ∧ z < 9223372036854775808 from h)]; rfl
theorem mul_nat {a b : Nat} : ((a : Int) * (b : Int)) = ((a * b : Nat) : Int) := by push_cast; rfl
theorem fitC_no3 {n : Nat} (h : ¬ n < 4294967296 ^ 6) : Wide.fitC n = 3 := if_neg h
/-- The law's end: two numbers with p * p = n * q * q + 1. -/
theorem pell_ev (n p q : Nat) (hn : n < 1024) (hp : p < 4294967296 ^ 6) (hq : q < 4294967296 ^ 6) (he : p * p = n * (q * q) + 1) : Ev (fun k => laws_FnRoots.j3 k (n : Int) 0 false (wenc (p : Int)) (wenc (q : Int))) true := by
  refine Ev.step (fun k => by rw [laws_FnRoots.j3]) (Ev.congr (fun k => if_neg (by simp)) (Ev.congr (fun k => if_pos rfl) (Ev.bind (mul_ev p p hp hp) (Ev.bind (mul_ev q q hq hq) ?_))))
  simp only [mul_nat, Int.natAbs_natCast]
  by_cases c1 : p * p < 4294967296 ^ 6
  · refine Ev.congr (fun k => if_pos (fitC_yes c1)) ?_
    rw [fitC_yes c1, fitZ_nat c1]
    by_cases c2 : q * q < 4294967296 ^ 6
    · rw [fitC_yes c2, fitZ_nat c2]
      refine Ev.step (fun k => by rw [laws_FnRoots.j4]) (Ev.congr (fun k => if_neg (by simp)) ?_)
      rw [of_wenc (n : Int) ⟨by omega, by omega⟩]
      simp only [Option.bind_some]
      refine Ev.bind (mul_ev n (q * q) (by omega) c2) ?_
      simp only [mul_nat, Int.natAbs_natCast]
      have c3 : n * (q * q) < 4294967296 ^ 6 := by omega
      refine Ev.congr (fun k => if_pos (fitC_yes c3)) ?_
      rw [fitZ_nat c3]
      refine Ev.bind (sub_ev (p * p) (n * (q * q)) 1 c1 c3 (by omega) (by decide)) ?_
      refine Ev.congr (fun k => if_pos rfl) ?_
      rw [show (((1 : Nat) : Int)) = 1 from rfl, of_wenc 1 ⟨by decide, by decide⟩]
      simp only [Option.bind_some]
      simp only [beq_self_eq_true, Bool.and_self]
      exact Ev.now _
    · rw [fitC_no3 c2]
      refine Ev.step (fun k => by rw [laws_FnRoots.j4]) (Ev.congr (fun k => if_pos (show ((3 : Int) != 0) = true from rfl)) (Ev.congr (fun k => (if_neg (show ¬ ((0 : Int) = 3) by decide)).trans (show some ((3 : Int) == 3) = some true from rfl)) (Ev.now _)))
  · refine Ev.congr (fun k => if_neg (fitC_no c1)) ?_
    rw [fitC_no3 c1]
    exact Ev.step (fun k => by rw [laws_FnRoots.j4]) (Ev.congr (fun k => if_pos rfl) (Ev.congr (fun k => if_pos rfl) (Ev.now _)))
/-- The unit's two sides, told. -/
theorem unit_val (n : Nat) (f : Nat) (l : List Nat) (hf : f ≤ 40) (hl : l.length ≤ 100) (hx : ∀ x ∈ l, x ≤ 4000000) (h0 : l ≠ []) (hi : Ev (fun k => impl_RootTerms.f k n) ((f : Int), zl l, 0)) (hs : Ev (fun k => spec_l04Period.f k n) ((f : Int), zl l, 0)) : Ev (fun k => spec_UnitOf.f k n) (cvR f (zl l) (lastN l) 0 1 0 0 1) ∧ Ev (fun k => impl_UnitOf.f k n) (cvR f (zl l) (lastN l) 0 1 0 0 1) := by
  have hz : (zl l).length = l.length := by simp [zl]
  have hpos : 0 < l.length := List.length_pos_iff.2 h0
  have hp : zl l ≠ [] := fun z => by rw [z] at hz; simp at hz; omega
  have hF : I64 (f : Int) := ⟨by omega, by omega⟩
  have hL : ∀ x ∈ zl l, I64 x := by
    intro x h
    obtain ⟨y, hy, rfl⟩ := List.mem_map.1 h
    have := hx y hy
    exact ⟨by omega, by omega⟩
  have key : ∀ m : Int, 0 ≤ m → m ≤ 1000000000 → Ev (fun q => spec_l04Parts.f q f (zl l) m) (cvR f (zl l) (m + 1).toNat 0 1 0 0 1) ∧ Ev (fun q => impl_rootConvergent.f q f (zl l) m) (cvR f (zl l) (m + 1).toNat 0 1 0 0 1) := by
    intro m h0 h1
    exact ⟨⟨(m + 1).toNat + 1, fun q hq => lp_cv h1 (.inl hp) hF hL _ _ _ _ _ _ q (by omega) (by omega) (by omega)⟩, ⟨(m + 1).toNat + 2, fun q hq => rc_cv h1 (.inl hp) hF hL _ _ _ _ _ _ q (by omega) (by omega) (by omega)⟩⟩
  have cl : ¬ ((zl l).length : Int) = 0 := by omega
  by_cases c2 : ((zl l).length : Int) % 2 = 1
  · have hlast : lastN l = 2 * l.length := by
      unfold lastN
      rw [show (l.length % 2 == 1) = true by simp; omega]; rfl
    obtain ⟨k1, k2⟩ := key (wrap64 ((wrap64 (2 * ((zl l).length : Int))) - 1)) (by rw [wrap64_id (n := 2 * ((zl l).length : Int)) (by omega) (by omega), wrap64_id (by omega) (by omega)]; omega) (by rw [wrap64_id (n := 2 * ((zl l).length : Int)) (by omega) (by omega), wrap64_id (by omega) (by omega)]; omega)
    have e : (wrap64 ((wrap64 (2 * ((zl l).length : Int))) - 1) + 1).toNat = lastN l := by
      rw [wrap64_id (n := 2 * ((zl l).length : Int)) (by omega) (by omega), wrap64_id (by omega) (by omega), hlast]; omega
    rw [e] at k1 k2
    exact ⟨Ev.congr (fun q => by unfold spec_UnitOf.f; rfl) (Ev.bind hs (Ev.congr (fun q => if_pos rfl) (Ev.congr (fun q => if_neg cl) (Ev.congr (fun q => if_pos c2) (Ev.bind k1 (Ev.now _)))))), Ev.congr (fun q => by unfold impl_UnitOf.f; rfl) (Ev.bind hi (Ev.congr (fun q => if_pos rfl) (Ev.congr (fun q => if_neg cl) (Ev.congr (fun q => if_pos c2) (Ev.bind k2 (Ev.now _))))))⟩
  · have hlast : lastN l = l.length := by
      unfold lastN
      rw [show (l.length % 2 == 1) = false by simp; omega]; rfl
    obtain ⟨k1, k2⟩ := key (wrap64 (((zl l).length : Int) - 1)) (by rw [wrap64_id (by omega) (by omega)]; omega) (by rw [wrap64_id (by omega) (by omega)]; omega)
    have e : (wrap64 (((zl l).length : Int) - 1) + 1).toNat = lastN l := by
      rw [wrap64_id (by omega) (by omega), hlast]; omega
    rw [e] at k1 k2
    exact ⟨Ev.congr (fun q => by unfold spec_UnitOf.f; rfl) (Ev.bind hs (Ev.congr (fun q => if_pos rfl) (Ev.congr (fun q => if_neg cl) (Ev.congr (fun q => if_neg c2) (Ev.bind k1 (Ev.now _)))))), Ev.congr (fun q => by unfold impl_UnitOf.f; rfl) (Ev.bind hi (Ev.congr (fun q => if_pos rfl) (Ev.congr (fun q => if_neg cl) (Ev.congr (fun q => if_neg c2) (Ev.bind k2 (Ev.now _))))))⟩
theorem cvN_lt : ∀ (d : Nat) (S : List Nat) (p q p0 q0 a b : Nat), p < 4294967296 ^ 6 → q < 4294967296 ^ 6 → cvN d S p q p0 q0 = some (a, b) → a < 4294967296 ^ 6 ∧ b < 4294967296 ^ 6 := by
  intro d
  induction d with
  | zero => intro S p q p0 q0 a b hp hq h; simp [cvN] at h; omega
  | succ d ih =>
    intro S p q p0 q0 a b hp hq h
    cases S with
    | nil => simp [cvN] at h
    | cons x S =>
      rw [cvN] at h
      cases hc : (Nat.blt (x * p + p0) (4294967296 ^ 6) && Nat.blt (x * q + q0) (4294967296 ^ 6)) with
      | false => rw [hc] at h; simp at h
      | true =>
        rw [hc] at h
        rw [Bool.and_eq_true] at hc
        exact ih S _ _ _ _ a b (Nat.le_of_ble_eq_true hc.1) (Nat.le_of_ble_eq_true hc.2) h
theorem per_mem (n f : Nat) : ∀ (k m d a : Nat) (l : List Nat), perN k n f m d a = some l → ∀ x ∈ l, x ≤ f + 4000 := by
  intro k
  induction k with
  | zero => intro m d a l h; simp [perN] at h
  | succ k ih =>
    intro m d a l h
    rw [perN] at h
    cases ca : (a == 2 * f) with
    | true => rw [ca] at h; obtain rfl := Option.some.inj h; simp
    | false =>
      rw [ca] at h
      simp only [cond_false] at h
      cases hc : (Nat.ble m (d * a) && (Nat.ble (d * a) 4000 && (Nat.ble ((d * a - m) * (d * a - m)) n && (Nat.ble 1 d && Nat.ble 1 ((n - (d * a - m) * (d * a - m)) / d))))) with
      | false => rw [hc] at h; simp at h
      | true =>
        rw [hc] at h
        simp only [cond_true] at h
        simp only [Bool.and_eq_true, Nat.ble_eq] at hc
        obtain ⟨h1, h2, h3, h4, h5⟩ := hc
        obtain ⟨t, ht, rfl⟩ := Option.map_eq_some_iff.mp h
        intro x hx
        rcases List.mem_cons.1 hx with rfl | hx
        · have := Nat.div_le_self (f + (d * a - m)) ((n - (d * a - m) * (d * a - m)) / d)
          omega
        · exact ih _ _ _ _ ht x hx
theorem begin_ev (n : Nat) (hn : n < 1024) (f : Int) (p : List Int) (k : Int) (hk : 0 ≤ k ∧ k ≤ 1000000000) (hp : ¬ (p.length : Int) = 0) (hi : Ev (fun k => impl_RootTerms.f k n) (f, p, 0)) (hs : Ev (fun k => spec_l04Period.f k n) (f, p, 0)) : Ev (fun q => spec_l04Index.f q n k 1000000000) (f, p, 0) ∧ Ev (fun q => impl_rootBegin.f q n k 1000000000) (f, p, 0) := by
  have hc : decide (0 ≤ (n : Int) ∧ (n : Int) ≤ 1000000) = true := decide_eq_true (by omega)
  have hd : decide (0 ≤ k ∧ k ≤ 1000000000) = true := decide_eq_true hk
  constructor
  · refine Ev.congr (fun q => by unfold spec_l04Index.f; rfl) ?_
    rw [l00In_some, l00In_some, hc, hd]
    simp only [Option.bind_some, if_true]
    exact Ev.step (fun q => by rw [spec_l04Index.j0]) (Ev.congr (fun q => if_neg (by simp)) (Ev.bind hs (Ev.congr (fun q => if_pos rfl) (Ev.congr (fun q => if_neg hp) (Ev.now _)))))
  · refine Ev.congr (fun q => by unfold impl_rootBegin.f; rfl) ?_
    rw [within_some, within_some, hc, hd]
    simp only [Option.bind_some, if_true]
    exact Ev.step (fun q => by rw [impl_rootBegin.j0]) (Ev.congr (fun q => if_neg (by simp)) (Ev.bind hi (Ev.congr (fun q => if_pos rfl) (Ev.congr (fun q => if_neg hp) (Ev.now _)))))
theorem begin_none (n : Nat) (hn : n < 1024) (f : Int) (hi : Ev (fun k => impl_RootTerms.f k n) (f, [], 0)) : Ev (fun q => impl_RootTermAt.f q n 1) (0, 6) := by
  have hc : decide (0 ≤ (n : Int) ∧ (n : Int) ≤ 1000000) = true := decide_eq_true (by omega)
  have hd : decide ((0 : Int) ≤ 1 ∧ (1 : Int) ≤ 1000000000) = true := rfl
  have h : Ev (fun q => impl_rootBegin.f q n 1 1000000000) (0, [], 6) := by
    refine Ev.congr (fun q => by unfold impl_rootBegin.f; rfl) ?_
    rw [within_some, within_some, hc, hd]
    simp only [Option.bind_some, if_true]
    exact Ev.step (fun q => by rw [impl_rootBegin.j0]) (Ev.congr (fun q => if_neg (by simp)) (Ev.bind hi (Ev.congr (fun q => if_pos rfl) (Ev.congr (fun q => if_pos rfl) (Ev.congr (fun q => if_pos (by decide)) (Ev.now _))))))
  exact Ev.congr (fun q => by unfold impl_RootTermAt.f; rfl) (Ev.bind h (Ev.congr (fun q => if_neg (show ¬ ((6 : Int) = 0) by decide)) (Ev.now _)))
/-- The law from the test of the term on. -/
theorem tail_ev (n : Nat) (hn : n < 1024) (f : Nat) (l : List Nat) (hf : f ≤ 40) (hl : l.length ≤ 100) (hx : ∀ x ∈ l, x ≤ 4000000) (h0 : l ≠ []) (hi : Ev (fun k => impl_RootTerms.f k n) ((f : Int), zl l, 0)) (hs : Ev (fun k => spec_l04Period.f k n) ((f : Int), zl l, 0)) (hpell : pellN n f l = true) : Ev (fun k => laws_FnRoots.j2 k (n : Int) false) true := by
  obtain ⟨k1, k2⟩ := unit_val n f l hf hl hx h0 hi hs
  have hcv := cv_link (f : Int) (zl l) (lastN l) (f :: (l ++ l)) 0 1 0 0 1 (fun j hj => by
    have hj2 : j < 2 * l.length + 1 := by
      unfold lastN at hj
      cases h : (l.length % 2 == 1) <;> rw [h] at hj <;> simp at hj <;> omega
    obtain ⟨x, hx1, hx2⟩ := tm_link f l hl h0 j hj2
    exact ⟨x, hx1, by rw [hx2, Nat.zero_add]⟩)
  refine Ev.step (fun k => by rw [laws_FnRoots.j2]) (Ev.congr (fun k => if_neg (by simp)) (Ev.bind k2 (Ev.bind k1 ?_)))
  simp only [beq_self_eq_true, Bool.not_true, Bool.or_self, if_true]
  unfold pellN at hpell
  rw [show ((0 : Nat) : Int) = 0 from rfl, show ((1 : Nat) : Int) = 1 from rfl] at hcv
  cases hc : cvN (lastN l) (f :: (l ++ l)) 1 0 0 1 with
  | none =>
    rw [hc] at hcv
    simp only at hcv
    rw [hcv]
    refine Ev.congr (fun k => if_neg (by decide)) ?_
    exact Ev.step (fun k => by rw [laws_FnRoots.j3]) (Ev.congr (fun k => if_neg (by simp)) (Ev.congr (fun k => (if_neg (show ¬ ((3 : Int) = 0) by decide)).trans (show some ((3 : Int) == 3) = some true from rfl)) (Ev.now _)))
  | some ab =>
    obtain ⟨a, b⟩ := ab
    rw [hc] at hcv hpell
    simp only at hcv hpell
    obtain ⟨ha, hb⟩ := cvN_lt _ _ _ _ _ _ _ _ (by decide) (by decide) hc
    rw [hcv]
    refine Ev.congr (fun k => if_pos rfl) (Ev.congr (fun k => if_neg (by simp)) ?_)
    exact pell_ev n a b hn ha hb (by simpa using hpell)
theorem zl_rd (l : List Nat) (i : Nat) (h : i < l.length) : rd (zl l) (i : Int) = ((l[i] : Nat) : Int) := by
  rw [rd_get (zl l) i (by simpa [zl] using h)]
  simp [zl]
/-- The loop over the period, from round i on. -/
theorem loop_ev (x0 : List Int) (hz : ∀ z ∈ x0, 0 ≤ z ∧ z ≤ 255) (n : Nat) (hn : n < 1024) (f : Nat) (l : List Nat) (hf : f ≤ 40) (hl : l.length ≤ 100) (hx : ∀ x ∈ l, x ≤ 4000000) (h0 : l ≠ []) (hi : Ev (fun k => impl_RootTerms.f k n) ((f : Int), zl l, 0)) (hs : Ev (fun k => spec_l04Period.f k n) ((f : Int), zl l, 0)) (hpell : pellN n f l = true) (hpal : ∀ i (h : i + 1 < l.length), l[i]'(by omega) = l[l.length - 2 - i]'(by omega)) :
    ∀ (d i : Nat), i + d + 1 = l.length → Ev (fun k => laws_FnRoots.l0 k x0 (n : Int) (zl l) ((zl l).length : Int) (i : Int)) true := by
  have hlen : (zl l).length = l.length := by simp [zl]
  intro d
  induction d with
  | zero =>
    intro i hi2
    obtain ⟨u, hu, u0, u1⟩ := at_is x0 hz 2 200 (by decide) (by decide)
    obtain ⟨b1, b2⟩ := begin_ev n hn f (zl l) u ⟨u0, by omega⟩ (by omega) hi hs
    obtain ⟨t, t1, t2⟩ := rootTerm_some (f : Int) (zl l) u ⟨u0, by omega⟩ (.inl (fun z => by rw [z] at hlen; simp at hlen; omega))
    have r1 : Ev (fun q => spec_RootTermAt.f q n u) (t, 0) := Ev.congr (fun q => by unfold spec_RootTermAt.f; rfl) (Ev.bind b1 (Ev.congr (fun q => if_pos rfl) (Ev.congr (fun q => by rw [t2]; rfl) (Ev.now _))))
    have r2 : Ev (fun q => impl_RootTermAt.f q n u) (t, 0) := Ev.congr (fun q => by unfold impl_RootTermAt.f; rfl) (Ev.bind b2 (Ev.congr (fun q => if_pos rfl) (Ev.congr (fun q => by rw [t1]; rfl) (Ev.now _))))
    refine Ev.step (fun k => by rw [laws_FnRoots.l0]) (Ev.congr (fun k => if_neg (by rw [wrap64_id (by omega) (by omega)]; omega)) ?_)
    rw [hu]
    simp only [Option.bind_some]
    refine Ev.bind r2 (Ev.bind r1 (Ev.congr (fun k => if_pos rfl) (Ev.congr (fun k => if_pos rfl) ?_)))
    rw [show (t != t) = false by simp]
    exact tail_ev n hn f l hf hl hx h0 hi hs hpell
  | succ d ih =>
    intro i hi2
    have w1 : wrap64 ((i : Int) + 1) = ((i + 1 : Nat) : Int) := by rw [wrap64_id (by omega) (by omega)]; omega
    have w2 : wrap64 ((wrap64 (((zl l).length : Int) - 2)) - (i : Int)) = ((l.length - 2 - i : Nat) : Int) := by
      rw [hlen, wrap64_id (n := (l.length : Int) - 2) (by omega) (by omega), wrap64_id (by omega) (by omega)]; omega
    refine Ev.step (fun k => by rw [laws_FnRoots.l0, w1, w2]) ?_
    refine Ev.congr (fun k => if_pos (by omega)) (Ev.congr (fun k => if_pos (by omega)) (Ev.congr (fun k => if_pos (by omega)) (Ev.congr (fun k => if_pos (by omega)) (Ev.congr (fun k => if_pos (by omega)) (Ev.congr (fun k => if_pos ?_) (ih (i + 1) (by omega)))))))
    rw [zl_rd l i (by omega), zl_rd l (l.length - 2 - i) (by omega), hpal i (by omega)]
theorem roots_ev (x0 : List Int) (hz : ∀ z ∈ x0, 0 ≤ z ∧ z ≤ 255) (n : Nat) (hn : n < 1024) : ∃ (f : Nat) (l : List Nat), (f ≤ 40 ∧ f * f ≤ n ∧ n < (f + 1) * (f + 1) ∧ l.length ≤ 100) ∧ (Ev (fun k => impl_RootTerms.f k n) ((f : Int), zl l, 0) ∧ Ev (fun k => spec_l04Period.f k n) ((f : Int), zl l, 0)) ∧ Ev (fun k => laws_FnRoots.j0 k x0 (n : Int) (f : Int) (zl l) false) true := by
  have hk := allN_is 1024 allN_ok n hn
  unfold chkN at hk
  have hf : rtN 40 n 0 ≤ 40 := by have := rt_bound 40 n 0; omega
  generalize rtN 40 n 0 = f at hk hf
  unfold chkN2 at hk
  simp only [Bool.and_eq_true, Nat.ble_eq] at hk
  obtain ⟨a, b, hk⟩ := hk
  have b : n < (f + 1) * (f + 1) := Nat.le_of_ble_eq_true b
  by_cases c : f * f = n
  · obtain ⟨hi, hs⟩ := terms_link n hn f hf a b [] (by simp) (.inl ⟨c, rfl⟩)
    refine ⟨f, [], ⟨hf, a, b, by simp⟩, ⟨hi, hs⟩, ?_⟩
    refine Ev.step (fun k => by rw [laws_FnRoots.j0]) (Ev.congr (fun k => if_neg (show ¬ (false = true) by decide)) (Ev.congr (fun k => if_pos (show ((zl []).length : Int) = 0 from rfl)) ?_))
    have hU : Ev (fun q => impl_UnitOf.f q n) _ := Ev.congr (fun q => by unfold impl_UnitOf.f; rfl) (Ev.bind hi (Ev.congr (fun q => if_pos rfl) (Ev.congr (fun q => if_pos rfl) (Ev.now _))))
    refine Ev.bind hU (Ev.bind (begin_none n hn f hi) ?_)
    have hw : wrap64 ((f : Int) * (f : Int)) = (n : Int) := by rw [sq_wrap f (by omega), c]
    refine Ev.congr (fun k => if_pos hw) (Ev.congr (fun k => if_pos rfl) ?_)
    exact Ev.congr (fun k => show some ((6 : Int) == 6) = some true from rfl) (Ev.now _)
  · rw [show (f * f == n) = false by simpa using c, Bool.false_or] at hk
    cases hp : perN 100 n f 0 1 f with
    | none => rw [hp] at hk; exact absurd hk (by simp)
    | some l =>
      rw [hp] at hk
      simp only [Bool.and_eq_true, Nat.ble_eq, beq_iff_eq] at hk
      obtain ⟨k1, k2, k3, k4, k5⟩ := hk
      have h0 : l ≠ [] := by intro z; rw [z] at k1; simp at k1
      have hpos : 0 < l.length := List.length_pos_iff.2 h0
      obtain ⟨hi, hs⟩ := terms_link n hn f hf a b l k4 (.inr ⟨c, hp⟩)
      have hlen : (zl l).length = l.length := by simp [zl]
      refine ⟨f, l, ⟨hf, a, b, k4⟩, ⟨hi, hs⟩, ?_⟩
      have hw : wrap64 (((zl l).length : Int) - 1) = ((l.length - 1 : Nat) : Int) := by rw [hlen, wrap64_id (by omega) (by omega)]; omega
      refine Ev.step (fun k => by rw [laws_FnRoots.j0, hw]) (Ev.congr (fun k => if_neg (by simp)) (Ev.congr (fun k => if_neg (by omega)) (Ev.congr (fun k => if_pos (by omega)) (Ev.congr (fun k => if_pos (by omega)) (Ev.congr (fun k => if_pos ?_) ?_)))))
      · rw [zl_rd l _ (by omega), wrap64_id (by omega) (by omega)]
        rw [List.getLast?_eq_getElem?, List.getElem?_eq_getElem (by omega)] at k2
        have := Option.some.inj k2
        omega
      · refine loop_ev x0 hz n hn f l hf k4 (fun x hx => by have := per_mem n f 100 0 1 f l hp x hx; omega) h0 hi hs k5 ?_ (l.length - 1) 0 (by omega)
        intro i h
        have e1 : l.dropLast[i]? = l.dropLast.reverse[i]? := by rw [← k3]
        have hd : l.dropLast.length = l.length - 1 := List.length_dropLast
        rw [List.getElem?_reverse (by omega), hd, List.getElem?_dropLast, List.getElem?_dropLast, if_pos (by omega), if_pos (by omega), List.getElem?_eq_getElem (by omega), List.getElem?_eq_getElem (by omega)] at e1
        have e2 := Option.some.inj e1
        rw [e2]
        congr 1
theorem law_gen {x0 : List Int} {n f u v : Int} {p : List Int} (ht : laws_a2Long.f x0 x0 = some false) (hu : laws_a2At.f x0 0 256 = some u) (hv : laws_a2At.f x0 1 4 = some v) (hN : wrap64 ((wrap64 (u * 4)) + v) = n) (hi : Ev (fun k => impl_RootTerms.f k n) (f, p, 0)) (hR : Ev (fun k => spec_RootTerms.f k n) (f, p, 0)) (hS : Ev (fun k => spec_A2Same.f k p p) true) (h1 : ¬ wrap64 (f * f) > n) (h2 : ¬ wrap64 ((wrap64 (f + 1)) * (wrap64 (f + 1))) ≤ n) (hj : Ev (fun k => laws_FnRoots.j0 k x0 n f p false) true) : Ev (fun k => laws_FnRoots.f k x0) true := by
  refine Ev.congr (fun k => by unfold laws_FnRoots.f; rfl) ?_
  rw [ht, hu, hv]
  simp only [Option.bind_some]
  refine Ev.congr (fun k => if_neg (show ¬ (false = true) by decide)) ?_
  rw [hN]
  refine Ev.bind hi (Ev.bind hR (Ev.congr (fun k => if_pos rfl) (Ev.congr (fun k => if_pos rfl) (Ev.congr (fun k => if_pos rfl) (Ev.bind hS (Ev.congr (fun k => if_pos rfl) (Ev.congr (fun k => if_neg h1) ?_)))))))
  rw [decide_eq_false h2]
  exact hj
theorem law_long {x0 : List Int} (ht : laws_a2Long.f x0 x0 = some true) : Ev (fun k => laws_FnRoots.f k x0) true := by
  refine Ev.congr (fun k => by unfold laws_FnRoots.f; rfl) ?_
  rw [ht]
  simp only [Option.bind_some]
  exact Ev.congr (fun k => if_pos trivial) (Ev.now _)
theorem sq_wrap2 {f n : Nat} (hf : f ≤ 40) (b : n < (f + 1) * (f + 1)) : ¬ wrap64 ((wrap64 ((f : Int) + 1)) * (wrap64 ((f : Int) + 1))) ≤ (n : Int) := by
  have e : (f : Int) + 1 = ((f + 1 : Nat) : Int) := by omega
  have hb : (f + 1) * (f + 1) ≤ 41 * 41 := Nat.mul_le_mul (by omega) (by omega)
  have h1 : wrap64 ((f : Int) + 1) = ((f + 1 : Nat) : Int) := by rw [wrap64_id (by omega) (by omega), e]
  rw [h1, mul_nat]
  generalize (f + 1) * (f + 1) = z at *
  have h2 : wrap64 (z : Int) = (z : Int) := wrap64_id (by omega) (by omega)
  rw [h2]
  omega
theorem sq_wrap1 {f n : Nat} (a : f * f ≤ n) (hn : n < 1024) : ¬ wrap64 ((f : Int) * (f : Int)) > (n : Int) := by
  have h := sq_wrap f (by omega)
  rw [h]
  generalize f * f = z at *
  omega
theorem FnRoots : laws_FnRoots.Pure := by
  intro x0 hx
  have hz := hx.2
  apply Ev.rounds (r := true)
  obtain ⟨t, ht⟩ : ∃ t, laws_a2Long.f x0 x0 = some t := by unfold laws_a2Long.f; split <;> exact ⟨_, rfl⟩
  cases t with
  | true => exact law_long ht
  | false =>
    obtain ⟨u, hu, u0, u1⟩ := at_is x0 hz 0 256 (by decide) (by decide)
    obtain ⟨v, hv, v0, v1⟩ := at_is x0 hz 1 4 (by decide) (by decide)
    have e0 : wrap64 (u * 4) = u * 4 := wrap64_id (by omega) (by omega)
    have e1 : wrap64 (wrap64 (u * 4) + v) = u * 4 + v := by rw [e0]; exact wrap64_id (by omega) (by omega)
    obtain ⟨n, hn, hN⟩ : ∃ n : Nat, n < 1024 ∧ wrap64 (wrap64 (u * 4) + v) = (n : Int) := ⟨(u * 4 + v).toNat, by omega, by rw [e1]; omega⟩
    obtain ⟨f, l, ⟨hf, a, b, hl⟩, ⟨hi, hs⟩, hj⟩ := roots_ev x0 hz n hn
    have hR : Ev (fun k => spec_RootTerms.f k n) ((f : Int), zl l, 0) := Ev.congr (fun k => by unfold spec_RootTerms.f; rfl) (Ev.bind hs (Ev.now _))
    have hlen : (zl l).length = l.length := by simp [zl]
    exact law_gen ht hu hv hN hi hR (same_ev (zl l) (by omega)) (sq_wrap1 a hn) (sq_wrap2 hf b) hj
end Go.Proofs.Ytbomadebdekjjaa.Pure
