/- The program's ValueAt returns what the reference's returns, for all arguments. -/
import Derived.Test.YtbomadebdekjjaaMFnExactValueAtx10
import Derived.Test.YtbomadebdekjjaaMOpen
namespace Go.Proofs.Ytbomadebdekjjaa.Pure
open Go.RowKit Go.Proofs.Ytbomadebdekjjaa.MFnExactValueAt Go.Proofs.Ytbomadebdekjjaa.MOpen Go.Proofs.YtbomadebdekjjaaW.PrintWords Go.Proofs.YtbomadebdekjjaaW.PrintLast Go.Proofs.YtbomadebdekjjaaW.PrintMore
set_option linter.unusedVariables false
set_option linter.unusedSimpArgs false
theorem wrap64_id {n : Int} (h0 : -9223372036854775808 ≤ n) (h1 : n ≤ 9223372036854775807) : wrap64 n = n := by
  unfold wrap64; omega
theorem rd_nat (xs : List Int) (i : Nat) : rd xs (i : Int) = xs.getD i 0 := by simp [rd]
theorem rd_get (xs : List Int) (i : Nat) (h : i < xs.length) : rd xs (i : Int) = xs[i] := by simp [rd, h]
theorem ev_k {α : Type} {f : Nat → Option α} {r : α} (n : Nat) (h : ∀ k, n ≤ k → f k = some r) : Ev f r := ⟨n, h⟩
def inCoef (x : Int) : Bool := decide (-1000000 ≤ x ∧ x ≤ 1000000)
/-- What both sides say of a polynomial. -/
def polyOk (xs : List Int) : Bool := decide (2 ≤ xs.length ∧ xs.length ≤ 9) && (!(rd xs ((xs.length : Int) - 1) == 0) && xs.all inCoef)
theorem l00In_some (a b c : Int) : spec_l00In.f a b c = some (decide (b ≤ a ∧ a ≤ c)) := by
  unfold spec_l00In.f
  split <;> simp <;> omega
theorem within_some (a b c : Int) : impl_within.f a b c = some (decide (b ≤ a ∧ a ≤ c)) := l00In_some a b c
theorem specPoly_loop (xs : List Int) (hn : xs.length ≤ 9) (d : Nat) : ∀ (i k : Nat), i + d = xs.length → d < k → spec_l05Ok.l0 k xs (i : Int) = some ((xs.drop i).all inCoef) := by
  induction d with
  | zero =>
    intro i k hd hk
    obtain ⟨k, rfl⟩ : ∃ m, k = m + 1 := ⟨k - 1, by omega⟩
    simp only [spec_l05Ok.l0]; rw [if_neg (by omega), List.drop_eq_nil_of_le (by omega)]; rfl
  | succ d ih =>
    intro i k hd hk
    obtain ⟨k, rfl⟩ : ∃ m, k = m + 1 := ⟨k - 1, by omega⟩
    have hi : i < xs.length := by omega
    simp only [spec_l05Ok.l0]; rw [if_pos (by omega), if_pos (by omega), rd_get xs i hi, l00In_some, wrap64_id (by omega) (by omega), List.drop_eq_getElem_cons hi, List.all_cons]
    have := ih (i + 1) k (by omega) (by omega)
    simp only [Option.bind_some]
    show (if inCoef xs[i] = true then _ else _) = _
    cases inCoef xs[i]
    · simp
    · simpa using this
theorem implPoly_loop (xs : List Int) (hn : xs.length ≤ 9) (d : Nat) : ∀ (i k : Nat), i + d = xs.length → d < k → ∃ r : Int, slices_IndexFunc_int64_int64_f94.l0 k xs (xs.length : Int) (i : Int) = some r ∧ decide (r ≥ 0) = !((xs.drop i).all inCoef) := by
  induction d with
  | zero =>
    intro i k hd hk
    obtain ⟨k, rfl⟩ : ∃ m, k = m + 1 := ⟨k - 1, by omega⟩
    simp only [slices_IndexFunc_int64_int64_f94.l0]; rw [if_neg (by omega), List.drop_eq_nil_of_le (by omega)]
    exact ⟨_, rfl, by simp⟩
  | succ d ih =>
    intro i k hd hk
    obtain ⟨k, rfl⟩ : ∃ m, k = m + 1 := ⟨k - 1, by omega⟩
    have hi : i < xs.length := by omega
    obtain ⟨r, h1, h2⟩ := ih (i + 1) k (by omega) (by omega)
    simp only [slices_IndexFunc_int64_int64_f94.l0, impl_ValidPoly_1.f]; rw [if_pos (by omega), if_pos (by omega), if_pos (by omega), rd_get xs i hi, within_some, wrap64_id (by omega) (by omega), List.drop_eq_getElem_cons hi, List.all_cons]
    simp only [Option.bind_some]
    show ∃ r, (if (!inCoef xs[i]) = true then _ else _) = some r ∧ _
    cases inCoef xs[i]
    · exact ⟨_, rfl, by simp⟩
    · exact ⟨r, by simpa using h1, by simpa using h2⟩
theorem specPoly_ev (xs : List Int) : Ev (fun k => spec_l05Ok.f k xs) (polyOk xs) := by
  refine ev_k (xs.length + 3) (fun k hk => ?_)
  obtain ⟨k, rfl⟩ : ∃ m, k = m + 1 := ⟨k - 1, by omega⟩
  show spec_l05Ok.f (k + 1) xs = _
  unfold spec_l05Ok.f polyOk
  rw [l00In_some]; simp only [Option.bind_some]
  by_cases c : 2 ≤ xs.length ∧ xs.length ≤ 9
  · have hl := specPoly_loop xs c.2 xs.length 0 k (by omega) (by omega)
    rw [if_pos (by simp; omega), wrap64_id (by omega) (by omega), if_pos (by omega), if_pos (by omega)]
    simp only [spec_l05Ok.j0]
    simp only [c, and_self, decide_true, Bool.true_and]
    cases (rd xs ((xs.length : Int) - 1) == 0)
    · simpa using hl
    · simp
  · rw [if_neg (by simp; omega)]
    simp only [spec_l05Ok.j0]
    simp [c]
theorem implPoly_ev (xs : List Int) : Ev (fun k => impl_ValidPoly.f k xs) (polyOk xs) := by
  refine ev_k (xs.length + 3) (fun k hk => ?_)
  show impl_ValidPoly.f k xs = _
  unfold impl_ValidPoly.f polyOk
  by_cases c : 2 ≤ xs.length ∧ xs.length ≤ 9
  · obtain ⟨r, h1, h2⟩ := implPoly_loop xs c.2 xs.length 0 k (by omega) (by omega)
    rw [if_neg (by omega), if_neg (by omega), wrap64_id (by omega) (by omega), if_pos (by omega), if_pos (by omega)]
    simp only [c, and_self, decide_true, Bool.true_and]
    unfold slices_ContainsFunc_int64_int64_f94.f slices_IndexFunc_int64_int64_f94.f
    have h1' : slices_IndexFunc_int64_int64_f94.l0 k xs (xs.length : Int) 0 = some r := h1
    rw [h1']; simp only [Option.bind_some, h2, List.drop_zero, Bool.not_not]
    by_cases e : rd xs ((xs.length : Int) - 1) = 0
    · rw [if_pos e, e]; simp
    · rw [if_neg e]; simp [e]
  · simp only [c, decide_false, Bool.false_and]
    by_cases c2 : (xs.length : Int) < 2
    · rw [if_pos c2]
    · rw [if_neg c2, if_pos (by omega)]
theorem toInt64S_loop (xs : List Int) (hn : xs.length ≤ 4611686018427387904) (d : Nat) : ∀ (i : Nat) (acc : List Int) (k : Nat), acc.length = xs.length → (∀ j, j < i → acc.getD j 0 = xs.getD j 0) → i + d = xs.length → d < k → laws_toInt64S.l0 k xs acc (i : Int) = some xs := by
  induction d with
  | zero =>
    intro i acc k hl hj hd hk
    obtain ⟨k, rfl⟩ : ∃ m, k = m + 1 := ⟨k - 1, by omega⟩
    simp only [laws_toInt64S.l0]; rw [if_neg (by omega)]
    congr 1
    apply List.ext_getElem hl
    intro j h1 h2
    have := hj j (by omega)
    simpa [List.getD_eq_getElem?_getD, List.getElem?_eq_getElem, h1, h2] using this
  | succ d ih =>
    intro i acc k hl hj hd hk
    obtain ⟨k, rfl⟩ : ∃ m, k = m + 1 := ⟨k - 1, by omega⟩
    simp only [laws_toInt64S.l0]; rw [if_pos (by omega), if_pos (by omega), if_pos (by omega), wrap64_id (by omega) (by omega)]
    refine ih (i + 1) _ k ?_ ?_ (by omega) (by omega)
    · simpa using hl
    · intro j hji
      have hjl : j < acc.length := by omega
      by_cases e : j = i
      · subst e; simp [List.getD_eq_getElem?_getD, rd_nat, hjl]
      · have e' : ¬ i = j := fun h => e h.symm
        have := hj j (by omega)
        simpa [List.getD_eq_getElem?_getD, List.getElem?_set, e'] using this
theorem toInt64S_ev (xs : List Int) (hn : xs.length ≤ 17592186044416) : Ev (fun k => laws_toInt64S.f k xs) xs := by
  refine ⟨xs.length + 1, fun k hk => ?_⟩
  show laws_toInt64S.f k xs = some xs
  unfold laws_toInt64S.f
  rw [if_pos (by omega), if_pos (by simp; omega)]
  exact toInt64S_loop xs (by omega) xs.length 0 _ k (by simp) (fun j h => by omega) (by omega) (by omega)
theorem eqInt64S_loop (xs : List Int) (hn : xs.length ≤ 4611686018427387904) (d : Nat) : ∀ (i : Nat) (k : Nat), i + d = xs.length → d < k → laws_eqInt64S.l0 k xs xs (i : Int) = some true := by
  induction d with
  | zero =>
    intro i k hd hk
    obtain ⟨k, rfl⟩ : ∃ m, k = m + 1 := ⟨k - 1, by omega⟩
    simp only [laws_eqInt64S.l0]; rw [if_neg (by omega)]
  | succ d ih =>
    intro i k hd hk
    obtain ⟨k, rfl⟩ : ∃ m, k = m + 1 := ⟨k - 1, by omega⟩
    simp only [laws_eqInt64S.l0]; rw [if_pos (by omega), if_pos (by omega), if_pos (by omega), if_pos trivial, wrap64_id (by omega) (by omega)]
    exact ih (i + 1) k (by omega) (by omega)
theorem eqInt64S_ev (xs : List Int) (hn : xs.length ≤ 4611686018427387904) : Ev (fun k => laws_eqInt64S.f k xs xs) true := by
  refine ⟨xs.length + 1, fun k hk => ?_⟩
  show laws_eqInt64S.f k xs xs = some true
  unfold laws_eqInt64S.f
  rw [if_pos rfl]
  exact eqInt64S_loop xs hn xs.length 0 k (by omega) (by omega)
theorem eqA6_ev (a : S23) (k : Nat) : laws_eqUint32A6.f (k + 7) a a = some true := by
  unfold laws_eqUint32A6.f
  simp [laws_eqUint32A6.l0, wrap64]
theorem eqWide_ev (a : S24) : Ev (fun k => laws_eqWide.f k a a) true := by
  refine ⟨7, fun k hk => ?_⟩
  obtain ⟨k, rfl⟩ : ∃ j, k = j + 7 := ⟨k - 7, by omega⟩
  show laws_eqWide.f (k + 7) a a = some true
  unfold laws_eqWide.f
  rw [eqA6_ev]
  simp
/-! ### wide numbers: values and limbs -/
theorem lb_cons0 (x y : Nat) (h : x < 4294967296) : Wide.lb (x + 4294967296 * y) 0 = x := by
  unfold Wide.lb
  rw [Nat.pow_zero, Nat.div_one, Nat.add_mul_mod_self_left, Nat.mod_eq_of_lt h]
theorem lb_consS (x y n : Nat) (h : x < 4294967296) : Wide.lb (x + 4294967296 * y) (n + 1) = Wide.lb y n := by
  unfold Wide.lb
  rw [Nat.pow_succ, Nat.mul_comm (4294967296 ^ n), ← Nat.div_div_eq_div_mul, Nat.add_mul_div_left _ _ (by decide), Nat.div_eq_of_lt h, Nat.zero_add]
theorem lb_sum {m : Nat} (h : m < 4294967296 ^ 6) : m = Wide.lb m 0 + 4294967296 * (Wide.lb m 1 + 4294967296 * (Wide.lb m 2 + 4294967296 * (Wide.lb m 3 + 4294967296 * (Wide.lb m 4 + 4294967296 * Wide.lb m 5)))) := by
  have h6 : m % 4294967296 ^ 6 = m := Nat.mod_eq_of_lt h
  have a0 := Wide.low_succ m 0
  have a1 := Wide.low_succ m 1
  have a2 := Wide.low_succ m 2
  have a3 := Wide.low_succ m 3
  have a4 := Wide.low_succ m 4
  have a5 := Wide.low_succ m 5
  simp only [Nat.zero_add, Nat.reduceAdd, Nat.pow_zero, Nat.mod_one, Nat.one_mul, Nat.reducePow] at *
  omega
theorem mval_wlm {m : Nat} (h : m < 4294967296 ^ 6) : mval (wlm m) = m := by
  have e := lb_sum h
  unfold mval wlm
  simp only []
  generalize Wide.lb m 0 = a at *
  generalize Wide.lb m 1 = b at *
  generalize Wide.lb m 2 = c at *
  generalize Wide.lb m 3 = d at *
  generalize Wide.lb m 4 = e4 at *
  generalize Wide.lb m 5 = f at *
  rw [e]; omega
theorem mun_wlm {m : Nat} (h : m < 4294967296 ^ 6) : mun (wlm m) = some m := by
  unfold mun
  rw [mval_wlm h, if_pos ⟨⟨rfl, rfl, rfl, rfl, rfl, rfl⟩, h⟩]
theorem wval_wenc {z : Int} (h : z.natAbs < 4294967296 ^ 6) : wval (wenc z) = z := by
  have e := lb_sum h
  unfold wval wenc wlm
  simp only []
  generalize Wide.lb z.natAbs 0 = a at *
  generalize Wide.lb z.natAbs 1 = b at *
  generalize Wide.lb z.natAbs 2 = c at *
  generalize Wide.lb z.natAbs 3 = d at *
  generalize Wide.lb z.natAbs 4 = e4 at *
  generalize Wide.lb z.natAbs 5 = f at *
  by_cases c0 : z < 0
  · rw [if_pos (decide_eq_true c0)]; omega
  · rw [if_neg (by simpa using c0)]; omega
theorem wun_wenc {z : Int} (h : z.natAbs < 4294967296 ^ 6) : wun (wenc z) = some z := by
  unfold wun
  rw [wval_wenc h, if_pos ⟨⟨rfl, rfl, rfl, rfl, rfl, rfl, rfl⟩, h⟩]
theorem lb_z (n : Nat) : Wide.lb 0 n = 0 := by unfold Wide.lb; rw [Nat.zero_div]
theorem wenc_zero : wenc 0 = (⟨false, (⟨0, 0, 0, 0, 0, 0⟩ : S23)⟩ : S24) := by
  unfold wenc wlm
  rw [show (0 : Int).natAbs = 0 from rfl, lb_z, lb_z, lb_z, lb_z, lb_z, lb_z]
  rfl
theorem mag_extP {s r : S23} (h : s.f0 = r.f0 ∧ s.f1 = r.f1 ∧ s.f2 = r.f2 ∧ s.f3 = r.f3 ∧ s.f4 = r.f4 ∧ s.f5 = r.f5) : s = r := by
  obtain ⟨b, c, d, e, f, g⟩ := s
  obtain ⟨b', c', d', e', f', g'⟩ := r
  obtain ⟨rfl, rfl, rfl, rfl, rfl, rfl⟩ := h
  rfl
theorem wlm_of {x : S23} (h0 : 0 ≤ x.f0 ∧ x.f0 ≤ 4294967295) (h1 : 0 ≤ x.f1 ∧ x.f1 ≤ 4294967295) (h2 : 0 ≤ x.f2 ∧ x.f2 ≤ 4294967295) (h3 : 0 ≤ x.f3 ∧ x.f3 ≤ 4294967295) (h4 : 0 ≤ x.f4 ∧ x.f4 ≤ 4294967295) (h5 : 0 ≤ x.f5 ∧ x.f5 ≤ 4294967295) : ∃ m, m < 4294967296 ^ 6 ∧ x = wlm m := by
  obtain ⟨a, ea⟩ : ∃ a : Nat, x.f0 = a := ⟨x.f0.toNat, by omega⟩
  obtain ⟨b, eb⟩ : ∃ b : Nat, x.f1 = b := ⟨x.f1.toNat, by omega⟩
  obtain ⟨c, ec⟩ : ∃ c : Nat, x.f2 = c := ⟨x.f2.toNat, by omega⟩
  obtain ⟨d, ed⟩ : ∃ d : Nat, x.f3 = d := ⟨x.f3.toNat, by omega⟩
  obtain ⟨e, ee⟩ : ∃ e : Nat, x.f4 = e := ⟨x.f4.toNat, by omega⟩
  obtain ⟨f, ef⟩ : ∃ f : Nat, x.f5 = f := ⟨x.f5.toNat, by omega⟩
  refine ⟨a + 4294967296 * (b + 4294967296 * (c + 4294967296 * (d + 4294967296 * (e + 4294967296 * f)))), ?_, ?_⟩
  · simp only [Nat.reducePow]; omega
  · apply mag_extP
    unfold wlm
    simp only []
    rw [lb_cons0 _ _ (by omega), lb_consS _ _ 0 (by omega), lb_cons0 _ _ (by omega), lb_consS _ _ 1 (by omega), lb_consS _ _ 0 (by omega), lb_cons0 _ _ (by omega), lb_consS _ _ 2 (by omega), lb_consS _ _ 1 (by omega), lb_consS _ _ 0 (by omega), lb_cons0 _ _ (by omega), lb_consS _ _ 3 (by omega), lb_consS _ _ 2 (by omega), lb_consS _ _ 1 (by omega), lb_consS _ _ 0 (by omega), lb_cons0 _ _ (by omega), lb_consS _ _ 4 (by omega), lb_consS _ _ 3 (by omega), lb_consS _ _ 2 (by omega), lb_consS _ _ 1 (by omega), lb_consS _ _ 0 (by omega)]
    refine ⟨ea, eb, ec, ed, ee, ?_⟩
    rw [ef]
    unfold Wide.lb
    rw [Nat.pow_zero, Nat.div_one, Nat.mod_eq_of_lt (by omega)]
theorem wlm_zero {m : Nat} (h : m < 4294967296 ^ 6) (hz : (wlm m).f0 = 0 ∧ (wlm m).f1 = 0 ∧ (wlm m).f2 = 0 ∧ (wlm m).f3 = 0 ∧ (wlm m).f4 = 0 ∧ (wlm m).f5 = 0) : m = 0 := by
  have e := lb_sum h
  unfold wlm at hz
  simp only [] at hz
  omega
theorem fitC_yes {n : Nat} (h : n < 4294967296 ^ 6) : Wide.fitC n = 0 := if_pos h
theorem fitC_no {n : Nat} (h : ¬ n < 4294967296 ^ 6) : Wide.fitC n = 3 := if_neg h
theorem fitZ_yes {z : Int} (h : z.natAbs < 4294967296 ^ 6) : Wide.fitZ z = z := if_pos h
theorem addZ_yes {a b : Int} (h : (a + b).natAbs < 4294967296 ^ 6) : Wide.addZ a b = a + b := if_pos h
theorem ovM_yes {n : Nat} (h : n < 4294967296 ^ 6) : Wide.ovM n = false := decide_eq_false (fun e => e h)
theorem ovM_no {n : Nat} (h : ¬ n < 4294967296 ^ 6) : Wide.ovM n = true := decide_eq_true h
def WR (z : Int) : Prop := z.natAbs < 4294967296 ^ 6
theorem WR_zero : WR 0 := by unfold WR; decide
/-- A wide argument: a number, or a sign at a zero. -/
theorem wide_of {x : S24} (h0 : 0 ≤ x.f1.f0 ∧ x.f1.f0 ≤ 4294967295) (h1 : 0 ≤ x.f1.f1 ∧ x.f1.f1 ≤ 4294967295) (h2 : 0 ≤ x.f1.f2 ∧ x.f1.f2 ≤ 4294967295) (h3 : 0 ≤ x.f1.f3 ∧ x.f1.f3 ≤ 4294967295) (h4 : 0 ≤ x.f1.f4 ∧ x.f1.f4 ≤ 4294967295) (h5 : 0 ≤ x.f1.f5 ∧ x.f1.f5 ≤ 4294967295) : (spec_l01Ok.f x = some false ∧ impl_ValidWide.f x = some false) ∨ (spec_l01Ok.f x = some true ∧ impl_ValidWide.f x = some true ∧ ∃ z, WR z ∧ x = wenc z) := by
  obtain ⟨s, m⟩ := x
  obtain ⟨m, hm, rfl⟩ := wlm_of (x := m) h0 h1 h2 h3 h4 h5
  unfold spec_l01Ok.f impl_ValidWide.f
  cases s
  · right
    refine ⟨if_neg (by simp), if_neg (by simp), (m : Int), by unfold WR; simpa using hm, ?_⟩
    unfold wenc
    rw [Int.natAbs_natCast, show decide ((m : Int) < 0) = false from decide_eq_false (by omega)]
  · simp only [if_true]
    by_cases c : m = 0
    · left
      subst c
      have e : wlm 0 = (⟨0, 0, 0, 0, 0, 0⟩ : S23) := by
        have := congrArg S24.f1 wenc_zero
        exact this
      rw [e]
      exact ⟨rfl, rfl⟩
    · right
      have hb : (!((wlm m).f0 == 0) || (!((wlm m).f1 == 0) || (!((wlm m).f2 == 0) || (!((wlm m).f3 == 0) || (!((wlm m).f4 == 0) || (!((wlm m).f5 == 0))))))) = true := by
        cases hb : (!((wlm m).f0 == 0) || (!((wlm m).f1 == 0) || (!((wlm m).f2 == 0) || (!((wlm m).f3 == 0) || (!((wlm m).f4 == 0) || (!((wlm m).f5 == 0)))))))
        · exfalso
          apply c
          simp only [Bool.or_eq_false_iff, Bool.not_eq_false', beq_iff_eq] at hb
          exact wlm_zero hm hb
        · rfl
      refine ⟨congrArg some hb, congrArg some hb, -(m : Int), by unfold WR; rw [Int.natAbs_neg, Int.natAbs_natCast]; exact hm, ?_⟩
      unfold wenc
      rw [Int.natAbs_neg, Int.natAbs_natCast, show decide (-(m : Int) < 0) = true from decide_eq_true (by omega)]
/-- How many bits a size has. -/
def BL (m s : Nat) : Prop := (m = 0 → s = 0) ∧ (m ≠ 0 → 1 ≤ s ∧ 2 ^ (s - 1) ≤ m ∧ m < 2 ^ s)
theorem rd_wlm (m i : Nat) (h : i < 6) : rd [(wlm m).f0, (wlm m).f1, (wlm m).f2, (wlm m).f3, (wlm m).f4, (wlm m).f5] (i : Int) = ((Wide.lb m i : Nat) : Int) := by
  rcases (by omega : i = 0 ∨ i = 1 ∨ i = 2 ∨ i = 3 ∨ i = 4 ∨ i = 5) with rfl | rfl | rfl | rfl | rfl | rfl <;> rfl
theorem BL_half {v l : Nat} (h0 : v ≠ 0) (h : BL (v / 2) l) : BL v (l + 1) := by
  refine ⟨fun z => absurd z h0, fun _ => ⟨by omega, ?_, ?_⟩⟩
  · by_cases c : v / 2 = 0
    · rw [h.1 c]; simp; omega
    · obtain ⟨a, b, d⟩ := h.2 c
      have e : 2 ^ (l + 1 - 1) = 2 ^ (l - 1) * 2 := by rw [← Nat.pow_succ]; congr 1; omega
      rw [e]; omega
  · by_cases c : v / 2 = 0
    · rw [h.1 c]; simp; omega
    · obtain ⟨a, b, d⟩ := h.2 c
      rw [Nat.pow_succ]; omega
theorem bits_low (n : Nat) (hn : n ≤ 6) : ∀ (t v c : Nat), v < 2 ^ t → t ≤ 32 → c + t ≤ 64 → ∃ l, BL v l ∧ l ≤ t ∧ Ev (fun k => spec_l01Bits.l1 k (n : Int) (c : Int) (v : Int)) (((32 * n + c + l : Nat)) : Int) := by
  intro t
  induction t with
  | zero =>
    intro v c hv ht hc
    obtain rfl : v = 0 := by simpa using hv
    refine ⟨0, ⟨fun _ => rfl, fun z => absurd rfl z⟩, Nat.le_refl _, Ev.step (fun k => by rw [spec_l01Bits.l1]) (Ev.congr (fun k => if_neg (by decide)) ?_)⟩
    rw [wrap64_id (n := 32 * (n : Int)) (by omega) (by omega), wrap64_id (by omega) (by omega)]
    exact Ev.congr (fun k => by rw [show (32 * (n : Int) + (c : Int)) = ((32 * n + c + 0 : Nat) : Int) by omega]) (Ev.now _)
  | succ t ih =>
    intro v c hv ht hc
    by_cases h0 : v = 0
    · subst h0
      refine ⟨0, ⟨fun _ => rfl, fun z => absurd rfl z⟩, Nat.zero_le _, Ev.step (fun k => by rw [spec_l01Bits.l1]) (Ev.congr (fun k => if_neg (by decide)) ?_)⟩
      rw [wrap64_id (n := 32 * (n : Int)) (by omega) (by omega), wrap64_id (by omega) (by omega)]
      exact Ev.congr (fun k => by rw [show (32 * (n : Int) + (c : Int)) = ((32 * n + c + 0 : Nat) : Int) by omega]) (Ev.now _)
    · obtain ⟨l, h1, h2, h3⟩ := ih (v / 2) (c + 1) (by rw [Nat.pow_succ] at hv; omega) (by omega) (by omega)
      refine ⟨l + 1, BL_half h0 h1, by omega, Ev.step (fun k => by rw [spec_l01Bits.l1]) (Ev.congr (fun k => if_pos (by omega)) ?_)⟩
      have e1 : wrap64 ((c : Int) + 1) = ((c + 1 : Nat) : Int) := by rw [wrap64_id (by omega) (by omega)]; omega
      have e2 : (v : Int) / 2 = ((v / 2 : Nat) : Int) := by omega
      rw [e1, e2, show 32 * n + c + (l + 1) = 32 * n + (c + 1) + l by omega]
      exact h3
theorem BL_top {m n l : Nat} (hm : m < 4294967296 ^ (n + 1)) (h0 : m / 4294967296 ^ n ≠ 0) (h : BL (m / 4294967296 ^ n) l) : BL m (32 * n + l) := by
  obtain ⟨a, b, c⟩ := h.2 h0
  have e : (4294967296 : Nat) ^ n = 2 ^ (32 * n) := by rw [Nat.pow_mul]
  have hp : 0 < 2 ^ (32 * n) := Nat.pow_pos (by decide)
  rw [e] at b c h0
  refine ⟨fun z => absurd (by rw [z]; exact Nat.zero_div _) h0, fun _ => ⟨by omega, ?_, ?_⟩⟩
  · rw [show 32 * n + l - 1 = (l - 1) + 32 * n by omega, Nat.pow_add]
    exact (Nat.le_div_iff_mul_le hp).1 b
  · rw [Nat.add_comm, Nat.pow_add]
    exact (Nat.div_lt_iff_lt_mul hp).1 c
theorem specBits_ev : ∀ (n m : Nat), n ≤ 6 → m < 4294967296 ^ n → ∃ s, BL m s ∧ s ≤ 32 * n ∧ Ev (fun k => spec_l01Bits.l0 k ((n : Int) - 1) (wlm m)) (s : Int) := by
  intro n
  induction n with
  | zero =>
    intro m hn hm
    obtain rfl : m = 0 := by simpa using hm
    exact ⟨0, ⟨fun _ => rfl, fun z => absurd rfl z⟩, Nat.le_refl _, Ev.step (fun k => by rw [spec_l01Bits.l0]) (Ev.congr (fun k => (if_neg (show ¬ ((((0 : Nat) : Int) - 1) ≥ 0) by decide)).trans (show some (0 : Int) = some ((0 : Nat) : Int) from rfl)) (Ev.now _))⟩
  | succ n ih =>
    intro m hn hm
    have hv : Wide.lb m n = m / 4294967296 ^ n := by
      unfold Wide.lb
      exact Nat.mod_eq_of_lt ((Nat.div_lt_iff_lt_mul (Wide.bpos n)).2 (by rw [Nat.mul_comm, ← Nat.pow_succ]; exact hm))
    have e0 : ((n + 1 : Nat) : Int) - 1 = (n : Int) := by omega
    have step : ∀ r : Int, Ev (fun k => if ((Wide.lb m n : Nat) : Int) = 0 then spec_l01Bits.l0 k ((n : Int) - 1) (wlm m) else spec_l01Bits.l1 k (n : Int) 0 ((Wide.lb m n : Nat) : Int)) r → Ev (fun k => spec_l01Bits.l0 k (((n + 1 : Nat) : Int) - 1) (wlm m)) r := by
      intro r h
      rw [e0]
      refine Ev.step (fun k => by rw [spec_l01Bits.l0, rd_wlm m n (by omega), wrap64_id (n := (n : Int) - 1) (by omega) (by omega)]) (Ev.congr (fun k => if_pos (by omega)) (Ev.congr (fun k => if_pos (by omega)) (Ev.congr (fun k => if_pos (by omega)) h)))
    by_cases h0 : Wide.lb m n = 0
    · have hm2 : m < 4294967296 ^ n := by
        rw [hv] at h0
        exact (Nat.div_eq_zero_iff_lt (Wide.bpos n)).1 h0
      obtain ⟨s, h1, h2, h3⟩ := ih m (by omega) hm2
      exact ⟨s, h1, by omega, step _ (Ev.congr (fun k => if_pos (by omega)) h3)⟩
    · obtain ⟨l, h1, h2, h3⟩ := bits_low n (by omega) 32 (Wide.lb m n) 0 (Wide.lb_lt m n) (by omega) (by omega)
      rw [hv] at h0 h1
      exact ⟨32 * n + l, BL_top hm h0 h1, by omega, step _ (Ev.congr (fun k => if_neg (by rw [hv]; omega)) h3)⟩
/-- A size times a power of two fits where its bits and the power come to no more than all limbs. -/
theorem BL_fit {m s b : Nat} (h : BL m s) : (192 < s + b ∧ ¬ m = 0) ↔ ¬ m * 2 ^ b < 4294967296 ^ 6 := by
  have e : (4294967296 : Nat) ^ 6 = 2 ^ 192 := by decide
  rw [e]
  by_cases h0 : m = 0
  · rw [h0, Nat.zero_mul]
    exact ⟨fun z => absurd rfl z.2, fun z => absurd (Nat.pow_pos (by decide)) z⟩
  · obtain ⟨a, c, d⟩ := h.2 h0
    constructor
    · intro z hlt
      have h1 : 2 ^ (s - 1) * 2 ^ b ≤ m * 2 ^ b := Nat.mul_le_mul_right _ c
      rw [← Nat.pow_add] at h1
      have h2 : 2 ^ 192 ≤ 2 ^ (s - 1 + b) := Nat.pow_le_pow_right (by decide) (by omega)
      omega
    · intro z
      refine ⟨?_, h0⟩
      by_cases q : 192 < s + b
      · exact q
      · exfalso
        apply z
        have h1 : m * 2 ^ b < 2 ^ s * 2 ^ b := Nat.mul_lt_mul_of_pos_right d (Nat.pow_pos (by decide))
        rw [← Nat.pow_add] at h1
        exact Nat.lt_of_lt_of_le h1 (Nat.pow_le_pow_right (by decide) (by omega))
def lenT (i : Nat) : Nat := if i = 0 then 0 else Nat.log2 i + 1
theorem BL_lenT (v : Nat) : BL v (lenT v) := by
  unfold lenT
  refine ⟨fun z => if_pos z, fun z => ?_⟩
  rw [if_neg z]
  exact ⟨by omega, Nat.log2_self_le z, Nat.lt_log2_self⟩
theorem lenT_le {v : Nat} (h : v < 256) : lenT v ≤ 8 := by
  by_cases z : v = 0
  · rw [z]; decide
  · obtain ⟨a, b, c⟩ := (BL_lenT v).2 z
    by_cases q : lenT v ≤ 8
    · exact q
    · have : 2 ^ 8 ≤ 2 ^ (lenT v - 1) := Nat.pow_le_pow_right (by decide) (by omega)
      omega
def tabB : ByteArray := (⟨#[0, 1, 2, 2, 3, 3, 3, 3, 4, 4, 4, 4, 4, 4, 4, 4, 5, 5, 5, 5, 5, 5, 5, 5, 5, 5, 5, 5, 5, 5, 5, 5, 6, 6, 6, 6, 6, 6, 6, 6, 6, 6, 6, 6, 6, 6, 6, 6, 6, 6, 6, 6, 6, 6, 6, 6, 6, 6, 6, 6, 6, 6, 6, 6, 7, 7, 7, 7, 7, 7, 7, 7, 7, 7, 7, 7, 7, 7, 7, 7, 7, 7, 7, 7, 7, 7, 7, 7, 7, 7, 7, 7, 7, 7, 7, 7, 7, 7, 7, 7, 7, 7, 7, 7, 7, 7, 7, 7, 7, 7, 7, 7, 7, 7, 7, 7, 7, 7, 7, 7, 7, 7, 7, 7, 7, 7, 7, 7, 8, 8, 8, 8, 8, 8, 8, 8, 8, 8, 8, 8, 8, 8, 8, 8, 8, 8, 8, 8, 8, 8, 8, 8, 8, 8, 8, 8, 8, 8, 8, 8, 8, 8, 8, 8, 8, 8, 8, 8, 8, 8, 8, 8, 8, 8, 8, 8, 8, 8, 8, 8, 8, 8, 8, 8, 8, 8, 8, 8, 8, 8, 8, 8, 8, 8, 8, 8, 8, 8, 8, 8, 8, 8, 8, 8, 8, 8, 8, 8, 8, 8, 8, 8, 8, 8, 8, 8, 8, 8, 8, 8, 8, 8, 8, 8, 8, 8, 8, 8, 8, 8, 8, 8, 8, 8, 8, 8, 8, 8, 8, 8, 8, 8, 8, 8, 8, 8, 8, 8, 8, 8, 8, 8, 8, 8, 8, 8]⟩ : ByteArray)
set_option maxRecDepth 100000 in
theorem tab_all : (List.range 256).all (fun i => bt tabB (i : Int) == (lenT i : Int)) = true := by kernel_rfl
theorem tab_at {v : Nat} (h : v < 256) : bt tabB (v : Int) = (lenT v : Int) := by
  have := List.all_eq_true.1 tab_all v (List.mem_range.2 h)
  simpa using this
theorem BL_shift {v j l : Nat} (h0 : v / 2 ^ j ≠ 0) (h : BL (v / 2 ^ j) l) : BL v (j + l) := by
  obtain ⟨a, b, c⟩ := h.2 h0
  have hp : 0 < 2 ^ j := Nat.pow_pos (by decide)
  refine ⟨fun z => absurd (by rw [z]; exact Nat.zero_div _) h0, fun _ => ⟨by omega, ?_, ?_⟩⟩
  · rw [show j + l - 1 = (l - 1) + j by omega, Nat.pow_add]
    exact (Nat.le_div_iff_mul_le hp).1 b
  · rw [Nat.add_comm, Nat.pow_add]
    exact (Nat.div_lt_iff_lt_mul hp).1 c
theorem len32_is (v : Nat) (hv : v < 4294967296) : ∃ l, BL v l ∧ l ≤ 32 ∧ bits_Len32.f (v : Int) = some (l : Int) := by
  have tab : ∀ u : Nat, u < 256 → ∀ X : Int, X = (u : Int) → bt tabB X = (lenT u : Int) := fun u hu X hX => by rw [hX]; exact tab_at hu
  have w0 : ∀ (c u : Nat), c ≤ 24 → u < 256 → wrap64 ((c : Int) + wrap64 ((lenT u : Nat) : Int)) = ((c + lenT u : Nat) : Int) := by
    intro c u hc hu
    have := lenT_le hu
    rw [wrap64_id (n := ((lenT u : Nat) : Int)) (by omega) (by omega), wrap64_id (by omega) (by omega)]; omega
  unfold bits_Len32.f
  show ∃ l, BL v l ∧ l ≤ 32 ∧ (if (v : Int) ≥ 65536 then (if ((v : Int) / 65536) ≥ 256 then (if 0 ≤ ((((v : Int) / 65536) / 256) % 256) then (if ((((v : Int) / 65536) / 256) % 256) < 256 then (some (wrap64 ((16 + 8) + (wrap64 (bt tabB ((((v : Int) / 65536) / 256) % 256)))))) else (none)) else (none)) else (if 0 ≤ (((v : Int) / 65536) % 256) then (if (((v : Int) / 65536) % 256) < 256 then (some (wrap64 (16 + (wrap64 (bt tabB (((v : Int) / 65536) % 256)))))) else (none)) else (none))) else (if (v : Int) ≥ 256 then (if 0 ≤ (((v : Int) / 256) % 256) then (if (((v : Int) / 256) % 256) < 256 then (some (wrap64 ((0 + 8) + (wrap64 (bt tabB (((v : Int) / 256) % 256)))))) else (none)) else (none)) else (if 0 ≤ ((v : Int) % 256) then (if ((v : Int) % 256) < 256 then (some (wrap64 (0 + (wrap64 (bt tabB ((v : Int) % 256)))))) else (none)) else (none)))) = some (l : Int)
  by_cases c1 : 65536 ≤ v
  · by_cases c2 : 256 ≤ v / 65536
    · have hu : v / 2 ^ 24 < 256 := by omega
      have h8 := lenT_le hu
      refine ⟨24 + lenT (v / 2 ^ 24), BL_shift (by omega) (BL_lenT _), by omega, ?_⟩
      rw [if_pos (by omega), if_pos (by omega), if_pos (by omega), if_pos (by omega), tab (v / 2 ^ 24) hu _ (by omega)]
      exact congrArg some (w0 24 (v / 2 ^ 24) (by omega) hu)
    · have hu : v / 2 ^ 16 < 256 := by omega
      have h8 := lenT_le hu
      refine ⟨16 + lenT (v / 2 ^ 16), BL_shift (by omega) (BL_lenT _), by omega, ?_⟩
      rw [if_pos (by omega), if_neg (by omega), if_pos (by omega), if_pos (by omega), tab (v / 2 ^ 16) hu _ (by omega)]
      exact congrArg some (w0 16 (v / 2 ^ 16) (by omega) hu)
  · by_cases c2 : 256 ≤ v
    · have hu : v / 2 ^ 8 < 256 := by omega
      have h8 := lenT_le hu
      refine ⟨8 + lenT (v / 2 ^ 8), BL_shift (by omega) (BL_lenT _), by omega, ?_⟩
      rw [if_neg (by omega), if_pos (by omega), if_pos (by omega), if_pos (by omega), tab (v / 2 ^ 8) hu _ (by omega)]
      exact congrArg some (w0 8 (v / 2 ^ 8) (by omega) hu)
    · have hu : v < 256 := by omega
      have h8 := lenT_le hu
      refine ⟨0 + lenT v, by rw [Nat.zero_add]; exact BL_lenT v, by omega, ?_⟩
      rw [if_neg (by omega), if_neg (by omega), if_pos (by omega), if_pos (by omega), tab v hu _ (by omega)]
      exact congrArg some (w0 0 v (by omega) hu)
theorem implBits_ev : ∀ (n m : Nat), n ≤ 6 → m < 4294967296 ^ n → ∃ s, BL m s ∧ s ≤ 32 * n ∧ Ev (fun k => impl_size_bits.l0 k ((n : Int) - 1) (wlm m)) (s : Int) := by
  intro n
  induction n with
  | zero =>
    intro m hn hm
    obtain rfl : m = 0 := by simpa using hm
    exact ⟨0, ⟨fun _ => rfl, fun z => absurd rfl z⟩, Nat.le_refl _, Ev.step (fun k => by rw [impl_size_bits.l0]) (Ev.congr (fun k => (if_neg (show ¬ ((((0 : Nat) : Int) - 1) ≥ 0) by decide)).trans (show some (0 : Int) = some ((0 : Nat) : Int) from rfl)) (Ev.now _))⟩
  | succ n ih =>
    intro m hn hm
    have hv : Wide.lb m n = m / 4294967296 ^ n := by
      unfold Wide.lb
      exact Nat.mod_eq_of_lt ((Nat.div_lt_iff_lt_mul (Wide.bpos n)).2 (by rw [Nat.mul_comm, ← Nat.pow_succ]; exact hm))
    have e0 : ((n + 1 : Nat) : Int) - 1 = (n : Int) := by omega
    have step : ∀ r : Int, Ev (fun k => if ((Wide.lb m n : Nat) : Int) = 0 then impl_size_bits.l0 k ((n : Int) - 1) (wlm m) else (bits_Len32.f ((Wide.lb m n : Nat) : Int)).bind fun t => some (wrap64 ((wrap64 (32 * (n : Int))) + t))) r → Ev (fun k => impl_size_bits.l0 k (((n + 1 : Nat) : Int) - 1) (wlm m)) r := by
      intro r h
      rw [e0]
      refine Ev.step (fun k => by rw [impl_size_bits.l0, rd_wlm m n (by omega), wrap64_id (n := (n : Int) - 1) (by omega) (by omega)]) (Ev.congr (fun k => if_pos (by omega)) (Ev.congr (fun k => if_pos (by omega)) (Ev.congr (fun k => if_pos (by omega)) h)))
    by_cases h0 : Wide.lb m n = 0
    · have hm2 : m < 4294967296 ^ n := by
        rw [hv] at h0
        exact (Nat.div_eq_zero_iff_lt (Wide.bpos n)).1 h0
      obtain ⟨s, h1, h2, h3⟩ := ih m (by omega) hm2
      exact ⟨s, h1, by omega, step _ (Ev.congr (fun k => if_pos (by omega)) h3)⟩
    · obtain ⟨l, h1, h2, h3⟩ := len32_is (Wide.lb m n) (Wide.lb_lt m n)
      have e3 : wrap64 ((wrap64 (32 * (n : Int))) + (l : Int)) = ((32 * n + l : Nat) : Int) := by
        rw [wrap64_id (n := 32 * (n : Int)) (by omega) (by omega), wrap64_id (by omega) (by omega)]; omega
      refine ⟨32 * n + l, BL_top hm (by rw [← hv]; exact h0) (by rw [← hv]; exact h1), by omega, step _ ?_⟩
      refine Ev.congr (fun k => if_neg (by omega)) ?_
      rw [h3]
      simp only [Option.bind_some]
      rw [e3]
      exact Ev.now _
/-! ### shifts and values of polynomials -/
def upS (c by_ : Int) : Option Int := if by_ ≤ 191 ∧ (c.natAbs * 2 ^ by_.toNat < 4294967296 ^ 6) then some (c * 2 ^ by_.toNat) else none
theorem upS_WR {c b z : Int} (h : upS c b = some z) : WR z := by
  unfold upS at h
  split at h
  · rename_i e
    obtain rfl := Option.some.inj h
    unfold WR
    rw [Int.natAbs_mul, Int.natAbs_pow]
    exact e.2
  · exact absurd h (by simp)
theorem made_up {c : Int} {b : Nat} : (⟨decide (c < 0) && !(Wide.zN (c.natAbs * 2 ^ b)), wlm (c.natAbs * 2 ^ b)⟩ : S24) = wenc (c * 2 ^ b) := by
  unfold wenc
  have hp : 0 < 2 ^ b := Nat.pow_pos (by decide)
  have e : (c * 2 ^ b).natAbs = c.natAbs * 2 ^ b := by rw [Int.natAbs_mul, Int.natAbs_pow]; rfl
  rw [e]
  congr 1
  have hq : (0 : Int) < 2 ^ b := by exact_mod_cast hp
  by_cases h : c < 0
  · have h2 : c * 2 ^ b < 0 := Int.mul_neg_of_neg_of_pos h hq
    have h3 : ¬ c.natAbs * 2 ^ b = 0 := by
      intro z
      rcases Nat.mul_eq_zero.1 z with z | z <;> omega
    rw [decide_eq_true h, decide_eq_true h2]
    unfold Wide.zN
    simp [h3]
  · have h2 : ¬ c * 2 ^ b < 0 := by
      have := Int.mul_nonneg (show 0 ≤ c by omega) (Int.le_of_lt hq)
      omega
    rw [decide_eq_false h, decide_eq_false h2]; rfl
theorem l02Up_is (k : Nat) {c b : Int} (hc : WR c) (hb : 0 ≤ b) : spec_l02Up.f k (wenc c) b = some (match upS c b with | some v => (wenc v, 0) | none => (wenc 0, 3)) := by
  unfold spec_l02Up.f
  by_cases h1 : b > 191
  · have hu : upS c b = none := if_neg (fun e => by omega)
    rw [if_pos h1, hu, wenc_zero]
  · rw [if_neg h1]
    unfold spec_l01Up.f spec_l01UpMag.f
    rw [show (wenc c).f1 = wlm c.natAbs from rfl, mun_wlm hc, Option.bind_some, if_pos ⟨hb, by omega⟩]
    by_cases h2 : c.natAbs * 2 ^ b.toNat < 4294967296 ^ 6
    · have hu : upS c b = some (c * 2 ^ b.toNat) := if_pos ⟨by omega, h2⟩
      rw [if_pos h2, hu, Option.bind_some]
      simp only [if_true]
      unfold spec_l01Made.f
      rw [mun_wlm h2, Option.bind_some, Option.bind_some, Option.bind_some, show (wenc c).f0 = decide (c < 0) from rfl, made_up]
    · have hu : upS c b = none := if_neg (fun e => h2 e.2)
      rw [if_neg h2, hu, Option.bind_some, wenc_zero]
      rfl
theorem impl_up_ev (ov : Bool) {c b : Int} (hc : WR c) (hb : 0 ≤ b) (hb2 : b ≤ 1000000) : Ev (fun k => impl_calc_up.f k ov (wenc c) b) (match upS c b with | some v => (wenc v, ov) | none => (wenc 0, true)) := by
  by_cases h1 : b > 191
  · have hu : upS c b = none := if_neg (fun e => by omega)
    refine Ev.congr (fun k => by unfold impl_calc_up.f; rw [if_pos h1]) (Ev.step (fun k => by rw [impl_calc_up.j0, if_pos rfl]) ?_)
    rw [hu, ← wenc_zero]
    exact Ev.now _
  · obtain ⟨s, h2, h3, h4⟩ := implBits_ev 6 c.natAbs (by decide) hc
    have hf := BL_fit (b := b.toNat) h2
    have e1 : wrap64 ((s : Int) + b) = (s : Int) + b := wrap64_id (by omega) (by omega)
    have main : Ev (fun k => impl_calc_up.j0 k b (decide ((wrap64 ((s : Int) + b)) > 192)) ov (wenc c)) (match upS c b with | some v => (wenc v, ov) | none => (wenc 0, true)) := by
      rw [e1]
      by_cases h5 : c.natAbs * 2 ^ b.toNat < 4294967296 ^ 6
      · have hu : upS c b = some (c * 2 ^ b.toNat) := if_pos ⟨by omega, h5⟩
        have h6 : ¬ ((s : Int) + b > 192) := by
          intro h6
          by_cases z : c.natAbs = 0
          · have := h2.1 z
            omega
          · exact hf.1 ⟨by omega, z⟩ h5
        rw [decide_eq_false h6, hu]
        refine Ev.step (fun k => by rw [impl_calc_up.j0, if_neg (by decide)]) ?_
        unfold impl_size_up.f impl_wide.f
        rw [show (wenc c).f1 = wlm c.natAbs from rfl, mun_wlm hc, Option.bind_some, if_pos ⟨hb, by omega⟩, Option.bind_some, mun_wlm h5, Option.bind_some, Option.bind_some, show (wenc c).f0 = decide (c < 0) from rfl, made_up]
        exact Ev.now _
      · have hu : upS c b = none := if_neg (fun e => h5 e.2)
        have h6 : (s : Int) + b > 192 := by
          have := hf.2 h5
          omega
        rw [decide_eq_true h6, hu, wenc_zero]
        refine Ev.step (fun k => by rw [impl_calc_up.j0, if_pos rfl]) ?_
        exact Ev.now _
    refine Ev.congr (fun k => by unfold impl_calc_up.f; rw [if_neg h1]) (Ev.bind (a := (s : Int)) ?_ main)
    exact h4
/-- The value of a polynomial, from coefficient i - 1 down, as a number; none where something is too large. -/
def vS (zs : List Int) (a pl : Int) : Nat → Int → Option Int
  | 0, s => some s
  | i + 1, s => if (s * a).natAbs < 4294967296 ^ 6 then (upS (zs.getD i 0) (pl * ((zs.length : Int) - 1 - i))).bind fun c => if (s * a + c).natAbs < 4294967296 ^ 6 then vS zs a pl i (s * a + c) else none else none
theorem rd_wenc (zs : List Int) (i : Nat) (h : i < zs.length) : rd_T24 (zs.map wenc) (i : Int) = wenc (zs.getD i 0) := by
  unfold rd_T24
  rw [Int.toNat_natCast]
  simp [List.getD, h]
theorem spec_val_ev (zs : List Int) (a pl : Int) (hl : zs.length ≤ 9) (hz : ∀ z ∈ zs, WR z) (ha : WR a) (h0 : 0 ≤ pl) (h1 : pl ≤ 64) : ∀ (i : Nat) (s : Int), i ≤ zs.length → WR s → Ev (fun k => spec_l05Value.l0 k (zs.map wenc) pl (zs.length : Int) ((i : Int) - 1) (wenc a) (wenc s)) (match vS zs a pl i s with | some v => (wenc v, 0) | none => (wenc 0, 3)) := by
  intro i
  induction i with
  | zero =>
    intro s hi hs
    exact Ev.step (fun k => by rw [spec_l05Value.l0, if_neg (by decide)]; rfl) (Ev.now _)
  | succ i ih =>
    intro s hi hs
    have e0 : ((i + 1 : Nat) : Int) - 1 = (i : Int) := by omega
    have hi2 : i < zs.length := by omega
    have hzi : WR (zs.getD i 0) := by
      rw [List.getD_eq_getElem?_getD, List.getElem?_eq_getElem hi2]
      exact hz _ (List.getElem_mem hi2)
    have eb : wrap64 (pl * wrap64 (wrap64 ((zs.length : Int) - 1) - (i : Int))) = pl * ((zs.length : Int) - 1 - i) := by
      have hm : pl * ((zs.length : Int) - 1 - i) ≤ 64 * 9 := by
        have := Int.mul_le_mul h1 (show ((zs.length : Int) - 1 - i) ≤ 9 by omega) (by omega) (by decide)
        exact this
      have hn : 0 ≤ pl * ((zs.length : Int) - 1 - i) := Int.mul_nonneg h0 (by omega)
      rw [wrap64_id (n := (zs.length : Int) - 1) (by omega) (by omega), wrap64_id (n := (zs.length : Int) - 1 - i) (by omega) (by omega), wrap64_id (by omega) (by omega)]
    rw [e0]
    refine Ev.step (fun k => by rw [spec_l05Value.l0]) (Ev.congr (fun k => if_pos (by omega)) ?_)
    rw [List.length_map, rd_wenc zs i hi2, eb, wrap64_id (n := (i : Int) - 1) (by omega) (by omega)]
    have em : ∀ k, spec_l01Mul.f k (wenc s) (wenc a) = some (wenc (Wide.fitZ (s * a)), Wide.fitC (s * a).natAbs) := fun k => by
      unfold spec_l01Mul.f
      rw [wun_wenc hs, wun_wenc ha]; rfl
    refine Ev.bind (Ev.congr em (Ev.now _)) ?_
    unfold vS
    by_cases c1 : (s * a).natAbs < 4294967296 ^ 6
    · rw [if_pos c1, fitZ_yes c1, fitC_yes c1]
      have hb : 0 ≤ pl * ((zs.length : Int) - 1 - i) := Int.mul_nonneg h0 (by omega)
      refine Ev.congr (fun k => if_pos rfl) (Ev.congr (fun k => if_pos (by omega)) (Ev.congr (fun k => if_pos (by omega)) ?_))
      refine Ev.bind (Ev.congr (fun k => l02Up_is k hzi hb) (Ev.now _)) ?_
      cases hu : upS (zs.getD i 0) (pl * ((zs.length : Int) - 1 - i)) with
      | none =>
        simp only [Option.bind_none]
        rw [← wenc_zero]
        exact Ev.congr (fun k => if_neg (by decide)) (Ev.now _)
      | some c =>
        simp only [Option.bind_some]
        have hc := upS_WR hu
        have ea : ∀ k, spec_l01Add.f k (wenc (s * a)) (wenc c) = some (wenc (Wide.fitZ (s * a + c)), Wide.fitC (s * a + c).natAbs) := fun k => by
          unfold spec_l01Add.f
          rw [wun_wenc c1, wun_wenc hc]; rfl
        refine Ev.congr (fun k => if_pos (by simp)) (Ev.bind (Ev.congr ea (Ev.now _)) ?_)
        by_cases c2 : (s * a + c).natAbs < 4294967296 ^ 6
        · rw [if_pos c2, fitZ_yes c2, fitC_yes c2]
          exact Ev.congr (fun k => if_pos rfl) (ih _ (by omega) c2)
        · rw [if_neg c2, fitC_no c2]
          simp only []
          rw [← wenc_zero]
          exact Ev.congr (fun k => if_neg (by decide)) (Ev.now _)
    · rw [if_neg c1, fitC_no c1]
      simp only []
      rw [← wenc_zero]
      exact Ev.congr (fun k => if_neg (by decide)) (Ev.now _)
theorem fitZ_WR (z : Int) : WR (Wide.fitZ z) := Wide.fitZ_lt z
theorem addZ_WR (a b : Int) : WR (Wide.addZ a b) := Wide.addZ_lt a b
theorem impl_val_ev (zs : List Int) (a pl : Int) (hl : zs.length ≤ 9) (hz : ∀ z ∈ zs, WR z) (ha : WR a) (h0 : 0 ≤ pl) (h1 : pl ≤ 64) : ∀ (i : Nat) (s : Int) (ov : Bool), i ≤ zs.length → WR s → ∃ v o, WR v ∧ Ev (fun k => impl_calc_valueAt.l0 k (zs.map wenc) pl ((zs.length : Int) - 1) ((i : Int) - 1) ov (wenc a) (wenc s)) (wenc v, o) ∧ (ov = true → o = true) ∧ (ov = false → vS zs a pl i s = if o = true then none else some v) := by
  intro i
  induction i with
  | zero =>
    intro s ov hi hs
    refine ⟨s, ov, hs, Ev.step (fun k => by rw [impl_calc_valueAt.l0, if_neg (by decide)]) (Ev.now _), id, fun e => ?_⟩
    rw [e]; rfl
  | succ i ih =>
    intro s ov hi hs
    have e0 : ((i + 1 : Nat) : Int) - 1 = (i : Int) := by omega
    have hi2 : i < zs.length := by omega
    have hzi : WR (zs.getD i 0) := by
      rw [List.getD_eq_getElem?_getD, List.getElem?_eq_getElem hi2]
      exact hz _ (List.getElem_mem hi2)
    have hm : pl * ((zs.length : Int) - 1 - i) ≤ 64 * 9 := Int.mul_le_mul h1 (show ((zs.length : Int) - 1 - i) ≤ 9 by omega) (by omega) (by decide)
    have hn : 0 ≤ pl * ((zs.length : Int) - 1 - i) := Int.mul_nonneg h0 (by omega)
    have eb : wrap64 (pl * wrap64 ((zs.length : Int) - 1 - (i : Int))) = pl * ((zs.length : Int) - 1 - i) := by
      rw [wrap64_id (n := (zs.length : Int) - 1 - i) (by omega) (by omega), wrap64_id (by omega) (by omega)]
    have em : ∀ k, impl_calc_mul.f k ov (wenc s) (wenc a) = some (wenc (Wide.fitZ (s * a)), ov || Wide.ovM (s * a).natAbs) := fun k => by
      unfold impl_calc_mul.f
      rw [wun_wenc hs, wun_wenc ha]; rfl
    have hup := impl_up_ev (ov || Wide.ovM (s * a).natAbs) hzi hn (by omega)
    -- what the shift gives
    obtain ⟨c, o2, hc, hcu, hce⟩ : ∃ c o2, WR c ∧ Ev (fun k => impl_calc_up.f k (ov || Wide.ovM (s * a).natAbs) (wenc (zs.getD i 0)) (pl * ((zs.length : Int) - 1 - i))) (wenc c, o2) ∧ ((o2 = true ∧ upS (zs.getD i 0) (pl * ((zs.length : Int) - 1 - i)) = none) ∨ (o2 = (ov || Wide.ovM (s * a).natAbs) ∧ upS (zs.getD i 0) (pl * ((zs.length : Int) - 1 - i)) = some c)) := by
      cases hu : upS (zs.getD i 0) (pl * ((zs.length : Int) - 1 - i)) with
      | none => rw [hu] at hup; exact ⟨0, true, WR_zero, hup, .inl ⟨rfl, rfl⟩⟩
      | some c => rw [hu] at hup; exact ⟨c, _, upS_WR hu, hup, .inr ⟨rfl, rfl⟩⟩
    have ea : ∀ k, impl_calc_add.f k o2 (wenc (Wide.fitZ (s * a))) (wenc c) = some (wenc (Wide.addZ (Wide.fitZ (s * a)) c), o2 || Wide.ovM (Wide.fitZ (s * a) + c).natAbs) := fun k => by
      unfold impl_calc_add.f
      rw [wun_wenc (fitZ_WR _), wun_wenc hc]; rfl
    obtain ⟨v, o, hv, hev, hov, hof⟩ := ih (Wide.addZ (Wide.fitZ (s * a)) c) (o2 || Wide.ovM (Wide.fitZ (s * a) + c).natAbs) (by omega) (addZ_WR _ _)
    refine ⟨v, o, hv, ?_, ?_, ?_⟩
    · rw [e0]
      refine Ev.step (fun k => by rw [impl_calc_valueAt.l0]) (Ev.congr (fun k => if_pos (by omega)) ?_)
      rw [List.length_map, rd_wenc zs i hi2, eb, wrap64_id (n := (i : Int) - 1) (by omega) (by omega)]
      exact Ev.bind (Ev.congr em (Ev.now _)) (Ev.congr (fun k => if_pos (by omega)) (Ev.congr (fun k => if_pos (by omega)) (Ev.bind hcu (Ev.bind (Ev.congr ea (Ev.now _)) hev))))
    · intro e
      apply hov
      rcases hce with ⟨h, _⟩ | ⟨h, _⟩ <;> rw [h] <;> simp [e]
    · intro e
      unfold vS
      by_cases c1 : (s * a).natAbs < 4294967296 ^ 6
      · rw [if_pos c1]
        rcases hce with ⟨h2, h3⟩ | ⟨h2, h3⟩
        · rw [h3, hov (by rw [h2]; rfl)]; rfl
        · rw [h3, Option.bind_some]
          rw [h2, e, ovM_yes c1, fitZ_yes c1] at hov hof
          by_cases c2 : (s * a + c).natAbs < 4294967296 ^ 6
          · rw [if_pos c2]
            rw [addZ_yes c2, ovM_yes c2] at hof
            exact hof rfl
          · rw [if_neg c2, hov (by rw [ovM_no c2]; rfl)]; rfl
      · rw [if_neg c1]
        have : o = true := by
          apply hov
          rcases hce with ⟨h, _⟩ | ⟨h, _⟩ <;> rw [h] <;> simp [ovM_no c1]
        rw [this]; rfl
/-! ### coefficients as wide numbers, wide arguments -/
theorem WR_small {z : Int} (h0 : -9223372036854775808 ≤ z) (h1 : z < 9223372036854775808) : WR z := Wide.abs_small h0 h1
theorem specOf_is {z : Int} (h0 : -9223372036854775808 ≤ z) (h1 : z < 9223372036854775808) : spec_l01Of.f z = some (wenc z) := if_pos ⟨h0, h1⟩
theorem implOf_is {z : Int} (h0 : -9223372036854775808 ≤ z) (h1 : z < 9223372036854775808) : impl_WideOf.f z = some (wenc z) := if_pos ⟨h0, h1⟩
theorem specWides_loop (xs : List Int) (hl : xs.length ≤ 9) (hz : ∀ z ∈ xs, -9223372036854775808 ≤ z ∧ z < 9223372036854775808) (d : Nat) : ∀ (i k : Nat), i + d = xs.length → d < k → spec_l05Wides.l0 k xs ((xs.take i).map wenc) (i : Int) = some (xs.map wenc) := by
  induction d with
  | zero =>
    intro i k hi hk
    obtain ⟨k, rfl⟩ : ∃ m, k = m + 1 := ⟨k - 1, by omega⟩
    rw [spec_l05Wides.l0, if_neg (by omega), List.take_of_length_le (by omega)]
  | succ d ih =>
    intro i k hi hk
    obtain ⟨k, rfl⟩ : ∃ m, k = m + 1 := ⟨k - 1, by omega⟩
    have hi2 : i < xs.length := by omega
    have hx := hz _ (List.getElem_mem hi2)
    rw [spec_l05Wides.l0, if_pos (by omega), if_pos (by omega), rd_get xs i hi2, specOf_is hx.1 hx.2, Option.bind_some, if_pos (by simp only [List.length_map, List.length_take]; omega), wrap64_id (by omega) (by omega)]
    have e : (xs.take i).map wenc ++ [wenc xs[i]] = (xs.take (i + 1)).map wenc := by
      rw [List.take_succ_eq_append_getElem hi2, List.map_append]; rfl
    rw [e]
    exact ih (i + 1) k (by omega) (by omega)
theorem specWides_ev (xs : List Int) (hl : xs.length ≤ 9) (hz : ∀ z ∈ xs, -9223372036854775808 ≤ z ∧ z < 9223372036854775808) : Ev (fun k => spec_l05Wides.f k xs) (xs.map wenc) :=
  ⟨xs.length + 1, fun k hk => by
    show spec_l05Wides.f k xs = _
    unfold spec_l05Wides.f
    exact specWides_loop xs hl hz xs.length 0 k (by omega) (by omega)⟩
theorem implWiden_loop (xs : List Int) (hl : xs.length ≤ 9) (hz : ∀ z ∈ xs, -9223372036854775808 ≤ z ∧ z < 9223372036854775808) (d : Nat) : ∀ (i k : Nat), i + d = xs.length → d < k → impl_widen.l0 k ((xs.take i).map wenc ++ List.replicate d z24) xs (xs.length : Int) (i : Int) = some (xs.map wenc) := by
  induction d with
  | zero =>
    intro i k hi hk
    obtain ⟨k, rfl⟩ : ∃ m, k = m + 1 := ⟨k - 1, by omega⟩
    rw [impl_widen.l0, if_neg (by omega), List.take_of_length_le (by omega)]
    simp
  | succ d ih =>
    intro i k hi hk
    obtain ⟨k, rfl⟩ : ∃ m, k = m + 1 := ⟨k - 1, by omega⟩
    have hi2 : i < xs.length := by omega
    have hx := hz _ (List.getElem_mem hi2)
    have hle : ((xs.take i).map wenc).length = i := by simp only [List.length_map, List.length_take]; omega
    rw [impl_widen.l0, if_pos (by omega), if_pos (by omega), if_pos (by omega), rd_get xs i hi2, implOf_is hx.1 hx.2, Option.bind_some, if_pos (by rw [List.length_append, hle, List.length_replicate]; omega), wrap64_id (by omega) (by omega), Int.toNat_natCast]
    have e : ((xs.take i).map wenc ++ List.replicate (d + 1) z24).set i (wenc xs[i]) = (xs.take (i + 1)).map wenc ++ List.replicate d z24 := by
      rw [List.set_append, hle, if_neg (by omega), Nat.sub_self, List.replicate_succ, List.set_cons_zero, List.take_succ_eq_append_getElem hi2, List.map_append, List.append_assoc]; rfl
    rw [e]
    exact ih (i + 1) k (by omega) (by omega)
theorem implWiden_ev (xs : List Int) (hl : xs.length ≤ 9) (hz : ∀ z ∈ xs, -9223372036854775808 ≤ z ∧ z < 9223372036854775808) : Ev (fun k => impl_widen.f k xs) (xs.map wenc) :=
  ⟨xs.length + 1, fun k hk => by
    show impl_widen.f k xs = _
    unfold impl_widen.f
    rw [if_pos (by omega), if_pos (by omega), Int.toNat_natCast]
    exact implWiden_loop xs hl hz xs.length 0 k (by omega) (by omega)⟩
theorem toA6_ev (a : S23) (k : Nat) : laws_toUint32A6.f (k + 7) a = some a := by
  unfold laws_toUint32A6.f
  simp [laws_toUint32A6.l0, wrap64, aput, rd]
theorem toWide_ev (a : S24) : Ev (fun k => laws_toWide.f k a) a := by
  refine ⟨7, fun k hk => ?_⟩
  obtain ⟨k, rfl⟩ : ∃ j, k = j + 7 := ⟨k - 7, by omega⟩
  show laws_toWide.f (k + 7) a = some a
  unfold laws_toWide.f
  rw [toA6_ev]; rfl
theorem implPlaces_is (x : Int) : impl_placesOk.f x = some (decide (0 ≤ x ∧ x ≤ 64)) := by
  unfold impl_placesOk.f
  rw [within_some]; rfl
theorem specPlaces_is (x : Int) : spec_l02Places.f x = some (decide (0 ≤ x ∧ x ≤ 64)) := by
  unfold spec_l02Places.f
  rw [l00In_some]; rfl
theorem polyOk_len {xs : List Int} (h : polyOk xs = true) : 2 ≤ xs.length ∧ xs.length ≤ 9 := by
  unfold polyOk at h
  rw [Bool.and_eq_true] at h
  exact of_decide_eq_true h.1
theorem polyOk_mem {xs : List Int} (h : polyOk xs = true) : ∀ z ∈ xs, -1000000 ≤ z ∧ z ≤ 1000000 := by
  unfold polyOk at h
  rw [Bool.and_eq_true, Bool.and_eq_true] at h
  intro z hz
  have := List.all_eq_true.1 h.2.2 z hz
  unfold inCoef at this
  exact of_decide_eq_true this
theorem specVA_code {xs : List Int} {x : S24} {pl c : Int} (h : Ev (fun k => spec_l05Asked.f k xs x pl) c) (hc : ¬ c = 0) : Ev (fun k => spec_ValueAt.f k xs x pl) (wenc 0, c) := by
  rw [wenc_zero]
  refine Ev.congr (fun k => by unfold spec_ValueAt.f; rfl) ?_
  refine Ev.bind h ?_
  exact Ev.congr (fun k => if_neg hc) (Ev.now _)
theorem valueAt_ev (xs : List Int) (x : S24) (hx : WF33 x) (pl : Int) : ∃ r : S24 × Int, Ev (fun k => spec_ValueAt.f k xs x pl) r ∧ Ev (fun k => impl_ValueAt.f k xs x pl) r := by
  obtain ⟨_, h0, h1, h2, h3, h4, h5⟩ := hx
  have hw := wide_of h0 h1 h2 h3 h4 h5
  cases hp : polyOk xs with
  | false =>
    refine ⟨(wenc 0, 1), ?_, ?_⟩
    · refine specVA_code ?_ (by decide)
      refine Ev.congr (fun k => by unfold spec_l05Asked.f; rfl) ?_
      refine Ev.bind (specPoly_ev xs) ?_
      rw [hp]
      exact Ev.congr (fun k => if_neg (by decide)) (Ev.step (fun k => by rw [spec_l05Asked.j0, if_pos rfl]) (Ev.now _))
    · rw [wenc_zero]
      refine Ev.congr (fun k => by unfold impl_ValueAt.f; rfl) (Ev.bind (implPoly_ev xs) ?_)
      rw [hp]
      exact Ev.congr (fun k => if_neg (by decide)) (Ev.now _)
  | true =>
    have hsp := specPoly_ev xs
    have hip := implPoly_ev xs
    rw [hp] at hsp hip
    rcases hw with ⟨w1, w2⟩ | ⟨w1, w2, z, hz, rfl⟩
    · refine ⟨(wenc 0, 1), ?_, ?_⟩
      · refine specVA_code ?_ (by decide)
        refine Ev.congr (fun k => by unfold spec_l05Asked.f; rfl) ?_
        refine Ev.bind hsp ?_
        refine Ev.congr (fun k => if_pos rfl) ?_
        refine Ev.bind (Ev.congr (fun _ => w1) (Ev.now _)) ?_
        exact Ev.step (fun k => by rw [spec_l05Asked.j0, if_pos (by rfl)]) (Ev.now _)
      · rw [wenc_zero]
        refine Ev.congr (fun k => by unfold impl_ValueAt.f; rfl) ?_
        refine Ev.bind hip ?_
        refine Ev.congr (fun k => if_pos rfl) ?_
        refine Ev.bind (Ev.congr (fun _ => w2) (Ev.now _)) ?_
        exact Ev.congr (fun k => if_neg (by decide)) (Ev.now _)
    · have ask : ∀ (b : Bool) (c : Int), decide (0 ≤ pl ∧ pl ≤ 64) = b → (if b = true then (0 : Int) else 2) = c → Ev (fun k => spec_l05Asked.f k xs (wenc z) pl) c := by
        intro b c hb hc
        refine Ev.congr (fun k => by unfold spec_l05Asked.f; rfl) ?_
        refine Ev.bind hsp ?_
        refine Ev.congr (fun k => if_pos rfl) ?_
        refine Ev.bind (Ev.congr (fun _ => w1) (Ev.now _)) ?_
        refine Ev.step (f := fun _ => some (if b = true then (0 : Int) else 2)) (fun k => by rw [spec_l05Asked.j0, if_neg (by decide), specPlaces_is, hb]; cases b <;> rfl) ?_
        rw [← hc]
        exact Ev.now _
      by_cases c : 0 ≤ pl ∧ pl ≤ 64
      · have hl := polyOk_len hp
        have hm : ∀ z ∈ xs, -9223372036854775808 ≤ z ∧ z < 9223372036854775808 := fun z hz => by
          have := polyOk_mem hp z hz
          omega
        have hWR : ∀ z ∈ xs, WR z := fun z hz => WR_small (hm z hz).1 (hm z hz).2
        have hn1 : xs.length - 1 < xs.length := by omega
        have hlast : WR (xs.getD (xs.length - 1) 0) := by
          rw [List.getD_eq_getElem?_getD, List.getElem?_eq_getElem hn1]
          exact hWR _ (List.getElem_mem hn1)
        have erd : rd_T24 (xs.map wenc) ((xs.length : Int) - 1) = wenc (xs.getD (xs.length - 1) 0) := by
          have := rd_wenc xs (xs.length - 1) hn1
          rw [show ((xs.length - 1 : Nat) : Int) = (xs.length : Int) - 1 by omega] at this
          exact this
        have S := spec_val_ev xs z pl hl.2 hWR hz c.1 c.2 (xs.length - 1) _ (by omega) hlast
        obtain ⟨v, o, hv, I, _, I2⟩ := impl_val_ev xs z pl hl.2 hWR hz c.1 c.2 (xs.length - 1) _ false (by omega) hlast
        have I3 := I2 rfl
        have e2 : ((xs.length - 1 : Nat) : Int) - 1 = (xs.length : Int) - 2 := by omega
        rw [e2] at S I
        have Sf : Ev (fun k => spec_ValueAt.f k xs (wenc z) pl) (match vS xs z pl (xs.length - 1) (xs.getD (xs.length - 1) 0) with | some v => (wenc v, 0) | none => (wenc 0, 3)) := by
          refine Ev.congr (fun k => by unfold spec_ValueAt.f; rfl) ?_
          refine Ev.bind (ask true 0 (decide_eq_true c) rfl) ?_
          refine Ev.congr (fun k => if_pos rfl) ?_
          refine Ev.bind (specWides_ev xs hl.2 hm) ?_
          refine Ev.bind (a := (match vS xs z pl (xs.length - 1) (xs.getD (xs.length - 1) 0) with | some v => (wenc v, 0) | none => (wenc 0, 3))) ?_ (Ev.now _)
          refine Ev.congr (fun k => by unfold spec_l05Value.f; rw [List.length_map, wrap64_id (n := (xs.length : Int) - 1) (by omega) (by omega), wrap64_id (n := (xs.length : Int) - 2) (by omega) (by omega), if_pos (by omega), if_pos (by omega), erd]) S
        have If : Ev (fun k => impl_ValueAt.f k xs (wenc z) pl) (if o = true then (wenc 0, 3) else (wenc v, 0)) := by
          refine Ev.congr (fun k => by unfold impl_ValueAt.f; rfl) ?_
          refine Ev.bind hip ?_
          refine Ev.congr (fun k => if_pos rfl) ?_
          refine Ev.bind (Ev.congr (fun _ => w2) (Ev.now _)) ?_
          refine Ev.congr (fun k => if_pos rfl) ?_
          refine Ev.bind (Ev.congr (fun _ => implPlaces_is pl) (Ev.now _)) ?_
          refine Ev.congr (fun k => if_pos (decide_eq_true c)) ?_
          refine Ev.bind (implWiden_ev xs hl.2 hm) ?_
          refine Ev.bind (a := (wenc v, o)) ?_ ?_
          · refine Ev.congr (fun k => by unfold impl_calc_valueAt.f; rw [List.length_map, wrap64_id (n := (xs.length : Int) - 1) (by omega) (by omega), wrap64_id (n := (xs.length : Int) - 1 - 1) (by omega) (by omega), if_pos (by omega), if_pos (by omega), erd, show (xs.length : Int) - 1 - 1 = (xs.length : Int) - 2 by omega]) I
          · unfold impl_calc_told.f
            rw [wenc_zero]
            cases o <;> exact Ev.now _
        refine ⟨_, Sf, ?_⟩
        rw [I3]
        cases o
        · exact If
        · exact If
      · refine ⟨(wenc 0, 2), ?_, ?_⟩
        · exact specVA_code (ask false 2 (decide_eq_false c) rfl) (by decide)
        · rw [wenc_zero]
          refine Ev.congr (fun k => by unfold impl_ValueAt.f; rfl) ?_
          refine Ev.bind hip ?_
          refine Ev.congr (fun k => if_pos rfl) ?_
          refine Ev.bind (Ev.congr (fun _ => w2) (Ev.now _)) ?_
          refine Ev.congr (fun k => if_pos rfl) ?_
          refine Ev.bind (Ev.congr (fun _ => implPlaces_is pl) (Ev.now _)) ?_
          exact Ev.congr (fun k => if_neg (fun e => c (of_decide_eq_true e))) (Ev.now _)
theorem FnExactValueAt : laws_FnExactValueAt.Pure := by
  intro l0 x pl ⟨hl, _⟩ hx _
  apply Ev.rounds (r := true)
  by_cases c : (l0.length : Int) > 1048576
  · exact ⟨0, fun k _ => by show laws_FnExactValueAt.f k l0 x pl = _; unfold laws_FnExactValueAt.f; rw [if_pos c]⟩
  · obtain ⟨r, hs, hi⟩ := valueAt_ev l0 x hx pl
    refine Ev.congr (fun k => by unfold laws_FnExactValueAt.f; rw [if_neg c]) ?_
    refine Ev.bind (toInt64S_ev l0 (by omega)) (Ev.bind (toWide_ev x) (Ev.bind hs (Ev.bind (toInt64S_ev l0 (by omega)) (Ev.bind (toWide_ev x) (Ev.bind hi (Ev.bind (eqWide_ev _) ?_))))))
    refine Ev.congr (fun k => if_pos rfl) (Ev.step (fun k => by rw [laws_FnExactValueAt.j0, if_neg (by simp)]) ?_)
    exact Ev.bind (toInt64S_ev l0 (by omega)) (Ev.bind (eqInt64S_ev l0 (by omega)) (Ev.now _))
end Go.Proofs.Ytbomadebdekjjaa.Pure
