/- The program's SeriesTerms returns what the reference's returns, for all arguments. -/
import Derived.Test.YtbomadebdekjjaaMFnExactSeriesTermsx7
import Derived.Test.YtbomadebdekjjaaMOpen
namespace Go.Proofs.Ytbomadebdekjjaa.Pure
open Go.RowKit Go.Proofs.Ytbomadebdekjjaa.MFnExactSeriesTerms Go.Proofs.Ytbomadebdekjjaa.MOpen Go.Proofs.YtbomadebdekjjaaW.PrintWords Go.Proofs.YtbomadebdekjjaaW.PrintLast Go.Proofs.YtbomadebdekjjaaW.PrintMore
set_option linter.unusedVariables false
set_option linter.unusedSimpArgs false
theorem wrap64_id {n : Int} (h0 : -9223372036854775808 ≤ n) (h1 : n ≤ 9223372036854775807) : wrap64 n = n := by
  unfold wrap64; omega
theorem rd_nat (xs : List Int) (i : Nat) : rd xs (i : Int) = xs.getD i 0 := by simp [rd]
theorem rd_get (xs : List Int) (i : Nat) (h : i < xs.length) : rd xs (i : Int) = xs[i] := by simp [rd, h]
theorem ev_k {α : Type} {f : Nat → Option α} {r : α} (n : Nat) (h : ∀ k, n ≤ k → f k = some r) : Ev f r := ⟨n, h⟩
theorem l00In_some (a b c : Int) : spec_l00In.f a b c = some (decide (b ≤ a ∧ a ≤ c)) := by
  unfold spec_l00In.f
  split <;> simp <;> omega
theorem within_some (a b c : Int) : impl_within.f a b c = some (decide (b ≤ a ∧ a ≤ c)) := l00In_some a b c
/-! ### wide numbers: values and limbs -/
theorem lb_cons0 (x y : Nat) (h : x < 4294967296) : Wide.lb (x + 4294967296 * y) 0 = x := by
  unfold Wide.lb
  rw [Nat.pow_zero, Nat.div_one, Nat.add_mul_mod_self_left, Nat.mod_eq_of_lt h]
theorem lb_consS (x y n : Nat) (h : x < 4294967296) : Wide.lb (x + 4294967296 * y) (n + 1) = Wide.lb y n := by
  unfold Wide.lb
  rw [Nat.pow_succ, Nat.mul_comm (4294967296 ^ n), ← Nat.div_div_eq_div_mul, Nat.add_mul_div_left _ _ (by decide), Nat.div_eq_of_lt h, Nat.zero_add]
theorem lb_sum {m : Nat} (h : m < 4294967296 ^ 6) : m = Wide.lb m 0 + 4294967296 * (Wide.lb m 1 + 4294967296 * (Wide.lb m 2 + 4294967296 * (Wide.lb m 3 + 4294967296 * (Wide.lb m 4 + 4294967296 * Wide.lb m 5)))) := by
  have h6 : m % 4294967296 ^ 6 = m := Nat.mod_eq_of_lt h
  have a0 := Wide.low_succ m 0
  have a1 := Wide.low_succ m 1
  have a2 := Wide.low_succ m 2
  have a3 := Wide.low_succ m 3
  have a4 := Wide.low_succ m 4
  have a5 := Wide.low_succ m 5
  simp only [Nat.zero_add, Nat.reduceAdd, Nat.pow_zero, Nat.mod_one, Nat.one_mul, Nat.reducePow] at *
  omega
theorem mval_wlm {m : Nat} (h : m < 4294967296 ^ 6) : mval (wlm m) = m := by
  have e := lb_sum h
  unfold mval wlm
  simp only []
  generalize Wide.lb m 0 = a at *
  generalize Wide.lb m 1 = b at *
  generalize Wide.lb m 2 = c at *
  generalize Wide.lb m 3 = d at *
  generalize Wide.lb m 4 = e4 at *
  generalize Wide.lb m 5 = f at *
  rw [e]; omega
theorem mun_wlm {m : Nat} (h : m < 4294967296 ^ 6) : mun (wlm m) = some m := by
  unfold mun
  rw [mval_wlm h, if_pos ⟨⟨rfl, rfl, rfl, rfl, rfl, rfl⟩, h⟩]
theorem wval_wenc {z : Int} (h : z.natAbs < 4294967296 ^ 6) : wval (wenc z) = z := by
  have e := lb_sum h
  unfold wval wenc wlm
  simp only []
  generalize Wide.lb z.natAbs 0 = a at *
  generalize Wide.lb z.natAbs 1 = b at *
  generalize Wide.lb z.natAbs 2 = c at *
  generalize Wide.lb z.natAbs 3 = d at *
  generalize Wide.lb z.natAbs 4 = e4 at *
  generalize Wide.lb z.natAbs 5 = f at *
  by_cases c0 : z < 0
  · rw [if_pos (decide_eq_true c0)]; omega
  · rw [if_neg (by simpa using c0)]; omega
theorem wun_wenc {z : Int} (h : z.natAbs < 4294967296 ^ 6) : wun (wenc z) = some z := by
  unfold wun
  rw [wval_wenc h, if_pos ⟨⟨rfl, rfl, rfl, rfl, rfl, rfl, rfl⟩, h⟩]
theorem lb_z (n : Nat) : Wide.lb 0 n = 0 := by unfold Wide.lb; rw [Nat.zero_div]
theorem wenc_zero : wenc 0 = (⟨false, (⟨0, 0, 0, 0, 0, 0⟩ : S23)⟩ : S24) := by
  unfold wenc wlm
  rw [show (0 : Int).natAbs = 0 from rfl, lb_z, lb_z, lb_z, lb_z, lb_z, lb_z]
  rfl
theorem mag_extP {s r : S23} (h : s.f0 = r.f0 ∧ s.f1 = r.f1 ∧ s.f2 = r.f2 ∧ s.f3 = r.f3 ∧ s.f4 = r.f4 ∧ s.f5 = r.f5) : s = r := by
  obtain ⟨b, c, d, e, f, g⟩ := s
  obtain ⟨b', c', d', e', f', g'⟩ := r
  obtain ⟨rfl, rfl, rfl, rfl, rfl, rfl⟩ := h
  rfl
theorem wlm_of {x : S23} (h0 : 0 ≤ x.f0 ∧ x.f0 ≤ 4294967295) (h1 : 0 ≤ x.f1 ∧ x.f1 ≤ 4294967295) (h2 : 0 ≤ x.f2 ∧ x.f2 ≤ 4294967295) (h3 : 0 ≤ x.f3 ∧ x.f3 ≤ 4294967295) (h4 : 0 ≤ x.f4 ∧ x.f4 ≤ 4294967295) (h5 : 0 ≤ x.f5 ∧ x.f5 ≤ 4294967295) : ∃ m, m < 4294967296 ^ 6 ∧ x = wlm m := by
  obtain ⟨a, ea⟩ : ∃ a : Nat, x.f0 = a := ⟨x.f0.toNat, by omega⟩
  obtain ⟨b, eb⟩ : ∃ b : Nat, x.f1 = b := ⟨x.f1.toNat, by omega⟩
  obtain ⟨c, ec⟩ : ∃ c : Nat, x.f2 = c := ⟨x.f2.toNat, by omega⟩
  obtain ⟨d, ed⟩ : ∃ d : Nat, x.f3 = d := ⟨x.f3.toNat, by omega⟩
  obtain ⟨e, ee⟩ : ∃ e : Nat, x.f4 = e := ⟨x.f4.toNat, by omega⟩
  obtain ⟨f, ef⟩ : ∃ f : Nat, x.f5 = f := ⟨x.f5.toNat, by omega⟩
  refine ⟨a + 4294967296 * (b + 4294967296 * (c + 4294967296 * (d + 4294967296 * (e + 4294967296 * f)))), ?_, ?_⟩
  · simp only [Nat.reducePow]; omega
  · apply mag_extP
    unfold wlm
    simp only []
    rw [lb_cons0 _ _ (by omega), lb_consS _ _ 0 (by omega), lb_cons0 _ _ (by omega), lb_consS _ _ 1 (by omega), lb_consS _ _ 0 (by omega), lb_cons0 _ _ (by omega), lb_consS _ _ 2 (by omega), lb_consS _ _ 1 (by omega), lb_consS _ _ 0 (by omega), lb_cons0 _ _ (by omega), lb_consS _ _ 3 (by omega), lb_consS _ _ 2 (by omega), lb_consS _ _ 1 (by omega), lb_consS _ _ 0 (by omega), lb_cons0 _ _ (by omega), lb_consS _ _ 4 (by omega), lb_consS _ _ 3 (by omega), lb_consS _ _ 2 (by omega), lb_consS _ _ 1 (by omega), lb_consS _ _ 0 (by omega)]
    refine ⟨ea, eb, ec, ed, ee, ?_⟩
    rw [ef]
    unfold Wide.lb
    rw [Nat.pow_zero, Nat.div_one, Nat.mod_eq_of_lt (by omega)]
theorem wlm_zero {m : Nat} (h : m < 4294967296 ^ 6) (hz : (wlm m).f0 = 0 ∧ (wlm m).f1 = 0 ∧ (wlm m).f2 = 0 ∧ (wlm m).f3 = 0 ∧ (wlm m).f4 = 0 ∧ (wlm m).f5 = 0) : m = 0 := by
  have e := lb_sum h
  unfold wlm at hz
  simp only [] at hz
  omega
theorem fitC_yes {n : Nat} (h : n < 4294967296 ^ 6) : Wide.fitC n = 0 := if_pos h
theorem fitC_no {n : Nat} (h : ¬ n < 4294967296 ^ 6) : Wide.fitC n = 3 := if_neg h
theorem fitZ_yes {z : Int} (h : z.natAbs < 4294967296 ^ 6) : Wide.fitZ z = z := if_pos h
theorem addZ_yes {a b : Int} (h : (a + b).natAbs < 4294967296 ^ 6) : Wide.addZ a b = a + b := if_pos h
theorem ovM_yes {n : Nat} (h : n < 4294967296 ^ 6) : Wide.ovM n = false := decide_eq_false (fun e => e h)
theorem ovM_no {n : Nat} (h : ¬ n < 4294967296 ^ 6) : Wide.ovM n = true := decide_eq_true h
def WR (z : Int) : Prop := z.natAbs < 4294967296 ^ 6
theorem WR_zero : WR 0 := by unfold WR; decide
/-! ### shifts and values of polynomials -/
def upS (c by_ : Int) : Option Int := if by_ ≤ 191 ∧ (c.natAbs * 2 ^ by_.toNat < 4294967296 ^ 6) then some (c * 2 ^ by_.toNat) else none
theorem upS_WR {c b z : Int} (h : upS c b = some z) : WR z := by
  unfold upS at h
  split at h
  · rename_i e
    obtain rfl := Option.some.inj h
    unfold WR
    rw [Int.natAbs_mul, Int.natAbs_pow]
    exact e.2
  · exact absurd h (by simp)
theorem made_up {c : Int} {b : Nat} : (⟨decide (c < 0) && !(Wide.zN (c.natAbs * 2 ^ b)), wlm (c.natAbs * 2 ^ b)⟩ : S24) = wenc (c * 2 ^ b) := by
  unfold wenc
  have hp : 0 < 2 ^ b := Nat.pow_pos (by decide)
  have e : (c * 2 ^ b).natAbs = c.natAbs * 2 ^ b := by rw [Int.natAbs_mul, Int.natAbs_pow]; rfl
  rw [e]
  congr 1
  have hq : (0 : Int) < 2 ^ b := by exact_mod_cast hp
  by_cases h : c < 0
  · have h2 : c * 2 ^ b < 0 := Int.mul_neg_of_neg_of_pos h hq
    have h3 : ¬ c.natAbs * 2 ^ b = 0 := by
      intro z
      rcases Nat.mul_eq_zero.1 z with z | z <;> omega
    rw [decide_eq_true h, decide_eq_true h2]
    unfold Wide.zN
    simp [h3]
  · have h2 : ¬ c * 2 ^ b < 0 := by
      have := Int.mul_nonneg (show 0 ≤ c by omega) (Int.le_of_lt hq)
      omega
    rw [decide_eq_false h, decide_eq_false h2]; rfl
theorem fitZ_WR (z : Int) : WR (Wide.fitZ z) := Wide.fitZ_lt z
theorem addZ_WR (a b : Int) : WR (Wide.addZ a b) := Wide.addZ_lt a b
/-! ### coefficients as wide numbers, wide arguments -/
theorem WR_small {z : Int} (h0 : -9223372036854775808 ≤ z) (h1 : z < 9223372036854775808) : WR z := Wide.abs_small h0 h1
theorem specOf_is {z : Int} (h0 : -9223372036854775808 ≤ z) (h1 : z < 9223372036854775808) : spec_l01Of.f z = some (wenc z) := if_pos ⟨h0, h1⟩
/-! ### signs, opposites, quotients of wide numbers -/
theorem wenc_sign {z : Int} (h : WR z) : spec_l01Sign.f (wenc z) = some (if z < 0 then -1 else if z = 0 then 0 else 1) := by
  unfold spec_l01Sign.f
  show (if decide (z < 0) = true then _ else _) = _
  by_cases c : z < 0
  · rw [if_pos (decide_eq_true c), if_pos c]
  · rw [if_neg (by simpa using c), if_neg c]
    have e : ((wlm z.natAbs).f0 == 0 && ((wlm z.natAbs).f1 == 0 && ((wlm z.natAbs).f2 == 0 && ((wlm z.natAbs).f3 == 0 && ((wlm z.natAbs).f4 == 0 && ((wlm z.natAbs).f5 == 0)))))) = decide (z = 0) := by
      by_cases c2 : z = 0
      · subst c2
        rw [show (0 : Int).natAbs = 0 from rfl]
        have := congrArg S24.f1 wenc_zero
        rw [show wlm 0 = (⟨0, 0, 0, 0, 0, 0⟩ : S23) from this]
        rfl
      · rw [decide_eq_false c2, Bool.eq_false_iff]
        intro hh
        simp only [Bool.and_eq_true, beq_iff_eq] at hh
        have := wlm_zero h ⟨hh.1, hh.2.1, hh.2.2.1, hh.2.2.2.1, hh.2.2.2.2.1, hh.2.2.2.2.2⟩
        omega
    show (if ((wlm z.natAbs).f0 == 0 && ((wlm z.natAbs).f1 == 0 && ((wlm z.natAbs).f2 == 0 && ((wlm z.natAbs).f3 == 0 && ((wlm z.natAbs).f4 == 0 && ((wlm z.natAbs).f5 == 0)))))) = true then _ else _) = _
    rw [e]
    by_cases c2 : z = 0
    · rw [if_pos (decide_eq_true c2), if_pos c2]
    · rw [if_neg (by simpa using c2), if_neg c2]
theorem wenc_opp (z : Int) : (⟨!(decide (z < 0)) && !(Wide.zN z.natAbs), wlm z.natAbs⟩ : S24) = wenc (-z) := by
  unfold wenc
  rw [Int.natAbs_neg]
  congr 1
  unfold Wide.zN
  by_cases c : z < 0
  · rw [decide_eq_true c, decide_eq_false (show ¬ -z < 0 by omega)]; rfl
  · rw [decide_eq_false c]
    by_cases c2 : z = 0
    · subst c2; rfl
    · rw [decide_eq_false (show ¬ z.natAbs = 0 by omega), decide_eq_true (show -z < 0 by omega)]; rfl
theorem wenc_neg {z : Int} (h : WR z) : spec_l01Neg.f (wenc z) = some (wenc (-z)) := by
  unfold spec_l01Neg.f spec_l01Made.f
  rw [show (wenc z).f1 = wlm z.natAbs from rfl, mun_wlm h, Option.bind_some, Option.bind_some, show (wenc z).f0 = decide (z < 0) from rfl, wenc_opp]
theorem WR_neg {z : Int} (h : WR z) : WR (-z) := by unfold WR at *; rw [Int.natAbs_neg]; exact h
theorem wenc_div {a b : Int} (ha : WR a) (hb : WR b) (h0 : b ≠ 0) : spec_l01Div.f (wenc a) (wenc b) = some (wenc (a.fdiv b), wenc (a.fmod b)) := by
  unfold spec_l01Div.f
  rw [wun_wenc ha, wun_wenc hb, Option.bind_some, Option.bind_some, if_neg h0]
theorem WR_nat {n : Nat} (h : n < 4294967296 ^ 6) : WR (n : Int) := by unfold WR; rw [Int.natAbs_natCast]; exact h
theorem nat_fdiv (u y : Nat) : (u : Int).fdiv (y : Int) = ((u / y : Nat) : Int) := by rw [Int.fdiv_eq_ediv_of_nonneg _ (Int.natCast_nonneg _), Int.natCast_ediv]
/-- How many terms are no zeros. -/
def stN (num den : Nat) : Nat → Nat → Nat
  | 0, _ => 0
  | n + 1, u => if u = 0 then 0 else stN num den n (u * num / den) + 1
theorem half_of {num den u n : Nat} (hd : 0 < den) (h2 : 2 * num ≤ den) (hu : u < 2 ^ (n + 1)) : u * num / den < 2 ^ n := by
  rw [Nat.div_lt_iff_lt_mul hd]
  rw [Nat.pow_succ] at hu
  have h3 : u * (2 * num) ≤ u * den := Nat.mul_le_mul_left _ h2
  have h4 : u * den < 2 ^ n * 2 * den := Nat.mul_lt_mul_of_pos_right hu hd
  rw [Nat.mul_left_comm] at h3
  rw [Nat.mul_right_comm] at h4
  omega
theorem p75 : (2 : Nat) ^ 75 * 1024 < 4294967296 ^ 6 := by decide
theorem p75' {n : Nat} (h : n ≤ 75) : (2 : Nat) ^ n ≤ 2 ^ 75 := Nat.pow_le_pow_right (by decide) h
theorem stN_le (num den : Nat) : ∀ n u, stN num den n u ≤ n := by
  intro n
  induction n with
  | zero => intro u; exact Nat.le_refl _
  | succ n ih => intro u; unfold stN; split; omega; have := ih (u * num / den); omega
theorem spec_sum_ev (a0 : S40) (num den fi sp : Nat) (e0 : a0.f0 = num) (e1 : a0.f1 = den) (e2 : a0.f2 = fi) (e3 : a0.f3 = sp) (hn : num ≤ 1000) (hd : 0 < den ∧ den ≤ 1000) (h2 : 2 * num ≤ den) (hf : 1 ≤ fi ∧ fi ≤ 1000) (hs : sp ≤ 1000) : ∀ (n u c : Nat) (sm : Int), n ≤ 75 → u < 2 ^ n → c + n ≤ 1000 → WR sm → ∃ s', Ev (fun k => spec_l05Sum.l0 k (c : Int) a0 (wenc (u : Int)) (wenc sm)) (s', ((c + stN num den n u : Nat) : Int)) := by
  intro n
  induction n with
  | zero =>
    intro u c sm hn hu hc hsm
    obtain rfl : u = 0 := by simpa using hu
    exact ⟨wenc sm, Ev.step (fun k => by rw [spec_l05Sum.l0, wenc_sign (WR_nat (by decide))]; rfl) (Ev.now _)⟩
  | succ n ih =>
    intro u c sm hn2 hu hc hsm
    have hu2 : u < 2 ^ 75 := Nat.lt_of_lt_of_le hu (p75' hn2)
    have hp := p75
    have hWu : WR (u : Int) := WR_nat (by omega)
    by_cases z : u = 0
    · subst z
      exact ⟨wenc sm, Ev.step (f := fun _ => some (wenc sm, ((c + stN num den (n + 1) 0 : Nat) : Int))) (fun k => by rw [spec_l05Sum.l0, wenc_sign (WR_nat (by decide)), stN, if_pos rfl]; rfl) (Ev.now _)⟩
    · have hsc : sp * c ≤ 1000 * 1000 := Nat.mul_le_mul hs (show c ≤ 1000 by omega)
      have ey : wrap64 (a0.f2 + wrap64 (a0.f3 * (c : Int))) = ((fi + sp * c : Nat) : Int) := by
        rw [e2, e3, show (sp : Int) * (c : Int) = ((sp * c : Nat) : Int) by rw [Int.natCast_mul], wrap64_id (n := ((sp * c : Nat) : Int)) (by omega) (by omega), wrap64_id (by omega) (by omega)]
        omega
      have hWy : WR ((fi + sp * c : Nat) : Int) := WR_small (by omega) (by omega)
      have hWt : WR ((u / (fi + sp * c) : Nat) : Int) := WR_nat (by have := Nat.div_le_self u (fi + sp * c); omega)
      have hmul : u * num ≤ 2 ^ 75 * 1000 := Nat.mul_le_mul (Nat.le_of_lt hu2) hn
      have hWm : WR (((u * num : Nat) : Int)) := WR_nat (by omega)
      have hWn : WR (num : Int) := WR_small (by omega) (by omega)
      have hWd : WR (den : Int) := WR_small (by omega) (by omega)
      have key : ∀ t : Int, WR t → ∃ s', Ev (fun k => spec_l05Sum.j2 k (c : Int) a0 (wenc (u : Int)) (wenc sm) (wenc t)) (s', ((c + stN num den (n + 1) u : Nat) : Int)) := by
        intro t ht
        obtain ⟨s', hs'⟩ := ih (u * num / den) (c + 1) (Wide.fitZ (sm + t)) (by omega) (half_of hd.1 h2 hu) (by omega) (fitZ_WR _)
        refine ⟨s', Ev.step (fun k => by rw [spec_l05Sum.j2]) ?_⟩
        have ea : ∀ k, spec_l01Add.f k (wenc sm) (wenc t) = some (wenc (Wide.fitZ (sm + t)), Wide.fitC (sm + t).natAbs) := fun k => by
          unfold spec_l01Add.f
          rw [wun_wenc hsm, wun_wenc ht]; rfl
        have em : ∀ k, spec_l01Mul.f k (wenc (u : Int)) (wenc (num : Int)) = some (wenc ((u * num : Nat) : Int), Wide.fitC ((u : Int) * (num : Int)).natAbs) := fun k => by
          unfold spec_l01Mul.f
          rw [wun_wenc hWu, wun_wenc hWn, Option.bind_some, Option.bind_some, ← Int.natCast_mul, fitZ_yes hWm]
        have ed : spec_l01Div.f (wenc ((u * num : Nat) : Int)) (wenc (den : Int)) = some (wenc ((u * num / den : Nat) : Int), wenc (((u * num : Nat) : Int).fmod (den : Int))) := by
          rw [wenc_div hWm hWd (by omega), nat_fdiv]
        refine Ev.bind (Ev.congr ea (Ev.now _)) ?_
        refine Ev.bind (Ev.congr (fun _ => by rw [e0, specOf_is (by omega) (by omega)]) (Ev.now _)) ?_
        refine Ev.bind (Ev.congr em (Ev.now _)) ?_
        refine Ev.bind (Ev.congr (fun _ => by rw [e1, specOf_is (by omega) (by omega)]) (Ev.now _)) ?_
        refine Ev.bind (Ev.congr (fun _ => ed) (Ev.now _)) ?_
        refine Ev.congr (fun k => by rw [show wrap64 ((c : Int) + 1) = ((c + 1 : Nat) : Int) by rw [wrap64_id (by omega) (by omega)]; omega]) ?_
        have e5 : c + 1 + stN num den n (u * num / den) = c + stN num den (n + 1) u := by
          conv => rhs; rw [stN, if_neg z]
          omega
        rw [e5] at hs'
        exact hs'
      have key1 : ∀ b : Bool, ∃ s', Ev (fun k => spec_l05Sum.j1 k (c : Int) b a0 (wenc (u : Int)) (wenc sm) (wenc ((u / (fi + sp * c) : Nat) : Int))) (s', ((c + stN num den (n + 1) u : Nat) : Int)) := by
        intro b
        cases b
        · obtain ⟨s', h⟩ := key _ hWt
          exact ⟨s', Ev.step (fun k => by rw [spec_l05Sum.j1, if_neg (by decide)]) h⟩
        · obtain ⟨s', h⟩ := key _ (WR_neg hWt)
          exact ⟨s', Ev.step (fun k => by rw [spec_l05Sum.j1, if_pos rfl, wenc_neg hWt, Option.bind_some]) h⟩
      have fin : ∀ b : Bool, a0.f4 = b → ∃ s', Ev (fun k => if a0.f4 = true then spec_l05Sum.j1 k (c : Int) ((Int.tmod (c : Int) 2) == 1) a0 (wenc (u : Int)) (wenc sm) (wenc ((u / (fi + sp * c) : Nat) : Int)) else spec_l05Sum.j1 k (c : Int) false a0 (wenc (u : Int)) (wenc sm) (wenc ((u / (fi + sp * c) : Nat) : Int))) (s', ((c + stN num den (n + 1) u : Nat) : Int)) := by
        intro b hb
        cases b
        · obtain ⟨s', h⟩ := key1 false
          exact ⟨s', Ev.congr (fun k => by rw [hb, if_neg (by decide)]) h⟩
        · obtain ⟨s', h⟩ := key1 ((Int.tmod (c : Int) 2) == 1)
          exact ⟨s', Ev.congr (fun k => by rw [hb, if_pos rfl]) h⟩
      obtain ⟨s', h⟩ := fin _ rfl
      refine ⟨s', Ev.step (fun k => by rw [spec_l05Sum.l0, wenc_sign hWu, if_neg (by omega), if_neg (by omega), Option.bind_some, if_neg (by decide), ey]) ?_⟩
      refine Ev.bind (Ev.congr (fun _ => specOf_is (by omega) (by omega)) (Ev.now _)) ?_
      refine Ev.bind (a := (wenc ((u / (fi + sp * c) : Nat) : Int), wenc ((u : Int).fmod ((fi + sp * c : Nat) : Int)))) (Ev.congr (fun _ => by rw [wenc_div hWu hWy (by omega), nat_fdiv]) (Ev.now _)) ?_
      exact h
theorem nz_wlm {u : Nat} (h : u < 4294967296 ^ 6) : (!((wlm u).f0 == 0) || (!((wlm u).f1 == 0) || (!((wlm u).f2 == 0) || (!((wlm u).f3 == 0) || (!((wlm u).f4 == 0) || (!((wlm u).f5 == 0))))))) = !(Wide.zN u) := Wide.nzero_lb h
theorem wlm_two (a b : Nat) (ha : a < 4294967296) (hb : b < 4294967296) : (⟨(a : Int), (b : Int), 0, 0, 0, 0⟩ : S23) = wlm (a + 4294967296 * b) := by
  apply mag_extP
  unfold wlm
  simp only []
  rw [lb_cons0 _ _ ha, lb_consS _ _ 0 ha, lb_consS _ _ 1 ha, lb_consS _ _ 2 ha, lb_consS _ _ 3 ha, lb_consS _ _ 4 ha]
  have h0 : ∀ n, Wide.lb b (n + 1) = 0 := fun n => by
    have := lb_consS b 0 n hb
    rw [Nat.mul_zero, Nat.add_zero] at this
    rw [this, lb_z]
  refine ⟨rfl, ?_, ?_, ?_, ?_, ?_⟩
  · have := lb_cons0 b 0 hb
    rw [Nat.mul_zero, Nat.add_zero] at this
    rw [this]
  · rw [h0]; rfl
  · rw [h0]; rfl
  · rw [h0]; rfl
  · rw [h0]; rfl
theorem impl_parts_ev (a0 : S40) (num den : Nat) (e1 : a0.f1 = den) (hn : num ≤ 1000) (hd : 0 < den ∧ den ≤ 1000) (h2 : 2 * num ≤ den) : ∀ (n u : Nat) (xs : List S23), n ≤ 75 → u < 2 ^ n → xs.length + n ≤ 1000000 → ∃ ys, ys.length = xs.length + stN num den n u ∧ Ev (fun k => impl_Series_parts.l0 k xs a0 (wlm num) (wlm u)) ys := by
  intro n
  induction n with
  | zero =>
    intro u xs hn2 hu hl
    obtain rfl : u = 0 := by simpa using hu
    refine ⟨xs, rfl, Ev.step (fun k => by rw [impl_Series_parts.l0, nz_wlm (by decide), if_neg (by decide)]) (Ev.now _)⟩
  | succ n ih =>
    intro u xs hn2 hu hl
    have hu2 : u < 2 ^ 75 := Nat.lt_of_lt_of_le hu (p75' hn2)
    have hp := p75
    have hu3 : u < 4294967296 ^ 6 := by omega
    by_cases z : u = 0
    · subst z
      refine ⟨xs, by rw [stN, if_pos rfl]; rfl, Ev.step (fun k => by rw [impl_Series_parts.l0, nz_wlm (by decide), if_neg (by decide)]) (Ev.now _)⟩
    · have hmul : u * num ≤ 2 ^ 75 * 1000 := Nat.mul_le_mul (Nat.le_of_lt hu2) hn
      have hm : u * num < 4294967296 ^ 6 := by omega
      have hnum : num < 4294967296 ^ 6 := Nat.lt_of_le_of_lt hn (by decide)
      obtain ⟨ys, hy, hev⟩ := ih (u * num / den) (xs ++ [wlm u]) (by omega) (half_of hd.1 h2 hu) (by rw [List.length_append, List.length_singleton]; omega)
      have et : ∀ k, impl_size_times.f k (wlm u) (wlm num) = some (wlm (u * num), false) := fun k => by
        unfold impl_size_times.f
        rw [mun_wlm hu3, mun_wlm hnum, Option.bind_some, Option.bind_some, if_pos hm]
      have es : ∀ k, impl_size_bySmall.f k (wlm (u * num)) (a0.f1 % 4294967296) = some (wlm (u * num / den), ((u * num % den : Nat) : Int)) := fun k => by
        unfold impl_size_bySmall.f
        have e2 : a0.f1 % 4294967296 = (den : Int) := by rw [e1]; omega
        rw [mun_wlm hm, Option.bind_some, e2, if_pos (by omega), Int.toNat_natCast]
      refine ⟨ys, ?_, Ev.step (fun k => by rw [impl_Series_parts.l0, nz_wlm hu3]) (Ev.congr (fun k => if_pos (by unfold Wide.zN; simp [z])) (Ev.congr (fun k => if_pos (by omega)) ?_))⟩
      · rw [hy, List.length_append, List.length_singleton]
        conv => rhs; rw [stN, if_neg z]
        omega
      · refine Ev.bind (Ev.congr et (Ev.now _)) ?_
        refine Ev.bind (Ev.congr es (Ev.now _)) ?_
        exact hev
theorem specSeries_is (a0 : S40) : spec_l05Series.f a0 = some (decide (2 ≤ a0.f1 ∧ a0.f1 ≤ 1000) && (decide (1 ≤ a0.f0 ∧ a0.f0 ≤ wrap64 (Int.tdiv a0.f1 2)) && (decide (1 ≤ a0.f2 ∧ a0.f2 ≤ 1000) && decide (0 ≤ a0.f3 ∧ a0.f3 ≤ 1000)))) := by
  unfold spec_l05Series.f
  simp only [l00In_some, Option.bind_some]
  cases decide (2 ≤ a0.f1 ∧ a0.f1 ≤ 1000) <;> cases decide (1 ≤ a0.f0 ∧ a0.f0 ≤ wrap64 (Int.tdiv a0.f1 2)) <;> cases decide (1 ≤ a0.f2 ∧ a0.f2 ≤ 1000) <;> rfl
theorem implSeries_is (a0 : S40) : impl_ValidSeries.f a0 = some (decide (2 ≤ a0.f1 ∧ a0.f1 ≤ 1000) && (decide (1 ≤ a0.f0 ∧ a0.f0 ≤ wrap64 (Int.tdiv a0.f1 2)) && (decide (1 ≤ a0.f2 ∧ a0.f2 ≤ 1000) && decide (0 ≤ a0.f3 ∧ a0.f3 ≤ 1000)))) := by
  unfold impl_ValidSeries.f
  simp only [within_some, Option.bind_some]
  cases decide (2 ≤ a0.f1 ∧ a0.f1 ≤ 1000) <;> cases decide (1 ≤ a0.f0 ∧ a0.f0 ≤ wrap64 (Int.tdiv a0.f1 2)) <;> cases decide (1 ≤ a0.f2 ∧ a0.f2 ≤ 1000) <;> rfl
theorem implPlaces_is (x : Int) : impl_placesOk.f x = some (decide (0 ≤ x ∧ x ≤ 64)) := by
  unfold impl_placesOk.f
  rw [within_some]; rfl
theorem specPlaces_is (x : Int) : spec_l02Places.f x = some (decide (0 ≤ x ∧ x ≤ 64)) := by
  unfold spec_l02Places.f
  rw [l00In_some]; rfl
theorem series_ev (a0 : S40) (pl : Int) : ∃ r : Int × Int, Ev (fun k => spec_SeriesTerms.f k a0 pl) r ∧ Ev (fun k => impl_SeriesTerms.f k a0 pl) r := by
  cases hv : (decide (2 ≤ a0.f1 ∧ a0.f1 ≤ 1000) && (decide (1 ≤ a0.f0 ∧ a0.f0 ≤ wrap64 (Int.tdiv a0.f1 2)) && (decide (1 ≤ a0.f2 ∧ a0.f2 ≤ 1000) && decide (0 ≤ a0.f3 ∧ a0.f3 ≤ 1000)))) with
  | false =>
    refine ⟨(0, 1), Ev.congr (fun k => ?_) (Ev.now _), Ev.congr (fun k => ?_) (Ev.now _)⟩
    · unfold spec_SeriesTerms.f spec_l05Limited.f
      rw [specSeries_is, hv]; rfl
    · unfold impl_SeriesTerms.f
      rw [implSeries_is, hv]; rfl
  | true =>
    by_cases hp : 0 ≤ pl ∧ pl ≤ 64
    · simp only [Bool.and_eq_true, decide_eq_true_eq] at hv
      obtain ⟨v1, v2, v3, v4⟩ := hv
      obtain ⟨num, e0⟩ : ∃ n : Nat, a0.f0 = n := ⟨a0.f0.toNat, by omega⟩
      obtain ⟨den, e1⟩ : ∃ n : Nat, a0.f1 = n := ⟨a0.f1.toNat, by omega⟩
      obtain ⟨fi, e2⟩ : ∃ n : Nat, a0.f2 = n := ⟨a0.f2.toNat, by omega⟩
      obtain ⟨sp, e3⟩ : ∃ n : Nat, a0.f3 = n := ⟨a0.f3.toNat, by omega⟩
      obtain ⟨b, e4⟩ : ∃ n : Nat, pl = n := ⟨pl.toNat, by omega⟩
      have h2 : 2 * num ≤ den := by
        have e5 : Int.tdiv (den : Int) 2 = ((den / 2 : Nat) : Int) := rfl
        rw [e0, e1, e5, wrap64_id (by omega) (by omega)] at v2
        omega
      have hu : 2 ^ (b + 10) < 2 ^ 75 := Nat.pow_lt_pow_right (by decide) (by omega)
      have hp75 := p75
      have ew : wrap64 (pl + 10) = ((b + 10 : Nat) : Int) := by rw [e4, wrap64_id (by omega) (by omega)]; omega
      have S2 : ∀ k, spec_SeriesTerms.f k a0 pl = (spec_l05Sum.f k a0 pl).bind fun bt204 => some (bt204.2, 0) := fun k => by
        unfold spec_SeriesTerms.f spec_l05Limited.f
        rw [specSeries_is, decide_eq_true v1, decide_eq_true v2, decide_eq_true v3, decide_eq_true v4, specPlaces_is, decide_eq_true hp]; rfl
      have I2 : ∀ k, impl_SeriesTerms.f k a0 pl = (impl_Series_parts.f k a0 pl).bind fun t251 => some ((t251.length : Int), 0) := fun k => by
        unfold impl_SeriesTerms.f
        rw [implSeries_is, decide_eq_true v1, decide_eq_true v2, decide_eq_true v3, decide_eq_true v4, implPlaces_is, decide_eq_true hp]; rfl
      obtain ⟨s', hs⟩ := spec_sum_ev a0 num den fi sp e0 e1 e2 e3 (by omega) (by omega) h2 (by omega) (by omega) 75 (2 ^ (b + 10)) 0 0 (by omega) hu (by omega) WR_zero
      obtain ⟨ys, hy, hi⟩ := impl_parts_ev a0 num den e1 (by omega) (by omega) h2 75 (2 ^ (b + 10)) [] (by omega) hu (by simp)
      have hone : spec_l01Of.f 1 = some (wenc 1) := specOf_is (by decide) (by decide)
      have hfit : (1 : Int).natAbs * 2 ^ ((b + 10 : Nat) : Int).toNat < 4294967296 ^ 6 := by
        rw [Int.toNat_natCast, show (1 : Int).natAbs = 1 from rfl, Nat.one_mul]; omega
      have hup : ∀ k, spec_l01Up.f k (wenc 1) ((b + 10 : Nat) : Int) = some (wenc ((2 ^ (b + 10) : Nat) : Int), 0) := fun k => by
        unfold spec_l01Up.f spec_l01UpMag.f
        rw [show (wenc 1).f1 = wlm (1 : Int).natAbs from rfl, mun_wlm (show (1 : Int).natAbs < 4294967296 ^ 6 by decide), Option.bind_some, if_pos ⟨by omega, by omega⟩, if_pos hfit, Option.bind_some]
        simp only [if_true]
        unfold spec_l01Made.f
        rw [mun_wlm hfit, Option.bind_some, Option.bind_some, show (wenc 1).f0 = decide ((1 : Int) < 0) from rfl, made_up, Int.toNat_natCast, Int.one_mul, Int.natCast_pow]
        rfl
      have hio : impl_one.f = some (wlm 1) := by
        unfold impl_one.f
        exact congrArg some (wlm_two 1 0 (by decide) (by decide))
      have hiu : impl_size_up.f (wlm 1) ((b + 10 : Nat) : Int) = some (wlm (2 ^ (b + 10))) := by
        unfold impl_size_up.f
        rw [mun_wlm (show 1 < 4294967296 ^ 6 by decide), Option.bind_some, if_pos ⟨by omega, by omega⟩, Int.toNat_natCast, Nat.one_mul]
      have hnum : (⟨(a0.f0) % 4294967296, 0, 0, 0, 0, 0⟩ : S23) = wlm num := by
        rw [e0, show (num : Int) % 4294967296 = (num : Int) by omega]
        have := wlm_two num 0 (by omega) (by decide)
        rw [Nat.mul_zero, Nat.add_zero] at this
        exact this
      refine ⟨((stN num den 75 (2 ^ (b + 10)) : Nat), 0), ?_, ?_⟩
      · refine Ev.congr S2 (Ev.bind (a := (s', ((stN num den 75 (2 ^ (b + 10)) : Nat) : Int))) ?_ (Ev.now _))
        refine Ev.congr (fun k => by unfold spec_l05Sum.f; rw [hone, Option.bind_some, ew, hup, Option.bind_some, ← wenc_zero]) ?_
        rw [Nat.zero_add] at hs
        exact hs
      · refine Ev.congr I2 (Ev.bind (a := ys) ?_ ?_)
        · refine Ev.congr (fun k => by unfold impl_Series_parts.f; rw [hio, Option.bind_some, ew, hiu, Option.bind_some, hnum]) hi
        · rw [hy, List.length_nil, Nat.zero_add]
          exact Ev.now _
    · refine ⟨(0, 2), Ev.congr (fun k => ?_) (Ev.now _), Ev.congr (fun k => ?_) (Ev.now _)⟩
      · unfold spec_SeriesTerms.f spec_l05Limited.f
        rw [specSeries_is, hv, specPlaces_is, decide_eq_false hp]; rfl
      · unfold impl_SeriesTerms.f
        rw [implSeries_is, hv, implPlaces_is, decide_eq_false hp]; rfl
theorem FnExactSeriesTerms : laws_FnExactSeriesTerms.Pure := by
  intro a0 pl _ _
  apply Ev.rounds (r := true)
  obtain ⟨⟨r1, r2⟩, hs, hi⟩ := series_ev a0 pl
  refine Ev.congr (fun k => by unfold laws_FnExactSeriesTerms.f; rfl) ?_
  refine Ev.bind (a := a0) (Ev.now _) ?_
  refine Ev.bind hs ?_
  refine Ev.bind (a := a0) (Ev.now _) ?_
  refine Ev.bind hi ?_
  exact Ev.congr (fun k => if_pos rfl) (Ev.congr (fun k => if_pos rfl) (Ev.now _))
end Go.Proofs.Ytbomadebdekjjaa.Pure
