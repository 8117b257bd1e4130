/- The program's StreamOf returns what the reference's returns, for every ratio, in memory of its own. -/
import Derived.Test.YtfenifdigjcmiaaMFnExactStreamOfx6
import Derived.Test.YtfenifdigjcmiaaMOpen
namespace Go.Proofs.Ytfenifdigjcmiaa.Pure
open Go.RowKit Go.Proofs.Ytfenifdigjcmiaa.MFnExactStreamOf Go.Proofs.Ytfenifdigjcmiaa.MOpen Go.Proofs.YtfenifdigjcmiaaW.PrintWords Go.Proofs.YtfenifdigjcmiaaW.PrintLast Go.Proofs.YtfenifdigjcmiaaW.PrintMore
set_option linter.unusedVariables false
set_option linter.unusedSimpArgs false
theorem wrap64_id {n : Int} (h0 : -9223372036854775808 ≤ n) (h1 : n ≤ 9223372036854775807) : wrap64 n = n := by
  unfold wrap64; omega
theorem rd_nat (xs : List Int) (i : Nat) : rd xs (i : Int) = xs.getD i 0 := by simp [rd]
theorem rd_get (xs : List Int) (i : Nat) (h : i < xs.length) : rd xs (i : Int) = xs[i] := by simp [rd, h]
theorem ev_k {α : Type} {f : Nat → Option α} {r : α} (n : Nat) (h : ∀ k, n ≤ k → f k = some r) : Ev f r := ⟨n, h⟩
theorem l00In_some (a b c : Int) : spec_l00In.f a b c = some (decide (b ≤ a ∧ a ≤ c)) := by
  unfold spec_l00In.f
  split <;> simp <;> omega
theorem within_some (a b c : Int) : impl_within.f a b c = some (decide (b ≤ a ∧ a ≤ c)) := l00In_some a b c
theorem size_is {a : Int} (h0 : -9223372036854775807 ≤ a) (h1 : a ≤ 9223372036854775807) : spec_l03Size.f a = some (a.natAbs : Int) := by
  unfold spec_l03Size.f
  split
  · rw [wrap64_id (by omega) (by omega)]; congr 1; omega
  · congr 1; omega
theorem mx_abs {a : Int} (h0 : -9223372036854775807 ≤ a) (h1 : a ≤ 9223372036854775807) : mx a (wrap64 (-a)) = (a.natAbs : Int) := by
  unfold mx; rw [wrap64_id (by omega) (by omega)]; split <;> omega
theorem tmod_nat (m n : Nat) : Int.tmod (m : Int) (n : Int) = ((m % n : Nat) : Int) := by
  rw [Int.tmod_eq_emod_of_nonneg (by omega)]; exact (Int.natCast_emod m n).symm
theorem specGcd_loop (n : Nat) : ∀ m : Nat, Ev (fun k => spec_l03Common.l0 k (m : Int) (n : Int)) (Nat.gcd m n : Int) := by
  induction n using Nat.strongRecOn with
  | _ n ih =>
    intro m
    refine Ev.step (fun k => by rw [spec_l03Common.l0]) ?_
    by_cases c : n = 0
    · subst c
      refine Ev.congr (fun k => if_pos rfl) ?_
      rw [Nat.gcd_zero_right]; exact Ev.now _
    · refine Ev.congr (fun k => if_neg (by omega)) ?_
      rw [tmod_nat, show Nat.gcd m n = Nat.gcd n (m % n) by rw [Nat.gcd_comm, Nat.gcd_rec, Nat.gcd_comm]]
      exact ih (m % n) (Nat.mod_lt _ (by omega)) n
theorem specGcd_ev {a b : Int} (ha : -9223372036854775807 ≤ a ∧ a ≤ 9223372036854775807) (hb : -9223372036854775807 ≤ b ∧ b ≤ 9223372036854775807) : Ev (fun k => spec_l03Common.f k a b) (Int.gcd a b : Int) := by
  refine Ev.congr (fun k => by unfold spec_l03Common.f; rfl) ?_
  rw [size_is ha.1 ha.2, size_is hb.1 hb.2]
  simp only [Option.bind_some]
  exact specGcd_loop b.natAbs a.natAbs
/-- Whether a ratio is valid. -/
def ratioOk (p q : Int) : Bool := decide (1 ≤ q ∧ q ≤ 2147483648) && (decide (-2147483648 ≤ p ∧ p ≤ 2147483648) && ((Int.gcd p q : Int) == 1))
theorem specRatio_ev (p q : Int) : Ev (fun k => spec_l03Ratio.f k p q) (ratioOk p q) := by
  refine Ev.congr (fun k => by unfold spec_l03Ratio.f; rfl) ?_
  rw [l00In_some, l00In_some]; simp only [Option.bind_some]
  unfold ratioOk
  by_cases c1 : 1 ≤ q ∧ q ≤ 2147483648
  · refine Ev.congr (fun k => if_pos (by simp [c1])) ?_
    rw [decide_eq_true c1, Bool.true_and]
    by_cases c2 : -2147483648 ≤ p ∧ p ≤ 2147483648
    · refine Ev.congr (fun k => if_pos (by simp [c2])) ?_
      rw [decide_eq_true c2, Bool.true_and]
      exact Ev.bind (specGcd_ev (by omega) (by omega)) (Ev.now _)
    · refine Ev.congr (fun k => if_neg (by simp; omega)) ?_
      rw [decide_eq_false c2, Bool.false_and]; exact Ev.now _
  · refine Ev.congr (fun k => if_neg (by simp; omega)) ?_
    rw [decide_eq_false c1, Bool.false_and]; exact Ev.now _
theorem ratioOk_is {p q : Int} (h : ratioOk p q = true) : (1 ≤ q ∧ q ≤ 2147483648) ∧ (-2147483648 ≤ p ∧ p ≤ 2147483648) ∧ Int.gcd p q = 1 := by
  unfold ratioOk at h
  simp only [Bool.and_eq_true, decide_eq_true_iff, beq_iff_eq] at h
  exact ⟨h.1, h.2.1, by omega⟩
theorem implGcd_in (n : Nat) : ∀ (m : Nat) (xs : List Int) (len i : Int) (r : Int), Ev (fun k => impl_common.l0 k (Nat.gcd m n : Int) xs len (wrap64 (i + 1))) r → Ev (fun k => impl_common.l1 k (m : Int) (n : Int) xs len i) r := by
  induction n using Nat.strongRecOn with
  | _ n ih =>
    intro m xs len i r h
    refine Ev.step (fun k => by rw [impl_common.l1]) ?_
    by_cases c : n = 0
    · subst c
      rw [Nat.gcd_zero_right] at h
      exact Ev.congr (fun k => if_pos rfl) h
    · refine Ev.congr (fun k => if_neg (by omega)) ?_
      rw [tmod_nat]
      refine ih (m % n) (Nat.mod_lt _ (by omega)) n xs len i r ?_
      rw [show Nat.gcd n (m % n) = Nat.gcd m n by rw [Nat.gcd_comm, ← Nat.gcd_rec, Nat.gcd_comm]]
      exact h
theorem implGcd_out (xs : List Int) (hn : xs.length ≤ 9) (hx : ∀ j : Nat, j < xs.length → -9223372036854775807 ≤ rd xs j ∧ rd xs j ≤ 9223372036854775807) (i : Nat) (hi : i < xs.length) (m : Nat) (r : Int) (h : Ev (fun k => impl_common.l0 k (Nat.gcd m (rd xs i).natAbs : Int) xs (xs.length : Int) ((i + 1 : Nat) : Int)) r) :
    Ev (fun k => impl_common.l0 k (m : Int) xs (xs.length : Int) (i : Int)) r := by
  refine Ev.step (fun k => by rw [impl_common.l0]) (Ev.congr (fun k => if_pos (by omega)) (Ev.congr (fun k => if_pos (by omega)) (Ev.congr (fun k => if_pos (by omega)) ?_)))
  rw [mx_abs (hx i hi).1 (hx i hi).2]
  refine implGcd_in _ _ _ _ _ _ ?_
  rw [wrap64_id (by omega) (by omega)]
  exact h
theorem implGcd_ev {a b : Int} (ha : -9223372036854775807 ≤ a ∧ a ≤ 9223372036854775807) (hb : -9223372036854775807 ≤ b ∧ b ≤ 9223372036854775807) : Ev (fun k => impl_common.f k [a, b]) (Int.gcd a b : Int) := by
  refine Ev.congr (fun k => by unfold impl_common.f; rfl) ?_
  have hx : ∀ j : Nat, j < [a, b].length → -9223372036854775807 ≤ rd [a, b] j ∧ rd [a, b] j ≤ 9223372036854775807 := by
    intro j hj
    have : j = 0 ∨ j = 1 := by simp at hj; omega
    rcases this with rfl | rfl
    · exact ha
    · exact hb
  refine implGcd_out [a, b] (by simp) hx 0 (by simp) 0 _ (implGcd_out [a, b] (by simp) hx 1 (by simp) _ _ ?_)
  refine Ev.step (fun k => by rw [impl_common.l0]) (Ev.congr (fun k => if_neg (by simp)) ?_)
  rw [Nat.gcd_zero_left]
  exact Ev.now _
theorem implRatio_ev (p q : Int) : Ev (fun k => impl_ValidRatio.f k p q) (ratioOk p q) := by
  refine Ev.congr (fun k => by unfold impl_ValidRatio.f; rfl) ?_
  rw [within_some, within_some]; simp only [Option.bind_some]
  unfold ratioOk
  by_cases c1 : 1 ≤ q ∧ q ≤ 2147483648
  · refine Ev.congr (fun k => if_pos (by simp [c1])) ?_
    rw [decide_eq_true c1, Bool.true_and]
    by_cases c2 : -2147483648 ≤ p ∧ p ≤ 2147483648
    · refine Ev.congr (fun k => if_pos (by simp [c2])) ?_
      rw [decide_eq_true c2, Bool.true_and]
      exact Ev.bind (implGcd_ev (by omega) (by omega)) (Ev.now _)
    · refine Ev.congr (fun k => if_neg (by simp; omega)) ?_
      rw [decide_eq_false c2, Bool.false_and]; exact Ev.now _
  · refine Ev.congr (fun k => if_neg (by simp; omega)) ?_
    rw [decide_eq_false c1, Bool.false_and]; exact Ev.now _
/-- All numbers of a list are digits. -/
def dg (xs : List Int) : Bool := xs.all (fun d => decide (-1 ≤ d ∧ d ≤ 1))
theorem dg_mem {xs : List Int} (h : dg xs = true) : ∀ d ∈ xs, -1 ≤ d ∧ d ≤ 1 := by
  intro d hd
  have := List.all_eq_true.mp h d hd
  simpa using this
theorem dg_step (xs : List Int) (i : Nat) (h : i < xs.length) : dg (xs.drop i) = (decide (-1 ≤ xs[i] ∧ xs[i] ≤ 1) && dg (xs.drop (i + 1))) := by
  unfold dg
  rw [List.drop_eq_getElem_cons h, List.all_cons]
theorem specDigits_loop (xs : List Int) (hn : xs.length ≤ 4611686018427387904) (d : Nat) : ∀ (i k : Nat), i + d = xs.length → d < k → spec_l03Digits.l0 k xs (i : Int) = some (dg (xs.drop i)) := by
  induction d with
  | zero =>
    intro i k hd hk
    obtain ⟨k, rfl⟩ : ∃ m, k = m + 1 := ⟨k - 1, by omega⟩
    simp only [spec_l03Digits.l0]; rw [if_neg (by omega), List.drop_of_length_le (by omega)]; rfl
  | succ d ih =>
    intro i k hd hk
    obtain ⟨k, rfl⟩ : ∃ m, k = m + 1 := ⟨k - 1, by omega⟩
    have hi : i < xs.length := by omega
    simp only [spec_l03Digits.l0]; rw [if_pos (by omega), if_pos (by omega), rd_get _ _ hi, wrap64_id (by omega) (by omega), dg_step _ _ hi]
    have := ih (i + 1) k (by omega) (by omega)
    by_cases c1 : xs[i] < -1
    · rw [if_pos c1, decide_eq_false (by omega)]; rfl
    · by_cases c2 : xs[i] > 1
      · rw [if_neg c1, if_pos c2, decide_eq_false (by omega)]; rfl
      · rw [if_neg c1, if_neg c2, decide_eq_true (by omega)]; exact this
theorem specDigits_ev (xs : List Int) (hn : xs.length ≤ 4611686018427387904) : Ev (fun k => spec_l03Digits.f k xs) (dg xs) := by
  refine ⟨xs.length + 1, fun k hk => ?_⟩
  have := specDigits_loop xs hn xs.length 0 k (by omega) (by omega)
  exact this
theorem implDigits_loop (xs : List Int) (hn : xs.length ≤ 4611686018427387904) (d : Nat) : ∀ (i : Nat), i + d = xs.length → ∃ r : Int, decide (r ≥ 0) = !dg (xs.drop i) ∧ ∀ k, d < k → slices_IndexFunc_int8_int8_f84.l0 k xs (xs.length : Int) (i : Int) = some r := by
  induction d with
  | zero =>
    intro i hd
    refine ⟨-1, by rw [List.drop_of_length_le (by omega)]; rfl, fun k hk => ?_⟩
    obtain ⟨k, rfl⟩ : ∃ m, k = m + 1 := ⟨k - 1, by omega⟩
    simp only [slices_IndexFunc_int8_int8_f84.l0]; rw [if_neg (by omega)]
  | succ d ih =>
    intro i hd
    have hi : i < xs.length := by omega
    have hs : ∀ z : Int, impl_digitsOk_1.f z = some (!decide (-1 ≤ z ∧ z ≤ 1)) := by
      intro z; unfold impl_digitsOk_1.f impl_isDigit.f; split <;> simp <;> omega
    obtain ⟨r, hr, h⟩ := ih (i + 1) (by omega)
    by_cases c : -1 ≤ xs[i] ∧ xs[i] ≤ 1
    · refine ⟨r, by rw [hr, dg_step _ _ hi, decide_eq_true c]; rfl, fun k hk => ?_⟩
      obtain ⟨k, rfl⟩ : ∃ m, k = m + 1 := ⟨k - 1, by omega⟩
      simp only [slices_IndexFunc_int8_int8_f84.l0]
      rw [if_pos (by omega), if_pos (by omega), if_pos (by omega), hs, rd_get _ _ hi, decide_eq_true c, wrap64_id (by omega) (by omega)]
      exact h k (by omega)
    · refine ⟨(i : Int), by rw [dg_step _ _ hi, decide_eq_false c]; simp, fun k hk => ?_⟩
      obtain ⟨k, rfl⟩ : ∃ m, k = m + 1 := ⟨k - 1, by omega⟩
      simp only [slices_IndexFunc_int8_int8_f84.l0]
      rw [if_pos (by omega), if_pos (by omega), if_pos (by omega), hs, rd_get _ _ hi, decide_eq_false c]; rfl
theorem implDigits_ev (xs : List Int) (hn : xs.length ≤ 4611686018427387904) : Ev (fun k => impl_digitsOk.f k xs) (dg xs) := by
  obtain ⟨r, hr, h⟩ := implDigits_loop xs hn xs.length 0 (by omega)
  refine ⟨xs.length + 1, fun k hk => ?_⟩
  have e : slices_IndexFunc_int8_int8_f84.l0 k xs (xs.length : Int) 0 = some r := h k (by omega)
  show impl_digitsOk.f k xs = some (dg xs)
  unfold impl_digitsOk.f slices_ContainsFunc_int8_int8_f84.f slices_IndexFunc_int8_int8_f84.f
  simp only [e, Option.bind_some, hr]; simp
theorem eqInt8S_loop (xs : List Int) (hn : xs.length ≤ 4611686018427387904) (d : Nat) : ∀ (i : Nat) (k : Nat), i + d = xs.length → d < k → laws_eqInt8S.l0 k xs xs (i : Int) = some true := by
  induction d with
  | zero =>
    intro i k hd hk
    obtain ⟨k, rfl⟩ : ∃ m, k = m + 1 := ⟨k - 1, by omega⟩
    simp only [laws_eqInt8S.l0]; rw [if_neg (by omega)]
  | succ d ih =>
    intro i k hd hk
    obtain ⟨k, rfl⟩ : ∃ m, k = m + 1 := ⟨k - 1, by omega⟩
    simp only [laws_eqInt8S.l0]; rw [if_pos (by omega), if_pos (by omega), if_pos (by omega), if_pos trivial, wrap64_id (by omega) (by omega)]
    exact ih (i + 1) k (by omega) (by omega)
theorem eqInt8S_ev (xs : List Int) (hn : xs.length ≤ 4611686018427387904) : Ev (fun k => laws_eqInt8S.f k xs xs) true := by
  refine ⟨xs.length + 1, fun k hk => ?_⟩
  show laws_eqInt8S.f k xs xs = some true
  unfold laws_eqInt8S.f
  rw [if_pos rfl]
  exact eqInt8S_loop xs hn xs.length 0 k (by omega) (by omega)
/-- A list of int8 that has been marked, from a number on. -/
def marked8 (n : Nat) (a : Int) : List Int := (List.range n).map (fun j : Nat => IntKind.i8.wrap (a + (j : Int)))
theorem markInt8S_loop (d : Nat) : ∀ (i : Nat) (xs : List Int) (a : Int) (k : Nat), 0 ≤ a → a + xs.length ≤ 4611686018427387904 → i + d = xs.length → (∀ j, j < i → xs.getD j 0 = IntKind.i8.wrap (a + j)) → d < k → laws_markInt8S.l0 k xs (a + i) (i : Int) = some (a + xs.length, marked8 xs.length a) := by
  induction d with
  | zero =>
    intro i xs a k h0 ha hd hj hk
    obtain ⟨k, rfl⟩ : ∃ m, k = m + 1 := ⟨k - 1, by omega⟩
    simp only [laws_markInt8S.l0]; rw [if_neg (by omega)]
    have e : xs = marked8 xs.length a := by
      apply List.ext_getElem (by simp [marked8])
      intro j h1 h2
      have := hj j (by omega)
      simpa [marked8, List.getD_eq_getElem?_getD, List.getElem?_eq_getElem, h1, h2] using this
    rw [← e, show i = xs.length by omega]
  | succ d ih =>
    intro i xs a k h0 ha hd hj hk
    obtain ⟨k, rfl⟩ : ∃ m, k = m + 1 := ⟨k - 1, by omega⟩
    simp only [laws_markInt8S.l0]; rw [if_pos (by omega), if_pos (by omega), wrap64_id (n := a + i + 1) (by omega) (by omega), wrap64_id (n := (i : Int) + 1) (by omega) (by omega)]
    have := ih (i + 1) (xs.set i (IntKind.i8.wrap (a + i))) a k h0 (by simpa using ha) (by simp; omega) ?_ (by omega)
    · simpa [Int.add_assoc] using this
    · intro j hji
      have hjl : j < xs.length := by omega
      by_cases e : j = i
      · subst e; simp [List.getD_eq_getElem?_getD, hjl]
      · have e' : ¬ i = j := fun h => e h.symm
        have := hj j (by omega)
        simpa [List.getD_eq_getElem?_getD, List.getElem?_set, e'] using this
theorem markInt8S_ev (xs : List Int) (a : Int) (h0 : 0 ≤ a) (ha : a + xs.length ≤ 4611686018427387904) : Ev (fun k => laws_markInt8S.f k xs a) (a + xs.length, marked8 xs.length a) := by
  refine ⟨xs.length + 1, fun k hk => ?_⟩
  show laws_markInt8S.f k xs a = _
  unfold laws_markInt8S.f
  have := markInt8S_loop xs.length 0 xs a k h0 ha (by omega) (fun j h => by omega) (by omega)
  simpa using this
theorem heldInt8S_loop (n : Nat) (a : Int) (h0 : 0 ≤ a) (ha : a + n ≤ 4611686018427387904) (d : Nat) : ∀ (i : Nat) (k : Nat), i + d = n → d < k → laws_heldInt8S.l0 k (marked8 n a) (a + i) (i : Int) = some (a + n) := by
  have hl : (marked8 n a).length = n := by simp [marked8]
  induction d with
  | zero =>
    intro i k hd hk
    obtain ⟨k, rfl⟩ : ∃ m, k = m + 1 := ⟨k - 1, by omega⟩
    simp only [laws_heldInt8S.l0]; rw [if_neg (by omega), show i = n by omega]
  | succ d ih =>
    intro i k hd hk
    obtain ⟨k, rfl⟩ : ∃ m, k = m + 1 := ⟨k - 1, by omega⟩
    simp only [laws_heldInt8S.l0]; rw [if_pos (by omega), if_pos (by omega), if_pos ?_, wrap64_id (by omega) (by omega), wrap64_id (by omega) (by omega)]
    · have := ih (i + 1) k (by omega) (by omega)
      simpa [Int.add_assoc] using this
    · have hi : i < n := by omega
      rw [rd_nat]; simp [marked8, List.getD_eq_getElem?_getD, hi]
theorem heldInt8S_ev (n : Nat) (a : Int) (h0 : 0 ≤ a) (ha : a + n ≤ 4611686018427387904) : Ev (fun k => laws_heldInt8S.f k (marked8 n a) a) (a + n) := by
  refine ⟨n + 1, fun k hk => ?_⟩
  show laws_heldInt8S.f k _ a = _
  unfold laws_heldInt8S.f
  have := heldInt8S_loop n a h0 ha n 0 k (by omega) (by omega)
  simpa using this
/-- A valid stream. -/
def okS (h l : List Int) : Bool := decide (h.length ≤ 16) && (decide (1 ≤ l.length ∧ l.length ≤ 14) && (dg h && dg l))
theorem specOk_ev (h l : List Int) (h1 : h.length ≤ 1048576) (h2 : l.length ≤ 1048576) : Ev (fun k => spec_l03Ok.f k h l) (okS h l) := by
  unfold okS
  by_cases c : (h.length : Int) ≤ 16
  · refine Ev.congr (fun k => by unfold spec_l03Ok.f; exact if_pos c) ?_
    rw [decide_eq_true (show h.length ≤ 16 by omega)]
    simp only [l00In_some, Option.bind_some, Bool.true_and]
    by_cases c2 : 1 ≤ l.length ∧ l.length ≤ 14
    · refine Ev.congr (fun k => if_pos (by simp; omega)) ?_
      rw [decide_eq_true c2, Bool.true_and]
      refine Ev.bind (specDigits_ev h (by omega)) ?_
      cases dg h with
      | false => exact Ev.now _
      | true =>
        refine Ev.congr (fun k => if_pos rfl) ?_
        refine Ev.bind (specDigits_ev l (by omega)) ?_
        rw [Bool.true_and]; exact Ev.now _
    · refine Ev.congr (fun k => if_neg (by simp; omega)) ?_
      rw [decide_eq_false c2]; exact Ev.now _
  · refine Ev.congr (fun k => by unfold spec_l03Ok.f; exact if_neg c) ?_
    rw [decide_eq_false (show ¬ h.length ≤ 16 by omega)]; exact Ev.now _
theorem implOk_ev (h l : List Int) (h1 : h.length ≤ 1048576) (h2 : l.length ≤ 1048576) : Ev (fun k => impl_ValidStream.f k h l) (okS h l) := by
  unfold okS
  by_cases c : (h.length : Int) ≤ 16
  · refine Ev.congr (fun k => by unfold impl_ValidStream.f; exact if_pos c) ?_
    rw [decide_eq_true (show h.length ≤ 16 by omega)]
    simp only [Bool.true_and]
    by_cases c2 : (l.length : Int) ≥ 1
    · refine Ev.congr (fun k => if_pos c2) ?_
      by_cases c3 : (l.length : Int) ≤ 14
      · refine Ev.congr (fun k => if_pos c3) ?_
        rw [decide_eq_true (⟨by omega, by omega⟩ : 1 ≤ l.length ∧ l.length ≤ 14), Bool.true_and]
        refine Ev.bind (implDigits_ev h (by omega)) ?_
        cases dg h with
        | false => exact Ev.now _
        | true =>
          refine Ev.congr (fun k => if_pos rfl) ?_
          refine Ev.bind (implDigits_ev l (by omega)) ?_
          rw [Bool.true_and]; exact Ev.now _
      · refine Ev.congr (fun k => if_neg c3) ?_
        rw [decide_eq_false (by omega)]; exact Ev.now _
    · refine Ev.congr (fun k => if_neg c2) ?_
      rw [decide_eq_false (by omega)]; exact Ev.now _
  · refine Ev.congr (fun k => by unfold impl_ValidStream.f; exact if_neg c) ?_
    rw [decide_eq_false (show ¬ h.length ≤ 16 by omega)]; exact Ev.now _
theorem okS_is {h l : List Int} (k : okS h l = true) : h.length ≤ 16 ∧ (1 ≤ l.length ∧ l.length ≤ 14) ∧ dg h = true ∧ dg l = true := by
  unfold okS at k
  simp only [Bool.and_eq_true, decide_eq_true_eq] at k
  exact ⟨k.1, k.2.1, k.2.2.1, k.2.2.2⟩
theorem clone_is (l : List Int) (hl : l.length ≤ 1048576) : slices_Clone_int8_int8.f l = some l := by
  unfold slices_Clone_int8_int8.f
  simp only [Option.bind_some, List.length_nil, List.nil_append]
  rw [if_pos (by omega)]
/-- The next digit of a ratio's stream. -/
def sd (x q : Int) : Int := if q ≤ 2 * x then 1 else if 2 * x ≤ -q then -1 else 0
theorem spec_next (xs ds : List Int) (x p q : Int) (hq : 1 ≤ q ∧ q ≤ 2147483648) (hx : -q ≤ x ∧ x ≤ q) (hl : xs.length ≤ 31) (hd : ds.length ≤ 31) : ∀ k, spec_StreamOf.l1 (k + 1) xs ds x (xs.length : Int) p q = spec_StreamOf.l0 k (xs ++ [x]) (ds ++ [sd x q]) (2 * x - sd x q * q) p q := by
  intro k
  have w1 : wrap64 (2 * x) = 2 * x := wrap64_id (by omega) (by omega)
  have w2 : wrap64 (-q) = -q := wrap64_id (by omega) (by omega)
  have w3 : wrap64 ((-1) * q) = -q := by rw [wrap64_id (by omega) (by omega)]; omega
  have w4 : wrap64 (1 * q) = q := by rw [wrap64_id (by omega) (by omega)]; omega
  have w5 : wrap64 (0 * q) = 0 := by rw [wrap64_id (by omega) (by omega)]; omega
  rw [spec_StreamOf.l1, if_neg (by omega), if_pos (by omega)]
  simp only [Option.bind_some, w1, w2, w3, w4, w5]
  unfold sd
  by_cases c1 : q ≤ 2 * x
  · rw [if_pos (show 2 * x ≥ q from c1), if_neg (by omega), if_pos (by omega), if_pos c1, wrap64_id (by omega) (by omega), Int.one_mul]
  · rw [if_neg (show ¬ 2 * x ≥ q from c1), if_neg c1]
    by_cases c2 : 2 * x ≤ -q
    · rw [if_pos c2, if_pos (by omega), if_pos c2, wrap64_id (by omega) (by omega), show -1 * q = -q by omega]
    · rw [if_neg c2, if_pos (by omega), if_neg c2, wrap64_id (by omega) (by omega), Int.zero_mul]
theorem spec_skip (xs ds : List Int) (x p q : Int) (hl : xs.length ≤ 31) (r : List Int × List Int × Int) (d : Nat) : ∀ i j : Nat, i + d = j → j ≤ xs.length → (∀ m : Nat, i ≤ m → m < j → rd xs (m : Int) ≠ x) → Ev (fun k => spec_StreamOf.l1 k xs ds x (j : Int) p q) r → Ev (fun k => spec_StreamOf.l1 k xs ds x (i : Int) p q) r := by
  induction d with
  | zero => intro i j h _ _ hr; obtain rfl : i = j := by omega
            exact hr
  | succ d ih =>
    intro i j h hj hm hr
    refine Ev.step (fun k => by rw [spec_StreamOf.l1, if_pos (by omega), if_pos (by omega), if_neg (hm i (Nat.le_refl _) (by omega)), wrap64_id (n := (i : Int) + 1) (by omega) (by omega), show (i : Int) + 1 = ((i + 1 : Nat) : Int) from rfl]) ?_
    exact ih (i + 1) j (by omega) hj (fun m h1 h2 => hm m (by omega) h2) hr
theorem index_loop (xs : List Int) (x : Int) (hl : xs.length ≤ 31) (d : Nat) : ∀ i : Nat, i + d = xs.length → (∀ m : Nat, m < i → rd xs (m : Int) ≠ x) →
    (∃ j : Nat, j < xs.length ∧ rd xs (j : Int) = x ∧ (∀ m : Nat, m < j → rd xs (m : Int) ≠ x) ∧ ∀ k, d < k → slices_Index_int64_int64.l0 k xs x (xs.length : Int) (i : Int) = some (j : Int)) ∨
    ((∀ m : Nat, m < xs.length → rd xs (m : Int) ≠ x) ∧ ∀ k, d < k → slices_Index_int64_int64.l0 k xs x (xs.length : Int) (i : Int) = some (-1)) := by
  induction d with
  | zero =>
    intro i hi hm
    refine Or.inr ⟨fun m h => hm m (by omega), fun k hk => ?_⟩
    obtain ⟨k, rfl⟩ : ∃ m, k = m + 1 := ⟨k - 1, by omega⟩
    rw [slices_Index_int64_int64.l0, if_neg (by omega)]
  | succ d ih =>
    intro i hi hm
    by_cases c : x = rd xs (i : Int)
    · refine Or.inl ⟨i, by omega, c.symm, hm, fun k hk => ?_⟩
      obtain ⟨k, rfl⟩ : ∃ m, k = m + 1 := ⟨k - 1, by omega⟩
      rw [slices_Index_int64_int64.l0, if_pos (by omega), if_pos (by omega), if_pos (by omega), if_pos c]
    · have hs : ∀ k, slices_Index_int64_int64.l0 (k + 1) xs x (xs.length : Int) (i : Int) = slices_Index_int64_int64.l0 k xs x (xs.length : Int) ((i + 1 : Nat) : Int) := by
        intro k
        rw [slices_Index_int64_int64.l0, if_pos (by omega), if_pos (by omega), if_pos (by omega), if_neg c, wrap64_id (by omega) (by omega)]; rfl
      have hm2 : ∀ m : Nat, m < i + 1 → rd xs (m : Int) ≠ x := by
        intro m h
        by_cases e : m = i
        · subst e; exact fun z => c z.symm
        · exact hm m (by omega)
      rcases ih (i + 1) (by omega) hm2 with ⟨j, j1, j2, j3, hj⟩ | ⟨h1, hj⟩
      · refine Or.inl ⟨j, j1, j2, j3, fun k hk => ?_⟩
        obtain ⟨k, rfl⟩ : ∃ m, k = m + 1 := ⟨k - 1, by omega⟩
        rw [hs]; exact hj k (by omega)
      · refine Or.inr ⟨h1, fun k hk => ?_⟩
        obtain ⟨k, rfl⟩ : ∃ m, k = m + 1 := ⟨k - 1, by omega⟩
        rw [hs]; exact hj k (by omega)
theorem index_ev (xs : List Int) (x : Int) (hl : xs.length ≤ 31) :
    (∃ j : Nat, j < xs.length ∧ rd xs (j : Int) = x ∧ (∀ m : Nat, m < j → rd xs (m : Int) ≠ x) ∧ Ev (fun k => slices_Index_int64_int64.f k xs x) (j : Int)) ∨
    ((∀ m : Nat, m < xs.length → rd xs (m : Int) ≠ x) ∧ Ev (fun k => slices_Index_int64_int64.f k xs x) (-1 : Int)) := by
  rcases index_loop xs x hl xs.length 0 (by omega) (fun m h => by omega) with ⟨j, j1, j2, j3, hj⟩ | ⟨h1, hj⟩
  · exact Or.inl ⟨j, j1, j2, j3, ⟨xs.length + 1, fun k hk => hj k (by omega)⟩⟩
  · exact Or.inr ⟨h1, ⟨xs.length + 1, fun k hk => hj k (by omega)⟩⟩
/-- What both say where a rest comes back. -/
def cutS (ds : List Int) (j : Nat) : List Int × List Int × Int := if okS (ds.take j) (ds.drop j) = true then (ds.take j, ds.drop j, 0) else ([], [], 3)
theorem spec_found (xs ds : List Int) (x p q : Int) (hd : ds.length ≤ 31) (he : xs.length = ds.length) (j : Nat) (hj : j < xs.length) (hx : rd xs (j : Int) = x) : Ev (fun k => spec_StreamOf.l1 k xs ds x (j : Int) p q) (cutS ds j) := by
  refine Ev.step (fun k => by rw [spec_StreamOf.l1, if_pos (by omega), if_pos (by omega), if_pos hx]) ?_
  simp only [Option.bind_some, List.length_nil, List.nil_append, Int.toNat_natCast]
  refine Ev.congr (fun k => if_pos (by omega)) ?_
  refine Ev.congr (fun k => if_pos (by simp; omega)) ?_
  refine Ev.congr (fun k => if_pos (by simp; omega)) ?_
  refine Ev.bind (specOk_ev (ds.take j) (ds.drop j) (by simp; omega) (by simp; omega)) ?_
  unfold cutS
  cases okS (ds.take j) (ds.drop j) with
  | true => exact Ev.now _
  | false => exact Ev.now _
theorem impl_found (xs ds : List Int) (x p q : Int) (hd : ds.length ≤ 30) (he : xs.length = ds.length) (j : Nat) (hj : j < xs.length) (hi : Ev (fun k => slices_Index_int64_int64.f k xs x) (j : Int)) : Ev (fun k => impl_StreamOf.l0 k xs ds x p q) (cutS ds j) := by
  refine Ev.step (fun k => by rw [impl_StreamOf.l0, if_pos (by omega)]) ?_
  refine Ev.bind hi ?_
  refine Ev.congr (fun k => if_pos (by omega)) ?_
  refine Ev.congr (fun k => if_pos (by omega)) ?_
  refine Ev.congr (fun k => if_pos (by omega)) ?_
  simp only [Int.toNat_natCast]
  rw [clone_is _ (by simp; omega), clone_is _ (by simp; omega)]
  simp only [Option.bind_some]
  refine Ev.bind (implOk_ev (ds.take j) (ds.drop j) (by simp; omega) (by simp; omega)) ?_
  unfold cutS
  cases okS (ds.take j) (ds.drop j) with
  | true => exact Ev.now _
  | false => exact Ev.now _
theorem impl_next (xs ds : List Int) (x p q : Int) (hq : 1 ≤ q ∧ q ≤ 2147483648) (hx : -q ≤ x ∧ x ≤ q) (hl : xs.length ≤ 30) (hd : ds.length ≤ 30) (hi : Ev (fun k => slices_Index_int64_int64.f k xs x) (-1 : Int)) (r : List Int × List Int × Int) (hr : Ev (fun k => impl_StreamOf.l0 k (xs ++ [x]) (ds ++ [sd x q]) (2 * x - sd x q * q) p q) r) : Ev (fun k => impl_StreamOf.l0 k xs ds x p q) r := by
  have w1 : wrap64 (2 * x) = 2 * x := wrap64_id (by omega) (by omega)
  have w2 : wrap64 (-q) = -q := wrap64_id (by omega) (by omega)
  have w3 : wrap64 ((-1) * q) = -q := by rw [wrap64_id (by omega) (by omega)]; omega
  have w4 : wrap64 (1 * q) = q := by rw [wrap64_id (by omega) (by omega)]; omega
  have w5 : wrap64 (0 * q) = 0 := by rw [wrap64_id (by omega) (by omega)]; omega
  refine Ev.step (fun k => by rw [impl_StreamOf.l0, if_pos (by omega)]) ?_
  refine Ev.bind hi ?_
  refine Ev.congr (fun k => if_neg (by omega)) ?_
  refine Ev.congr (fun k => if_pos (by omega)) ?_
  simp only [Option.bind_some, w1, w2, w3, w4, w5]
  unfold sd at hr
  by_cases c1 : q ≤ 2 * x
  · rw [if_pos c1, Int.one_mul] at hr
    refine Ev.congr (fun k => if_pos c1) ?_
    refine Ev.congr (fun k => if_pos (by omega)) ?_
    rw [wrap64_id (by omega) (by omega)]; exact hr
  · rw [if_neg c1] at hr
    refine Ev.congr (fun k => if_neg c1) ?_
    by_cases c2 : 2 * x ≤ -q
    · rw [if_pos c2, show -1 * q = -q by omega] at hr
      refine Ev.congr (fun k => if_pos c2) ?_
      refine Ev.congr (fun k => if_pos (by omega)) ?_
      rw [wrap64_id (by omega) (by omega)]; exact hr
    · rw [if_neg c2, Int.zero_mul] at hr
      refine Ev.congr (fun k => if_neg c2) ?_
      refine Ev.congr (fun k => if_pos (by omega)) ?_
      rw [wrap64_id (by omega) (by omega)]; exact hr
theorem sd_bd (x q : Int) (hq : 1 ≤ q) (hx : -q ≤ x ∧ x ≤ q) : -q ≤ 2 * x - sd x q * q ∧ 2 * x - sd x q * q ≤ q := by
  unfold sd
  split
  · omega
  · split
    · omega
    · omega
theorem cutS_len (ds : List Int) (j : Nat) (h : ds.length ≤ 31) : (cutS ds j).1.length ≤ 1048576 ∧ (cutS ds j).2.1.length ≤ 1048576 := by
  unfold cutS
  split
  · constructor
    · simp; omega
    · simp; omega
  · simp
theorem both_loop (p q : Int) (hq : 1 ≤ q ∧ q ≤ 2147483648) (d : Nat) : ∀ (n : Nat) (xs ds : List Int) (x : Int), n + d = 31 → xs.length = n → ds.length = n → (-q ≤ x ∧ x ≤ q) → ∃ r : List Int × List Int × Int, (r.1.length ≤ 1048576 ∧ r.2.1.length ≤ 1048576) ∧ Ev (fun k => spec_StreamOf.l0 k xs ds x p q) r ∧ Ev (fun k => impl_StreamOf.l0 k xs ds x p q) r := by
  induction d with
  | zero =>
    intro n xs ds x hn h1 h2 hx
    refine ⟨([], [], 3), by simp, ?_, ?_⟩
    · exact Ev.step (fun k => by rw [spec_StreamOf.l0, if_neg (by omega)]) (Ev.now _)
    · exact Ev.step (fun k => by rw [impl_StreamOf.l0, if_neg (by omega)]) (Ev.now _)
  | succ d ih =>
    intro n xs ds x hn h1 h2 hx
    rcases index_ev xs x (by omega) with ⟨j, j1, j2, j3, hj⟩ | ⟨h3, hj⟩
    · refine ⟨cutS ds j, cutS_len ds j (by omega), ?_, impl_found xs ds x p q (by omega) (by omega) j j1 hj⟩
      refine Ev.step (fun k => by rw [spec_StreamOf.l0, if_pos (by omega)]) ?_
      exact spec_skip xs ds x p q (by omega) _ j 0 j (by omega) (by omega) (fun m _ h => j3 m h) (spec_found xs ds x p q (by omega) (by omega) j j1 j2)
    · obtain ⟨r, hr, es, ei⟩ := ih (n + 1) (xs ++ [x]) (ds ++ [sd x q]) (2 * x - sd x q * q) (by omega) (by simp; omega) (by simp; omega) (sd_bd x q hq.1 hx)
      refine ⟨r, hr, ?_, impl_next xs ds x p q hq hx (by omega) (by omega) hj r ei⟩
      refine Ev.step (fun k => by rw [spec_StreamOf.l0, if_pos (by omega)]) ?_
      refine spec_skip xs ds x p q (by omega) _ xs.length 0 xs.length (by omega) (by omega) (fun m _ h => h3 m h) ?_
      exact Ev.step (spec_next xs ds x p q hq hx (by omega) (by omega)) es
theorem streamOf_both (p q : Int) : ∃ r : List Int × List Int × Int, (r.1.length ≤ 1048576 ∧ r.2.1.length ≤ 1048576) ∧ Ev (fun k => spec_StreamOf.f k p q) r ∧ Ev (fun k => impl_StreamOf.f k p q) r := by
  cases c : ratioOk p q with
  | false =>
    refine ⟨([], [], 1), by simp, ?_, ?_⟩
    · refine Ev.congr (fun k => by unfold spec_StreamOf.f; rfl) (Ev.bind (specRatio_ev p q) ?_)
      rw [c]; exact Ev.now _
    · refine Ev.congr (fun k => by unfold impl_StreamOf.f; rfl) (Ev.bind (implRatio_ev p q) ?_)
      rw [c]; exact Ev.now _
  | true =>
    obtain ⟨hq, hp, _⟩ := ratioOk_is c
    have w : wrap64 (-q) = -q := wrap64_id (by omega) (by omega)
    by_cases c2 : -q ≤ p ∧ p ≤ q
    · obtain ⟨r, hr, es, ei⟩ := both_loop p q hq 31 0 [] [] p (by omega) rfl rfl c2
      refine ⟨r, hr, ?_, ?_⟩
      · refine Ev.congr (fun k => by unfold spec_StreamOf.f; rfl) (Ev.bind (specRatio_ev p q) ?_)
        rw [c, size_is (by omega) (by omega)]
        refine Ev.congr (fun k => if_pos rfl) ?_
        simp only [Option.bind_some]
        exact Ev.congr (fun k => if_neg (by omega)) es
      · refine Ev.congr (fun k => by unfold impl_StreamOf.f; rfl) (Ev.bind (implRatio_ev p q) ?_)
        rw [c]
        refine Ev.congr (fun k => if_pos rfl) ?_
        refine Ev.congr (fun k => if_neg (by omega)) ?_
        rw [w, decide_eq_false (by omega)]
        exact Ev.step (fun k => by rw [impl_StreamOf.j0, if_neg (by decide)]) ei
    · refine ⟨([], [], 2), by simp, ?_, ?_⟩
      · refine Ev.congr (fun k => by unfold spec_StreamOf.f; rfl) (Ev.bind (specRatio_ev p q) ?_)
        rw [c, size_is (by omega) (by omega)]
        refine Ev.congr (fun k => if_pos rfl) ?_
        simp only [Option.bind_some]
        exact Ev.congr (fun k => if_pos (by omega)) (Ev.now _)
      · refine Ev.congr (fun k => by unfold impl_StreamOf.f; rfl) (Ev.bind (implRatio_ev p q) ?_)
        rw [c]
        refine Ev.congr (fun k => if_pos rfl) ?_
        by_cases c3 : p > q
        · refine Ev.congr (fun k => if_pos c3) ?_
          exact Ev.step (fun k => by rw [impl_StreamOf.j0, if_pos rfl]) (Ev.now _)
        · refine Ev.congr (fun k => if_neg c3) ?_
          rw [w, decide_eq_true (by omega)]
          exact Ev.step (fun k => by rw [impl_StreamOf.j0, if_pos rfl]) (Ev.now _)
theorem markStream_ev (h l : List Int) (h1 : h.length ≤ 1048576) (h2 : l.length ≤ 1048576) : Ev (fun k => laws_markStream.f k h l 1) (1 + h.length + l.length, marked8 h.length 1, marked8 l.length (1 + h.length)) := by
  unfold laws_markStream.f
  exact Ev.bind (markInt8S_ev h 1 (by omega) (by omega)) (Ev.bind (markInt8S_ev l (1 + h.length) (by omega) (by omega)) (Ev.now _))
theorem heldStream_ev (m n : Nat) (h1 : m ≤ 1048576) (h2 : n ≤ 1048576) : Ev (fun k => laws_heldStream.f k (marked8 m 1) (marked8 n (1 + m)) 1) (1 + m + n) := by
  unfold laws_heldStream.f
  refine Ev.bind (heldInt8S_ev m 1 (by omega) (by omega)) (Ev.congr (fun k => if_neg (by omega)) ?_)
  exact Ev.bind (heldInt8S_ev n (1 + m) (by omega) (by omega)) (Ev.congr (fun k => if_neg (by omega)) (Ev.now _))
theorem eqStream_ev (h l : List Int) (h1 : h.length ≤ 1048576) (h2 : l.length ≤ 1048576) : Ev (fun k => laws_eqStream.f k h l h l) true := by
  unfold laws_eqStream.f
  refine Ev.bind (eqInt8S_ev h (by omega)) (Ev.congr (fun k => if_pos rfl) ?_)
  exact Ev.bind (eqInt8S_ev l (by omega)) (Ev.congr (fun k => if_pos rfl) (Ev.now _))
theorem FnExactStreamOf : laws_FnExactStreamOf.Pure := by
  intro x _
  obtain ⟨p, q⟩ := x
  apply Ev.rounds (r := true)
  refine Ev.congr (fun k => by unfold laws_FnExactStreamOf.f; rfl) ?_
  obtain ⟨⟨q1, q2, q3⟩, ⟨m1, m2⟩, es, ei⟩ := streamOf_both p q
  simp only at m1 m2
  repeat' (first
    | (refine Ev.bind (show Ev (fun _ => laws_toRatio.f p q) (p, q) from Ev.now _) ?_; try dsimp only)
    | (refine Ev.bind es ?_; try dsimp only)
    | (refine Ev.bind ei ?_; try dsimp only)
    | (refine Ev.bind (eqStream_ev _ _ (by omega) (by omega)) ?_; try dsimp only)
    | (refine Ev.bind (markStream_ev _ _ (by omega) (by omega)) ?_; try dsimp only)
    | (refine Ev.bind (heldStream_ev _ _ (by omega) (by omega)) ?_; try dsimp only)
    | exact ⟨0, fun k _ => rfl⟩
    | (refine Ev.congr (fun k => if_pos rfl) ?_; try dsimp only)
    | (refine Ev.congr (fun k => if_neg (by simp; done)) ?_; try dsimp only)
    | (refine Ev.congr (fun k => if_neg (by omega)) ?_; try dsimp only)
    | (refine Ev.congr (fun k => if_pos (by simp; done)) ?_; try dsimp only)
    | (refine Ev.congr (fun k => if_pos (by omega)) ?_; try dsimp only)
    | (refine Ev.step (fun k => by rw [laws_FnExactStreamOf.j0]) ?_; try dsimp only)
    | (refine Ev.step (fun k => by rw [laws_FnExactStreamOf.j1]) ?_; try dsimp only)
    )
end Go.Proofs.Ytfenifdigjcmiaa.Pure
