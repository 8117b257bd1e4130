/- The program's NormalStream returns what the reference's returns, for every stream, in memory of its own. -/
import Derived.Test.YtfenifdigjcmiaaMFnExactNormalStreamx6
import Derived.Test.YtfenifdigjcmiaaMOpen
namespace Go.Proofs.Ytfenifdigjcmiaa.Pure
open Go.RowKit Go.Proofs.Ytfenifdigjcmiaa.MFnExactNormalStream Go.Proofs.Ytfenifdigjcmiaa.MOpen Go.Proofs.YtfenifdigjcmiaaW.PrintWords Go.Proofs.YtfenifdigjcmiaaW.PrintLast Go.Proofs.YtfenifdigjcmiaaW.PrintMore
set_option linter.unusedVariables false
set_option linter.unusedSimpArgs false
theorem wrap64_id {n : Int} (h0 : -9223372036854775808 ≤ n) (h1 : n ≤ 9223372036854775807) : wrap64 n = n := by
  unfold wrap64; omega
theorem rd_nat (xs : List Int) (i : Nat) : rd xs (i : Int) = xs.getD i 0 := by simp [rd]
theorem rd_get (xs : List Int) (i : Nat) (h : i < xs.length) : rd xs (i : Int) = xs[i] := by simp [rd, h]
theorem ev_k {α : Type} {f : Nat → Option α} {r : α} (n : Nat) (h : ∀ k, n ≤ k → f k = some r) : Ev f r := ⟨n, h⟩
/-- All numbers of a list are digits. -/
def dg (xs : List Int) : Bool := xs.all (fun d => decide (-1 ≤ d ∧ d ≤ 1))
theorem dg_mem {xs : List Int} (h : dg xs = true) : ∀ d ∈ xs, -1 ≤ d ∧ d ≤ 1 := by
  intro d hd
  have := List.all_eq_true.mp h d hd
  simpa using this
theorem dg_step (xs : List Int) (i : Nat) (h : i < xs.length) : dg (xs.drop i) = (decide (-1 ≤ xs[i] ∧ xs[i] ≤ 1) && dg (xs.drop (i + 1))) := by
  unfold dg
  rw [List.drop_eq_getElem_cons h, List.all_cons]
theorem specDigits_loop (xs : List Int) (hn : xs.length ≤ 4611686018427387904) (d : Nat) : ∀ (i k : Nat), i + d = xs.length → d < k → spec_l03Digits.l0 k xs (i : Int) = some (dg (xs.drop i)) := by
  induction d with
  | zero =>
    intro i k hd hk
    obtain ⟨k, rfl⟩ : ∃ m, k = m + 1 := ⟨k - 1, by omega⟩
    simp only [spec_l03Digits.l0]; rw [if_neg (by omega), List.drop_of_length_le (by omega)]; rfl
  | succ d ih =>
    intro i k hd hk
    obtain ⟨k, rfl⟩ : ∃ m, k = m + 1 := ⟨k - 1, by omega⟩
    have hi : i < xs.length := by omega
    simp only [spec_l03Digits.l0]; rw [if_pos (by omega), if_pos (by omega), rd_get _ _ hi, wrap64_id (by omega) (by omega), dg_step _ _ hi]
    have := ih (i + 1) k (by omega) (by omega)
    by_cases c1 : xs[i] < -1
    · rw [if_pos c1, decide_eq_false (by omega)]; rfl
    · by_cases c2 : xs[i] > 1
      · rw [if_neg c1, if_pos c2, decide_eq_false (by omega)]; rfl
      · rw [if_neg c1, if_neg c2, decide_eq_true (by omega)]; exact this
theorem specDigits_ev (xs : List Int) (hn : xs.length ≤ 4611686018427387904) : Ev (fun k => spec_l03Digits.f k xs) (dg xs) := by
  refine ⟨xs.length + 1, fun k hk => ?_⟩
  have := specDigits_loop xs hn xs.length 0 k (by omega) (by omega)
  exact this
theorem implDigits_loop (xs : List Int) (hn : xs.length ≤ 4611686018427387904) (d : Nat) : ∀ (i : Nat), i + d = xs.length → ∃ r : Int, decide (r ≥ 0) = !dg (xs.drop i) ∧ ∀ k, d < k → slices_IndexFunc_int8_int8_f84.l0 k xs (xs.length : Int) (i : Int) = some r := by
  induction d with
  | zero =>
    intro i hd
    refine ⟨-1, by rw [List.drop_of_length_le (by omega)]; rfl, fun k hk => ?_⟩
    obtain ⟨k, rfl⟩ : ∃ m, k = m + 1 := ⟨k - 1, by omega⟩
    simp only [slices_IndexFunc_int8_int8_f84.l0]; rw [if_neg (by omega)]
  | succ d ih =>
    intro i hd
    have hi : i < xs.length := by omega
    have hs : ∀ z : Int, impl_digitsOk_1.f z = some (!decide (-1 ≤ z ∧ z ≤ 1)) := by
      intro z; unfold impl_digitsOk_1.f impl_isDigit.f; split <;> simp <;> omega
    obtain ⟨r, hr, h⟩ := ih (i + 1) (by omega)
    by_cases c : -1 ≤ xs[i] ∧ xs[i] ≤ 1
    · refine ⟨r, by rw [hr, dg_step _ _ hi, decide_eq_true c]; rfl, fun k hk => ?_⟩
      obtain ⟨k, rfl⟩ : ∃ m, k = m + 1 := ⟨k - 1, by omega⟩
      simp only [slices_IndexFunc_int8_int8_f84.l0]
      rw [if_pos (by omega), if_pos (by omega), if_pos (by omega), hs, rd_get _ _ hi, decide_eq_true c, wrap64_id (by omega) (by omega)]
      exact h k (by omega)
    · refine ⟨(i : Int), by rw [dg_step _ _ hi, decide_eq_false c]; simp, fun k hk => ?_⟩
      obtain ⟨k, rfl⟩ : ∃ m, k = m + 1 := ⟨k - 1, by omega⟩
      simp only [slices_IndexFunc_int8_int8_f84.l0]
      rw [if_pos (by omega), if_pos (by omega), if_pos (by omega), hs, rd_get _ _ hi, decide_eq_false c]; rfl
theorem implDigits_ev (xs : List Int) (hn : xs.length ≤ 4611686018427387904) : Ev (fun k => impl_digitsOk.f k xs) (dg xs) := by
  obtain ⟨r, hr, h⟩ := implDigits_loop xs hn xs.length 0 (by omega)
  refine ⟨xs.length + 1, fun k hk => ?_⟩
  have e : slices_IndexFunc_int8_int8_f84.l0 k xs (xs.length : Int) 0 = some r := h k (by omega)
  show impl_digitsOk.f k xs = some (dg xs)
  unfold impl_digitsOk.f slices_ContainsFunc_int8_int8_f84.f slices_IndexFunc_int8_int8_f84.f
  simp only [e, Option.bind_some, hr]; simp
theorem toInt8S_loop (xs : List Int) (hn : xs.length ≤ 4611686018427387904) (d : Nat) : ∀ (i : Nat) (acc : List Int) (k : Nat), acc.length = xs.length → (∀ j, j < i → acc.getD j 0 = xs.getD j 0) → i + d = xs.length → d < k → laws_toInt8S.l0 k xs acc (i : Int) = some xs := by
  induction d with
  | zero =>
    intro i acc k hl hj hd hk
    obtain ⟨k, rfl⟩ : ∃ m, k = m + 1 := ⟨k - 1, by omega⟩
    simp only [laws_toInt8S.l0]; rw [if_neg (by omega)]
    congr 1
    apply List.ext_getElem hl
    intro j h1 h2
    have := hj j (by omega)
    simpa [List.getD_eq_getElem?_getD, List.getElem?_eq_getElem, h1, h2] using this
  | succ d ih =>
    intro i acc k hl hj hd hk
    obtain ⟨k, rfl⟩ : ∃ m, k = m + 1 := ⟨k - 1, by omega⟩
    simp only [laws_toInt8S.l0]; rw [if_pos (by omega), if_pos (by omega), if_pos (by omega), wrap64_id (by omega) (by omega)]
    refine ih (i + 1) _ k ?_ ?_ (by omega) (by omega)
    · simpa using hl
    · intro j hji
      have hjl : j < acc.length := by omega
      by_cases e : j = i
      · subst e; simp [List.getD_eq_getElem?_getD, rd_nat, hjl]
      · have e' : ¬ i = j := fun h => e h.symm
        have := hj j (by omega)
        simpa [List.getD_eq_getElem?_getD, List.getElem?_set, e'] using this
theorem toInt8S_ev (xs : List Int) (hn : xs.length ≤ 17592186044416) : Ev (fun k => laws_toInt8S.f k xs) xs := by
  refine ⟨xs.length + 1, fun k hk => ?_⟩
  show laws_toInt8S.f k xs = some xs
  unfold laws_toInt8S.f
  rw [if_pos (by omega), if_pos (by simp; omega)]
  exact toInt8S_loop xs (by omega) xs.length 0 _ k (by simp) (fun j h => by omega) (by omega) (by omega)
theorem eqInt8S_loop (xs : List Int) (hn : xs.length ≤ 4611686018427387904) (d : Nat) : ∀ (i : Nat) (k : Nat), i + d = xs.length → d < k → laws_eqInt8S.l0 k xs xs (i : Int) = some true := by
  induction d with
  | zero =>
    intro i k hd hk
    obtain ⟨k, rfl⟩ : ∃ m, k = m + 1 := ⟨k - 1, by omega⟩
    simp only [laws_eqInt8S.l0]; rw [if_neg (by omega)]
  | succ d ih =>
    intro i k hd hk
    obtain ⟨k, rfl⟩ : ∃ m, k = m + 1 := ⟨k - 1, by omega⟩
    simp only [laws_eqInt8S.l0]; rw [if_pos (by omega), if_pos (by omega), if_pos (by omega), if_pos trivial, wrap64_id (by omega) (by omega)]
    exact ih (i + 1) k (by omega) (by omega)
theorem eqInt8S_ev (xs : List Int) (hn : xs.length ≤ 4611686018427387904) : Ev (fun k => laws_eqInt8S.f k xs xs) true := by
  refine ⟨xs.length + 1, fun k hk => ?_⟩
  show laws_eqInt8S.f k xs xs = some true
  unfold laws_eqInt8S.f
  rw [if_pos rfl]
  exact eqInt8S_loop xs hn xs.length 0 k (by omega) (by omega)
/-- A list of int8 that has been marked, from a number on. -/
def marked8 (n : Nat) (a : Int) : List Int := (List.range n).map (fun j : Nat => IntKind.i8.wrap (a + (j : Int)))
theorem markInt8S_loop (d : Nat) : ∀ (i : Nat) (xs : List Int) (a : Int) (k : Nat), 0 ≤ a → a + xs.length ≤ 4611686018427387904 → i + d = xs.length → (∀ j, j < i → xs.getD j 0 = IntKind.i8.wrap (a + j)) → d < k → laws_markInt8S.l0 k xs (a + i) (i : Int) = some (a + xs.length, marked8 xs.length a) := by
  induction d with
  | zero =>
    intro i xs a k h0 ha hd hj hk
    obtain ⟨k, rfl⟩ : ∃ m, k = m + 1 := ⟨k - 1, by omega⟩
    simp only [laws_markInt8S.l0]; rw [if_neg (by omega)]
    have e : xs = marked8 xs.length a := by
      apply List.ext_getElem (by simp [marked8])
      intro j h1 h2
      have := hj j (by omega)
      simpa [marked8, List.getD_eq_getElem?_getD, List.getElem?_eq_getElem, h1, h2] using this
    rw [← e, show i = xs.length by omega]
  | succ d ih =>
    intro i xs a k h0 ha hd hj hk
    obtain ⟨k, rfl⟩ : ∃ m, k = m + 1 := ⟨k - 1, by omega⟩
    simp only [laws_markInt8S.l0]; rw [if_pos (by omega), if_pos (by omega), wrap64_id (n := a + i + 1) (by omega) (by omega), wrap64_id (n := (i : Int) + 1) (by omega) (by omega)]
    have := ih (i + 1) (xs.set i (IntKind.i8.wrap (a + i))) a k h0 (by simpa using ha) (by simp; omega) ?_ (by omega)
    · simpa [Int.add_assoc] using this
    · intro j hji
      have hjl : j < xs.length := by omega
      by_cases e : j = i
      · subst e; simp [List.getD_eq_getElem?_getD, hjl]
      · have e' : ¬ i = j := fun h => e h.symm
        have := hj j (by omega)
        simpa [List.getD_eq_getElem?_getD, List.getElem?_set, e'] using this
theorem markInt8S_ev (xs : List Int) (a : Int) (h0 : 0 ≤ a) (ha : a + xs.length ≤ 4611686018427387904) : Ev (fun k => laws_markInt8S.f k xs a) (a + xs.length, marked8 xs.length a) := by
  refine ⟨xs.length + 1, fun k hk => ?_⟩
  show laws_markInt8S.f k xs a = _
  unfold laws_markInt8S.f
  have := markInt8S_loop xs.length 0 xs a k h0 ha (by omega) (fun j h => by omega) (by omega)
  simpa using this
theorem heldInt8S_loop (n : Nat) (a : Int) (h0 : 0 ≤ a) (ha : a + n ≤ 4611686018427387904) (d : Nat) : ∀ (i : Nat) (k : Nat), i + d = n → d < k → laws_heldInt8S.l0 k (marked8 n a) (a + i) (i : Int) = some (a + n) := by
  have hl : (marked8 n a).length = n := by simp [marked8]
  induction d with
  | zero =>
    intro i k hd hk
    obtain ⟨k, rfl⟩ : ∃ m, k = m + 1 := ⟨k - 1, by omega⟩
    simp only [laws_heldInt8S.l0]; rw [if_neg (by omega), show i = n by omega]
  | succ d ih =>
    intro i k hd hk
    obtain ⟨k, rfl⟩ : ∃ m, k = m + 1 := ⟨k - 1, by omega⟩
    simp only [laws_heldInt8S.l0]; rw [if_pos (by omega), if_pos (by omega), if_pos ?_, wrap64_id (by omega) (by omega), wrap64_id (by omega) (by omega)]
    · have := ih (i + 1) k (by omega) (by omega)
      simpa [Int.add_assoc] using this
    · have hi : i < n := by omega
      rw [rd_nat]; simp [marked8, List.getD_eq_getElem?_getD, hi]
theorem heldInt8S_ev (n : Nat) (a : Int) (h0 : 0 ≤ a) (ha : a + n ≤ 4611686018427387904) : Ev (fun k => laws_heldInt8S.f k (marked8 n a) a) (a + n) := by
  refine ⟨n + 1, fun k hk => ?_⟩
  show laws_heldInt8S.f k _ a = _
  unfold laws_heldInt8S.f
  have := heldInt8S_loop n a h0 ha n 0 k (by omega) (by omega)
  simpa using this
theorem l00In_some (a b c : Int) : spec_l00In.f a b c = some (decide (b ≤ a ∧ a ≤ c)) := by
  unfold spec_l00In.f
  split <;> simp <;> omega
/-- A valid stream. -/
def okS (h l : List Int) : Bool := decide (h.length ≤ 16) && (decide (1 ≤ l.length ∧ l.length ≤ 14) && (dg h && dg l))
theorem specOk_ev (h l : List Int) (h1 : h.length ≤ 1048576) (h2 : l.length ≤ 1048576) : Ev (fun k => spec_l03Ok.f k h l) (okS h l) := by
  unfold okS
  by_cases c : (h.length : Int) ≤ 16
  · refine Ev.congr (fun k => by unfold spec_l03Ok.f; exact if_pos c) ?_
    rw [decide_eq_true (show h.length ≤ 16 by omega)]
    simp only [l00In_some, Option.bind_some, Bool.true_and]
    by_cases c2 : 1 ≤ l.length ∧ l.length ≤ 14
    · refine Ev.congr (fun k => if_pos (by simp; omega)) ?_
      rw [decide_eq_true c2, Bool.true_and]
      refine Ev.bind (specDigits_ev h (by omega)) ?_
      cases dg h with
      | false => exact Ev.now _
      | true =>
        refine Ev.congr (fun k => if_pos rfl) ?_
        refine Ev.bind (specDigits_ev l (by omega)) ?_
        rw [Bool.true_and]; exact Ev.now _
    · refine Ev.congr (fun k => if_neg (by simp; omega)) ?_
      rw [decide_eq_false c2]; exact Ev.now _
  · refine Ev.congr (fun k => by unfold spec_l03Ok.f; exact if_neg c) ?_
    rw [decide_eq_false (show ¬ h.length ≤ 16 by omega)]; exact Ev.now _
theorem implOk_ev (h l : List Int) (h1 : h.length ≤ 1048576) (h2 : l.length ≤ 1048576) : Ev (fun k => impl_ValidStream.f k h l) (okS h l) := by
  unfold okS
  by_cases c : (h.length : Int) ≤ 16
  · refine Ev.congr (fun k => by unfold impl_ValidStream.f; exact if_pos c) ?_
    rw [decide_eq_true (show h.length ≤ 16 by omega)]
    simp only [Bool.true_and]
    by_cases c2 : (l.length : Int) ≥ 1
    · refine Ev.congr (fun k => if_pos c2) ?_
      by_cases c3 : (l.length : Int) ≤ 14
      · refine Ev.congr (fun k => if_pos c3) ?_
        rw [decide_eq_true (⟨by omega, by omega⟩ : 1 ≤ l.length ∧ l.length ≤ 14), Bool.true_and]
        refine Ev.bind (implDigits_ev h (by omega)) ?_
        cases dg h with
        | false => exact Ev.now _
        | true =>
          refine Ev.congr (fun k => if_pos rfl) ?_
          refine Ev.bind (implDigits_ev l (by omega)) ?_
          rw [Bool.true_and]; exact Ev.now _
      · refine Ev.congr (fun k => if_neg c3) ?_
        rw [decide_eq_false (by omega)]; exact Ev.now _
    · refine Ev.congr (fun k => if_neg c2) ?_
      rw [decide_eq_false (by omega)]; exact Ev.now _
  · refine Ev.congr (fun k => by unfold impl_ValidStream.f; exact if_neg c) ?_
    rw [decide_eq_false (show ¬ h.length ≤ 16 by omega)]; exact Ev.now _
theorem okS_is {h l : List Int} (k : okS h l = true) : h.length ≤ 16 ∧ (1 ≤ l.length ∧ l.length ≤ 14) ∧ dg h = true ∧ dg l = true := by
  unfold okS at k
  simp only [Bool.and_eq_true, decide_eq_true_eq] at k
  exact ⟨k.1, k.2.1, k.2.2.1, k.2.2.2⟩
theorem toStream_ev (h l : List Int) (h1 : h.length ≤ 1048576) (h2 : l.length ≤ 1048576) : Ev (fun k => laws_toStream.f k h l) (h, l) := by
  unfold laws_toStream.f
  exact Ev.bind (toInt8S_ev h (by omega)) (Ev.bind (toInt8S_ev l (by omega)) (Ev.now _))
theorem eqStream_ev (h l : List Int) (h1 : h.length ≤ 1048576) (h2 : l.length ≤ 1048576) : Ev (fun k => laws_eqStream.f k h l h l) true := by
  unfold laws_eqStream.f
  refine Ev.bind (eqInt8S_ev h (by omega)) (Ev.congr (fun k => if_pos rfl) ?_)
  exact Ev.bind (eqInt8S_ev l (by omega)) (Ev.congr (fun k => if_pos rfl) (Ev.now _))
theorem szInt8S_eq (l : List Int) (a : Int) (hl : l.length ≤ 140737488351232) (h0 : 0 ≤ a) (h1 : a ≤ 1048576) : ∃ r, laws_szInt8S.f l a = some r ∧ (r < 0 ∨ (r ≤ a ∧ 0 ≤ r ∧ l.length ≤ 1048576)) := by
  unfold laws_szInt8S.f
  rw [wrap64_id (by omega) (by omega)]
  by_cases c : a - (l.length : Int) < 0
  · exact ⟨-1, by simp [c], by omega⟩
  · exact ⟨a - l.length, by simp [c], by omega⟩
theorem szStream_eq (h l : List Int) (a : Int) (hh : h.length ≤ 140737488351232) (hl : l.length ≤ 140737488351232) (h0 : 0 ≤ a) (h1 : a ≤ 1048576) : ∃ r, laws_szStream.f h l a = some r ∧ (r < 0 ∨ (r ≤ a ∧ 0 ≤ r ∧ h.length ≤ 1048576 ∧ l.length ≤ 1048576)) := by
  obtain ⟨r, hr, h2⟩ := szInt8S_eq h a hh h0 h1
  unfold laws_szStream.f
  simp only [hr, Option.bind_some]
  by_cases c : r < 0
  · exact ⟨-1, by rw [if_pos c], by omega⟩
  rw [if_neg c]
  obtain ⟨s, hs, h3⟩ := szInt8S_eq l r hl (by omega) (by omega)
  simp only [hs, Option.bind_some]
  by_cases c2 : s < 0
  · exact ⟨-1, by rw [if_pos c2], by omega⟩
  · exact ⟨s, by rw [if_neg c2], by omega⟩
theorem markStream_ev (h l : List Int) (h1 : h.length ≤ 1048576) (h2 : l.length ≤ 1048576) : Ev (fun k => laws_markStream.f k h l 1) (1 + h.length + l.length, marked8 h.length 1, marked8 l.length (1 + h.length)) := by
  unfold laws_markStream.f
  exact Ev.bind (markInt8S_ev h 1 (by omega) (by omega)) (Ev.bind (markInt8S_ev l (1 + h.length) (by omega) (by omega)) (Ev.now _))
theorem heldStream_ev (m n : Nat) (h1 : m ≤ 1048576) (h2 : n ≤ 1048576) : Ev (fun k => laws_heldStream.f k (marked8 m 1) (marked8 n (1 + m)) 1) (1 + m + n) := by
  unfold laws_heldStream.f
  refine Ev.bind (heldInt8S_ev m 1 (by omega) (by omega)) (Ev.congr (fun k => if_neg (by omega)) ?_)
  exact Ev.bind (heldInt8S_ev n (1 + m) (by omega) (by omega)) (Ev.congr (fun k => if_neg (by omega)) (Ev.now _))
/-- From i on, a list is as it is n before. -/
def agree (l : List Int) (n i : Nat) : Prop := l.drop i = (l.drop (i - n)).take (l.length - i)
theorem agree_end (l : List Int) (n : Nat) : agree l n l.length := by
  unfold agree; simp
theorem agree_step (l : List Int) (n i : Nat) (hn : n ≤ i) (h : i < l.length) : agree l n i ↔ (rd l (i : Int) = rd l ((i : Int) - n) ∧ agree l n (i + 1)) := by
  have e1 : l.drop i = l[i] :: l.drop (i + 1) := List.drop_eq_getElem_cons h
  have e2 : l.drop (i - n) = l[i - n] :: l.drop (i - n + 1) := List.drop_eq_getElem_cons (by omega)
  unfold agree
  rw [show i + 1 - n = i - n + 1 by omega, e1, e2, show l.length - i = (l.length - (i + 1)) + 1 by omega, List.take_succ_cons, List.cons.injEq, rd_get _ _ h, show (i : Int) - n = ((i - n : Nat) : Int) by omega, rd_get _ _ (by omega)]
theorem period_off (l : List Int) (hl : l.length ≤ 14) (n : Nat) (i : Int) (r : Int) (h : Ev (fun k => spec_l03Period.l0 k l ((n + 1 : Nat) : Int)) r) (hn : n < l.length) : Ev (fun k => spec_l03Period.l1 k l (n : Int) false i) r := by
  refine Ev.step (fun k => rfl) ?_
  have e : wrap64 ((n : Int) + 1) = ((n + 1 : Nat) : Int) := by rw [wrap64_id (by omega) (by omega)]; rfl
  refine Ev.congr (fun k => ?_) h
  show (if i < (l.length : Int) then _ else _) = _
  rw [e]
  by_cases c : i < (l.length : Int)
  · rw [if_pos c]; rfl
  · rw [if_neg c]; rfl
theorem period_in (l : List Int) (hl : l.length ≤ 14) (n : Nat) (h1 : 1 ≤ n) (hn : n < l.length) (d : Nat) : ∀ i : Nat, i + d = l.length → n ≤ i →
    (agree l n i → Ev (fun k => spec_l03Period.l1 k l (n : Int) true (i : Int)) (n : Int)) ∧ (¬ agree l n i → ∀ r, Ev (fun k => spec_l03Period.l0 k l ((n + 1 : Nat) : Int)) r → Ev (fun k => spec_l03Period.l1 k l (n : Int) true (i : Int)) r) := by
  induction d with
  | zero =>
    intro i hi hni
    obtain rfl : i = l.length := by omega
    refine ⟨fun _ => ?_, fun h => absurd (agree_end l n) h⟩
    refine Ev.step (fun k => by rw [spec_l03Period.l1, if_neg (by omega), if_pos rfl]) ?_
    exact Ev.now _
  | succ d ih =>
    intro i hi hni
    have hil : i < l.length := by omega
    have hw : wrap64 ((i : Int) - n) = (i : Int) - n := wrap64_id (by omega) (by omega)
    have hw1 : wrap64 ((i : Int) + 1) = ((i + 1 : Nat) : Int) := by rw [wrap64_id (by omega) (by omega)]; rfl
    have step : ∀ k, spec_l03Period.l1 (k + 1) l (n : Int) true (i : Int) = spec_l03Period.l1 k l (n : Int) (rd l (i : Int) == rd l ((i : Int) - n)) ((i + 1 : Nat) : Int) := by
      intro k
      rw [spec_l03Period.l1, if_pos (by omega), if_pos rfl, if_pos (by omega), hw, if_pos (by omega), if_pos (by omega), hw1]
    obtain ⟨a, b⟩ := ih (i + 1) (by omega) (by omega)
    constructor
    · intro h
      obtain ⟨e, h2⟩ := (agree_step l n i hni hil).mp h
      refine Ev.step step ?_
      rw [e, beq_self_eq_true]
      exact a h2
    · intro h r hr
      refine Ev.step step ?_
      by_cases e : rd l (i : Int) = rd l ((i : Int) - n)
      · rw [e, beq_self_eq_true]
        exact b (fun h2 => h ((agree_step l n i hni hil).mpr ⟨e, h2⟩)) r hr
      · rw [beq_eq_false_iff_ne.mpr e]
        exact period_off l hl n _ r hr hn
theorem equal_loop (a b : List Int) (hl : a.length = b.length) (hn : a.length ≤ 1048576) (d : Nat) : ∀ i : Nat, i + d = a.length → ∀ k, d < k → slices_Equal_int8_int8.l0 k a b (a.length : Int) (i : Int) = some (decide (a.drop i = b.drop i)) := by
  induction d with
  | zero =>
    intro i hi k hk
    obtain ⟨k, rfl⟩ : ∃ m, k = m + 1 := ⟨k - 1, by omega⟩
    rw [slices_Equal_int8_int8.l0, if_neg (by omega), List.drop_of_length_le (by omega), List.drop_of_length_le (by omega)]; simp
  | succ d ih =>
    intro i hi k hk
    obtain ⟨k, rfl⟩ : ∃ m, k = m + 1 := ⟨k - 1, by omega⟩
    have h1 : i < a.length := by omega
    have h2 : i < b.length := by omega
    rw [slices_Equal_int8_int8.l0, if_pos (by omega), if_pos (by omega), if_pos (by omega), if_pos (by omega), rd_get _ _ h1, rd_get _ _ h2, List.drop_eq_getElem_cons h1, List.drop_eq_getElem_cons h2]
    by_cases c : a[i] = b[i]
    · rw [if_pos c, wrap64_id (by omega) (by omega)]
      have := ih (i + 1) (by omega) k (by omega)
      rw [show ((i : Int) + 1) = ((i + 1 : Nat) : Int) from rfl, this]
      simp only [c, List.cons.injEq, true_and]
    · rw [if_neg c]
      simp only [c, List.cons.injEq, false_and, decide_false]
theorem equal_ev (a b : List Int) (hl : a.length = b.length) (hn : a.length ≤ 1048576) : Ev (fun k => slices_Equal_int8_int8.f k a b) (decide (a = b)) := by
  refine ⟨a.length + 1, fun k hk => ?_⟩
  have e : slices_Equal_int8_int8.l0 k a b (a.length : Int) 0 = some (decide (a.drop 0 = b.drop 0)) := equal_loop a b hl hn a.length 0 (by omega) k (by omega)
  show slices_Equal_int8_int8.f k a b = _
  unfold slices_Equal_int8_int8.f
  rw [if_pos (by omega), e]; simp
theorem clone_is (l : List Int) (hl : l.length ≤ 1048576) : slices_Clone_int8_int8.f l = some l := by
  unfold slices_Clone_int8_int8.f
  simp only [Option.bind_some, List.length_nil, List.nil_append]
  rw [if_pos (by omega)]
/-- The period that both find; and what the program does behind it. -/
theorem period_both (h l : List Int) (hh : h.length ≤ 16) (hl : l.length ≤ 14) (d : Nat) : ∀ n : Nat, 1 ≤ n → n + d = l.length → ∃ r : Nat, 1 ≤ r ∧ r ≤ l.length ∧ Ev (fun k => spec_l03Period.l0 k l (n : Int)) (r : Int) ∧ ∀ q, Ev (fun k => impl_normal.l1 k h (l.take r) (r : Int)) q → Ev (fun k => impl_normal.l0 k h l (n : Int)) q := by
  have done_ : ∀ n : Nat, 1 ≤ n → n ≤ l.length → l.length % n = 0 → agree l n n → ∀ q, Ev (fun k => impl_normal.l1 k h (l.take n) (n : Int)) q → Ev (fun k => impl_normal.l0 k h l (n : Int)) q := by
    intro n h1 h2 hm ha q hq
    have hw : wrap64 ((l.length : Int) - n) = ((l.length - n : Nat) : Int) := by rw [wrap64_id (by omega) (by omega)]; omega
    refine Ev.step (fun k => by rw [impl_normal.l0, if_neg (by omega), if_pos (by rw [← Int.natCast_emod]; omega), if_pos (by omega), if_pos (by omega), hw, if_pos (by omega), if_pos (by omega), Int.toNat_natCast, Int.toNat_natCast]) ?_
    refine Ev.bind (equal_ev _ _ (by simp) (by simp; omega)) ?_
    have e : l.drop n = l.take (l.length - n) := by unfold agree at ha; simpa using ha
    rw [decide_eq_true e]
    refine Ev.congr (fun k => if_pos rfl) ?_
    rw [clone_is h (by omega), clone_is (l.take n) (by simp; omega)]
    exact hq
  have next_ : ∀ n : Nat, 1 ≤ n → n < l.length → ¬ (l.length % n = 0 ∧ agree l n n) → ∀ q, Ev (fun k => impl_normal.l0 k h l ((n + 1 : Nat) : Int)) q → Ev (fun k => impl_normal.l0 k h l (n : Int)) q := by
    intro n h1 h2 hm q hq
    have hw : wrap64 ((l.length : Int) - n) = ((l.length - n : Nat) : Int) := by rw [wrap64_id (by omega) (by omega)]; omega
    have hw1 : wrap64 ((n : Int) + 1) = ((n + 1 : Nat) : Int) := by rw [wrap64_id (by omega) (by omega)]; rfl
    by_cases c : l.length % n = 0
    · refine Ev.step (fun k => by rw [impl_normal.l0, if_neg (by omega), if_pos (by rw [← Int.natCast_emod]; omega), if_pos (by omega), if_pos (by omega), hw, if_pos (by omega), if_pos (by omega), Int.toNat_natCast, Int.toNat_natCast]) ?_
      refine Ev.bind (equal_ev _ _ (by simp) (by simp; omega)) ?_
      have e : ¬ l.drop n = l.take (l.length - n) := by intro e; exact hm ⟨c, by unfold agree; simpa using e⟩
      rw [decide_eq_false e, hw1]
      exact Ev.congr (fun k => if_neg (by decide)) hq
    · refine Ev.step (fun k => by rw [impl_normal.l0, if_neg (by omega), if_neg (by rw [← Int.natCast_emod]; omega), hw1]) hq
  induction d with
  | zero =>
    intro n h1 hn
    obtain rfl : n = l.length := by omega
    refine ⟨l.length, h1, Nat.le_refl _, ?_, done_ _ h1 (Nat.le_refl _) (Nat.mod_self _) (agree_end l _)⟩
    exact Ev.step (fun k => by rw [spec_l03Period.l0, if_neg (by omega)]) (Ev.now _)
  | succ d ih =>
    intro n h1 hn
    obtain ⟨r, r1, r2, rs, ri⟩ := ih (n + 1) (by omega) (by omega)
    have hb : ∀ k, spec_l03Period.l0 (k + 1) l (n : Int) = spec_l03Period.l1 k l (n : Int) (((l.length % n : Nat) : Int) == 0) (n : Int) := by
      intro k
      rw [spec_l03Period.l0, if_pos (by omega), if_neg (by omega), Int.natCast_emod]
    obtain ⟨a, b⟩ := period_in l hl n h1 (by omega) (d + 1) n (by omega) (Nat.le_refl _)
    by_cases c : l.length % n = 0
    · by_cases c2 : agree l n n
      · refine ⟨n, h1, by omega, Ev.step hb ?_, done_ n h1 (by omega) c c2⟩
        rw [c]; exact a c2
      · refine ⟨r, r1, r2, Ev.step hb ?_, fun q hq => next_ n h1 (by omega) (fun z => c2 z.2) q (ri q hq)⟩
        rw [c]; exact b c2 _ rs
    · refine ⟨r, r1, r2, Ev.step hb ?_, fun q hq => next_ n h1 (by omega) (fun z => c z.1) q (ri q hq)⟩
      rw [show ((((l.length % n : Nat) : Int)) == 0) = false from beq_eq_false_iff_ne.mpr (by omega)]
      exact period_off l hl n _ _ rs (by omega)
theorem trim_both (d : Nat) : ∀ h l : List Int, h.length = d → d ≤ 16 → 1 ≤ l.length → l.length ≤ 14 → ∃ q : List Int × List Int, q.1.length ≤ 16 ∧ q.2.length ≤ 14 ∧ ∀ k, d < k → spec_l03Normal.l0 k h l = some q ∧ impl_normal.l1 k h l (l.length : Int) = some q := by
  induction d with
  | zero =>
    intro h l hd _ h1 h2
    refine ⟨(h, l), by simp; omega, by simp; omega, fun k hk => ?_⟩
    obtain ⟨k, rfl⟩ : ∃ m, k = m + 1 := ⟨k - 1, by omega⟩
    rw [spec_l03Normal.l0, impl_normal.l1, if_neg (by omega), if_neg (by omega)]; exact ⟨rfl, rfl⟩
  | succ d ih =>
    intro h l hd hd2 h1 h2
    have w1 : wrap64 ((h.length : Int) - 1) = ((h.length - 1 : Nat) : Int) := by rw [wrap64_id (by omega) (by omega)]; omega
    have w2 : wrap64 ((l.length : Int) - 1) = ((l.length - 1 : Nat) : Int) := by rw [wrap64_id (by omega) (by omega)]; omega
    by_cases c : rd h ((h.length - 1 : Nat) : Int) = rd l ((l.length - 1 : Nat) : Int)
    · have hlen : ([rd l ((l.length - 1 : Nat) : Int)] ++ l.take (l.length - 1)).length = l.length := by simp; omega
      obtain ⟨q, q1, q2, hq⟩ := ih (h.take (h.length - 1)) ([rd l ((l.length - 1 : Nat) : Int)] ++ l.take (l.length - 1)) (by simp; omega) (by omega) (by omega) (by omega)
      refine ⟨q, q1, q2, fun k hk => ?_⟩
      obtain ⟨k, rfl⟩ : ∃ m, k = m + 1 := ⟨k - 1, by omega⟩
      obtain ⟨s1, s2⟩ := hq k (by omega)
      rw [hlen] at s2
      constructor
      · rw [spec_l03Normal.l0, w1, w2, if_pos (by omega), if_pos (by omega), if_pos (by omega), if_pos (by omega), if_pos (by omega), if_pos c, if_pos (by omega)]
        simp only [Option.bind_some, Int.toNat_natCast]
        rw [if_pos (by omega), if_pos (by simp; omega)]
        exact s1
      · rw [impl_normal.l1, w1, w2, if_pos (by omega), if_pos (by omega), if_pos (by omega), if_pos (by omega), if_pos (by omega), if_pos c, if_pos (by omega)]
        simp only [Option.bind_some, Int.toNat_natCast]
        rw [if_pos (by omega), if_pos (by simp; omega)]
        exact s2
    · refine ⟨(h, l), by simp; omega, by simp; omega, fun k hk => ?_⟩
      obtain ⟨k, rfl⟩ : ∃ m, k = m + 1 := ⟨k - 1, by omega⟩
      constructor
      · rw [spec_l03Normal.l0, w1, w2, if_pos (by omega), if_pos (by omega), if_pos (by omega), if_pos (by omega), if_pos (by omega), if_neg c]
      · rw [impl_normal.l1, w1, w2, if_pos (by omega), if_pos (by omega), if_pos (by omega), if_pos (by omega), if_pos (by omega), if_neg c]
theorem normal_both (h l : List Int) (hh : h.length ≤ 16) (h1 : 1 ≤ l.length) (hl : l.length ≤ 14) : ∃ q : List Int × List Int, q.1.length ≤ 16 ∧ q.2.length ≤ 14 ∧ Ev (fun k => spec_l03Normal.f k h l) q ∧ Ev (fun k => impl_normal.f k h l) q := by
  obtain ⟨r, r1, r2, rs, ri⟩ := period_both h l hh hl (l.length - 1) 1 (by omega) (by omega)
  have hlt : (l.take r).length = r := by simp; omega
  obtain ⟨q, q1, q2, hq⟩ := trim_both h.length h (l.take r) rfl hh (by omega) (by omega)
  rw [hlt] at hq
  refine ⟨q, q1, q2, ?_, ?_⟩
  · unfold spec_l03Normal.f
    simp only [Option.bind_some, List.length_nil, List.nil_append]
    refine Ev.congr (fun k => if_pos (by omega)) ?_
    refine Ev.bind (show Ev (fun k => spec_l03Period.f k l) (r : Int) from rs) ?_
    rw [Int.toNat_natCast]
    refine Ev.congr (fun k => if_pos (by omega)) (Ev.congr (fun k => if_pos (by omega)) (Ev.congr (fun k => if_pos (by omega)) ?_))
    exact ⟨h.length + 1, fun k hk => (hq k (by omega)).1⟩
  · exact ri q ⟨h.length + 1, fun k hk => (hq k (by omega)).2⟩
theorem normalS_both (h l : List Int) (h1 : h.length ≤ 1048576) (h2 : l.length ≤ 1048576) : ∃ q : List Int × List Int × Int, q.1.length ≤ 16 ∧ q.2.1.length ≤ 14 ∧ Ev (fun k => spec_NormalStream.f k h l) q ∧ Ev (fun k => impl_NormalStream.f k h l) q := by
  cases c : okS h l with
  | false =>
    refine ⟨([], [], 1), by simp, by simp, ?_, ?_⟩
    · refine Ev.congr (fun k => by unfold spec_NormalStream.f; rfl) (Ev.bind (specOk_ev h l h1 h2) ?_)
      rw [c]; exact Ev.now _
    · refine Ev.congr (fun k => by unfold impl_NormalStream.f; rfl) (Ev.bind (implOk_ev h l h1 h2) ?_)
      rw [c]; exact Ev.now _
  | true =>
    obtain ⟨a, b, _, _⟩ := okS_is c
    obtain ⟨⟨q1, q2⟩, n1, n2, es, ei⟩ := normal_both h l a b.1 b.2
    refine ⟨(q1, q2, 0), n1, n2, ?_, ?_⟩
    · refine Ev.congr (fun k => by unfold spec_NormalStream.f; rfl) (Ev.bind (specOk_ev h l h1 h2) ?_)
      rw [c]; exact Ev.congr (fun k => if_pos rfl) (Ev.bind es (Ev.now _))
    · refine Ev.congr (fun k => by unfold impl_NormalStream.f; rfl) (Ev.bind (implOk_ev h l h1 h2) ?_)
      rw [c]; exact Ev.congr (fun k => if_pos rfl) (Ev.bind ei (Ev.now _))
theorem FnExactNormalStream : laws_FnExactNormalStream.Pure := by
  intro x ⟨⟨hx, _⟩, ⟨hy, _⟩⟩
  obtain ⟨h, l⟩ := x
  simp only at hx hy
  apply Ev.rounds (r := true)
  obtain ⟨r, hr, hb⟩ := szStream_eq h l 1048576 (by omega) (by omega) (by omega) (by omega)
  refine Ev.congr (fun k => by unfold laws_FnExactNormalStream.f; rw [hr]) ?_
  by_cases c : r < 0
  · exact Ev.congr (fun k => if_pos c) (Ev.now _)
  refine Ev.congr (fun k => if_neg c) ?_
  have n1 : h.length ≤ 1048576 := by omega
  have n2 : l.length ≤ 1048576 := by omega
  obtain ⟨⟨q1, q2, q3⟩, m1, m2, es, ei⟩ := normalS_both h l n1 n2
  simp only at m1 m2
  repeat' (first
    | (refine Ev.bind (toStream_ev h l n1 n2) ?_; try dsimp only)
    | (refine Ev.bind es ?_; try dsimp only)
    | (refine Ev.bind ei ?_; try dsimp only)
    | (refine Ev.bind (eqStream_ev _ _ (by omega) (by omega)) ?_; try dsimp only)
    | (refine Ev.bind (markStream_ev _ _ (by omega) (by omega)) ?_; try dsimp only)
    | (refine Ev.bind (heldStream_ev _ _ (by omega) (by omega)) ?_; try dsimp only)
    | exact ⟨0, fun k _ => rfl⟩
    | (refine Ev.congr (fun k => if_pos rfl) ?_; try dsimp only)
    | (refine Ev.congr (fun k => if_neg (by simp; done)) ?_; try dsimp only)
    | (refine Ev.congr (fun k => if_neg (by omega)) ?_; try dsimp only)
    | (refine Ev.congr (fun k => if_pos (by simp; done)) ?_; try dsimp only)
    | (refine Ev.congr (fun k => if_pos (by omega)) ?_; try dsimp only)
    | (refine Ev.step (fun k => by rw [laws_FnExactNormalStream.j0]) ?_; try dsimp only)
    | (refine Ev.step (fun k => by rw [laws_FnExactNormalStream.j1]) ?_; try dsimp only)
    | (refine Ev.step (fun k => by rw [laws_FnExactNormalStream.j2]) ?_; try dsimp only)
    )
end Go.Proofs.Ytfenifdigjcmiaa.Pure
