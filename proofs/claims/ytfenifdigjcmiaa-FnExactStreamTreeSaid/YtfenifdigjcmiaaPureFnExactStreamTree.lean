/- The program's StreamTree returns what the reference's returns, for every stream, in memory of its own. -/
import Derived.Test.YtfenifdigjcmiaaMFnExactStreamTreex6
import Derived.Test.YtfenifdigjcmiaaMOpen
namespace Go.Proofs.Ytfenifdigjcmiaa.Pure
open Go.RowKit Go.Proofs.Ytfenifdigjcmiaa.MFnExactStreamTree Go.Proofs.Ytfenifdigjcmiaa.MOpen Go.Proofs.YtfenifdigjcmiaaW.PrintWords Go.Proofs.YtfenifdigjcmiaaW.PrintLast Go.Proofs.YtfenifdigjcmiaaW.PrintMore
set_option linter.unusedVariables false
set_option linter.unusedSimpArgs false
theorem wrap64_id {n : Int} (h0 : -9223372036854775808 ≤ n) (h1 : n ≤ 9223372036854775807) : wrap64 n = n := by
  unfold wrap64; omega
theorem rd_nat (xs : List Int) (i : Nat) : rd xs (i : Int) = xs.getD i 0 := by simp [rd]
theorem rd_get (xs : List Int) (i : Nat) (h : i < xs.length) : rd xs (i : Int) = xs[i] := by simp [rd, h]
theorem ev_k {α : Type} {f : Nat → Option α} {r : α} (n : Nat) (h : ∀ k, n ≤ k → f k = some r) : Ev f r := ⟨n, h⟩
/-- All numbers of a list are digits. -/
def dg (xs : List Int) : Bool := xs.all (fun d => decide (-1 ≤ d ∧ d ≤ 1))
theorem dg_mem {xs : List Int} (h : dg xs = true) : ∀ d ∈ xs, -1 ≤ d ∧ d ≤ 1 := by
  intro d hd
  have := List.all_eq_true.mp h d hd
  simpa using this
theorem dg_step (xs : List Int) (i : Nat) (h : i < xs.length) : dg (xs.drop i) = (decide (-1 ≤ xs[i] ∧ xs[i] ≤ 1) && dg (xs.drop (i + 1))) := by
  unfold dg
  rw [List.drop_eq_getElem_cons h, List.all_cons]
theorem specDigits_loop (xs : List Int) (hn : xs.length ≤ 4611686018427387904) (d : Nat) : ∀ (i k : Nat), i + d = xs.length → d < k → spec_l03Digits.l0 k xs (i : Int) = some (dg (xs.drop i)) := by
  induction d with
  | zero =>
    intro i k hd hk
    obtain ⟨k, rfl⟩ : ∃ m, k = m + 1 := ⟨k - 1, by omega⟩
    simp only [spec_l03Digits.l0]; rw [if_neg (by omega), List.drop_of_length_le (by omega)]; rfl
  | succ d ih =>
    intro i k hd hk
    obtain ⟨k, rfl⟩ : ∃ m, k = m + 1 := ⟨k - 1, by omega⟩
    have hi : i < xs.length := by omega
    simp only [spec_l03Digits.l0]; rw [if_pos (by omega), if_pos (by omega), rd_get _ _ hi, wrap64_id (by omega) (by omega), dg_step _ _ hi]
    have := ih (i + 1) k (by omega) (by omega)
    by_cases c1 : xs[i] < -1
    · rw [if_pos c1, decide_eq_false (by omega)]; rfl
    · by_cases c2 : xs[i] > 1
      · rw [if_neg c1, if_pos c2, decide_eq_false (by omega)]; rfl
      · rw [if_neg c1, if_neg c2, decide_eq_true (by omega)]; exact this
theorem specDigits_ev (xs : List Int) (hn : xs.length ≤ 4611686018427387904) : Ev (fun k => spec_l03Digits.f k xs) (dg xs) := by
  refine ⟨xs.length + 1, fun k hk => ?_⟩
  have := specDigits_loop xs hn xs.length 0 k (by omega) (by omega)
  exact this
theorem implDigits_loop (xs : List Int) (hn : xs.length ≤ 4611686018427387904) (d : Nat) : ∀ (i : Nat), i + d = xs.length → ∃ r : Int, decide (r ≥ 0) = !dg (xs.drop i) ∧ ∀ k, d < k → slices_IndexFunc_int8_int8_f84.l0 k xs (xs.length : Int) (i : Int) = some r := by
  induction d with
  | zero =>
    intro i hd
    refine ⟨-1, by rw [List.drop_of_length_le (by omega)]; rfl, fun k hk => ?_⟩
    obtain ⟨k, rfl⟩ : ∃ m, k = m + 1 := ⟨k - 1, by omega⟩
    simp only [slices_IndexFunc_int8_int8_f84.l0]; rw [if_neg (by omega)]
  | succ d ih =>
    intro i hd
    have hi : i < xs.length := by omega
    have hs : ∀ z : Int, impl_digitsOk_1.f z = some (!decide (-1 ≤ z ∧ z ≤ 1)) := by
      intro z; unfold impl_digitsOk_1.f impl_isDigit.f; split <;> simp <;> omega
    obtain ⟨r, hr, h⟩ := ih (i + 1) (by omega)
    by_cases c : -1 ≤ xs[i] ∧ xs[i] ≤ 1
    · refine ⟨r, by rw [hr, dg_step _ _ hi, decide_eq_true c]; rfl, fun k hk => ?_⟩
      obtain ⟨k, rfl⟩ : ∃ m, k = m + 1 := ⟨k - 1, by omega⟩
      simp only [slices_IndexFunc_int8_int8_f84.l0]
      rw [if_pos (by omega), if_pos (by omega), if_pos (by omega), hs, rd_get _ _ hi, decide_eq_true c, wrap64_id (by omega) (by omega)]
      exact h k (by omega)
    · refine ⟨(i : Int), by rw [dg_step _ _ hi, decide_eq_false c]; simp, fun k hk => ?_⟩
      obtain ⟨k, rfl⟩ : ∃ m, k = m + 1 := ⟨k - 1, by omega⟩
      simp only [slices_IndexFunc_int8_int8_f84.l0]
      rw [if_pos (by omega), if_pos (by omega), if_pos (by omega), hs, rd_get _ _ hi, decide_eq_false c]; rfl
theorem implDigits_ev (xs : List Int) (hn : xs.length ≤ 4611686018427387904) : Ev (fun k => impl_digitsOk.f k xs) (dg xs) := by
  obtain ⟨r, hr, h⟩ := implDigits_loop xs hn xs.length 0 (by omega)
  refine ⟨xs.length + 1, fun k hk => ?_⟩
  have e : slices_IndexFunc_int8_int8_f84.l0 k xs (xs.length : Int) 0 = some r := h k (by omega)
  show impl_digitsOk.f k xs = some (dg xs)
  unfold impl_digitsOk.f slices_ContainsFunc_int8_int8_f84.f slices_IndexFunc_int8_int8_f84.f
  simp only [e, Option.bind_some, hr]; simp
theorem toInt8S_loop (xs : List Int) (hn : xs.length ≤ 4611686018427387904) (d : Nat) : ∀ (i : Nat) (acc : List Int) (k : Nat), acc.length = xs.length → (∀ j, j < i → acc.getD j 0 = xs.getD j 0) → i + d = xs.length → d < k → laws_toInt8S.l0 k xs acc (i : Int) = some xs := by
  induction d with
  | zero =>
    intro i acc k hl hj hd hk
    obtain ⟨k, rfl⟩ : ∃ m, k = m + 1 := ⟨k - 1, by omega⟩
    simp only [laws_toInt8S.l0]; rw [if_neg (by omega)]
    congr 1
    apply List.ext_getElem hl
    intro j h1 h2
    have := hj j (by omega)
    simpa [List.getD_eq_getElem?_getD, List.getElem?_eq_getElem, h1, h2] using this
  | succ d ih =>
    intro i acc k hl hj hd hk
    obtain ⟨k, rfl⟩ : ∃ m, k = m + 1 := ⟨k - 1, by omega⟩
    simp only [laws_toInt8S.l0]; rw [if_pos (by omega), if_pos (by omega), if_pos (by omega), wrap64_id (by omega) (by omega)]
    refine ih (i + 1) _ k ?_ ?_ (by omega) (by omega)
    · simpa using hl
    · intro j hji
      have hjl : j < acc.length := by omega
      by_cases e : j = i
      · subst e; simp [List.getD_eq_getElem?_getD, rd_nat, hjl]
      · have e' : ¬ i = j := fun h => e h.symm
        have := hj j (by omega)
        simpa [List.getD_eq_getElem?_getD, List.getElem?_set, e'] using this
theorem toInt8S_ev (xs : List Int) (hn : xs.length ≤ 17592186044416) : Ev (fun k => laws_toInt8S.f k xs) xs := by
  refine ⟨xs.length + 1, fun k hk => ?_⟩
  show laws_toInt8S.f k xs = some xs
  unfold laws_toInt8S.f
  rw [if_pos (by omega), if_pos (by simp; omega)]
  exact toInt8S_loop xs (by omega) xs.length 0 _ k (by simp) (fun j h => by omega) (by omega) (by omega)
theorem eqInt8S_loop (xs : List Int) (hn : xs.length ≤ 4611686018427387904) (d : Nat) : ∀ (i : Nat) (k : Nat), i + d = xs.length → d < k → laws_eqInt8S.l0 k xs xs (i : Int) = some true := by
  induction d with
  | zero =>
    intro i k hd hk
    obtain ⟨k, rfl⟩ : ∃ m, k = m + 1 := ⟨k - 1, by omega⟩
    simp only [laws_eqInt8S.l0]; rw [if_neg (by omega)]
  | succ d ih =>
    intro i k hd hk
    obtain ⟨k, rfl⟩ : ∃ m, k = m + 1 := ⟨k - 1, by omega⟩
    simp only [laws_eqInt8S.l0]; rw [if_pos (by omega), if_pos (by omega), if_pos (by omega), if_pos trivial, wrap64_id (by omega) (by omega)]
    exact ih (i + 1) k (by omega) (by omega)
theorem eqInt8S_ev (xs : List Int) (hn : xs.length ≤ 4611686018427387904) : Ev (fun k => laws_eqInt8S.f k xs xs) true := by
  refine ⟨xs.length + 1, fun k hk => ?_⟩
  show laws_eqInt8S.f k xs xs = some true
  unfold laws_eqInt8S.f
  rw [if_pos rfl]
  exact eqInt8S_loop xs hn xs.length 0 k (by omega) (by omega)
/-- A list of int8 that has been marked, from a number on. -/
def marked8 (n : Nat) (a : Int) : List Int := (List.range n).map (fun j : Nat => IntKind.i8.wrap (a + (j : Int)))
theorem markInt8S_loop (d : Nat) : ∀ (i : Nat) (xs : List Int) (a : Int) (k : Nat), 0 ≤ a → a + xs.length ≤ 4611686018427387904 → i + d = xs.length → (∀ j, j < i → xs.getD j 0 = IntKind.i8.wrap (a + j)) → d < k → laws_markInt8S.l0 k xs (a + i) (i : Int) = some (a + xs.length, marked8 xs.length a) := by
  induction d with
  | zero =>
    intro i xs a k h0 ha hd hj hk
    obtain ⟨k, rfl⟩ : ∃ m, k = m + 1 := ⟨k - 1, by omega⟩
    simp only [laws_markInt8S.l0]; rw [if_neg (by omega)]
    have e : xs = marked8 xs.length a := by
      apply List.ext_getElem (by simp [marked8])
      intro j h1 h2
      have := hj j (by omega)
      simpa [marked8, List.getD_eq_getElem?_getD, List.getElem?_eq_getElem, h1, h2] using this
    rw [← e, show i = xs.length by omega]
  | succ d ih =>
    intro i xs a k h0 ha hd hj hk
    obtain ⟨k, rfl⟩ : ∃ m, k = m + 1 := ⟨k - 1, by omega⟩
    simp only [laws_markInt8S.l0]; rw [if_pos (by omega), if_pos (by omega), wrap64_id (n := a + i + 1) (by omega) (by omega), wrap64_id (n := (i : Int) + 1) (by omega) (by omega)]
    have := ih (i + 1) (xs.set i (IntKind.i8.wrap (a + i))) a k h0 (by simpa using ha) (by simp; omega) ?_ (by omega)
    · simpa [Int.add_assoc] using this
    · intro j hji
      have hjl : j < xs.length := by omega
      by_cases e : j = i
      · subst e; simp [List.getD_eq_getElem?_getD, hjl]
      · have e' : ¬ i = j := fun h => e h.symm
        have := hj j (by omega)
        simpa [List.getD_eq_getElem?_getD, List.getElem?_set, e'] using this
theorem markInt8S_ev (xs : List Int) (a : Int) (h0 : 0 ≤ a) (ha : a + xs.length ≤ 4611686018427387904) : Ev (fun k => laws_markInt8S.f k xs a) (a + xs.length, marked8 xs.length a) := by
  refine ⟨xs.length + 1, fun k hk => ?_⟩
  show laws_markInt8S.f k xs a = _
  unfold laws_markInt8S.f
  have := markInt8S_loop xs.length 0 xs a k h0 ha (by omega) (fun j h => by omega) (by omega)
  simpa using this
theorem l00In_some (a b c : Int) : spec_l00In.f a b c = some (decide (b ≤ a ∧ a ≤ c)) := by
  unfold spec_l00In.f
  split <;> simp <;> omega
/-- A valid stream. -/
def okS (h l : List Int) : Bool := decide (h.length ≤ 16) && (decide (1 ≤ l.length ∧ l.length ≤ 14) && (dg h && dg l))
theorem specOk_ev (h l : List Int) (h1 : h.length ≤ 1048576) (h2 : l.length ≤ 1048576) : Ev (fun k => spec_l03Ok.f k h l) (okS h l) := by
  unfold okS
  by_cases c : (h.length : Int) ≤ 16
  · refine Ev.congr (fun k => by unfold spec_l03Ok.f; exact if_pos c) ?_
    rw [decide_eq_true (show h.length ≤ 16 by omega)]
    simp only [l00In_some, Option.bind_some, Bool.true_and]
    by_cases c2 : 1 ≤ l.length ∧ l.length ≤ 14
    · refine Ev.congr (fun k => if_pos (by simp; omega)) ?_
      rw [decide_eq_true c2, Bool.true_and]
      refine Ev.bind (specDigits_ev h (by omega)) ?_
      cases dg h with
      | false => exact Ev.now _
      | true =>
        refine Ev.congr (fun k => if_pos rfl) ?_
        refine Ev.bind (specDigits_ev l (by omega)) ?_
        rw [Bool.true_and]; exact Ev.now _
    · refine Ev.congr (fun k => if_neg (by simp; omega)) ?_
      rw [decide_eq_false c2]; exact Ev.now _
  · refine Ev.congr (fun k => by unfold spec_l03Ok.f; exact if_neg c) ?_
    rw [decide_eq_false (show ¬ h.length ≤ 16 by omega)]; exact Ev.now _
theorem implOk_ev (h l : List Int) (h1 : h.length ≤ 1048576) (h2 : l.length ≤ 1048576) : Ev (fun k => impl_ValidStream.f k h l) (okS h l) := by
  unfold okS
  by_cases c : (h.length : Int) ≤ 16
  · refine Ev.congr (fun k => by unfold impl_ValidStream.f; exact if_pos c) ?_
    rw [decide_eq_true (show h.length ≤ 16 by omega)]
    simp only [Bool.true_and]
    by_cases c2 : (l.length : Int) ≥ 1
    · refine Ev.congr (fun k => if_pos c2) ?_
      by_cases c3 : (l.length : Int) ≤ 14
      · refine Ev.congr (fun k => if_pos c3) ?_
        rw [decide_eq_true (⟨by omega, by omega⟩ : 1 ≤ l.length ∧ l.length ≤ 14), Bool.true_and]
        refine Ev.bind (implDigits_ev h (by omega)) ?_
        cases dg h with
        | false => exact Ev.now _
        | true =>
          refine Ev.congr (fun k => if_pos rfl) ?_
          refine Ev.bind (implDigits_ev l (by omega)) ?_
          rw [Bool.true_and]; exact Ev.now _
      · refine Ev.congr (fun k => if_neg c3) ?_
        rw [decide_eq_false (by omega)]; exact Ev.now _
    · refine Ev.congr (fun k => if_neg c2) ?_
      rw [decide_eq_false (by omega)]; exact Ev.now _
  · refine Ev.congr (fun k => by unfold impl_ValidStream.f; exact if_neg c) ?_
    rw [decide_eq_false (show ¬ h.length ≤ 16 by omega)]; exact Ev.now _
theorem okS_is {h l : List Int} (k : okS h l = true) : h.length ≤ 16 ∧ (1 ≤ l.length ∧ l.length ≤ 14) ∧ dg h = true ∧ dg l = true := by
  unfold okS at k
  simp only [Bool.and_eq_true, decide_eq_true_eq] at k
  exact ⟨k.1, k.2.1, k.2.2.1, k.2.2.2⟩
theorem toStream_ev (h l : List Int) (h1 : h.length ≤ 1048576) (h2 : l.length ≤ 1048576) : Ev (fun k => laws_toStream.f k h l) (h, l) := by
  unfold laws_toStream.f
  exact Ev.bind (toInt8S_ev h (by omega)) (Ev.bind (toInt8S_ev l (by omega)) (Ev.now _))
theorem eqStream_ev (h l : List Int) (h1 : h.length ≤ 1048576) (h2 : l.length ≤ 1048576) : Ev (fun k => laws_eqStream.f k h l h l) true := by
  unfold laws_eqStream.f
  refine Ev.bind (eqInt8S_ev h (by omega)) (Ev.congr (fun k => if_pos rfl) ?_)
  exact Ev.bind (eqInt8S_ev l (by omega)) (Ev.congr (fun k => if_pos rfl) (Ev.now _))
theorem szInt8S_eq (l : List Int) (a : Int) (hl : l.length ≤ 140737488351232) (h0 : 0 ≤ a) (h1 : a ≤ 1048576) : ∃ r, laws_szInt8S.f l a = some r ∧ (r < 0 ∨ (r ≤ a ∧ 0 ≤ r ∧ l.length ≤ 1048576)) := by
  unfold laws_szInt8S.f
  rw [wrap64_id (by omega) (by omega)]
  by_cases c : a - (l.length : Int) < 0
  · exact ⟨-1, by simp [c], by omega⟩
  · exact ⟨a - l.length, by simp [c], by omega⟩
theorem szStream_eq (h l : List Int) (a : Int) (hh : h.length ≤ 140737488351232) (hl : l.length ≤ 140737488351232) (h0 : 0 ≤ a) (h1 : a ≤ 1048576) : ∃ r, laws_szStream.f h l a = some r ∧ (r < 0 ∨ (r ≤ a ∧ 0 ≤ r ∧ h.length ≤ 1048576 ∧ l.length ≤ 1048576)) := by
  obtain ⟨r, hr, h2⟩ := szInt8S_eq h a hh h0 h1
  unfold laws_szStream.f
  simp only [hr, Option.bind_some]
  by_cases c : r < 0
  · exact ⟨-1, by rw [if_pos c], by omega⟩
  rw [if_neg c]
  obtain ⟨s, hs, h3⟩ := szInt8S_eq l r hl (by omega) (by omega)
  simp only [hs, Option.bind_some]
  by_cases c2 : s < 0
  · exact ⟨-1, by rw [if_pos c2], by omega⟩
  · exact ⟨s, by rw [if_neg c2], by omega⟩
/-- A list of n elements of which the first i are told. -/
def built {α : Type} (g : Nat → α) (z : α) (n i : Nat) : List α := (List.range i).map g ++ List.replicate (n - i) z
theorem built_zero {α : Type} (g : Nat → α) (z : α) (n : Nat) : built g z n 0 = List.replicate n z := by simp [built]
theorem built_all {α : Type} (g : Nat → α) (z : α) (n : Nat) : built g z n n = (List.range n).map g := by simp [built]
theorem built_length {α : Type} (g : Nat → α) (z : α) (n i : Nat) (h : i ≤ n) : (built g z n i).length = n := by simp [built]; omega
theorem built_set {α : Type} (g : Nat → α) (z : α) (n i : Nat) (h : i < n) : (built g z n i).set i (g i) = built g z n (i + 1) := by
  unfold built
  rw [List.set_append_right _ _ (by simp), show n - i = (n - (i + 1)) + 1 by omega, List.replicate_succ]
  simp [List.range_succ]
theorem eqInt16A3_same (a b c : Int) (k : Nat) (h : 4 ≤ k) : laws_eqInt16A3.f k a b c a b c = some true := by
  obtain ⟨k, rfl⟩ : ∃ m, k = m + 4 := ⟨k - 4, by omega⟩
  unfold laws_eqInt16A3.f
  simp [laws_eqInt16A3.l0, wrap64, rd]
theorem eqFork_same (a b c d e : Int) (k : Nat) (h : 4 ≤ k) : laws_eqFork.f k a b c d e a b c d e = some true := by
  obtain ⟨k, rfl⟩ : ∃ m, k = m + 4 := ⟨k - 4, by omega⟩
  unfold laws_eqFork.f
  rw [if_pos rfl, if_pos rfl, eqInt16A3_same _ _ _ _ (by omega)]; rfl
theorem eqForkS_loop (xs : List S104) (hn : xs.length ≤ 4611686018427387904) (d : Nat) : ∀ (i k : Nat), i + d = xs.length → d + 4 < k → laws_eqForkS.l0 k xs xs (i : Int) = some true := by
  induction d with
  | zero =>
    intro i k hd hk
    obtain ⟨k, rfl⟩ : ∃ m, k = m + 1 := ⟨k - 1, by omega⟩
    simp only [laws_eqForkS.l0]; rw [if_neg (by omega)]
  | succ d ih =>
    intro i k hd hk
    obtain ⟨k, rfl⟩ : ∃ m, k = m + 1 := ⟨k - 1, by omega⟩
    simp only [laws_eqForkS.l0]; rw [if_pos (by omega), if_pos (by omega), if_pos (by omega), eqFork_same _ _ _ _ _ _ (by omega)]
    simp only [Option.bind_some]
    rw [if_pos trivial, wrap64_id (by omega) (by omega)]
    exact ih (i + 1) k (by omega) (by omega)
theorem eqTree_ev (xs : List S104) (hn : xs.length ≤ 4611686018427387904) : Ev (fun k => laws_eqTree.f k xs xs) true := by
  refine ⟨xs.length + 6, fun k hk => ?_⟩
  show laws_eqTree.f k xs xs = some true
  unfold laws_eqTree.f laws_eqForkS.f
  have h : laws_eqForkS.l0 k xs xs 0 = some true := eqForkS_loop xs hn xs.length 0 k (by omega) (by omega)
  rw [if_pos rfl, h]; rfl
/-- A node that has been marked, from a number on. -/
def mfork (x : Int) : S104 := ⟨IntKind.i8.wrap x, IntKind.i8.wrap (x + 1), ⟨IntKind.i16.wrap (x + 2), IntKind.i16.wrap (x + 3), IntKind.i16.wrap (x + 4)⟩⟩
theorem rdT_set (ys : List S104) (i : Nat) (v : S104) (h : i < ys.length) : rd_T104 (ys.set i v) (i : Int) = v := by
  simp [rd_T104, List.getD_eq_getElem?_getD, h]
theorem rdT_get (ys : List S104) (i : Nat) (h : i < ys.length) : rd_T104 ys (i : Int) = ys[i] := by
  simp [rd_T104, List.getD_eq_getElem?_getD, h]
theorem markF_one (ys : List S104) (i : Nat) (x : Int) (k : Nat) (h : i < ys.length) (hn : ys.length ≤ 4611686018427387904) (h0 : 0 ≤ x) (h1 : x ≤ 4611686018427387904) : laws_markForkS.l0 (k + 5) ys x (i : Int) = laws_markForkS.l0 k (ys.set i (mfork x)) (x + 5) ((i + 1 : Nat) : Int) := by
  have w1 : wrap64 (x + 1) = x + 1 := wrap64_id (by omega) (by omega)
  have w2 : wrap64 (x + 1 + 1) = x + 2 := by rw [wrap64_id (by omega) (by omega)]; omega
  have w3 : wrap64 (x + 2 + 1) = x + 3 := by rw [wrap64_id (by omega) (by omega)]; omega
  have w4 : wrap64 (x + 3 + 1) = x + 4 := by rw [wrap64_id (by omega) (by omega)]; omega
  have w5 : wrap64 (x + 4 + 1) = x + 5 := by rw [wrap64_id (by omega) (by omega)]; omega
  have wi : wrap64 ((i : Int) + 1) = ((i + 1 : Nat) : Int) := by rw [wrap64_id (by omega) (by omega)]; omega
  rw [laws_markForkS.l0, if_pos (by omega), if_pos (by omega), w1, w2]
  simp only [Option.bind_some, Int.toNat_natCast, List.set_set, rdT_set, h]
  rw [laws_markForkS.l1, if_pos (by omega), if_pos (by omega), if_pos (by simp; omega), if_pos rfl, w3]
  simp only [Int.toNat_natCast, List.set_set, rdT_set, h]
  rw [laws_markForkS.l1, if_pos (by omega), if_pos (by omega), if_pos (by simp; omega), if_neg (by omega), if_pos (by omega), w4]
  simp only [Int.toNat_natCast, List.set_set, rdT_set, h]
  rw [laws_markForkS.l1, if_pos (by omega), if_pos (by omega), if_pos (by simp; omega), if_neg (by omega), if_neg (by omega), if_pos (by omega), w5]
  simp only [Int.toNat_natCast, List.set_set, rdT_set, h]
  rw [laws_markForkS.l1, if_neg (by omega), wi]
  simp only [mfork]
theorem markF_loop (a : Int) (n : Nat) (h0 : 0 ≤ a) (ha : a + 5 * n ≤ 4611686018427387904) (d : Nat) : ∀ (i : Nat) (ys : List S104) (k : Nat), ys.length = n → i + d = n → (∀ j : Nat, j < i → rd_T104 ys (j : Int) = mfork (a + 5 * j)) → 5 * d < k → laws_markForkS.l0 k ys (a + 5 * i) (i : Int) = some (a + 5 * n, (List.range n).map (fun j : Nat => mfork (a + 5 * j))) := by
  induction d with
  | zero =>
    intro i ys k hl hd hj hk
    obtain ⟨k, rfl⟩ : ∃ m, k = m + 1 := ⟨k - 1, by omega⟩
    obtain rfl : i = n := by omega
    rw [laws_markForkS.l0, if_neg (by omega)]
    have e : ys = (List.range i).map (fun j : Nat => mfork (a + 5 * j)) := by
      apply List.ext_getElem (by simp [hl])
      intro j h1 h2
      have := hj j (by omega)
      rw [rdT_get _ _ h1] at this
      simpa using this
    rw [← e]
  | succ d ih =>
    intro i ys k hl hd hj hk
    obtain ⟨k, rfl⟩ : ∃ m, k = m + 5 := ⟨k - 5, by omega⟩
    rw [markF_one ys i (a + 5 * i) k (by omega) (by omega) (by omega) (by omega), show a + 5 * (i : Int) + 5 = a + 5 * ((i + 1 : Nat) : Int) by omega]
    refine ih (i + 1) _ k (by simpa using hl) (by omega) ?_ (by omega)
    intro j hji
    by_cases e : j = i
    · subst e; exact rdT_set _ _ _ (by omega)
    · have e' : ¬ i = j := fun h => e h.symm
      have := hj j (by omega)
      simpa [rd_T104, List.getD_eq_getElem?_getD, List.getElem?_set, e'] using this
/-- A list of nodes that has been marked, from 1 on. -/
def markedF (n : Nat) : List S104 := (List.range n).map (fun j : Nat => mfork (1 + 5 * j))
theorem markTree_ev (ys : List S104) (hn : ys.length ≤ 1048576) : Ev (fun k => laws_markTree.f k ys 1) (1 + 5 * ys.length, markedF ys.length) := by
  unfold laws_markTree.f
  refine Ev.bind (a := ((1 + 5 * ys.length : Int), markedF ys.length)) ⟨5 * ys.length + 1, fun k hk => ?_⟩ (Ev.now _)
  have := markF_loop 1 ys.length (by omega) (by omega) ys.length 0 ys k rfl (by omega) (fun j h => by omega) (by omega)
  simpa [laws_markForkS.f, markedF] using this
theorem heldF_one (ys : List S104) (i : Nat) (x : Int) (k : Nat) (h : i < ys.length) (hn : ys.length ≤ 4611686018427387904) (h0 : 0 ≤ x) (h1 : x ≤ 4611686018427387904) (hr : rd_T104 ys (i : Int) = mfork x) : laws_heldForkS.l0 (k + 5) ys x (i : Int) = laws_heldForkS.l0 k ys (x + 5) ((i + 1 : Nat) : Int) := by
  have w1 : wrap64 (x + 1) = x + 1 := wrap64_id (by omega) (by omega)
  have w2 : wrap64 (x + 1 + 1) = x + 2 := by rw [wrap64_id (by omega) (by omega)]; omega
  have w3 : wrap64 (x + 2 + 1) = x + 3 := by rw [wrap64_id (by omega) (by omega)]; omega
  have w4 : wrap64 (x + 3 + 1) = x + 4 := by rw [wrap64_id (by omega) (by omega)]; omega
  have w5 : wrap64 (x + 4 + 1) = x + 5 := by rw [wrap64_id (by omega) (by omega)]; omega
  have wi : wrap64 ((i : Int) + 1) = ((i + 1 : Nat) : Int) := by rw [wrap64_id (by omega) (by omega)]; omega
  have g0 : (mfork x).f0 = IntKind.i8.wrap x := rfl
  have g1 : (mfork x).f1 = IntKind.i8.wrap (x + 1) := rfl
  have g2 : (mfork x).f2.f0 = IntKind.i16.wrap (x + 2) := rfl
  have g3 : (mfork x).f2.f1 = IntKind.i16.wrap (x + 3) := rfl
  have g4 : (mfork x).f2.f2 = IntKind.i16.wrap (x + 4) := rfl
  rw [laws_heldForkS.l0, if_pos (by omega), if_pos (by omega), hr, w1, w2, if_pos g0, if_pos g1]
  rw [laws_heldForkS.l1, if_pos (by omega), if_pos (by omega), if_pos (by omega), if_pos rfl, hr, if_pos g2, w3]
  rw [laws_heldForkS.l1, if_pos (by omega), if_pos (by omega), if_pos (by omega), if_neg (by omega), if_pos (by omega), hr, if_pos g3, w4]
  rw [laws_heldForkS.l1, if_pos (by omega), if_pos (by omega), if_pos (by omega), if_neg (by omega), if_neg (by omega), if_pos (by omega), hr, if_pos g4, w5]
  rw [laws_heldForkS.l1, if_neg (by omega), wi]
theorem heldF_loop (n : Nat) (hn : n ≤ 1048576) (d : Nat) : ∀ (i k : Nat), i + d = n → 5 * d < k → laws_heldForkS.l0 k (markedF n) (1 + 5 * i) (i : Int) = some ((1 : Int) + 5 * (n : Int)) := by
  have hl : (markedF n).length = n := by simp [markedF]
  induction d with
  | zero =>
    intro i k hd hk
    obtain ⟨k, rfl⟩ : ∃ m, k = m + 1 := ⟨k - 1, by omega⟩
    rw [laws_heldForkS.l0, if_neg (by omega), show i = n by omega]
  | succ d ih =>
    intro i k hd hk
    obtain ⟨k, rfl⟩ : ∃ m, k = m + 5 := ⟨k - 5, by omega⟩
    have hr : rd_T104 (markedF n) (i : Int) = mfork (1 + 5 * i) := by rw [rdT_get _ _ (by omega)]; simp [markedF]
    rw [heldF_one _ i _ k (by omega) (by omega) (by omega) (by omega) hr, show (1 : Int) + 5 * (i : Int) + 5 = 1 + 5 * ((i + 1 : Nat) : Int) by omega]
    exact ih (i + 1) k (by omega) (by omega)
theorem heldTree_ev (n : Nat) (hn : n ≤ 1048576) : Ev (fun k => laws_heldTree.f k (markedF n) 1) (1 + 5 * n) := by
  unfold laws_heldTree.f
  refine Ev.bind (a := (1 + 5 * n : Int)) ⟨5 * n + 1, fun k hk => ?_⟩ (Ev.congr (fun k => if_neg (by omega)) (Ev.now _))
  have := heldF_loop n hn n 0 k (by omega) (by omega)
  simpa [laws_heldForkS.f] using this
theorem grow_is (a : Int) (h0 : 0 ≤ a) (h1 : a ≤ 1048576) : slices_Grow_int8_int8_nil.f a = some [] := by
  unfold slices_Grow_int8_int8_nil.f
  rw [if_neg (by omega), wrap64_id (by omega) (by omega)]
  by_cases c : a > 0
  · rw [if_pos c, if_pos h0, if_pos (by simp; omega)]
    simp only [Option.bind_some]
    rw [if_pos (by omega)]; simp
  · rw [if_neg c]
theorem concat_ev (h l : List Int) (hh : h.length ≤ 16) (hl : l.length ≤ 14) : Ev (fun k => slices_Concat_int8_int8.f k [h, l]) (h ++ l) := by
  have r0 : rd_L4 [h, l] 0 = h := rfl
  have r1 : rd_L4 [h, l] 1 = l := rfl
  have w0 : wrap64 (0 + (h.length : Int)) = (h.length : Int) := by rw [wrap64_id (by omega) (by omega)]; omega
  have w1 : wrap64 ((h.length : Int) + (l.length : Int)) = (h.length : Int) + (l.length : Int) := wrap64_id (by omega) (by omega)
  have v1 : wrap64 (0 + 1) = 1 := wrap64_id (by omega) (by omega)
  have v2 : wrap64 (1 + 1) = 2 := wrap64_id (by omega) (by omega)
  refine Ev.congr (fun k => by unfold slices_Concat_int8_int8.f; rfl) ?_
  refine Ev.step (fun k => by rw [slices_Concat_int8_int8.l0, if_pos (by simp), if_pos (by omega), if_pos (by simp), r0, w0, if_neg (by omega), v1]) ?_
  refine Ev.step (fun k => by rw [slices_Concat_int8_int8.l0, if_pos (by simp), if_pos (by omega), if_pos (by simp), r1, w1, if_neg (by omega), v2]) ?_
  refine Ev.step (fun k => by rw [slices_Concat_int8_int8.l0, if_neg (by simp), grow_is _ (by omega) (by omega)]) ?_
  simp only [Option.bind_some]
  refine Ev.step (fun k => by rw [slices_Concat_int8_int8.l1, if_pos (by simp), if_pos (by omega), if_pos (by simp), r0, if_pos (by simp; omega), v1]) ?_
  refine Ev.step (fun k => by rw [slices_Concat_int8_int8.l1, if_pos (by simp), if_pos (by omega), if_pos (by simp), r1, if_pos (by simp; omega), v2]) ?_
  refine Ev.step (fun k => by rw [slices_Concat_int8_int8.l1, if_neg (by simp)]) ?_
  exact Ev.now _
theorem at_is (h l : List Int) (hh : h.length ≤ 16) (hl : l.length ≤ 14) (i : Nat) (hi : i < h.length + l.length) : spec_l03At.f h l (i : Int) = some (rd (h ++ l) (i : Int)) := by
  unfold spec_l03At.f
  by_cases c : i < h.length
  · rw [if_pos (by omega), if_pos (by omega), rd_get _ _ c, rd_get _ _ (by simp; omega)]; simp [List.getElem_append_left, c]
  · have e : Int.tmod (wrap64 ((i : Int) - (h.length : Int))) (l.length : Int) = ((i - h.length : Nat) : Int) := by
      rw [wrap64_id (by omega) (by omega), show ((i : Int) - (h.length : Int)) = ((i - h.length : Nat) : Int) by omega, Int.tmod_eq_emod_of_nonneg (by omega), ← Int.natCast_emod, Nat.mod_eq_of_lt (by omega)]
    rw [if_neg (by omega), if_neg (by omega), e, if_pos (by omega), if_pos (by omega), rd_get _ _ (by omega), rd_get _ _ (by simp; omega)]
    simp [List.getElem_append_right, Nat.le_of_not_lt c]
/-- The node of a stream's tree with an index. -/
def nodeF (h l : List Int) (j : Nat) : S104 := ⟨2, rd (h ++ l) (j : Int), ⟨IntKind.i16.wrap (if j + 1 = h.length + l.length then (h.length : Int) else ((j + 1 : Nat) : Int)), 0, 0⟩⟩
def treeF (h l : List Int) : List S104 := (List.range (h.length + l.length)).map (nodeF h l)
theorem specTree_loop (h l : List Int) (hh : h.length ≤ 16) (hl : l.length ≤ 14) (d : Nat) : ∀ i : Nat, i + d = h.length + l.length → Ev (fun k => spec_StreamTree.l0 k ((h.length + l.length : Nat) : Int) (i : Int) h l ((List.range i).map (nodeF h l))) (treeF h l, 0) := by
  induction d with
  | zero =>
    intro i hi
    obtain rfl : i = h.length + l.length := by omega
    refine Ev.step (fun k => by rw [spec_StreamTree.l0, if_neg (by omega)]) ?_
    exact Ev.now _
  | succ d ih =>
    intro i hi
    have w1 : wrap64 ((i : Int) + 1) = ((i + 1 : Nat) : Int) := by rw [wrap64_id (by omega) (by omega)]; omega
    have hs : (List.range (i + 1)).map (nodeF h l) = (List.range i).map (nodeF h l) ++ [nodeF h l i] := by rw [List.range_succ, List.map_append]; rfl
    have hi2 := ih (i + 1) (by omega)
    rw [hs] at hi2
    by_cases c : i + 1 = h.length + l.length
    · refine Ev.step (fun k => by rw [spec_StreamTree.l0, if_pos (by omega), w1, if_pos (by omega), at_is h l hh hl i (by omega)]) ?_
      simp only [Option.bind_some]
      refine Ev.congr (fun k => if_pos (by simp; omega)) ?_
      have e : nodeF h l i = ⟨2, rd (h ++ l) (i : Int), ⟨IntKind.i16.wrap (h.length : Int), 0, 0⟩⟩ := by unfold nodeF; rw [if_pos c]
      rw [e] at hi2; exact hi2
    · refine Ev.step (fun k => by rw [spec_StreamTree.l0, if_pos (by omega), w1, if_neg (by omega), at_is h l hh hl i (by omega)]) ?_
      simp only [Option.bind_some]
      refine Ev.congr (fun k => if_pos (by simp; omega)) ?_
      have e : nodeF h l i = ⟨2, rd (h ++ l) (i : Int), ⟨IntKind.i16.wrap ((i + 1 : Nat) : Int), 0, 0⟩⟩ := by unfold nodeF; rw [if_neg c]
      rw [e] at hi2; exact hi2
def nodeG (h l : List Int) (j : Nat) : S104 := ⟨2, rd (h ++ l) (j : Int), ⟨IntKind.i16.wrap ((j + 1 : Nat) : Int), 0, 0⟩⟩
theorem implTree_loop (h l : List Int) (hh : h.length ≤ 16) (h1 : 1 ≤ l.length) (hl : l.length ≤ 14) (d : Nat) : ∀ i : Nat, i + d = h.length + l.length → Ev (fun k => impl_StreamTree.l0 k (h ++ l) (built (nodeG h l) z104 (h.length + l.length) i) (h ++ l) ((h.length + l.length : Nat) : Int) (i : Int) h l) (treeF h l, 0) := by
  induction d with
  | zero =>
    intro i hi
    obtain rfl : i = h.length + l.length := by omega
    have wl : wrap64 (((h ++ l).length : Int) - 1) = ((h.length + l.length - 1 : Nat) : Int) := by simp only [List.length_append]; rw [wrap64_id (by omega) (by omega)]; omega
    refine Ev.step (fun k => by rw [impl_StreamTree.l0, if_neg (by omega), wl, if_pos (by omega), built_all, if_pos (by simp; omega)]) ?_
    have e : ((List.range (h.length + l.length)).map (nodeG h l)).set ((h.length + l.length - 1 : Nat) : Int).toNat (⟨(rd_T104 ((List.range (h.length + l.length)).map (nodeG h l)) ((h.length + l.length - 1 : Nat) : Int)).f0, (rd_T104 ((List.range (h.length + l.length)).map (nodeG h l)) ((h.length + l.length - 1 : Nat) : Int)).f1, (⟨IntKind.i16.wrap ((h.length : Int)), (rd_T104 ((List.range (h.length + l.length)).map (nodeG h l)) ((h.length + l.length - 1 : Nat) : Int)).f2.f1, (rd_T104 ((List.range (h.length + l.length)).map (nodeG h l)) ((h.length + l.length - 1 : Nat) : Int)).f2.f2⟩ : S102)⟩ : S104) = treeF h l := by
      rw [rdT_get _ _ (by simp; omega)]
      apply List.ext_getElem (by simp [treeF])
      intro j j1 j2
      simp only [Int.toNat_natCast, List.getElem_set, List.getElem_map, List.getElem_range, treeF]
      have hj : j < h.length + l.length := by simpa [treeF] using j2
      by_cases c : h.length + l.length - 1 = j
      · rw [if_pos c]; subst c
        unfold nodeF nodeG; rw [if_pos (by omega)]
      · rw [if_neg c]; unfold nodeF nodeG; rw [if_neg (by omega)]
    rw [e]; exact Ev.now _
  | succ d ih =>
    intro i hi
    have w1 : wrap64 ((i : Int) + 1) = ((i + 1 : Nat) : Int) := by rw [wrap64_id (by omega) (by omega)]; omega
    refine Ev.step (fun k => by rw [impl_StreamTree.l0, if_pos (by omega), if_pos (by omega), if_pos (by simp; omega), w1]) ?_
    refine Ev.bind (show Ev (fun _ => impl_tells.f (rd (h ++ l) (i : Int)) (IntKind.i16.wrap ((i + 1 : Nat) : Int))) _ from Ev.now _) ?_
    refine Ev.congr (fun k => if_pos (by rw [built_length _ _ _ _ (by omega)]; omega)) ?_
    have := ih (i + 1) (by omega)
    rw [← built_set _ _ _ _ (by omega)] at this
    exact this
theorem tree_both (h l : List Int) (h1 : h.length ≤ 1048576) (h2 : l.length ≤ 1048576) : ∃ r : List S104 × Int, r.1.length ≤ 1048576 ∧ Ev (fun k => spec_StreamTree.f k h l) r ∧ Ev (fun k => impl_StreamTree.f k h l) r := by
  cases c : okS h l with
  | false =>
    refine ⟨([], 1), by simp, ?_, ?_⟩
    · refine Ev.congr (fun k => by unfold spec_StreamTree.f; rfl) (Ev.bind (specOk_ev h l h1 h2) ?_)
      rw [c]; exact Ev.now _
    · refine Ev.congr (fun k => by unfold impl_StreamTree.f; rfl) (Ev.bind (implOk_ev h l h1 h2) ?_)
      rw [c]; exact Ev.now _
  | true =>
    obtain ⟨a, b, _, _⟩ := okS_is c
    refine ⟨(treeF h l, 0), by simp [treeF]; omega, ?_, ?_⟩
    · refine Ev.congr (fun k => by unfold spec_StreamTree.f; rfl) (Ev.bind (specOk_ev h l h1 h2) ?_)
      rw [c]
      refine Ev.congr (fun k => if_pos rfl) ?_
      rw [wrap64_id (by omega) (by omega)]
      exact specTree_loop h l a b.2 (h.length + l.length) 0 (by omega)
    · refine Ev.congr (fun k => by unfold impl_StreamTree.f; rfl) (Ev.bind (implOk_ev h l h1 h2) ?_)
      rw [c]
      refine Ev.congr (fun k => if_pos rfl) ?_
      refine Ev.bind (concat_ev h l a b.2) ?_
      refine Ev.congr (fun k => if_pos (by omega)) ?_
      refine Ev.congr (fun k => if_pos (by simp; omega)) ?_
      have := implTree_loop h l a b.1 b.2 (h.length + l.length) 0 (by omega)
      rw [built_zero] at this
      rw [Int.toNat_natCast, List.length_append]
      exact this
theorem markStream_ev (h l : List Int) (h1 : h.length ≤ 1048576) (h2 : l.length ≤ 1048576) : Ev (fun k => laws_markStream.f k h l 1) (1 + h.length + l.length, marked8 h.length 1, marked8 l.length (1 + h.length)) := by
  unfold laws_markStream.f
  exact Ev.bind (markInt8S_ev h 1 (by omega) (by omega)) (Ev.bind (markInt8S_ev l (1 + h.length) (by omega) (by omega)) (Ev.now _))
theorem FnExactStreamTree : laws_FnExactStreamTree.Pure := by
  intro x ⟨⟨hx, _⟩, ⟨hy, _⟩⟩
  obtain ⟨h, l⟩ := x
  simp only at hx hy
  apply Ev.rounds (r := true)
  obtain ⟨r, hr, hb⟩ := szStream_eq h l 1048576 (by omega) (by omega) (by omega) (by omega)
  refine Ev.congr (fun k => by unfold laws_FnExactStreamTree.f; rw [hr]) ?_
  by_cases c : r < 0
  · exact Ev.congr (fun k => if_pos c) (Ev.now _)
  refine Ev.congr (fun k => if_neg c) ?_
  have n1 : h.length ≤ 1048576 := by omega
  have n2 : l.length ≤ 1048576 := by omega
  obtain ⟨⟨q1, q2⟩, m1, es, ei⟩ := tree_both h l n1 n2
  simp only at m1
  repeat' (first
    | (refine Ev.bind (toStream_ev h l n1 n2) ?_; try dsimp only)
    | (refine Ev.bind es ?_; try dsimp only)
    | (refine Ev.bind ei ?_; try dsimp only)
    | (refine Ev.bind (eqTree_ev _ (by omega)) ?_; try dsimp only)
    | (refine Ev.bind (eqStream_ev _ _ (by omega) (by omega)) ?_; try dsimp only)
    | (refine Ev.bind (markStream_ev _ _ (by omega) (by omega)) ?_; try dsimp only)
    | (refine Ev.bind (markTree_ev _ (by omega)) ?_; try dsimp only)
    | (refine Ev.bind (heldTree_ev _ (by omega)) ?_; try dsimp only)
    | exact ⟨0, fun k _ => rfl⟩
    | (refine Ev.congr (fun k => if_pos rfl) ?_; try dsimp only)
    | (refine Ev.congr (fun k => if_neg (by simp; done)) ?_; try dsimp only)
    | (refine Ev.congr (fun k => if_neg (by omega)) ?_; try dsimp only)
    | (refine Ev.congr (fun k => if_pos (by simp; done)) ?_; try dsimp only)
    | (refine Ev.congr (fun k => if_pos (by omega)) ?_; try dsimp only)
    | (refine Ev.step (fun k => by rw [laws_FnExactStreamTree.j0]) ?_; try dsimp only)
    | (refine Ev.step (fun k => by rw [laws_FnExactStreamTree.j1]) ?_; try dsimp only)
    | (refine Ev.step (fun k => by rw [laws_FnExactStreamTree.j2]) ?_; try dsimp only)
    )
end Go.Proofs.Ytfenifdigjcmiaa.Pure
