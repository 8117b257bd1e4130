/- The program's ReadStream returns what the reference's returns, for every text, in memory of its own. -/
import Derived.Test.YtfenifdigjcmiaaMFnExactReadStreamx4
import Derived.Test.YtfenifdigjcmiaaMOpen
namespace Go.Proofs.Ytfenifdigjcmiaa.Pure
open Go.RowKit Go.Proofs.Ytfenifdigjcmiaa.MFnExactReadStream Go.Proofs.Ytfenifdigjcmiaa.MOpen Go.Proofs.YtfenifdigjcmiaaW.PrintWords Go.Proofs.YtfenifdigjcmiaaW.PrintLast Go.Proofs.YtfenifdigjcmiaaW.PrintMore
set_option linter.unusedVariables false
set_option linter.unusedSimpArgs false
theorem wrap64_id {n : Int} (h0 : -9223372036854775808 ≤ n) (h1 : n ≤ 9223372036854775807) : wrap64 n = n := by
  unfold wrap64; omega
theorem rd_nat (xs : List Int) (i : Nat) : rd xs (i : Int) = xs.getD i 0 := by simp [rd]
theorem rd_get (xs : List Int) (i : Nat) (h : i < xs.length) : rd xs (i : Int) = xs[i] := by simp [rd, h]
theorem ev_k {α : Type} {f : Nat → Option α} {r : α} (n : Nat) (h : ∀ k, n ≤ k → f k = some r) : Ev f r := ⟨n, h⟩
/-- All numbers of a list are digits. -/
def dg (xs : List Int) : Bool := xs.all (fun d => decide (-1 ≤ d ∧ d ≤ 1))
theorem dg_mem {xs : List Int} (h : dg xs = true) : ∀ d ∈ xs, -1 ≤ d ∧ d ≤ 1 := by
  intro d hd
  have := List.all_eq_true.mp h d hd
  simpa using this
theorem dg_step (xs : List Int) (i : Nat) (h : i < xs.length) : dg (xs.drop i) = (decide (-1 ≤ xs[i] ∧ xs[i] ≤ 1) && dg (xs.drop (i + 1))) := by
  unfold dg
  rw [List.drop_eq_getElem_cons h, List.all_cons]
theorem specDigits_loop (xs : List Int) (hn : xs.length ≤ 4611686018427387904) (d : Nat) : ∀ (i k : Nat), i + d = xs.length → d < k → spec_l03Digits.l0 k xs (i : Int) = some (dg (xs.drop i)) := by
  induction d with
  | zero =>
    intro i k hd hk
    obtain ⟨k, rfl⟩ : ∃ m, k = m + 1 := ⟨k - 1, by omega⟩
    simp only [spec_l03Digits.l0]; rw [if_neg (by omega), List.drop_of_length_le (by omega)]; rfl
  | succ d ih =>
    intro i k hd hk
    obtain ⟨k, rfl⟩ : ∃ m, k = m + 1 := ⟨k - 1, by omega⟩
    have hi : i < xs.length := by omega
    simp only [spec_l03Digits.l0]; rw [if_pos (by omega), if_pos (by omega), rd_get _ _ hi, wrap64_id (by omega) (by omega), dg_step _ _ hi]
    have := ih (i + 1) k (by omega) (by omega)
    by_cases c1 : xs[i] < -1
    · rw [if_pos c1, decide_eq_false (by omega)]; rfl
    · by_cases c2 : xs[i] > 1
      · rw [if_neg c1, if_pos c2, decide_eq_false (by omega)]; rfl
      · rw [if_neg c1, if_neg c2, decide_eq_true (by omega)]; exact this
theorem specDigits_ev (xs : List Int) (hn : xs.length ≤ 4611686018427387904) : Ev (fun k => spec_l03Digits.f k xs) (dg xs) := by
  refine ⟨xs.length + 1, fun k hk => ?_⟩
  have := specDigits_loop xs hn xs.length 0 k (by omega) (by omega)
  exact this
theorem implDigits_loop (xs : List Int) (hn : xs.length ≤ 4611686018427387904) (d : Nat) : ∀ (i : Nat), i + d = xs.length → ∃ r : Int, decide (r ≥ 0) = !dg (xs.drop i) ∧ ∀ k, d < k → slices_IndexFunc_int8_int8_f84.l0 k xs (xs.length : Int) (i : Int) = some r := by
  induction d with
  | zero =>
    intro i hd
    refine ⟨-1, by rw [List.drop_of_length_le (by omega)]; rfl, fun k hk => ?_⟩
    obtain ⟨k, rfl⟩ : ∃ m, k = m + 1 := ⟨k - 1, by omega⟩
    simp only [slices_IndexFunc_int8_int8_f84.l0]; rw [if_neg (by omega)]
  | succ d ih =>
    intro i hd
    have hi : i < xs.length := by omega
    have hs : ∀ z : Int, impl_digitsOk_1.f z = some (!decide (-1 ≤ z ∧ z ≤ 1)) := by
      intro z; unfold impl_digitsOk_1.f impl_isDigit.f; split <;> simp <;> omega
    obtain ⟨r, hr, h⟩ := ih (i + 1) (by omega)
    by_cases c : -1 ≤ xs[i] ∧ xs[i] ≤ 1
    · refine ⟨r, by rw [hr, dg_step _ _ hi, decide_eq_true c]; rfl, fun k hk => ?_⟩
      obtain ⟨k, rfl⟩ : ∃ m, k = m + 1 := ⟨k - 1, by omega⟩
      simp only [slices_IndexFunc_int8_int8_f84.l0]
      rw [if_pos (by omega), if_pos (by omega), if_pos (by omega), hs, rd_get _ _ hi, decide_eq_true c, wrap64_id (by omega) (by omega)]
      exact h k (by omega)
    · refine ⟨(i : Int), by rw [dg_step _ _ hi, decide_eq_false c]; simp, fun k hk => ?_⟩
      obtain ⟨k, rfl⟩ : ∃ m, k = m + 1 := ⟨k - 1, by omega⟩
      simp only [slices_IndexFunc_int8_int8_f84.l0]
      rw [if_pos (by omega), if_pos (by omega), if_pos (by omega), hs, rd_get _ _ hi, decide_eq_false c]; rfl
theorem implDigits_ev (xs : List Int) (hn : xs.length ≤ 4611686018427387904) : Ev (fun k => impl_digitsOk.f k xs) (dg xs) := by
  obtain ⟨r, hr, h⟩ := implDigits_loop xs hn xs.length 0 (by omega)
  refine ⟨xs.length + 1, fun k hk => ?_⟩
  have e : slices_IndexFunc_int8_int8_f84.l0 k xs (xs.length : Int) 0 = some r := h k (by omega)
  show impl_digitsOk.f k xs = some (dg xs)
  unfold impl_digitsOk.f slices_ContainsFunc_int8_int8_f84.f slices_IndexFunc_int8_int8_f84.f
  simp only [e, Option.bind_some, hr]; simp
theorem eqInt8S_loop (xs : List Int) (hn : xs.length ≤ 4611686018427387904) (d : Nat) : ∀ (i : Nat) (k : Nat), i + d = xs.length → d < k → laws_eqInt8S.l0 k xs xs (i : Int) = some true := by
  induction d with
  | zero =>
    intro i k hd hk
    obtain ⟨k, rfl⟩ : ∃ m, k = m + 1 := ⟨k - 1, by omega⟩
    simp only [laws_eqInt8S.l0]; rw [if_neg (by omega)]
  | succ d ih =>
    intro i k hd hk
    obtain ⟨k, rfl⟩ : ∃ m, k = m + 1 := ⟨k - 1, by omega⟩
    simp only [laws_eqInt8S.l0]; rw [if_pos (by omega), if_pos (by omega), if_pos (by omega), if_pos trivial, wrap64_id (by omega) (by omega)]
    exact ih (i + 1) k (by omega) (by omega)
theorem eqInt8S_ev (xs : List Int) (hn : xs.length ≤ 4611686018427387904) : Ev (fun k => laws_eqInt8S.f k xs xs) true := by
  refine ⟨xs.length + 1, fun k hk => ?_⟩
  show laws_eqInt8S.f k xs xs = some true
  unfold laws_eqInt8S.f
  rw [if_pos rfl]
  exact eqInt8S_loop xs hn xs.length 0 k (by omega) (by omega)
/-- A list of int8 that has been marked, from a number on. -/
def marked8 (n : Nat) (a : Int) : List Int := (List.range n).map (fun j : Nat => IntKind.i8.wrap (a + (j : Int)))
theorem markInt8S_loop (d : Nat) : ∀ (i : Nat) (xs : List Int) (a : Int) (k : Nat), 0 ≤ a → a + xs.length ≤ 4611686018427387904 → i + d = xs.length → (∀ j, j < i → xs.getD j 0 = IntKind.i8.wrap (a + j)) → d < k → laws_markInt8S.l0 k xs (a + i) (i : Int) = some (a + xs.length, marked8 xs.length a) := by
  induction d with
  | zero =>
    intro i xs a k h0 ha hd hj hk
    obtain ⟨k, rfl⟩ : ∃ m, k = m + 1 := ⟨k - 1, by omega⟩
    simp only [laws_markInt8S.l0]; rw [if_neg (by omega)]
    have e : xs = marked8 xs.length a := by
      apply List.ext_getElem (by simp [marked8])
      intro j h1 h2
      have := hj j (by omega)
      simpa [marked8, List.getD_eq_getElem?_getD, List.getElem?_eq_getElem, h1, h2] using this
    rw [← e, show i = xs.length by omega]
  | succ d ih =>
    intro i xs a k h0 ha hd hj hk
    obtain ⟨k, rfl⟩ : ∃ m, k = m + 1 := ⟨k - 1, by omega⟩
    simp only [laws_markInt8S.l0]; rw [if_pos (by omega), if_pos (by omega), wrap64_id (n := a + i + 1) (by omega) (by omega), wrap64_id (n := (i : Int) + 1) (by omega) (by omega)]
    have := ih (i + 1) (xs.set i (IntKind.i8.wrap (a + i))) a k h0 (by simpa using ha) (by simp; omega) ?_ (by omega)
    · simpa [Int.add_assoc] using this
    · intro j hji
      have hjl : j < xs.length := by omega
      by_cases e : j = i
      · subst e; simp [List.getD_eq_getElem?_getD, hjl]
      · have e' : ¬ i = j := fun h => e h.symm
        have := hj j (by omega)
        simpa [List.getD_eq_getElem?_getD, List.getElem?_set, e'] using this
theorem markInt8S_ev (xs : List Int) (a : Int) (h0 : 0 ≤ a) (ha : a + xs.length ≤ 4611686018427387904) : Ev (fun k => laws_markInt8S.f k xs a) (a + xs.length, marked8 xs.length a) := by
  refine ⟨xs.length + 1, fun k hk => ?_⟩
  show laws_markInt8S.f k xs a = _
  unfold laws_markInt8S.f
  have := markInt8S_loop xs.length 0 xs a k h0 ha (by omega) (fun j h => by omega) (by omega)
  simpa using this
theorem heldInt8S_loop (n : Nat) (a : Int) (h0 : 0 ≤ a) (ha : a + n ≤ 4611686018427387904) (d : Nat) : ∀ (i : Nat) (k : Nat), i + d = n → d < k → laws_heldInt8S.l0 k (marked8 n a) (a + i) (i : Int) = some (a + n) := by
  have hl : (marked8 n a).length = n := by simp [marked8]
  induction d with
  | zero =>
    intro i k hd hk
    obtain ⟨k, rfl⟩ : ∃ m, k = m + 1 := ⟨k - 1, by omega⟩
    simp only [laws_heldInt8S.l0]; rw [if_neg (by omega), show i = n by omega]
  | succ d ih =>
    intro i k hd hk
    obtain ⟨k, rfl⟩ : ∃ m, k = m + 1 := ⟨k - 1, by omega⟩
    simp only [laws_heldInt8S.l0]; rw [if_pos (by omega), if_pos (by omega), if_pos ?_, wrap64_id (by omega) (by omega), wrap64_id (by omega) (by omega)]
    · have := ih (i + 1) k (by omega) (by omega)
      simpa [Int.add_assoc] using this
    · have hi : i < n := by omega
      rw [rd_nat]; simp [marked8, List.getD_eq_getElem?_getD, hi]
theorem heldInt8S_ev (n : Nat) (a : Int) (h0 : 0 ≤ a) (ha : a + n ≤ 4611686018427387904) : Ev (fun k => laws_heldInt8S.f k (marked8 n a) a) (a + n) := by
  refine ⟨n + 1, fun k hk => ?_⟩
  show laws_heldInt8S.f k _ a = _
  unfold laws_heldInt8S.f
  have := heldInt8S_loop n a h0 ha n 0 k (by omega) (by omega)
  simpa using this
theorem l00In_some (a b c : Int) : spec_l00In.f a b c = some (decide (b ≤ a ∧ a ≤ c)) := by
  unfold spec_l00In.f
  split <;> simp <;> omega
/-- A valid stream. -/
def okS (h l : List Int) : Bool := decide (h.length ≤ 16) && (decide (1 ≤ l.length ∧ l.length ≤ 14) && (dg h && dg l))
theorem specOk_ev (h l : List Int) (h1 : h.length ≤ 1048576) (h2 : l.length ≤ 1048576) : Ev (fun k => spec_l03Ok.f k h l) (okS h l) := by
  unfold okS
  by_cases c : (h.length : Int) ≤ 16
  · refine Ev.congr (fun k => by unfold spec_l03Ok.f; exact if_pos c) ?_
    rw [decide_eq_true (show h.length ≤ 16 by omega)]
    simp only [l00In_some, Option.bind_some, Bool.true_and]
    by_cases c2 : 1 ≤ l.length ∧ l.length ≤ 14
    · refine Ev.congr (fun k => if_pos (by simp; omega)) ?_
      rw [decide_eq_true c2, Bool.true_and]
      refine Ev.bind (specDigits_ev h (by omega)) ?_
      cases dg h with
      | false => exact Ev.now _
      | true =>
        refine Ev.congr (fun k => if_pos rfl) ?_
        refine Ev.bind (specDigits_ev l (by omega)) ?_
        rw [Bool.true_and]; exact Ev.now _
    · refine Ev.congr (fun k => if_neg (by simp; omega)) ?_
      rw [decide_eq_false c2]; exact Ev.now _
  · refine Ev.congr (fun k => by unfold spec_l03Ok.f; exact if_neg c) ?_
    rw [decide_eq_false (show ¬ h.length ≤ 16 by omega)]; exact Ev.now _
theorem implOk_ev (h l : List Int) (h1 : h.length ≤ 1048576) (h2 : l.length ≤ 1048576) : Ev (fun k => impl_ValidStream.f k h l) (okS h l) := by
  unfold okS
  by_cases c : (h.length : Int) ≤ 16
  · refine Ev.congr (fun k => by unfold impl_ValidStream.f; exact if_pos c) ?_
    rw [decide_eq_true (show h.length ≤ 16 by omega)]
    simp only [Bool.true_and]
    by_cases c2 : (l.length : Int) ≥ 1
    · refine Ev.congr (fun k => if_pos c2) ?_
      by_cases c3 : (l.length : Int) ≤ 14
      · refine Ev.congr (fun k => if_pos c3) ?_
        rw [decide_eq_true (⟨by omega, by omega⟩ : 1 ≤ l.length ∧ l.length ≤ 14), Bool.true_and]
        refine Ev.bind (implDigits_ev h (by omega)) ?_
        cases dg h with
        | false => exact Ev.now _
        | true =>
          refine Ev.congr (fun k => if_pos rfl) ?_
          refine Ev.bind (implDigits_ev l (by omega)) ?_
          rw [Bool.true_and]; exact Ev.now _
      · refine Ev.congr (fun k => if_neg c3) ?_
        rw [decide_eq_false (by omega)]; exact Ev.now _
    · refine Ev.congr (fun k => if_neg c2) ?_
      rw [decide_eq_false (by omega)]; exact Ev.now _
  · refine Ev.congr (fun k => by unfold impl_ValidStream.f; exact if_neg c) ?_
    rw [decide_eq_false (show ¬ h.length ≤ 16 by omega)]; exact Ev.now _
theorem okS_is {h l : List Int} (k : okS h l = true) : h.length ≤ 16 ∧ (1 ≤ l.length ∧ l.length ≤ 14) ∧ dg h = true ∧ dg l = true := by
  unfold okS at k
  simp only [Bool.and_eq_true, decide_eq_true_eq] at k
  exact ⟨k.1, k.2.1, k.2.2.1, k.2.2.2⟩
/-- A list of n elements of which the first i are told. -/
def built {α : Type} (g : Nat → α) (z : α) (n i : Nat) : List α := (List.range i).map g ++ List.replicate (n - i) z
theorem built_zero {α : Type} (g : Nat → α) (z : α) (n : Nat) : built g z n 0 = List.replicate n z := by simp [built]
theorem built_all {α : Type} (g : Nat → α) (z : α) (n : Nat) : built g z n n = (List.range n).map g := by simp [built]
theorem built_length {α : Type} (g : Nat → α) (z : α) (n i : Nat) (h : i ≤ n) : (built g z n i).length = n := by simp [built]; omega
theorem built_set {α : Type} (g : Nat → α) (z : α) (n i : Nat) (h : i < n) : (built g z n i).set i (g i) = built g z n (i + 1) := by
  unfold built
  rw [List.set_append_right _ _ (by simp), show n - i = (n - (i + 1)) + 1 by omega, List.replicate_succ]
  simp [List.range_succ]
/-- The digit of a sign, and whether a byte is a sign. -/
def dv (c : Int) : Int := if c = 45 then -1 else if c = 48 then 0 else 1
def dOk (c : Int) : Bool := decide (c = 45 ∨ c = 48 ∨ c = 43)
def okL (L : List Int) : Bool := L.all dOk
theorem okL_not {L : List Int} (i : Nat) (h : i < L.length) (hi : dOk L[i] = false) : okL L = false := by
  unfold okL
  rw [List.all_eq_false]
  exact ⟨L[i], List.getElem_mem h, by simp [hi]⟩
theorem take_dv (L : List Int) (i : Nat) (h : i < L.length) : (L.take (i + 1)).map dv = (L.take i).map dv ++ [dv L[i]] := by
  rw [List.take_succ_eq_append_getElem h, List.map_append]; rfl
theorem okL_take (L : List Int) (i : Nat) (h : i < L.length) (h1 : okL (L.take i) = true) (h2 : dOk L[i] = true) : okL (L.take (i + 1)) = true := by
  unfold okL at *
  rw [List.take_succ_eq_append_getElem h, List.all_append, h1]; simp [h2]
theorem bt_L (s : ByteArray) (i : Nat) (h : i < s.size) : bt s (i : Int) = (bytesOf s)[i]'(by rw [bytesOf_length]; exact h) := by
  rw [← rd_bytesOf, rd_get _ _ (by rw [bytesOf_length]; exact h)]
theorem specRead_loop (s : ByteArray) (hs : s.size ≤ 1048576) (d : Nat) : ∀ i : Nat, i + d = s.size → okL ((bytesOf s).take i) = true → ∃ xs : List Int, (okL (bytesOf s) = true → xs = (bytesOf s).map dv) ∧ Ev (fun k => spec_l03ReadDigits.l0 k s (((bytesOf s).take i).map dv) (i : Int)) (xs, okL (bytesOf s)) := by
  have hl : (bytesOf s).length = s.size := bytesOf_length s
  induction d with
  | zero =>
    intro i hi ho
    rw [List.take_of_length_le (by omega)] at ho ⊢
    refine ⟨(bytesOf s).map dv, fun _ => rfl, ?_⟩
    rw [ho]
    refine Ev.step (fun k => by rw [spec_l03ReadDigits.l0, if_neg (by omega)]) ?_
    exact Ev.now _
  | succ d ih =>
    intro i hi ho
    have hi2 : i < (bytesOf s).length := by omega
    have w1 : wrap64 ((i : Int) + 1) = ((i + 1 : Nat) : Int) := by rw [wrap64_id (by omega) (by omega)]; omega
    have hlen : (((bytesOf s).take i).map dv).length < 140737488355328 := by simp; omega
    have next : dOk (bytesOf s)[i] = true → ∃ xs : List Int, (okL (bytesOf s) = true → xs = (bytesOf s).map dv) ∧ Ev (fun k => spec_l03ReadDigits.l0 k s (((bytesOf s).take i).map dv ++ [dv (bytesOf s)[i]]) ((i + 1 : Nat) : Int)) (xs, okL (bytesOf s)) := by
      intro h
      have := ih (i + 1) (by omega) (okL_take _ _ hi2 ho h)
      rw [take_dv _ _ hi2] at this
      exact this
    have hb := bt_L s i (by omega)
    by_cases c1 : (bytesOf s)[i] = 45
    · obtain ⟨xs, hx, hev⟩ := next (by simp [dOk, c1])
      refine ⟨xs, hx, Ev.step (fun k => by rw [spec_l03ReadDigits.l0, if_pos (by omega), if_pos (by omega), hb, if_pos c1, if_pos hlen, w1]) ?_⟩
      rw [show dv (bytesOf s)[i] = -1 by unfold dv; rw [if_pos c1]] at hev
      exact hev
    by_cases c2 : (bytesOf s)[i] = 48
    · obtain ⟨xs, hx, hev⟩ := next (by simp [dOk, c2])
      refine ⟨xs, hx, Ev.step (fun k => by rw [spec_l03ReadDigits.l0, if_pos (by omega), if_pos (by omega), hb, if_neg c1, if_pos c2, if_pos hlen, w1]) ?_⟩
      rw [show dv (bytesOf s)[i] = 0 by unfold dv; rw [if_neg c1, if_pos c2]] at hev
      exact hev
    by_cases c3 : (bytesOf s)[i] = 43
    · obtain ⟨xs, hx, hev⟩ := next (by simp [dOk, c3])
      refine ⟨xs, hx, Ev.step (fun k => by rw [spec_l03ReadDigits.l0, if_pos (by omega), if_pos (by omega), hb, if_neg c1, if_neg c2, if_pos c3, if_pos hlen, w1]) ?_⟩
      rw [show dv (bytesOf s)[i] = 1 by unfold dv; rw [if_neg c1, if_neg c2]] at hev
      exact hev
    · have hn : okL (bytesOf s) = false := okL_not i hi2 (by simp [dOk, c1, c2, c3])
      rw [hn]
      refine ⟨((bytesOf s).take i).map dv, by simp, Ev.step (fun k => by rw [spec_l03ReadDigits.l0, if_pos (by omega), if_pos (by omega), hb, if_neg c1, if_neg c2, if_neg c3]) (Ev.now _)⟩
theorem specRead_ev (s : ByteArray) (hs : s.size ≤ 1048576) : ∃ xs : List Int, (okL (bytesOf s) = true → xs = (bytesOf s).map dv) ∧ Ev (fun k => spec_l03ReadDigits.f k s) (xs, okL (bytesOf s)) :=
  specRead_loop s hs s.size 0 (by omega) rfl
theorem toU8_eq (c : Int) (h0 : 0 ≤ c) (h1 : c ≤ 255) (n : Nat) (hn : n < 256) : (n.toUInt8 == c.toNat.toUInt8) = decide (c = n) := by
  rw [Bool.eq_iff_iff]
  simp only [beq_iff_eq, decide_eq_true_eq]
  constructor
  · intro h
    have := congrArg UInt8.toNat h
    simp [Nat.toUInt8] at this
    omega
  · intro h
    have : c.toNat = n := by omega
    rw [this]
theorem idx3 (c : Int) (h0 : 0 ≤ c) (h1 : c ≤ 255) : idxB (⟨#[45, 48, 43]⟩ : ByteArray) c = if c = 45 then 0 else if c = 48 then 1 else if c = 43 then 2 else -1 := by
  have e1 : ((45 : UInt8) == c.toNat.toUInt8) = decide (c = 45) := toU8_eq c h0 h1 45 (by decide)
  have e2 : ((48 : UInt8) == c.toNat.toUInt8) = decide (c = 48) := toU8_eq c h0 h1 48 (by decide)
  have e3 : ((43 : UInt8) == c.toNat.toUInt8) = decide (c = 43) := toU8_eq c h0 h1 43 (by decide)
  show Go.Lib.indexByte [45, 48, 43] c.toNat.toUInt8 = _
  simp only [Go.Lib.indexByte, e1, e2, e3]
  by_cases c1 : c = 45
  · simp [c1]
  · by_cases c2 : c = 48
    · simp [c2]
    · by_cases c3 : c = 43
      · simp [c3]
      · simp [c1, c2, c3]
theorem implRead_loop (s : ByteArray) (hs : s.size ≤ 1048576) (d : Nat) : ∀ i : Nat, i + d = s.size → okL ((bytesOf s).take i) = true → ∃ xs : List Int, (okL (bytesOf s) = true → xs = (bytesOf s).map dv) ∧ Ev (fun k => impl_readDigits.l0 k s (built (fun j : Nat => dv (rd (bytesOf s) (j : Int))) 0 s.size i) (s.size : Int) (i : Int)) (xs, okL (bytesOf s)) := by
  have hl : (bytesOf s).length = s.size := bytesOf_length s
  induction d with
  | zero =>
    intro i hi ho
    obtain rfl : i = s.size := by omega
    rw [List.take_of_length_le (by omega)] at ho
    have e : (List.range s.size).map (fun j : Nat => dv (rd (bytesOf s) (j : Int))) = (bytesOf s).map dv := by
      apply List.ext_getElem (by simp [hl])
      intro j h1 h2
      have hj : j < (bytesOf s).length := by simpa using h2
      simp [rd_get _ _ hj]
    refine ⟨(bytesOf s).map dv, fun _ => rfl, ?_⟩
    rw [ho, built_all, e]
    refine Ev.step (fun k => by rw [impl_readDigits.l0, if_neg (by omega)]) ?_
    exact Ev.now _
  | succ d ih =>
    intro i hi ho
    have hi2 : i < (bytesOf s).length := by omega
    have w1 : wrap64 ((i : Int) + 1) = ((i + 1 : Nat) : Int) := by rw [wrap64_id (by omega) (by omega)]; omega
    have hb := bt_range s (i : Int)
    have he := bt_L s i (by omega)
    have hblen : (built (fun j : Nat => dv (rd (bytesOf s) (j : Int))) 0 s.size i).length = s.size := built_length _ _ _ _ (by omega)
    have hstr : strings_IndexByte.f (⟨#[45, 48, 43]⟩ : ByteArray) (bt s (i : Int)) = some (if bt s (i : Int) = 45 then 0 else if bt s (i : Int) = 48 then 1 else if bt s (i : Int) = 43 then 2 else -1) := by
      unfold strings_IndexByte.f stringslite_IndexByte.f
      rw [idx3 _ hb.1 hb.2]; rfl
    have step : ∀ t : Int, dOk (bytesOf s)[i] = true → strings_IndexByte.f (⟨#[45, 48, 43]⟩ : ByteArray) (bt s (i : Int)) = some t → 0 ≤ t → IntKind.i8.wrap (wrap64 (t - 1)) = dv (bytesOf s)[i] → ∃ xs : List Int, (okL (bytesOf s) = true → xs = (bytesOf s).map dv) ∧ Ev (fun k => impl_readDigits.l0 k s (built (fun j : Nat => dv (rd (bytesOf s) (j : Int))) 0 s.size i) (s.size : Int) (i : Int)) (xs, okL (bytesOf s)) := by
      intro t h1 h2 h3 h4
      obtain ⟨xs, hx, hev⟩ := ih (i + 1) (by omega) (okL_take _ _ hi2 ho h1)
      refine ⟨xs, hx, ?_⟩
      rw [← built_set _ _ _ _ (by omega), rd_get _ _ hi2] at hev
      refine Ev.step (fun k => by rw [impl_readDigits.l0, if_pos (by omega), if_pos (by omega), if_pos (by omega), h2, w1]) ?_
      simp only [Option.bind_some]
      refine Ev.congr (fun k => if_neg (by omega)) (Ev.congr (fun k => if_pos (by omega)) ?_)
      rw [h4, Int.toNat_natCast]
      exact hev
    by_cases c1 : (bytesOf s)[i] = 45
    · exact step 0 (by simp [dOk, c1]) (by rw [hstr, he, if_pos c1]) (by omega) (by rw [c1, wrap64_id (by omega) (by omega)]; rfl)
    by_cases c2 : (bytesOf s)[i] = 48
    · exact step 1 (by simp [dOk, c2]) (by rw [hstr, he, if_neg c1, if_pos c2]) (by omega) (by rw [c2, wrap64_id (by omega) (by omega)]; rfl)
    by_cases c3 : (bytesOf s)[i] = 43
    · exact step 2 (by simp [dOk, c3]) (by rw [hstr, he, if_neg c1, if_neg c2, if_pos c3]) (by omega) (by rw [c3, wrap64_id (by omega) (by omega)]; rfl)
    · have hn : okL (bytesOf s) = false := okL_not i hi2 (by simp [dOk, c1, c2, c3])
      rw [hn]
      refine ⟨[], by simp, Ev.step (fun k => by rw [impl_readDigits.l0, if_pos (by omega), if_pos (by omega), if_pos (by omega), hstr, he, if_neg c1, if_neg c2, if_neg c3]) ?_⟩
      simp only [Option.bind_some]
      exact Ev.congr (fun k => if_pos (by omega)) (Ev.now _)
theorem implRead_ev (s : ByteArray) (hs : s.size ≤ 1048576) : ∃ xs : List Int, (okL (bytesOf s) = true → xs = (bytesOf s).map dv) ∧ Ev (fun k => impl_readDigits.f k s) (xs, okL (bytesOf s)) := by
  obtain ⟨xs, hx, hev⟩ := implRead_loop s hs s.size 0 (by omega) rfl
  refine ⟨xs, hx, Ev.congr (fun k => by unfold impl_readDigits.f; rw [if_pos (by omega), if_pos (by omega)]) ?_⟩
  simp only [Option.bind_some, Int.toNat_natCast, List.length_replicate]
  rw [built_zero] at hev
  exact hev
theorem indexB_spec (l : List UInt8) (c : UInt8) : (Go.Lib.indexByte l c = -1 ∧ ∀ j (h : j < l.length), l[j] ≠ c) ∨ ∃ p, ∃ h : p < l.length, Go.Lib.indexByte l c = (p : Int) ∧ l[p] = c ∧ ∀ j (h : j < l.length), j < p → l[j] ≠ c := by
  induction l with
  | nil => exact Or.inl ⟨rfl, fun j h => absurd h (by simp)⟩
  | cons b l ih =>
    unfold Go.Lib.indexByte
    by_cases hb : (b == c) = true
    · rw [if_pos hb]
      exact Or.inr ⟨0, by simp, rfl, by simpa using hb, fun j _ h => absurd h (by omega)⟩
    · rw [if_neg hb]
      have hb2 : b ≠ c := by simpa using hb
      rcases ih with ⟨e, h⟩ | ⟨p, hp, e, h1, h2⟩
      · rw [e]
        refine Or.inl ⟨rfl, fun j hj => ?_⟩
        cases j with
        | zero => exact hb2
        | succ j => exact h j (by simpa using hj)
      · rw [e, if_neg (by simp)]
        refine Or.inr ⟨p + 1, by simp; omega, by omega, h1, fun j hj hlt => ?_⟩
        cases j with
        | zero => exact hb2
        | succ j => exact h2 j (by simpa using hj) (by omega)
theorem bytes_at (s : ByteArray) (j : Nat) (h : j < s.data.toList.length) : (bytesOf s)[j]'(by rw [bytesOf_length, ← data_length]; exact h) = ((s.data.toList[j]).toNat : Int) := by
  simp [bytesOf]
theorem is58 (b : UInt8) : (b.toNat : Int) = 58 ↔ b = (58 : Int).toNat.toUInt8 := by
  constructor
  · intro h
    apply UInt8.toNat_inj.mp
    have : ((58 : Int).toNat.toUInt8).toNat = 58 := by decide
    omega
  · intro h; rw [h]; decide
theorem idx_spec (s : ByteArray) : (idxB s 58 = -1 ∧ ∀ j : Nat, j < s.size → bt s (j : Int) ≠ 58) ∨ ∃ p : Nat, p < s.size ∧ idxB s 58 = (p : Int) ∧ bt s (p : Int) = 58 ∧ ∀ j : Nat, j < p → bt s (j : Int) ≠ 58 := by
  have hl : s.data.toList.length = s.size := data_length s
  have hb : ∀ j (h : j < s.size), bt s (j : Int) = ((s.data.toList[j]'(by omega)).toNat : Int) := fun j h => (bt_L s j h).trans (bytes_at s j (by omega))
  rcases indexB_spec s.data.toList (58 : Int).toNat.toUInt8 with ⟨e, h⟩ | ⟨p, hp, e, h1, h2⟩
  · refine Or.inl ⟨e, fun j hj => ?_⟩
    rw [hb j hj]
    exact fun z => h j (by omega) ((is58 _).mp z)
  · refine Or.inr ⟨p, by omega, e, ?_, fun j hj => ?_⟩
    · rw [hb p (by omega)]; exact (is58 _).mpr h1
    · rw [hb j (by omega)]
      exact fun z => h2 j (by omega) hj ((is58 _).mp z)
theorem index_is (s : ByteArray) : stringslite_Index_s58.f s = some (idxB s 58) := by
  unfold stringslite_Index_s58.f stringslite_IndexByte.f
  by_cases c : ([58] : List UInt8) = s.toList
  · rw [if_pos c]
    have : s.data.toList = [58] := by rw [← Go.Lib.toList_data]; exact c.symm
    unfold idxB; rw [this]; rfl
  · rw [if_neg c]; rfl
theorem cut_none (s : ByteArray) (h : idxB s 58 = -1) : strings_Cut_s58.f s = some (s, (⟨#[]⟩ : ByteArray), false) := by
  unfold strings_Cut_s58.f stringslite_Cut_s58.f
  rw [index_is, h]; rfl
theorem cut_some (s : ByteArray) (hs : s.size ≤ 1048576) (p : Nat) (hp : p < s.size) (h : idxB s 58 = (p : Int)) : strings_Cut_s58.f s = some (s.extract 0 p, s.extract (p + 1) s.size, true) := by
  have w : wrap64 ((p : Int) + 1) = ((p + 1 : Nat) : Int) := by rw [wrap64_id (by omega) (by omega)]; omega
  unfold strings_Cut_s58.f stringslite_Cut_s58.f
  rw [index_is, h]
  simp only [Option.bind_some]
  rw [if_pos (by omega), if_pos (by omega), if_pos (by omega), w, if_pos (by omega), if_pos (by omega), Int.toNat_natCast, Int.toNat_natCast]; rfl
theorem split_skip (s : ByteArray) (hs : s.size ≤ 1048576) (ws : List ByteArray) (b : Int) (r : List ByteArray) (d : Nat) : ∀ i j : Nat, i + d = j → j ≤ s.size → (∀ m : Nat, i ≤ m → m < j → bt s (m : Int) ≠ 58) → Ev (fun k => spec_l01Split.l0 k s 58 ws b (j : Int)) r → Ev (fun k => spec_l01Split.l0 k s 58 ws b (i : Int)) r := by
  induction d with
  | zero => intro i j h _ _ hr; obtain rfl : i = j := by omega
            exact hr
  | succ d ih =>
    intro i j h hj hm hr
    refine Ev.step (fun k => by rw [spec_l01Split.l0, if_pos (by omega), if_pos (by omega), if_neg (hm i (Nat.le_refl _) (by omega)), wrap64_id (n := (i : Int) + 1) (by omega) (by omega), show (i : Int) + 1 = ((i + 1 : Nat) : Int) from rfl]) ?_
    exact ih (i + 1) j (by omega) hj (fun m h1 h2 => hm m (by omega) h2) hr
theorem split_hit (s : ByteArray) (hs : s.size ≤ 1048576) (ws : List ByteArray) (hw : ws.length ≤ 1048576) (b p : Nat) (hb : b ≤ p) (hp : p < s.size) (h : bt s (p : Int) = 58) (r : List ByteArray) (hr : Ev (fun k => spec_l01Split.l0 k s 58 (ws ++ [s.extract b p]) ((p + 1 : Nat) : Int) ((p + 1 : Nat) : Int)) r) : Ev (fun k => spec_l01Split.l0 k s 58 ws (b : Int) (p : Int)) r := by
  refine Ev.step (fun k => by rw [spec_l01Split.l0, if_pos (by omega), if_pos (by omega), if_pos h, if_pos (by omega), if_pos (by omega), if_pos (by omega), if_pos (by omega), wrap64_id (n := (p : Int) + 1) (by omega) (by omega), show (p : Int) + 1 = ((p + 1 : Nat) : Int) from rfl, Int.toNat_natCast, Int.toNat_natCast]) ?_
  exact hr
theorem split_end (s : ByteArray) (hs : s.size ≤ 1048576) (ws : List ByteArray) (hw : ws.length ≤ 1048576) (b : Nat) (hb : b ≤ s.size) : Ev (fun k => spec_l01Split.l0 k s 58 ws (b : Int) (s.size : Int)) (ws ++ [s.extract b s.size]) := by
  refine Ev.step (fun k => by rw [spec_l01Split.l0, if_neg (by omega), if_pos (by omega), if_pos (by omega), if_pos (by omega), Int.toNat_natCast]) ?_
  exact Ev.now _
theorem split_more (s : ByteArray) (hs : s.size ≤ 1048576) (d : Nat) : ∀ (i b : Nat) (ws : List ByteArray), i + d = s.size → b ≤ i → ws.length ≤ i → ∃ q : List ByteArray, ws.length + 1 ≤ q.length ∧ Ev (fun k => spec_l01Split.l0 k s 58 ws (b : Int) (i : Int)) q := by
  induction d with
  | zero =>
    intro i b ws hi hb hw
    obtain rfl : i = s.size := by omega
    exact ⟨_, by simp, split_end s hs ws (by omega) b (by omega)⟩
  | succ d ih =>
    intro i b ws hi hb hw
    by_cases c : bt s (i : Int) = 58
    · obtain ⟨q, hq, he⟩ := ih (i + 1) (i + 1) (ws ++ [s.extract b i]) (by omega) (by omega) (by simp; omega)
      exact ⟨q, by simp at hq; omega, split_hit s hs ws (by omega) b i hb (by omega) c q he⟩
    · obtain ⟨q, hq, he⟩ := ih (i + 1) b ws (by omega) (by omega) (by omega)
      exact ⟨q, hq, split_skip s hs ws b q 1 i (i + 1) rfl (by omega) (fun m h1 h2 => by obtain rfl : m = i := by omega
                                                                                         exact c) he⟩
theorem extract_size (s : ByteArray) (a b : Nat) (h : a ≤ b) (hb : b ≤ s.size) : (s.extract a b).size = b - a := by
  rw [← bytesOf_length]
  have : (bytesOf (s.extract a b)) = ((bytesOf s).drop a).take (b - a) := by
    unfold bytesOf; rw [Go.Lib.extract_data, List.map_take, List.map_drop]
  rw [this]; simp [bytesOf_length]; omega
theorem rest_bad (s : ByteArray) (p p2 : Nat) (h1 : p < p2) (h2 : p2 < s.size) (h : bt s (p2 : Int) = 58) : okL (bytesOf (s.extract (p + 1) s.size)) = false := by
  have hl : (bytesOf s).length = s.size := bytesOf_length s
  have e : (bytesOf (s.extract (p + 1) s.size)) = ((bytesOf s).drop (p + 1)).take (s.size - (p + 1)) := by
    unfold bytesOf; rw [Go.Lib.extract_data, List.map_take, List.map_drop]
  rw [bt_L s p2 h2] at h
  rw [e]
  refine okL_not (p2 - (p + 1)) (by simp; omega) ?_
  have : (((bytesOf s).drop (p + 1)).take (s.size - (p + 1)))[p2 - (p + 1)]'(by simp; omega) = (bytesOf s)[p2]'(by omega) := by
    simp only [List.getElem_take, List.getElem_drop]
    congr 1; omega
  rw [this, h]; rfl
theorem okS_nil (xs : List Int) : okS xs [] = false := by
  unfold okS; simp
theorem readStream_both (s : ByteArray) (hs : s.size ≤ 1048576) : ∃ r : List Int × List Int × Int, (r.1.length ≤ 1048576 ∧ r.2.1.length ≤ 1048576) ∧ Ev (fun k => spec_ReadStream.f k s) r ∧ Ev (fun k => impl_ReadStream.f k s) r := by
  rcases idx_spec s with ⟨e, h⟩ | ⟨p, hp, e, h58, h⟩
  · refine ⟨([], [], 5), by simp, ?_, ?_⟩
    · refine Ev.congr (fun k => by unfold spec_ReadStream.f; rfl) ?_
      refine Ev.bind (show Ev (fun k => spec_l01Split.f k s 58) _ from split_skip s hs [] 0 _ s.size 0 s.size (by omega) (by omega) (fun m _ h2 => h m h2) (split_end s hs [] (Nat.zero_le _) 0 (by omega))) ?_
      exact Ev.congr (fun k => if_neg (show ¬ ((([] : List ByteArray) ++ [s.extract 0 s.size]).length : Int) = 2 by simp)) (Ev.now _)
    · obtain ⟨xs, hx, e1⟩ := implRead_ev s hs
      obtain ⟨ys, hy, e2⟩ := implRead_ev (⟨#[]⟩ : ByteArray) (Nat.zero_le _)
      have hy2 : ys = [] := by rw [hy rfl]; rfl
      have hxl : okL (bytesOf s) = true → xs.length ≤ 1048576 := by intro z; rw [hx z, List.length_map, bytesOf_length]; omega
      refine Ev.congr (fun k => by unfold impl_ReadStream.f; rw [cut_none s e]) ?_
      simp only [Option.bind_some]
      refine Ev.bind e1 (Ev.bind e2 ?_)
      dsimp only
      cases c : okL (bytesOf s) with
      | false => exact Ev.congr (fun k => if_neg (by decide)) (Ev.now _)
      | true =>
        refine Ev.congr (fun k => if_pos rfl) (Ev.congr (fun k => if_pos rfl) ?_)
        subst hy2
        refine Ev.bind (implOk_ev xs [] (hxl c) (by simp)) ?_
        rw [okS_nil]; exact Ev.now _
  · have hh : (s.extract 0 p).size = p := by rw [extract_size _ _ _ (by omega) (by omega)]; omega
    have hr : (s.extract (p + 1) s.size).size = s.size - (p + 1) := extract_size _ _ _ (by omega) (by omega)
    obtain ⟨xs, hx, e1⟩ := implRead_ev (s.extract 0 p) (by omega)
    obtain ⟨ys, hy, e2⟩ := implRead_ev (s.extract (p + 1) s.size) (by omega)
    obtain ⟨xs2, hx2, e3⟩ := specRead_ev (s.extract 0 p) (by omega)
    obtain ⟨ys2, hy2, e4⟩ := specRead_ev (s.extract (p + 1) s.size) (by omega)
    have impl_go : ∀ r, Ev (fun k => (if okL (bytesOf (s.extract 0 p)) = true then (if okL (bytesOf (s.extract (p + 1) s.size)) = true then ((impl_ValidStream.f k xs ys).bind fun t191 => (if t191 = true then (some (xs, ys, (0 : Int))) else (some (([] : List Int), ([] : List Int), 5)))) else (some (([] : List Int), ([] : List Int), 5))) else (some (([] : List Int), ([] : List Int), 5)))) r → Ev (fun k => impl_ReadStream.f k s) r := by
      intro r hr2
      refine Ev.congr (fun k => by unfold impl_ReadStream.f; rw [cut_some s hs p hp e]) ?_
      simp only [Option.bind_some]
      exact Ev.bind e1 (Ev.bind e2 hr2)
    by_cases c2 : ∃ p2 : Nat, p < p2 ∧ p2 < s.size ∧ bt s (p2 : Int) = 58
    · obtain ⟨p2, a1, a2, a3⟩ := c2
      have hbad := rest_bad s p p2 a1 a2 a3
      refine ⟨([], [], 5), by simp, ?_, ?_⟩
      · obtain ⟨p3, b1, b2, b3, b4⟩ : ∃ p3 : Nat, p < p3 ∧ p3 ≤ p2 ∧ bt s (p3 : Int) = 58 ∧ ∀ m : Nat, p + 1 ≤ m → m < p3 → bt s (m : Int) ≠ 58 := by
          have key : ∀ d q : Nat, q + d = p2 → p < q → (∀ m : Nat, p + 1 ≤ m → m < q → bt s (m : Int) ≠ 58) → ∃ p3 : Nat, p < p3 ∧ p3 ≤ p2 ∧ bt s (p3 : Int) = 58 ∧ ∀ m : Nat, p + 1 ≤ m → m < p3 → bt s (m : Int) ≠ 58 := by
            intro d
            induction d with
            | zero => intro q hq hpq hm; obtain rfl : q = p2 := by omega
                      exact ⟨q, hpq, by omega, a3, hm⟩
            | succ d ih =>
              intro q hq hpq hm
              by_cases z : bt s (q : Int) = 58
              · exact ⟨q, hpq, by omega, z, hm⟩
              · refine ih (q + 1) (by omega) (by omega) (fun m h1 h2 => ?_)
                by_cases zz : m = q
                · subst zz; exact z
                · exact hm m h1 (by omega)
          exact key (p2 - (p + 1)) (p + 1) (by omega) (by omega) (fun m h1 h2 => by omega)
        obtain ⟨q, hq, he⟩ := split_more s hs (s.size - (p3 + 1)) (p3 + 1) (p3 + 1) ([s.extract 0 p] ++ [s.extract (p + 1) p3]) (by omega) (by omega) (by simp; omega)
        refine Ev.congr (fun k => by unfold spec_ReadStream.f; rfl) ?_
        refine Ev.bind (show Ev (fun k => spec_l01Split.f k s 58) q from ?_) ?_
        · refine split_skip s hs [] 0 _ p 0 p (by omega) (by omega) (fun m _ h2 => h m h2) (split_hit s hs [] (Nat.zero_le _) 0 p (by omega) hp h58 _ ?_)
          exact split_skip s hs _ _ _ (p3 - (p + 1)) (p + 1) p3 (by omega) (by omega) b4 (split_hit s hs _ (by simp) (p + 1) p3 (by omega) (by omega) b3 _ he)
        · exact Ev.congr (fun k => if_neg (by simp at hq; omega)) (Ev.now _)
      · refine impl_go _ ?_
        rw [hbad]
        cases c : okL (bytesOf (s.extract 0 p)) with
        | false => exact Ev.congr (fun k => if_neg (by decide)) (Ev.now _)
        | true => exact Ev.congr (fun k => if_pos rfl) (Ev.congr (fun k => if_neg (by decide)) (Ev.now _))
    · have hsp : Ev (fun k => spec_l01Split.f k s 58) [s.extract 0 p, s.extract (p + 1) s.size] := by
        refine split_skip s hs [] 0 _ p 0 p (by omega) (by omega) (fun m _ h2 => h m h2) (split_hit s hs [] (Nat.zero_le _) 0 p (by omega) hp h58 _ ?_)
        exact split_skip s hs _ _ _ (s.size - (p + 1)) (p + 1) s.size (by omega) (by omega) (fun m h1 h2 z => c2 ⟨m, by omega, h2, z⟩) (split_end s hs _ (by simp) (p + 1) (by omega))
      have spec_go : ∀ r, Ev (fun k => (if okL (bytesOf (s.extract 0 p)) = true then (if okL (bytesOf (s.extract (p + 1) s.size)) = true then ((spec_l03Ok.f k xs2 ys2).bind fun t158 => (if t158 = true then (some (xs2, ys2, (0 : Int))) else (some (([] : List Int), ([] : List Int), 5)))) else (some (([] : List Int), ([] : List Int), 5))) else (some (([] : List Int), ([] : List Int), 5)))) r → Ev (fun k => spec_ReadStream.f k s) r := by
        intro r hr2
        refine Ev.congr (fun k => by unfold spec_ReadStream.f; rfl) ?_
        refine Ev.bind hsp ?_
        refine Ev.congr (fun k => if_pos (by simp)) (Ev.congr (fun k => if_pos (by simp)) ?_)
        refine Ev.bind e3 (Ev.congr (fun k => if_pos (by simp)) (Ev.bind e4 ?_))
        exact hr2
      cases c3 : okL (bytesOf (s.extract 0 p)) with
      | false =>
        refine ⟨([], [], 5), by simp, spec_go _ ?_, impl_go _ ?_⟩
        · rw [c3]; exact Ev.now _
        · rw [c3]; exact Ev.now _
      | true =>
        cases c4 : okL (bytesOf (s.extract (p + 1) s.size)) with
        | false =>
          refine ⟨([], [], 5), by simp, spec_go _ ?_, impl_go _ ?_⟩
          · rw [c3, c4]; exact Ev.now _
          · rw [c3, c4]; exact Ev.now _
        | true =>
          have l1 : xs.length ≤ 1048576 := by rw [hx c3, List.length_map, bytesOf_length]; omega
          have l2 : ys.length ≤ 1048576 := by rw [hy c4, List.length_map, bytesOf_length]; omega
          have ex : xs2 = xs := by rw [hx c3, hx2 c3]
          have ey : ys2 = ys := by rw [hy c4, hy2 c4]
          subst ex; subst ey
          cases c5 : okS xs2 ys2 with
          | false =>
            refine ⟨([], [], 5), by simp, spec_go _ ?_, impl_go _ ?_⟩
            · rw [c3, c4]
              refine Ev.congr (fun k => if_pos rfl) (Ev.congr (fun k => if_pos rfl) (Ev.bind (specOk_ev _ _ l1 l2) ?_))
              rw [c5]; exact Ev.now _
            · rw [c3, c4]
              refine Ev.congr (fun k => if_pos rfl) (Ev.congr (fun k => if_pos rfl) (Ev.bind (implOk_ev _ _ l1 l2) ?_))
              rw [c5]; exact Ev.now _
          | true =>
            refine ⟨(xs2, ys2, 0), ⟨l1, l2⟩, spec_go _ ?_, impl_go _ ?_⟩
            · rw [c3, c4]
              refine Ev.congr (fun k => if_pos rfl) (Ev.congr (fun k => if_pos rfl) (Ev.bind (specOk_ev _ _ l1 l2) ?_))
              rw [c5]; exact Ev.now _
            · rw [c3, c4]
              refine Ev.congr (fun k => if_pos rfl) (Ev.congr (fun k => if_pos rfl) (Ev.bind (implOk_ev _ _ l1 l2) ?_))
              rw [c5]; exact Ev.now _
theorem markStream_ev (h l : List Int) (h1 : h.length ≤ 1048576) (h2 : l.length ≤ 1048576) : Ev (fun k => laws_markStream.f k h l 1) (1 + h.length + l.length, marked8 h.length 1, marked8 l.length (1 + h.length)) := by
  unfold laws_markStream.f
  exact Ev.bind (markInt8S_ev h 1 (by omega) (by omega)) (Ev.bind (markInt8S_ev l (1 + h.length) (by omega) (by omega)) (Ev.now _))
theorem heldStream_ev (m n : Nat) (h1 : m ≤ 1048576) (h2 : n ≤ 1048576) : Ev (fun k => laws_heldStream.f k (marked8 m 1) (marked8 n (1 + m)) 1) (1 + m + n) := by
  unfold laws_heldStream.f
  refine Ev.bind (heldInt8S_ev m 1 (by omega) (by omega)) (Ev.congr (fun k => if_neg (by omega)) ?_)
  exact Ev.bind (heldInt8S_ev n (1 + m) (by omega) (by omega)) (Ev.congr (fun k => if_neg (by omega)) (Ev.now _))
theorem eqStream_ev (h l : List Int) (h1 : h.length ≤ 1048576) (h2 : l.length ≤ 1048576) : Ev (fun k => laws_eqStream.f k h l h l) true := by
  unfold laws_eqStream.f
  refine Ev.bind (eqInt8S_ev h (by omega)) (Ev.congr (fun k => if_pos rfl) ?_)
  exact Ev.bind (eqInt8S_ev l (by omega)) (Ev.congr (fun k => if_pos rfl) (Ev.now _))
theorem FnExactReadStream : laws_FnExactReadStream.Pure := by
  intro s _
  apply Ev.rounds (r := true)
  refine Ev.congr (fun k => by unfold laws_FnExactReadStream.f; rfl) ?_
  by_cases c : (s.size : Int) > 1048576
  · exact Ev.congr (fun k => if_pos c) (Ev.now _)
  refine Ev.congr (fun k => if_neg c) ?_
  obtain ⟨⟨q1, q2, q3⟩, ⟨m1, m2⟩, es, ei⟩ := readStream_both s (by omega)
  simp only at m1 m2
  repeat' (first
    | (refine Ev.bind es ?_; try dsimp only)
    | (refine Ev.bind ei ?_; try dsimp only)
    | (refine Ev.bind (eqStream_ev _ _ (by omega) (by omega)) ?_; try dsimp only)
    | (refine Ev.bind (markStream_ev _ _ (by omega) (by omega)) ?_; try dsimp only)
    | (refine Ev.bind (heldStream_ev _ _ (by omega) (by omega)) ?_; try dsimp only)
    | exact ⟨0, fun k _ => rfl⟩
    | (refine Ev.congr (fun k => if_pos rfl) ?_; try dsimp only)
    | (refine Ev.congr (fun k => if_neg (by simp; done)) ?_; try dsimp only)
    | (refine Ev.congr (fun k => if_neg (by omega)) ?_; try dsimp only)
    | (refine Ev.congr (fun k => if_pos (by simp; done)) ?_; try dsimp only)
    | (refine Ev.congr (fun k => if_pos (by omega)) ?_; try dsimp only)
    | (refine Ev.step (fun k => by rw [laws_FnExactReadStream.j0]) ?_; try dsimp only)
    | (refine Ev.step (fun k => by rw [laws_FnExactReadStream.j1]) ?_; try dsimp only)
    )
end Go.Proofs.Ytfenifdigjcmiaa.Pure
