/- The program's ReadTerms returns what the reference's returns, for every text, in memory of its own. -/
import Derived.Test.YtfenifdigjcmiaaDoorMFnExactReadTermsx5
import Derived.Test.YtfenifdigjcmiaaDoorMOpen
namespace Go.Proofs.YtfenifdigjcmiaaDoor.Pure
open Go.RowKit Go.Proofs.YtfenifdigjcmiaaDoor.MFnExactReadTerms Go.Proofs.YtfenifdigjcmiaaDoor.MOpen Go.Proofs.YtfenifdigjcmiaaDoorW.PrintWords Go.Proofs.YtfenifdigjcmiaaDoorW.PrintLast Go.Proofs.YtfenifdigjcmiaaDoorW.PrintMore
set_option linter.unusedVariables false
set_option linter.unusedSimpArgs false
theorem wrap64_id {n : Int} (h0 : -9223372036854775808 ≤ n) (h1 : n ≤ 9223372036854775807) : wrap64 n = n := by
  unfold wrap64; omega
theorem rd_nat (xs : List Int) (i : Nat) : rd xs (i : Int) = xs.getD i 0 := by simp [rd]
theorem rd_get (xs : List Int) (i : Nat) (h : i < xs.length) : rd xs (i : Int) = xs[i] := by simp [rd, h]
theorem ev_k {α : Type} {f : Nat → Option α} {r : α} (n : Nat) (h : ∀ k, n ≤ k → f k = some r) : Ev f r := ⟨n, h⟩
theorem eqInt64S_loop (xs : List Int) (hn : xs.length ≤ 4611686018427387904) (d : Nat) : ∀ (i : Nat) (k : Nat), i + d = xs.length → d < k → laws_eqInt64S.l0 k xs xs (i : Int) = some true := by
  induction d with
  | zero =>
    intro i k hd hk
    obtain ⟨k, rfl⟩ : ∃ m, k = m + 1 := ⟨k - 1, by omega⟩
    simp only [laws_eqInt64S.l0]; rw [if_neg (by omega)]
  | succ d ih =>
    intro i k hd hk
    obtain ⟨k, rfl⟩ : ∃ m, k = m + 1 := ⟨k - 1, by omega⟩
    simp only [laws_eqInt64S.l0]; rw [if_pos (by omega), if_pos (by omega), if_pos (by omega), if_pos trivial, wrap64_id (by omega) (by omega)]
    exact ih (i + 1) k (by omega) (by omega)
theorem eqInt64S_ev (xs : List Int) (hn : xs.length ≤ 4611686018427387904) : Ev (fun k => laws_eqInt64S.f k xs xs) true := by
  refine ⟨xs.length + 1, fun k hk => ?_⟩
  show laws_eqInt64S.f k xs xs = some true
  unfold laws_eqInt64S.f
  rw [if_pos rfl]
  exact eqInt64S_loop xs hn xs.length 0 k (by omega) (by omega)
theorem markInt64S_loop (d : Nat) : ∀ (i : Nat) (xs : List Int) (a : Int) (k : Nat), 0 ≤ a → a + xs.length ≤ 4611686018427387904 → i + d = xs.length → (∀ j, j < i → xs.getD j 0 = a + j) → d < k → laws_markInt64S.l0 k xs (a + i) (i : Int) = some (a + xs.length, (List.range xs.length).map (fun j : Nat => a + (j : Int))) := by
  induction d with
  | zero =>
    intro i xs a k h0 ha hd hj hk
    obtain ⟨k, rfl⟩ : ∃ m, k = m + 1 := ⟨k - 1, by omega⟩
    simp only [laws_markInt64S.l0]; rw [if_neg (by omega)]
    have e : xs = (List.range xs.length).map (fun j : Nat => a + (j : Int)) := by
      apply List.ext_getElem (by simp)
      intro j h1 h2
      have := hj j (by omega)
      simpa [List.getD_eq_getElem?_getD, List.getElem?_eq_getElem, h1, h2] using this
    rw [← e, show i = xs.length by omega]
  | succ d ih =>
    intro i xs a k h0 ha hd hj hk
    obtain ⟨k, rfl⟩ : ∃ m, k = m + 1 := ⟨k - 1, by omega⟩
    simp only [laws_markInt64S.l0]; rw [if_pos (by omega), if_pos (by omega), wrap64_id (by omega) (by omega), wrap64_id (by omega) (by omega)]
    have := ih (i + 1) (xs.set i (a + i)) a k h0 (by simpa using ha) (by simp; omega) ?_ (by omega)
    · simpa [Int.add_assoc] using this
    · intro j hji
      have hjl : j < xs.length := by omega
      by_cases e : j = i
      · subst e; simp [List.getD_eq_getElem?_getD, hjl]
      · have e' : ¬ i = j := fun h => e h.symm
        have := hj j (by omega)
        simpa [List.getD_eq_getElem?_getD, List.getElem?_set, e'] using this
theorem markInt64S_ev (xs : List Int) (a : Int) (h0 : 0 ≤ a) (ha : a + xs.length ≤ 4611686018427387904) : Ev (fun k => laws_markInt64S.f k xs a) (a + xs.length, (List.range xs.length).map (fun j : Nat => a + (j : Int))) := by
  refine ⟨xs.length + 1, fun k hk => ?_⟩
  show laws_markInt64S.f k xs a = _
  unfold laws_markInt64S.f
  have := markInt64S_loop xs.length 0 xs a k h0 ha (by omega) (fun j h => by omega) (by omega)
  simpa using this
theorem heldInt64S_loop (n : Nat) (a : Int) (h0 : 0 ≤ a) (ha : a + n ≤ 4611686018427387904) (d : Nat) : ∀ (i : Nat) (k : Nat), i + d = n → d < k → laws_heldInt64S.l0 k ((List.range n).map (fun j : Nat => a + (j : Int))) (a + i) (i : Int) = some (a + n) := by
  induction d with
  | zero =>
    intro i k hd hk
    obtain ⟨k, rfl⟩ : ∃ m, k = m + 1 := ⟨k - 1, by omega⟩
    simp only [laws_heldInt64S.l0]; rw [if_neg (by simp; omega), show i = n by omega]
  | succ d ih =>
    intro i k hd hk
    obtain ⟨k, rfl⟩ : ∃ m, k = m + 1 := ⟨k - 1, by omega⟩
    simp only [laws_heldInt64S.l0]; rw [if_pos (by simp; omega), if_pos (by omega), if_pos ?_, wrap64_id (by omega) (by omega), wrap64_id (by omega) (by omega)]
    · have := ih (i + 1) k (by omega) (by omega)
      simpa [Int.add_assoc] using this
    · have hi : i < n := by omega
      rw [rd_nat]; simp [List.getD_eq_getElem?_getD, hi]
theorem heldInt64S_ev (n : Nat) (a : Int) (h0 : 0 ≤ a) (ha : a + n ≤ 4611686018427387904) : Ev (fun k => laws_heldInt64S.f k ((List.range n).map (fun j : Nat => a + (j : Int))) a) (a + n) := by
  refine ⟨n + 1, fun k hk => ?_⟩
  show laws_heldInt64S.f k _ a = _
  unfold laws_heldInt64S.f
  have := heldInt64S_loop n a h0 ha n 0 k (by omega) (by omega)
  simpa using this
/-- What both say of terms from index i on. -/
def TermsFrom (xs : List Int) (i : Nat) : Prop :=
  (∀ j, i ≤ j → j < xs.length → -1000000000 ≤ xs.getD j 0 ∧ xs.getD j 0 ≤ 1000000000 ∧ (0 < j → 1 ≤ xs.getD j 0)) ∧ (xs.length = 1 ∨ 2 ≤ xs.getD (xs.length - 1) 0)
theorem TermsFrom.step {xs : List Int} {i : Nat} (hi : i < xs.length) : TermsFrom xs i ↔ (-1000000000 ≤ xs.getD i 0 ∧ xs.getD i 0 ≤ 1000000000 ∧ (0 < i → 1 ≤ xs.getD i 0)) ∧ TermsFrom xs (i + 1) := by
  unfold TermsFrom
  constructor
  · rintro ⟨h, e⟩; exact ⟨h i (Nat.le_refl _) hi, fun j h1 h2 => h j (by omega) h2, e⟩
  · rintro ⟨h0, h, e⟩
    refine ⟨fun j h1 h2 => ?_, e⟩
    by_cases c : j = i
    · subst c; exact h0
    · exact h j (by omega) h2
theorem TermsFrom.done {xs : List Int} : TermsFrom xs xs.length ↔ (xs.length = 1 ∨ 2 ≤ xs.getD (xs.length - 1) 0) := by
  unfold TermsFrom
  constructor
  · rintro ⟨_, e⟩; exact e
  · intro e; exact ⟨fun j h1 h2 => by omega, e⟩
open Classical in
noncomputable def termsFrom (xs : List Int) (i : Nat) : Bool := decide (TermsFrom xs i)
open Classical in
theorem termsFrom_bad {xs : List Int} {i : Nat} (hi : i < xs.length) (h : ¬ (-1000000000 ≤ xs.getD i 0 ∧ xs.getD i 0 ≤ 1000000000 ∧ (0 < i → 1 ≤ xs.getD i 0))) : termsFrom xs i = false := by
  unfold termsFrom; rw [decide_eq_false_iff_not, TermsFrom.step hi]; exact fun z => h z.1
open Classical in
theorem termsFrom_good {xs : List Int} {i : Nat} (hi : i < xs.length) (h : (-1000000000 ≤ xs.getD i 0 ∧ xs.getD i 0 ≤ 1000000000 ∧ (0 < i → 1 ≤ xs.getD i 0))) : termsFrom xs i = termsFrom xs (i + 1) := by
  unfold termsFrom; rw [decide_eq_decide, TermsFrom.step hi]; exact ⟨fun z => z.2, fun z => ⟨h, z⟩⟩
open Classical in
theorem termsFrom_one {xs : List Int} (h : xs.length = 1) : termsFrom xs xs.length = true :=
  @decide_eq_true _ _ (TermsFrom.done.2 (.inl h))
open Classical in
theorem termsFrom_end {xs : List Int} (h : xs.length ≠ 1) : termsFrom xs xs.length = decide (xs.getD (xs.length - 1) 0 ≥ 2) := by
  by_cases c : xs.getD (xs.length - 1) 0 ≥ 2
  · rw [show decide (xs.getD (xs.length - 1) 0 ≥ 2) = true from decide_eq_true c]; exact @decide_eq_true _ _ (TermsFrom.done.2 (.inr c))
  · rw [show decide (xs.getD (xs.length - 1) 0 ≥ 2) = false from decide_eq_false c]; exact @decide_eq_false _ _ (fun z => c ((TermsFrom.done.1 z).resolve_left h))
theorem size_small {a : Int} (h0 : -9223372036854775808 ≤ a) (h : a ≤ 9223372036854775807) : ∃ r, spec_l03Size.f a = some r ∧ (r > 1000000000 → ¬ (-1000000000 ≤ a ∧ a ≤ 1000000000)) ∧ (¬ r > 1000000000 → ¬ a < -1000000000 → (-1000000000 ≤ a ∧ a ≤ 1000000000)) := by
  unfold spec_l03Size.f
  split
  · exact ⟨_, rfl, fun h => by unfold wrap64 at h; omega, fun h1 h2 => by unfold wrap64 at h1; omega⟩
  · exact ⟨_, rfl, fun h => by omega, fun h1 h2 => by omega⟩
theorem specTerms_loop (xs : List Int) (hw : ∀ j, j < xs.length → -9223372036854775808 ≤ xs.getD j 0 ∧ xs.getD j 0 ≤ 9223372036854775807) (h1 : 1 ≤ xs.length) (hn : xs.length ≤ 4611686018427387904) (d : Nat) : ∀ (i k : Nat), i + d = xs.length → d < k → spec_l04Terms.l0 k xs (xs.length : Int) (i : Int) = some (termsFrom xs i) := by
  induction d with
  | zero =>
    intro i k hd hk
    obtain ⟨k, rfl⟩ : ∃ m, k = m + 1 := ⟨k - 1, by omega⟩
    obtain rfl : i = xs.length := by omega
    simp only [spec_l04Terms.l0]; rw [if_neg (by omega)]
    by_cases e : xs.length = 1
    · rw [if_pos (by omega), termsFrom_one e]
    · rw [if_neg (by omega), wrap64_id (by omega) (by omega), if_pos (by omega), if_pos (by omega), termsFrom_end e, show ((xs.length : Int) - 1) = ((xs.length - 1 : Nat) : Int) by omega, rd_nat]
  | succ d ih =>
    intro i k hd hk
    obtain ⟨k, rfl⟩ : ∃ m, k = m + 1 := ⟨k - 1, by omega⟩
    have hi : i < xs.length := by omega
    obtain ⟨r, hr, h2, h3⟩ := size_small (hw i hi).1 (hw i hi).2
    simp only [spec_l04Terms.l0, rd_nat]; rw [if_pos (by omega), if_pos (by omega), if_pos (by omega), hr]; simp only [Option.bind_some]
    by_cases c1 : r > 1000000000
    · rw [if_pos c1, termsFrom_bad hi (fun z => h2 c1 ⟨z.1, z.2.1⟩)]
    · rw [if_neg c1]
      by_cases c2 : xs.getD i 0 < -1000000000
      · rw [if_pos c2, termsFrom_bad hi (fun z => by omega)]
      · rw [if_neg c2, wrap64_id (by omega) (by omega)]
        have hg := h3 c1 c2
        by_cases c3 : (i : Int) > 0
        · rw [if_pos c3]
          by_cases c4 : xs.getD i 0 < 1
          · rw [if_pos c4, termsFrom_bad hi (fun z => by have := z.2.2 (by omega); omega)]
          · rw [if_neg c4, termsFrom_good hi ⟨hg.1, hg.2, fun _ => by omega⟩]; exact ih (i + 1) k (by omega) (by omega)
        · rw [if_neg c3, termsFrom_good hi ⟨hg.1, hg.2, fun _ => by omega⟩]; exact ih (i + 1) k (by omega) (by omega)
theorem implTerms_loop (xs : List Int) (h1 : 1 ≤ xs.length) (hn : xs.length ≤ 4611686018427387904) (d : Nat) : ∀ (i k : Nat), i + d = xs.length → d < k → impl_ValidTerms.l0 k xs xs (xs.length : Int) (i : Int) = some (termsFrom xs i) := by
  induction d with
  | zero =>
    intro i k hd hk
    obtain ⟨k, rfl⟩ : ∃ m, k = m + 1 := ⟨k - 1, by omega⟩
    obtain rfl : i = xs.length := by omega
    simp only [impl_ValidTerms.l0]; rw [if_neg (by omega)]
    by_cases e : xs.length = 1
    · rw [if_pos (by omega), termsFrom_one e]
    · rw [if_neg (by omega), wrap64_id (by omega) (by omega), if_pos (by omega), if_pos (by omega), termsFrom_end e, show ((xs.length : Int) - 1) = ((xs.length - 1 : Nat) : Int) by omega, rd_nat]
  | succ d ih =>
    intro i k hd hk
    obtain ⟨k, rfl⟩ : ∃ m, k = m + 1 := ⟨k - 1, by omega⟩
    have hi : i < xs.length := by omega
    have hwi : ∃ b, impl_within.f (xs.getD i 0) (-1000000000) 1000000000 = some b ∧ (b = true ↔ (-1000000000 ≤ xs.getD i 0 ∧ xs.getD i 0 ≤ 1000000000)) := by
      unfold impl_within.f
      split
      · exact ⟨_, rfl, by rw [decide_eq_true_iff]; omega⟩
      · exact ⟨_, rfl, fun z => by simp at z, fun z => by omega⟩
    obtain ⟨b, hb, h2⟩ := hwi
    simp only [impl_ValidTerms.l0, rd_nat]; rw [if_pos (by omega), if_pos (by omega), if_pos (by omega), hb]; simp only [Option.bind_some]
    by_cases c1 : b = true
    · have hg := h2.1 c1
      rw [if_pos c1, wrap64_id (by omega) (by omega)]
      by_cases c3 : (i : Int) > 0
      · rw [if_pos c3]
        by_cases c4 : xs.getD i 0 < 1
        · rw [if_pos c4, termsFrom_bad hi (fun z => by have := z.2.2 (by omega); omega)]
        · rw [if_neg c4, termsFrom_good hi ⟨hg.1, hg.2, fun _ => by omega⟩]; exact ih (i + 1) k (by omega) (by omega)
      · rw [if_neg c3, termsFrom_good hi ⟨hg.1, hg.2, fun _ => by omega⟩]; exact ih (i + 1) k (by omega) (by omega)
    · rw [if_neg c1, termsFrom_bad hi (fun z => c1 (h2.2 ⟨z.1, z.2.1⟩))]
/-- Whether terms are valid. -/
noncomputable def termsOk (xs : List Int) : Bool := decide (1 ≤ xs.length ∧ xs.length ≤ 40) && termsFrom xs 0
theorem specTerms_ev (xs : List Int) (hw : ∀ j, j < xs.length → -9223372036854775808 ≤ xs.getD j 0 ∧ xs.getD j 0 ≤ 9223372036854775807) : Ev (fun k => spec_l04Terms.f k xs) (termsOk xs) := by
  refine ⟨xs.length + 3, fun k hk => ?_⟩
  obtain ⟨k, rfl⟩ : ∃ m, k = m + 1 := ⟨k - 1, by omega⟩
  show spec_l04Terms.f (k + 1) xs = _
  unfold spec_l04Terms.f termsOk
  by_cases c : (xs.length : Int) < 1
  · rw [if_pos c]; simp only [spec_l04Terms.j0]; rw [if_pos trivial, decide_eq_false (by omega)]; rfl
  · rw [if_neg c]; simp only [spec_l04Terms.j0]
    by_cases c2 : (xs.length : Int) > 40
    · rw [if_pos (by simpa using c2), decide_eq_false (by omega)]; rfl
    · rw [if_neg (by simpa using c2), decide_eq_true (by omega), Bool.true_and]
      exact specTerms_loop xs hw (by omega) (by omega) xs.length 0 k (by omega) (by omega)
theorem implTerms_ev (xs : List Int) : Ev (fun k => impl_ValidTerms.f k xs) (termsOk xs) := by
  refine ⟨xs.length + 3, fun k hk => ?_⟩
  obtain ⟨k, rfl⟩ : ∃ m, k = m + 1 := ⟨k - 1, by omega⟩
  show impl_ValidTerms.f (k + 1) xs = _
  unfold impl_ValidTerms.f termsOk
  by_cases c : (xs.length : Int) < 1
  · rw [if_pos c]; simp only [impl_ValidTerms.j0]; rw [if_pos trivial, decide_eq_false (by omega)]; rfl
  · rw [if_neg c]; simp only [impl_ValidTerms.j0]
    by_cases c2 : (xs.length : Int) > 40
    · rw [if_pos (by simpa using c2), decide_eq_false (by omega)]; rfl
    · rw [if_neg (by simpa using c2), decide_eq_true (by omega), Bool.true_and]
      exact implTerms_loop xs (by omega) (by omega) xs.length 0 k (by omega) (by omega)
theorem terms_w {l : List Int} (hw : ∀ z ∈ l, -9223372036854775808 ≤ z ∧ z ≤ 9223372036854775807) : ∀ j, j < l.length → -9223372036854775808 ≤ l.getD j 0 ∧ l.getD j 0 ≤ 9223372036854775807 := by
  intro j hj
  rw [List.getD_eq_getElem?_getD, List.getElem?_eq_getElem hj]
  exact hw _ (List.getElem_mem hj)
open Classical in
theorem termsOk_is {xs : List Int} (h : termsOk xs = true) : (1 ≤ xs.length ∧ xs.length ≤ 40) ∧ (∀ j, j < xs.length → -1000000000 ≤ xs.getD j 0 ∧ xs.getD j 0 ≤ 1000000000 ∧ (0 < j → 1 ≤ xs.getD j 0)) ∧ (xs.length = 1 ∨ 2 ≤ xs.getD (xs.length - 1) 0) := by
  unfold termsOk at h
  rw [Bool.and_eq_true, decide_eq_true_iff] at h
  have h2 : TermsFrom xs 0 := by
    have := h.2
    unfold termsFrom at this
    exact of_decide_eq_true this
  exact ⟨h.1, fun j hj => h2.1 j (by omega) hj, h2.2⟩
open Classical in
theorem termsOk_of {xs : List Int} (h1 : 1 ≤ xs.length ∧ xs.length ≤ 40) (h2 : ∀ j, j < xs.length → -1000000000 ≤ xs.getD j 0 ∧ xs.getD j 0 ≤ 1000000000 ∧ (0 < j → 1 ≤ xs.getD j 0)) (h3 : xs.length = 1 ∨ 2 ≤ xs.getD (xs.length - 1) 0) : termsOk xs = true := by
  unfold termsOk
  rw [Bool.and_eq_true, decide_eq_true_iff]
  refine ⟨h1, ?_⟩
  unfold termsFrom
  exact @decide_eq_true _ _ ⟨fun j _ hj => h2 j hj, h3⟩
theorem dec_lt {u : Nat} (h : u < 10) : Go.Lib.decDigits u = [UInt8.ofNat (48 + u)] := Go.Lib.decDigits_one h
theorem dec_step (u d : Nat) (hu : 1 ≤ u) (hd : d < 10) : Go.Lib.decDigits (u * 10 + d) = Go.Lib.decDigits u ++ [UInt8.ofNat (48 + d)] := by
  conv => lhs; rw [Go.Lib.decDigits, dif_neg (by omega)]
  rw [show (u * 10 + d) / 10 = u from by omega, show (u * 10 + d) % 10 = d from by omega]
theorem dec_split {u : Nat} (h : ¬ u < 10) : Go.Lib.decDigits u = Go.Lib.decDigits (u / 10) ++ [UInt8.ofNat (48 + u % 10)] := by
  conv => lhs; rw [Go.Lib.decDigits, dif_neg h]
theorem ofNat_nat (d : Nat) (h : d < 10) : (UInt8.ofNat (48 + d)).toNat = 48 + d := by
  rw [UInt8.toNat_ofNat', Nat.mod_eq_of_lt (by omega)]
theorem dec_digits (u : Nat) : ∀ x ∈ Go.Lib.decDigits u, 48 ≤ x.toNat ∧ x.toNat ≤ 57 := by
  induction u using Nat.strongRecOn with
  | _ u ih =>
  intro x hx
  by_cases h : u < 10
  · rw [dec_lt h] at hx
    obtain rfl := List.mem_singleton.1 hx
    rw [ofNat_nat u h]; omega
  · rw [dec_split h] at hx
    rcases List.mem_append.1 hx with hx | hx
    · exact ih (u / 10) (by omega) x hx
    · obtain rfl := List.mem_singleton.1 hx
      rw [ofNat_nat _ (by omega)]; omega
theorem dec_ne (u : Nat) : Go.Lib.decDigits u ≠ [] := by
  by_cases h : u < 10
  · rw [dec_lt h]; simp
  · rw [dec_split h]; simp
theorem dec_head (u : Nat) : 1 ≤ u → ∀ x, (Go.Lib.decDigits u).head? = some x → x.toNat ≠ 48 := by
  induction u using Nat.strongRecOn with
  | _ u ih =>
  intro hu x hx
  by_cases h : u < 10
  · rw [dec_lt h] at hx
    have : UInt8.ofNat (48 + u) = x := by simpa using hx
    rw [← this, ofNat_nat u h]; omega
  · rw [dec_split h] at hx
    refine ih (u / 10) (by omega) (by omega) x ?_
    cases e : Go.Lib.decDigits (u / 10) with
    | nil => exact absurd e (dec_ne _)
    | cons y r => rw [e] at hx; simpa using hx
theorem dec_inj (u : Nat) : ∀ v, Go.Lib.decDigits u = Go.Lib.decDigits v → u = v := by
  induction u using Nat.strongRecOn with
  | _ u ih =>
  intro v h
  by_cases hu : u < 10
  · by_cases hv : v < 10
    · rw [dec_lt hu, dec_lt hv] at h
      have h2 : UInt8.ofNat (48 + u) = UInt8.ofNat (48 + v) := by simpa using h
      have h3 := congrArg UInt8.toNat h2
      rw [ofNat_nat u hu, ofNat_nat v hv] at h3
      omega
    · rw [dec_lt hu, dec_split hv] at h
      have hl := congrArg List.length h
      have hn := dec_ne (v / 10)
      have : 0 < (Go.Lib.decDigits (v / 10)).length := List.length_pos_iff.2 hn
      rw [List.length_append] at hl
      simp only [List.length_cons, List.length_nil] at hl
      omega
  · by_cases hv : v < 10
    · rw [dec_split hu, dec_lt hv] at h
      have hl := congrArg List.length h
      have : 0 < (Go.Lib.decDigits (u / 10)).length := List.length_pos_iff.2 (dec_ne _)
      rw [List.length_append] at hl
      simp only [List.length_cons, List.length_nil] at hl
      omega
    · rw [dec_split hu, dec_split hv] at h
      obtain ⟨h1, h2⟩ := List.append_inj' h rfl
      have e1 := ih (u / 10) (by omega) (v / 10) h1
      have h2' : UInt8.ofNat (48 + u % 10) = UInt8.ofNat (48 + v % 10) := by simpa using h2
      have h3 := congrArg UInt8.toNat h2'
      rw [ofNat_nat _ (by omega), ofNat_nat _ (by omega)] at h3
      omega
theorem dec_len (n : Nat) : ∀ u, u < 10 ^ (n + 1) → (Go.Lib.decDigits u).length ≤ n + 1 := by
  induction n with
  | zero => intro u hu; rw [dec_lt (by omega)]; simp
  | succ n ih =>
    intro u hu
    by_cases h : u < 10
    · rw [dec_lt h]; simp
    · rw [dec_split h, List.length_append]
      have := ih (u / 10) (by rw [Nat.pow_succ] at hu; omega)
      simp only [List.length_cons, List.length_nil]
      omega
theorem parse_app (M : Nat) (L : List UInt8) (x : UInt8) : ∀ acc v, Go.Lib.parseUintM M acc L = .ok v → Go.Lib.parseUintM M acc (L ++ [x]) = Go.Lib.parseUintM M v [x] := by
  induction L with
  | nil => intro acc v h; simp only [Go.Lib.parseUintM] at h; cases h; rfl
  | cons c r ih =>
    intro acc v h
    rw [Go.Lib.parseUintM] at h
    rw [List.cons_append, Go.Lib.parseUintM]
    split at h
    · rename_i c1
      split at h
      · cases h
      · rename_i c2
        split at h
        · cases h
        · rename_i c3
          rw [if_pos c1, if_neg c2, if_neg c3]
          exact ih _ _ h
    · cases h
theorem parse_dec (M : Nat) (u : Nat) : u ≤ M → u < 1000000000000 → Go.Lib.parseUintM M 0 (Go.Lib.decDigits u) = .ok u := by
  induction u using Nat.strongRecOn with
  | _ u ih =>
  intro hu hs
  by_cases h : u < 10
  · rw [dec_lt h]
    simp only [Go.Lib.parseUintM]
    rw [ofNat_nat u h, if_pos (by omega), if_neg (by omega), if_neg (by omega), show 0 * 10 + (48 + u - 48) = u from by omega]
  · rw [dec_split h, parse_app M _ _ _ _ (ih (u / 10) (by omega) (by omega) (by omega))]
    simp only [Go.Lib.parseUintM]
    rw [ofNat_nat _ (by omega), if_pos (by omega), if_neg (by omega), if_neg (by omega), show u / 10 * 10 + (48 + u % 10 - 48) = u from by omega]
theorem parse_itoa (n : Int) (h0 : -100000000000 ≤ n) (h1 : n ≤ 100000000000) : Go.Lib.parseIntB 64 (Go.Lib.itoa n) = .ok n := by
  by_cases c : n < 0
  · obtain ⟨u, rfl⟩ : ∃ u : Nat, n = -(u : Int) := ⟨n.natAbs, by omega⟩
    rw [Go.Lib.itoa_neg u (by omega), Go.Lib.parseIntB_minus]
    unfold Go.Lib.parseUintB
    rw [if_neg (dec_ne u), parse_dec _ u (by omega) (by omega)]
    simp only [Go.Lib.signedC]
    rw [if_neg (by omega)]
  · obtain ⟨u, rfl⟩ : ∃ u : Nat, n = (u : Int) := ⟨n.toNat, by omega⟩
    rw [Go.Lib.itoa_nonneg]
    cases e : Go.Lib.decDigits u with
    | nil => exact absurd e (dec_ne u)
    | cons x r =>
      have hx := dec_digits u x (by rw [e]; exact List.mem_cons_self ..)
      rw [Go.Lib.parseIntB_plain _ _ _ (by omega) (by omega), ← e]
      unfold Go.Lib.parseUintB
      rw [if_neg (dec_ne u), parse_dec _ u (by omega) (by omega)]
      simp only [Go.Lib.signlessC]
      rw [if_neg (by omega)]
theorem itoa_inj {m n : Int} (h : Go.Lib.itoa m = Go.Lib.itoa n) : m = n := by
  have head : ∀ u : Nat, ∀ r, Go.Lib.decDigits u ≠ 45 :: r := fun u r e => by
    have := dec_digits u 45 (by rw [e]; exact List.mem_cons_self ..)
    simp at this
  by_cases cm : m < 0
  · obtain ⟨u, rfl⟩ : ∃ u : Nat, m = -(u : Int) := ⟨m.natAbs, by omega⟩
    by_cases cn : n < 0
    · obtain ⟨v, rfl⟩ : ∃ v : Nat, n = -(v : Int) := ⟨n.natAbs, by omega⟩
      rw [Go.Lib.itoa_neg u (by omega), Go.Lib.itoa_neg v (by omega)] at h
      rw [dec_inj u v (List.cons.inj h).2]
    · obtain ⟨v, rfl⟩ : ∃ v : Nat, n = (v : Int) := ⟨n.toNat, by omega⟩
      rw [Go.Lib.itoa_neg u (by omega), Go.Lib.itoa_nonneg] at h
      exact absurd h.symm (head v _)
  · obtain ⟨u, rfl⟩ : ∃ u : Nat, m = (u : Int) := ⟨m.toNat, by omega⟩
    by_cases cn : n < 0
    · obtain ⟨v, rfl⟩ : ∃ v : Nat, n = -(v : Int) := ⟨n.natAbs, by omega⟩
      rw [Go.Lib.itoa_neg v (by omega), Go.Lib.itoa_nonneg] at h
      exact absurd h (head u _)
    · obtain ⟨v, rfl⟩ : ∃ v : Nat, n = (v : Int) := ⟨n.toNat, by omega⟩
      rw [Go.Lib.itoa_nonneg, Go.Lib.itoa_nonneg] at h
      rw [dec_inj u v h]
/-- The pieces of a list between the bytes c; pre: what the first piece has so far. -/
def splitG (c : UInt8) : List UInt8 → List UInt8 → List (List UInt8)
  | pre, [] => [pre]
  | pre, x :: l => if x = c then pre :: splitG c [] l else splitG c (pre ++ [x]) l
theorem splitG_none (c : UInt8) : ∀ (l pre : List UInt8), (∀ k : Nat, l[k]? ≠ some c) → splitG c pre l = [pre ++ l]
  | [], pre, _ => by simp [splitG]
  | x :: l, pre, h => by
    have h0 : x ≠ c := fun e => h 0 (by simp [e])
    rw [splitG, if_neg h0, splitG_none c l (pre ++ [x]) (fun k => by have := h (k + 1); simpa using this)]
    simp
theorem splitG_some (c : UInt8) : ∀ (l pre : List UInt8) (i : Nat), l[i]? = some c → (∀ k, k < i → l[k]? ≠ some c) → splitG c pre l = (pre ++ l.take i) :: splitG c [] (l.drop (i + 1))
  | [], _, i, h, _ => by simp at h
  | x :: l, pre, 0, h, _ => by
    have h0 : x = c := by simpa using h
    rw [splitG, if_pos h0]; simp
  | x :: l, pre, i + 1, h, hk => by
    have h0 : x ≠ c := fun e => hk 0 (by omega) (by simp [e])
    rw [splitG, if_neg h0, splitG_some c l (pre ++ [x]) i (by simpa using h) (fun k hk2 => by have := hk (k + 1) (by omega); simpa using this)]
    simp
theorem ext_list (s : ByteArray) (a b : Nat) : (s.extract a b).data.toList = (s.data.toList.drop a).take (b - a) := by
  rw [ByteArray.data_extract, Array.toList_extract]
theorem splitB_is (c : UInt8) (k : Nat) : ∀ s : ByteArray, Go.Lib.countB s ⟨#[c]⟩ = k → (Go.Lib.splitB ⟨#[c]⟩ 0 k s).map (·.data.toList) = splitG c [] s.data.toList := by
  have hix1 : ∀ s : ByteArray, Go.Lib.indexB s ⟨#[c]⟩ = Go.Lib.indexByte s.data.toList c := fun s => Go.Lib.index_one s.data.toList c
  induction k with
  | zero =>
    intro s hk
    rcases Go.Lib.indexB_cases s ⟨#[c]⟩ with h | ⟨i, h, _⟩
    · rw [Go.Lib.splitB_zero, splitG_none c _ _ (Go.Lib.indexByte_none ((hix1 s).symm.trans h))]
      simp
    · rw [Go.Lib.countB_hit s ⟨#[c]⟩ i (Nat.le_refl 1) h] at hk
      omega
  | succ k ih =>
    intro s hk
    rcases Go.Lib.indexB_cases s ⟨#[c]⟩ with h | ⟨i, h, hr⟩
    · rw [Go.Lib.countB_miss s ⟨#[c]⟩ h] at hk; omega
    · have hb := Go.Lib.indexByte_some ((hix1 s).symm.trans h)
      rw [Go.Lib.countB_hit s ⟨#[c]⟩ i (Nat.le_refl 1) h] at hk
      rw [Go.Lib.splitB_hit ⟨#[c]⟩ 0 k s i h, List.map_cons, ih _ (by omega), splitG_some c _ _ i hb.1 hb.2, ext_list, ext_list]
      have e1 : (⟨#[c]⟩ : ByteArray).size = 1 := rfl
      have hl : s.data.toList.length = s.size := by simp
      rw [e1, show (s.data.toList.drop 0).take (i + 0 - 0) = [] ++ s.data.toList.take i from by simp, List.take_of_length_le (l := s.data.toList.drop (i + 1)) (by rw [List.length_drop]; omega)]
theorem bt_data (s : ByteArray) (i : Nat) (h : i < s.data.toList.length) : bt s (i : Int) = ((s.data.toList[i]).toNat : Int) := by
  have h2 : i < s.size := by simpa using h
  unfold bt
  rw [dif_pos (show ((i : Int)).toNat < s.size from h2)]
  rfl
theorem specSplit_loop (s : ByteArray) (hs : s.size ≤ 1048576) (c : UInt8) (d : Nat) : ∀ (i b : Nat) (acc : List ByteArray), i + d = s.size → b ≤ i → acc.length ≤ i → ∃ W, Ev (fun k => spec_l01Split.l0 k s (c.toNat : Int) acc (b : Int) (i : Int)) (acc ++ W) ∧ W.map (·.data.toList) = splitG c ((s.data.toList.drop b).take (i - b)) (s.data.toList.drop i) := by
  have hl : s.data.toList.length = s.size := by simp
  induction d with
  | zero =>
    intro i b acc hi hb ha
    obtain rfl : i = s.size := by omega
    refine ⟨[s.extract b s.size], Ev.step (f := fun _ => some (acc ++ [s.extract b s.size])) (fun k => ?_) ⟨0, fun k _ => rfl⟩, ?_⟩
    · rw [spec_l01Split.l0, if_neg (by omega), if_pos (by omega), if_pos (by omega), if_pos (by omega)]
      rfl
    · rw [show s.data.toList.drop s.size = [] from List.drop_eq_nil_of_le (by omega), splitG, List.map_cons, ext_list]
      rfl
  | succ d ih =>
    intro i b acc hi hb ha
    have hi2 : i < s.data.toList.length := by omega
    have e : wrap64 ((i : Int) + 1) = ((i + 1 : Nat) : Int) := by rw [wrap64_id (by omega) (by omega)]; omega
    rw [List.drop_eq_getElem_cons hi2, splitG]
    by_cases hc : s.data.toList[i] = c
    · obtain ⟨W, h1, h2⟩ := ih (i + 1) (i + 1) (acc ++ [s.extract b i]) (by omega) (by omega) (by rw [List.length_append]; simp only [List.length_cons, List.length_nil]; omega)
      refine ⟨s.extract b i :: W, ?_, ?_⟩
      · rw [show acc ++ s.extract b i :: W = (acc ++ [s.extract b i]) ++ W from by simp]
        refine Ev.step (fun k => ?_) h1
        rw [spec_l01Split.l0, if_pos (by omega), if_pos (by omega), if_pos (by rw [bt_data s i hi2, hc]), if_pos (by omega), if_pos (by omega), if_pos (by omega), if_pos (by omega), e]
        rfl
      · rw [if_pos hc, List.map_cons, ext_list, h2, Nat.sub_self, List.take_zero]
    · obtain ⟨W, h1, h2⟩ := ih (i + 1) b acc (by omega) (by omega) (by omega)
      refine ⟨W, ?_, ?_⟩
      · refine Ev.step (fun k => ?_) h1
        rw [spec_l01Split.l0, if_pos (by omega), if_pos (by omega), if_neg (by rw [bt_data s i hi2]; exact fun z => hc (UInt8.toNat_inj.1 (by omega))), e]
      · rw [if_neg hc, h2]
        congr 1
        rw [show i + 1 - b = (i - b) + 1 from by omega, List.take_succ_eq_append_getElem (by rw [List.length_drop]; omega), List.getElem_drop]
        simp only [show b + (i - b) = i from by omega]
theorem words_inj : ∀ {A B : List ByteArray}, A.map (·.data.toList) = B.map (·.data.toList) → A = B
  | [], [], _ => rfl
  | [], _ :: _, h => by simp at h
  | _ :: _, [], h => by simp at h
  | a :: A, b :: B, h => by
    rw [List.map_cons, List.map_cons] at h
    have h1 := (List.cons.inj h).1
    have h2 := words_inj (List.cons.inj h).2
    have h3 : a = b := ByteArray.ext (Array.toList_inj.1 h1)
    rw [h2, h3]
theorem split_same (s : ByteArray) (hs : s.size ≤ 1048576) (c : UInt8) : Ev (fun k => spec_l01Split.f k s (c.toNat : Int)) (Go.Lib.splitB ⟨#[c]⟩ 0 (Go.Lib.countB s ⟨#[c]⟩) s) := by
  obtain ⟨W, h1, h2⟩ := specSplit_loop s hs c s.size 0 0 [] (by omega) (by omega) (by simp)
  have h3 : W = Go.Lib.splitB ⟨#[c]⟩ 0 (Go.Lib.countB s ⟨#[c]⟩) s := by
    apply words_inj
    rw [h2, splitB_is c _ s rfl]
    simp
  rw [← h3]
  exact h1
theorem digit_of (x : UInt8) (h0 : 48 ≤ x.toNat) (h1 : x.toNat ≤ 57) : UInt8.ofNat (48 + (x.toNat - 48)) = x := by
  apply UInt8.toNat_inj.1
  rw [ofNat_nat _ (by omega)]; omega
theorem num_loop (s : ByteArray) (hs : s.size ≤ 10) (d : Nat) : ∀ (i v : Nat), i + d = s.size → 1 ≤ v → v < 10 ^ i → Go.Lib.decDigits v = s.data.toList.take i →
    ∃ (r : Int) (b : Bool), Ev (fun k => spec_l01Number.l0 k s (v : Int) (i : Int)) (r, b) ∧ (b = true → ∃ u : Nat, r = (u : Int) ∧ Go.Lib.decDigits u = s.data.toList ∧ u < 10000000000) ∧ (b = false → ∃ x ∈ s.data.toList, ¬ (48 ≤ x.toNat ∧ x.toNat ≤ 57)) := by
  have hl : s.data.toList.length = s.size := by simp
  induction d with
  | zero =>
    intro i v hi h1 hv hd
    obtain rfl : i = s.size := by omega
    refine ⟨v, true, Ev.step (f := fun _ => some ((v : Int), true)) (fun k => by rw [spec_l01Number.l0, if_neg (by omega)]) ⟨0, fun k _ => rfl⟩, fun _ => ⟨v, rfl, ?_, ?_⟩, fun h => by cases h⟩
    · rw [hd, List.take_of_length_le (by omega)]
    · exact Nat.lt_of_lt_of_le hv (Nat.pow_le_pow_right (by decide) hs)
  | succ d ih =>
    intro i v hi h1 hv hd
    have hi2 : i < s.data.toList.length := by omega
    have hp : (10 : Nat) ^ i ≤ 10 ^ 10 := Nat.pow_le_pow_right (by decide) (by omega)
    have hp2 : (10 : Nat) ^ 10 = 10000000000 := by decide
    have hb := bt_data s i hi2
    have hx : (s.data.toList[i]).toNat < 256 := UInt8.toNat_lt _
    by_cases c : 48 ≤ (s.data.toList[i]).toNat ∧ (s.data.toList[i]).toNat ≤ 57
    · have e : wrap64 ((i : Int) + 1) = ((i + 1 : Nat) : Int) := by rw [wrap64_id (by omega) (by omega)]; omega
      have ev : wrap64 ((wrap64 (10 * (v : Int))) + ((bt s (i : Int) - 48) % 256)) = ((v * 10 + ((s.data.toList[i]).toNat - 48) : Nat) : Int) := by
        rw [hb, wrap64_id (n := 10 * (v : Int)) (by omega) (by omega), wrap64_id (by omega) (by omega)]; omega
      obtain ⟨r, b, g1, g2, g3⟩ := ih (i + 1) (v * 10 + ((s.data.toList[i]).toNat - 48)) (by omega) (by omega) (by rw [Nat.pow_succ]; omega) (by
        rw [dec_step v _ h1 (by omega), hd, List.take_succ_eq_append_getElem hi2, digit_of _ c.1 c.2])
      refine ⟨r, b, ?_, g2, g3⟩
      refine Ev.step (fun k => ?_) g1
      rw [spec_l01Number.l0, if_pos (by omega), if_pos (by omega), if_neg (by rw [hb]; omega), if_neg (by rw [hb]; omega), ev, e]
    · refine ⟨0, false, Ev.step (f := fun _ => some ((0 : Int), false)) (fun k => ?_) ⟨0, fun k _ => rfl⟩, fun h => (by cases h), fun _ => ⟨s.data.toList[i], List.getElem_mem hi2, c⟩⟩
      rw [spec_l01Number.l0, if_pos (by omega), if_pos (by omega)]
      by_cases c2 : bt s (i : Int) < 48
      · rw [if_pos c2]
      · rw [if_neg c2, if_pos (by rw [hb] at c2 ⊢; omega)]
theorem number_ev (s : ByteArray) : ∃ (r : Int) (b : Bool), Ev (fun k => spec_l01Number.f k s) (r, b) ∧ (b = true → ∃ u : Nat, r = (u : Int) ∧ Go.Lib.decDigits u = s.data.toList ∧ u < 10000000000) ∧ (∀ u : Nat, u < 10000000000 → s.data.toList = Go.Lib.decDigits u → b = true) := by
  have hl : s.data.toList.length = s.size := by simp
  have hno : ∀ k, spec_l01Number.j0 (k + 1) s true = some (0, false) := fun k => by rw [spec_l01Number.j0, if_pos rfl]
  by_cases c0 : s.toList = ([] : List UInt8)
  · refine ⟨0, false, Ev.step (f := fun _ => some ((0 : Int), false)) (fun k => by unfold spec_l01Number.f; rw [if_pos c0, hno]) ⟨0, fun k _ => rfl⟩, fun h => (by cases h), fun u _ h => ?_⟩
    rw [Go.Lib.toList_data] at c0
    exact absurd (h.symm.trans c0) (dec_ne u)
  by_cases c1 : (s.size : Int) > 10
  · refine ⟨0, false, Ev.step (f := fun _ => some ((0 : Int), false)) (fun k => by unfold spec_l01Number.f; rw [if_neg c0, if_pos c1, hno]) ⟨0, fun k _ => rfl⟩, fun h => (by cases h), fun u hu h => ?_⟩
    have := dec_len 9 u (by omega)
    rw [← h] at this
    omega
  have hne : s.data.toList ≠ [] := fun h => c0 (by rw [Go.Lib.toList_data]; exact h)
  have hpos : 0 < s.data.toList.length := List.length_pos_iff.2 hne
  have hb := bt_data s 0 hpos
  have hhead : s.data.toList.head? = some s.data.toList[0] := by rw [List.head?_eq_getElem?, List.getElem?_eq_getElem hpos]
  have ht1 : s.data.toList.take 1 = [s.data.toList[0]] := by rw [List.take_one, hhead]; rfl
  have hx : (s.data.toList[0]).toNat < 256 := UInt8.toNat_lt _
  by_cases c2 : bt s 0 = 48
  · have e48 : (s.data.toList[0]).toNat = 48 := by have h9 : bt s ((0 : Nat) : Int) = 48 := c2; omega
    by_cases c3 : (s.size : Int) > 1
    · refine ⟨0, false, Ev.step (f := fun _ => some ((0 : Int), false)) (fun k => by unfold spec_l01Number.f; rw [if_neg c0, if_neg c1, if_pos (by omega), if_pos c2, decide_eq_true c3, hno]) ⟨0, fun k _ => rfl⟩, fun h => (by cases h), fun u hu h => ?_⟩
      rcases Nat.eq_zero_or_pos u with rfl | hu1
      · have h2 := congrArg List.length h
        rw [dec_lt (by decide)] at h2
        simp only [List.length_cons, List.length_nil] at h2
        omega
      · exact absurd e48 (dec_head u hu1 _ (by rw [← h, hhead]))
    · have hsz : s.size = 1 := by omega
      refine ⟨0, true, ?_, fun _ => ⟨0, rfl, ?_, by decide⟩, fun _ _ _ => rfl⟩
      · refine Ev.step (f := fun k => spec_l01Number.l0 k s 0 0) (fun k => by unfold spec_l01Number.f; rw [if_neg c0, if_neg c1, if_pos (by omega), if_pos c2, decide_eq_false c3, spec_l01Number.j0, if_neg (by simp)]) ?_
        refine Ev.step (f := fun k => spec_l01Number.l0 k s 0 1) (fun k => ?_) ?_
        · rw [spec_l01Number.l0, if_pos (by omega), if_pos (by omega), if_neg (by omega), if_neg (by omega), c2, show wrap64 (wrap64 (10 * 0) + (48 - 48) % 256) = 0 from by rw [wrap64_id (n := 10 * 0) (by omega) (by omega), wrap64_id (by omega) (by omega)]; rfl, show wrap64 (0 + 1) = 1 from wrap64_id (by omega) (by omega)]
        · exact Ev.step (f := fun _ => some ((0 : Int), true)) (fun k => by rw [spec_l01Number.l0, if_neg (by omega)]) ⟨0, fun k _ => rfl⟩
      · rw [dec_lt (by decide)]
        have h3 : s.data.toList = [s.data.toList[0]] := by rw [← ht1, List.take_of_length_le (by omega)]
        rw [h3]
        congr 1
        exact (UInt8.toNat_inj.1 (by rw [e48]; rfl))
  · have n48 : (s.data.toList[0]).toNat ≠ 48 := fun h => c2 (by have h9 : bt s ((0 : Nat) : Int) = ((s.data.toList[0]).toNat : Int) := hb; rw [h] at h9; exact h9)
    have hb0 : bt s 0 = ((s.data.toList[0]).toNat : Int) := hb
    have start : ∀ k, spec_l01Number.f (k + 1) s = spec_l01Number.l0 k s 0 0 := fun k => by unfold spec_l01Number.f; rw [if_neg c0, if_neg c1, if_pos (by omega), if_neg c2, spec_l01Number.j0, if_neg (by simp)]
    by_cases c3 : 48 ≤ (s.data.toList[0]).toNat ∧ (s.data.toList[0]).toNat ≤ 57
    · obtain ⟨r, b, g1, g2, g3⟩ := num_loop s (by omega) (s.size - 1) 1 ((s.data.toList[0]).toNat - 48) (by omega) (by omega) (by omega) (by rw [dec_lt (by omega), digit_of _ c3.1 c3.2, ht1])
      refine ⟨r, b, Ev.step start (Ev.step (fun k => ?_) g1), g2, fun u hu h => ?_⟩
      · rw [spec_l01Number.l0, if_pos (by omega), if_pos (by omega), if_neg (by omega), if_neg (by omega), hb0]
        rw [show wrap64 (wrap64 (10 * 0) + ((((s.data.toList[0]).toNat : Int) - 48) % 256)) = (((s.data.toList[0]).toNat - 48 : Nat) : Int) from by rw [wrap64_id (n := 10 * 0) (by omega) (by omega), wrap64_id (by omega) (by omega)]; omega, show wrap64 (0 + 1) = ((1 : Nat) : Int) from wrap64_id (by omega) (by omega)]
      · cases b with
        | true => rfl
        | false =>
          obtain ⟨x, hx1, hx2⟩ := g3 rfl
          exact absurd (dec_digits u x (by rw [← h]; exact hx1)) hx2
    · refine ⟨0, false, Ev.step start (Ev.step (f := fun _ => some ((0 : Int), false)) (fun k => ?_) ⟨0, fun k _ => rfl⟩), fun h => (by cases h), fun u hu h => ?_⟩
      · rw [spec_l01Number.l0, if_pos (by omega), if_pos (by omega)]
        by_cases c4 : bt s 0 < 48
        · rw [if_pos c4]
        · rw [if_neg c4, if_pos (by omega)]
      · exact absurd (dec_digits u _ (by rw [← h]; exact List.getElem_mem hpos)) c3
theorem dec_not45 (u : Nat) (r : List UInt8) : Go.Lib.decDigits u ≠ 45 :: r := fun e => by
  have := dec_digits u 45 (by rw [e]; exact List.mem_cons_self ..)
  simp at this
theorem signed_word (s : ByteArray) : ∃ (r : Int) (b : Bool), Ev (fun k => spec_l01Signed.f k s) (r, b) ∧ (b = true → s.data.toList = Go.Lib.itoa r ∧ -10000000000 < r ∧ r < 10000000000) ∧ (∀ n : Int, -10000000000 < n → n < 10000000000 → s.data.toList = Go.Lib.itoa n → b = true) := by
  have hl : s.data.toList.length = s.size := by simp
  have plain : (∀ k, spec_l01Signed.f (k + 1) s = (spec_l01Number.f k s).bind fun bt116 => (some (bt116.1, bt116.2))) → (∀ r, s.data.toList ≠ 45 :: r) → ∃ (r : Int) (b : Bool), Ev (fun k => spec_l01Signed.f k s) (r, b) ∧ (b = true → s.data.toList = Go.Lib.itoa r ∧ -10000000000 < r ∧ r < 10000000000) ∧ (∀ n : Int, -10000000000 < n → n < 10000000000 → s.data.toList = Go.Lib.itoa n → b = true) := by
    intro hf h45
    obtain ⟨r, b, g1, g2, g3⟩ := number_ev s
    refine ⟨r, b, Ev.step hf (Ev.bind g1 ⟨0, fun k _ => rfl⟩), fun h => ?_, fun n h0 h1 h => ?_⟩
    · obtain ⟨u, rfl, hu, hlt⟩ := g2 h
      rw [Go.Lib.itoa_nonneg]
      exact ⟨hu.symm, by omega, by omega⟩
    · by_cases c : n < 0
      · obtain ⟨u, rfl⟩ : ∃ u : Nat, n = -(u : Int) := ⟨n.natAbs, by omega⟩
        rw [Go.Lib.itoa_neg u (by omega)] at h
        exact absurd h (h45 _)
      · obtain ⟨u, rfl⟩ : ∃ u : Nat, n = (u : Int) := ⟨n.toNat, by omega⟩
        rw [Go.Lib.itoa_nonneg] at h
        exact g3 u (by omega) h
  by_cases c0 : s.toList = ([] : List UInt8)
  · refine plain (fun k => by unfold spec_l01Signed.f; rw [if_pos c0, spec_l01Signed.j0, if_neg (by simp)]) (fun r h => ?_)
    rw [Go.Lib.toList_data, h] at c0; cases c0
  have hne : s.data.toList ≠ [] := fun h => c0 (by rw [Go.Lib.toList_data]; exact h)
  have hpos : 0 < s.data.toList.length := List.length_pos_iff.2 hne
  have hb0 : bt s 0 = ((s.data.toList[0]).toNat : Int) := bt_data s 0 hpos
  have hcons : s.data.toList = s.data.toList[0] :: s.data.toList.drop 1 := by
    have := List.drop_eq_getElem_cons hpos
    simpa using this
  by_cases c1 : bt s 0 = 45
  · have e45 : s.data.toList[0] = 45 := UInt8.toNat_inj.1 (by have h9 : ((45 : UInt8)).toNat = 45 := rfl; omega)
    rw [e45] at hcons
    have hx : (s.extract 1 s.size).data.toList = s.data.toList.drop 1 := by rw [ext_list, List.take_of_length_le (by rw [List.length_drop]; omega)]
    obtain ⟨r, b, g1, g2, g3⟩ := number_ev (s.extract 1 s.size)
    rw [hx] at g2 g3
    have hf : ∀ k, spec_l01Signed.f (k + 1) s = (spec_l01Number.f k (s.extract 1 s.size)).bind fun bt114 => (if bt114.2 = true then (some (wrap64 (-bt114.1), decide (bt114.1 > 0))) else (some (wrap64 (-bt114.1), false))) := fun k => by
      unfold spec_l01Signed.f; rw [if_neg c0, if_pos (by omega), show ((bt s 0) == 45) = true from beq_iff_eq.2 c1, spec_l01Signed.j0, if_pos rfl, if_pos (by omega)]
    cases b with
    | true =>
      obtain ⟨u, rfl, hu, hlt⟩ := g2 rfl
      refine ⟨-(u : Int), decide ((u : Int) > 0), Ev.step hf (Ev.bind g1 ⟨0, fun k _ => ?_⟩), fun h => ?_, fun n h0 h1 h => ?_⟩
      · show (if true = true then _ else _) = _
        rw [if_pos rfl, wrap64_id (by omega) (by omega)]
      · have h2 := of_decide_eq_true h
        rw [Go.Lib.itoa_neg u (by omega), hu]
        exact ⟨hcons, by omega, by omega⟩
      · refine decide_eq_true ?_
        rcases Nat.eq_zero_or_pos u with rfl | hp
        · by_cases c : n < 0
          · obtain ⟨v, rfl⟩ : ∃ v : Nat, n = -(v : Int) := ⟨n.natAbs, by omega⟩
            rw [Go.Lib.itoa_neg v (by omega), hcons, ← hu] at h
            have := dec_inj _ _ (List.cons.inj h).2
            omega
          · obtain ⟨v, rfl⟩ : ∃ v : Nat, n = (v : Int) := ⟨n.toNat, by omega⟩
            rw [Go.Lib.itoa_nonneg, hcons] at h
            exact absurd h.symm (dec_not45 v _)
        · omega
    | false =>
      refine ⟨wrap64 (-r), false, Ev.step hf (Ev.bind g1 ⟨0, fun k _ => ?_⟩), fun h => (by cases h), fun n h0 h1 h => ?_⟩
      · show (if false = true then _ else _) = _
        rw [if_neg (by simp)]
      · by_cases c : n < 0
        · obtain ⟨v, rfl⟩ : ∃ v : Nat, n = -(v : Int) := ⟨n.natAbs, by omega⟩
          rw [Go.Lib.itoa_neg v (by omega), hcons] at h
          exact g3 v (by omega) (List.cons.inj h).2
        · obtain ⟨v, rfl⟩ : ∃ v : Nat, n = (v : Int) := ⟨n.toNat, by omega⟩
          rw [Go.Lib.itoa_nonneg, hcons] at h
          exact absurd h.symm (dec_not45 v _)
  · refine plain (fun k => by unfold spec_l01Signed.f; rw [if_neg c0, if_pos (by omega), show ((bt s 0) == 45) = false from beq_eq_false_iff_ne.2 c1, spec_l01Signed.j0, if_neg (by simp)]) (fun r h => c1 ?_)
    have h9 : s.data.toList[0]? = some 45 := by rw [h]; rfl
    rw [List.getElem?_eq_getElem hpos] at h9
    rw [hb0, Option.some.inj h9]; rfl
theorem integer_word (s : ByteArray) (hs : s.size ≤ 1048576) : ∃ (r : Int) (b : Bool), impl_integer.f s = some (r, b) ∧ (b = true → s.data.toList = Go.Lib.itoa r) ∧ (∀ n : Int, -10000000000 < n → n < 10000000000 → s.data.toList = Go.Lib.itoa n → b = true) := by
  unfold impl_integer.f
  rw [if_pos (by omega)]
  cases hp : Go.Lib.parseIntB 64 s.data.toList with
  | ok v =>
    have hb := Go.Lib.parseIntB_bounds hp
    have h63 : (2 : Nat) ^ (64 - 1) = 9223372036854775808 := by decide
    rw [h63] at hb
    simp only
    refine ⟨v, _, by rw [if_pos (by omega)], fun h => ?_, fun n h0 h1 h => ?_⟩
    · rw [beq_iff_eq] at h
      rw [h, Go.Lib.toList_data]
    · rw [h, parse_itoa n (by omega) (by omega)] at hp
      have e := Go.Lib.NumEnd.ok.inj hp
      subst e
      rw [beq_iff_eq, Go.Lib.toList_data]
      exact h.symm
  | range =>
    refine ⟨_, false, rfl, fun h => (by cases h), fun n h0 h1 h => ?_⟩
    rw [h, parse_itoa n (by omega) (by omega)] at hp
    cases hp
  | «syntax» =>
    refine ⟨_, false, rfl, fun h => (by cases h), fun n h0 h1 h => ?_⟩
    rw [h, parse_itoa n (by omega) (by omega)] at hp
    cases hp
theorem splitG_len (c : UInt8) : ∀ (l pre : List UInt8), ∀ p ∈ splitG c pre l, p.length ≤ pre.length + l.length
  | [], pre, p, h => by
    rw [splitG, List.mem_singleton] at h
    subst h; simp
  | x :: l, pre, p, h => by
    rw [splitG] at h
    split at h
    · rcases List.mem_cons.1 h with rfl | h
      · simp only [List.length_cons]; omega
      · have := splitG_len c l [] p h
        simp only [List.length_cons, List.length_nil] at this ⊢; omega
    · have := splitG_len c l (pre ++ [x]) p h
      rw [List.length_append] at this
      simp only [List.length_cons, List.length_nil] at this ⊢; omega
theorem splitB_size (c : UInt8) (s : ByteArray) : ∀ w ∈ Go.Lib.splitB ⟨#[c]⟩ 0 (Go.Lib.countB s ⟨#[c]⟩) s, w.size ≤ s.size := by
  intro w hw
  have h1 : w.data.toList ∈ splitG c [] s.data.toList := by
    rw [← splitB_is c _ s rfl]
    exact List.mem_map_of_mem (f := fun s : ByteArray => s.data.toList) hw
  have := splitG_len c _ _ _ h1
  simpa using this
theorem splitB_count (c : UInt8) (s : ByteArray) : (Go.Lib.splitB ⟨#[c]⟩ 0 (Go.Lib.countB s ⟨#[c]⟩) s).length ≤ s.size + 1 ∧ 1 ≤ (Go.Lib.splitB ⟨#[c]⟩ 0 (Go.Lib.countB s ⟨#[c]⟩) s).length := by
  have h1 := Go.Lib.splitB_all ⟨#[c]⟩ (Nat.le_refl 1) 0 _ s rfl
  have h2 := Go.Lib.countB_le ⟨#[c]⟩ (Nat.le_refl 1) s.size s (Nat.le_refl _)
  omega
/-- The word at place j. -/
def wd (W : List ByteArray) (j : Nat) : List UInt8 := (W.getD j ByteArray.empty).data.toList
/-- The words spell the numbers. -/
def Good (W : List ByteArray) (xs : List Int) : Prop := xs.length = W.length ∧ ∀ j, j < W.length → wd W j = Go.Lib.itoa (xs.getD j 0)
theorem Good.unique {W : List ByteArray} {xs ys : List Int} (h : Good W xs) (g : Good W ys) : xs = ys := by
  apply List.ext_getElem (h.1.trans g.1.symm)
  intro j h1 h2
  have a := h.2 j (by have := h.1; omega)
  have b := g.2 j (by have := h.1; omega)
  have := itoa_inj (a.symm.trans b)
  simpa [List.getD_eq_getElem?_getD, List.getElem?_eq_getElem, h1, h2] using this
theorem rdOf_wd (W : List ByteArray) (i : Nat) : rdOf ByteArray.empty W (i : Int) = W.getD i ByteArray.empty := rfl
theorem getD_app_lt (xs : List Int) (r : Int) (j : Nat) (h : j < xs.length) : (xs ++ [r]).getD j 0 = xs.getD j 0 := by
  simp [List.getD_eq_getElem?_getD, List.getElem?_append_left h]
theorem getD_app_eq (xs : List Int) (r : Int) : (xs ++ [r]).getD xs.length 0 = r := by
  simp [List.getD_eq_getElem?_getD]
theorem getD_size (W : List ByteArray) (M : Nat) (h : ∀ w ∈ W, w.size ≤ M) (i : Nat) (hi : i < W.length) : (W.getD i ByteArray.empty).size ≤ M := by
  rw [List.getD_eq_getElem?_getD, List.getElem?_eq_getElem hi]
  exact h _ (List.getElem_mem hi)
/-- A string out of a list of bytes. -/
def mk (L : List UInt8) : ByteArray := ⟨L.toArray⟩
theorem mk_app (A B : List UInt8) : mk A ++ mk B = mk (A ++ B) := by
  apply ByteArray.ext
  simp [mk]
theorem mk_size (A : List UInt8) : (mk A).size = A.length := by simp [mk, ByteArray.size]
theorem decimal_ev (u : Nat) : u < 9223372036854775808 → Ev (fun k => spec_Decimal.f k (u : Int)) (mk (Go.Lib.decDigits u)) := by
  induction u using Nat.strongRecOn with
  | _ u ih =>
  intro hu
  by_cases c : u < 10
  · refine Ev.step (f := fun _ => some (mk (Go.Lib.decDigits u))) (fun k => ?_) ⟨0, fun k _ => rfl⟩
    rw [spec_Decimal.f, if_pos (by omega), Go.Lib.decDigits_one c]
    have e : Int.tmod (u : Int) 10 = (u : Int) := by rw [Int.tmod_eq_emod_of_nonneg (by omega)]; omega
    rw [e, wrap64_id (by omega) (by omega)]
    unfold strOfNums mk
    simp only [List.map_cons, List.map_nil, Option.some.injEq]
    rw [show ((48 + (u : Int)) % 256).toNat = 48 + u from by omega]
  · have e1 : Int.tdiv (u : Int) 10 = ((u / 10 : Nat) : Int) := by rw [Int.tdiv_eq_ediv_of_nonneg (by omega)]; omega
    have e2 : Int.tmod (u : Int) 10 = ((u % 10 : Nat) : Int) := by rw [Int.tmod_eq_emod_of_nonneg (by omega)]; omega
    have h1 := ih (u / 10) (by omega) (by omega)
    have hl : (Go.Lib.decDigits (u / 10)).length ≤ 20 := by rw [Go.Lib.decDigits_length]; exact Go.Lib.nDigits_le20 _ (by omega)
    have e3 : strOfNums ([(wrap64 (48 + (Int.tmod (u : Int) 10))) % 256] : List Int) = mk [UInt8.ofNat (48 + u % 10)] := by
      rw [e2, wrap64_id (by omega) (by omega)]
      unfold strOfNums mk
      simp only [List.map_cons, List.map_nil]
      rw [show ((48 + ((u % 10 : Nat) : Int)) % 256).toNat = 48 + u % 10 from by omega]
    refine Ev.step (f := fun k => (spec_Decimal.f k ((u / 10 : Nat) : Int)).bind fun t109 => (if t109.size + 1 ≤ 9223372036854775807 then (some (t109 ++ mk [UInt8.ofNat (48 + u % 10)])) else (none))) (fun k => ?_) ?_
    · rw [spec_Decimal.f, if_neg (by omega), e1, wrap64_id (n := ((u / 10 : Nat) : Int)) (by omega) (by omega)]
      simp only [Option.bind_some, e3, mk_size, List.length_cons, List.length_nil, Nat.zero_add]
    · refine Ev.bind h1 ⟨0, fun k _ => ?_⟩
      show (if (mk (Go.Lib.decDigits (u / 10))).size + 1 ≤ 9223372036854775807 then _ else none) = _
      rw [if_pos (by rw [mk_size]; omega), mk_app]
      conv => rhs; rw [Go.Lib.decDigits, dif_neg c]
theorem signed_ev (n : Int) (h0 : -1000000000 ≤ n) (h1 : n ≤ 1000000000) : Ev (fun k => spec_Signed.f k n) (mk (Go.Lib.itoa n)) := by
  by_cases c : n < 0
  · obtain ⟨u, rfl⟩ : ∃ u : Nat, n = -(u : Int) := ⟨n.natAbs, by omega⟩
    have hl : (Go.Lib.decDigits u).length ≤ 20 := by rw [Go.Lib.decDigits_length]; exact Go.Lib.nDigits_le20 _ (by omega)
    refine Ev.congr (fun k => by unfold spec_Signed.f; rw [if_pos c, Int.neg_neg, wrap64_id (by omega) (by omega)]) ?_
    refine Ev.bind (decimal_ev u (by omega)) ⟨0, fun k _ => ?_⟩
    show (if 1 + (mk (Go.Lib.decDigits u)).size ≤ 9223372036854775807 then _ else none) = _
    rw [if_pos (by rw [mk_size]; omega), Go.Lib.itoa_neg u (by omega)]
    exact congrArg some (mk_app [45] _)
  · obtain ⟨u, rfl⟩ : ∃ u : Nat, n = (u : Int) := ⟨n.toNat, by omega⟩
    refine Ev.congr (fun k => by unfold spec_Signed.f; rw [if_neg c]) ?_
    refine Ev.bind (decimal_ev u (by omega)) ⟨0, fun k _ => ?_⟩
    rw [Go.Lib.itoa_nonneg]
/-- The text of the first i terms. -/
def txt (xs : List Int) : Nat → List UInt8
  | 0 => []
  | i + 1 => txt xs i ++ (if i = 0 then [] else if i = 1 then [59] else [44]) ++ Go.Lib.itoa (xs.getD i 0)
theorem itoa_len (n : Int) (h0 : -1000000000 ≤ n) (h1 : n ≤ 1000000000) : (Go.Lib.itoa n).length ≤ 21 := Go.Lib.itoa_length_le n (by omega) (by omega)
theorem txt_len (xs : List Int) (hx : ∀ j, j < xs.length → -1000000000 ≤ xs.getD j 0 ∧ xs.getD j 0 ≤ 1000000000) : ∀ i, i ≤ xs.length → (txt xs i).length ≤ 22 * i := by
  intro i
  induction i with
  | zero => intro _; exact Nat.le_refl _
  | succ i ih =>
    intro hi
    have h1 := ih (by omega)
    have h2 := itoa_len (xs.getD i 0) (hx i (by omega)).1 (hx i (by omega)).2
    simp only [txt, List.length_append]
    split
    · simp only [List.length_nil]; omega
    · split <;> (simp only [List.length_cons, List.length_nil]; omega)
theorem specText_loop (xs : List Int) (hn : xs.length ≤ 40) (hx : ∀ j, j < xs.length → -1000000000 ≤ xs.getD j 0 ∧ xs.getD j 0 ≤ 1000000000) (d : Nat) : ∀ i : Nat, i + d = xs.length → Ev (fun k => spec_TermsText.l0 k xs (mk (txt xs i)) (i : Int)) (mk (txt xs xs.length)) := by
  induction d with
  | zero =>
    intro i hi
    obtain rfl : i = xs.length := by omega
    exact Ev.step (f := fun _ => some (mk (txt xs xs.length))) (fun k => by rw [spec_TermsText.l0, if_neg (by omega)]) ⟨0, fun k _ => rfl⟩
  | succ d ih =>
    intro i hi
    have hL := txt_len xs hx i (by omega)
    have hI := itoa_len (xs.getD i 0) (hx i (by omega)).1 (hx i (by omega)).2
    have hS := signed_ev (xs.getD i 0) (hx i (by omega)).1 (hx i (by omega)).2
    have e : wrap64 ((i : Int) + 1) = ((i + 1 : Nat) : Int) := by rw [wrap64_id (by omega) (by omega)]; omega
    have nx := ih (i + 1) (by omega)
    have b59 : (⟨#[59]⟩ : ByteArray) = mk [59] := rfl
    have b44 : (⟨#[44]⟩ : ByteArray) = mk [44] := rfl
    by_cases c1 : i = 1
    · subst c1
      refine Ev.step (f := fun k => (spec_Signed.f k (xs.getD 1 0)).bind fun t => if (mk (txt xs 1 ++ [59])).size + t.size ≤ 9223372036854775807 then spec_TermsText.l0 k xs (mk (txt xs 1 ++ [59]) ++ t) ((1 + 1 : Nat) : Int) else none) (fun k => ?_) ?_
      · rw [spec_TermsText.l0, if_pos (by omega), if_pos (by omega), if_pos (by rw [mk_size]; omega), if_neg (by omega), if_pos (by omega), b59, mk_app, e, rd_nat]
      · refine Ev.bind hS ?_
        refine Ev.congr (fun k => if_pos (by rw [mk_size, mk_size, List.length_append]; simp only [List.length_cons, List.length_nil]; omega)) ?_
        have t1 : mk (txt xs 1 ++ [59]) ++ mk (Go.Lib.itoa (xs.getD 1 0)) = mk (txt xs (1 + 1)) := by rw [mk_app]; rfl
        rw [t1]; exact nx
    · by_cases c2 : 1 < i
      · refine Ev.step (f := fun k => (spec_Signed.f k (xs.getD i 0)).bind fun t => if (mk (txt xs i ++ [44])).size + t.size ≤ 9223372036854775807 then spec_TermsText.l0 k xs (mk (txt xs i ++ [44]) ++ t) ((i + 1 : Nat) : Int) else none) (fun k => ?_) ?_
        · rw [spec_TermsText.l0, if_pos (by omega), if_neg (by omega), if_pos (by omega), if_pos (by rw [mk_size]; omega), if_pos (by omega), b44, mk_app, e, rd_nat]
        · refine Ev.bind hS ?_
          refine Ev.congr (fun k => if_pos (by rw [mk_size, mk_size, List.length_append]; simp only [List.length_cons, List.length_nil]; omega)) ?_
          have t1 : mk (txt xs i ++ [44]) ++ mk (Go.Lib.itoa (xs.getD i 0)) = mk (txt xs (i + 1)) := by rw [mk_app]; simp only [txt]; rw [if_neg (by omega), if_neg c1]
          rw [t1]; exact nx
      · obtain rfl : i = 0 := by omega
        refine Ev.step (f := fun k => (spec_Signed.f k (xs.getD 0 0)).bind fun t => if (mk (txt xs 0)).size + t.size ≤ 9223372036854775807 then spec_TermsText.l0 k xs (mk (txt xs 0) ++ t) ((0 + 1 : Nat) : Int) else none) (fun k => ?_) ?_
        · rw [spec_TermsText.l0, if_pos (by omega), if_neg (by omega), if_neg (by omega), if_pos (by omega), e, rd_nat]
        · refine Ev.bind hS ?_
          refine Ev.congr (fun k => if_pos (by rw [mk_size, mk_size]; omega)) ?_
          have t1 : mk (txt xs 0) ++ mk (Go.Lib.itoa (xs.getD 0 0)) = mk (txt xs (0 + 1)) := by rw [mk_app]; rfl
          rw [t1]; exact nx
theorem splitG_ne (c : UInt8) : ∀ (l pre : List UInt8), splitG c pre l ≠ []
  | [], pre => by simp [splitG]
  | x :: l, pre => by
    rw [splitG]
    split
    · simp
    · exact splitG_ne c l _
/-- Lists put together with a separator between them. -/
def joinS (sep : List UInt8) : List (List UInt8) → List UInt8
  | [] => []
  | [x] => x
  | x :: y :: r => x ++ sep ++ joinS sep (y :: r)
def joinTl (sep : List UInt8) (r : List (List UInt8)) : List UInt8 := (r.map (sep ++ ·)).flatten
theorem join_cons2 (x : List UInt8) (r : List (List UInt8)) (sep : List UInt8) (h : r ≠ []) : joinS sep (x :: r) = x ++ sep ++ joinS sep r := by
  cases r with
  | nil => exact absurd rfl h
  | cons y r => rw [joinS]
theorem join_cons (sep : List UInt8) : ∀ (r : List (List UInt8)) (x : List UInt8), joinS sep (x :: r) = x ++ joinTl sep r
  | [], x => by simp [joinS, joinTl]
  | y :: r, x => by
    rw [joinS, join_cons sep r y]
    simp [joinTl]
theorem join_splitG (c : UInt8) : ∀ (l pre : List UInt8), joinS [c] (splitG c pre l) = pre ++ l
  | [], pre => by simp [splitG, joinS]
  | x :: l, pre => by
    rw [splitG]
    by_cases h : x = c
    · rw [if_pos h, join_cons2 _ _ _ (splitG_ne c l []), join_splitG c l [], h]; simp
    · rw [if_neg h, join_splitG c l (pre ++ [x])]; simp
theorem splitG_keeps (c e : UInt8) (hce : e ≠ c) : ∀ (l pre : List UInt8), (e ∈ pre ∨ e ∈ l) → ∃ p ∈ splitG c pre l, e ∈ p
  | [], pre, h => ⟨pre, by simp [splitG], by simpa using h⟩
  | x :: l, pre, h => by
    rw [splitG]
    by_cases hx : x = c
    · rw [if_pos hx]
      by_cases hp : e ∈ pre
      · exact ⟨pre, by simp, hp⟩
      · have h2 : e ∈ l := by
          rcases h with h | h
          · exact absurd h hp
          · rcases List.mem_cons.1 h with h | h
            · exact absurd (h.trans hx) hce
            · exact h
        obtain ⟨p, h3, h4⟩ := splitG_keeps c e hce l [] (Or.inr h2)
        exact ⟨p, List.mem_cons_of_mem _ h3, h4⟩
    · rw [if_neg hx]
      refine splitG_keeps c e hce l (pre ++ [x]) ?_
      rcases h with h | h
      · exact Or.inl (List.mem_append_left _ h)
      · rcases List.mem_cons.1 h with h | h
        · exact Or.inl (by simp [h])
        · exact Or.inr h
theorem itoa_no59 (n : Int) : (59 : UInt8) ∉ Go.Lib.itoa n := by
  intro h
  by_cases c : n < 0
  · obtain ⟨u, rfl⟩ : ∃ u : Nat, n = -(u : Int) := ⟨n.natAbs, by omega⟩
    rw [Go.Lib.itoa_neg u (by omega)] at h
    rcases List.mem_cons.1 h with h | h
    · exact absurd h (by decide)
    · have := dec_digits u _ h
      simp at this
  · obtain ⟨u, rfl⟩ : ∃ u : Nat, n = (u : Int) := ⟨n.toNat, by omega⟩
    rw [Go.Lib.itoa_nonneg] at h
    have := dec_digits u _ h
    simp at this
/-- What both sides answer of the words. -/
def OutT (W : List ByteArray) (R : List Int × Int) : Prop := (∃ xs, Good W xs ∧ termsOk xs = true ∧ R = (xs, 0)) ∨ ((∀ xs, Good W xs → termsOk xs = false) ∧ R = ([], 5))
theorem OutT.unique {W : List ByteArray} {R S : List Int × Int} (h : OutT W R) (g : OutT W S) : R = S := by
  rcases h with ⟨xs, a1, a2, rfl⟩ | ⟨a1, rfl⟩
  · rcases g with ⟨ys, b1, b2, rfl⟩ | ⟨b1, rfl⟩
    · rw [a1.unique b1]
    · rw [b1 xs a1] at a2; cases a2
  · rcases g with ⟨ys, b1, b2, rfl⟩ | ⟨b1, rfl⟩
    · rw [a1 ys b1] at b2; cases b2
    · rfl
theorem OutT.bad {W : List ByteArray} (i : Nat) (hi : i < W.length) (h : ∀ n : Int, -10000000000 < n → n < 10000000000 → wd W i ≠ Go.Lib.itoa n) : OutT W ([], 5) := by
  refine Or.inr ⟨fun xs hg => ?_, rfl⟩
  cases e : termsOk xs with
  | false => rfl
  | true =>
    have h1 := (termsOk_is e).2.1 i (by rw [hg.1]; exact hi)
    exact absurd (hg.2 i hi) (h _ (by omega) (by omega))
theorem OutT.all {W : List ByteArray} {xs : List Int} (hg : Good W xs) : OutT W (if termsOk xs = true then (xs, 0) else ([], 5)) := by
  by_cases c : termsOk xs = true
  · rw [if_pos c]; exact Or.inl ⟨xs, hg, c, rfl⟩
  · rw [if_neg c]
    refine Or.inr ⟨fun ys h => ?_, rfl⟩
    rw [← hg.unique h]
    simpa using c
theorem OutT.len {W : List ByteArray} {R : List Int × Int} (h : OutT W R) : R.1.length ≤ 40 := by
  rcases h with ⟨xs, _, h2, rfl⟩ | ⟨_, rfl⟩
  · exact (termsOk_is h2).1.2
  · exact Nat.zero_le _
theorem specT_false (x0 : ByteArray) (W : List ByteArray) (acc : List Int) (i : Int) : Ev (fun k => spec_ReadTerms.l0 k x0 W acc false i) (([] : List Int), (5 : Int)) := by
  refine Ev.step (f := fun k => spec_ReadTerms.j2 k x0 acc false) (fun k => ?_) ?_
  · rw [spec_ReadTerms.l0]
    by_cases c : i < (W.length : Int)
    · rw [if_pos c, if_neg (by simp)]
    · rw [if_neg c]
  · exact Ev.step (f := fun _ => some (([] : List Int), (5 : Int))) (fun k => by rw [spec_ReadTerms.j2, if_neg (by simp)]) ⟨0, fun k _ => rfl⟩
theorem specT_loop (x0 : ByteArray) (W : List ByteArray) (hW : W.length ≤ 1048580) (hT : ∀ xs, Good W xs → termsOk xs = true → txt xs xs.length = x0.data.toList) (d : Nat) : ∀ (i : Nat) (acc : List Int), i + d = W.length → acc.length = i → (∀ j, j < i → wd W j = Go.Lib.itoa (acc.getD j 0)) → (∀ z ∈ acc, -9223372036854775808 ≤ z ∧ z ≤ 9223372036854775807) → ∃ R, Ev (fun k => spec_ReadTerms.l0 k x0 W acc true (i : Int)) R ∧ OutT W R := by
  induction d with
  | zero =>
    intro i acc hi ha hj hw
    obtain rfl : i = W.length := by omega
    have hg : Good W acc := ⟨ha, hj⟩
    refine ⟨_, ?_, OutT.all hg⟩
    refine Ev.step (f := fun k => spec_ReadTerms.j2 k x0 acc true) (fun k => by rw [spec_ReadTerms.l0, if_neg (by omega)]) ?_
    refine Ev.step (f := fun k => (spec_l04Terms.f k acc).bind fun t160 => (if t160 = true then ((spec_TermsText.f k acc).bind fun t161 => (if t161.toList = x0.toList then (some (acc, 0)) else (some ((([] : List Int)), 5)))) else (some ((([] : List Int)), 5)))) (fun k => by rw [spec_ReadTerms.j2, if_pos rfl]) ?_
    refine Ev.bind (specTerms_ev acc (terms_w hw)) ?_
    by_cases c : termsOk acc = true
    · rw [if_pos c]
      refine Ev.congr (fun k => if_pos c) ?_
      have h := termsOk_is c
      have hx : ∀ j, j < acc.length → -1000000000 ≤ acc.getD j 0 ∧ acc.getD j 0 ≤ 1000000000 := fun j hj => ⟨(h.2.1 j hj).1, (h.2.1 j hj).2.1⟩
      have ht : Ev (fun k => spec_TermsText.f k acc) (mk (txt acc acc.length)) := Ev.bind (specTerms_ev acc (terms_w hw)) (Ev.congr (fun k => if_pos c) (specText_loop acc h.1.2 hx acc.length 0 (by omega)))
      refine Ev.bind ht ⟨0, fun k _ => if_pos ?_⟩
      rw [Go.Lib.toList_data, Go.Lib.toList_data, hT acc hg c]
      rfl
    · rw [if_neg c]
      exact ⟨0, fun k _ => if_neg c⟩
  | succ d ih =>
    intro i acc hi ha hj hw
    have e : wrap64 ((i : Int) + 1) = ((i + 1 : Nat) : Int) := by rw [wrap64_id (by omega) (by omega)]; omega
    obtain ⟨r, b, g1, g2, g3⟩ := signed_word (W.getD i ByteArray.empty)
    have st : ∀ k, spec_ReadTerms.l0 (k + 1) x0 W acc true (i : Int) = (spec_l01Signed.f k (W.getD i ByteArray.empty)).bind fun bt155 => (if acc.length < 17592186044416 then (spec_ReadTerms.l0 k x0 W (acc ++ [bt155.1]) bt155.2 ((i + 1 : Nat) : Int)) else (none)) := fun k => by rw [spec_ReadTerms.l0, if_pos (by omega), if_pos rfl, if_pos (by omega), rdOf_wd, e]
    cases b with
    | true =>
      have hr := g2 rfl
      obtain ⟨R, q1, q2⟩ := ih (i + 1) (acc ++ [r]) (by omega) (by rw [List.length_append, ha]; rfl) (fun j hji => by
        by_cases c : j = i
        · subst c
          subst ha
          rw [getD_app_eq]
          exact hr.1
        · rw [getD_app_lt _ _ _ (by omega)]
          exact hj j (by omega)) (fun z hz => by
        rcases List.mem_append.1 hz with hz | hz
        · exact hw z hz
        · obtain rfl := List.mem_singleton.1 hz
          omega)
      exact ⟨R, Ev.step st (Ev.bind g1 (Ev.congr (fun k => if_pos (by omega)) q1)), q2⟩
    | false =>
      refine ⟨([], 5), Ev.step st (Ev.bind g1 (Ev.congr (fun k => if_pos (by omega)) (specT_false x0 W _ _))), OutT.bad i (by omega) (fun n h0 h1 h => ?_)⟩
      have := g3 n h0 h1 h
      cases this
theorem implT_loop (W : List ByteArray) (hW : W.length ≤ 1048580) (hz : ∀ w ∈ W, w.size ≤ 1048576) (d : Nat) : ∀ (i : Nat) (acc : List Int), i + d = W.length → acc.length = W.length → (∀ j, j < i → wd W j = Go.Lib.itoa (acc.getD j 0)) → ∃ R, Ev (fun k => impl_ReadTerms.l0 k acc W (W.length : Int) (i : Int)) R ∧ OutT W R := by
  induction d with
  | zero =>
    intro i acc hi ha hj
    obtain rfl : i = W.length := by omega
    refine ⟨_, ?_, OutT.all (W := W) (xs := acc) ⟨ha, hj⟩⟩
    refine Ev.step (f := fun k => (impl_ValidTerms.f k acc).bind fun t193 => (if t193 = true then (some (acc, 0)) else (some (([] : List Int), 5)))) (fun k => by rw [impl_ReadTerms.l0, if_neg (by omega)]) ?_
    refine Ev.bind (implTerms_ev acc) ⟨0, fun k _ => ?_⟩
    by_cases c : termsOk acc = true
    · rw [if_pos c, if_pos c]
    · rw [if_neg c, if_neg c]
  | succ d ih =>
    intro i acc hi ha hj
    have e : wrap64 ((i : Int) + 1) = ((i + 1 : Nat) : Int) := by rw [wrap64_id (by omega) (by omega)]; omega
    obtain ⟨r, b, g1, g2, g3⟩ := integer_word (W.getD i ByteArray.empty) (getD_size W _ hz i (by omega))
    cases b with
    | true =>
      obtain ⟨R, q1, q2⟩ := ih (i + 1) (acc.set i r) (by omega) (by simpa using ha) (fun j hji => by
        by_cases c : j = i
        · subst c
          have h1 : (acc.set j r).getD j 0 = r := by simp [List.getD_eq_getElem?_getD, show j < acc.length by omega]
          rw [h1]
          exact g2 rfl
        · have c2 : ¬ i = j := fun h => c h.symm
          have h1 : (acc.set i r).getD j 0 = acc.getD j 0 := by simp [List.getD_eq_getElem?_getD, c2]
          rw [h1]
          exact hj j (by omega))
      refine ⟨R, Ev.step (fun k => ?_) q1, q2⟩
      rw [impl_ReadTerms.l0, if_pos (by omega), if_pos (by omega), if_pos (by omega), rdOf_wd, g1, Option.bind_some, if_pos rfl, if_pos (by omega), e]
      rfl
    | false =>
      refine ⟨([], 5), Ev.step (f := fun _ => some (([] : List Int), (5 : Int))) (fun k => ?_) ⟨0, fun k _ => rfl⟩, OutT.bad i (by omega) (fun n h0 h1 h => ?_)⟩
      · rw [impl_ReadTerms.l0, if_pos (by omega), if_pos (by omega), if_pos (by omega), rdOf_wd, g1, Option.bind_some, if_neg (by simp)]
      · have := g3 n h0 h1 h
        cases this
theorem implT_words (W : List ByteArray) (hW : W.length ≤ 1048580) (hz : ∀ w ∈ W, w.size ≤ 1048576) : ∃ R, Ev (fun k => impl_ReadTerms.j0 k W) R ∧ OutT W R := by
  obtain ⟨R, p1, p2⟩ := implT_loop W hW hz W.length 0 (List.replicate ((W.length : Int) : Int).toNat 0) (by omega) (by simp) (fun j h => by omega)
  refine ⟨R, Ev.step (fun k => ?_) p1, p2⟩
  rw [impl_ReadTerms.j0, if_pos (by omega), if_pos (by omega)]
  rfl
theorem txt_two (a b : Int) (r : List Int) : ∀ i, i ≤ r.length → txt (a :: b :: r) (i + 2) = Go.Lib.itoa a ++ [59] ++ (Go.Lib.itoa b ++ joinTl [44] ((r.take i).map Go.Lib.itoa)) := by
  intro i
  induction i with
  | zero =>
    intro _
    simp [txt, joinTl]
  | succ i ih =>
    intro hi
    rw [txt, ih (by omega), if_neg (by omega), if_neg (by omega), List.take_succ_eq_append_getElem (by omega : i < r.length)]
    unfold joinTl
    rw [List.map_append, List.map_append, List.flatten_append]
    simp only [List.map_cons, List.map_nil, List.flatten_cons, List.flatten_nil, List.append_nil, List.append_assoc]
    have : (a :: b :: r).getD (i + 2) 0 = r[i] := by simp [List.getD_eq_getElem?_getD, List.getElem?_eq_getElem (by omega : i < r.length)]
    rw [this]
theorem good_map {W : List ByteArray} {xs : List Int} (h : Good W xs) : W.map (·.data.toList) = xs.map Go.Lib.itoa := by
  apply List.ext_getElem (by simpa using h.1.symm)
  intro j h1 h2
  have h3 : j < W.length := by simpa using h1
  have h4 : j < xs.length := by simpa using h2
  have := h.2 j h3
  simpa [wd, List.getD_eq_getElem?_getD, List.getElem?_eq_getElem, h3, h4] using this
theorem mk_data (s : ByteArray) : mk s.data.toList = s := by
  apply ByteArray.ext
  simp [mk]
theorem cut_none (L : List UInt8) (h : Go.Lib.indexByte L 59 = -1) : Go.Lib.cut L [59] = (L, [], false) := by
  unfold Go.Lib.cut
  rw [Go.Lib.index_one, h, if_neg (by decide)]
theorem cut_some (L : List UInt8) (i : Nat) (h : Go.Lib.indexByte L 59 = (i : Int)) : Go.Lib.cut L [59] = (L.take i, L.drop (i + 1), true) := by
  unfold Go.Lib.cut
  rw [Go.Lib.index_one, h, if_pos (by omega)]
  rfl
theorem specT_words (s : ByteArray) (P W : List ByteArray) (hP : P.length ≤ 2) (hW : W.length ≤ 1048580) (hT : ∀ xs, Good W xs → termsOk xs = true → txt xs xs.length = s.data.toList) : ∃ R, Ev (fun k => spec_ReadTerms.j0 k s P W) R ∧ OutT W R := by
  obtain ⟨R, q1, q2⟩ := specT_loop s W hW hT W.length 0 [] (by omega) rfl (fun j h => by omega) (fun z h => by cases h)
  refine ⟨R, Ev.step (fun k => ?_) q1, q2⟩
  rw [spec_ReadTerms.j0, decide_eq_true (by omega)]
  rfl
theorem readTerms_ev (s : ByteArray) (hs : s.size ≤ 1048576) : ∃ R : List Int × Int, R.1.length ≤ 40 ∧ Ev (fun k => spec_ReadTerms.f k s) R ∧ Ev (fun k => impl_ReadTerms.f k s) R := by
  have hl : s.data.toList.length = s.size := by simp
  have h59 := split_same s hs 59
  have hP := splitB_is 59 _ s rfl
  generalize Go.Lib.splitB ⟨#[59]⟩ 0 (Go.Lib.countB s ⟨#[59]⟩) s = P at h59 hP
  have hcut : strings_Cut.f s (⟨#[59]⟩ : ByteArray) = some (mk (Go.Lib.cut s.data.toList [59]).1, mk (Go.Lib.cut s.data.toList [59]).2.1, (Go.Lib.cut s.data.toList [59]).2.2) := by
    unfold strings_Cut.f
    rw [if_pos (by omega)]
    rfl
  by_cases c : Go.Lib.indexByte s.data.toList 59 = -1
  · have eP : P = [s] := by
      apply words_inj
      rw [hP, splitG_none 59 _ _ (Go.Lib.indexByte_none c)]
      simp
    rw [cut_none _ c] at hcut
    simp only [mk_data] at hcut
    have hT : ∀ xs, Good [s] xs → termsOk xs = true → txt xs xs.length = s.data.toList := by
      intro xs hg _
      have h1 := good_map hg
      cases xs with
      | nil => have := hg.1; simp at this
      | cons a r =>
        cases r with
        | cons b r => have := hg.1; simp at this
        | nil =>
          have h2 : s.data.toList = Go.Lib.itoa a := by simpa using h1
          rw [h2]
          simp [txt]
    obtain ⟨R, q1, q2⟩ := specT_words s [s] [s] (by simp) (by simp) hT
    obtain ⟨R2, p1, p2⟩ := implT_words [s] (by simp) (fun w hw => by rw [List.mem_singleton.1 hw]; exact hs)
    refine ⟨R, q2.len, ?_, ?_⟩
    · refine Ev.bind h59 ?_
      rw [eP]
      refine Ev.congr (fun k => if_pos (by simp)) ?_
      refine Ev.bind (Ev.now _) ?_
      refine Ev.congr (fun k => if_neg (by simp)) q1
    · refine Ev.congr (fun k => by unfold impl_ReadTerms.f; rw [hcut, Option.bind_some]) ?_
      refine Ev.bind (Ev.now _) ?_
      rw [q2.unique p2]
      exact Ev.congr (fun k => if_neg (by simp)) p1
  · have hge := Go.Lib.indexByte_ge s.data.toList 59
    obtain ⟨i, hi⟩ : ∃ i : Nat, Go.Lib.indexByte s.data.toList 59 = (i : Int) := ⟨(Go.Lib.indexByte s.data.toList 59).toNat, by omega⟩
    obtain ⟨b1, b2⟩ := Go.Lib.indexByte_some hi
    have hil : i < s.data.toList.length := by
      rcases Nat.lt_or_ge i s.data.toList.length with h | h
      · exact h
      · rw [List.getElem?_eq_none h] at b1; cases b1
    have eL : s.data.toList = s.data.toList.take i ++ [59] ++ s.data.toList.drop (i + 1) := by
      have h1 : s.data.toList[i] = 59 := by rw [List.getElem?_eq_getElem hil] at b1; exact Option.some.inj b1
      conv => lhs; rw [← List.take_append_drop i s.data.toList, List.drop_eq_getElem_cons hil, h1]
      simp
    rw [cut_some _ i hi] at hcut
    rw [splitG_some 59 _ _ i b1 b2, List.nil_append] at hP
    have hds : (s.data.toList.drop (i + 1)).length ≤ 1048576 := by rw [List.length_drop]; omega
    have hts : (s.data.toList.take i).length ≤ 1048576 := by rw [List.length_take]; omega
    generalize s.data.toList.drop (i + 1) = D at eL hcut hP hds
    generalize s.data.toList.take i = T at eL hcut hP hts
    have hDs : (mk D).size ≤ 1048576 := by rw [mk_size]; exact hds
    have hQ := splitB_is 44 _ (mk D) rfl
    have hQz := splitB_size 44 (mk D)
    have hQn := splitB_count 44 (mk D)
    have h44 := split_same (mk D) hDs 44
    have hsp : strings_Split.f (mk D) (⟨#[44]⟩ : ByteArray) = some (Go.Lib.splitB ⟨#[44]⟩ 0 (Go.Lib.countB (mk D) ⟨#[44]⟩) (mk D)) := by
      unfold strings_Split.f
      rw [if_pos ⟨by omega, Nat.le_refl 1⟩]
    generalize Go.Lib.splitB ⟨#[44]⟩ 0 (Go.Lib.countB (mk D) ⟨#[44]⟩) (mk D) = Q at hQ hQz hQn h44 hsp
    have eD : (mk D).data.toList = D := by simp [mk]
    rw [eD] at hQ
    have hWn : ([mk T] ++ Q).length ≤ 1048580 := by rw [List.length_append]; simp only [List.length_cons, List.length_nil]; omega
    obtain ⟨R2, p1, p2⟩ := implT_words ([mk T] ++ Q) hWn (fun w hw => by
      rcases List.mem_append.1 hw with hw | hw
      · rw [List.mem_singleton.1 hw, mk_size]; exact hts
      · exact Nat.le_trans (hQz w hw) hDs)
    have himpl : Ev (fun k => impl_ReadTerms.f k s) R2 := by
      refine Ev.congr (fun k => by unfold impl_ReadTerms.f; rw [hcut, Option.bind_some]) ?_
      refine Ev.bind (Ev.now _) ?_
      refine Ev.congr (fun k => if_pos rfl) ?_
      refine Ev.congr (fun k => by rw [hsp, Option.bind_some]) ?_
      exact Ev.congr (fun k => if_pos (by simp only [List.length_cons, List.length_nil]; omega)) p1
    by_cases c2 : (59 : UInt8) ∈ D
    · have hbad : OutT ([mk T] ++ Q) (([] : List Int), (5 : Int)) := by
        obtain ⟨p, h1, h2⟩ := splitG_keeps 44 59 (by decide) D [] (Or.inr c2)
        rw [← hQ] at h1
        obtain ⟨q, h3, rfl⟩ := List.mem_map.1 h1
        obtain ⟨j, hj, rfl⟩ := List.getElem_of_mem (List.mem_append_right [mk T] h3)
        refine OutT.bad j hj (fun n _ _ h => ?_)
        have h5 : wd ([mk T] ++ Q) j = (([mk T] ++ Q)[j]).data.toList := by unfold wd; rw [List.getD_eq_getElem?_getD, List.getElem?_eq_getElem hj]; rfl
        rw [h5] at h
        rw [h] at h2
        exact itoa_no59 n h2
      rw [p2.unique hbad] at himpl
      refine ⟨([], 5), Nat.zero_le _, ?_, himpl⟩
      have hPl : 3 ≤ P.length := by
        have h6 : Go.Lib.indexByte D 59 ≠ -1 := fun h => by
          obtain ⟨j, hj, e⟩ := List.getElem_of_mem c2
          exact Go.Lib.indexByte_none h j (by rw [List.getElem?_eq_getElem hj, e])
        have hge2 := Go.Lib.indexByte_ge D 59
        obtain ⟨i2, hi2⟩ : ∃ i2 : Nat, Go.Lib.indexByte D 59 = (i2 : Int) := ⟨(Go.Lib.indexByte D 59).toNat, by omega⟩
        obtain ⟨d1, d2⟩ := Go.Lib.indexByte_some hi2
        rw [splitG_some 59 _ _ i2 d1 d2] at hP
        have h7 := congrArg List.length hP
        have h8 : 0 < (splitG 59 [] (D.drop (i2 + 1))).length := List.length_pos_iff.2 (splitG_ne _ _ _)
        rw [List.length_map, List.length_cons, List.length_cons] at h7
        omega
      refine Ev.bind h59 ?_
      refine Ev.congr (fun k => if_pos (by omega)) ?_
      refine Ev.bind (Ev.now _) ?_
      refine Ev.congr (fun k => if_neg (by omega)) ?_
      refine Ev.step (fun k => by rw [spec_ReadTerms.j0, decide_eq_false (by omega)]) ?_
      exact specT_false s _ _ _
    · have eP : P = [mk T, mk D] := by
        apply words_inj
        rw [hP, splitG_none 59 D [] (fun k h => c2 (List.mem_of_getElem? h))]
        simp [mk]
      have hT : ∀ xs, Good ([mk T] ++ Q) xs → termsOk xs = true → txt xs xs.length = s.data.toList := by
        intro xs hg _
        have h1 := good_map hg
        rw [List.map_append, hQ] at h1
        have hlen := hg.1
        rw [List.length_append] at hlen
        simp only [List.length_cons, List.length_nil] at hlen
        cases xs with
        | nil =>
          simp only [List.length_nil] at hlen
          omega
        | cons a r =>
          cases r with
          | nil =>
            simp only [List.length_cons, List.length_nil] at hlen
            omega
          | cons b r =>
            rw [List.map_cons, List.map_nil, List.map_cons] at h1
            have h2 : (mk T).data.toList = Go.Lib.itoa a := (List.cons.inj h1).1
            have h3 : splitG 44 [] D = (b :: r).map Go.Lib.itoa := (List.cons.inj h1).2
            have h4 := join_splitG 44 D []
            rw [h3, List.map_cons, join_cons, List.nil_append] at h4
            have h5 := txt_two a b r r.length (Nat.le_refl _)
            rw [List.take_length, h4] at h5
            have h6 : (mk T).data.toList = T := by simp [mk]
            rw [eL]
            show txt (a :: b :: r) (r.length + 2) = _
            rw [h5, ← h2, h6]
      obtain ⟨R, q1, q2⟩ := specT_words s [mk T, mk D] ([mk T] ++ Q) (by simp) hWn hT
      rw [p2.unique q2] at himpl
      refine ⟨R, q2.len, ?_, himpl⟩
      refine Ev.bind h59 ?_
      rw [eP]
      refine Ev.congr (fun k => if_pos (by simp)) ?_
      refine Ev.bind (Ev.now _) ?_
      refine Ev.congr (fun k => if_pos (by simp)) ?_
      refine Ev.congr (fun k => if_pos (by simp)) ?_
      refine Ev.bind h44 ?_
      exact Ev.congr (fun k => if_pos (by simp only [List.length_cons, List.length_nil]; omega)) q1
theorem FnExactReadTerms : laws_FnExactReadTerms.Pure := by
  intro x0 hx
  apply Ev.rounds (r := true)
  by_cases c : (x0.size : Int) > 1048576
  · exact ⟨0, fun k _ => by show laws_FnExactReadTerms.f k x0 = _; unfold laws_FnExactReadTerms.f; rw [if_pos c]⟩
  obtain ⟨⟨r1, r2⟩, hr, hs, hi⟩ := readTerms_ev x0 (by omega)
  simp only at hr
  refine Ev.congr (fun k => by unfold laws_FnExactReadTerms.f; rw [if_neg c]) ?_
  repeat' (first
    | (refine Ev.bind (hs) ?_; try dsimp only)
    | (refine Ev.bind (hi) ?_; try dsimp only)
    | (refine Ev.bind (eqInt64S_ev _ (by omega)) ?_; try dsimp only)
    | (refine Ev.bind (markInt64S_ev _ 1 (by omega) (by omega)) ?_; try dsimp only)
    | (refine Ev.bind (heldInt64S_ev _ 1 (by omega) (by omega)) ?_; try dsimp only)
    | exact ⟨0, fun k _ => rfl⟩
    | (refine Ev.congr (fun k => if_pos rfl) ?_; try dsimp only)
    | (refine Ev.congr (fun k => if_neg (by simp; done)) ?_; try dsimp only)
    | (refine Ev.congr (fun k => if_neg (by omega)) ?_; try dsimp only)
    | (refine Ev.congr (fun k => if_pos (by simp; done)) ?_; try dsimp only)
    | (refine Ev.congr (fun k => if_pos (by omega)) ?_; try dsimp only)
    | (refine Ev.step (fun k => by rw [laws_FnExactReadTerms.j0]) ?_; try dsimp only)
    | (refine Ev.step (fun k => by rw [laws_FnExactReadTerms.j1]) ?_; try dsimp only)
    )
end Go.Proofs.YtfenifdigjcmiaaDoor.Pure
