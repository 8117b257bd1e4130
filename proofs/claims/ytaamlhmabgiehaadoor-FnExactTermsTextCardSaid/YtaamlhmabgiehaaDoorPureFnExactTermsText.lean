/- The program's TermsText returns what the reference's returns, for every list of int64. -/
import Derived.Test.YtaamlhmabgiehaaDoorMFnExactTermsTextx3
import Derived.Test.YtaamlhmabgiehaaDoorMOpen
namespace Go.Proofs.YtaamlhmabgiehaaDoor.Pure
open Go.RowKit Go.Proofs.YtaamlhmabgiehaaDoor.MFnExactTermsText Go.Proofs.YtaamlhmabgiehaaDoor.MOpen Go.Proofs.YtaamlhmabgiehaaDoorW.PrintWords Go.Proofs.YtaamlhmabgiehaaDoorW.PrintLast Go.Proofs.YtaamlhmabgiehaaDoorW.PrintMore
set_option linter.unusedVariables false
set_option linter.unusedSimpArgs false
theorem wrap64_id {n : Int} (h0 : -9223372036854775808 ≤ n) (h1 : n ≤ 9223372036854775807) : wrap64 n = n := by
  unfold wrap64; omega
theorem rd_nat (xs : List Int) (i : Nat) : rd xs (i : Int) = xs.getD i 0 := by simp [rd]
theorem rd_get (xs : List Int) (i : Nat) (h : i < xs.length) : rd xs (i : Int) = xs[i] := by simp [rd, h]
theorem ev_k {α : Type} {f : Nat → Option α} {r : α} (n : Nat) (h : ∀ k, n ≤ k → f k = some r) : Ev f r := ⟨n, h⟩
/-- What both say of terms from index i on. -/
def TermsFrom (xs : List Int) (i : Nat) : Prop :=
  (∀ j, i ≤ j → j < xs.length → -1000000000 ≤ xs.getD j 0 ∧ xs.getD j 0 ≤ 1000000000 ∧ (0 < j → 1 ≤ xs.getD j 0)) ∧ (xs.length = 1 ∨ 2 ≤ xs.getD (xs.length - 1) 0)
theorem TermsFrom.step {xs : List Int} {i : Nat} (hi : i < xs.length) : TermsFrom xs i ↔ (-1000000000 ≤ xs.getD i 0 ∧ xs.getD i 0 ≤ 1000000000 ∧ (0 < i → 1 ≤ xs.getD i 0)) ∧ TermsFrom xs (i + 1) := by
  unfold TermsFrom
  constructor
  · rintro ⟨h, e⟩; exact ⟨h i (Nat.le_refl _) hi, fun j h1 h2 => h j (by omega) h2, e⟩
  · rintro ⟨h0, h, e⟩
    refine ⟨fun j h1 h2 => ?_, e⟩
    by_cases c : j = i
    · subst c; exact h0
    · exact h j (by omega) h2
theorem TermsFrom.done {xs : List Int} : TermsFrom xs xs.length ↔ (xs.length = 1 ∨ 2 ≤ xs.getD (xs.length - 1) 0) := by
  unfold TermsFrom
  constructor
  · rintro ⟨_, e⟩; exact e
  · intro e; exact ⟨fun j h1 h2 => by omega, e⟩
open Classical in
noncomputable def termsFrom (xs : List Int) (i : Nat) : Bool := decide (TermsFrom xs i)
open Classical in
theorem termsFrom_bad {xs : List Int} {i : Nat} (hi : i < xs.length) (h : ¬ (-1000000000 ≤ xs.getD i 0 ∧ xs.getD i 0 ≤ 1000000000 ∧ (0 < i → 1 ≤ xs.getD i 0))) : termsFrom xs i = false := by
  unfold termsFrom; rw [decide_eq_false_iff_not, TermsFrom.step hi]; exact fun z => h z.1
open Classical in
theorem termsFrom_good {xs : List Int} {i : Nat} (hi : i < xs.length) (h : (-1000000000 ≤ xs.getD i 0 ∧ xs.getD i 0 ≤ 1000000000 ∧ (0 < i → 1 ≤ xs.getD i 0))) : termsFrom xs i = termsFrom xs (i + 1) := by
  unfold termsFrom; rw [decide_eq_decide, TermsFrom.step hi]; exact ⟨fun z => z.2, fun z => ⟨h, z⟩⟩
open Classical in
theorem termsFrom_one {xs : List Int} (h : xs.length = 1) : termsFrom xs xs.length = true :=
  @decide_eq_true _ _ (TermsFrom.done.2 (.inl h))
open Classical in
theorem termsFrom_end {xs : List Int} (h : xs.length ≠ 1) : termsFrom xs xs.length = decide (xs.getD (xs.length - 1) 0 ≥ 2) := by
  by_cases c : xs.getD (xs.length - 1) 0 ≥ 2
  · rw [show decide (xs.getD (xs.length - 1) 0 ≥ 2) = true from decide_eq_true c]; exact @decide_eq_true _ _ (TermsFrom.done.2 (.inr c))
  · rw [show decide (xs.getD (xs.length - 1) 0 ≥ 2) = false from decide_eq_false c]; exact @decide_eq_false _ _ (fun z => c ((TermsFrom.done.1 z).resolve_left h))
theorem size_small {a : Int} (h0 : -9223372036854775808 ≤ a) (h : a ≤ 9223372036854775807) : ∃ r, spec_l03Size.f a = some r ∧ (r > 1000000000 → ¬ (-1000000000 ≤ a ∧ a ≤ 1000000000)) ∧ (¬ r > 1000000000 → ¬ a < -1000000000 → (-1000000000 ≤ a ∧ a ≤ 1000000000)) := by
  unfold spec_l03Size.f
  split
  · exact ⟨_, rfl, fun h => by unfold wrap64 at h; omega, fun h1 h2 => by unfold wrap64 at h1; omega⟩
  · exact ⟨_, rfl, fun h => by omega, fun h1 h2 => by omega⟩
theorem specTerms_loop (xs : List Int) (hw : ∀ j, j < xs.length → -9223372036854775808 ≤ xs.getD j 0 ∧ xs.getD j 0 ≤ 9223372036854775807) (h1 : 1 ≤ xs.length) (hn : xs.length ≤ 4611686018427387904) (d : Nat) : ∀ (i k : Nat), i + d = xs.length → d < k → spec_l04Terms.l0 k xs (xs.length : Int) (i : Int) = some (termsFrom xs i) := by
  induction d with
  | zero =>
    intro i k hd hk
    obtain ⟨k, rfl⟩ : ∃ m, k = m + 1 := ⟨k - 1, by omega⟩
    obtain rfl : i = xs.length := by omega
    simp only [spec_l04Terms.l0]; rw [if_neg (by omega)]
    by_cases e : xs.length = 1
    · rw [if_pos (by omega), termsFrom_one e]
    · rw [if_neg (by omega), wrap64_id (by omega) (by omega), if_pos (by omega), if_pos (by omega), termsFrom_end e, show ((xs.length : Int) - 1) = ((xs.length - 1 : Nat) : Int) by omega, rd_nat]
  | succ d ih =>
    intro i k hd hk
    obtain ⟨k, rfl⟩ : ∃ m, k = m + 1 := ⟨k - 1, by omega⟩
    have hi : i < xs.length := by omega
    obtain ⟨r, hr, h2, h3⟩ := size_small (hw i hi).1 (hw i hi).2
    simp only [spec_l04Terms.l0, rd_nat]; rw [if_pos (by omega), if_pos (by omega), if_pos (by omega), hr]; simp only [Option.bind_some]
    by_cases c1 : r > 1000000000
    · rw [if_pos c1, termsFrom_bad hi (fun z => h2 c1 ⟨z.1, z.2.1⟩)]
    · rw [if_neg c1]
      by_cases c2 : xs.getD i 0 < -1000000000
      · rw [if_pos c2, termsFrom_bad hi (fun z => by omega)]
      · rw [if_neg c2, wrap64_id (by omega) (by omega)]
        have hg := h3 c1 c2
        by_cases c3 : (i : Int) > 0
        · rw [if_pos c3]
          by_cases c4 : xs.getD i 0 < 1
          · rw [if_pos c4, termsFrom_bad hi (fun z => by have := z.2.2 (by omega); omega)]
          · rw [if_neg c4, termsFrom_good hi ⟨hg.1, hg.2, fun _ => by omega⟩]; exact ih (i + 1) k (by omega) (by omega)
        · rw [if_neg c3, termsFrom_good hi ⟨hg.1, hg.2, fun _ => by omega⟩]; exact ih (i + 1) k (by omega) (by omega)
theorem implTerms_loop (xs : List Int) (h1 : 1 ≤ xs.length) (hn : xs.length ≤ 4611686018427387904) (d : Nat) : ∀ (i k : Nat), i + d = xs.length → d < k → impl_ValidTerms.l0 k xs xs (xs.length : Int) (i : Int) = some (termsFrom xs i) := by
  induction d with
  | zero =>
    intro i k hd hk
    obtain ⟨k, rfl⟩ : ∃ m, k = m + 1 := ⟨k - 1, by omega⟩
    obtain rfl : i = xs.length := by omega
    simp only [impl_ValidTerms.l0]; rw [if_neg (by omega)]
    by_cases e : xs.length = 1
    · rw [if_pos (by omega), termsFrom_one e]
    · rw [if_neg (by omega), wrap64_id (by omega) (by omega), if_pos (by omega), if_pos (by omega), termsFrom_end e, show ((xs.length : Int) - 1) = ((xs.length - 1 : Nat) : Int) by omega, rd_nat]
  | succ d ih =>
    intro i k hd hk
    obtain ⟨k, rfl⟩ : ∃ m, k = m + 1 := ⟨k - 1, by omega⟩
    have hi : i < xs.length := by omega
    have hwi : ∃ b, impl_within.f (xs.getD i 0) (-1000000000) 1000000000 = some b ∧ (b = true ↔ (-1000000000 ≤ xs.getD i 0 ∧ xs.getD i 0 ≤ 1000000000)) := by
      unfold impl_within.f
      split
      · exact ⟨_, rfl, by rw [decide_eq_true_iff]; omega⟩
      · exact ⟨_, rfl, fun z => by simp at z, fun z => by omega⟩
    obtain ⟨b, hb, h2⟩ := hwi
    simp only [impl_ValidTerms.l0, rd_nat]; rw [if_pos (by omega), if_pos (by omega), if_pos (by omega), hb]; simp only [Option.bind_some]
    by_cases c1 : b = true
    · have hg := h2.1 c1
      rw [if_pos c1, wrap64_id (by omega) (by omega)]
      by_cases c3 : (i : Int) > 0
      · rw [if_pos c3]
        by_cases c4 : xs.getD i 0 < 1
        · rw [if_pos c4, termsFrom_bad hi (fun z => by have := z.2.2 (by omega); omega)]
        · rw [if_neg c4, termsFrom_good hi ⟨hg.1, hg.2, fun _ => by omega⟩]; exact ih (i + 1) k (by omega) (by omega)
      · rw [if_neg c3, termsFrom_good hi ⟨hg.1, hg.2, fun _ => by omega⟩]; exact ih (i + 1) k (by omega) (by omega)
    · rw [if_neg c1, termsFrom_bad hi (fun z => c1 (h2.2 ⟨z.1, z.2.1⟩))]
/-- Whether terms are valid. -/
noncomputable def termsOk (xs : List Int) : Bool := decide (1 ≤ xs.length ∧ xs.length ≤ 40) && termsFrom xs 0
theorem specTerms_ev (xs : List Int) (hw : ∀ j, j < xs.length → -9223372036854775808 ≤ xs.getD j 0 ∧ xs.getD j 0 ≤ 9223372036854775807) : Ev (fun k => spec_l04Terms.f k xs) (termsOk xs) := by
  refine ⟨xs.length + 3, fun k hk => ?_⟩
  obtain ⟨k, rfl⟩ : ∃ m, k = m + 1 := ⟨k - 1, by omega⟩
  show spec_l04Terms.f (k + 1) xs = _
  unfold spec_l04Terms.f termsOk
  by_cases c : (xs.length : Int) < 1
  · rw [if_pos c]; simp only [spec_l04Terms.j0]; rw [if_pos trivial, decide_eq_false (by omega)]; rfl
  · rw [if_neg c]; simp only [spec_l04Terms.j0]
    by_cases c2 : (xs.length : Int) > 40
    · rw [if_pos (by simpa using c2), decide_eq_false (by omega)]; rfl
    · rw [if_neg (by simpa using c2), decide_eq_true (by omega), Bool.true_and]
      exact specTerms_loop xs hw (by omega) (by omega) xs.length 0 k (by omega) (by omega)
theorem implTerms_ev (xs : List Int) : Ev (fun k => impl_ValidTerms.f k xs) (termsOk xs) := by
  refine ⟨xs.length + 3, fun k hk => ?_⟩
  obtain ⟨k, rfl⟩ : ∃ m, k = m + 1 := ⟨k - 1, by omega⟩
  show impl_ValidTerms.f (k + 1) xs = _
  unfold impl_ValidTerms.f termsOk
  by_cases c : (xs.length : Int) < 1
  · rw [if_pos c]; simp only [impl_ValidTerms.j0]; rw [if_pos trivial, decide_eq_false (by omega)]; rfl
  · rw [if_neg c]; simp only [impl_ValidTerms.j0]
    by_cases c2 : (xs.length : Int) > 40
    · rw [if_pos (by simpa using c2), decide_eq_false (by omega)]; rfl
    · rw [if_neg (by simpa using c2), decide_eq_true (by omega), Bool.true_and]
      exact implTerms_loop xs (by omega) (by omega) xs.length 0 k (by omega) (by omega)
theorem terms_w {l : List Int} (hw : ∀ z ∈ l, -9223372036854775808 ≤ z ∧ z ≤ 9223372036854775807) : ∀ j, j < l.length → -9223372036854775808 ≤ l.getD j 0 ∧ l.getD j 0 ≤ 9223372036854775807 := by
  intro j hj
  rw [List.getD_eq_getElem?_getD, List.getElem?_eq_getElem hj]
  exact hw _ (List.getElem_mem hj)
open Classical in
theorem termsOk_is {xs : List Int} (h : termsOk xs = true) : (1 ≤ xs.length ∧ xs.length ≤ 40) ∧ (∀ j, j < xs.length → -1000000000 ≤ xs.getD j 0 ∧ xs.getD j 0 ≤ 1000000000 ∧ (0 < j → 1 ≤ xs.getD j 0)) ∧ (xs.length = 1 ∨ 2 ≤ xs.getD (xs.length - 1) 0) := by
  unfold termsOk at h
  rw [Bool.and_eq_true, decide_eq_true_iff] at h
  have h2 : TermsFrom xs 0 := by
    have := h.2
    unfold termsFrom at this
    exact of_decide_eq_true this
  exact ⟨h.1, fun j hj => h2.1 j (by omega) hj, h2.2⟩
open Classical in
theorem termsOk_of {xs : List Int} (h1 : 1 ≤ xs.length ∧ xs.length ≤ 40) (h2 : ∀ j, j < xs.length → -1000000000 ≤ xs.getD j 0 ∧ xs.getD j 0 ≤ 1000000000 ∧ (0 < j → 1 ≤ xs.getD j 0)) (h3 : xs.length = 1 ∨ 2 ≤ xs.getD (xs.length - 1) 0) : termsOk xs = true := by
  unfold termsOk
  rw [Bool.and_eq_true, decide_eq_true_iff]
  refine ⟨h1, ?_⟩
  unfold termsFrom
  exact @decide_eq_true _ _ ⟨fun j _ hj => h2 j hj, h3⟩
theorem toInt64S_loop (xs : List Int) (hn : xs.length ≤ 4611686018427387904) (d : Nat) : ∀ (i : Nat) (acc : List Int) (k : Nat), acc.length = xs.length → (∀ j, j < i → acc.getD j 0 = xs.getD j 0) → i + d = xs.length → d < k → laws_toInt64S.l0 k xs acc (i : Int) = some xs := by
  induction d with
  | zero =>
    intro i acc k hl hj hd hk
    obtain ⟨k, rfl⟩ : ∃ m, k = m + 1 := ⟨k - 1, by omega⟩
    simp only [laws_toInt64S.l0]; rw [if_neg (by omega)]
    congr 1
    apply List.ext_getElem hl
    intro j h1 h2
    have := hj j (by omega)
    simpa [List.getD_eq_getElem?_getD, List.getElem?_eq_getElem, h1, h2] using this
  | succ d ih =>
    intro i acc k hl hj hd hk
    obtain ⟨k, rfl⟩ : ∃ m, k = m + 1 := ⟨k - 1, by omega⟩
    simp only [laws_toInt64S.l0]; rw [if_pos (by omega), if_pos (by omega), if_pos (by omega), wrap64_id (by omega) (by omega)]
    refine ih (i + 1) _ k ?_ ?_ (by omega) (by omega)
    · simpa using hl
    · intro j hji
      have hjl : j < acc.length := by omega
      by_cases e : j = i
      · subst e; simp [List.getD_eq_getElem?_getD, rd_nat, hjl]
      · have e' : ¬ i = j := fun h => e h.symm
        have := hj j (by omega)
        simpa [List.getD_eq_getElem?_getD, List.getElem?_set, e'] using this
theorem toInt64S_ev (xs : List Int) (hn : xs.length ≤ 17592186044416) : Ev (fun k => laws_toInt64S.f k xs) xs := by
  refine ⟨xs.length + 1, fun k hk => ?_⟩
  show laws_toInt64S.f k xs = some xs
  unfold laws_toInt64S.f
  rw [if_pos (by omega), if_pos (by simp; omega)]
  exact toInt64S_loop xs (by omega) xs.length 0 _ k (by simp) (fun j h => by omega) (by omega) (by omega)
theorem eqInt64S_loop (xs : List Int) (hn : xs.length ≤ 4611686018427387904) (d : Nat) : ∀ (i : Nat) (k : Nat), i + d = xs.length → d < k → laws_eqInt64S.l0 k xs xs (i : Int) = some true := by
  induction d with
  | zero =>
    intro i k hd hk
    obtain ⟨k, rfl⟩ : ∃ m, k = m + 1 := ⟨k - 1, by omega⟩
    simp only [laws_eqInt64S.l0]; rw [if_neg (by omega)]
  | succ d ih =>
    intro i k hd hk
    obtain ⟨k, rfl⟩ : ∃ m, k = m + 1 := ⟨k - 1, by omega⟩
    simp only [laws_eqInt64S.l0]; rw [if_pos (by omega), if_pos (by omega), if_pos (by omega), if_pos trivial, wrap64_id (by omega) (by omega)]
    exact ih (i + 1) k (by omega) (by omega)
theorem eqInt64S_ev (xs : List Int) (hn : xs.length ≤ 4611686018427387904) : Ev (fun k => laws_eqInt64S.f k xs xs) true := by
  refine ⟨xs.length + 1, fun k hk => ?_⟩
  show laws_eqInt64S.f k xs xs = some true
  unfold laws_eqInt64S.f
  rw [if_pos rfl]
  exact eqInt64S_loop xs hn xs.length 0 k (by omega) (by omega)
/-- A string out of a list of bytes. -/
def mk (L : List UInt8) : ByteArray := ⟨L.toArray⟩
theorem mk_app (A B : List UInt8) : mk A ++ mk B = mk (A ++ B) := by
  apply ByteArray.ext
  simp [mk]
theorem mk_size (A : List UInt8) : (mk A).size = A.length := by simp [mk, ByteArray.size]
theorem decimal_ev (u : Nat) : u < 9223372036854775808 → Ev (fun k => spec_Decimal.f k (u : Int)) (mk (Go.Lib.decDigits u)) := by
  induction u using Nat.strongRecOn with
  | _ u ih =>
  intro hu
  by_cases c : u < 10
  · refine Ev.step (f := fun _ => some (mk (Go.Lib.decDigits u))) (fun k => ?_) ⟨0, fun k _ => rfl⟩
    rw [spec_Decimal.f, if_pos (by omega), Go.Lib.decDigits_one c]
    have e : Int.tmod (u : Int) 10 = (u : Int) := by rw [Int.tmod_eq_emod_of_nonneg (by omega)]; omega
    rw [e, wrap64_id (by omega) (by omega)]
    unfold strOfNums mk
    simp only [List.map_cons, List.map_nil, Option.some.injEq]
    rw [show ((48 + (u : Int)) % 256).toNat = 48 + u from by omega]
  · have e1 : Int.tdiv (u : Int) 10 = ((u / 10 : Nat) : Int) := by rw [Int.tdiv_eq_ediv_of_nonneg (by omega)]; omega
    have e2 : Int.tmod (u : Int) 10 = ((u % 10 : Nat) : Int) := by rw [Int.tmod_eq_emod_of_nonneg (by omega)]; omega
    have h1 := ih (u / 10) (by omega) (by omega)
    have hl : (Go.Lib.decDigits (u / 10)).length ≤ 20 := by rw [Go.Lib.decDigits_length]; exact Go.Lib.nDigits_le20 _ (by omega)
    have e3 : strOfNums ([(wrap64 (48 + (Int.tmod (u : Int) 10))) % 256] : List Int) = mk [UInt8.ofNat (48 + u % 10)] := by
      rw [e2, wrap64_id (by omega) (by omega)]
      unfold strOfNums mk
      simp only [List.map_cons, List.map_nil]
      rw [show ((48 + ((u % 10 : Nat) : Int)) % 256).toNat = 48 + u % 10 from by omega]
    refine Ev.step (f := fun k => (spec_Decimal.f k ((u / 10 : Nat) : Int)).bind fun t109 => (if t109.size + 1 ≤ 9223372036854775807 then (some (t109 ++ mk [UInt8.ofNat (48 + u % 10)])) else (none))) (fun k => ?_) ?_
    · rw [spec_Decimal.f, if_neg (by omega), e1, wrap64_id (n := ((u / 10 : Nat) : Int)) (by omega) (by omega)]
      simp only [Option.bind_some, e3, mk_size, List.length_cons, List.length_nil, Nat.zero_add]
    · refine Ev.bind h1 ⟨0, fun k _ => ?_⟩
      show (if (mk (Go.Lib.decDigits (u / 10))).size + 1 ≤ 9223372036854775807 then _ else none) = _
      rw [if_pos (by rw [mk_size]; omega), mk_app]
      conv => rhs; rw [Go.Lib.decDigits, dif_neg c]
theorem signed_ev (n : Int) (h0 : -1000000000 ≤ n) (h1 : n ≤ 1000000000) : Ev (fun k => spec_Signed.f k n) (mk (Go.Lib.itoa n)) := by
  by_cases c : n < 0
  · obtain ⟨u, rfl⟩ : ∃ u : Nat, n = -(u : Int) := ⟨n.natAbs, by omega⟩
    have hl : (Go.Lib.decDigits u).length ≤ 20 := by rw [Go.Lib.decDigits_length]; exact Go.Lib.nDigits_le20 _ (by omega)
    refine Ev.congr (fun k => by unfold spec_Signed.f; rw [if_pos c, Int.neg_neg, wrap64_id (by omega) (by omega)]) ?_
    refine Ev.bind (decimal_ev u (by omega)) ⟨0, fun k _ => ?_⟩
    show (if 1 + (mk (Go.Lib.decDigits u)).size ≤ 9223372036854775807 then _ else none) = _
    rw [if_pos (by rw [mk_size]; omega), Go.Lib.itoa_neg u (by omega)]
    exact congrArg some (mk_app [45] _)
  · obtain ⟨u, rfl⟩ : ∃ u : Nat, n = (u : Int) := ⟨n.toNat, by omega⟩
    refine Ev.congr (fun k => by unfold spec_Signed.f; rw [if_neg c]) ?_
    refine Ev.bind (decimal_ev u (by omega)) ⟨0, fun k _ => ?_⟩
    rw [Go.Lib.itoa_nonneg]
/-- The text of the first i terms. -/
def txt (xs : List Int) : Nat → List UInt8
  | 0 => []
  | i + 1 => txt xs i ++ (if i = 0 then [] else if i = 1 then [59] else [44]) ++ Go.Lib.itoa (xs.getD i 0)
theorem itoa_len (n : Int) (h0 : -1000000000 ≤ n) (h1 : n ≤ 1000000000) : (Go.Lib.itoa n).length ≤ 21 := Go.Lib.itoa_length_le n (by omega) (by omega)
theorem txt_len (xs : List Int) (hx : ∀ j, j < xs.length → -1000000000 ≤ xs.getD j 0 ∧ xs.getD j 0 ≤ 1000000000) : ∀ i, i ≤ xs.length → (txt xs i).length ≤ 22 * i := by
  intro i
  induction i with
  | zero => intro _; exact Nat.le_refl _
  | succ i ih =>
    intro hi
    have h1 := ih (by omega)
    have h2 := itoa_len (xs.getD i 0) (hx i (by omega)).1 (hx i (by omega)).2
    simp only [txt, List.length_append]
    split
    · simp only [List.length_nil]; omega
    · split <;> (simp only [List.length_cons, List.length_nil]; omega)
theorem specText_loop (xs : List Int) (hn : xs.length ≤ 40) (hx : ∀ j, j < xs.length → -1000000000 ≤ xs.getD j 0 ∧ xs.getD j 0 ≤ 1000000000) (d : Nat) : ∀ i : Nat, i + d = xs.length → Ev (fun k => spec_TermsText.l0 k xs (mk (txt xs i)) (i : Int)) (mk (txt xs xs.length)) := by
  induction d with
  | zero =>
    intro i hi
    obtain rfl : i = xs.length := by omega
    exact Ev.step (f := fun _ => some (mk (txt xs xs.length))) (fun k => by rw [spec_TermsText.l0, if_neg (by omega)]) ⟨0, fun k _ => rfl⟩
  | succ d ih =>
    intro i hi
    have hL := txt_len xs hx i (by omega)
    have hI := itoa_len (xs.getD i 0) (hx i (by omega)).1 (hx i (by omega)).2
    have hS := signed_ev (xs.getD i 0) (hx i (by omega)).1 (hx i (by omega)).2
    have e : wrap64 ((i : Int) + 1) = ((i + 1 : Nat) : Int) := by rw [wrap64_id (by omega) (by omega)]; omega
    have nx := ih (i + 1) (by omega)
    have b59 : (⟨#[59]⟩ : ByteArray) = mk [59] := rfl
    have b44 : (⟨#[44]⟩ : ByteArray) = mk [44] := rfl
    by_cases c1 : i = 1
    · subst c1
      refine Ev.step (f := fun k => (spec_Signed.f k (xs.getD 1 0)).bind fun t => if (mk (txt xs 1 ++ [59])).size + t.size ≤ 9223372036854775807 then spec_TermsText.l0 k xs (mk (txt xs 1 ++ [59]) ++ t) ((1 + 1 : Nat) : Int) else none) (fun k => ?_) ?_
      · rw [spec_TermsText.l0, if_pos (by omega), if_pos (by omega), if_pos (by rw [mk_size]; omega), if_neg (by omega), if_pos (by omega), b59, mk_app, e, rd_nat]
      · refine Ev.bind hS ?_
        refine Ev.congr (fun k => if_pos (by rw [mk_size, mk_size, List.length_append]; simp only [List.length_cons, List.length_nil]; omega)) ?_
        have t1 : mk (txt xs 1 ++ [59]) ++ mk (Go.Lib.itoa (xs.getD 1 0)) = mk (txt xs (1 + 1)) := by rw [mk_app]; rfl
        rw [t1]; exact nx
    · by_cases c2 : 1 < i
      · refine Ev.step (f := fun k => (spec_Signed.f k (xs.getD i 0)).bind fun t => if (mk (txt xs i ++ [44])).size + t.size ≤ 9223372036854775807 then spec_TermsText.l0 k xs (mk (txt xs i ++ [44]) ++ t) ((i + 1 : Nat) : Int) else none) (fun k => ?_) ?_
        · rw [spec_TermsText.l0, if_pos (by omega), if_neg (by omega), if_pos (by omega), if_pos (by rw [mk_size]; omega), if_pos (by omega), b44, mk_app, e, rd_nat]
        · refine Ev.bind hS ?_
          refine Ev.congr (fun k => if_pos (by rw [mk_size, mk_size, List.length_append]; simp only [List.length_cons, List.length_nil]; omega)) ?_
          have t1 : mk (txt xs i ++ [44]) ++ mk (Go.Lib.itoa (xs.getD i 0)) = mk (txt xs (i + 1)) := by rw [mk_app]; simp only [txt]; rw [if_neg (by omega), if_neg c1]
          rw [t1]; exact nx
      · obtain rfl : i = 0 := by omega
        refine Ev.step (f := fun k => (spec_Signed.f k (xs.getD 0 0)).bind fun t => if (mk (txt xs 0)).size + t.size ≤ 9223372036854775807 then spec_TermsText.l0 k xs (mk (txt xs 0) ++ t) ((0 + 1 : Nat) : Int) else none) (fun k => ?_) ?_
        · rw [spec_TermsText.l0, if_pos (by omega), if_neg (by omega), if_neg (by omega), if_pos (by omega), e, rd_nat]
        · refine Ev.bind hS ?_
          refine Ev.congr (fun k => if_pos (by rw [mk_size, mk_size]; omega)) ?_
          have t1 : mk (txt xs 0) ++ mk (Go.Lib.itoa (xs.getD 0 0)) = mk (txt xs (0 + 1)) := by rw [mk_app]; rfl
          rw [t1]; exact nx
theorem fmt_is (n : Int) (h0 : -1000000000 ≤ n) (h1 : n ≤ 1000000000) : strconv_FormatInt_15.f n 10 = some (mk (Go.Lib.itoa n)) := by
  unfold strconv_FormatInt_15.f
  rw [if_pos ⟨rfl, by omega, by omega⟩]; rfl
theorem implText_loop (xs : List Int) (hn : xs.length ≤ 40) (hx : ∀ j, j < xs.length → -1000000000 ≤ xs.getD j 0 ∧ xs.getD j 0 ≤ 1000000000) (d : Nat) : ∀ i : Nat, i + 1 + d = xs.length → Ev (fun k => impl_TermsText.l0 k (mk (txt xs (i + 1))) (mk (if i = 0 then [59] else [44])) (xs.drop 1) ((xs.drop 1).length : Int) (i : Int)) (mk (txt xs xs.length)) := by
  induction d with
  | zero =>
    intro i hi
    refine Ev.step (f := fun _ => some (mk (txt xs xs.length))) (fun k => ?_) ⟨0, fun k _ => rfl⟩
    rw [impl_TermsText.l0, if_neg (by rw [List.length_drop]; omega), show i + 1 = xs.length from by omega]
  | succ d ih =>
    intro i hi
    have hL := txt_len xs hx (i + 1) (by omega)
    have hI := itoa_len (xs.getD (i + 1) 0) (hx (i + 1) (by omega)).1 (hx (i + 1) (by omega)).2
    have e : wrap64 ((i : Int) + 1) = ((i + 1 : Nat) : Int) := by rw [wrap64_id (by omega) (by omega)]; omega
    have er : rd (xs.drop 1) (i : Int) = xs.getD (i + 1) 0 := by
      rw [rd_nat, List.getD_eq_getElem?_getD, List.getElem?_drop, List.getD_eq_getElem?_getD, Nat.add_comm]
    have nx := ih (i + 1) (by omega)
    have t1 : mk (txt xs (i + 1)) ++ (mk (if i = 0 then [59] else [44]) ++ mk (Go.Lib.itoa (xs.getD (i + 1) 0))) = mk (txt xs (i + 1 + 1)) := by
      rw [mk_app, mk_app]
      conv => rhs; rw [txt, if_neg (by omega)]
      rw [List.append_assoc]
      by_cases c : i = 0
      · subst c; rfl
      · rw [if_neg c, if_neg (by omega)]
    have hs : (if i = 0 then [59] else [44] : List UInt8).length = 1 := by split <;> rfl
    refine Ev.step (f := fun k => impl_TermsText.l0 k (mk (txt xs (i + 1 + 1))) (mk (if i + 1 = 0 then [59] else [44])) (xs.drop 1) ((xs.drop 1).length : Int) ((i + 1 : Nat) : Int)) (fun k => ?_) nx
    rw [impl_TermsText.l0, if_pos (by rw [List.length_drop]; omega), if_pos (by omega), if_pos (by rw [List.length_drop]; omega), er, fmt_is _ (hx (i + 1) (by omega)).1 (hx (i + 1) (by omega)).2, Option.bind_some, if_pos (by rw [mk_size, mk_size, hs]; omega), if_pos (by rw [mk_app, mk_size, mk_size, List.length_append, hs]; omega), t1, e, if_neg (show ¬ i + 1 = 0 by omega)]
    rfl
theorem text_ev (xs : List Int) (hw : ∀ j, j < xs.length → -9223372036854775808 ≤ xs.getD j 0 ∧ xs.getD j 0 ≤ 9223372036854775807) : ∃ t : ByteArray, Ev (fun k => spec_TermsText.f k xs) t ∧ Ev (fun k => impl_TermsText.f k xs) t := by
  by_cases c : termsOk xs = true
  · have h := termsOk_is c
    have hx : ∀ j, j < xs.length → -1000000000 ≤ xs.getD j 0 ∧ xs.getD j 0 ≤ 1000000000 := fun j hj => ⟨(h.2.1 j hj).1, (h.2.1 j hj).2.1⟩
    refine ⟨mk (txt xs xs.length), ?_, ?_⟩
    · refine Ev.bind (specTerms_ev xs hw) ?_
      refine Ev.congr (fun k => if_pos c) ?_
      exact specText_loop xs h.1.2 hx xs.length 0 (by omega)
    · refine Ev.bind (implTerms_ev xs) ?_
      refine Ev.congr (fun k => if_pos c) ?_
      refine Ev.congr (fun k => if_pos (by omega)) ?_
      have e0 : rd xs 0 = xs.getD 0 0 := rd_nat xs 0
      refine Ev.congr (fun k => by rw [e0, fmt_is _ (hx 0 (by omega)).1 (hx 0 (by omega)).2, Option.bind_some, if_pos (by omega)]) ?_
      have := implText_loop xs h.1.2 hx (xs.length - 1) 0 (by omega)
      exact this
  · refine ⟨(⟨#[]⟩ : ByteArray), ?_, ?_⟩
    · refine Ev.bind (specTerms_ev xs hw) ?_
      exact ⟨0, fun k _ => if_neg c⟩
    · refine Ev.bind (implTerms_ev xs) ?_
      exact ⟨0, fun k _ => if_neg c⟩
theorem FnExactTermsText : laws_FnExactTermsText.Pure := by
  intro l0 ⟨hl, hw⟩
  apply Ev.rounds (r := true)
  obtain ⟨t, hs, hi⟩ := text_ev l0 (terms_w hw)
  by_cases c : (l0.length : Int) > 1048576
  · exact ⟨0, fun k _ => by show laws_FnExactTermsText.f k l0 = _; unfold laws_FnExactTermsText.f; rw [if_pos c]⟩
  · refine Ev.congr (fun k => by unfold laws_FnExactTermsText.f; rw [if_neg c]) ?_
    repeat' (first
      | (refine Ev.bind (toInt64S_ev l0 (by omega)) ?_; try dsimp only)
      | (refine Ev.bind (hs) ?_; try dsimp only)
      | (refine Ev.bind (hi) ?_; try dsimp only)
      | (refine Ev.bind (eqInt64S_ev _ (by omega)) ?_; try dsimp only)
      | exact ⟨0, fun k _ => rfl⟩
      | (refine Ev.congr (fun k => if_pos rfl) ?_; try dsimp only)
      )
end Go.Proofs.YtaamlhmabgiehaaDoor.Pure
