/- The program's PolyText returns what the reference's returns, for every list of int64. -/
import Derived.Test.YtfenifdigjcmiaaDoorMFnExactPolyTextx3
import Derived.Test.YtfenifdigjcmiaaDoorMOpen
namespace Go.Proofs.YtfenifdigjcmiaaDoor.Pure
open Go.RowKit Go.Proofs.YtfenifdigjcmiaaDoor.MFnExactPolyText Go.Proofs.YtfenifdigjcmiaaDoor.MOpen Go.Proofs.YtfenifdigjcmiaaDoorW.PrintWords Go.Proofs.YtfenifdigjcmiaaDoorW.PrintLast Go.Proofs.YtfenifdigjcmiaaDoorW.PrintMore
set_option linter.unusedVariables false
set_option linter.unusedSimpArgs false
theorem wrap64_id {n : Int} (h0 : -9223372036854775808 ≤ n) (h1 : n ≤ 9223372036854775807) : wrap64 n = n := by
  unfold wrap64; omega
theorem rd_nat (xs : List Int) (i : Nat) : rd xs (i : Int) = xs.getD i 0 := by simp [rd]
theorem rd_get (xs : List Int) (i : Nat) (h : i < xs.length) : rd xs (i : Int) = xs[i] := by simp [rd, h]
theorem ev_k {α : Type} {f : Nat → Option α} {r : α} (n : Nat) (h : ∀ k, n ≤ k → f k = some r) : Ev f r := ⟨n, h⟩
def inCoef (x : Int) : Bool := decide (-1000000 ≤ x ∧ x ≤ 1000000)
/-- What both sides say of a polynomial. -/
def polyOk (xs : List Int) : Bool := decide (2 ≤ xs.length ∧ xs.length ≤ 9) && (!(rd xs ((xs.length : Int) - 1) == 0) && xs.all inCoef)
theorem l00In_some (a b c : Int) : spec_l00In.f a b c = some (decide (b ≤ a ∧ a ≤ c)) := by
  unfold spec_l00In.f
  split <;> simp <;> omega
theorem within_some (a b c : Int) : impl_within.f a b c = some (decide (b ≤ a ∧ a ≤ c)) := l00In_some a b c
theorem specPoly_loop (xs : List Int) (hn : xs.length ≤ 9) (d : Nat) : ∀ (i k : Nat), i + d = xs.length → d < k → spec_l05Ok.l0 k xs (i : Int) = some ((xs.drop i).all inCoef) := by
  induction d with
  | zero =>
    intro i k hd hk
    obtain ⟨k, rfl⟩ : ∃ m, k = m + 1 := ⟨k - 1, by omega⟩
    simp only [spec_l05Ok.l0]; rw [if_neg (by omega), List.drop_eq_nil_of_le (by omega)]; rfl
  | succ d ih =>
    intro i k hd hk
    obtain ⟨k, rfl⟩ : ∃ m, k = m + 1 := ⟨k - 1, by omega⟩
    have hi : i < xs.length := by omega
    simp only [spec_l05Ok.l0]; rw [if_pos (by omega), if_pos (by omega), rd_get xs i hi, l00In_some, wrap64_id (by omega) (by omega), List.drop_eq_getElem_cons hi, List.all_cons]
    have := ih (i + 1) k (by omega) (by omega)
    simp only [Option.bind_some]
    show (if inCoef xs[i] = true then _ else _) = _
    cases inCoef xs[i]
    · simp
    · simpa using this
theorem implPoly_loop (xs : List Int) (hn : xs.length ≤ 9) (d : Nat) : ∀ (i k : Nat), i + d = xs.length → d < k → ∃ r : Int, slices_IndexFunc_int64_int64_f38.l0 k xs (xs.length : Int) (i : Int) = some r ∧ decide (r ≥ 0) = !((xs.drop i).all inCoef) := by
  induction d with
  | zero =>
    intro i k hd hk
    obtain ⟨k, rfl⟩ : ∃ m, k = m + 1 := ⟨k - 1, by omega⟩
    simp only [slices_IndexFunc_int64_int64_f38.l0]; rw [if_neg (by omega), List.drop_eq_nil_of_le (by omega)]
    exact ⟨_, rfl, by simp⟩
  | succ d ih =>
    intro i k hd hk
    obtain ⟨k, rfl⟩ : ∃ m, k = m + 1 := ⟨k - 1, by omega⟩
    have hi : i < xs.length := by omega
    obtain ⟨r, h1, h2⟩ := ih (i + 1) k (by omega) (by omega)
    simp only [slices_IndexFunc_int64_int64_f38.l0, impl_ValidPoly_1.f]; rw [if_pos (by omega), if_pos (by omega), if_pos (by omega), rd_get xs i hi, within_some, wrap64_id (by omega) (by omega), List.drop_eq_getElem_cons hi, List.all_cons]
    simp only [Option.bind_some]
    show ∃ r, (if (!inCoef xs[i]) = true then _ else _) = some r ∧ _
    cases inCoef xs[i]
    · exact ⟨_, rfl, by simp⟩
    · exact ⟨r, by simpa using h1, by simpa using h2⟩
theorem specPoly_ev (xs : List Int) : Ev (fun k => spec_l05Ok.f k xs) (polyOk xs) := by
  refine ev_k (xs.length + 3) (fun k hk => ?_)
  obtain ⟨k, rfl⟩ : ∃ m, k = m + 1 := ⟨k - 1, by omega⟩
  show spec_l05Ok.f (k + 1) xs = _
  unfold spec_l05Ok.f polyOk
  rw [l00In_some]; simp only [Option.bind_some]
  by_cases c : 2 ≤ xs.length ∧ xs.length ≤ 9
  · have hl := specPoly_loop xs c.2 xs.length 0 k (by omega) (by omega)
    rw [if_pos (by simp; omega), wrap64_id (by omega) (by omega), if_pos (by omega), if_pos (by omega)]
    simp only [spec_l05Ok.j0]
    simp only [c, and_self, decide_true, Bool.true_and]
    cases (rd xs ((xs.length : Int) - 1) == 0)
    · simpa using hl
    · simp
  · rw [if_neg (by simp; omega)]
    simp only [spec_l05Ok.j0]
    simp [c]
theorem implPoly_ev (xs : List Int) : Ev (fun k => impl_ValidPoly.f k xs) (polyOk xs) := by
  refine ev_k (xs.length + 3) (fun k hk => ?_)
  show impl_ValidPoly.f k xs = _
  unfold impl_ValidPoly.f polyOk
  by_cases c : 2 ≤ xs.length ∧ xs.length ≤ 9
  · obtain ⟨r, h1, h2⟩ := implPoly_loop xs c.2 xs.length 0 k (by omega) (by omega)
    rw [if_neg (by omega), if_neg (by omega), wrap64_id (by omega) (by omega), if_pos (by omega), if_pos (by omega)]
    simp only [c, and_self, decide_true, Bool.true_and]
    unfold slices_ContainsFunc_int64_int64_f38.f slices_IndexFunc_int64_int64_f38.f
    have h1' : slices_IndexFunc_int64_int64_f38.l0 k xs (xs.length : Int) 0 = some r := h1
    rw [h1']; simp only [Option.bind_some, h2, List.drop_zero, Bool.not_not]
    by_cases e : rd xs ((xs.length : Int) - 1) = 0
    · rw [if_pos e, e]; simp
    · rw [if_neg e]; simp [e]
  · simp only [c, decide_false, Bool.false_and]
    by_cases c2 : (xs.length : Int) < 2
    · rw [if_pos c2]
    · rw [if_neg c2, if_pos (by omega)]
theorem toInt64S_loop (xs : List Int) (hn : xs.length ≤ 4611686018427387904) (d : Nat) : ∀ (i : Nat) (acc : List Int) (k : Nat), acc.length = xs.length → (∀ j, j < i → acc.getD j 0 = xs.getD j 0) → i + d = xs.length → d < k → laws_toInt64S.l0 k xs acc (i : Int) = some xs := by
  induction d with
  | zero =>
    intro i acc k hl hj hd hk
    obtain ⟨k, rfl⟩ : ∃ m, k = m + 1 := ⟨k - 1, by omega⟩
    simp only [laws_toInt64S.l0]; rw [if_neg (by omega)]
    congr 1
    apply List.ext_getElem hl
    intro j h1 h2
    have := hj j (by omega)
    simpa [List.getD_eq_getElem?_getD, List.getElem?_eq_getElem, h1, h2] using this
  | succ d ih =>
    intro i acc k hl hj hd hk
    obtain ⟨k, rfl⟩ : ∃ m, k = m + 1 := ⟨k - 1, by omega⟩
    simp only [laws_toInt64S.l0]; rw [if_pos (by omega), if_pos (by omega), if_pos (by omega), wrap64_id (by omega) (by omega)]
    refine ih (i + 1) _ k ?_ ?_ (by omega) (by omega)
    · simpa using hl
    · intro j hji
      have hjl : j < acc.length := by omega
      by_cases e : j = i
      · subst e; simp [List.getD_eq_getElem?_getD, rd_nat, hjl]
      · have e' : ¬ i = j := fun h => e h.symm
        have := hj j (by omega)
        simpa [List.getD_eq_getElem?_getD, List.getElem?_set, e'] using this
theorem toInt64S_ev (xs : List Int) (hn : xs.length ≤ 17592186044416) : Ev (fun k => laws_toInt64S.f k xs) xs := by
  refine ⟨xs.length + 1, fun k hk => ?_⟩
  show laws_toInt64S.f k xs = some xs
  unfold laws_toInt64S.f
  rw [if_pos (by omega), if_pos (by simp; omega)]
  exact toInt64S_loop xs (by omega) xs.length 0 _ k (by simp) (fun j h => by omega) (by omega) (by omega)
theorem eqInt64S_loop (xs : List Int) (hn : xs.length ≤ 4611686018427387904) (d : Nat) : ∀ (i : Nat) (k : Nat), i + d = xs.length → d < k → laws_eqInt64S.l0 k xs xs (i : Int) = some true := by
  induction d with
  | zero =>
    intro i k hd hk
    obtain ⟨k, rfl⟩ : ∃ m, k = m + 1 := ⟨k - 1, by omega⟩
    simp only [laws_eqInt64S.l0]; rw [if_neg (by omega)]
  | succ d ih =>
    intro i k hd hk
    obtain ⟨k, rfl⟩ : ∃ m, k = m + 1 := ⟨k - 1, by omega⟩
    simp only [laws_eqInt64S.l0]; rw [if_pos (by omega), if_pos (by omega), if_pos (by omega), if_pos trivial, wrap64_id (by omega) (by omega)]
    exact ih (i + 1) k (by omega) (by omega)
theorem eqInt64S_ev (xs : List Int) (hn : xs.length ≤ 4611686018427387904) : Ev (fun k => laws_eqInt64S.f k xs xs) true := by
  refine ⟨xs.length + 1, fun k hk => ?_⟩
  show laws_eqInt64S.f k xs xs = some true
  unfold laws_eqInt64S.f
  rw [if_pos rfl]
  exact eqInt64S_loop xs hn xs.length 0 k (by omega) (by omega)
/-- A string out of a list of bytes. -/
def mk (L : List UInt8) : ByteArray := ⟨L.toArray⟩
theorem mk_app (A B : List UInt8) : mk A ++ mk B = mk (A ++ B) := by
  apply ByteArray.ext
  simp [mk]
theorem mk_size (A : List UInt8) : (mk A).size = A.length := by simp [mk, ByteArray.size]
theorem decimal_ev (u : Nat) : u < 9223372036854775808 → Ev (fun k => spec_Decimal.f k (u : Int)) (mk (Go.Lib.decDigits u)) := by
  induction u using Nat.strongRecOn with
  | _ u ih =>
  intro hu
  by_cases c : u < 10
  · refine Ev.step (f := fun _ => some (mk (Go.Lib.decDigits u))) (fun k => ?_) ⟨0, fun k _ => rfl⟩
    rw [spec_Decimal.f, if_pos (by omega), Go.Lib.decDigits_one c]
    have e : Int.tmod (u : Int) 10 = (u : Int) := by rw [Int.tmod_eq_emod_of_nonneg (by omega)]; omega
    rw [e, wrap64_id (by omega) (by omega)]
    unfold strOfNums mk
    simp only [List.map_cons, List.map_nil, Option.some.injEq]
    rw [show ((48 + (u : Int)) % 256).toNat = 48 + u from by omega]
  · have e1 : Int.tdiv (u : Int) 10 = ((u / 10 : Nat) : Int) := by rw [Int.tdiv_eq_ediv_of_nonneg (by omega)]; omega
    have e2 : Int.tmod (u : Int) 10 = ((u % 10 : Nat) : Int) := by rw [Int.tmod_eq_emod_of_nonneg (by omega)]; omega
    have h1 := ih (u / 10) (by omega) (by omega)
    have hl : (Go.Lib.decDigits (u / 10)).length ≤ 20 := by rw [Go.Lib.decDigits_length]; exact Go.Lib.nDigits_le20 _ (by omega)
    have e3 : strOfNums ([(wrap64 (48 + (Int.tmod (u : Int) 10))) % 256] : List Int) = mk [UInt8.ofNat (48 + u % 10)] := by
      rw [e2, wrap64_id (by omega) (by omega)]
      unfold strOfNums mk
      simp only [List.map_cons, List.map_nil]
      rw [show ((48 + ((u % 10 : Nat) : Int)) % 256).toNat = 48 + u % 10 from by omega]
    refine Ev.step (f := fun k => (spec_Decimal.f k ((u / 10 : Nat) : Int)).bind fun t109 => (if t109.size + 1 ≤ 9223372036854775807 then (some (t109 ++ mk [UInt8.ofNat (48 + u % 10)])) else (none))) (fun k => ?_) ?_
    · rw [spec_Decimal.f, if_neg (by omega), e1, wrap64_id (n := ((u / 10 : Nat) : Int)) (by omega) (by omega)]
      simp only [Option.bind_some, e3, mk_size, List.length_cons, List.length_nil, Nat.zero_add]
    · refine Ev.bind h1 ⟨0, fun k _ => ?_⟩
      show (if (mk (Go.Lib.decDigits (u / 10))).size + 1 ≤ 9223372036854775807 then _ else none) = _
      rw [if_pos (by rw [mk_size]; omega), mk_app]
      conv => rhs; rw [Go.Lib.decDigits, dif_neg c]
theorem signed_ev (n : Int) (h0 : -1000000000 ≤ n) (h1 : n ≤ 1000000000) : Ev (fun k => spec_Signed.f k n) (mk (Go.Lib.itoa n)) := by
  by_cases c : n < 0
  · obtain ⟨u, rfl⟩ : ∃ u : Nat, n = -(u : Int) := ⟨n.natAbs, by omega⟩
    have hl : (Go.Lib.decDigits u).length ≤ 20 := by rw [Go.Lib.decDigits_length]; exact Go.Lib.nDigits_le20 _ (by omega)
    refine Ev.congr (fun k => by unfold spec_Signed.f; rw [if_pos c, Int.neg_neg, wrap64_id (by omega) (by omega)]) ?_
    refine Ev.bind (decimal_ev u (by omega)) ⟨0, fun k _ => ?_⟩
    show (if 1 + (mk (Go.Lib.decDigits u)).size ≤ 9223372036854775807 then _ else none) = _
    rw [if_pos (by rw [mk_size]; omega), Go.Lib.itoa_neg u (by omega)]
    exact congrArg some (mk_app [45] _)
  · obtain ⟨u, rfl⟩ : ∃ u : Nat, n = (u : Int) := ⟨n.toNat, by omega⟩
    refine Ev.congr (fun k => by unfold spec_Signed.f; rw [if_neg c]) ?_
    refine Ev.bind (decimal_ev u (by omega)) ⟨0, fun k _ => ?_⟩
    rw [Go.Lib.itoa_nonneg]
theorem polyOk_is {xs : List Int} (h : polyOk xs = true) : (2 ≤ xs.length ∧ xs.length ≤ 9) ∧ ∀ j, j < xs.length → -1000000 ≤ xs.getD j 0 ∧ xs.getD j 0 ≤ 1000000 := by
  unfold polyOk at h
  rw [Bool.and_eq_true, decide_eq_true_iff, Bool.and_eq_true] at h
  refine ⟨h.1, fun j hj => ?_⟩
  have := List.all_eq_true.1 h.2.2 xs[j] (List.getElem_mem hj)
  unfold inCoef at this
  rw [decide_eq_true_iff] at this
  rw [List.getD_eq_getElem?_getD, List.getElem?_eq_getElem hj]
  exact this
theorem itoa_len (n : Int) (h0 : -1000000 ≤ n) (h1 : n ≤ 1000000) : (Go.Lib.itoa n).length ≤ 21 := Go.Lib.itoa_length_le n (by omega) (by omega)
/-- The words of a polynomial, with a blank ahead of each but the first. -/
def ptxt (x : Int) (r : List Int) (i : Nat) : List UInt8 := Go.Lib.itoa x ++ Go.Lib.joinTail [32] ((r.take i).map Go.Lib.itoa)
theorem ptxt_succ (x : Int) (r : List Int) (i : Nat) (hi : i < r.length) : ptxt x r (i + 1) = ptxt x r i ++ ([32] ++ Go.Lib.itoa (r.getD i 0)) := by
  unfold ptxt Go.Lib.joinTail
  rw [List.take_succ_eq_append_getElem hi, List.map_append, List.map_append, List.flatten_append, ← List.append_assoc]
  congr 1
  simp only [List.map_cons, List.map_nil, List.flatten_cons, List.flatten_nil, List.append_nil]
  rw [List.getD_eq_getElem?_getD, List.getElem?_eq_getElem hi]
  rfl
theorem ptxt_len (x : Int) (r : List Int) (hx : -1000000 ≤ x ∧ x ≤ 1000000) (hr : ∀ j, j < r.length → -1000000 ≤ r.getD j 0 ∧ r.getD j 0 ≤ 1000000) : ∀ i, i ≤ r.length → (ptxt x r i).length ≤ 22 * (i + 1) := by
  intro i
  induction i with
  | zero => intro _; have := itoa_len x hx.1 hx.2; simp [ptxt, Go.Lib.joinTail]; omega
  | succ i ih =>
    intro hi
    rw [ptxt_succ x r i (by omega)]
    have h1 := ih (by omega)
    have h2 := itoa_len (r.getD i 0) (hr i (by omega)).1 (hr i (by omega)).2
    simp only [List.length_append, List.length_cons, List.length_nil]
    omega
theorem polySpec_loop (x : Int) (r : List Int) (hn : r.length ≤ 8) (hx : -1000000 ≤ x ∧ x ≤ 1000000) (hr : ∀ j, j < r.length → -1000000 ≤ r.getD j 0 ∧ r.getD j 0 ≤ 1000000) (d : Nat) : ∀ i : Nat, i + d = r.length → Ev (fun k => spec_l05Text.l0 k (x :: r) (mk (ptxt x r i)) ((i + 1 : Nat) : Int)) (mk (ptxt x r r.length)) := by
  induction d with
  | zero =>
    intro i hi
    obtain rfl : i = r.length := by omega
    exact Ev.step (f := fun _ => some (mk (ptxt x r r.length))) (fun k => by rw [spec_l05Text.l0, if_neg (by rw [List.length_cons]; omega)]) ⟨0, fun k _ => rfl⟩
  | succ d ih =>
    intro i hi
    have hL := ptxt_len x r hx hr i (by omega)
    have hI := itoa_len (r.getD i 0) (hr i (by omega)).1 (hr i (by omega)).2
    have hS := signed_ev (r.getD i 0) (by have := (hr i (by omega)).1; omega) (by have := (hr i (by omega)).2; omega)
    have e : wrap64 (((i + 1 : Nat) : Int) + 1) = ((i + 1 + 1 : Nat) : Int) := by rw [wrap64_id (by omega) (by omega)]; omega
    have er : rd (x :: r) ((i + 1 : Nat) : Int) = r.getD i 0 := by rw [rd_nat]; simp [List.getD_eq_getElem?_getD]
    have b32 : (⟨#[32]⟩ : ByteArray) = mk [32] := rfl
    refine Ev.step (f := fun k => (spec_Signed.f k (r.getD i 0)).bind fun t => if 1 + t.size ≤ 9223372036854775807 then (if (mk (ptxt x r i)).size + (mk [32] ++ t).size ≤ 9223372036854775807 then spec_l05Text.l0 k (x :: r) (mk (ptxt x r i) ++ (mk [32] ++ t)) ((i + 1 + 1 : Nat) : Int) else none) else none) (fun k => ?_) ?_
    · rw [spec_l05Text.l0, if_pos (by rw [List.length_cons]; omega), if_pos (by omega), er, e, b32]
    · refine Ev.bind hS ?_
      refine Ev.congr (fun k => if_pos (by rw [mk_size]; omega)) ?_
      refine Ev.congr (fun k => if_pos (by rw [mk_app, mk_size, mk_size, List.length_append]; simp only [List.length_cons, List.length_nil]; omega)) ?_
      have t1 : mk (ptxt x r i) ++ (mk [32] ++ mk (Go.Lib.itoa (r.getD i 0))) = mk (ptxt x r (i + 1)) := by rw [mk_app, mk_app, ptxt_succ x r i (by omega)]
      rw [t1]; exact ih (i + 1) (by omega)
theorem fmt_is (n : Int) (h0 : -1000000 ≤ n) (h1 : n ≤ 1000000) : strconv_FormatInt_27.f n 10 = some (mk (Go.Lib.itoa n)) := by
  unfold strconv_FormatInt_27.f
  rw [if_pos ⟨rfl, by omega, by omega⟩]; rfl
theorem polyImpl_loop (xs : List Int) (hn : xs.length ≤ 9) (hx : ∀ j, j < xs.length → -1000000 ≤ xs.getD j 0 ∧ xs.getD j 0 ≤ 1000000) (t : ByteArray) (ht : strings_Join.f (xs.map fun n => mk (Go.Lib.itoa n)) (⟨#[32]⟩ : ByteArray) = some t) (d : Nat) : ∀ (i : Nat) (acc : List ByteArray), acc.length = xs.length → (∀ j, j < i → acc.getD j (⟨#[]⟩ : ByteArray) = mk (Go.Lib.itoa (xs.getD j 0))) → i + d = xs.length → Ev (fun k => impl_PolyText.l0 k acc xs (xs.length : Int) (i : Int)) t := by
  induction d with
  | zero =>
    intro i acc hl hj hi
    have ea : acc = xs.map fun n => mk (Go.Lib.itoa n) := by
      apply List.ext_getElem (by simpa using hl)
      intro j h1 h2
      have h3 : j < xs.length := by omega
      have := hj j (by omega)
      simpa [List.getD_eq_getElem?_getD, List.getElem?_eq_getElem, h1, h3] using this
    refine Ev.step (f := fun _ => some t) (fun k => ?_) ⟨0, fun k _ => rfl⟩
    rw [impl_PolyText.l0, if_neg (by omega), ea, ht]
    rfl
  | succ d ih =>
    intro i acc hl hj hi
    have e : wrap64 ((i : Int) + 1) = ((i + 1 : Nat) : Int) := by rw [wrap64_id (by omega) (by omega)]; omega
    have nx := ih (i + 1) (acc.set i (mk (Go.Lib.itoa (xs.getD i 0)))) (by simpa using hl) (by
      intro j hji
      have hjl : j < acc.length := by omega
      by_cases c : j = i
      · subst c; simp [List.getD_eq_getElem?_getD, hjl]
      · have c2 : ¬ i = j := fun h => c h.symm
        have := hj j (by omega)
        simpa [List.getD_eq_getElem?_getD, List.getElem?_set, c2] using this) (by omega)
    refine Ev.step (f := fun k => impl_PolyText.l0 k (acc.set i (mk (Go.Lib.itoa (xs.getD i 0)))) xs (xs.length : Int) ((i + 1 : Nat) : Int)) (fun k => ?_) nx
    rw [impl_PolyText.l0, if_pos (by omega), if_pos (by omega), if_pos (by omega), rd_nat, fmt_is _ (hx i (by omega)).1 (hx i (by omega)).2, Option.bind_some, if_pos (by omega), e]
    rfl
theorem polyText_ev (xs : List Int) : ∃ t : ByteArray, Ev (fun k => spec_PolyText.f k xs) t ∧ Ev (fun k => impl_PolyText.f k xs) t := by
  by_cases c : polyOk xs = true
  · obtain ⟨⟨h2, h9⟩, hx⟩ := polyOk_is c
    obtain ⟨x, r, rfl⟩ : ∃ x r, xs = x :: r := by
      cases xs with
      | nil => simp at h2
      | cons x r => exact ⟨x, r, rfl⟩
    have hx0 : -1000000 ≤ x ∧ x ≤ 1000000 := by simpa using hx 0 (by omega)
    have hr : ∀ j, j < r.length → -1000000 ≤ r.getD j 0 ∧ r.getD j 0 ≤ 1000000 := fun j hj => by
      have := hx (j + 1) (by rw [List.length_cons]; omega)
      simpa [List.getD_eq_getElem?_getD] using this
    have h8 : r.length ≤ 8 := by rw [List.length_cons] at h9; omega
    have hL := ptxt_len x r hx0 hr r.length (Nat.le_refl _)
    have ej : Go.Lib.join (((x :: r).map fun n => mk (Go.Lib.itoa n)).map (·.data.toList)) [32] = ptxt x r r.length := by
      rw [List.map_map, List.map_cons, Go.Lib.join_cons]
      unfold ptxt
      rw [List.take_length]
      rfl
    refine ⟨mk (ptxt x r r.length), ?_, ?_⟩
    · refine Ev.bind (specPoly_ev _) ?_
      refine Ev.congr (fun k => if_pos c) ?_
      have h1 : Ev (fun k => spec_l05Text.f k (x :: r)) (mk (ptxt x r r.length)) := by
        refine Ev.congr (fun k => by unfold spec_l05Text.f; rw [if_pos (by rw [List.length_cons]; omega)]) ?_
        have e0 : rd (x :: r) 0 = x := rfl
        rw [e0]
        refine Ev.bind (signed_ev x (by omega) (by omega)) ?_
        have := polySpec_loop x r h8 hx0 hr r.length 0 (by omega)
        have e1 : ptxt x r 0 = Go.Lib.itoa x := by simp [ptxt, Go.Lib.joinTail]
        rw [e1] at this
        exact this
      exact Ev.bind h1 ⟨0, fun k _ => rfl⟩
    · refine Ev.bind (implPoly_ev _) ?_
      refine Ev.congr (fun k => if_pos c) ?_
      refine Ev.congr (fun k => if_pos (by omega)) ?_
      refine Ev.congr (fun k => if_pos (by omega)) ?_
      refine polyImpl_loop (x :: r) h9 hx _ ?_ (x :: r).length 0 _ (by simp) (fun j h => by omega) (by omega)
      unfold strings_Join.f
      have ed : (⟨#[32]⟩ : ByteArray).data.toList = [32] := rfl
      rw [ed, ej, if_pos ⟨by rw [List.length_map]; omega, by omega⟩]
      rfl
  · refine ⟨(⟨#[]⟩ : ByteArray), ?_, ?_⟩
    · refine Ev.bind (specPoly_ev xs) ?_
      exact ⟨0, fun k _ => if_neg c⟩
    · refine Ev.bind (implPoly_ev xs) ?_
      exact ⟨0, fun k _ => if_neg c⟩
theorem FnExactPolyText : laws_FnExactPolyText.Pure := by
  intro l0 ⟨hl, hw⟩
  apply Ev.rounds (r := true)
  obtain ⟨t, hs, hi⟩ := polyText_ev l0
  by_cases c : (l0.length : Int) > 1048576
  · exact ⟨0, fun k _ => by show laws_FnExactPolyText.f k l0 = _; unfold laws_FnExactPolyText.f; rw [if_pos c]⟩
  · refine Ev.congr (fun k => by unfold laws_FnExactPolyText.f; rw [if_neg c]) ?_
    repeat' (first
      | (refine Ev.bind (toInt64S_ev l0 (by omega)) ?_; try dsimp only)
      | (refine Ev.bind (hs) ?_; try dsimp only)
      | (refine Ev.bind (hi) ?_; try dsimp only)
      | (refine Ev.bind (eqInt64S_ev _ (by omega)) ?_; try dsimp only)
      | exact ⟨0, fun k _ => rfl⟩
      | (refine Ev.congr (fun k => if_pos rfl) ?_; try dsimp only)
      )
end Go.Proofs.YtfenifdigjcmiaaDoor.Pure
