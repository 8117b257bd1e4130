/- The program's RatioOfPath returns what the reference's returns, for every path. -/
import Derived.Test.YtaamlhmabgiehaaDoorMFnExactRatioOfPathx2
import Derived.Test.YtaamlhmabgiehaaDoorMOpen
namespace Go.Proofs.YtaamlhmabgiehaaDoor.Pure
open Go.RowKit Go.Proofs.YtaamlhmabgiehaaDoor.MFnExactRatioOfPath Go.Proofs.YtaamlhmabgiehaaDoor.MOpen Go.Proofs.YtaamlhmabgiehaaDoorW.PrintWords Go.Proofs.YtaamlhmabgiehaaDoorW.PrintLast Go.Proofs.YtaamlhmabgiehaaDoorW.PrintMore
set_option linter.unusedVariables false
set_option linter.unusedSimpArgs false
theorem wrap64_id {n : Int} (h0 : -9223372036854775808 ≤ n) (h1 : n ≤ 9223372036854775807) : wrap64 n = n := by
  unfold wrap64; omega
theorem rd_nat (xs : List Int) (i : Nat) : rd xs (i : Int) = xs.getD i 0 := by simp [rd]
theorem rd_get (xs : List Int) (i : Nat) (h : i < xs.length) : rd xs (i : Int) = xs[i] := by simp [rd, h]
theorem ev_k {α : Type} {f : Nat → Option α} {r : α} (n : Nat) (h : ∀ k, n ≤ k → f k = some r) : Ev f r := ⟨n, h⟩
theorem bt_data (s : ByteArray) (i : Nat) (h : i < s.data.toList.length) : bt s (i : Int) = ((s.data.toList[i]).toNat : Int) := by
  have h2 : i < s.size := by simpa using h
  unfold bt
  rw [dif_pos (show ((i : Int)).toNat < s.size from h2)]
  rfl
theorem bt_lr (s : ByteArray) (i : Nat) (h : i < s.data.toList.length) : (([76, 82] : List UInt8).contains (s.data.toList[i]) = true) ↔ (bt s (i : Int) = 76 ∨ bt s (i : Int) = 82) := by
  rw [bt_data s i h]
  generalize s.data.toList[i] = c
  have e : ([76, 82] : List UInt8).contains c = true ↔ (c = 76 ∨ c = 82) := by
    simp
  rw [e]
  constructor
  · rintro (rfl | rfl)
    · exact Or.inl rfl
    · exact Or.inr rfl
  · rintro (h1 | h1)
    · exact Or.inl (UInt8.toNat_inj.1 (by have : c.toNat = 76 := by exact_mod_cast h1
                                          exact this))
    · exact Or.inr (UInt8.toNat_inj.1 (by have : c.toNat = 82 := by exact_mod_cast h1
                                          exact this))
theorem drop_nil (p : UInt8 → Bool) : ∀ l : List UInt8, l.dropWhile p = [] ↔ ∀ x ∈ l, p x = true
  | [] => by simp
  | a :: l => by
    by_cases c : p a = true
    · rw [List.dropWhile_cons, if_pos c, drop_nil p l]
      constructor
      · intro h x hx
        rcases List.mem_cons.1 hx with rfl | hx
        · exact c
        · exact h x hx
      · intro h x hx
        exact h x (List.mem_cons_of_mem _ hx)
    · rw [List.dropWhile_cons, if_neg c]
      constructor
      · intro h; cases h
      · intro h; exact absurd (h a (List.mem_cons_self ..)) c
theorem drop_drop_nil (p : UInt8 → Bool) : ∀ l : List UInt8, (∀ x ∈ l.dropWhile p, p x = true) → l.dropWhile p = []
  | [], _ => rfl
  | a :: l, h => by
    by_cases c : p a = true
    · rw [List.dropWhile_cons, if_pos c] at h ⊢
      exact drop_drop_nil p l h
    · rw [List.dropWhile_cons, if_neg c] at h
      exact absurd (h a (List.mem_cons_self ..)) c
theorem trim_nil (l cs : List UInt8) : Go.Lib.trimS l cs = [] ↔ ∀ x ∈ l, cs.contains x = true := by
  unfold Go.Lib.trimS Go.Lib.trimLeftS Go.Lib.trimRightS
  rw [drop_nil]
  constructor
  · intro h
    have h4 : l.reverse.dropWhile (cs.contains ·) = [] := drop_drop_nil _ _ (fun x hx => h x (List.mem_reverse.2 hx))
    intro x hx
    exact (drop_nil _ _).1 h4 x (List.mem_reverse.2 hx)
  · intro h x hx
    have : l.reverse.dropWhile (cs.contains ·) = [] := (drop_nil _ _).2 (fun y hy => h y (List.mem_reverse.1 hy))
    rw [this] at hx
    simp at hx
theorem trim_iff (s : ByteArray) : ((⟨(Go.Lib.trimS s.data.toList [76, 82]).toArray⟩ : ByteArray).toList = ([] : List UInt8)) ↔ ∀ i : Nat, i < s.size → (bt s (i : Int) = 76 ∨ bt s (i : Int) = 82) := by
  rw [Go.Lib.toList_data]
  show Go.Lib.trimS s.data.toList [76, 82] = [] ↔ _
  rw [trim_nil]
  have hl : s.data.toList.length = s.size := by simp
  constructor
  · intro h i hi
    exact (bt_lr s i (by omega)).1 (h _ (List.getElem_mem _))
  · intro h x hx
    obtain ⟨i, hi, rfl⟩ := List.getElem_of_mem hx
    exact (bt_lr s i hi).2 (h i (by omega))
theorem spec_lr (s : ByteArray) (hs : s.size ≤ 200) : ∀ m i : Nat, i + m = s.size → (∀ j : Nat, i ≤ j → j < s.size → (bt s (j : Int) = 76 ∨ bt s (j : Int) = 82)) → ∀ k, spec_RatioOfPath.l0 (k + m + 1) s (i : Int) = spec_RatioOfPath.l1 k s 0 0 1 1 0 1 1 := by
  intro m
  induction m with
  | zero =>
    intro i hi h k
    rw [spec_RatioOfPath.l0, if_neg (by omega)]
  | succ m ih =>
    intro i hi h k
    rw [show k + (m + 1) + 1 = (k + m + 1) + 1 from by omega, spec_RatioOfPath.l0, if_pos (by omega), if_pos (by omega)]
    have e : wrap64 ((i : Int) + 1) = ((i + 1 : Nat) : Int) := by rw [wrap64_id (by omega) (by omega)]; omega
    have := ih (i + 1) (by omega) (fun j h1 h2 => h j (by omega) h2) k
    by_cases c : bt s (i : Int) = 76
    · rw [if_pos c, e, this]
    · rw [if_neg c, if_pos ((h i (by omega) (by omega)).resolve_left c), e, this]
theorem spec_bad (s : ByteArray) (hs : s.size ≤ 200) : ∀ m i : Nat, i + m = s.size → (∃ j : Nat, i ≤ j ∧ j < s.size ∧ ¬ (bt s (j : Int) = 76 ∨ bt s (j : Int) = 82)) → ∀ k, spec_RatioOfPath.l0 (k + m + 1) s (i : Int) = some (0, 0, 5) := by
  intro m
  induction m with
  | zero => rintro i hi ⟨j, h1, h2, _⟩ k; omega
  | succ m ih =>
    rintro i hi ⟨j, h1, h2, h3⟩ k
    rw [show k + (m + 1) + 1 = (k + m + 1) + 1 from by omega, spec_RatioOfPath.l0, if_pos (by omega), if_pos (by omega)]
    have e : wrap64 ((i : Int) + 1) = ((i + 1 : Nat) : Int) := by rw [wrap64_id (by omega) (by omega)]; omega
    by_cases hij : i = j
    · subst hij
      rw [if_neg (fun c => h3 (Or.inl c)), if_neg (fun c => h3 (Or.inr c))]
    · have := ih (i + 1) (by omega) ⟨j, by omega, h2, h3⟩ k
      by_cases c : bt s (i : Int) = 76
      · rw [if_pos c, e, this]
      · rw [if_neg c]
        by_cases c2 : bt s (i : Int) = 82
        · rw [if_pos c2, e, this]
        · rw [if_neg c2]
theorem path_lock (s : ByteArray) (hs : s.size ≤ 200) : ∀ m i : Nat, i + m = s.size → ∀ a b c d : Int, 0 ≤ a → a ≤ 2147483648 → 0 ≤ b → b ≤ 2147483648 → 0 ≤ c → c ≤ 2147483648 → 0 ≤ d → d ≤ 2147483648 → a + c ≤ 2147483648 → b + d ≤ 2147483648 →
    ∃ r, ∀ k, spec_RatioOfPath.l1 (k + m + 1) s (i : Int) a b c d (a + c) (b + d) = some r ∧ impl_RatioOfPath.l0 (k + 2 * m + 2) s ((s.size : Int) + 1) (i : Int) a b c d = some r := by
  intro m
  induction m with
  | zero =>
    intro i hi a b c d ha ha2 hb hb2 hc hc2 hd hd2 hp hq
    refine ⟨(a + c, b + d, 0), fun k => ⟨?_, ?_⟩⟩
    · rw [spec_RatioOfPath.l1, if_neg (by omega)]
    · rw [show k + 2 * 0 + 2 = (k + 1) + 1 from rfl, impl_RatioOfPath.l0, if_pos (by omega), wrap64_id (n := a + c) (by omega) (by omega), wrap64_id (n := b + d) (by omega) (by omega), if_neg (by omega), impl_RatioOfPath.j1, if_neg (by simp; omega), if_pos (by omega)]
  | succ m ih =>
    intro i hi a b c d ha ha2 hb hb2 hc hc2 hd hd2 hp hq
    have e : wrap64 ((i : Int) + 1) = ((i + 1 : Nat) : Int) := by rw [wrap64_id (by omega) (by omega)]; omega
    have E : ∀ k r, (if bt s (i : Int) = 76 then impl_RatioOfPath.l0 (k + 2 * m + 2) s ((s.size : Int) + 1) ((i + 1 : Nat) : Int) a b (a + c) (b + d) else impl_RatioOfPath.l0 (k + 2 * m + 2) s ((s.size : Int) + 1) ((i + 1 : Nat) : Int) (a + c) (b + d) c d) = some r → impl_RatioOfPath.l0 (k + 2 * (m + 1) + 2) s ((s.size : Int) + 1) (i : Int) a b c d = some r := by
      intro k r hr
      rw [show k + 2 * (m + 1) + 2 = ((k + 2 * m + 2) + 1) + 1 from by omega, impl_RatioOfPath.l0, if_pos (by omega), wrap64_id (n := a + c) (by omega) (by omega), wrap64_id (n := b + d) (by omega) (by omega), if_neg (by omega), impl_RatioOfPath.j1, if_neg (by simp; omega), if_neg (by omega), if_pos (by omega), if_pos (by omega), e]
      exact hr
    have step : ∀ (lo1 lo2 hi1 hi2 : Int), 0 ≤ lo1 → lo1 ≤ 2147483648 → 0 ≤ lo2 → lo2 ≤ 2147483648 → 0 ≤ hi1 → hi1 ≤ 2147483648 → 0 ≤ hi2 → hi2 ≤ 2147483648 → ∃ r, ∀ k, (if wrap64 (lo1 + hi1) > 2147483648 then some (0, 0, 3) else if wrap64 (lo2 + hi2) > 2147483648 then some (0, 0, 3) else spec_RatioOfPath.l1 (k + m + 1) s ((i + 1 : Nat) : Int) lo1 lo2 hi1 hi2 (wrap64 (lo1 + hi1)) (wrap64 (lo2 + hi2))) = some r ∧ impl_RatioOfPath.l0 (k + 2 * m + 2) s ((s.size : Int) + 1) ((i + 1 : Nat) : Int) lo1 lo2 hi1 hi2 = some r := by
      intro lo1 lo2 hi1 hi2 h1 h2 h3 h4 h5 h6 h7 h8
      rw [wrap64_id (n := lo1 + hi1) (by omega) (by omega), wrap64_id (n := lo2 + hi2) (by omega) (by omega)]
      by_cases c1 : lo1 + hi1 > 2147483648
      · refine ⟨(0, 0, 3), fun k => ⟨by rw [if_pos c1], ?_⟩⟩
        rw [show k + 2 * m + 2 = (k + 2 * m + 1) + 1 from rfl, impl_RatioOfPath.l0, if_pos (by omega), wrap64_id (n := lo1 + hi1) (by omega) (by omega), if_pos c1, show k + 2 * m + 1 = (k + 2 * m) + 1 from rfl, impl_RatioOfPath.j1, if_pos rfl]
      · by_cases c2 : lo2 + hi2 > 2147483648
        · refine ⟨(0, 0, 3), fun k => ⟨by rw [if_neg c1, if_pos c2], ?_⟩⟩
          rw [show k + 2 * m + 2 = (k + 2 * m + 1) + 1 from rfl, impl_RatioOfPath.l0, if_pos (by omega), wrap64_id (n := lo1 + hi1) (by omega) (by omega), wrap64_id (n := lo2 + hi2) (by omega) (by omega), if_neg c1, show k + 2 * m + 1 = (k + 2 * m) + 1 from rfl, impl_RatioOfPath.j1, if_pos (by simpa using c2)]
        · obtain ⟨r, hr⟩ := ih (i + 1) (by omega) lo1 lo2 hi1 hi2 h1 h2 h3 h4 h5 h6 h7 h8 (by omega) (by omega)
          exact ⟨r, fun k => ⟨by rw [if_neg c1, if_neg c2]; exact (hr k).1, (hr k).2⟩⟩
    by_cases c76 : bt s (i : Int) = 76
    · obtain ⟨r, hr⟩ := step a b (a + c) (b + d) (by omega) (by omega) (by omega) (by omega) (by omega) (by omega) (by omega) (by omega)
      refine ⟨r, fun k => ⟨?_, E k r (by rw [if_pos c76]; exact (hr k).2)⟩⟩
      rw [show k + (m + 1) + 1 = (k + m + 1) + 1 from by omega, spec_RatioOfPath.l1, if_pos (by omega), if_pos (by omega), if_pos c76, e]
      exact (hr k).1
    · obtain ⟨r, hr⟩ := step (a + c) (b + d) c d (by omega) (by omega) (by omega) (by omega) (by omega) (by omega) (by omega) (by omega)
      refine ⟨r, fun k => ⟨?_, E k r (by rw [if_neg c76]; exact (hr k).2)⟩⟩
      rw [show k + (m + 1) + 1 = (k + m + 1) + 1 from by omega, spec_RatioOfPath.l1, if_pos (by omega), if_pos (by omega), if_neg c76, e]
      exact (hr k).1
theorem FnExactRatioOfPath : laws_FnExactRatioOfPath.Pure := by
  intro x0 hx
  by_cases c0 : (x0.size : Int) > 1048576
  · exact ⟨0, by unfold laws_FnExactRatioOfPath.f; rw [if_pos c0]⟩
  have fin : ∀ k r, spec_RatioOfPath.f k x0 = some r → impl_RatioOfPath.f k x0 = some r → laws_FnExactRatioOfPath.f k x0 = some true := by
    intro k r h1 h2
    unfold laws_FnExactRatioOfPath.f laws_eqRatio.f
    rw [if_neg c0, h1, Option.bind_some, h2, Option.bind_some, if_pos rfl, if_pos rfl, Option.bind_some, if_pos rfl, if_pos rfl]
  by_cases c1 : (x0.size : Int) > 200
  · refine ⟨0, fin 0 (0, 0, 3) ?_ ?_⟩
    · unfold spec_RatioOfPath.f; rw [if_pos c1]
    · unfold impl_RatioOfPath.f; rw [if_pos c1]
  have hs : x0.size ≤ 200 := by omega
  have ht : strings_Trim.f x0 (⟨#[76, 82]⟩ : ByteArray) = some ⟨(Go.Lib.trimS x0.data.toList [76, 82]).toArray⟩ := by
    unfold strings_Trim.f
    rw [if_pos ⟨rfl, by omega⟩]
  by_cases c2 : ∀ i : Nat, i < x0.size → (bt x0 (i : Int) = 76 ∨ bt x0 (i : Int) = 82)
  · obtain ⟨r, hr⟩ := path_lock x0 hs x0.size 0 (by omega) 0 1 1 0 (by omega) (by omega) (by omega) (by omega) (by omega) (by omega) (by omega) (by omega) (by omega) (by omega)
    refine ⟨2 * x0.size + 2, fin _ r ?_ ?_⟩
    · unfold spec_RatioOfPath.f
      rw [if_neg c1]
      have := spec_lr x0 hs x0.size 0 (by omega) (fun j _ h => c2 j h) (x0.size + 1)
      rw [show x0.size + 1 + x0.size + 1 = 2 * x0.size + 2 from by omega] at this
      have t2 := (hr 0).1
      rw [show 0 + x0.size + 1 = x0.size + 1 from by omega] at t2
      exact this.trans t2
    · unfold impl_RatioOfPath.f
      rw [if_neg c1, ht, Option.bind_some, if_pos ((trim_iff x0).2 c2), wrap64_id (by omega) (by omega)]
      have t2 := (hr 0).2
      rw [show 0 + 2 * x0.size + 2 = 2 * x0.size + 2 from by omega] at t2
      exact t2
  · have c3 : ∃ j : Nat, 0 ≤ j ∧ j < x0.size ∧ ¬ (bt x0 (j : Int) = 76 ∨ bt x0 (j : Int) = 82) := by
      refine Classical.byContradiction fun hn => c2 (fun i hi => Classical.byContradiction fun h => hn ⟨i, Nat.zero_le _, hi, h⟩)
    refine ⟨0 + x0.size + 1, fin _ (0, 0, 5) ?_ ?_⟩
    · unfold spec_RatioOfPath.f
      rw [if_neg c1]
      exact spec_bad x0 hs x0.size 0 (by omega) c3 0
    · unfold impl_RatioOfPath.f
      rw [if_neg c1, ht, Option.bind_some, if_neg (fun h => c2 ((trim_iff x0).1 h))]
end Go.Proofs.YtaamlhmabgiehaaDoor.Pure
