/- The program's ReachedTree returns the tree that the reference returns, for every tree, in memory of its own, and leaves it as it was. -/
import Derived.Test.YtlccefmimpmgjaaMFnExactReachedTreex9
import Derived.Test.YtlccefmimpmgjaaMOpen
namespace Go.Proofs.Ytlccefmimpmgjaa.Pure
open Go.RowKit Go.Proofs.Ytlccefmimpmgjaa.MFnExactReachedTree Go.Proofs.Ytlccefmimpmgjaa.MOpen Go.Proofs.YtlccefmimpmgjaaW.PrintWords Go.Proofs.YtlccefmimpmgjaaW.PrintLast Go.Proofs.YtlccefmimpmgjaaW.PrintMore
set_option linter.unusedVariables false
set_option linter.unusedSimpArgs false
theorem wrap64_id {n : Int} (h0 : -9223372036854775808 ≤ n) (h1 : n ≤ 9223372036854775807) : wrap64 n = n := by
  unfold wrap64; omega
theorem rd_nat (xs : List Int) (i : Nat) : rd xs (i : Int) = xs.getD i 0 := by simp [rd]
theorem rd_get (xs : List Int) (i : Nat) (h : i < xs.length) : rd xs (i : Int) = xs[i] := by simp [rd, h]
theorem ev_k {α : Type} {f : Nat → Option α} {r : α} (n : Nat) (h : ∀ k, n ≤ k → f k = some r) : Ev f r := ⟨n, h⟩
/-- A list of n elements of which the first i are told. -/
def built {α : Type} (g : Nat → α) (z : α) (n i : Nat) : List α := (List.range i).map g ++ List.replicate (n - i) z
theorem built_zero {α : Type} (g : Nat → α) (z : α) (n : Nat) : built g z n 0 = List.replicate n z := by simp [built]
theorem built_all {α : Type} (g : Nat → α) (z : α) (n : Nat) : built g z n n = (List.range n).map g := by simp [built]
theorem built_length {α : Type} (g : Nat → α) (z : α) (n i : Nat) (h : i ≤ n) : (built g z n i).length = n := by simp [built]; omega
theorem built_set {α : Type} (g : Nat → α) (z : α) (n i : Nat) (h : i < n) : (built g z n i).set i (g i) = built g z n (i + 1) := by
  unfold built
  rw [List.set_append_right _ _ (by simp), show n - i = (n - (i + 1)) + 1 by omega, List.replicate_succ]
  simp [List.range_succ]
/-- A fork's moves, as the conversion leaves them: the same numbers in the other type. -/
def cvF (x : S129) : S77 := ⟨x.f0, x.f1, ⟨x.f2.f0, x.f2.f1, x.f2.f2⟩⟩
/-- A whole list of moves in the other type. -/
def cvT (xs : List S129) : List S77 := (List.range xs.length).map (fun j : Nat => cvF (rd_T129 xs (j : Int)))
theorem cvT_length (xs : List S129) : (cvT xs).length = xs.length := by simp [cvT]
theorem toInt16A3_ev (a b c : Int) (k : Nat) (h : 4 ≤ k) : laws_toInt16A3.f k a b c = some (a, b, c) := by
  obtain ⟨k, rfl⟩ : ∃ m, k = m + 4 := ⟨k - 4, by omega⟩
  unfold laws_toInt16A3.f
  simp [laws_toInt16A3.l0, wrap64, aput, rd]
theorem toFork_ev (a b c d e : Int) (k : Nat) (h : 4 ≤ k) : laws_toFork.f k a b c d e = some (a, b, c, d, e) := by
  obtain ⟨k, rfl⟩ : ∃ m, k = m + 4 := ⟨k - 4, by omega⟩
  unfold laws_toFork.f
  rw [toInt16A3_ev _ _ _ _ (by omega)]; rfl
theorem toForkS_loop (xs : List S129) (hn : xs.length ≤ 4611686018427387904) (d : Nat) : ∀ (i k : Nat), i + d = xs.length → d + 4 < k → laws_toForkS.l0 k xs (built (fun j : Nat => cvF (rd_T129 xs (j : Int))) z77 xs.length i) (i : Int) = some (cvT xs) := by
  induction d with
  | zero =>
    intro i k hd hk
    obtain ⟨k, rfl⟩ : ∃ m, k = m + 1 := ⟨k - 1, by omega⟩
    simp only [laws_toForkS.l0]; rw [if_neg (by omega), show i = xs.length by omega, built_all]; rfl
  | succ d ih =>
    intro i k hd hk
    obtain ⟨k, rfl⟩ : ∃ m, k = m + 1 := ⟨k - 1, by omega⟩
    simp only [laws_toForkS.l0]; rw [if_pos (by omega), if_pos (by omega), toFork_ev _ _ _ _ _ _ (by omega)]
    simp only [Option.bind_some]
    rw [if_pos (by rw [built_length _ _ _ _ (by omega)]; omega), wrap64_id (by omega) (by omega), Int.toNat_natCast]
    have hset : (built (fun j : Nat => cvF (rd_T129 xs (j : Int))) z77 xs.length i).set i ⟨(rd_T129 xs (i : Int)).f0, (rd_T129 xs (i : Int)).f1, ⟨(rd_T129 xs (i : Int)).f2.f0, (rd_T129 xs (i : Int)).f2.f1, (rd_T129 xs (i : Int)).f2.f2⟩⟩ = built (fun j : Nat => cvF (rd_T129 xs (j : Int))) z77 xs.length (i + 1) := built_set (fun j : Nat => cvF (rd_T129 xs (j : Int))) z77 xs.length i (by omega)
    rw [hset]
    exact ih (i + 1) k (by omega) (by omega)
theorem toTree_ev (xs : List S129) (hn : xs.length ≤ 17592186044416) : Ev (fun k => laws_toTree.f k xs) (cvT xs) := by
  refine ⟨xs.length + 6, fun k hk => ?_⟩
  show laws_toTree.f k xs = some (cvT xs)
  unfold laws_toTree.f laws_toForkS.f
  rw [if_pos (by omega), if_pos (by simp; omega)]
  have : laws_toForkS.l0 k xs (built (fun j : Nat => cvF (rd_T129 xs (j : Int))) z77 xs.length 0) 0 = some (cvT xs) := toForkS_loop xs (by omega) xs.length 0 k (by omega) (by omega)
  rw [built_zero] at this
  rw [Int.toNat_natCast, this]; rfl
theorem eqInt16A3_same (a b c : Int) (k : Nat) (h : 4 ≤ k) : laws_eqInt16A3.f k a b c a b c = some true := by
  obtain ⟨k, rfl⟩ : ∃ m, k = m + 4 := ⟨k - 4, by omega⟩
  unfold laws_eqInt16A3.f
  simp [laws_eqInt16A3.l0, wrap64, rd]
theorem eqFork_same (a b c d e : Int) (k : Nat) (h : 4 ≤ k) : laws_eqFork.f k a b c d e a b c d e = some true := by
  obtain ⟨k, rfl⟩ : ∃ m, k = m + 4 := ⟨k - 4, by omega⟩
  unfold laws_eqFork.f
  rw [if_pos rfl, if_pos rfl, eqInt16A3_same _ _ _ _ (by omega)]; rfl
theorem eqForkS_loop (xs : List S77) (hn : xs.length ≤ 4611686018427387904) (d : Nat) : ∀ (i k : Nat), i + d = xs.length → d + 4 < k → laws_eqForkS.l0 k xs xs (i : Int) = some true := by
  induction d with
  | zero =>
    intro i k hd hk
    obtain ⟨k, rfl⟩ : ∃ m, k = m + 1 := ⟨k - 1, by omega⟩
    simp only [laws_eqForkS.l0]; rw [if_neg (by omega)]
  | succ d ih =>
    intro i k hd hk
    obtain ⟨k, rfl⟩ : ∃ m, k = m + 1 := ⟨k - 1, by omega⟩
    simp only [laws_eqForkS.l0]; rw [if_pos (by omega), if_pos (by omega), if_pos (by omega), eqFork_same _ _ _ _ _ _ (by omega)]
    simp only [Option.bind_some]
    rw [if_pos trivial, wrap64_id (by omega) (by omega)]
    exact ih (i + 1) k (by omega) (by omega)
theorem eqTree_ev (xs : List S77) (hn : xs.length ≤ 4611686018427387904) : Ev (fun k => laws_eqTree.f k xs xs) true := by
  refine ⟨xs.length + 6, fun k hk => ?_⟩
  show laws_eqTree.f k xs xs = some true
  unfold laws_eqTree.f laws_eqForkS.f
  have h : laws_eqForkS.l0 k xs xs 0 = some true := eqForkS_loop xs hn xs.length 0 k (by omega) (by omega)
  rw [if_pos rfl, h]; rfl
theorem szTree_eq (l : List S129) (a : Int) (hl : l.length ≤ 17592186044416) (h0 : 0 ≤ a) (h1 : a ≤ 1048576) : ∃ r, laws_szTree.f l a = some r ∧ (r < 0 ∨ (r ≤ a ∧ 0 ≤ r)) := by
  unfold laws_szTree.f laws_szForkS.f
  rw [wrap64_id (by omega) (by omega)]
  by_cases c : a - (l.length : Int) < 0
  · exact ⟨-1, by simp [c], by omega⟩
  · exact ⟨a - l.length, by simp [c], by omega⟩
/-- A node that a tree with n nodes may have. -/
def okF (n : Int) (x : S77) : Bool := decide (0 ≤ x.f2.f0 ∧ x.f2.f0 < n ∧ 0 ≤ x.f2.f1 ∧ x.f2.f1 < n ∧ 0 ≤ x.f2.f2 ∧ x.f2.f2 < n ∧ ((x.f0 = 1 ∧ x.f1 = 0) ∨ (x.f0 = 2 ∧ -1 ≤ x.f1 ∧ x.f1 ≤ 1 ∧ x.f2.f1 = 0 ∧ x.f2.f2 = 0)))
/-- The node's ways are 16-bit numbers. -/
def nar (x : S77) : Prop := (-32768 ≤ x.f2.f0 ∧ x.f2.f0 ≤ 32767) ∧ (-32768 ≤ x.f2.f1 ∧ x.f2.f1 ≤ 32767) ∧ (-32768 ≤ x.f2.f2 ∧ x.f2.f2 ≤ 32767)
theorem l00In_some (a b c : Int) : spec_l00In.f a b c = some (decide (b ≤ a ∧ a ≤ c)) := by
  unfold spec_l00In.f
  split <;> simp <;> omega
theorem okF_spec (k : Nat) (n i : Int) (xs : List S77) (h0 : 0 ≤ i) (h1 : i < (xs.length : Int)) (hn : 1 ≤ n ∧ n ≤ 60) (hw : nar (rd_T77 xs i)) :
    spec_l06Ok.l1 (k + 4) n i 0 xs = if okF n (rd_T77 xs i) = true then spec_l06Ok.l0 k n (wrap64 (i + 1)) xs else some false := by
  obtain ⟨⟨a1, a2⟩, ⟨b1, b2⟩, ⟨c1, c2⟩⟩ := hw
  have hk : ∀ k', spec_l06Ok.l1 (k' + 1) n i 3 xs = (if ((rd_T77 xs i).f0) = 1 then (if ((rd_T77 xs i).f1) = 0 then (spec_l06Ok.l0 k' n (wrap64 (i + 1)) xs) else (some false)) else (if ((rd_T77 xs i).f0) = 2 then (if ((rd_T77 xs i).f1) < (-1) then (some false) else (if ((rd_T77 xs i).f1) > 1 then (some false) else (if ((rd_T77 xs i).f2.f1) = 0 then (if ((rd_T77 xs i).f2.f2) = 0 then (spec_l06Ok.l0 k' n (wrap64 (i + 1)) xs) else (some false)) else (some false)))) else (some false))) := by
    intro k'
    simp only [spec_l06Ok.l1, if_pos h0, if_pos h1]; rw [if_neg (by omega)]
  have h2 : ∀ k', spec_l06Ok.l1 (k' + 1) n i 2 xs = (if 0 ≤ (rd_T77 xs i).f2.f2 ∧ (rd_T77 xs i).f2.f2 < n then spec_l06Ok.l1 k' n i 3 xs else some false) := by
    intro k'
    simp only [spec_l06Ok.l1, if_pos h0, if_pos h1, l00In_some, Option.bind_some]
    rw [if_pos (by omega), if_neg (by omega), if_neg (by omega), if_pos trivial, wrap64_id (by omega) (by omega), wrap64_id (by omega) (by omega)]
    by_cases c : 0 ≤ (rd_T77 xs i).f2.f2 ∧ (rd_T77 xs i).f2.f2 < n
    · rw [if_pos c, if_pos (by simp; omega)]; rfl
    · rw [if_neg c, if_neg (by simp; omega)]
  have h3 : ∀ k', spec_l06Ok.l1 (k' + 1) n i 1 xs = (if 0 ≤ (rd_T77 xs i).f2.f1 ∧ (rd_T77 xs i).f2.f1 < n then spec_l06Ok.l1 k' n i 2 xs else some false) := by
    intro k'
    simp only [spec_l06Ok.l1, if_pos h0, if_pos h1, l00In_some, Option.bind_some]
    rw [if_pos (by omega), if_neg (by omega), if_pos trivial, wrap64_id (by omega) (by omega), wrap64_id (by omega) (by omega)]
    by_cases c : 0 ≤ (rd_T77 xs i).f2.f1 ∧ (rd_T77 xs i).f2.f1 < n
    · rw [if_pos c, if_pos (by simp; omega)]; rfl
    · rw [if_neg c, if_neg (by simp; omega)]
  have h4 : ∀ k', spec_l06Ok.l1 (k' + 1) n i 0 xs = (if 0 ≤ (rd_T77 xs i).f2.f0 ∧ (rd_T77 xs i).f2.f0 < n then spec_l06Ok.l1 k' n i 1 xs else some false) := by
    intro k'
    simp only [spec_l06Ok.l1, if_pos h0, if_pos h1, l00In_some, Option.bind_some]
    rw [if_pos (by omega), if_pos trivial, wrap64_id (by omega) (by omega), wrap64_id (by omega) (by omega)]
    by_cases c : 0 ≤ (rd_T77 xs i).f2.f0 ∧ (rd_T77 xs i).f2.f0 < n
    · rw [if_pos c, if_pos (by simp; omega)]; rfl
    · rw [if_neg c, if_neg (by simp; omega)]
  rw [h4, h3, h2, hk]
  unfold okF
  generalize spec_l06Ok.l0 k n (wrap64 (i + 1)) xs = Z
  simp only [decide_eq_true_eq]
  repeat' split
  all_goals first | rfl | omega
theorem okF_impl (k : Nat) (n : Int) (x : S77) (hk : 4 ≤ k) (hw : nar x) : impl_forkOk.f k x.f0 x.f1 x.f2.f0 x.f2.f1 x.f2.f2 n = some (okF n x) := by
  obtain ⟨k, rfl⟩ : ∃ m, k = m + 4 := ⟨k - 4, by omega⟩
  obtain ⟨⟨a1, a2⟩, ⟨b1, b2⟩, ⟨c1, c2⟩⟩ := hw
  have hd : ∀ z : Int, impl_isDigit.f z = some (decide (-1 ≤ z ∧ z ≤ 1)) := by
    intro z; unfold impl_isDigit.f; split <;> simp <;> omega
  obtain ⟨p, q, ⟨a, b, c⟩⟩ := x
  simp only at a1 a2 b1 b2 c1 c2
  have w1 : wrap64 a = a := wrap64_id (by omega) (by omega)
  have w2 : wrap64 b = b := wrap64_id (by omega) (by omega)
  have w3 : wrap64 c = c := wrap64_id (by omega) (by omega)
  have t3 : ∀ k', impl_forkOk.l0 (k' + 1) n 3 a b c p q a b c = (if p = 1 then (some (q == 0)) else (if p = 2 then (if -1 ≤ q ∧ q ≤ 1 then (if b = 0 then (some (c == 0)) else (some false)) else (some false)) else (some false))) := by
    intro k'
    rw [impl_forkOk.l0, if_neg (by omega), hd]; simp
  have t2 : ∀ k', impl_forkOk.l0 (k' + 1) n 2 a b c p q a b c = (if c < 0 then some false else if c ≥ n then some false else impl_forkOk.l0 k' n 3 a b c p q a b c) := by
    intro k'
    rw [impl_forkOk.l0, if_pos (by omega), if_neg (by omega), if_neg (by omega), if_pos rfl, w3]; rfl
  have t1 : ∀ k', impl_forkOk.l0 (k' + 1) n 1 a b c p q a b c = (if b < 0 then some false else if b ≥ n then some false else impl_forkOk.l0 k' n 2 a b c p q a b c) := by
    intro k'
    rw [impl_forkOk.l0, if_pos (by omega), if_neg (by omega), if_pos rfl, w2]; rfl
  have t0 : ∀ k', impl_forkOk.l0 (k' + 1) n 0 a b c p q a b c = (if a < 0 then some false else if a ≥ n then some false else impl_forkOk.l0 k' n 1 a b c p q a b c) := by
    intro k'
    rw [impl_forkOk.l0, if_pos (by omega), if_pos rfl, w1]; rfl
  unfold impl_forkOk.f okF
  simp only
  rw [t0, t1, t2, t3]
  repeat' split
  all_goals refine congrArg some ?_
  all_goals rw [Bool.eq_iff_iff]
  all_goals simp only [beq_iff_eq, decide_eq_true_eq, Bool.false_eq_true, false_iff]
  all_goals omega
theorem ok_loop2 (n : Nat) (xs : List S77) (hl : xs.length = n) (hn : 1 ≤ n ∧ n ≤ 60) (hw : ∀ i : Nat, i < n → nar (rd_T77 xs (i : Int))) (d : Nat) : ∀ i : Nat, i + d = n → ∃ b r, (decide (r ≥ 0) = !b) ∧ (b = true → ∀ j : Nat, i ≤ j → j < n → okF n (rd_T77 xs (j : Int)) = true) ∧ ∀ k, 5 * d + 6 < k → spec_l06Ok.l0 k (n : Int) (i : Int) xs = some b ∧ impl_Fork_c66_1.l0 k xs (n : Int) (i : Int) xs = some r := by
  induction d with
  | zero =>
    intro i hi
    refine ⟨true, -1, by decide, fun _ j h1 h2 => by omega, fun k hk => ?_⟩
    obtain ⟨k, rfl⟩ : ∃ m, k = m + 1 := ⟨k - 1, by omega⟩
    simp only [spec_l06Ok.l0, impl_Fork_c66_1.l0]; rw [if_neg (by omega), if_neg (by omega)]; exact ⟨rfl, rfl⟩
  | succ d ih =>
    intro i hi
    have hs : ∀ k, 5 * (d + 1) + 6 < k → ∃ m, k = m + 4 + 1 ∧ 5 * d + 6 < m := fun k hk => ⟨k - 5, by omega, by omega⟩
    have hv : ∀ m : Nat, impl_ValidTree_1.f (m + 4) (rd_T77 xs (i : Int)).f0 (rd_T77 xs (i : Int)).f1 (rd_T77 xs (i : Int)).f2.f0 (rd_T77 xs (i : Int)).f2.f1 (rd_T77 xs (i : Int)).f2.f2 xs = some (!okF n (rd_T77 xs (i : Int))) := by
      intro m
      unfold impl_ValidTree_1.f
      rw [okF_impl _ _ _ (by omega) (hw i (by omega)), hl]; rfl
    have e1 : ∀ m : Nat, spec_l06Ok.l0 (m + 4 + 1) (n : Int) (i : Int) xs = if okF n (rd_T77 xs (i : Int)) = true then spec_l06Ok.l0 m n ((i + 1 : Nat) : Int) xs else some false := by
      intro m
      rw [spec_l06Ok.l0, if_pos (by omega), if_pos (by omega), if_pos (by omega), okF_spec _ _ _ _ (by omega) (by omega) (by omega) (hw i (by omega)), wrap64_id (by omega) (by omega)]; rfl
    have e2 : ∀ m : Nat, impl_Fork_c66_1.l0 (m + 4 + 1) xs (n : Int) (i : Int) xs = if okF n (rd_T77 xs (i : Int)) = true then impl_Fork_c66_1.l0 (m + 4) xs n ((i + 1 : Nat) : Int) xs else some (i : Int) := by
      intro m
      rw [impl_Fork_c66_1.l0, if_pos (by omega), if_pos (by omega), if_pos (by omega), hv, wrap64_id (by omega) (by omega)]
      cases okF n (rd_T77 xs (i : Int)) <;> rfl
    by_cases c : okF n (rd_T77 xs (i : Int)) = true
    · obtain ⟨b, r, hb, ho, hk⟩ := ih (i + 1) (by omega)
      refine ⟨b, r, hb, fun z j h1 h2 => ?_, fun k h => ?_⟩
      · by_cases e : j = i
        · subst e; exact c
        · exact ho z j (by omega) h2
      obtain ⟨m, rfl, hm⟩ := hs k h
      rw [e1, e2, if_pos c, if_pos c]
      exact ⟨(hk m hm).1, (hk (m + 4) (by omega)).2⟩
    · refine ⟨false, (i : Int), by simp, fun z => by simp at z, fun k h => ?_⟩
      obtain ⟨m, rfl, hm⟩ := hs k h
      rw [e1, e2, if_neg c, if_neg c]
      exact ⟨rfl, rfl⟩
theorem ok_both2 (xs : List S77) (hw : ∀ i : Nat, i < xs.length → nar (rd_T77 xs (i : Int))) (hl : xs.length ≤ 17592186044416) : ∃ b : Bool, (b = true → (1 ≤ xs.length ∧ xs.length ≤ 60) ∧ ∀ j : Nat, j < xs.length → okF xs.length (rd_T77 xs (j : Int)) = true) ∧ Ev (fun k => spec_l06Ok.f k xs) b ∧ Ev (fun k => impl_ValidTree.f k xs) b := by
  unfold impl_ValidTree.f spec_l06Ok.f impl_Fork_c66_0.f impl_Fork_c66_1.f
  simp only [l00In_some, Option.bind_some]
  by_cases c : 1 ≤ (xs.length : Int) ∧ (xs.length : Int) ≤ 60
  · obtain ⟨b, r, hb, ho, hk⟩ := ok_loop2 xs.length xs rfl (by omega) hw xs.length 0 (by omega)
    refine ⟨b, fun z => ⟨by omega, fun j hj => ho z j (by omega) hj⟩, ⟨5 * xs.length + 7, fun k h => ?_⟩, ⟨5 * xs.length + 7, fun k h => ?_⟩⟩
    · have e : spec_l06Ok.l0 k (xs.length : Int) 0 xs = some b := (hk k (by omega)).1
      simp only [e]; rw [if_pos (by simp; omega)]
    · have e : impl_Fork_c66_1.l0 k xs (xs.length : Int) 0 xs = some r := (hk k (by omega)).2
      simp only [e, Option.bind_some, hb]; rw [if_neg (by omega), if_neg (by omega)]; simp
  · refine ⟨false, by simp, ⟨0, fun k h => ?_⟩, ⟨0, fun k h => ?_⟩⟩
    · simp only; rw [if_neg (by simpa using c)]
    · simp only
      by_cases c1 : (xs.length : Int) < 1
      · rw [if_pos c1]
      · rw [if_neg c1, if_pos (by omega)]
theorem cvT_nar (l : List S129) (h : ∀ z ∈ l, WF129 z) : ∀ i : Nat, i < (cvT l).length → nar (rd_T77 (cvT l) (i : Int)) := by
  intro i hi
  rw [cvT_length] at hi
  have e : rd_T77 (cvT l) (i : Int) = cvF (l[i]) := by
    have e2 : rd_T129 l (i : Int) = l[i] := by simp [rd_T129, hi]
    unfold rd_T77 cvT
    simp [hi, e2]
  obtain ⟨_, _, p, q, r⟩ := h (l[i]) (List.getElem_mem hi)
  rw [e]
  exact ⟨p, q, r⟩
/-- The ways of a node, and what the finding does with one of them. -/
def wl (x : S77) : List Int := if x.f0 = 2 then [x.f2.f0] else [x.f2.f0, x.f2.f1, x.f2.f2]
def vis (st : List Int × List Bool) (v : Int) : List Int × List Bool := if rdOf false st.2 v = true then st else (st.1 ++ [v], st.2.set v.toNat true)
def Pst (n : Nat) (st : List Int × List Bool) : Prop := st.2.length = n ∧ st.1.length = st.2.count true ∧ (∀ v ∈ st.1, 0 ≤ v ∧ v < (n : Int)) ∧ (∀ v : Nat, v < n → (rdOf false st.2 (v : Int) = true ↔ (v : Int) ∈ st.1)) ∧ st.1.Nodup
theorem rdOf_nat (ys : List Bool) (i : Nat) (h : i < ys.length) : rdOf false ys (i : Int) = ys[i] := by
  simp [rdOf, List.getD_eq_getElem?_getD, h]
theorem vis_P (n : Nat) (st : List Int × List Bool) (v : Int) (h : Pst n st) (h0 : 0 ≤ v ∧ v < (n : Int)) : Pst n (vis st v) ∧ (∃ t, (vis st v).1 = st.1 ++ t) ∧ v ∈ (vis st v).1 := by
  obtain ⟨a, b, c, d, e⟩ := h
  obtain ⟨u, rfl⟩ : ∃ u : Nat, v = (u : Int) := ⟨v.toNat, by omega⟩
  have hu : u < n := by omega
  have hul : u < st.2.length := by omega
  unfold vis
  by_cases hs : rdOf false st.2 (u : Int) = true
  · rw [if_pos hs]
    exact ⟨⟨a, b, c, d, e⟩, ⟨[], by simp⟩, (d u hu).mp hs⟩
  · rw [if_neg hs]
    have hf : st.2[u] = false := by rw [rdOf_nat _ _ hul] at hs; simpa using hs
    have hn : ¬ (u : Int) ∈ st.1 := fun z => hs ((d u hu).mpr z)
    refine ⟨⟨by simpa using a, ?_, ?_, ?_, ?_⟩, ⟨[(u : Int)], rfl⟩, by simp⟩
    · simp only [Int.toNat_natCast, List.length_append, List.length_singleton]
      rw [List.count_set hul, hf, b]; simp
    · intro w hw
      simp only [List.mem_append, List.mem_singleton] at hw
      rcases hw with hw | hw
      · exact c w hw
      · rw [hw]; exact h0
    · intro w hw
      have hwl : w < (st.2.set (u : Int).toNat true).length := by simp; omega
      rw [rdOf_nat _ _ hwl]
      simp only [Int.toNat_natCast, List.getElem_set, List.mem_append, List.mem_singleton]
      by_cases e2 : u = w
      · subst e2; simp
      · rw [if_neg e2]
        have := d w hw
        rw [rdOf_nat _ _ (by omega)] at this
        rw [this]
        constructor
        · exact Or.inl
        · rintro (z | z)
          · exact z
          · exact absurd (by omega) e2
    · rw [List.nodup_append]
      refine ⟨e, by simp, ?_⟩
      intro x hx y hy
      simp only [List.mem_singleton] at hy
      rw [hy]; intro z; exact hn (z ▸ hx)
theorem fold_P (n : Nat) : ∀ (ws : List Int) (st : List Int × List Bool), Pst n st → (∀ w ∈ ws, 0 ≤ w ∧ w < (n : Int)) → Pst n (ws.foldl vis st) ∧ (∃ t, (ws.foldl vis st).1 = st.1 ++ t) ∧ ∀ w ∈ ws, w ∈ (ws.foldl vis st).1 := by
  intro ws
  induction ws with
  | nil => intro st h _; exact ⟨h, ⟨[], by simp⟩, by simp⟩
  | cons w ws ih =>
    intro st h hw
    obtain ⟨p1, ⟨t1, e1⟩, m1⟩ := vis_P n st w h (hw w (by simp))
    obtain ⟨p2, ⟨t2, e2⟩, m2⟩ := ih (vis st w) p1 (fun x hx => hw x (by simp [hx]))
    refine ⟨p2, ⟨t1 ++ t2, ?_⟩, ?_⟩
    · show (ws.foldl vis (vis st w)).1 = _
      rw [e2, e1, List.append_assoc]
    · intro x hx
      show x ∈ (ws.foldl vis (vis st w)).1
      simp only [List.mem_cons] at hx
      rcases hx with hx | hx
      · rw [hx, e2]; exact List.mem_append_left _ m1
      · exact m2 x hx
theorem Pst_len {n : Nat} {st : List Int × List Bool} (h : Pst n st) : st.1.length ≤ n := by
  rw [h.2.1, ← h.1]; exact List.count_le_length
/-- A node that a valid tree has. -/
theorem okF_is {n : Int} {x : S77} (h : okF n x = true) : (0 ≤ x.f2.f0 ∧ x.f2.f0 < n) ∧ (0 ≤ x.f2.f1 ∧ x.f2.f1 < n) ∧ (0 ≤ x.f2.f2 ∧ x.f2.f2 < n) ∧ (x.f0 = 1 ∨ x.f0 = 2) := by
  unfold okF at h
  simp only [decide_eq_true_eq] at h
  omega
theorem wl_in {n : Int} {x : S77} (h : okF n x = true) : ∀ w ∈ wl x, 0 ≤ w ∧ w < n := by
  obtain ⟨a, b, c, _⟩ := okF_is h
  intro w hw
  unfold wl at hw
  split at hw
  · simp only [List.mem_singleton] at hw; rw [hw]; exact a
  · simp only [List.mem_cons, List.not_mem_nil, or_false] at hw
    rcases hw with rfl | rfl | rfl
    · exact a
    · exact b
    · exact c
theorem spec_node (T : List S77) (n : Nat) (hT : T.length = n) (hn : n ≤ 60) (c : Int) (hc : 0 ≤ c ∧ c < (n : Int)) (ho : okF n (rd_T77 T c) = true) (i : Int) (st : List Int × List Bool) (hP : Pst n st) (r : List Int)
    (hr : Ev (fun k => spec_l06Reached.l0 k ((wl (rd_T77 T c)).foldl vis st).1 ((wl (rd_T77 T c)).foldl vis st).2 (wrap64 (i + 1)) T) r) : Ev (fun k => spec_l06Reached.l1 k st.1 st.2 i 0 c T) r := by
  obtain ⟨a0, a1, a2, a3⟩ := okF_is ho
  have one : ∀ (st : List Int × List Bool) (v : Int), Pst n st → (0 ≤ v ∧ v < (n : Int)) → ∀ (Z : List Int → List Bool → Option (List Int)),
      (if 0 ≤ v then (if v < (st.2.length : Int) then (if (rdOf false st.2 v = true) then Z st.1 st.2 else (if st.1.length < 70368744177664 then Z (st.1 ++ [v]) (st.2.set v.toNat true) else none)) else none) else none) = Z (vis st v).1 (vis st v).2 := by
    intro st v hP hv Z
    have := Pst_len hP
    have := hP.1
    rw [if_pos hv.1, if_pos (by omega)]
    unfold vis
    by_cases hs : rdOf false st.2 v = true
    · rw [if_pos hs, if_pos hs]
    · rw [if_neg hs, if_neg hs, if_pos (by omega)]
  rcases a3 with hk | hk
  · have hw : wl (rd_T77 T c) = [(rd_T77 T c).f2.f0, (rd_T77 T c).f2.f1, (rd_T77 T c).f2.f2] := by unfold wl; rw [if_neg (by omega)]
    rw [hw] at hr
    have p1 := (vis_P n st _ hP a0).1
    have p2 := (vis_P n _ _ p1 a1).1
    refine Ev.step (fun k => by rw [spec_l06Reached.l1, if_pos hc.1, if_pos (by omega), if_pos hk, if_pos (by omega), if_pos rfl, one st _ hP a0 (fun a b => spec_l06Reached.l1 k a b i (0 + 1) c T)]) ?_
    refine Ev.step (fun k => by rw [spec_l06Reached.l1, if_pos hc.1, if_pos (by omega), if_pos hk, if_pos (by omega), if_neg (by omega), if_pos (by omega), one _ _ p1 a1 (fun a b => spec_l06Reached.l1 k a b i (1 + 1) c T)]) ?_
    refine Ev.step (fun k => by rw [spec_l06Reached.l1, if_pos hc.1, if_pos (by omega), if_pos hk, if_pos (by omega), if_neg (by omega), if_neg (by omega), if_pos (by omega), one _ _ p2 a2 (fun a b => spec_l06Reached.l1 k a b i (2 + 1) c T)]) ?_
    refine Ev.step (fun k => by rw [spec_l06Reached.l1, if_pos hc.1, if_pos (by omega), if_pos hk, if_neg (by omega)]) ?_
    exact hr
  · have hw : wl (rd_T77 T c) = [(rd_T77 T c).f2.f0] := by unfold wl; rw [if_pos hk]
    rw [hw] at hr
    refine Ev.step (fun k => by rw [spec_l06Reached.l1, if_pos hc.1, if_pos (by omega), if_neg (by omega), if_pos (by omega), if_pos rfl, one st _ hP a0 (fun a b => spec_l06Reached.l1 k a b i (0 + 1) c T)]) ?_
    refine Ev.step (fun k => by rw [spec_l06Reached.l1, if_pos hc.1, if_pos (by omega), if_neg (by omega), if_neg (by omega)]) ?_
    exact hr
theorem impl_node (T : List S77) (n : Nat) (hn : n ≤ 60) (ws : List Int) (hws : ∀ w ∈ ws, 0 ≤ w ∧ w < (n : Int)) (hwl : ws.length ≤ 3) (i : Int) (r : List Int) (d : Nat) : ∀ (j : Nat) (st : List Int × List Bool), j + d = ws.length → Pst n st →
    Ev (fun k => impl_Tree_found.l0 k ((ws.drop j).foldl vis st).1 ((ws.drop j).foldl vis st).2 (wrap64 (i + 1)) T) r → Ev (fun k => impl_Tree_found.l1 k st.1 st.2 i ws (ws.length : Int) (j : Int) T) r := by
  induction d with
  | zero =>
    intro j st hj _ hr
    rw [List.drop_of_length_le (by omega)] at hr
    refine Ev.step (fun k => by rw [impl_Tree_found.l1, if_neg (by omega)]) ?_
    exact hr
  | succ d ih =>
    intro j st hj hP hr
    have hjl : j < ws.length := by omega
    have hv := hws ws[j] (List.getElem_mem hjl)
    have h1 := Pst_len hP
    have h2 := hP.1
    rw [List.drop_eq_getElem_cons hjl, List.foldl_cons] at hr
    have := ih (j + 1) (vis st ws[j]) (by omega) (vis_P n st _ hP hv).1 hr
    refine Ev.step (fun k => ?_) this
    rw [impl_Tree_found.l1, if_pos (by omega), if_pos (by omega), if_pos (by omega), rd_get _ _ hjl, if_pos hv.1, if_pos (by omega), wrap64_id (n := (j : Int) + 1) (by omega) (by omega)]
    unfold vis
    by_cases hs : rdOf false st.2 ws[j] = true
    · rw [if_pos hs, if_pos hs]; rfl
    · rw [if_neg hs, if_neg hs, if_pos (by omega)]; rfl
/-- What both find: the nodes of a valid tree that are reached. -/
def Good (T : List S77) (n : Nat) (L : List Int) : Prop := L.length ≤ n ∧ (∀ v ∈ L, 0 ≤ v ∧ v < (n : Int)) ∧ L.Nodup ∧ ∀ v ∈ L, ∀ w ∈ wl (rd_T77 T v), w ∈ L
theorem found_both (T : List S77) (n : Nat) (hT : T.length = n) (hn : n ≤ 60) (ho : ∀ j : Nat, j < n → okF n (rd_T77 T (j : Int)) = true) (d : Nat) : ∀ (i : Nat) (st : List Int × List Bool), i + d = n → Pst n st → (∀ j : Nat, j < i → j < st.1.length → ∀ w ∈ wl (rd_T77 T (rd st.1 (j : Int))), w ∈ st.1) →
    ∃ L, Good T n L ∧ Ev (fun k => spec_l06Reached.l0 k st.1 st.2 (i : Int) T) L ∧ Ev (fun k => impl_Tree_found.l0 k st.1 st.2 (i : Int) T) L := by
  have fin : ∀ (i : Nat) (st : List Int × List Bool), Pst n st → (∀ j : Nat, j < i → j < st.1.length → ∀ w ∈ wl (rd_T77 T (rd st.1 (j : Int))), w ∈ st.1) → ¬ i < st.1.length → ∃ L, Good T n L ∧ Ev (fun k => spec_l06Reached.l0 k st.1 st.2 (i : Int) T) L ∧ Ev (fun k => impl_Tree_found.l0 k st.1 st.2 (i : Int) T) L := by
    intro i st hP hf hi
    refine ⟨st.1, ⟨Pst_len hP, hP.2.2.1, hP.2.2.2.2, fun v hv w hw => ?_⟩, ?_, ?_⟩
    · obtain ⟨j, hj, rfl⟩ := List.mem_iff_getElem.mp hv
      exact hf j (by omega) hj w (by rw [rd_get _ _ hj]; exact hw)
    · refine Ev.step (fun k => by rw [spec_l06Reached.l0, if_neg (by omega)]) (Ev.now _)
    · refine Ev.step (fun k => by rw [impl_Tree_found.l0, if_neg (by omega)]) (Ev.now _)
  induction d with
  | zero =>
    intro i st hi hP hf
    have := Pst_len hP
    exact fin i st hP hf (by omega)
  | succ d ih =>
    intro i st hi hP hf
    by_cases c : i < st.1.length
    · have hcv := hP.2.2.1 st.1[i] (List.getElem_mem c)
      have hok : okF n (rd_T77 T st.1[i]) = true := by
        have := ho st.1[i].toNat (by omega)
        rwa [show ((st.1[i].toNat : Nat) : Int) = st.1[i] by omega] at this
      have hws := wl_in hok
      obtain ⟨p, ⟨t, e⟩, m⟩ := fold_P n (wl (rd_T77 T st.1[i])) st hP hws
      have w1 : wrap64 ((i : Int) + 1) = ((i + 1 : Nat) : Int) := by rw [wrap64_id (by omega) (by omega)]; omega
      obtain ⟨L, hg, es, ei⟩ := ih (i + 1) ((wl (rd_T77 T st.1[i])).foldl vis st) (by omega) p (by
        intro j h1 h2 w hw
        by_cases z : j < st.1.length
        · have e2 : rd ((wl (rd_T77 T st.1[i])).foldl vis st).1 (j : Int) = rd st.1 (j : Int) := by
            rw [rd_get _ _ h2, rd_get _ _ z]; simp only [e, List.getElem_append_left z]
          rw [e2] at hw
          by_cases z2 : j = i
          · subst z2; rw [rd_get _ _ z] at hw; exact m w hw
          · rw [e]; exact List.mem_append_left _ (hf j (by omega) z w hw)
        · omega)
      refine ⟨L, hg, ?_, ?_⟩
      · refine Ev.step (fun k => by rw [spec_l06Reached.l0, if_pos (by omega), if_pos (by omega), rd_get _ _ c, if_pos hcv.1, if_pos (by omega)]) ?_
        exact spec_node T n hT hn st.1[i] hcv hok (i : Int) st hP L (by rw [w1]; exact es)
      · refine Ev.step (fun k => by rw [impl_Tree_found.l0, if_pos (by omega), if_pos (by omega), rd_get _ _ c, if_pos hcv.1, if_pos (by omega)]) ?_
        refine Ev.bind (show Ev (fun _ => impl_Fork_ways.f (rd_T77 T st.1[i]).f0 (rd_T77 T st.1[i]).f1 (rd_T77 T st.1[i]).f2.f0 (rd_T77 T st.1[i]).f2.f1 (rd_T77 T st.1[i]).f2.f2) (wl (rd_T77 T st.1[i])) from ⟨0, fun k _ => rfl⟩) ?_
        have hl3 : (wl (rd_T77 T st.1[i])).length ≤ 3 := by unfold wl; split <;> simp
        exact impl_node T n hn _ hws hl3 (i : Int) L (wl (rd_T77 T st.1[i])).length 0 st (by omega) hP (by rw [w1]; exact ei)
    · exact fin i st hP hf c
theorem found_ev (T : List S77) (h1 : 1 ≤ T.length) (hn : T.length ≤ 60) (ho : ∀ j : Nat, j < T.length → okF T.length (rd_T77 T (j : Int)) = true) : ∃ L, Good T T.length L ∧ Ev (fun k => spec_l06Reached.f k T) L ∧ Ev (fun k => impl_Tree_found.f k T) L := by
  have hP : Pst T.length ([0], (List.replicate T.length false).set 0 true) := by
    refine ⟨by simp, ?_, ?_, ?_, by simp⟩
    · rw [List.count_set (by simp; omega)]; simp [List.count_replicate]
    · intro v hv; simp only [List.mem_singleton] at hv; omega
    · intro v hv
      rw [rdOf_nat _ _ (by simp; omega)]
      simp only [List.getElem_set, List.getElem_replicate, List.mem_singleton]
      by_cases e : 0 = v
      · subst e; simp
      · rw [if_neg e]; simp; omega
  obtain ⟨L, hg, es, ei⟩ := found_both T T.length rfl hn ho T.length 0 _ (by omega) hP (fun j h => by omega)
  refine ⟨L, hg, ?_, ?_⟩
  · refine Ev.congr (fun k => by unfold spec_l06Reached.f; rw [if_pos (by omega), if_pos (by omega)]) ?_
    simp only [Option.bind_some, Int.toNat_natCast, List.length_replicate]
    refine Ev.congr (fun k => if_pos (by omega)) ?_
    exact es
  · refine Ev.congr (fun k => by unfold impl_Tree_found.f; rw [if_pos (by omega), if_pos (by omega)]) ?_
    simp only [Option.bind_some, Int.toNat_natCast, List.length_replicate]
    refine Ev.congr (fun k => if_pos (by omega)) ?_
    exact ei
/-- A node that has been marked, from a number on. -/
def mfork (x : Int) : S77 := ⟨IntKind.i8.wrap x, IntKind.i8.wrap (x + 1), ⟨IntKind.i16.wrap (x + 2), IntKind.i16.wrap (x + 3), IntKind.i16.wrap (x + 4)⟩⟩
theorem rdT_set (ys : List S77) (i : Nat) (v : S77) (h : i < ys.length) : rd_T77 (ys.set i v) (i : Int) = v := by
  simp [rd_T77, List.getD_eq_getElem?_getD, h]
theorem rdT_get (ys : List S77) (i : Nat) (h : i < ys.length) : rd_T77 ys (i : Int) = ys[i] := by
  simp [rd_T77, List.getD_eq_getElem?_getD, h]
theorem markF_one (ys : List S77) (i : Nat) (x : Int) (k : Nat) (h : i < ys.length) (hn : ys.length ≤ 4611686018427387904) (h0 : 0 ≤ x) (h1 : x ≤ 4611686018427387904) : laws_markForkS.l0 (k + 5) ys x (i : Int) = laws_markForkS.l0 k (ys.set i (mfork x)) (x + 5) ((i + 1 : Nat) : Int) := by
  have w1 : wrap64 (x + 1) = x + 1 := wrap64_id (by omega) (by omega)
  have w2 : wrap64 (x + 1 + 1) = x + 2 := by rw [wrap64_id (by omega) (by omega)]; omega
  have w3 : wrap64 (x + 2 + 1) = x + 3 := by rw [wrap64_id (by omega) (by omega)]; omega
  have w4 : wrap64 (x + 3 + 1) = x + 4 := by rw [wrap64_id (by omega) (by omega)]; omega
  have w5 : wrap64 (x + 4 + 1) = x + 5 := by rw [wrap64_id (by omega) (by omega)]; omega
  have wi : wrap64 ((i : Int) + 1) = ((i + 1 : Nat) : Int) := by rw [wrap64_id (by omega) (by omega)]; omega
  rw [laws_markForkS.l0, if_pos (by omega), if_pos (by omega), w1, w2]
  simp only [Option.bind_some, Int.toNat_natCast, List.set_set, rdT_set, h]
  rw [laws_markForkS.l1, if_pos (by omega), if_pos (by omega), if_pos (by simp; omega), if_pos rfl, w3]
  simp only [Int.toNat_natCast, List.set_set, rdT_set, h]
  rw [laws_markForkS.l1, if_pos (by omega), if_pos (by omega), if_pos (by simp; omega), if_neg (by omega), if_pos (by omega), w4]
  simp only [Int.toNat_natCast, List.set_set, rdT_set, h]
  rw [laws_markForkS.l1, if_pos (by omega), if_pos (by omega), if_pos (by simp; omega), if_neg (by omega), if_neg (by omega), if_pos (by omega), w5]
  simp only [Int.toNat_natCast, List.set_set, rdT_set, h]
  rw [laws_markForkS.l1, if_neg (by omega), wi]
  simp only [mfork]
theorem markF_loop (a : Int) (n : Nat) (h0 : 0 ≤ a) (ha : a + 5 * n ≤ 4611686018427387904) (d : Nat) : ∀ (i : Nat) (ys : List S77) (k : Nat), ys.length = n → i + d = n → (∀ j : Nat, j < i → rd_T77 ys (j : Int) = mfork (a + 5 * j)) → 5 * d < k → laws_markForkS.l0 k ys (a + 5 * i) (i : Int) = some (a + 5 * n, (List.range n).map (fun j : Nat => mfork (a + 5 * j))) := by
  induction d with
  | zero =>
    intro i ys k hl hd hj hk
    obtain ⟨k, rfl⟩ : ∃ m, k = m + 1 := ⟨k - 1, by omega⟩
    obtain rfl : i = n := by omega
    rw [laws_markForkS.l0, if_neg (by omega)]
    have e : ys = (List.range i).map (fun j : Nat => mfork (a + 5 * j)) := by
      apply List.ext_getElem (by simp [hl])
      intro j h1 h2
      have := hj j (by omega)
      rw [rdT_get _ _ h1] at this
      simpa using this
    rw [← e]
  | succ d ih =>
    intro i ys k hl hd hj hk
    obtain ⟨k, rfl⟩ : ∃ m, k = m + 5 := ⟨k - 5, by omega⟩
    rw [markF_one ys i (a + 5 * i) k (by omega) (by omega) (by omega) (by omega), show a + 5 * (i : Int) + 5 = a + 5 * ((i + 1 : Nat) : Int) by omega]
    refine ih (i + 1) _ k (by simpa using hl) (by omega) ?_ (by omega)
    intro j hji
    by_cases e : j = i
    · subst e; exact rdT_set _ _ _ (by omega)
    · have e' : ¬ i = j := fun h => e h.symm
      have := hj j (by omega)
      simpa [rd_T77, List.getD_eq_getElem?_getD, List.getElem?_set, e'] using this
/-- A list of nodes that has been marked, from 1 on. -/
def markedF (n : Nat) : List S77 := (List.range n).map (fun j : Nat => mfork (1 + 5 * j))
theorem markTree_ev (ys : List S77) (hn : ys.length ≤ 17592186044416) : Ev (fun k => laws_markTree.f k ys 1) (1 + 5 * ys.length, markedF ys.length) := by
  unfold laws_markTree.f
  refine Ev.bind (a := ((1 + 5 * ys.length : Int), markedF ys.length)) ⟨5 * ys.length + 1, fun k hk => ?_⟩ (Ev.now _)
  have := markF_loop 1 ys.length (by omega) (by omega) ys.length 0 ys k rfl (by omega) (fun j h => by omega) (by omega)
  simpa [laws_markForkS.f, markedF] using this
theorem heldF_one (ys : List S77) (i : Nat) (x : Int) (k : Nat) (h : i < ys.length) (hn : ys.length ≤ 4611686018427387904) (h0 : 0 ≤ x) (h1 : x ≤ 4611686018427387904) (hr : rd_T77 ys (i : Int) = mfork x) : laws_heldForkS.l0 (k + 5) ys x (i : Int) = laws_heldForkS.l0 k ys (x + 5) ((i + 1 : Nat) : Int) := by
  have w1 : wrap64 (x + 1) = x + 1 := wrap64_id (by omega) (by omega)
  have w2 : wrap64 (x + 1 + 1) = x + 2 := by rw [wrap64_id (by omega) (by omega)]; omega
  have w3 : wrap64 (x + 2 + 1) = x + 3 := by rw [wrap64_id (by omega) (by omega)]; omega
  have w4 : wrap64 (x + 3 + 1) = x + 4 := by rw [wrap64_id (by omega) (by omega)]; omega
  have w5 : wrap64 (x + 4 + 1) = x + 5 := by rw [wrap64_id (by omega) (by omega)]; omega
  have wi : wrap64 ((i : Int) + 1) = ((i + 1 : Nat) : Int) := by rw [wrap64_id (by omega) (by omega)]; omega
  have g0 : (mfork x).f0 = IntKind.i8.wrap x := rfl
  have g1 : (mfork x).f1 = IntKind.i8.wrap (x + 1) := rfl
  have g2 : (mfork x).f2.f0 = IntKind.i16.wrap (x + 2) := rfl
  have g3 : (mfork x).f2.f1 = IntKind.i16.wrap (x + 3) := rfl
  have g4 : (mfork x).f2.f2 = IntKind.i16.wrap (x + 4) := rfl
  rw [laws_heldForkS.l0, if_pos (by omega), if_pos (by omega), hr, w1, w2, if_pos g0, if_pos g1]
  rw [laws_heldForkS.l1, if_pos (by omega), if_pos (by omega), if_pos (by omega), if_pos rfl, hr, if_pos g2, w3]
  rw [laws_heldForkS.l1, if_pos (by omega), if_pos (by omega), if_pos (by omega), if_neg (by omega), if_pos (by omega), hr, if_pos g3, w4]
  rw [laws_heldForkS.l1, if_pos (by omega), if_pos (by omega), if_pos (by omega), if_neg (by omega), if_neg (by omega), if_pos (by omega), hr, if_pos g4, w5]
  rw [laws_heldForkS.l1, if_neg (by omega), wi]
theorem heldF_loop (n : Nat) (hn : n ≤ 1048576) (d : Nat) : ∀ (i k : Nat), i + d = n → 5 * d < k → laws_heldForkS.l0 k (markedF n) (1 + 5 * i) (i : Int) = some ((1 : Int) + 5 * (n : Int)) := by
  have hl : (markedF n).length = n := by simp [markedF]
  induction d with
  | zero =>
    intro i k hd hk
    obtain ⟨k, rfl⟩ : ∃ m, k = m + 1 := ⟨k - 1, by omega⟩
    rw [laws_heldForkS.l0, if_neg (by omega), show i = n by omega]
  | succ d ih =>
    intro i k hd hk
    obtain ⟨k, rfl⟩ : ∃ m, k = m + 5 := ⟨k - 5, by omega⟩
    have hr : rd_T77 (markedF n) (i : Int) = mfork (1 + 5 * i) := by rw [rdT_get _ _ (by omega)]; simp [markedF]
    rw [heldF_one _ i _ k (by omega) (by omega) (by omega) (by omega) hr, show (1 : Int) + 5 * (i : Int) + 5 = 1 + 5 * ((i + 1 : Nat) : Int) by omega]
    exact ih (i + 1) k (by omega) (by omega)
theorem heldTree_ev (n : Nat) (hn : n ≤ 1048576) : Ev (fun k => laws_heldTree.f k (markedF n) 1) (1 + 5 * n) := by
  unfold laws_heldTree.f
  refine Ev.bind (a := (1 + 5 * n : Int)) ⟨5 * n + 1, fun k hk => ?_⟩ (Ev.congr (fun k => if_neg (by omega)) (Ev.now _))
  have := heldF_loop n hn n 0 k (by omega) (by omega)
  simpa [laws_heldForkS.f] using this
theorem i16_id {z : Int} (h0 : -32768 ≤ z) (h1 : z ≤ 32767) : IntKind.i16.wrap z = z := by
  unfold IntKind.wrap
  simp [IntKind.bits, IntKind.signed]
  omega
/-- A node with new indices. -/
def reN (A : List Int) (x : S77) : S77 := ⟨x.f0, x.f1, if x.f0 = 1 then ⟨rd A x.f2.f0, rd A x.f2.f1, rd A x.f2.f2⟩ else ⟨rd A x.f2.f0, x.f2.f1, x.f2.f2⟩⟩
theorem at_loop (T : List S77) (L : List Int) (n : Nat) (hn : n ≤ 60) (hL : L.length ≤ n) (hr : ∀ v ∈ L, 0 ≤ v ∧ v < (n : Int)) (hd : L.Nodup) (d : Nat) : ∀ (i : Nat) (A : List Int), i + d = L.length → A.length = n → (∀ j : Nat, j < i → (h : j < L.length) → rd A L[j] = (j : Int)) →
    ∃ A' : List Int, A'.length = n ∧ (∀ j : Nat, (h : j < L.length) → rd A' L[j] = (j : Int)) ∧ ∀ r, Ev (fun k => spec_l06Tree.l1 k L A' 0 T []) r → Ev (fun k => spec_l06Tree.l0 k L A (i : Int) T) r := by
  induction d with
  | zero =>
    intro i A hi hA hj
    refine ⟨A, hA, fun j h => hj j (by omega) h, fun r h => ?_⟩
    exact Ev.step (fun k => by rw [spec_l06Tree.l0, if_neg (by omega)]) h
  | succ d ih =>
    intro i A hi hA hj
    have hil : i < L.length := by omega
    have hv := hr L[i] (List.getElem_mem hil)
    obtain ⟨u, hu⟩ : ∃ u : Nat, L[i] = (u : Int) := ⟨L[i].toNat, by omega⟩
    obtain ⟨A', a1, a2, a3⟩ := ih (i + 1) (A.set u (i : Int)) (by omega) (by simpa using hA) (by
      intro j h1 h2
      have hw := hr L[j] (List.getElem_mem h2)
      obtain ⟨w, hw2⟩ : ∃ w : Nat, L[j] = (w : Int) := ⟨L[j].toNat, by omega⟩
      rw [hw2, rd_get _ _ (by simp; omega)]
      simp only [List.getElem_set]
      by_cases e : j = i
      · subst e; rw [if_pos (by omega)]
      · have ne : ¬ u = w := by
          intro z
          exact (List.pairwise_iff_getElem.mp hd j i h2 hil (by omega)) (show L[j] = L[i] by omega)
        rw [if_neg ne]
        have := hj j (by omega) h2
        rw [hw2, rd_get _ _ (by omega)] at this
        exact this)
    refine ⟨A', a1, a2, fun r h => ?_⟩
    refine Ev.step (fun k => by rw [spec_l06Tree.l0, if_pos (by omega), if_pos (by omega), rd_get _ _ hil, if_pos hv.1, if_pos (by omega), i16_id (by omega) (by omega), wrap64_id (n := (i : Int) + 1) (by omega) (by omega), hu, Int.toNat_natCast]) ?_
    exact a3 r h
theorem spec_re (T : List S77) (L A : List Int) (n : Nat) (hn : n ≤ 60) (hA : A.length = n) (x : S77) (ho : okF n x = true) (i : Int) (O : List S77) (hO : O.length ≤ 60) (r : List S77) (hr : Ev (fun k => spec_l06Tree.l1 k L A (wrap64 (i + 1)) T (O ++ [reN A x])) r) : Ev (fun k => spec_l06Tree.l2 k L A i 0 T O x.f0 x.f1 x.f2.f0 x.f2.f1 x.f2.f2) r := by
  obtain ⟨a0, a1, a2, a3⟩ := okF_is ho
  obtain ⟨p, q, ⟨a, b, c⟩⟩ := x
  simp only at a0 a1 a2 a3
  show Ev (fun k => spec_l06Tree.l2 k L A i 0 T O p q a b c) r
  have r0 : ∀ a b c : Int, rd [a, b, c] 0 = a := fun _ _ _ => rfl
  have r1 : ∀ a b c : Int, rd [a, b, c] 1 = b := fun _ _ _ => rfl
  have r2 : ∀ a b c : Int, rd [a, b, c] 2 = c := fun _ _ _ => rfl
  have w0 : wrap64 (0 + 1) = 1 := wrap64_id (by omega) (by omega)
  have w1 : wrap64 (1 + 1) = 2 := wrap64_id (by omega) (by omega)
  have w2 : wrap64 (2 + 1) = 3 := wrap64_id (by omega) (by omega)
  rcases a3 with rfl | rfl
  · refine Ev.step (fun k => by rw [spec_l06Tree.l2, if_pos rfl, if_pos (by omega), if_pos (by omega), r0, if_pos a0.1, if_pos (by omega), w0]) ?_
    simp only [aput, Int.reduceEq, if_false, if_true]
    refine Ev.step (fun k => by rw [spec_l06Tree.l2, if_pos rfl, if_pos (by omega), if_pos (by omega), r1, if_pos a1.1, if_pos (by omega), w1]) ?_
    simp only [aput, Int.reduceEq, if_false, if_true]
    refine Ev.step (fun k => by rw [spec_l06Tree.l2, if_pos rfl, if_pos (by omega), if_pos (by omega), r2, if_pos a2.1, if_pos (by omega), w2]) ?_
    simp only [aput, Int.reduceEq, if_false, if_true]
    refine Ev.step (fun k => by rw [spec_l06Tree.l2, if_pos rfl, if_neg (by omega), if_pos (by omega)]) ?_
    exact hr
  · refine Ev.step (fun k => by rw [spec_l06Tree.l2, if_neg (by omega), if_pos (by omega), if_pos (by omega), if_pos (by omega), r0, if_pos a0.1, if_pos (by omega), w0]) ?_
    simp only [aput, Int.reduceEq, if_false, if_true]
    refine Ev.step (fun k => by rw [spec_l06Tree.l2, if_neg (by omega), if_neg (by omega), if_pos (by omega)]) ?_
    exact hr
theorem spec_tree (T : List S77) (L A : List Int) (hn : T.length ≤ 60) (hA : A.length = T.length) (hL : L.length ≤ T.length) (hr : ∀ v ∈ L, 0 ≤ v ∧ v < (T.length : Int)) (ho : ∀ j : Nat, j < T.length → okF T.length (rd_T77 T (j : Int)) = true) (d : Nat) : ∀ i : Nat, i + d = L.length → Ev (fun k => spec_l06Tree.l1 k L A (i : Int) T ((List.range i).map (fun j : Nat => reN A (rd_T77 T (rd L (j : Int)))))) ((List.range L.length).map (fun j : Nat => reN A (rd_T77 T (rd L (j : Int))))) := by
  induction d with
  | zero =>
    intro i hi
    obtain rfl : i = L.length := by omega
    refine Ev.step (fun k => by rw [spec_l06Tree.l1, if_neg (by omega)]) ?_
    exact Ev.now _
  | succ d ih =>
    intro i hi
    have hil : i < L.length := by omega
    have hv := hr L[i] (List.getElem_mem hil)
    have hok : okF T.length (rd_T77 T L[i]) = true := by
      have := ho L[i].toNat (by omega)
      rwa [show ((L[i].toNat : Nat) : Int) = L[i] by omega] at this
    have := ih (i + 1) (by omega)
    rw [List.range_succ, List.map_append] at this
    refine Ev.step (fun k => by rw [spec_l06Tree.l1, if_pos (by omega), if_pos (by omega), rd_get _ _ hil, if_pos hv.1, if_pos (by omega)]) ?_
    refine spec_re T L A T.length hn hA (rd_T77 T L[i]) hok (i : Int) _ (by simp; omega) _ ?_
    rw [wrap64_id (n := (i : Int) + 1) (by omega) (by omega)]
    simp only [List.map_cons, List.map_nil, rd_get _ _ hil] at this
    exact this
theorem index16 (L : List Int) (v : Int) (hL : L.length ≤ 60) (d : Nat) : ∀ i : Nat, i + d = L.length → (∃ j, ∃ h : j < L.length, i ≤ j ∧ L[j] = v) → ∃ j, ∃ h : j < L.length, L[j] = v ∧ ∀ k, d < k → slices_Index_int16_int16.l0 k L v (L.length : Int) (i : Int) = some (j : Int) := by
  induction d with
  | zero => intro i hi ⟨j, h, h1, _⟩; omega
  | succ d ih =>
    intro i hi ⟨j, h, h1, h2⟩
    have hil : i < L.length := by omega
    by_cases c : v = L[i]
    · refine ⟨i, hil, c.symm, fun k hk => ?_⟩
      obtain ⟨k, rfl⟩ : ∃ m, k = m + 1 := ⟨k - 1, by omega⟩
      rw [slices_Index_int16_int16.l0, if_pos (by omega), if_pos (by omega), if_pos (by omega), rd_get _ _ hil, if_pos c]
    · obtain ⟨j2, h3, h4, hk2⟩ := ih (i + 1) (by omega) ⟨j, h, by
        by_cases e : i = j
        · subst e; exact absurd h2.symm c
        · omega, h2⟩
      refine ⟨j2, h3, h4, fun k hk => ?_⟩
      obtain ⟨k, rfl⟩ : ∃ m, k = m + 1 := ⟨k - 1, by omega⟩
      rw [slices_Index_int16_int16.l0, if_pos (by omega), if_pos (by omega), if_pos (by omega), rd_get _ _ hil, if_neg c, wrap64_id (n := (i : Int) + 1) (by omega) (by omega)]
      exact hk2 k (by omega)
theorem clo_ev (L A : List Int) (hL : L.length ≤ 60) (hA : ∀ j : Nat, (h : j < L.length) → rd A L[j] = (j : Int)) (v : Int) (hv : v ∈ L) : Ev (fun k => impl_Tree_reachedOnly_1.f k v L) (rd A v) := by
  obtain ⟨j0, h0, e0⟩ := List.mem_iff_getElem.mp hv
  obtain ⟨j, h, e, hk⟩ := index16 L v hL L.length 0 (by omega) ⟨j0, h0, by omega, e0⟩
  have e2 : rd A v = (j : Int) := by rw [← e]; exact hA j h
  refine Ev.congr (fun k => by unfold impl_Tree_reachedOnly_1.f; rfl) ?_
  refine Ev.bind (show Ev (fun k => slices_Index_int16_int16.f k L v) (j : Int) from ⟨L.length + 1, fun k h2 => hk k (by omega)⟩) ?_
  rw [e2, i16_id (by omega) (by omega)]
  exact Ev.now _
theorem impl_re (T : List S77) (L A : List Int) (n : Nat) (hL : L.length ≤ 60) (hA : ∀ j : Nat, (h : j < L.length) → rd A L[j] = (j : Int)) (x : S77) (ho : okF n x = true) (hc : ∀ w ∈ wl x, w ∈ L) (i : Nat) (O : List S77) (hO : i < O.length) (m : Int) (r : List S77) (hr : Ev (fun k => impl_Tree_renamed_c108_2.l0 k (O.set i (reN A x)) L m (wrap64 ((i : Int) + 1)) L T) r) : Ev (fun k => impl_Tree_renamed_c108_2.l1 k O (i : Int) L m (i : Int) ((wl x).length : Int) 0 L T x.f0 x.f1 x.f2.f0 x.f2.f1 x.f2.f2) r := by
  obtain ⟨a0, a1, a2, a3⟩ := okF_is ho
  obtain ⟨p, q, ⟨a, b, c⟩⟩ := x
  simp only at a0 a1 a2 a3
  show Ev (fun k => impl_Tree_renamed_c108_2.l1 k O (i : Int) L m (i : Int) ((wl (⟨p, q, ⟨a, b, c⟩⟩ : S77)).length : Int) 0 L T p q a b c) r
  have r0 : ∀ a b c : Int, rd [a, b, c] 0 = a := fun _ _ _ => rfl
  have r1 : ∀ a b c : Int, rd [a, b, c] 1 = b := fun _ _ _ => rfl
  have r2 : ∀ a b c : Int, rd [a, b, c] 2 = c := fun _ _ _ => rfl
  have w0 : wrap64 (0 + 1) = 1 := wrap64_id (by omega) (by omega)
  have w1 : wrap64 (1 + 1) = 2 := wrap64_id (by omega) (by omega)
  have w2 : wrap64 (2 + 1) = 3 := wrap64_id (by omega) (by omega)
  rcases a3 with rfl | rfl
  · have hw : wl (⟨1, q, ⟨a, b, c⟩⟩ : S77) = [a, b, c] := by unfold wl; rw [if_neg (show ¬ (1 : Int) = 2 by decide)]
    rw [hw] at hc
    rw [hw]
    refine Ev.step (fun k => by rw [impl_Tree_renamed_c108_2.l1, if_pos (by simp), if_pos (by omega), if_pos (by omega), r0, w0]) ?_
    refine Ev.bind (clo_ev L A hL hA a (hc a (by simp))) ?_
    simp only [aput, Int.reduceEq, if_false, if_true]
    refine Ev.step (fun k => by rw [impl_Tree_renamed_c108_2.l1, if_pos (by simp), if_pos (by omega), if_pos (by omega), r1, w1]) ?_
    refine Ev.bind (clo_ev L A hL hA b (hc b (by simp))) ?_
    simp only [aput, Int.reduceEq, if_false, if_true]
    refine Ev.step (fun k => by rw [impl_Tree_renamed_c108_2.l1, if_pos (by simp), if_pos (by omega), if_pos (by omega), r2, w2]) ?_
    refine Ev.bind (clo_ev L A hL hA c (hc c (by simp))) ?_
    simp only [aput, Int.reduceEq, if_false, if_true]
    refine Ev.step (fun k => by rw [impl_Tree_renamed_c108_2.l1, if_neg (by simp), if_pos (by omega), if_pos (by omega), Int.toNat_natCast]) ?_
    exact hr
  · have hw : wl (⟨2, q, ⟨a, b, c⟩⟩ : S77) = [a] := by unfold wl; rw [if_pos rfl]
    rw [hw] at hc
    rw [hw]
    refine Ev.step (fun k => by rw [impl_Tree_renamed_c108_2.l1, if_pos (by simp), if_pos (by omega), if_pos (by omega), r0, w0]) ?_
    refine Ev.bind (clo_ev L A hL hA a (hc a (by simp))) ?_
    simp only [aput, Int.reduceEq, if_false, if_true]
    refine Ev.step (fun k => by rw [impl_Tree_renamed_c108_2.l1, if_neg (by simp), if_pos (by omega), if_pos (by omega), Int.toNat_natCast]) ?_
    exact hr
theorem impl_tree (T : List S77) (L A : List Int) (hn : T.length ≤ 60) (hg : Good T T.length L) (hA : ∀ j : Nat, (h : j < L.length) → rd A L[j] = (j : Int)) (ho : ∀ j : Nat, j < T.length → okF T.length (rd_T77 T (j : Int)) = true) (d : Nat) : ∀ i : Nat, i + d = L.length → Ev (fun k => impl_Tree_renamed_c108_2.l0 k (built (fun j : Nat => reN A (rd_T77 T (rd L (j : Int)))) z77 L.length i) L (L.length : Int) (i : Int) L T) ((List.range L.length).map (fun j : Nat => reN A (rd_T77 T (rd L (j : Int))))) := by
  obtain ⟨g1, g2, g3, g4⟩ := hg
  induction d with
  | zero =>
    intro i hi
    obtain rfl : i = L.length := by omega
    refine Ev.step (fun k => by rw [impl_Tree_renamed_c108_2.l0, if_neg (by omega), built_all]) ?_
    exact Ev.now _
  | succ d ih =>
    intro i hi
    have hil : i < L.length := by omega
    have hv := g2 L[i] (List.getElem_mem hil)
    have hok : okF T.length (rd_T77 T L[i]) = true := by
      have := ho L[i].toNat (by omega)
      rwa [show ((L[i].toNat : Nat) : Int) = L[i] by omega] at this
    have := ih (i + 1) (by omega)
    rw [← built_set _ _ _ _ (by omega), rd_get _ _ hil] at this
    refine Ev.step (fun k => by rw [impl_Tree_renamed_c108_2.l0, if_pos (by omega), if_pos (by omega), if_pos (by omega), rd_get _ _ hil, if_pos hv.1, if_pos (by omega)]) ?_
    refine Ev.bind (show Ev (fun _ => impl_Fork_ways.f (rd_T77 T L[i]).f0 (rd_T77 T L[i]).f1 (rd_T77 T L[i]).f2.f0 (rd_T77 T L[i]).f2.f1 (rd_T77 T L[i]).f2.f2) (wl (rd_T77 T L[i])) from ⟨0, fun k _ => rfl⟩) ?_
    refine impl_re T L A T.length (by omega) hA (rd_T77 T L[i]) hok (g4 L[i] (List.getElem_mem hil)) i _ (by rw [built_length _ _ _ _ (by omega)]; exact hil) _ _ ?_
    rw [wrap64_id (n := (i : Int) + 1) (by omega) (by omega)]
    exact this
theorem reached_both (T : List S77) (hw : ∀ i : Nat, i < T.length → nar (rd_T77 T (i : Int))) (hl : T.length ≤ 17592186044416) : ∃ r : List S77 × Int, r.1.length ≤ 60 ∧ Ev (fun k => spec_ReachedTree.f k T) r ∧ Ev (fun k => impl_ReachedTree.f k T) r := by
  obtain ⟨b, hb, es, ei⟩ := ok_both2 T hw hl
  cases b with
  | false =>
    refine ⟨([], 1), by simp, ?_, ?_⟩
    · refine Ev.congr (fun k => by unfold spec_ReachedTree.f; rfl) (Ev.bind es ?_)
      exact Ev.now _
    · refine Ev.congr (fun k => by unfold impl_ReachedTree.f; rfl) (Ev.bind ei ?_)
      exact Ev.now _
  | true =>
    obtain ⟨⟨n1, n2⟩, ho⟩ := hb rfl
    obtain ⟨L, hg, fs, fi⟩ := found_ev T n1 n2 ho
    obtain ⟨g1, g2, g3, g4⟩ := hg
    obtain ⟨A, a1, a2, a3⟩ := at_loop T L T.length n2 g1 g2 g3 L.length 0 (List.replicate T.length 0) (by omega) (by simp) (fun j h => by omega)
    refine ⟨((List.range L.length).map (fun j : Nat => reN A (rd_T77 T (rd L (j : Int)))), 0), by simp; omega, ?_, ?_⟩
    · refine Ev.congr (fun k => by unfold spec_ReachedTree.f; rfl) (Ev.bind es ?_)
      refine Ev.congr (fun k => if_pos rfl) (Ev.bind fs ?_)
      refine Ev.bind (show Ev (fun k => spec_l06Tree.f k T L) _ from ?_) (Ev.now _)
      refine Ev.congr (fun k => by unfold spec_l06Tree.f; rw [if_pos (by omega), if_pos (by omega), Int.toNat_natCast]) ?_
      exact a3 _ (spec_tree T L A n2 a1 g1 g2 ho L.length 0 (by omega))
    · refine Ev.congr (fun k => by unfold impl_ReachedTree.f; rfl) (Ev.bind ei ?_)
      refine Ev.congr (fun k => if_pos rfl) ?_
      refine Ev.bind (show Ev (fun k => impl_Tree_reachedOnly.f k T) ((List.range L.length).map (fun j : Nat => reN A (rd_T77 T (rd L (j : Int))))) from ?_) (Ev.now _)
      refine Ev.congr (fun k => by unfold impl_Tree_reachedOnly.f; rfl) (Ev.bind fi ?_)
      refine Ev.bind (show Ev (fun k => impl_Tree_renamed_c108_2.f k T L L) _ from ?_) (Ev.now _)
      refine Ev.congr (fun k => by unfold impl_Tree_renamed_c108_2.f; rw [if_pos (by omega), if_pos (by omega), Int.toNat_natCast]) ?_
      have := impl_tree T L A n2 ⟨g1, g2, g3, g4⟩ a2 ho L.length 0 (by omega)
      rw [built_zero] at this
      exact this
theorem FnExactReachedTree : laws_FnExactReachedTree.Pure := by
  intro x ⟨hx, hz⟩
  obtain ⟨r, hr, h1⟩ := szTree_eq x.f0 1048576 (by omega) (by omega) (by omega)
  apply Ev.rounds (r := true)
  refine Ev.congr (fun k => by unfold laws_FnExactReachedTree.f; rw [hr]) ?_
  by_cases c : r < 0
  · exact Ev.congr (fun k => if_pos c) (Ev.now _)
  refine Ev.congr (fun k => if_neg c) ?_
  have hn : (cvT x.f0).length ≤ 17592186044416 := by rw [cvT_length]; omega
  obtain ⟨⟨q1, q2⟩, m1, es, ei⟩ := reached_both (cvT x.f0) (cvT_nar x.f0 hz) hn
  have tv := toTree_ev x.f0 (by omega)
  have tq := eqTree_ev (cvT x.f0) (by omega)
  have tm := markTree_ev (cvT x.f0) (by rw [cvT_length]; omega)
  simp only at m1
  repeat' (first
    | (refine Ev.bind tv ?_; try dsimp only)
    | (refine Ev.bind es ?_; try dsimp only)
    | (refine Ev.bind ei ?_; try dsimp only)
    | (refine Ev.bind tq ?_; try dsimp only)
    | (refine Ev.bind tm ?_; try dsimp only)
    | (refine Ev.bind (eqTree_ev _ (by omega)) ?_; try dsimp only)
    | (refine Ev.bind (markTree_ev _ (by omega)) ?_; try dsimp only)
    | (refine Ev.bind (heldTree_ev _ (by omega)) ?_; try dsimp only)
    | exact ⟨0, fun k _ => rfl⟩
    | (refine Ev.congr (fun k => if_pos rfl) ?_; try dsimp only)
    | (refine Ev.congr (fun k => if_neg (by simp; done)) ?_; try dsimp only)
    | (refine Ev.congr (fun k => if_neg (by omega)) ?_; try dsimp only)
    | (refine Ev.congr (fun k => if_pos (by simp; done)) ?_; try dsimp only)
    | (refine Ev.congr (fun k => if_pos (by omega)) ?_; try dsimp only)
    | (refine Ev.step (fun k => by rw [laws_FnExactReachedTree.j0]) ?_; try dsimp only)
    | (refine Ev.step (fun k => by rw [laws_FnExactReachedTree.j1]) ?_; try dsimp only)
    | (refine Ev.step (fun k => by rw [laws_FnExactReachedTree.j2]) ?_; try dsimp only)
    )
end Go.Proofs.Ytlccefmimpmgjaa.Pure
