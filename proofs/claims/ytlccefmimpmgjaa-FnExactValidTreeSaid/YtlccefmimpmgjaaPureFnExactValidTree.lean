/- The program's ValidTree says what the reference's says, for every tree, and leaves it as it was. -/
import Derived.Test.YtlccefmimpmgjaaMFnExactValidTreex4
import Derived.Test.YtlccefmimpmgjaaMOpen
namespace Go.Proofs.Ytlccefmimpmgjaa.Pure
open Go.RowKit Go.Proofs.Ytlccefmimpmgjaa.MFnExactValidTree Go.Proofs.Ytlccefmimpmgjaa.MOpen Go.Proofs.YtlccefmimpmgjaaW.PrintWords Go.Proofs.YtlccefmimpmgjaaW.PrintLast Go.Proofs.YtlccefmimpmgjaaW.PrintMore
set_option linter.unusedVariables false
set_option linter.unusedSimpArgs false
theorem wrap64_id {n : Int} (h0 : -9223372036854775808 ≤ n) (h1 : n ≤ 9223372036854775807) : wrap64 n = n := by
  unfold wrap64; omega
theorem rd_nat (xs : List Int) (i : Nat) : rd xs (i : Int) = xs.getD i 0 := by simp [rd]
theorem rd_get (xs : List Int) (i : Nat) (h : i < xs.length) : rd xs (i : Int) = xs[i] := by simp [rd, h]
theorem ev_k {α : Type} {f : Nat → Option α} {r : α} (n : Nat) (h : ∀ k, n ≤ k → f k = some r) : Ev f r := ⟨n, h⟩
/-- A list of n elements of which the first i are told. -/
def built {α : Type} (g : Nat → α) (z : α) (n i : Nat) : List α := (List.range i).map g ++ List.replicate (n - i) z
theorem built_zero {α : Type} (g : Nat → α) (z : α) (n : Nat) : built g z n 0 = List.replicate n z := by simp [built]
theorem built_all {α : Type} (g : Nat → α) (z : α) (n : Nat) : built g z n n = (List.range n).map g := by simp [built]
theorem built_length {α : Type} (g : Nat → α) (z : α) (n i : Nat) (h : i ≤ n) : (built g z n i).length = n := by simp [built]; omega
theorem built_set {α : Type} (g : Nat → α) (z : α) (n i : Nat) (h : i < n) : (built g z n i).set i (g i) = built g z n (i + 1) := by
  unfold built
  rw [List.set_append_right _ _ (by simp), show n - i = (n - (i + 1)) + 1 by omega, List.replicate_succ]
  simp [List.range_succ]
/-- A fork's moves, as the conversion leaves them: the same numbers in the other type. -/
def cvF (x : S129) : S77 := ⟨x.f0, x.f1, ⟨x.f2.f0, x.f2.f1, x.f2.f2⟩⟩
/-- A whole list of moves in the other type. -/
def cvT (xs : List S129) : List S77 := (List.range xs.length).map (fun j : Nat => cvF (rd_T129 xs (j : Int)))
theorem cvT_length (xs : List S129) : (cvT xs).length = xs.length := by simp [cvT]
theorem toInt16A3_ev (a b c : Int) (k : Nat) (h : 4 ≤ k) : laws_toInt16A3.f k a b c = some (a, b, c) := by
  obtain ⟨k, rfl⟩ : ∃ m, k = m + 4 := ⟨k - 4, by omega⟩
  unfold laws_toInt16A3.f
  simp [laws_toInt16A3.l0, wrap64, aput, rd]
theorem toFork_ev (a b c d e : Int) (k : Nat) (h : 4 ≤ k) : laws_toFork.f k a b c d e = some (a, b, c, d, e) := by
  obtain ⟨k, rfl⟩ : ∃ m, k = m + 4 := ⟨k - 4, by omega⟩
  unfold laws_toFork.f
  rw [toInt16A3_ev _ _ _ _ (by omega)]; rfl
theorem toForkS_loop (xs : List S129) (hn : xs.length ≤ 4611686018427387904) (d : Nat) : ∀ (i k : Nat), i + d = xs.length → d + 4 < k → laws_toForkS.l0 k xs (built (fun j : Nat => cvF (rd_T129 xs (j : Int))) z77 xs.length i) (i : Int) = some (cvT xs) := by
  induction d with
  | zero =>
    intro i k hd hk
    obtain ⟨k, rfl⟩ : ∃ m, k = m + 1 := ⟨k - 1, by omega⟩
    simp only [laws_toForkS.l0]; rw [if_neg (by omega), show i = xs.length by omega, built_all]; rfl
  | succ d ih =>
    intro i k hd hk
    obtain ⟨k, rfl⟩ : ∃ m, k = m + 1 := ⟨k - 1, by omega⟩
    simp only [laws_toForkS.l0]; rw [if_pos (by omega), if_pos (by omega), toFork_ev _ _ _ _ _ _ (by omega)]
    simp only [Option.bind_some]
    rw [if_pos (by rw [built_length _ _ _ _ (by omega)]; omega), wrap64_id (by omega) (by omega), Int.toNat_natCast]
    have hset : (built (fun j : Nat => cvF (rd_T129 xs (j : Int))) z77 xs.length i).set i ⟨(rd_T129 xs (i : Int)).f0, (rd_T129 xs (i : Int)).f1, ⟨(rd_T129 xs (i : Int)).f2.f0, (rd_T129 xs (i : Int)).f2.f1, (rd_T129 xs (i : Int)).f2.f2⟩⟩ = built (fun j : Nat => cvF (rd_T129 xs (j : Int))) z77 xs.length (i + 1) := built_set (fun j : Nat => cvF (rd_T129 xs (j : Int))) z77 xs.length i (by omega)
    rw [hset]
    exact ih (i + 1) k (by omega) (by omega)
theorem toTree_ev (xs : List S129) (hn : xs.length ≤ 17592186044416) : Ev (fun k => laws_toTree.f k xs) (cvT xs) := by
  refine ⟨xs.length + 6, fun k hk => ?_⟩
  show laws_toTree.f k xs = some (cvT xs)
  unfold laws_toTree.f laws_toForkS.f
  rw [if_pos (by omega), if_pos (by simp; omega)]
  have : laws_toForkS.l0 k xs (built (fun j : Nat => cvF (rd_T129 xs (j : Int))) z77 xs.length 0) 0 = some (cvT xs) := toForkS_loop xs (by omega) xs.length 0 k (by omega) (by omega)
  rw [built_zero] at this
  rw [Int.toNat_natCast, this]; rfl
theorem eqInt16A3_same (a b c : Int) (k : Nat) (h : 4 ≤ k) : laws_eqInt16A3.f k a b c a b c = some true := by
  obtain ⟨k, rfl⟩ : ∃ m, k = m + 4 := ⟨k - 4, by omega⟩
  unfold laws_eqInt16A3.f
  simp [laws_eqInt16A3.l0, wrap64, rd]
theorem eqFork_same (a b c d e : Int) (k : Nat) (h : 4 ≤ k) : laws_eqFork.f k a b c d e a b c d e = some true := by
  obtain ⟨k, rfl⟩ : ∃ m, k = m + 4 := ⟨k - 4, by omega⟩
  unfold laws_eqFork.f
  rw [if_pos rfl, if_pos rfl, eqInt16A3_same _ _ _ _ (by omega)]; rfl
theorem eqForkS_loop (xs : List S77) (hn : xs.length ≤ 4611686018427387904) (d : Nat) : ∀ (i k : Nat), i + d = xs.length → d + 4 < k → laws_eqForkS.l0 k xs xs (i : Int) = some true := by
  induction d with
  | zero =>
    intro i k hd hk
    obtain ⟨k, rfl⟩ : ∃ m, k = m + 1 := ⟨k - 1, by omega⟩
    simp only [laws_eqForkS.l0]; rw [if_neg (by omega)]
  | succ d ih =>
    intro i k hd hk
    obtain ⟨k, rfl⟩ : ∃ m, k = m + 1 := ⟨k - 1, by omega⟩
    simp only [laws_eqForkS.l0]; rw [if_pos (by omega), if_pos (by omega), if_pos (by omega), eqFork_same _ _ _ _ _ _ (by omega)]
    simp only [Option.bind_some]
    rw [if_pos trivial, wrap64_id (by omega) (by omega)]
    exact ih (i + 1) k (by omega) (by omega)
theorem eqTree_ev (xs : List S77) (hn : xs.length ≤ 4611686018427387904) : Ev (fun k => laws_eqTree.f k xs xs) true := by
  refine ⟨xs.length + 6, fun k hk => ?_⟩
  show laws_eqTree.f k xs xs = some true
  unfold laws_eqTree.f laws_eqForkS.f
  have h : laws_eqForkS.l0 k xs xs 0 = some true := eqForkS_loop xs hn xs.length 0 k (by omega) (by omega)
  rw [if_pos rfl, h]; rfl
theorem szTree_eq (l : List S129) (a : Int) (hl : l.length ≤ 17592186044416) (h0 : 0 ≤ a) (h1 : a ≤ 1048576) : ∃ r, laws_szTree.f l a = some r ∧ (r < 0 ∨ (r ≤ a ∧ 0 ≤ r)) := by
  unfold laws_szTree.f laws_szForkS.f
  rw [wrap64_id (by omega) (by omega)]
  by_cases c : a - (l.length : Int) < 0
  · exact ⟨-1, by simp [c], by omega⟩
  · exact ⟨a - l.length, by simp [c], by omega⟩
/-- A node that a tree with n nodes may have. -/
def okF (n : Int) (x : S77) : Bool := decide (0 ≤ x.f2.f0 ∧ x.f2.f0 < n ∧ 0 ≤ x.f2.f1 ∧ x.f2.f1 < n ∧ 0 ≤ x.f2.f2 ∧ x.f2.f2 < n ∧ ((x.f0 = 1 ∧ x.f1 = 0) ∨ (x.f0 = 2 ∧ -1 ≤ x.f1 ∧ x.f1 ≤ 1 ∧ x.f2.f1 = 0 ∧ x.f2.f2 = 0)))
/-- The node's ways are 16-bit numbers. -/
def nar (x : S77) : Prop := (-32768 ≤ x.f2.f0 ∧ x.f2.f0 ≤ 32767) ∧ (-32768 ≤ x.f2.f1 ∧ x.f2.f1 ≤ 32767) ∧ (-32768 ≤ x.f2.f2 ∧ x.f2.f2 ≤ 32767)
theorem l00In_some (a b c : Int) : spec_l00In.f a b c = some (decide (b ≤ a ∧ a ≤ c)) := by
  unfold spec_l00In.f
  split <;> simp <;> omega
theorem okF_spec (k : Nat) (n i : Int) (xs : List S77) (h0 : 0 ≤ i) (h1 : i < (xs.length : Int)) (hn : 1 ≤ n ∧ n ≤ 60) (hw : nar (rd_T77 xs i)) :
    spec_l06Ok.l1 (k + 4) n i 0 xs = if okF n (rd_T77 xs i) = true then spec_l06Ok.l0 k n (wrap64 (i + 1)) xs else some false := by
  obtain ⟨⟨a1, a2⟩, ⟨b1, b2⟩, ⟨c1, c2⟩⟩ := hw
  have hk : ∀ k', spec_l06Ok.l1 (k' + 1) n i 3 xs = (if ((rd_T77 xs i).f0) = 1 then (if ((rd_T77 xs i).f1) = 0 then (spec_l06Ok.l0 k' n (wrap64 (i + 1)) xs) else (some false)) else (if ((rd_T77 xs i).f0) = 2 then (if ((rd_T77 xs i).f1) < (-1) then (some false) else (if ((rd_T77 xs i).f1) > 1 then (some false) else (if ((rd_T77 xs i).f2.f1) = 0 then (if ((rd_T77 xs i).f2.f2) = 0 then (spec_l06Ok.l0 k' n (wrap64 (i + 1)) xs) else (some false)) else (some false)))) else (some false))) := by
    intro k'
    simp only [spec_l06Ok.l1, if_pos h0, if_pos h1]; rw [if_neg (by omega)]
  have h2 : ∀ k', spec_l06Ok.l1 (k' + 1) n i 2 xs = (if 0 ≤ (rd_T77 xs i).f2.f2 ∧ (rd_T77 xs i).f2.f2 < n then spec_l06Ok.l1 k' n i 3 xs else some false) := by
    intro k'
    simp only [spec_l06Ok.l1, if_pos h0, if_pos h1, l00In_some, Option.bind_some]
    rw [if_pos (by omega), if_neg (by omega), if_neg (by omega), if_pos trivial, wrap64_id (by omega) (by omega), wrap64_id (by omega) (by omega)]
    by_cases c : 0 ≤ (rd_T77 xs i).f2.f2 ∧ (rd_T77 xs i).f2.f2 < n
    · rw [if_pos c, if_pos (by simp; omega)]; rfl
    · rw [if_neg c, if_neg (by simp; omega)]
  have h3 : ∀ k', spec_l06Ok.l1 (k' + 1) n i 1 xs = (if 0 ≤ (rd_T77 xs i).f2.f1 ∧ (rd_T77 xs i).f2.f1 < n then spec_l06Ok.l1 k' n i 2 xs else some false) := by
    intro k'
    simp only [spec_l06Ok.l1, if_pos h0, if_pos h1, l00In_some, Option.bind_some]
    rw [if_pos (by omega), if_neg (by omega), if_pos trivial, wrap64_id (by omega) (by omega), wrap64_id (by omega) (by omega)]
    by_cases c : 0 ≤ (rd_T77 xs i).f2.f1 ∧ (rd_T77 xs i).f2.f1 < n
    · rw [if_pos c, if_pos (by simp; omega)]; rfl
    · rw [if_neg c, if_neg (by simp; omega)]
  have h4 : ∀ k', spec_l06Ok.l1 (k' + 1) n i 0 xs = (if 0 ≤ (rd_T77 xs i).f2.f0 ∧ (rd_T77 xs i).f2.f0 < n then spec_l06Ok.l1 k' n i 1 xs else some false) := by
    intro k'
    simp only [spec_l06Ok.l1, if_pos h0, if_pos h1, l00In_some, Option.bind_some]
    rw [if_pos (by omega), if_pos trivial, wrap64_id (by omega) (by omega), wrap64_id (by omega) (by omega)]
    by_cases c : 0 ≤ (rd_T77 xs i).f2.f0 ∧ (rd_T77 xs i).f2.f0 < n
    · rw [if_pos c, if_pos (by simp; omega)]; rfl
    · rw [if_neg c, if_neg (by simp; omega)]
  rw [h4, h3, h2, hk]
  unfold okF
  generalize spec_l06Ok.l0 k n (wrap64 (i + 1)) xs = Z
  simp only [decide_eq_true_eq]
  repeat' split
  all_goals first | rfl | omega
theorem okF_impl (k : Nat) (n : Int) (x : S77) (hk : 4 ≤ k) (hw : nar x) : impl_forkOk.f k x.f0 x.f1 x.f2.f0 x.f2.f1 x.f2.f2 n = some (okF n x) := by
  obtain ⟨k, rfl⟩ : ∃ m, k = m + 4 := ⟨k - 4, by omega⟩
  obtain ⟨⟨a1, a2⟩, ⟨b1, b2⟩, ⟨c1, c2⟩⟩ := hw
  have hd : ∀ z : Int, impl_isDigit.f z = some (decide (-1 ≤ z ∧ z ≤ 1)) := by
    intro z; unfold impl_isDigit.f; split <;> simp <;> omega
  obtain ⟨p, q, ⟨a, b, c⟩⟩ := x
  simp only at a1 a2 b1 b2 c1 c2
  have w1 : wrap64 a = a := wrap64_id (by omega) (by omega)
  have w2 : wrap64 b = b := wrap64_id (by omega) (by omega)
  have w3 : wrap64 c = c := wrap64_id (by omega) (by omega)
  have t3 : ∀ k', impl_forkOk.l0 (k' + 1) n 3 a b c p q a b c = (if p = 1 then (some (q == 0)) else (if p = 2 then (if -1 ≤ q ∧ q ≤ 1 then (if b = 0 then (some (c == 0)) else (some false)) else (some false)) else (some false))) := by
    intro k'
    rw [impl_forkOk.l0, if_neg (by omega), hd]; simp
  have t2 : ∀ k', impl_forkOk.l0 (k' + 1) n 2 a b c p q a b c = (if c < 0 then some false else if c ≥ n then some false else impl_forkOk.l0 k' n 3 a b c p q a b c) := by
    intro k'
    rw [impl_forkOk.l0, if_pos (by omega), if_neg (by omega), if_neg (by omega), if_pos rfl, w3]; rfl
  have t1 : ∀ k', impl_forkOk.l0 (k' + 1) n 1 a b c p q a b c = (if b < 0 then some false else if b ≥ n then some false else impl_forkOk.l0 k' n 2 a b c p q a b c) := by
    intro k'
    rw [impl_forkOk.l0, if_pos (by omega), if_neg (by omega), if_pos rfl, w2]; rfl
  have t0 : ∀ k', impl_forkOk.l0 (k' + 1) n 0 a b c p q a b c = (if a < 0 then some false else if a ≥ n then some false else impl_forkOk.l0 k' n 1 a b c p q a b c) := by
    intro k'
    rw [impl_forkOk.l0, if_pos (by omega), if_pos rfl, w1]; rfl
  unfold impl_forkOk.f okF
  simp only
  rw [t0, t1, t2, t3]
  repeat' split
  all_goals refine congrArg some ?_
  all_goals rw [Bool.eq_iff_iff]
  all_goals simp only [beq_iff_eq, decide_eq_true_eq, Bool.false_eq_true, false_iff]
  all_goals omega
theorem ok_loop (n : Nat) (xs : List S77) (hl : xs.length = n) (hn : 1 ≤ n ∧ n ≤ 60) (hw : ∀ i : Nat, i < n → nar (rd_T77 xs (i : Int))) (d : Nat) : ∀ i : Nat, i + d = n → ∃ b r, (decide (r ≥ 0) = !b) ∧ ∀ k, 5 * d + 6 < k → spec_l06Ok.l0 k (n : Int) (i : Int) xs = some b ∧ impl_Fork_c66_1.l0 k xs (n : Int) (i : Int) xs = some r := by
  induction d with
  | zero =>
    intro i hi
    refine ⟨true, -1, by decide, fun k hk => ?_⟩
    obtain ⟨k, rfl⟩ : ∃ m, k = m + 1 := ⟨k - 1, by omega⟩
    simp only [spec_l06Ok.l0, impl_Fork_c66_1.l0]; rw [if_neg (by omega), if_neg (by omega)]; exact ⟨rfl, rfl⟩
  | succ d ih =>
    intro i hi
    have hs : ∀ k, 5 * (d + 1) + 6 < k → ∃ m, k = m + 4 + 1 ∧ 5 * d + 6 < m := fun k hk => ⟨k - 5, by omega, by omega⟩
    have hv : ∀ m : Nat, impl_ValidTree_1.f (m + 4) (rd_T77 xs (i : Int)).f0 (rd_T77 xs (i : Int)).f1 (rd_T77 xs (i : Int)).f2.f0 (rd_T77 xs (i : Int)).f2.f1 (rd_T77 xs (i : Int)).f2.f2 xs = some (!okF n (rd_T77 xs (i : Int))) := by
      intro m
      unfold impl_ValidTree_1.f
      rw [okF_impl _ _ _ (by omega) (hw i (by omega)), hl]; rfl
    have e1 : ∀ m : Nat, spec_l06Ok.l0 (m + 4 + 1) (n : Int) (i : Int) xs = if okF n (rd_T77 xs (i : Int)) = true then spec_l06Ok.l0 m n ((i + 1 : Nat) : Int) xs else some false := by
      intro m
      rw [spec_l06Ok.l0, if_pos (by omega), if_pos (by omega), if_pos (by omega), okF_spec _ _ _ _ (by omega) (by omega) (by omega) (hw i (by omega)), wrap64_id (by omega) (by omega)]; rfl
    have e2 : ∀ m : Nat, impl_Fork_c66_1.l0 (m + 4 + 1) xs (n : Int) (i : Int) xs = if okF n (rd_T77 xs (i : Int)) = true then impl_Fork_c66_1.l0 (m + 4) xs n ((i + 1 : Nat) : Int) xs else some (i : Int) := by
      intro m
      rw [impl_Fork_c66_1.l0, if_pos (by omega), if_pos (by omega), if_pos (by omega), hv, wrap64_id (by omega) (by omega)]
      cases okF n (rd_T77 xs (i : Int)) <;> rfl
    by_cases c : okF n (rd_T77 xs (i : Int)) = true
    · obtain ⟨b, r, hb, hk⟩ := ih (i + 1) (by omega)
      refine ⟨b, r, hb, fun k h => ?_⟩
      obtain ⟨m, rfl, hm⟩ := hs k h
      rw [e1, e2, if_pos c, if_pos c]
      exact ⟨(hk m hm).1, (hk (m + 4) (by omega)).2⟩
    · refine ⟨false, (i : Int), by simp, fun k h => ?_⟩
      obtain ⟨m, rfl, hm⟩ := hs k h
      rw [e1, e2, if_neg c, if_neg c]
      exact ⟨rfl, rfl⟩
theorem ok_both (xs : List S77) (hw : ∀ i : Nat, i < xs.length → nar (rd_T77 xs (i : Int))) (hl : xs.length ≤ 17592186044416) : ∃ b, Ev (fun k => spec_ValidTree.f k xs) b ∧ Ev (fun k => impl_ValidTree.f k xs) b := by
  unfold spec_ValidTree.f impl_ValidTree.f spec_l06Ok.f impl_Fork_c66_0.f impl_Fork_c66_1.f
  simp only [l00In_some, Option.bind_some]
  by_cases c : 1 ≤ (xs.length : Int) ∧ (xs.length : Int) ≤ 60
  · obtain ⟨b, r, hb, hk⟩ := ok_loop xs.length xs rfl (by omega) hw xs.length 0 (by omega)
    refine ⟨b, ⟨5 * xs.length + 7, fun k h => ?_⟩, ⟨5 * xs.length + 7, fun k h => ?_⟩⟩
    · have e : spec_l06Ok.l0 k (xs.length : Int) 0 xs = some b := (hk k (by omega)).1
      simp only [e]; rw [if_pos (by simp; omega)]; rfl
    · have e : impl_Fork_c66_1.l0 k xs (xs.length : Int) 0 xs = some r := (hk k (by omega)).2
      simp only [e, Option.bind_some, hb]; rw [if_neg (by omega), if_neg (by omega)]; simp
  · refine ⟨false, ⟨0, fun k h => ?_⟩, ⟨0, fun k h => ?_⟩⟩
    · simp only; rw [if_neg (by simpa using c)]; rfl
    · simp only
      by_cases c1 : (xs.length : Int) < 1
      · rw [if_pos c1]
      · rw [if_neg c1, if_pos (by omega)]
theorem cvT_nar (l : List S129) (h : ∀ z ∈ l, WF129 z) : ∀ i : Nat, i < (cvT l).length → nar (rd_T77 (cvT l) (i : Int)) := by
  intro i hi
  rw [cvT_length] at hi
  have e : rd_T77 (cvT l) (i : Int) = cvF (l[i]) := by
    have e2 : rd_T129 l (i : Int) = l[i] := by simp [rd_T129, hi]
    unfold rd_T77 cvT
    simp [hi, e2]
  obtain ⟨_, _, p, q, r⟩ := h (l[i]) (List.getElem_mem hi)
  rw [e]
  exact ⟨p, q, r⟩
theorem FnExactValidTree : laws_FnExactValidTree.Pure := by
  intro x ⟨hx, hz⟩
  obtain ⟨r, hr, h1⟩ := szTree_eq x.f0 1048576 (by omega) (by omega) (by omega)
  unfold laws_FnExactValidTree.f
  simp only [hr, Option.bind_some]
  by_cases c : r < 0
  · exact ⟨0, by rw [if_pos c]⟩
  simp only [if_neg c]
  obtain ⟨b, hb, hi⟩ := ok_both (cvT x.f0) (cvT_nar x.f0 hz) (by rw [cvT_length]; omega)
  obtain ⟨k1, e1⟩ := toTree_ev x.f0 (by omega)
  obtain ⟨k3, e3⟩ := hb
  obtain ⟨k4, e4⟩ := hi
  obtain ⟨k5, e5⟩ := eqTree_ev (cvT x.f0) (by rw [cvT_length]; omega)
  have f1 := e1 (k1 + k3 + k4 + k5) (by omega)
  have f3 := e3 (k1 + k3 + k4 + k5) (by omega)
  have f4 := e4 (k1 + k3 + k4 + k5) (by omega)
  have f5 := e5 (k1 + k3 + k4 + k5) (by omega)
  refine ⟨k1 + k3 + k4 + k5, ?_⟩
  simp only at f1 f3 f4 f5
  simp [f1, f3, f4, f5]
end Go.Proofs.Ytlccefmimpmgjaa.Pure
