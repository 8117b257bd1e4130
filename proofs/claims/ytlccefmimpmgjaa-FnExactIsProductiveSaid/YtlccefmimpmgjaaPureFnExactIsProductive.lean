/- The program's IsProductive says what the reference's says, for every tree, and leaves it as it was. -/
import Derived.Test.YtlccefmimpmgjaaMFnExactIsProductivex8
import Derived.Test.YtlccefmimpmgjaaMOpen
namespace Go.Proofs.Ytlccefmimpmgjaa.Pure
open Go.RowKit Go.Proofs.Ytlccefmimpmgjaa.MFnExactIsProductive Go.Proofs.Ytlccefmimpmgjaa.MOpen Go.Proofs.YtlccefmimpmgjaaW.PrintWords Go.Proofs.YtlccefmimpmgjaaW.PrintLast Go.Proofs.YtlccefmimpmgjaaW.PrintMore
set_option linter.unusedVariables false
set_option linter.unusedSimpArgs false
theorem wrap64_id {n : Int} (h0 : -9223372036854775808 ≤ n) (h1 : n ≤ 9223372036854775807) : wrap64 n = n := by
  unfold wrap64; omega
theorem rd_nat (xs : List Int) (i : Nat) : rd xs (i : Int) = xs.getD i 0 := by simp [rd]
theorem rd_get (xs : List Int) (i : Nat) (h : i < xs.length) : rd xs (i : Int) = xs[i] := by simp [rd, h]
theorem ev_k {α : Type} {f : Nat → Option α} {r : α} (n : Nat) (h : ∀ k, n ≤ k → f k = some r) : Ev f r := ⟨n, h⟩
/-- A list of n elements of which the first i are told. -/
def built {α : Type} (g : Nat → α) (z : α) (n i : Nat) : List α := (List.range i).map g ++ List.replicate (n - i) z
theorem built_zero {α : Type} (g : Nat → α) (z : α) (n : Nat) : built g z n 0 = List.replicate n z := by simp [built]
theorem built_all {α : Type} (g : Nat → α) (z : α) (n : Nat) : built g z n n = (List.range n).map g := by simp [built]
theorem built_length {α : Type} (g : Nat → α) (z : α) (n i : Nat) (h : i ≤ n) : (built g z n i).length = n := by simp [built]; omega
theorem built_set {α : Type} (g : Nat → α) (z : α) (n i : Nat) (h : i < n) : (built g z n i).set i (g i) = built g z n (i + 1) := by
  unfold built
  rw [List.set_append_right _ _ (by simp), show n - i = (n - (i + 1)) + 1 by omega, List.replicate_succ]
  simp [List.range_succ]
/-- A fork's moves, as the conversion leaves them: the same numbers in the other type. -/
def cvF (x : S129) : S77 := ⟨x.f0, x.f1, ⟨x.f2.f0, x.f2.f1, x.f2.f2⟩⟩
/-- A whole list of moves in the other type. -/
def cvT (xs : List S129) : List S77 := (List.range xs.length).map (fun j : Nat => cvF (rd_T129 xs (j : Int)))
theorem cvT_length (xs : List S129) : (cvT xs).length = xs.length := by simp [cvT]
theorem toInt16A3_ev (a b c : Int) (k : Nat) (h : 4 ≤ k) : laws_toInt16A3.f k a b c = some (a, b, c) := by
  obtain ⟨k, rfl⟩ : ∃ m, k = m + 4 := ⟨k - 4, by omega⟩
  unfold laws_toInt16A3.f
  simp [laws_toInt16A3.l0, wrap64, aput, rd]
theorem toFork_ev (a b c d e : Int) (k : Nat) (h : 4 ≤ k) : laws_toFork.f k a b c d e = some (a, b, c, d, e) := by
  obtain ⟨k, rfl⟩ : ∃ m, k = m + 4 := ⟨k - 4, by omega⟩
  unfold laws_toFork.f
  rw [toInt16A3_ev _ _ _ _ (by omega)]; rfl
theorem toForkS_loop (xs : List S129) (hn : xs.length ≤ 4611686018427387904) (d : Nat) : ∀ (i k : Nat), i + d = xs.length → d + 4 < k → laws_toForkS.l0 k xs (built (fun j : Nat => cvF (rd_T129 xs (j : Int))) z77 xs.length i) (i : Int) = some (cvT xs) := by
  induction d with
  | zero =>
    intro i k hd hk
    obtain ⟨k, rfl⟩ : ∃ m, k = m + 1 := ⟨k - 1, by omega⟩
    simp only [laws_toForkS.l0]; rw [if_neg (by omega), show i = xs.length by omega, built_all]; rfl
  | succ d ih =>
    intro i k hd hk
    obtain ⟨k, rfl⟩ : ∃ m, k = m + 1 := ⟨k - 1, by omega⟩
    simp only [laws_toForkS.l0]; rw [if_pos (by omega), if_pos (by omega), toFork_ev _ _ _ _ _ _ (by omega)]
    simp only [Option.bind_some]
    rw [if_pos (by rw [built_length _ _ _ _ (by omega)]; omega), wrap64_id (by omega) (by omega), Int.toNat_natCast]
    have hset : (built (fun j : Nat => cvF (rd_T129 xs (j : Int))) z77 xs.length i).set i ⟨(rd_T129 xs (i : Int)).f0, (rd_T129 xs (i : Int)).f1, ⟨(rd_T129 xs (i : Int)).f2.f0, (rd_T129 xs (i : Int)).f2.f1, (rd_T129 xs (i : Int)).f2.f2⟩⟩ = built (fun j : Nat => cvF (rd_T129 xs (j : Int))) z77 xs.length (i + 1) := built_set (fun j : Nat => cvF (rd_T129 xs (j : Int))) z77 xs.length i (by omega)
    rw [hset]
    exact ih (i + 1) k (by omega) (by omega)
theorem toTree_ev (xs : List S129) (hn : xs.length ≤ 17592186044416) : Ev (fun k => laws_toTree.f k xs) (cvT xs) := by
  refine ⟨xs.length + 6, fun k hk => ?_⟩
  show laws_toTree.f k xs = some (cvT xs)
  unfold laws_toTree.f laws_toForkS.f
  rw [if_pos (by omega), if_pos (by simp; omega)]
  have : laws_toForkS.l0 k xs (built (fun j : Nat => cvF (rd_T129 xs (j : Int))) z77 xs.length 0) 0 = some (cvT xs) := toForkS_loop xs (by omega) xs.length 0 k (by omega) (by omega)
  rw [built_zero] at this
  rw [Int.toNat_natCast, this]; rfl
theorem eqInt16A3_same (a b c : Int) (k : Nat) (h : 4 ≤ k) : laws_eqInt16A3.f k a b c a b c = some true := by
  obtain ⟨k, rfl⟩ : ∃ m, k = m + 4 := ⟨k - 4, by omega⟩
  unfold laws_eqInt16A3.f
  simp [laws_eqInt16A3.l0, wrap64, rd]
theorem eqFork_same (a b c d e : Int) (k : Nat) (h : 4 ≤ k) : laws_eqFork.f k a b c d e a b c d e = some true := by
  obtain ⟨k, rfl⟩ : ∃ m, k = m + 4 := ⟨k - 4, by omega⟩
  unfold laws_eqFork.f
  rw [if_pos rfl, if_pos rfl, eqInt16A3_same _ _ _ _ (by omega)]; rfl
theorem eqForkS_loop (xs : List S77) (hn : xs.length ≤ 4611686018427387904) (d : Nat) : ∀ (i k : Nat), i + d = xs.length → d + 4 < k → laws_eqForkS.l0 k xs xs (i : Int) = some true := by
  induction d with
  | zero =>
    intro i k hd hk
    obtain ⟨k, rfl⟩ : ∃ m, k = m + 1 := ⟨k - 1, by omega⟩
    simp only [laws_eqForkS.l0]; rw [if_neg (by omega)]
  | succ d ih =>
    intro i k hd hk
    obtain ⟨k, rfl⟩ : ∃ m, k = m + 1 := ⟨k - 1, by omega⟩
    simp only [laws_eqForkS.l0]; rw [if_pos (by omega), if_pos (by omega), if_pos (by omega), eqFork_same _ _ _ _ _ _ (by omega)]
    simp only [Option.bind_some]
    rw [if_pos trivial, wrap64_id (by omega) (by omega)]
    exact ih (i + 1) k (by omega) (by omega)
theorem eqTree_ev (xs : List S77) (hn : xs.length ≤ 4611686018427387904) : Ev (fun k => laws_eqTree.f k xs xs) true := by
  refine ⟨xs.length + 6, fun k hk => ?_⟩
  show laws_eqTree.f k xs xs = some true
  unfold laws_eqTree.f laws_eqForkS.f
  have h : laws_eqForkS.l0 k xs xs 0 = some true := eqForkS_loop xs hn xs.length 0 k (by omega) (by omega)
  rw [if_pos rfl, h]; rfl
theorem szTree_eq (l : List S129) (a : Int) (hl : l.length ≤ 17592186044416) (h0 : 0 ≤ a) (h1 : a ≤ 1048576) : ∃ r, laws_szTree.f l a = some r ∧ (r < 0 ∨ (r ≤ a ∧ 0 ≤ r)) := by
  unfold laws_szTree.f laws_szForkS.f
  rw [wrap64_id (by omega) (by omega)]
  by_cases c : a - (l.length : Int) < 0
  · exact ⟨-1, by simp [c], by omega⟩
  · exact ⟨a - l.length, by simp [c], by omega⟩
/-- A node that a tree with n nodes may have. -/
def okF (n : Int) (x : S77) : Bool := decide (0 ≤ x.f2.f0 ∧ x.f2.f0 < n ∧ 0 ≤ x.f2.f1 ∧ x.f2.f1 < n ∧ 0 ≤ x.f2.f2 ∧ x.f2.f2 < n ∧ ((x.f0 = 1 ∧ x.f1 = 0) ∨ (x.f0 = 2 ∧ -1 ≤ x.f1 ∧ x.f1 ≤ 1 ∧ x.f2.f1 = 0 ∧ x.f2.f2 = 0)))
/-- The node's ways are 16-bit numbers. -/
def nar (x : S77) : Prop := (-32768 ≤ x.f2.f0 ∧ x.f2.f0 ≤ 32767) ∧ (-32768 ≤ x.f2.f1 ∧ x.f2.f1 ≤ 32767) ∧ (-32768 ≤ x.f2.f2 ∧ x.f2.f2 ≤ 32767)
theorem l00In_some (a b c : Int) : spec_l00In.f a b c = some (decide (b ≤ a ∧ a ≤ c)) := by
  unfold spec_l00In.f
  split <;> simp <;> omega
theorem okF_spec (k : Nat) (n i : Int) (xs : List S77) (h0 : 0 ≤ i) (h1 : i < (xs.length : Int)) (hn : 1 ≤ n ∧ n ≤ 60) (hw : nar (rd_T77 xs i)) :
    spec_l06Ok.l1 (k + 4) n i 0 xs = if okF n (rd_T77 xs i) = true then spec_l06Ok.l0 k n (wrap64 (i + 1)) xs else some false := by
  obtain ⟨⟨a1, a2⟩, ⟨b1, b2⟩, ⟨c1, c2⟩⟩ := hw
  have hk : ∀ k', spec_l06Ok.l1 (k' + 1) n i 3 xs = (if ((rd_T77 xs i).f0) = 1 then (if ((rd_T77 xs i).f1) = 0 then (spec_l06Ok.l0 k' n (wrap64 (i + 1)) xs) else (some false)) else (if ((rd_T77 xs i).f0) = 2 then (if ((rd_T77 xs i).f1) < (-1) then (some false) else (if ((rd_T77 xs i).f1) > 1 then (some false) else (if ((rd_T77 xs i).f2.f1) = 0 then (if ((rd_T77 xs i).f2.f2) = 0 then (spec_l06Ok.l0 k' n (wrap64 (i + 1)) xs) else (some false)) else (some false)))) else (some false))) := by
    intro k'
    simp only [spec_l06Ok.l1, if_pos h0, if_pos h1]; rw [if_neg (by omega)]
  have h2 : ∀ k', spec_l06Ok.l1 (k' + 1) n i 2 xs = (if 0 ≤ (rd_T77 xs i).f2.f2 ∧ (rd_T77 xs i).f2.f2 < n then spec_l06Ok.l1 k' n i 3 xs else some false) := by
    intro k'
    simp only [spec_l06Ok.l1, if_pos h0, if_pos h1, l00In_some, Option.bind_some]
    rw [if_pos (by omega), if_neg (by omega), if_neg (by omega), if_pos trivial, wrap64_id (by omega) (by omega), wrap64_id (by omega) (by omega)]
    by_cases c : 0 ≤ (rd_T77 xs i).f2.f2 ∧ (rd_T77 xs i).f2.f2 < n
    · rw [if_pos c, if_pos (by simp; omega)]; rfl
    · rw [if_neg c, if_neg (by simp; omega)]
  have h3 : ∀ k', spec_l06Ok.l1 (k' + 1) n i 1 xs = (if 0 ≤ (rd_T77 xs i).f2.f1 ∧ (rd_T77 xs i).f2.f1 < n then spec_l06Ok.l1 k' n i 2 xs else some false) := by
    intro k'
    simp only [spec_l06Ok.l1, if_pos h0, if_pos h1, l00In_some, Option.bind_some]
    rw [if_pos (by omega), if_neg (by omega), if_pos trivial, wrap64_id (by omega) (by omega), wrap64_id (by omega) (by omega)]
    by_cases c : 0 ≤ (rd_T77 xs i).f2.f1 ∧ (rd_T77 xs i).f2.f1 < n
    · rw [if_pos c, if_pos (by simp; omega)]; rfl
    · rw [if_neg c, if_neg (by simp; omega)]
  have h4 : ∀ k', spec_l06Ok.l1 (k' + 1) n i 0 xs = (if 0 ≤ (rd_T77 xs i).f2.f0 ∧ (rd_T77 xs i).f2.f0 < n then spec_l06Ok.l1 k' n i 1 xs else some false) := by
    intro k'
    simp only [spec_l06Ok.l1, if_pos h0, if_pos h1, l00In_some, Option.bind_some]
    rw [if_pos (by omega), if_pos trivial, wrap64_id (by omega) (by omega), wrap64_id (by omega) (by omega)]
    by_cases c : 0 ≤ (rd_T77 xs i).f2.f0 ∧ (rd_T77 xs i).f2.f0 < n
    · rw [if_pos c, if_pos (by simp; omega)]; rfl
    · rw [if_neg c, if_neg (by simp; omega)]
  rw [h4, h3, h2, hk]
  unfold okF
  generalize spec_l06Ok.l0 k n (wrap64 (i + 1)) xs = Z
  simp only [decide_eq_true_eq]
  repeat' split
  all_goals first | rfl | omega
theorem okF_impl (k : Nat) (n : Int) (x : S77) (hk : 4 ≤ k) (hw : nar x) : impl_forkOk.f k x.f0 x.f1 x.f2.f0 x.f2.f1 x.f2.f2 n = some (okF n x) := by
  obtain ⟨k, rfl⟩ : ∃ m, k = m + 4 := ⟨k - 4, by omega⟩
  obtain ⟨⟨a1, a2⟩, ⟨b1, b2⟩, ⟨c1, c2⟩⟩ := hw
  have hd : ∀ z : Int, impl_isDigit.f z = some (decide (-1 ≤ z ∧ z ≤ 1)) := by
    intro z; unfold impl_isDigit.f; split <;> simp <;> omega
  obtain ⟨p, q, ⟨a, b, c⟩⟩ := x
  simp only at a1 a2 b1 b2 c1 c2
  have w1 : wrap64 a = a := wrap64_id (by omega) (by omega)
  have w2 : wrap64 b = b := wrap64_id (by omega) (by omega)
  have w3 : wrap64 c = c := wrap64_id (by omega) (by omega)
  have t3 : ∀ k', impl_forkOk.l0 (k' + 1) n 3 a b c p q a b c = (if p = 1 then (some (q == 0)) else (if p = 2 then (if -1 ≤ q ∧ q ≤ 1 then (if b = 0 then (some (c == 0)) else (some false)) else (some false)) else (some false))) := by
    intro k'
    rw [impl_forkOk.l0, if_neg (by omega), hd]; simp
  have t2 : ∀ k', impl_forkOk.l0 (k' + 1) n 2 a b c p q a b c = (if c < 0 then some false else if c ≥ n then some false else impl_forkOk.l0 k' n 3 a b c p q a b c) := by
    intro k'
    rw [impl_forkOk.l0, if_pos (by omega), if_neg (by omega), if_neg (by omega), if_pos rfl, w3]; rfl
  have t1 : ∀ k', impl_forkOk.l0 (k' + 1) n 1 a b c p q a b c = (if b < 0 then some false else if b ≥ n then some false else impl_forkOk.l0 k' n 2 a b c p q a b c) := by
    intro k'
    rw [impl_forkOk.l0, if_pos (by omega), if_neg (by omega), if_pos rfl, w2]; rfl
  have t0 : ∀ k', impl_forkOk.l0 (k' + 1) n 0 a b c p q a b c = (if a < 0 then some false else if a ≥ n then some false else impl_forkOk.l0 k' n 1 a b c p q a b c) := by
    intro k'
    rw [impl_forkOk.l0, if_pos (by omega), if_pos rfl, w1]; rfl
  unfold impl_forkOk.f okF
  simp only
  rw [t0, t1, t2, t3]
  repeat' split
  all_goals refine congrArg some ?_
  all_goals rw [Bool.eq_iff_iff]
  all_goals simp only [beq_iff_eq, decide_eq_true_eq, Bool.false_eq_true, false_iff]
  all_goals omega
theorem ok_loop2 (n : Nat) (xs : List S77) (hl : xs.length = n) (hn : 1 ≤ n ∧ n ≤ 60) (hw : ∀ i : Nat, i < n → nar (rd_T77 xs (i : Int))) (d : Nat) : ∀ i : Nat, i + d = n → ∃ b r, (decide (r ≥ 0) = !b) ∧ (b = true → ∀ j : Nat, i ≤ j → j < n → okF n (rd_T77 xs (j : Int)) = true) ∧ ∀ k, 5 * d + 6 < k → spec_l06Ok.l0 k (n : Int) (i : Int) xs = some b ∧ impl_Fork_c66_1.l0 k xs (n : Int) (i : Int) xs = some r := by
  induction d with
  | zero =>
    intro i hi
    refine ⟨true, -1, by decide, fun _ j h1 h2 => by omega, fun k hk => ?_⟩
    obtain ⟨k, rfl⟩ : ∃ m, k = m + 1 := ⟨k - 1, by omega⟩
    simp only [spec_l06Ok.l0, impl_Fork_c66_1.l0]; rw [if_neg (by omega), if_neg (by omega)]; exact ⟨rfl, rfl⟩
  | succ d ih =>
    intro i hi
    have hs : ∀ k, 5 * (d + 1) + 6 < k → ∃ m, k = m + 4 + 1 ∧ 5 * d + 6 < m := fun k hk => ⟨k - 5, by omega, by omega⟩
    have hv : ∀ m : Nat, impl_ValidTree_1.f (m + 4) (rd_T77 xs (i : Int)).f0 (rd_T77 xs (i : Int)).f1 (rd_T77 xs (i : Int)).f2.f0 (rd_T77 xs (i : Int)).f2.f1 (rd_T77 xs (i : Int)).f2.f2 xs = some (!okF n (rd_T77 xs (i : Int))) := by
      intro m
      unfold impl_ValidTree_1.f
      rw [okF_impl _ _ _ (by omega) (hw i (by omega)), hl]; rfl
    have e1 : ∀ m : Nat, spec_l06Ok.l0 (m + 4 + 1) (n : Int) (i : Int) xs = if okF n (rd_T77 xs (i : Int)) = true then spec_l06Ok.l0 m n ((i + 1 : Nat) : Int) xs else some false := by
      intro m
      rw [spec_l06Ok.l0, if_pos (by omega), if_pos (by omega), if_pos (by omega), okF_spec _ _ _ _ (by omega) (by omega) (by omega) (hw i (by omega)), wrap64_id (by omega) (by omega)]; rfl
    have e2 : ∀ m : Nat, impl_Fork_c66_1.l0 (m + 4 + 1) xs (n : Int) (i : Int) xs = if okF n (rd_T77 xs (i : Int)) = true then impl_Fork_c66_1.l0 (m + 4) xs n ((i + 1 : Nat) : Int) xs else some (i : Int) := by
      intro m
      rw [impl_Fork_c66_1.l0, if_pos (by omega), if_pos (by omega), if_pos (by omega), hv, wrap64_id (by omega) (by omega)]
      cases okF n (rd_T77 xs (i : Int)) <;> rfl
    by_cases c : okF n (rd_T77 xs (i : Int)) = true
    · obtain ⟨b, r, hb, ho, hk⟩ := ih (i + 1) (by omega)
      refine ⟨b, r, hb, fun z j h1 h2 => ?_, fun k h => ?_⟩
      · by_cases e : j = i
        · subst e; exact c
        · exact ho z j (by omega) h2
      obtain ⟨m, rfl, hm⟩ := hs k h
      rw [e1, e2, if_pos c, if_pos c]
      exact ⟨(hk m hm).1, (hk (m + 4) (by omega)).2⟩
    · refine ⟨false, (i : Int), by simp, fun z => by simp at z, fun k h => ?_⟩
      obtain ⟨m, rfl, hm⟩ := hs k h
      rw [e1, e2, if_neg c, if_neg c]
      exact ⟨rfl, rfl⟩
theorem ok_both2 (xs : List S77) (hw : ∀ i : Nat, i < xs.length → nar (rd_T77 xs (i : Int))) (hl : xs.length ≤ 17592186044416) : ∃ b : Bool, (b = true → (1 ≤ xs.length ∧ xs.length ≤ 60) ∧ ∀ j : Nat, j < xs.length → okF xs.length (rd_T77 xs (j : Int)) = true) ∧ Ev (fun k => spec_l06Ok.f k xs) b ∧ Ev (fun k => impl_ValidTree.f k xs) b := by
  unfold impl_ValidTree.f spec_l06Ok.f impl_Fork_c66_0.f impl_Fork_c66_1.f
  simp only [l00In_some, Option.bind_some]
  by_cases c : 1 ≤ (xs.length : Int) ∧ (xs.length : Int) ≤ 60
  · obtain ⟨b, r, hb, ho, hk⟩ := ok_loop2 xs.length xs rfl (by omega) hw xs.length 0 (by omega)
    refine ⟨b, fun z => ⟨by omega, fun j hj => ho z j (by omega) hj⟩, ⟨5 * xs.length + 7, fun k h => ?_⟩, ⟨5 * xs.length + 7, fun k h => ?_⟩⟩
    · have e : spec_l06Ok.l0 k (xs.length : Int) 0 xs = some b := (hk k (by omega)).1
      simp only [e]; rw [if_pos (by simp; omega)]
    · have e : impl_Fork_c66_1.l0 k xs (xs.length : Int) 0 xs = some r := (hk k (by omega)).2
      simp only [e, Option.bind_some, hb]; rw [if_neg (by omega), if_neg (by omega)]; simp
  · refine ⟨false, by simp, ⟨0, fun k h => ?_⟩, ⟨0, fun k h => ?_⟩⟩
    · simp only; rw [if_neg (by simpa using c)]
    · simp only
      by_cases c1 : (xs.length : Int) < 1
      · rw [if_pos c1]
      · rw [if_neg c1, if_pos (by omega)]
theorem cvT_nar (l : List S129) (h : ∀ z ∈ l, WF129 z) : ∀ i : Nat, i < (cvT l).length → nar (rd_T77 (cvT l) (i : Int)) := by
  intro i hi
  rw [cvT_length] at hi
  have e : rd_T77 (cvT l) (i : Int) = cvF (l[i]) := by
    have e2 : rd_T129 l (i : Int) = l[i] := by simp [rd_T129, hi]
    unfold rd_T77 cvT
    simp [hi, e2]
  obtain ⟨_, _, p, q, r⟩ := h (l[i]) (List.getElem_mem hi)
  rw [e]
  exact ⟨p, q, r⟩
/-- The ways of a node, and what the finding does with one of them. -/
def wl (x : S77) : List Int := if x.f0 = 2 then [x.f2.f0] else [x.f2.f0, x.f2.f1, x.f2.f2]
def vis (st : List Int × List Bool) (v : Int) : List Int × List Bool := if rdOf false st.2 v = true then st else (st.1 ++ [v], st.2.set v.toNat true)
def Pst (n : Nat) (st : List Int × List Bool) : Prop := st.2.length = n ∧ st.1.length = st.2.count true ∧ (∀ v ∈ st.1, 0 ≤ v ∧ v < (n : Int)) ∧ (∀ v : Nat, v < n → (rdOf false st.2 (v : Int) = true ↔ (v : Int) ∈ st.1)) ∧ st.1.Nodup
theorem rdOf_nat (ys : List Bool) (i : Nat) (h : i < ys.length) : rdOf false ys (i : Int) = ys[i] := by
  simp [rdOf, List.getD_eq_getElem?_getD, h]
theorem vis_P (n : Nat) (st : List Int × List Bool) (v : Int) (h : Pst n st) (h0 : 0 ≤ v ∧ v < (n : Int)) : Pst n (vis st v) ∧ (∃ t, (vis st v).1 = st.1 ++ t) ∧ v ∈ (vis st v).1 := by
  obtain ⟨a, b, c, d, e⟩ := h
  obtain ⟨u, rfl⟩ : ∃ u : Nat, v = (u : Int) := ⟨v.toNat, by omega⟩
  have hu : u < n := by omega
  have hul : u < st.2.length := by omega
  unfold vis
  by_cases hs : rdOf false st.2 (u : Int) = true
  · rw [if_pos hs]
    exact ⟨⟨a, b, c, d, e⟩, ⟨[], by simp⟩, (d u hu).mp hs⟩
  · rw [if_neg hs]
    have hf : st.2[u] = false := by rw [rdOf_nat _ _ hul] at hs; simpa using hs
    have hn : ¬ (u : Int) ∈ st.1 := fun z => hs ((d u hu).mpr z)
    refine ⟨⟨by simpa using a, ?_, ?_, ?_, ?_⟩, ⟨[(u : Int)], rfl⟩, by simp⟩
    · simp only [Int.toNat_natCast, List.length_append, List.length_singleton]
      rw [List.count_set hul, hf, b]; simp
    · intro w hw
      simp only [List.mem_append, List.mem_singleton] at hw
      rcases hw with hw | hw
      · exact c w hw
      · rw [hw]; exact h0
    · intro w hw
      have hwl : w < (st.2.set (u : Int).toNat true).length := by simp; omega
      rw [rdOf_nat _ _ hwl]
      simp only [Int.toNat_natCast, List.getElem_set, List.mem_append, List.mem_singleton]
      by_cases e2 : u = w
      · subst e2; simp
      · rw [if_neg e2]
        have := d w hw
        rw [rdOf_nat _ _ (by omega)] at this
        rw [this]
        constructor
        · exact Or.inl
        · rintro (z | z)
          · exact z
          · exact absurd (by omega) e2
    · rw [List.nodup_append]
      refine ⟨e, by simp, ?_⟩
      intro x hx y hy
      simp only [List.mem_singleton] at hy
      rw [hy]; intro z; exact hn (z ▸ hx)
theorem fold_P (n : Nat) : ∀ (ws : List Int) (st : List Int × List Bool), Pst n st → (∀ w ∈ ws, 0 ≤ w ∧ w < (n : Int)) → Pst n (ws.foldl vis st) ∧ (∃ t, (ws.foldl vis st).1 = st.1 ++ t) ∧ ∀ w ∈ ws, w ∈ (ws.foldl vis st).1 := by
  intro ws
  induction ws with
  | nil => intro st h _; exact ⟨h, ⟨[], by simp⟩, by simp⟩
  | cons w ws ih =>
    intro st h hw
    obtain ⟨p1, ⟨t1, e1⟩, m1⟩ := vis_P n st w h (hw w (by simp))
    obtain ⟨p2, ⟨t2, e2⟩, m2⟩ := ih (vis st w) p1 (fun x hx => hw x (by simp [hx]))
    refine ⟨p2, ⟨t1 ++ t2, ?_⟩, ?_⟩
    · show (ws.foldl vis (vis st w)).1 = _
      rw [e2, e1, List.append_assoc]
    · intro x hx
      show x ∈ (ws.foldl vis (vis st w)).1
      simp only [List.mem_cons] at hx
      rcases hx with hx | hx
      · rw [hx, e2]; exact List.mem_append_left _ m1
      · exact m2 x hx
theorem Pst_len {n : Nat} {st : List Int × List Bool} (h : Pst n st) : st.1.length ≤ n := by
  rw [h.2.1, ← h.1]; exact List.count_le_length
/-- A node that a valid tree has. -/
theorem okF_is {n : Int} {x : S77} (h : okF n x = true) : (0 ≤ x.f2.f0 ∧ x.f2.f0 < n) ∧ (0 ≤ x.f2.f1 ∧ x.f2.f1 < n) ∧ (0 ≤ x.f2.f2 ∧ x.f2.f2 < n) ∧ (x.f0 = 1 ∨ x.f0 = 2) := by
  unfold okF at h
  simp only [decide_eq_true_eq] at h
  omega
theorem wl_in {n : Int} {x : S77} (h : okF n x = true) : ∀ w ∈ wl x, 0 ≤ w ∧ w < n := by
  obtain ⟨a, b, c, _⟩ := okF_is h
  intro w hw
  unfold wl at hw
  split at hw
  · simp only [List.mem_singleton] at hw; rw [hw]; exact a
  · simp only [List.mem_cons, List.not_mem_nil, or_false] at hw
    rcases hw with rfl | rfl | rfl
    · exact a
    · exact b
    · exact c
theorem spec_node (T : List S77) (n : Nat) (hT : T.length = n) (hn : n ≤ 60) (c : Int) (hc : 0 ≤ c ∧ c < (n : Int)) (ho : okF n (rd_T77 T c) = true) (i : Int) (st : List Int × List Bool) (hP : Pst n st) (r : List Int)
    (hr : Ev (fun k => spec_l06Reached.l0 k ((wl (rd_T77 T c)).foldl vis st).1 ((wl (rd_T77 T c)).foldl vis st).2 (wrap64 (i + 1)) T) r) : Ev (fun k => spec_l06Reached.l1 k st.1 st.2 i 0 c T) r := by
  obtain ⟨a0, a1, a2, a3⟩ := okF_is ho
  have one : ∀ (st : List Int × List Bool) (v : Int), Pst n st → (0 ≤ v ∧ v < (n : Int)) → ∀ (Z : List Int → List Bool → Option (List Int)),
      (if 0 ≤ v then (if v < (st.2.length : Int) then (if (rdOf false st.2 v = true) then Z st.1 st.2 else (if st.1.length < 70368744177664 then Z (st.1 ++ [v]) (st.2.set v.toNat true) else none)) else none) else none) = Z (vis st v).1 (vis st v).2 := by
    intro st v hP hv Z
    have := Pst_len hP
    have := hP.1
    rw [if_pos hv.1, if_pos (by omega)]
    unfold vis
    by_cases hs : rdOf false st.2 v = true
    · rw [if_pos hs, if_pos hs]
    · rw [if_neg hs, if_neg hs, if_pos (by omega)]
  rcases a3 with hk | hk
  · have hw : wl (rd_T77 T c) = [(rd_T77 T c).f2.f0, (rd_T77 T c).f2.f1, (rd_T77 T c).f2.f2] := by unfold wl; rw [if_neg (by omega)]
    rw [hw] at hr
    have p1 := (vis_P n st _ hP a0).1
    have p2 := (vis_P n _ _ p1 a1).1
    refine Ev.step (fun k => by rw [spec_l06Reached.l1, if_pos hc.1, if_pos (by omega), if_pos hk, if_pos (by omega), if_pos rfl, one st _ hP a0 (fun a b => spec_l06Reached.l1 k a b i (0 + 1) c T)]) ?_
    refine Ev.step (fun k => by rw [spec_l06Reached.l1, if_pos hc.1, if_pos (by omega), if_pos hk, if_pos (by omega), if_neg (by omega), if_pos (by omega), one _ _ p1 a1 (fun a b => spec_l06Reached.l1 k a b i (1 + 1) c T)]) ?_
    refine Ev.step (fun k => by rw [spec_l06Reached.l1, if_pos hc.1, if_pos (by omega), if_pos hk, if_pos (by omega), if_neg (by omega), if_neg (by omega), if_pos (by omega), one _ _ p2 a2 (fun a b => spec_l06Reached.l1 k a b i (2 + 1) c T)]) ?_
    refine Ev.step (fun k => by rw [spec_l06Reached.l1, if_pos hc.1, if_pos (by omega), if_pos hk, if_neg (by omega)]) ?_
    exact hr
  · have hw : wl (rd_T77 T c) = [(rd_T77 T c).f2.f0] := by unfold wl; rw [if_pos hk]
    rw [hw] at hr
    refine Ev.step (fun k => by rw [spec_l06Reached.l1, if_pos hc.1, if_pos (by omega), if_neg (by omega), if_pos (by omega), if_pos rfl, one st _ hP a0 (fun a b => spec_l06Reached.l1 k a b i (0 + 1) c T)]) ?_
    refine Ev.step (fun k => by rw [spec_l06Reached.l1, if_pos hc.1, if_pos (by omega), if_neg (by omega), if_neg (by omega)]) ?_
    exact hr
theorem impl_node (T : List S77) (n : Nat) (hn : n ≤ 60) (ws : List Int) (hws : ∀ w ∈ ws, 0 ≤ w ∧ w < (n : Int)) (hwl : ws.length ≤ 3) (i : Int) (r : List Int) (d : Nat) : ∀ (j : Nat) (st : List Int × List Bool), j + d = ws.length → Pst n st →
    Ev (fun k => impl_Tree_found.l0 k ((ws.drop j).foldl vis st).1 ((ws.drop j).foldl vis st).2 (wrap64 (i + 1)) T) r → Ev (fun k => impl_Tree_found.l1 k st.1 st.2 i ws (ws.length : Int) (j : Int) T) r := by
  induction d with
  | zero =>
    intro j st hj _ hr
    rw [List.drop_of_length_le (by omega)] at hr
    refine Ev.step (fun k => by rw [impl_Tree_found.l1, if_neg (by omega)]) ?_
    exact hr
  | succ d ih =>
    intro j st hj hP hr
    have hjl : j < ws.length := by omega
    have hv := hws ws[j] (List.getElem_mem hjl)
    have h1 := Pst_len hP
    have h2 := hP.1
    rw [List.drop_eq_getElem_cons hjl, List.foldl_cons] at hr
    have := ih (j + 1) (vis st ws[j]) (by omega) (vis_P n st _ hP hv).1 hr
    refine Ev.step (fun k => ?_) this
    rw [impl_Tree_found.l1, if_pos (by omega), if_pos (by omega), if_pos (by omega), rd_get _ _ hjl, if_pos hv.1, if_pos (by omega), wrap64_id (n := (j : Int) + 1) (by omega) (by omega)]
    unfold vis
    by_cases hs : rdOf false st.2 ws[j] = true
    · rw [if_pos hs, if_pos hs]; rfl
    · rw [if_neg hs, if_neg hs, if_pos (by omega)]; rfl
/-- What both find: the nodes of a valid tree that are reached. -/
def Good (T : List S77) (n : Nat) (L : List Int) : Prop := L.length ≤ n ∧ (∀ v ∈ L, 0 ≤ v ∧ v < (n : Int)) ∧ L.Nodup ∧ ∀ v ∈ L, ∀ w ∈ wl (rd_T77 T v), w ∈ L
theorem found_both (T : List S77) (n : Nat) (hT : T.length = n) (hn : n ≤ 60) (ho : ∀ j : Nat, j < n → okF n (rd_T77 T (j : Int)) = true) (d : Nat) : ∀ (i : Nat) (st : List Int × List Bool), i + d = n → Pst n st → (∀ j : Nat, j < i → j < st.1.length → ∀ w ∈ wl (rd_T77 T (rd st.1 (j : Int))), w ∈ st.1) →
    ∃ L, Good T n L ∧ (∀ v ∈ st.1, v ∈ L) ∧ Ev (fun k => spec_l06Reached.l0 k st.1 st.2 (i : Int) T) L ∧ Ev (fun k => impl_Tree_found.l0 k st.1 st.2 (i : Int) T) L := by
  have fin : ∀ (i : Nat) (st : List Int × List Bool), Pst n st → (∀ j : Nat, j < i → j < st.1.length → ∀ w ∈ wl (rd_T77 T (rd st.1 (j : Int))), w ∈ st.1) → ¬ i < st.1.length → ∃ L, Good T n L ∧ (∀ v ∈ st.1, v ∈ L) ∧ Ev (fun k => spec_l06Reached.l0 k st.1 st.2 (i : Int) T) L ∧ Ev (fun k => impl_Tree_found.l0 k st.1 st.2 (i : Int) T) L := by
    intro i st hP hf hi
    refine ⟨st.1, ⟨Pst_len hP, hP.2.2.1, hP.2.2.2.2, fun v hv w hw => ?_⟩, fun v hv => hv, ?_, ?_⟩
    · obtain ⟨j, hj, rfl⟩ := List.mem_iff_getElem.mp hv
      exact hf j (by omega) hj w (by rw [rd_get _ _ hj]; exact hw)
    · refine Ev.step (fun k => by rw [spec_l06Reached.l0, if_neg (by omega)]) (Ev.now _)
    · refine Ev.step (fun k => by rw [impl_Tree_found.l0, if_neg (by omega)]) (Ev.now _)
  induction d with
  | zero =>
    intro i st hi hP hf
    have := Pst_len hP
    exact fin i st hP hf (by omega)
  | succ d ih =>
    intro i st hi hP hf
    by_cases c : i < st.1.length
    · have hcv := hP.2.2.1 st.1[i] (List.getElem_mem c)
      have hok : okF n (rd_T77 T st.1[i]) = true := by
        have := ho st.1[i].toNat (by omega)
        rwa [show ((st.1[i].toNat : Nat) : Int) = st.1[i] by omega] at this
      have hws := wl_in hok
      obtain ⟨p, ⟨t, e⟩, m⟩ := fold_P n (wl (rd_T77 T st.1[i])) st hP hws
      have w1 : wrap64 ((i : Int) + 1) = ((i + 1 : Nat) : Int) := by rw [wrap64_id (by omega) (by omega)]; omega
      obtain ⟨L, hg, hs0, es, ei⟩ := ih (i + 1) ((wl (rd_T77 T st.1[i])).foldl vis st) (by omega) p (by
        intro j h1 h2 w hw
        by_cases z : j < st.1.length
        · have e2 : rd ((wl (rd_T77 T st.1[i])).foldl vis st).1 (j : Int) = rd st.1 (j : Int) := by
            rw [rd_get _ _ h2, rd_get _ _ z]; simp only [e, List.getElem_append_left z]
          rw [e2] at hw
          by_cases z2 : j = i
          · subst z2; rw [rd_get _ _ z] at hw; exact m w hw
          · rw [e]; exact List.mem_append_left _ (hf j (by omega) z w hw)
        · omega)
      refine ⟨L, hg, fun v hv => hs0 v (by rw [e]; exact List.mem_append_left _ hv), ?_, ?_⟩
      · refine Ev.step (fun k => by rw [spec_l06Reached.l0, if_pos (by omega), if_pos (by omega), rd_get _ _ c, if_pos hcv.1, if_pos (by omega)]) ?_
        exact spec_node T n hT hn st.1[i] hcv hok (i : Int) st hP L (by rw [w1]; exact es)
      · refine Ev.step (fun k => by rw [impl_Tree_found.l0, if_pos (by omega), if_pos (by omega), rd_get _ _ c, if_pos hcv.1, if_pos (by omega)]) ?_
        refine Ev.bind (show Ev (fun _ => impl_Fork_ways.f (rd_T77 T st.1[i]).f0 (rd_T77 T st.1[i]).f1 (rd_T77 T st.1[i]).f2.f0 (rd_T77 T st.1[i]).f2.f1 (rd_T77 T st.1[i]).f2.f2) (wl (rd_T77 T st.1[i])) from ⟨0, fun k _ => rfl⟩) ?_
        have hl3 : (wl (rd_T77 T st.1[i])).length ≤ 3 := by unfold wl; split <;> simp
        exact impl_node T n hn _ hws hl3 (i : Int) L (wl (rd_T77 T st.1[i])).length 0 st (by omega) hP (by rw [w1]; exact ei)
    · exact fin i st hP hf c
theorem found_ev (T : List S77) (h1 : 1 ≤ T.length) (hn : T.length ≤ 60) (ho : ∀ j : Nat, j < T.length → okF T.length (rd_T77 T (j : Int)) = true) : ∃ L, Good T T.length L ∧ (0 : Int) ∈ L ∧ Ev (fun k => spec_l06Reached.f k T) L ∧ Ev (fun k => impl_Tree_found.f k T) L := by
  have hP : Pst T.length ([0], (List.replicate T.length false).set 0 true) := by
    refine ⟨by simp, ?_, ?_, ?_, by simp⟩
    · rw [List.count_set (by simp; omega)]; simp [List.count_replicate]
    · intro v hv; simp only [List.mem_singleton] at hv; omega
    · intro v hv
      rw [rdOf_nat _ _ (by simp; omega)]
      simp only [List.getElem_set, List.getElem_replicate, List.mem_singleton]
      by_cases e : 0 = v
      · subst e; simp
      · rw [if_neg e]; simp; omega
  obtain ⟨L, hg, hs0, es, ei⟩ := found_both T T.length rfl hn ho T.length 0 _ (by omega) hP (fun j h => by omega)
  refine ⟨L, hg, hs0 0 (by simp), ?_, ?_⟩
  · refine Ev.congr (fun k => by unfold spec_l06Reached.f; rw [if_pos (by omega), if_pos (by omega)]) ?_
    simp only [Option.bind_some, Int.toNat_natCast, List.length_replicate]
    refine Ev.congr (fun k => if_pos (by omega)) ?_
    exact es
  · refine Ev.congr (fun k => by unfold impl_Tree_found.f; rw [if_pos (by omega), if_pos (by omega)]) ?_
    simp only [Option.bind_some, Int.toNat_natCast, List.length_replicate]
    refine Ev.congr (fun k => if_pos (by omega)) ?_
    exact ei
/-- Whether a node is done, where some are. -/
def dn (T : List S77) (D : List Bool) (v : Int) : Bool := if (rd_T77 T v).f0 = 2 then true else (rdOf false D (rd_T77 T v).f2.f0 && (rdOf false D (rd_T77 T v).f2.f1 && rdOf false D (rd_T77 T v).f2.f2))
theorem spec_done (T : List S77) (L : List Int) (D : List Bool) (hn : T.length ≤ 60) (hD : D.length = T.length) (x5 : Int) (j : Nat) (hj : j < L.length) (v : Int) (hv : rd L (j : Int) = v) (hr : 0 ≤ v ∧ v < (T.length : Int)) (ho : okF T.length (rd_T77 T v) = true) (r : Bool)
    (h : Ev (fun k => spec_l06Productive.l1 k L (D.set v.toNat (dn T D v)) x5 (wrap64 ((j : Int) + 1)) T) r) : Ev (fun k => spec_l06Productive.l2 k L D x5 (j : Int) true 0 v T) r := by
  obtain ⟨a0, a1, a2, a3⟩ := okF_is ho
  have last : ∀ b, dn T D v = b → Ev (fun k => (if 0 ≤ (j : Int) then (if (j : Int) < (L.length : Int) then (if 0 ≤ (rd L (j : Int)) then (if (rd L (j : Int)) < (D.length : Int) then (spec_l06Productive.l1 k L (D.set ((rd L (j : Int)) : Int).toNat b) x5 (wrap64 ((j : Int) + 1)) T) else (none)) else (none)) else (none)) else (none))) r := by
    intro b hb
    refine Ev.congr (fun k => by rw [if_pos (by omega), if_pos (by omega), hv, if_pos hr.1, if_pos (by omega)]) ?_
    rw [← hb]; exact h
  rcases a3 with hk | hk
  · have w1 : wrap64 (0 + 1 + 1) = 1 + 1 := by rw [wrap64_id (by omega) (by omega)]; rfl
    have w2 : wrap64 (1 + 1 + 1) = 2 + 1 := by rw [wrap64_id (by omega) (by omega)]; rfl
    have hd : dn T D v = (rdOf false D (rd_T77 T v).f2.f0 && (rdOf false D (rd_T77 T v).f2.f1 && rdOf false D (rd_T77 T v).f2.f2)) := by unfold dn; rw [if_neg (by omega)]
    have s3 : ∀ b, dn T D v = b → Ev (fun k => spec_l06Productive.l2 k L D x5 (j : Int) b (2 + 1) v T) r := by
      intro b hb
      exact Ev.step (fun k => by rw [spec_l06Productive.l2, if_pos hr.1, if_pos hr.2, if_neg (by omega)]) (last b hb)
    have s2 : ∀ b, dn T D v = (b && rdOf false D (rd_T77 T v).f2.f2) → Ev (fun k => spec_l06Productive.l2 k L D x5 (j : Int) b (1 + 1) v T) r := by
      intro b hb
      cases b with
      | true => exact Ev.step (fun k => by rw [spec_l06Productive.l2, if_pos hr.1, if_pos hr.2, if_pos (by omega), if_pos hk, if_pos rfl, if_neg (by omega), if_neg (by omega), if_pos (by omega), if_pos a2.1, if_pos (by omega)]) (s3 _ (by rw [hb]; simp))
      | false => exact Ev.step (fun k => by rw [spec_l06Productive.l2, if_pos hr.1, if_pos hr.2, if_pos (by omega), if_pos hk, if_neg (by decide), w2]) (s3 _ (by rw [hb]; simp))
    have s1 : ∀ b, dn T D v = (b && (rdOf false D (rd_T77 T v).f2.f1 && rdOf false D (rd_T77 T v).f2.f2)) → Ev (fun k => spec_l06Productive.l2 k L D x5 (j : Int) b (0 + 1) v T) r := by
      intro b hb
      cases b with
      | true => exact Ev.step (fun k => by rw [spec_l06Productive.l2, if_pos hr.1, if_pos hr.2, if_pos (by omega), if_pos hk, if_pos rfl, if_neg (by omega), if_pos (by omega), if_pos a1.1, if_pos (by omega)]) (s2 _ (by rw [hb]; simp))
      | false => exact Ev.step (fun k => by rw [spec_l06Productive.l2, if_pos hr.1, if_pos hr.2, if_pos (by omega), if_pos hk, if_neg (by decide), w1]) (s2 _ (by rw [hb]; simp))
    exact Ev.step (fun k => by rw [spec_l06Productive.l2, if_pos hr.1, if_pos hr.2, if_pos (by omega), if_pos hk, if_pos rfl, if_pos rfl, if_pos a0.1, if_pos (by omega)]) (s1 _ hd)
  · have hd : dn T D v = true := by unfold dn; rw [if_pos hk]
    exact Ev.step (fun k => by rw [spec_l06Productive.l2, if_pos hr.1, if_pos hr.2, if_pos (by omega), if_neg (by omega)]) (last true hd)
theorem idx104 (ws : List Int) (D : List Bool) (hw : ∀ w ∈ ws, 0 ≤ w ∧ w < (D.length : Int)) (hl : ws.length ≤ 60) (d : Nat) : ∀ i : Nat, i + d = ws.length → ∃ z : Int, decide (z ≥ 0) = (ws.drop i).any (fun w => !rdOf false D w) ∧ ∀ k, d < k → slices_IndexFunc_int16_int16_c104_3.l0 k ws (ws.length : Int) (i : Int) D = some z := by
  induction d with
  | zero =>
    intro i hi
    refine ⟨-1, by rw [List.drop_of_length_le (by omega)]; rfl, fun k hk => ?_⟩
    obtain ⟨k, rfl⟩ : ∃ m, k = m + 1 := ⟨k - 1, by omega⟩
    rw [slices_IndexFunc_int16_int16_c104_3.l0, if_neg (by omega)]
  | succ d ih =>
    intro i hi
    have hil : i < ws.length := by omega
    obtain ⟨q1, q2⟩ := hw ws[i] (List.getElem_mem hil)
    obtain ⟨z, hz, hk2⟩ := ih (i + 1) (by omega)
    have hf : impl_Tree_productive_1.f ws[i] D = some (!rdOf false D ws[i]) := by unfold impl_Tree_productive_1.f; rw [if_pos q1, if_pos q2]
    cases c : rdOf false D ws[i] with
    | false =>
      refine ⟨(i : Int), by rw [List.drop_eq_getElem_cons hil, List.any_cons, c]; simp, fun k hk => ?_⟩
      obtain ⟨k, rfl⟩ : ∃ m, k = m + 1 := ⟨k - 1, by omega⟩
      rw [slices_IndexFunc_int16_int16_c104_3.l0, if_pos (by omega), if_pos (by omega), if_pos (by omega), rd_get _ _ hil, hf, c]; rfl
    | true =>
      refine ⟨z, by rw [List.drop_eq_getElem_cons hil, List.any_cons, c, hz]; simp, fun k hk => ?_⟩
      obtain ⟨k, rfl⟩ : ∃ m, k = m + 1 := ⟨k - 1, by omega⟩
      rw [slices_IndexFunc_int16_int16_c104_3.l0, if_pos (by omega), if_pos (by omega), if_pos (by omega), rd_get _ _ hil, hf, c, wrap64_id (n := (i : Int) + 1) (by omega) (by omega)]
      exact hk2 k (by omega)
theorem con104 (ws : List Int) (D : List Bool) (hw : ∀ w ∈ ws, 0 ≤ w ∧ w < (D.length : Int)) (hl : ws.length ≤ 60) : Ev (fun k => slices_ContainsFunc_int16_int16_c104_2.f k ws D) (ws.any (fun w => !rdOf false D w)) := by
  obtain ⟨z, hz, hk⟩ := idx104 ws D hw hl ws.length 0 (by omega)
  refine Ev.congr (fun k => by unfold slices_ContainsFunc_int16_int16_c104_2.f; rfl) ?_
  refine Ev.bind (show Ev (fun k => slices_IndexFunc_int16_int16_c104_3.f k ws D) z from ⟨ws.length + 1, fun k h => hk k (by omega)⟩) ?_
  rw [hz]; exact Ev.now _
theorem idx105 (ws : List Int) (D : List Bool) (hw : ∀ w ∈ ws, 0 ≤ w ∧ w < (D.length : Int)) (hl : ws.length ≤ 60) (d : Nat) : ∀ i : Nat, i + d = ws.length → ∃ z : Int, decide (z ≥ 0) = (ws.drop i).any (fun w => !rdOf false D w) ∧ ∀ k, d < k → slices_IndexFunc_int16_int16_c105_5.l0 k ws (ws.length : Int) (i : Int) D = some z := by
  induction d with
  | zero =>
    intro i hi
    refine ⟨-1, by rw [List.drop_of_length_le (by omega)]; rfl, fun k hk => ?_⟩
    obtain ⟨k, rfl⟩ : ∃ m, k = m + 1 := ⟨k - 1, by omega⟩
    rw [slices_IndexFunc_int16_int16_c105_5.l0, if_neg (by omega)]
  | succ d ih =>
    intro i hi
    have hil : i < ws.length := by omega
    obtain ⟨q1, q2⟩ := hw ws[i] (List.getElem_mem hil)
    obtain ⟨z, hz, hk2⟩ := ih (i + 1) (by omega)
    have hf : impl_Tree_productive_2.f ws[i] D = some (!rdOf false D ws[i]) := by unfold impl_Tree_productive_2.f; rw [if_pos q1, if_pos q2]
    cases c : rdOf false D ws[i] with
    | false =>
      refine ⟨(i : Int), by rw [List.drop_eq_getElem_cons hil, List.any_cons, c]; simp, fun k hk => ?_⟩
      obtain ⟨k, rfl⟩ : ∃ m, k = m + 1 := ⟨k - 1, by omega⟩
      rw [slices_IndexFunc_int16_int16_c105_5.l0, if_pos (by omega), if_pos (by omega), if_pos (by omega), rd_get _ _ hil, hf, c]; rfl
    | true =>
      refine ⟨z, by rw [List.drop_eq_getElem_cons hil, List.any_cons, c, hz]; simp, fun k hk => ?_⟩
      obtain ⟨k, rfl⟩ : ∃ m, k = m + 1 := ⟨k - 1, by omega⟩
      rw [slices_IndexFunc_int16_int16_c105_5.l0, if_pos (by omega), if_pos (by omega), if_pos (by omega), rd_get _ _ hil, hf, c, wrap64_id (n := (i : Int) + 1) (by omega) (by omega)]
      exact hk2 k (by omega)
theorem con105 (ws : List Int) (D : List Bool) (hw : ∀ w ∈ ws, 0 ≤ w ∧ w < (D.length : Int)) (hl : ws.length ≤ 60) : Ev (fun k => slices_ContainsFunc_int16_int16_c105_4.f k ws D) (ws.any (fun w => !rdOf false D w)) := by
  obtain ⟨z, hz, hk⟩ := idx105 ws D hw hl ws.length 0 (by omega)
  refine Ev.congr (fun k => by unfold slices_ContainsFunc_int16_int16_c105_4.f; rfl) ?_
  refine Ev.bind (show Ev (fun k => slices_IndexFunc_int16_int16_c105_5.f k ws D) z from ⟨ws.length + 1, fun k h => hk k (by omega)⟩) ?_
  rw [hz]; exact Ev.now _
theorem impl_done (T : List S77) (L : List Int) (D : List Bool) (hn : T.length ≤ 60) (hD : D.length = T.length) (hL : L.length ≤ 60) (x16 : Int) (j : Nat) (hj : j < L.length) (hr : 0 ≤ L[j] ∧ L[j] < (T.length : Int)) (ho : okF T.length (rd_T77 T L[j]) = true) (m : Int) (r : Bool)
    (h : Ev (fun k => impl_Tree_productive.l1 k L m x16 L (L.length : Int) (wrap64 ((j : Int) + 1)) T (D.set L[j].toNat (dn T D L[j]))) r) : Ev (fun k => impl_Tree_productive.l1 k L m x16 L (L.length : Int) (j : Int) T D) r := by
  obtain ⟨a0, a1, a2, a3⟩ := okF_is ho
  rcases a3 with hk | hk
  · refine Ev.step (fun k => by rw [impl_Tree_productive.l1, if_pos (by omega), if_pos (by omega), if_pos (by omega), rd_get _ _ hj, if_pos hr.1, if_pos hr.2, if_neg (by omega)]) ?_
    refine Ev.bind (show Ev (fun _ => impl_Fork_ways.f (rd_T77 T L[j]).f0 (rd_T77 T L[j]).f1 (rd_T77 T L[j]).f2.f0 (rd_T77 T L[j]).f2.f1 (rd_T77 T L[j]).f2.f2) (wl (rd_T77 T L[j])) from ⟨0, fun k _ => rfl⟩) ?_
    have hws := wl_in ho
    have hl3 : (wl (rd_T77 T L[j])).length ≤ 60 := by unfold wl; split <;> simp
    refine Ev.bind (con104 _ D (fun w hw => by have := hws w hw; omega) hl3) ?_
    refine Ev.congr (fun k => if_pos (by omega)) ?_
    have e : (!((wl (rd_T77 T L[j])).any (fun w => !rdOf false D w))) = dn T D L[j] := by
      unfold dn wl; rw [if_neg (by omega), if_neg (by omega)]
      simp
    rw [e]; exact h
  · have hd : dn T D L[j] = true := by unfold dn; rw [if_pos hk]
    rw [hd] at h
    refine Ev.step (fun k => by rw [impl_Tree_productive.l1, if_pos (by omega), if_pos (by omega), if_pos (by omega), rd_get _ _ hj, if_pos hr.1, if_pos hr.2, if_pos hk, if_pos (by omega)]) ?_
    exact h
theorem round_both (T : List S77) (L : List Int) (hn : T.length ≤ 60) (hg : Good T T.length L) (ho : ∀ j : Nat, j < T.length → okF T.length (rd_T77 T (j : Int)) = true) (x5 m : Int) (d : Nat) : ∀ (j : Nat) (D : List Bool), j + d = L.length → D.length = T.length → ∃ D' : List Bool, D'.length = T.length ∧
    (∀ r, Ev (fun k => spec_l06Productive.l0 k L D' (wrap64 (x5 + 1)) T) r → Ev (fun k => spec_l06Productive.l1 k L D x5 (j : Int) T) r) ∧
    (∀ r, Ev (fun k => impl_Tree_productive.l0 k L m (wrap64 (x5 + 1)) T D') r → Ev (fun k => impl_Tree_productive.l1 k L m x5 L (L.length : Int) (j : Int) T D) r) := by
  obtain ⟨g1, g2, g3, g4⟩ := hg
  induction d with
  | zero =>
    intro j D hj hD
    refine ⟨D, hD, fun r h => ?_, fun r h => ?_⟩
    · exact Ev.step (fun k => by rw [spec_l06Productive.l1, if_neg (by omega)]) h
    · exact Ev.step (fun k => by rw [impl_Tree_productive.l1, if_neg (by omega)]) h
  | succ d ih =>
    intro j D hj hD
    have hjl : j < L.length := by omega
    have hv := g2 L[j] (List.getElem_mem hjl)
    have hok : okF T.length (rd_T77 T L[j]) = true := by
      have := ho L[j].toNat (by omega)
      rwa [show ((L[j].toNat : Nat) : Int) = L[j] by omega] at this
    have w1 : wrap64 ((j : Int) + 1) = ((j + 1 : Nat) : Int) := by rw [wrap64_id (by omega) (by omega)]; omega
    obtain ⟨D', d1, d2, d3⟩ := ih (j + 1) (D.set L[j].toNat (dn T D L[j])) (by omega) (by simpa using hD)
    refine ⟨D', d1, fun r h => ?_, fun r h => ?_⟩
    · refine Ev.step (fun k => by rw [spec_l06Productive.l1, if_pos (by omega), if_pos (by omega), rd_get _ _ hjl, if_pos hv.1, if_pos hv.2]) ?_
      exact spec_done T L D hn hD x5 j hjl L[j] (rd_get _ _ hjl) hv hok r (by rw [w1]; exact d2 r h)
    · exact impl_done T L D hn hD (by omega) x5 j hjl hv hok m r (by rw [w1]; exact d3 r h)
theorem rounds_both (T : List S77) (L : List Int) (hn : T.length ≤ 60) (hg : Good T T.length L) (ho : ∀ j : Nat, j < T.length → okF T.length (rd_T77 T (j : Int)) = true) (d : Nat) : ∀ (i : Nat) (D : List Bool), i + d = L.length → D.length = T.length → ∃ D' : List Bool, D'.length = T.length ∧
    (∀ r, Ev (fun k => spec_l06Productive.l3 k L D' 0) r → Ev (fun k => spec_l06Productive.l0 k L D (i : Int) T) r) ∧
    (∀ r, Ev (fun k => (if 0 < (D'.length : Int) then (if rdOf false D' 0 = true then ((slices_ContainsFunc_int16_int16_c105_4.f k L D').bind fun t248 => (some (!t248))) else (some false)) else (none))) r → Ev (fun k => impl_Tree_productive.l0 k L (L.length : Int) (i : Int) T D) r) := by
  have hl := hg.1
  induction d with
  | zero =>
    intro i D hi hD
    refine ⟨D, hD, fun r h => ?_, fun r h => ?_⟩
    · exact Ev.step (fun k => by rw [spec_l06Productive.l0, if_neg (by omega)]) h
    · exact Ev.step (fun k => by rw [impl_Tree_productive.l0, if_neg (by omega)]) h
  | succ d ih =>
    intro i D hi hD
    have w1 : wrap64 ((i : Int) + 1) = ((i + 1 : Nat) : Int) := by rw [wrap64_id (by omega) (by omega)]; omega
    obtain ⟨D1, b1, b2, b3⟩ := round_both T L hn hg ho (i : Int) (L.length : Int) L.length 0 D (by omega) hD
    obtain ⟨D', d1, d2, d3⟩ := ih (i + 1) D1 (by omega) b1
    refine ⟨D', d1, fun r h => ?_, fun r h => ?_⟩
    · refine Ev.step (fun k => by rw [spec_l06Productive.l0, if_pos (by omega)]) ?_
      exact b2 r (by rw [w1]; exact d2 r h)
    · refine Ev.step (fun k => by rw [impl_Tree_productive.l0, if_pos (by omega)]) ?_
      exact b3 r (by rw [w1]; exact d3 r h)
theorem spec_all (L : List Int) (D : List Bool) (hw : ∀ w ∈ L, 0 ≤ w ∧ w < (D.length : Int)) (hl : L.length ≤ 60) (d : Nat) : ∀ i : Nat, i + d = L.length → Ev (fun k => spec_l06Productive.l3 k L D (i : Int)) (!((L.drop i).any (fun w => !rdOf false D w))) := by
  induction d with
  | zero =>
    intro i hi
    rw [List.drop_of_length_le (by omega)]
    refine Ev.step (fun k => by rw [spec_l06Productive.l3, if_neg (by omega)]) ?_
    exact Ev.now _
  | succ d ih =>
    intro i hi
    have hil : i < L.length := by omega
    obtain ⟨q1, q2⟩ := hw L[i] (List.getElem_mem hil)
    rw [List.drop_eq_getElem_cons hil, List.any_cons]
    cases c : rdOf false D L[i] with
    | false =>
      refine Ev.step (fun k => by rw [spec_l06Productive.l3, if_pos (by omega), if_pos (by omega), rd_get _ _ hil, if_pos q1, if_pos q2, c, if_neg (by decide)]) ?_
      exact Ev.now _
    | true =>
      refine Ev.step (fun k => by rw [spec_l06Productive.l3, if_pos (by omega), if_pos (by omega), rd_get _ _ hil, if_pos q1, if_pos q2, c, if_pos rfl, wrap64_id (n := (i : Int) + 1) (by omega) (by omega)]) ?_
      simpa using ih (i + 1) (by omega)
theorem productive_both (T : List S77) (hw : ∀ i : Nat, i < T.length → nar (rd_T77 T (i : Int))) (hl : T.length ≤ 17592186044416) : ∃ r : Bool × Int, Ev (fun k => spec_IsProductive.f k T) r ∧ Ev (fun k => impl_IsProductive.f k T) r := by
  obtain ⟨b, hb, es, ei⟩ := ok_both2 T hw hl
  cases b with
  | false =>
    refine ⟨(false, 1), ?_, ?_⟩
    · refine Ev.congr (fun k => by unfold spec_IsProductive.f; rfl) (Ev.bind es ?_)
      exact Ev.now _
    · refine Ev.congr (fun k => by unfold impl_IsProductive.f; rfl) (Ev.bind ei ?_)
      exact Ev.now _
  | true =>
    obtain ⟨⟨n1, n2⟩, ho⟩ := hb rfl
    obtain ⟨L, hg, h0, fs, fi⟩ := found_ev T n1 n2 ho
    have g1 := hg.1
    obtain ⟨D, d1, d2, d3⟩ := rounds_both T L n2 hg ho L.length 0 (List.replicate T.length false) (by omega) (by simp)
    have hwD : ∀ w ∈ L, 0 ≤ w ∧ w < (D.length : Int) := fun w h => by have := hg.2.1 w h; omega
    have sa := spec_all L D hwD (by omega) L.length 0 (by omega)
    rw [List.drop_zero] at sa
    refine ⟨(!(L.any (fun w => !rdOf false D w)), 0), ?_, ?_⟩
    · refine Ev.congr (fun k => by unfold spec_IsProductive.f; rfl) (Ev.bind es ?_)
      refine Ev.congr (fun k => if_pos rfl) ?_
      refine Ev.bind (show Ev (fun k => spec_l06Productive.f k T) (!(L.any (fun w => !rdOf false D w))) from ?_) (Ev.now _)
      refine Ev.congr (fun k => by unfold spec_l06Productive.f; rfl) (Ev.bind fs ?_)
      refine Ev.congr (fun k => by rw [if_pos (by omega), if_pos (by omega), Int.toNat_natCast]) ?_
      exact d2 _ sa
    · refine Ev.congr (fun k => by unfold impl_IsProductive.f; rfl) (Ev.bind ei ?_)
      refine Ev.congr (fun k => if_pos rfl) ?_
      refine Ev.bind (show Ev (fun k => impl_Tree_productive.f k T) (!(L.any (fun w => !rdOf false D w))) from ?_) (Ev.now _)
      refine Ev.congr (fun k => by unfold impl_Tree_productive.f; rfl) (Ev.bind fi ?_)
      refine Ev.congr (fun k => by rw [if_pos (by omega), if_pos (by omega), Int.toNat_natCast]) ?_
      refine d3 _ ?_
      refine Ev.congr (fun k => if_pos (by omega)) ?_
      cases c : rdOf false D 0 with
      | true =>
        refine Ev.congr (fun k => if_pos rfl) ?_
        exact Ev.bind (con105 L D hwD (by omega)) (Ev.now _)
      | false =>
        refine Ev.congr (fun k => if_neg (by decide)) ?_
        have : L.any (fun w => !rdOf false D w) = true := List.any_eq_true.mpr ⟨0, h0, by simp [c]⟩
        rw [this]; exact Ev.now _
theorem FnExactIsProductive : laws_FnExactIsProductive.Pure := by
  intro x ⟨hx, hz⟩
  obtain ⟨r, hr, h1⟩ := szTree_eq x.f0 1048576 (by omega) (by omega) (by omega)
  apply Ev.rounds (r := true)
  refine Ev.congr (fun k => by unfold laws_FnExactIsProductive.f; rw [hr]) ?_
  by_cases c : r < 0
  · exact Ev.congr (fun k => if_pos c) (Ev.now _)
  refine Ev.congr (fun k => if_neg c) ?_
  have hn : (cvT x.f0).length ≤ 17592186044416 := by rw [cvT_length]; omega
  obtain ⟨⟨q1, q2⟩, es, ei⟩ := productive_both (cvT x.f0) (cvT_nar x.f0 hz) hn
  have tv := toTree_ev x.f0 (by omega)
  have tq := eqTree_ev (cvT x.f0) (by omega)
  repeat' (first
    | (refine Ev.bind tv ?_; try dsimp only)
    | (refine Ev.bind es ?_; try dsimp only)
    | (refine Ev.bind ei ?_; try dsimp only)
    | (refine Ev.bind tq ?_; try dsimp only)
    | exact ⟨0, fun k _ => rfl⟩
    | (refine Ev.congr (fun k => if_pos rfl) ?_; try dsimp only)
    | (refine Ev.congr (fun k => if_neg (by simp; done)) ?_; try dsimp only)
    | (refine Ev.congr (fun k => if_pos (by simp; done)) ?_; try dsimp only)
    | (refine Ev.step (fun k => by rw [laws_FnExactIsProductive.j0]) ?_; try dsimp only)
    )
end Go.Proofs.Ytlccefmimpmgjaa.Pure
