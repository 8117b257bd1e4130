/- The program's SameTree says what the reference's says, for every two trees, and leaves them as they were. -/
import Derived.Test.YtlccefmimpmgjaaMFnExactSameTreex4
import Derived.Test.YtlccefmimpmgjaaMOpen
namespace Go.Proofs.Ytlccefmimpmgjaa.Pure
open Go.RowKit Go.Proofs.Ytlccefmimpmgjaa.MFnExactSameTree Go.Proofs.Ytlccefmimpmgjaa.MOpen Go.Proofs.YtlccefmimpmgjaaW.PrintWords Go.Proofs.YtlccefmimpmgjaaW.PrintLast Go.Proofs.YtlccefmimpmgjaaW.PrintMore
set_option linter.unusedVariables false
set_option linter.unusedSimpArgs false
theorem wrap64_id {n : Int} (h0 : -9223372036854775808 ≤ n) (h1 : n ≤ 9223372036854775807) : wrap64 n = n := by
  unfold wrap64; omega
theorem rd_nat (xs : List Int) (i : Nat) : rd xs (i : Int) = xs.getD i 0 := by simp [rd]
theorem rd_get (xs : List Int) (i : Nat) (h : i < xs.length) : rd xs (i : Int) = xs[i] := by simp [rd, h]
theorem ev_k {α : Type} {f : Nat → Option α} {r : α} (n : Nat) (h : ∀ k, n ≤ k → f k = some r) : Ev f r := ⟨n, h⟩
/-- A list of n elements of which the first i are told. -/
def built {α : Type} (g : Nat → α) (z : α) (n i : Nat) : List α := (List.range i).map g ++ List.replicate (n - i) z
theorem built_zero {α : Type} (g : Nat → α) (z : α) (n : Nat) : built g z n 0 = List.replicate n z := by simp [built]
theorem built_all {α : Type} (g : Nat → α) (z : α) (n : Nat) : built g z n n = (List.range n).map g := by simp [built]
theorem built_length {α : Type} (g : Nat → α) (z : α) (n i : Nat) (h : i ≤ n) : (built g z n i).length = n := by simp [built]; omega
theorem built_set {α : Type} (g : Nat → α) (z : α) (n i : Nat) (h : i < n) : (built g z n i).set i (g i) = built g z n (i + 1) := by
  unfold built
  rw [List.set_append_right _ _ (by simp), show n - i = (n - (i + 1)) + 1 by omega, List.replicate_succ]
  simp [List.range_succ]
/-- A fork's moves, as the conversion leaves them: the same numbers in the other type. -/
def cvF (x : S129) : S77 := ⟨x.f0, x.f1, ⟨x.f2.f0, x.f2.f1, x.f2.f2⟩⟩
/-- A whole list of moves in the other type. -/
def cvT (xs : List S129) : List S77 := (List.range xs.length).map (fun j : Nat => cvF (rd_T129 xs (j : Int)))
theorem cvT_length (xs : List S129) : (cvT xs).length = xs.length := by simp [cvT]
theorem toInt16A3_ev (a b c : Int) (k : Nat) (h : 4 ≤ k) : laws_toInt16A3.f k a b c = some (a, b, c) := by
  obtain ⟨k, rfl⟩ : ∃ m, k = m + 4 := ⟨k - 4, by omega⟩
  unfold laws_toInt16A3.f
  simp [laws_toInt16A3.l0, wrap64, aput, rd]
theorem toFork_ev (a b c d e : Int) (k : Nat) (h : 4 ≤ k) : laws_toFork.f k a b c d e = some (a, b, c, d, e) := by
  obtain ⟨k, rfl⟩ : ∃ m, k = m + 4 := ⟨k - 4, by omega⟩
  unfold laws_toFork.f
  rw [toInt16A3_ev _ _ _ _ (by omega)]; rfl
theorem toForkS_loop (xs : List S129) (hn : xs.length ≤ 4611686018427387904) (d : Nat) : ∀ (i k : Nat), i + d = xs.length → d + 4 < k → laws_toForkS.l0 k xs (built (fun j : Nat => cvF (rd_T129 xs (j : Int))) z77 xs.length i) (i : Int) = some (cvT xs) := by
  induction d with
  | zero =>
    intro i k hd hk
    obtain ⟨k, rfl⟩ : ∃ m, k = m + 1 := ⟨k - 1, by omega⟩
    simp only [laws_toForkS.l0]; rw [if_neg (by omega), show i = xs.length by omega, built_all]; rfl
  | succ d ih =>
    intro i k hd hk
    obtain ⟨k, rfl⟩ : ∃ m, k = m + 1 := ⟨k - 1, by omega⟩
    simp only [laws_toForkS.l0]; rw [if_pos (by omega), if_pos (by omega), toFork_ev _ _ _ _ _ _ (by omega)]
    simp only [Option.bind_some]
    rw [if_pos (by rw [built_length _ _ _ _ (by omega)]; omega), wrap64_id (by omega) (by omega), Int.toNat_natCast]
    have hset : (built (fun j : Nat => cvF (rd_T129 xs (j : Int))) z77 xs.length i).set i ⟨(rd_T129 xs (i : Int)).f0, (rd_T129 xs (i : Int)).f1, ⟨(rd_T129 xs (i : Int)).f2.f0, (rd_T129 xs (i : Int)).f2.f1, (rd_T129 xs (i : Int)).f2.f2⟩⟩ = built (fun j : Nat => cvF (rd_T129 xs (j : Int))) z77 xs.length (i + 1) := built_set (fun j : Nat => cvF (rd_T129 xs (j : Int))) z77 xs.length i (by omega)
    rw [hset]
    exact ih (i + 1) k (by omega) (by omega)
theorem toTree_ev (xs : List S129) (hn : xs.length ≤ 17592186044416) : Ev (fun k => laws_toTree.f k xs) (cvT xs) := by
  refine ⟨xs.length + 6, fun k hk => ?_⟩
  show laws_toTree.f k xs = some (cvT xs)
  unfold laws_toTree.f laws_toForkS.f
  rw [if_pos (by omega), if_pos (by simp; omega)]
  have : laws_toForkS.l0 k xs (built (fun j : Nat => cvF (rd_T129 xs (j : Int))) z77 xs.length 0) 0 = some (cvT xs) := toForkS_loop xs (by omega) xs.length 0 k (by omega) (by omega)
  rw [built_zero] at this
  rw [Int.toNat_natCast, this]; rfl
theorem eqInt16A3_same (a b c : Int) (k : Nat) (h : 4 ≤ k) : laws_eqInt16A3.f k a b c a b c = some true := by
  obtain ⟨k, rfl⟩ : ∃ m, k = m + 4 := ⟨k - 4, by omega⟩
  unfold laws_eqInt16A3.f
  simp [laws_eqInt16A3.l0, wrap64, rd]
theorem eqFork_same (a b c d e : Int) (k : Nat) (h : 4 ≤ k) : laws_eqFork.f k a b c d e a b c d e = some true := by
  obtain ⟨k, rfl⟩ : ∃ m, k = m + 4 := ⟨k - 4, by omega⟩
  unfold laws_eqFork.f
  rw [if_pos rfl, if_pos rfl, eqInt16A3_same _ _ _ _ (by omega)]; rfl
theorem eqForkS_loop (xs : List S77) (hn : xs.length ≤ 4611686018427387904) (d : Nat) : ∀ (i k : Nat), i + d = xs.length → d + 4 < k → laws_eqForkS.l0 k xs xs (i : Int) = some true := by
  induction d with
  | zero =>
    intro i k hd hk
    obtain ⟨k, rfl⟩ : ∃ m, k = m + 1 := ⟨k - 1, by omega⟩
    simp only [laws_eqForkS.l0]; rw [if_neg (by omega)]
  | succ d ih =>
    intro i k hd hk
    obtain ⟨k, rfl⟩ : ∃ m, k = m + 1 := ⟨k - 1, by omega⟩
    simp only [laws_eqForkS.l0]; rw [if_pos (by omega), if_pos (by omega), if_pos (by omega), eqFork_same _ _ _ _ _ _ (by omega)]
    simp only [Option.bind_some]
    rw [if_pos trivial, wrap64_id (by omega) (by omega)]
    exact ih (i + 1) k (by omega) (by omega)
theorem eqTree_ev (xs : List S77) (hn : xs.length ≤ 4611686018427387904) : Ev (fun k => laws_eqTree.f k xs xs) true := by
  refine ⟨xs.length + 6, fun k hk => ?_⟩
  show laws_eqTree.f k xs xs = some true
  unfold laws_eqTree.f laws_eqForkS.f
  have h : laws_eqForkS.l0 k xs xs 0 = some true := eqForkS_loop xs hn xs.length 0 k (by omega) (by omega)
  rw [if_pos rfl, h]; rfl
theorem same_loop (xs ys : List S77) (e : xs.length = ys.length) : ∀ (k : Nat) (i : Int), impl_Fork.l0 k xs ys (xs.length : Int) i = spec_l06Same.l0 k i xs ys := by
  intro k
  induction k with
  | zero => intro i; rfl
  | succ k ih =>
    intro i
    simp only [impl_Fork.l0, spec_l06Same.l0, ih]
    by_cases h : i < (xs.length : Int)
    · rw [if_pos h, if_pos h]
      by_cases h0 : 0 ≤ i
      · first | rfl | (rw [if_pos h0, if_pos h0]; first | rfl | rw [if_pos h]) | (rw [if_pos h0]; first | rfl | rw [if_pos h])
      · simp [h0, h]
    · rw [if_neg h, if_neg h]
theorem same_ends (xs ys : List S77) (e : xs.length = ys.length) (hn : xs.length ≤ 4611686018427387904) (d : Nat) : ∀ (i : Nat), i + d = xs.length → ∃ b, ∀ k, d < k → spec_l06Same.l0 k (i : Int) xs ys = some b := by
  induction d with
  | zero =>
    intro i hd
    refine ⟨true, fun k hk => ?_⟩
    obtain ⟨k, rfl⟩ : ∃ m, k = m + 1 := ⟨k - 1, by omega⟩
    simp only [spec_l06Same.l0]; rw [if_neg (by omega)]
  | succ d ih =>
    intro i hd
    obtain ⟨b, hb⟩ := ih (i + 1) (by omega)
    have key : ∀ k, d + 1 < k → ∃ m, k = m + 1 ∧ d < m := fun k hk => ⟨k - 1, by omega, by omega⟩
    by_cases c : (!(((rd_T77 xs i).f0) == ((rd_T77 ys i).f0)) || (!(((rd_T77 xs i).f1) == ((rd_T77 ys i).f1)) || ((!(((rd_T77 xs i).f2.f0) == ((rd_T77 ys i).f2.f0)) || (!(((rd_T77 xs i).f2.f1) == ((rd_T77 ys i).f2.f1)) || (!(((rd_T77 xs i).f2.f2) == ((rd_T77 ys i).f2.f2)))))))) = true
    · refine ⟨false, fun k hk => ?_⟩
      obtain ⟨m, rfl, hm⟩ := key k hk
      simp only [spec_l06Same.l0]; rw [if_pos (by omega), if_pos (by omega), if_pos (by omega), if_pos c]
    · refine ⟨b, fun k hk => ?_⟩
      obtain ⟨m, rfl, hm⟩ := key k hk
      simp only [spec_l06Same.l0]; rw [if_pos (by omega), if_pos (by omega), if_pos (by omega), if_neg c, wrap64_id (by omega) (by omega)]
      exact hb m hm
theorem same_both (xs ys : List S77) (hn : xs.length ≤ 4611686018427387904) : ∃ b, Ev (fun k => spec_SameTree.f k xs ys) b ∧ Ev (fun k => impl_SameTree.f k xs ys) b := by
  unfold spec_SameTree.f impl_SameTree.f spec_l06Same.f impl_Fork.f
  by_cases c : (xs.length : Int) = (ys.length : Int)
  · obtain ⟨b, hb⟩ := same_ends xs ys (by omega) hn xs.length 0 (by omega)
    refine ⟨b, ⟨xs.length + 1, fun k hk => ?_⟩, ⟨xs.length + 1, fun k hk => ?_⟩⟩
    · have := hb k (by omega)
      simp only [if_pos c]
      exact (congrArg (fun o : Option Bool => o.bind fun t => some t) this).trans rfl
    · have := hb k (by omega)
      rw [← same_loop xs ys (by omega)] at this
      simp only [if_pos c]
      exact (congrArg (fun o : Option Bool => o.bind fun t => some t) this).trans rfl
  · exact ⟨false, ⟨0, fun k _ => by simp [if_neg c]⟩, ⟨0, fun k _ => by simp [if_neg c]⟩⟩
theorem szTree_eq (l : List S129) (a : Int) (hl : l.length ≤ 17592186044416) (h0 : 0 ≤ a) (h1 : a ≤ 1048576) : ∃ r, laws_szTree.f l a = some r ∧ (r < 0 ∨ (r ≤ a ∧ 0 ≤ r)) := by
  unfold laws_szTree.f laws_szForkS.f
  rw [wrap64_id (by omega) (by omega)]
  by_cases c : a - (l.length : Int) < 0
  · exact ⟨-1, by simp [c], by omega⟩
  · exact ⟨a - l.length, by simp [c], by omega⟩
theorem FnExactSameTree : laws_FnExactSameTree.Pure := by
  intro x y ⟨hx, _⟩ ⟨hy, _⟩
  obtain ⟨r, hr, h1⟩ := szTree_eq x.f0 1048576 (by omega) (by omega) (by omega)
  unfold laws_FnExactSameTree.f
  simp only [hr, Option.bind_some]
  by_cases c : r < 0
  · exact ⟨0, by rw [if_pos c]⟩
  obtain ⟨s, hs, _⟩ := szTree_eq y.f0 r (by omega) (by omega) (by omega)
  simp only [if_neg c, hs, Option.bind_some]
  by_cases c2 : s < 0
  · exact ⟨0, by rw [if_pos c2]⟩
  simp only [if_neg c2]
  obtain ⟨b, hb, hi⟩ := same_both (cvT x.f0) (cvT y.f0) (by rw [cvT_length]; omega)
  obtain ⟨k1, e1⟩ := toTree_ev x.f0 (by omega)
  obtain ⟨k2, e2⟩ := toTree_ev y.f0 (by omega)
  obtain ⟨k3, e3⟩ := hb
  obtain ⟨k4, e4⟩ := hi
  obtain ⟨k5, e5⟩ := eqTree_ev (cvT x.f0) (by rw [cvT_length]; omega)
  obtain ⟨k6, e6⟩ := eqTree_ev (cvT y.f0) (by rw [cvT_length]; omega)
  have f1 := e1 (k1 + k2 + k3 + k4 + k5 + k6) (by omega)
  have f2 := e2 (k1 + k2 + k3 + k4 + k5 + k6) (by omega)
  have f3 := e3 (k1 + k2 + k3 + k4 + k5 + k6) (by omega)
  have f4 := e4 (k1 + k2 + k3 + k4 + k5 + k6) (by omega)
  have f5 := e5 (k1 + k2 + k3 + k4 + k5 + k6) (by omega)
  have f6 := e6 (k1 + k2 + k3 + k4 + k5 + k6) (by omega)
  refine ⟨k1 + k2 + k3 + k4 + k5 + k6, ?_⟩
  simp only at f1 f2 f3 f4 f5 f6
  simp [f1, f2, f3, f4, f5, f6]
end Go.Proofs.Ytlccefmimpmgjaa.Pure
