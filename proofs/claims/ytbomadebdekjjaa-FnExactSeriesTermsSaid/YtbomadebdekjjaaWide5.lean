/- Own text of this session: wide numbers by hand walks. -/
import Derived.Test.YtbomadebdekjjaaWide4
namespace Go.Proofs.Ytbomadebdekjjaa.Wide
open Go.RowKit Go.Proofs.Ytbomadebdekjjaa.MOpen Go.Proofs.YtbomadebdekjjaaW.PrintWords Go.Proofs.YtbomadebdekjjaaW.PrintLast Go.Proofs.YtbomadebdekjjaaW.PrintMore
attribute [local go_sem] max2_int min2_int max_two min_two max_three min_three max_four min_four
set_option linter.unusedVariables false
set_option linter.unusedSimpArgs false
attribute [local go_sem high] eqA111 eqA126
theorem lb_dbl {r e k : Nat} (he : e ≤ 1) (hk : 1 ≤ k) : lb (2 * r + e) k = lb (r * 2 ^ 1) k := by
  obtain ⟨j, rfl⟩ : ∃ j, k = j + 1 := ⟨k - 1, by omega⟩
  unfold lb
  have h : (4294967296 : Nat) ^ (j + 1) = 2 * (2147483648 * 4294967296 ^ j) := by rw [Nat.pow_succ, Nat.mul_comm, ← Nat.mul_assoc]
  rw [h, ← Nat.div_div_eq_div_mul (2 * r + e) 2, ← Nat.div_div_eq_div_mul (r * 2 ^ 1) 2, show (2 * r + e) / 2 = r by omega, show r * 2 ^ 1 / 2 = r by omega]
theorem shl_at {r e k : Nat} {A C : Int} (he : e ≤ 1) (hk : 1 ≤ k) (hA : A = ((lb r k : Nat) : Int)) (hC : C = ((lb r (k - 1) : Nat) : Int)) : bits .or .u32 (A * 2 % 4294967296) (C / 2147483648) = ((lb (2 * r + e) k : Nat) : Int) := by
  have h := or_up (x := r) (m := k) (b := 1) (G := A * 2 % 4294967296) (Q := C / 2147483648) (by omega) (by decide) (by rw [hA]; simp only [show 1 / 32 = 0 from rfl, show 1 % 32 = 1 from rfl, Nat.sub_zero, Nat.pow_one]; omega) (by rw [hC]; simp only [show 1 / 32 = 0 from rfl, show 1 % 32 = 1 from rfl, Nat.sub_zero, Nat.reduceSub, Nat.reducePow]; omega)
  rw [h, lb_dbl he hk]
theorem or_low {a e : Nat} (ha : a < 4294967296) (h2 : a % 2 = 0) (he : e ≤ 1) : bits .or .u32 (a : Int) (e : Int) = ((a + e : Nat) : Int) := by
  rw [Int.natCast_add]
  exact bits_join .u32 32 (by decide) wraps_u32 1 a e (Int.natCast_nonneg _) (by exact_mod_cast h2) (by exact_mod_cast ha) (Int.natCast_nonneg _) (by exact_mod_cast (show e < 2 ^ 1 by omega)) (by exact_mod_cast (show e < 2 ^ 32 by omega))
theorem shl_zero {r e : Nat} {A E : Int} (he : e ≤ 1) (hA : A = ((lb r 0 : Nat) : Int)) (hE : E = (e : Int)) : bits .or .u32 (A * 2 % 4294967296) E = ((lb (2 * r + e) 0 : Nat) : Int) := by
  have e0 : A * 2 % 4294967296 = ((lb r 0 * 2 % 4294967296 : Nat) : Int) := by rw [hA]; omega
  rw [e0, hE, or_low (Nat.mod_lt _ (by decide)) (by omega) he]
  unfold lb
  rw [Nat.pow_zero, Nat.div_one, Nat.div_one]
  omega
theorem bit_at (x m : Nat) : lb x (m / 32) / 2 ^ (m % 32) % 2 = x / 2 ^ m % 2 := by
  unfold lb
  have h : (2 : Nat) ^ m = 4294967296 ^ (m / 32) * 2 ^ (m % 32) := by
    rw [show (4294967296 : Nat) = 2 ^ 32 by decide, ← Nat.pow_mul, ← Nat.pow_add]; congr 1; omega
  rw [h, ← Nat.div_div_eq_div_mul]
  generalize x / 4294967296 ^ (m / 32) = z
  have hr : m % 32 < 32 := Nat.mod_lt _ (by decide)
  generalize m % 32 = r at hr
  have h2 : (4294967296 : Nat) = 2 ^ r * (2 * 2 ^ (31 - r)) := by
    rw [← Nat.pow_succ', ← Nat.pow_add, show r + (31 - r + 1) = 32 by omega]
  rw [h2, Nat.mod_mul_right_div_self]
  rw [Nat.mod_mul_right_mod]
theorem lb_pad (Z j d : Nat) : lb (4294967296 ^ j * Z) (j + d) = lb Z d := by
  unfold lb
  rw [Nat.pow_add, Nat.mul_div_mul_left _ _ (bpos j)]
theorem lb_pad0 (Z j k : Nat) (h : k < j) : lb (4294967296 ^ j * Z) k = 0 := by
  have := lb_low 0 Z j k h
  rw [Nat.zero_add, Nat.mul_comm] at this
  rw [this, lb0]
theorem add_bit_hi {Q t d : Nat} (ht : t < 32) (hd : 1 ≤ d) : lb (Q * 2 ^ (t + 1) + 2 ^ t) d = lb (Q * 2 ^ (t + 1)) d := by
  obtain ⟨c, rfl⟩ : ∃ c, d = c + 1 := ⟨d - 1, by omega⟩
  unfold lb
  have h : (4294967296 : Nat) ^ (c + 1) = 2 ^ (t + 1) * (2 ^ (31 - t) * 4294967296 ^ c) := by
    rw [← Nat.mul_assoc, ← Nat.pow_add, show t + 1 + (31 - t) = 32 by omega, Nat.pow_succ, Nat.mul_comm]
  have hp : 0 < 2 ^ (t + 1) := Nat.pow_pos (by decide)
  have e1 : (Q * 2 ^ (t + 1) + 2 ^ t) / 2 ^ (t + 1) = Q := by
    rw [Nat.mul_comm Q, Nat.mul_add_div hp, Nat.div_eq_of_lt (Nat.pow_lt_pow_right (by decide) (by omega)), Nat.add_zero]
  rw [h, ← Nat.div_div_eq_div_mul (Q * 2 ^ (t + 1) + 2 ^ t), ← Nat.div_div_eq_div_mul (Q * 2 ^ (t + 1)), e1, Nat.mul_div_cancel _ hp]
theorem add_bit_lo {Q t : Nat} (ht : t < 32) : lb (Q * 2 ^ (t + 1)) 0 % 2 ^ (t + 1) = 0 ∧ lb (Q * 2 ^ (t + 1) + 2 ^ t) 0 = lb (Q * 2 ^ (t + 1)) 0 + 2 ^ t := by
  have hB : (4294967296 : Nat) = 2 ^ (t + 1) * 2 ^ (31 - t) := by rw [← Nat.pow_add, show t + 1 + (31 - t) = 32 by omega]
  unfold lb
  rw [Nat.pow_zero, Nat.div_one, Nat.div_one]
  have e1 : Q * 2 ^ (t + 1) % 4294967296 = 2 ^ (t + 1) * (Q % 2 ^ (31 - t)) := by rw [hB, Nat.mul_comm Q, Nat.mul_mod_mul_left]
  refine ⟨by rw [e1, Nat.mul_mod_right], ?_⟩
  have hp : 2 ^ t < 2 ^ (t + 1) := Nat.pow_lt_pow_right (by decide) (by omega)
  have hlt : Q % 2 ^ (31 - t) + 1 ≤ 2 ^ (31 - t) := Nat.mod_lt _ (Nat.pow_pos (by decide))
  have h2 : 2 ^ (t + 1) * (Q % 2 ^ (31 - t) + 1) ≤ 4294967296 := by rw [hB]; exact Nat.mul_le_mul_left _ hlt
  rw [Nat.mul_add, Nat.mul_one] at h2
  rw [Nat.add_mod, e1, Nat.mod_eq_of_lt (a := 2 ^ t) (by omega), Nat.mod_eq_of_lt (by omega)]
theorem q_bit {Q m : Nat} {O : Int} (hO : O = ((lb (Q * 2 ^ (m + 1)) (m / 32) : Nat) : Int)) : bits .or .u32 O (1 * 2 ^ (m % 32) % 4294967296) = ((lb (Q * 2 ^ (m + 1) + 2 ^ m) (m / 32) : Nat) : Int) := by
  have hr : m % 32 < 32 := Nat.mod_lt _ (by decide)
  have e1 : Q * 2 ^ (m + 1) = 4294967296 ^ (m / 32) * (Q * 2 ^ (m % 32 + 1)) := by
    rw [Nat.mul_left_comm, show (4294967296 : Nat) = 2 ^ 32 by decide, ← Nat.pow_mul, ← Nat.pow_add]; congr 2; omega
  have e2 : (2 : Nat) ^ m = 4294967296 ^ (m / 32) * 2 ^ (m % 32) := by
    rw [show (4294967296 : Nat) = 2 ^ 32 by decide, ← Nat.pow_mul, ← Nat.pow_add]; congr 1; omega
  have e3 : Q * 2 ^ (m + 1) + 2 ^ m = 4294967296 ^ (m / 32) * (Q * 2 ^ (m % 32 + 1) + 2 ^ (m % 32)) := by rw [Nat.mul_add, ← e1, ← e2]
  have l1 : lb (4294967296 ^ (m / 32) * (Q * 2 ^ (m % 32 + 1))) (m / 32) = lb (Q * 2 ^ (m % 32 + 1)) 0 := lb_pad (Q * 2 ^ (m % 32 + 1)) (m / 32) 0
  have l2 : lb (4294967296 ^ (m / 32) * (Q * 2 ^ (m % 32 + 1) + 2 ^ (m % 32))) (m / 32) = lb (Q * 2 ^ (m % 32 + 1) + 2 ^ (m % 32)) 0 := lb_pad (Q * 2 ^ (m % 32 + 1) + 2 ^ (m % 32)) (m / 32) 0
  rw [e3, l2, hO, e1, l1]
  obtain ⟨a1, a2⟩ := add_bit_lo (Q := Q) hr
  rw [a2]
  have hlt := lb_lt (Q * 2 ^ (m % 32 + 1)) 0
  have hp : (2 : Nat) ^ (m % 32) < 2 ^ (m % 32 + 1) := Nat.pow_lt_pow_right (by decide) (by omega)
  have hp2 : (2 : Nat) ^ (m % 32) < 2 ^ 32 := Nat.pow_lt_pow_right (by decide) hr
  have e4 : (1 : Int) * 2 ^ (m % 32) % 4294967296 = ((2 ^ (m % 32) : Nat) : Int) := by
    rw [Int.one_mul, Int.natCast_pow]
    have : ((2 ^ (m % 32) : Nat) : Int) % 4294967296 = ((2 ^ (m % 32) : Nat) : Int) := by omega
    rw [Int.natCast_pow] at this
    exact this
  rw [e4, Int.natCast_add]
  exact bits_join .u32 32 (by decide) wraps_u32 (m % 32 + 1) _ _ (Int.natCast_nonneg _) (by exact_mod_cast a1) (by exact_mod_cast hlt) (Int.natCast_nonneg _) (by exact_mod_cast hp) (by exact_mod_cast hp2)
theorem q_far {Q m k : Nat} (hk : k ≠ m / 32) : lb (Q * 2 ^ (m + 1) + 2 ^ m) k = lb (Q * 2 ^ (m + 1)) k := by
  have hr : m % 32 < 32 := Nat.mod_lt _ (by decide)
  have e1 : Q * 2 ^ (m + 1) = 4294967296 ^ (m / 32) * (Q * 2 ^ (m % 32 + 1)) := by
    rw [Nat.mul_left_comm, show (4294967296 : Nat) = 2 ^ 32 by decide, ← Nat.pow_mul, ← Nat.pow_add]; congr 2; omega
  have e2 : (2 : Nat) ^ m = 4294967296 ^ (m / 32) * 2 ^ (m % 32) := by
    rw [show (4294967296 : Nat) = 2 ^ 32 by decide, ← Nat.pow_mul, ← Nat.pow_add]; congr 1; omega
  have e3 : Q * 2 ^ (m + 1) + 2 ^ m = 4294967296 ^ (m / 32) * (Q * 2 ^ (m % 32 + 1) + 2 ^ (m % 32)) := by rw [Nat.mul_add, ← e1, ← e2]
  rw [e3, e1]
  by_cases c : k < m / 32
  · rw [lb_pad0 _ _ _ c, lb_pad0 _ _ _ c]
  · obtain ⟨d, rfl⟩ : ∃ d, k = m / 32 + d := ⟨k - m / 32, by omega⟩
    rw [lb_pad, lb_pad, add_bit_hi hr (by omega)]
theorem div_half (x m : Nat) : x / 2 ^ m = 2 * (x / 2 ^ (m + 1)) + x / 2 ^ m % 2 := by
  rw [Nat.pow_succ, ← Nat.div_div_eq_div_mul]; omega
theorem dv_yes {x y m D : Nat} (hy : 0 < y) (hD : D = 2 * (x / 2 ^ (m + 1) % y) + x / 2 ^ m % 2) (h : y ≤ D) : x / 2 ^ m % y = D - y ∧ x / 2 ^ m / y * 2 ^ m = x / 2 ^ (m + 1) / y * 2 ^ (m + 1) + 2 ^ m := by
  have e := div_half x m
  have h1 := Nat.div_add_mod (x / 2 ^ (m + 1)) y
  have h2 := Nat.mod_lt (x / 2 ^ (m + 1)) hy
  have h3 : x / 2 ^ m = y * (2 * (x / 2 ^ (m + 1) / y) + 1) + (D - y) := by
    rw [e]
    conv => lhs; rw [← h1]
    rw [Nat.mul_add 2, Nat.mul_add y, Nat.mul_one, Nat.mul_left_comm y 2]; omega
  have h4 : D - y < y := by omega
  refine ⟨by rw [h3, Nat.mul_add_mod, Nat.mod_eq_of_lt h4], ?_⟩
  have h5 : x / 2 ^ m / y = 2 * (x / 2 ^ (m + 1) / y) + 1 := by rw [h3, Nat.mul_add_div hy, Nat.div_eq_of_lt h4, Nat.add_zero]
  rw [h5, Nat.add_mul, Nat.one_mul, Nat.pow_succ, Nat.mul_comm 2, Nat.mul_assoc, Nat.mul_comm 2]
theorem dv_no {x y m D : Nat} (hD : D = 2 * (x / 2 ^ (m + 1) % y) + x / 2 ^ m % 2) (h : D < y) : x / 2 ^ m % y = D ∧ x / 2 ^ m / y * 2 ^ m = x / 2 ^ (m + 1) / y * 2 ^ (m + 1) := by
  have e := div_half x m
  have h1 := Nat.div_add_mod (x / 2 ^ (m + 1)) y
  have hy : 0 < y := by omega
  have h3 : x / 2 ^ m = y * (2 * (x / 2 ^ (m + 1) / y)) + D := by
    rw [e]
    conv => lhs; rw [← h1]
    rw [Nat.mul_add, Nat.mul_left_comm y 2]; omega
  refine ⟨by rw [h3, Nat.mul_add_mod, Nat.mod_eq_of_lt h], ?_⟩
  have h5 : x / 2 ^ m / y = 2 * (x / 2 ^ (m + 1) / y) := by rw [h3, Nat.mul_add_div hy, Nat.div_eq_of_lt h, Nat.add_zero]
  rw [h5, Nat.pow_succ, Nat.mul_comm 2, Nat.mul_assoc, Nat.mul_comm 2]
theorem top_bit {R e : Nat} (h : R < 4294967296 ^ 6) : (lb R 5 / 2147483648 = 1 ∧ 4294967296 ^ 6 ≤ 2 * R + e) ∨ (lb R 5 / 2147483648 = 0 ∧ 2 * R + 1 < 4294967296 ^ 6) := by
  have h0 : R / 4294967296 ^ 5 < 4294967296 := by rw [Nat.div_lt_iff_lt_mul (bpos 5)]; exact Nat.lt_of_lt_of_le h (by decide)
  have h1 : lb R 5 = R / 4294967296 ^ 5 := by unfold lb; exact Nat.mod_eq_of_lt h0
  rw [h1]
  simp only [Nat.reducePow] at *
  omega
theorem top_bitI {R e : Nat} (h : R < 4294967296 ^ 6) : (((lb R 5 : Nat) : Int) / 2147483648 = 1 ∧ 4294967296 ^ 6 ≤ 2 * R + e) ∨ (((lb R 5 : Nat) : Int) / 2147483648 = 0 ∧ 2 * R + 1 < 4294967296 ^ 6) := by
  rcases top_bit (e := e) h with ⟨a, b⟩ | ⟨a, b⟩
  · exact .inl ⟨by omega, b⟩
  · exact .inr ⟨by omega, b⟩
theorem and_one {a : Nat} (ha : a < 2 ^ 32) : bits .and .u32 (a : Int) 1 = ((a % 2 : Nat) : Int) := by
  have := (bits_nat .u32 32 (by decide) wraps_u32 a 1 ha (by decide)).1
  rw [Nat.and_one_is_mod] at this
  exact this
theorem tmod_u64 {m : Nat} (hm : m < 1000) : min (IntKind.u64.wrap ((m : Int).tmod 32)).toNat 32 = m % 32 := by
  have e : (m : Int).tmod 32 = ((m % 32 : Nat) : Int) := rfl
  rw [e, u64w (by omega) (by omega), Int.toNat_natCast]; omega
theorem bit0_v {x m R e : Nat} {A F : Int} (he2 : lb x (m / 32) / 2 ^ (m % 32) % 2 = e) (he : e ≤ 1) (hA : A = ((lb R 0 : Nat) : Int)) (hF : F = ((lb x (m / 32) : Nat) : Int)) (hm : m < 1000 := by omega) : bits BinOp.or IntKind.u32 (IntKind.u32.wrap (A * 2)) (bits BinOp.and IntKind.u32 (F / 2 ^ min (IntKind.u64.wrap ((m : Int).tmod 32)).toNat 32) 1) = ((lb (2 * R + e) 0 : Nat) : Int) := by
  rw [tmod_u64 hm]
  have e1 : F / 2 ^ (m % 32) = ((lb x (m / 32) / 2 ^ (m % 32) : Nat) : Int) := by
    rw [hF, Int.natCast_ediv, Int.natCast_pow]; rfl
  rw [e1, and_one (Nat.lt_of_le_of_lt (Nat.div_le_self _ _) (lb_lt _ _)), he2]
  exact shl_zero he hA rfl
theorem shr_end {R e : Nat} {h : Nat → Nat} (hh : ∀ q, q < 6 → h q = if 0 < q then lb (2 * R + e) q else lb R q) : ∀ q, q < 6 → (if q = 0 then lb (2 * R + e) 0 else h q) = lb (2 * R + e) q := by
  intro q hq
  by_cases c : q = 0
  · rw [if_pos c, c]
  · rw [if_neg c, hh q hq, if_pos (by omega)]
theorem cmp_ge {a b : Nat} (h : b ≤ a) : decide (0 ≤ cmpN a b) = true := by
  unfold cmpN
  rw [if_neg (by omega)]
  split <;> rfl
theorem cmp_nge {a b : Nat} (h : a < b) : decide (0 ≤ cmpN a b) = false := by
  unfold cmpN
  rw [if_pos h]; rfl
theorem q_bitJ {Q m : Nat} : bits .or .u32 ((lb (Q * 2 ^ (m + 1)) (m / 32) : Nat) : Int) (2 ^ (m % 32) % 4294967296) = ((lb (Q * 2 ^ (m + 1) + 2 ^ m) (m / 32) : Nat) : Int) := by
  have := q_bit (Q := Q) (m := m) rfl
  rw [Int.one_mul] at this
  exact this
theorem shr_step {R e j : Nat} {h : Nat → Nat} (hh : ∀ q, q < 6 → h q = if j + 1 < q then lb (2 * R + e) q else lb R q) : ∀ q, q < 6 → (if q = j + 1 then lb (2 * R + e) (j + 1) else h q) = if j < q then lb (2 * R + e) q else lb R q := by
  intro q hq
  by_cases e1 : q = j + 1
  · rw [if_pos e1, if_pos (by omega), e1]
  · rw [if_neg e1, hh q hq]
    by_cases e2 : j + 1 < q
    · rw [if_pos e2, if_pos (by omega)]
    · rw [if_neg e2, if_neg (by omega)]
theorem A6_zero : A6 0 = #[.int .u32 0, .int .u32 0, .int .u32 0, .int .u32 0, .int .u32 0, .int .u32 0] := by
  unfold A6
  rw [lb0, lb0, lb0, lb0, lb0, lb0]
  rfl
set_option maxHeartbeats 8000000 in
set_option maxRecDepth 100000 in
theorem sDiv (w : World) (B0 O0 B1 O1 x y s : Nat) (h0 : P6 w B0 O0 x) (h1 : P6 w B1 O1 y) (hx : x < 4294967296 ^ 6) (hy : y < 4294967296 ^ 6) (hy0 : 0 < y) (hs : s ≤ 192 ∧ x < 2 ^ s) (hc : ∀ W : World, Below w.heap.size w W → Calls Try.prog 131 #[.pointer (some ⟨B0, O0, none⟩)] W fun e w' => e = .returned (.int .i64 (s : Int)) ∧ Below W.heap.size W w') :
    Calls Try.prog 123 #[.pointer (some ⟨B0, O0, none⟩), .pointer (some ⟨B1, O1, none⟩)] w fun e w' => e = .returned (.tuple #[.agg (A6 (x / y)), .agg (A6 (x % y))]) ∧ Below w.heap.size w w' := by
  have H0 := Aside0.mk h0
  have H1 := Aside0.mk h1
  have HX := Aside0.mk hx
  have HY := Aside0.mk hy
  have HY0 := Aside0.mk hy0
  have HS := Aside0.mk hs
  have HC := Aside0.mk hc
  clear h0 h1 hx hy hy0 hs hc
  have hu126 := Try.underlying126
  have HO := Aside0.mk (OB.start w)
  go_enter Try.func123, Try.ntmps123
  go_wp2_with (first | ((with_reducible refine gate_dst (N := 4) rfl ?_); refine box_event ?hg (N := 4) ?hd (cs := #[.int .u32 0, .int .u32 0, .int .u32 0, .int .u32 0, .int .u32 0, .int .u32 0]) (t := 126) ?hr ?_; (case hd => rfl); (case hg => rfl); (case hr => first | (go_simp; done) | (go_simp; rfl)); intro g1 hg w1 hbox hb; replace HO := Aside0.mk (HO.out.box hg hbox hb); clear hg hbox hb) | ((with_reducible refine gate_dst (N := 5) rfl ?_); refine box_event ?hg (N := 5) ?hd (cs := #[.int .u32 0, .int .u32 0, .int .u32 0, .int .u32 0, .int .u32 0, .int .u32 0]) (t := 126) ?hr ?_; (case hd => rfl); (case hg => rfl); (case hr => first | (go_simp; done) | (go_simp; rfl)); intro g2 hg w1 hbox hb; replace HO := Aside0.mk (HO.out.box hg hbox hb); clear hg hbox hb) | ((with_reducible refine gate_dst (N := 6) rfl ?_); refine box_event ?hg (N := 6) ?hd (cs := #[.int .u32 0, .int .u32 0, .int .u32 0, .int .u32 0, .int .u32 0, .int .u32 0]) (t := 126) ?hr ?_; (case hd => rfl); (case hg => rfl); (case hr => first | (go_simp; done) | (go_simp; rfl)); intro g3 hg w3 hbox hb; replace HO := Aside0.mk (HO.out.box hg hbox hb); clear hg hbox hb) | ((with_reducible refine gate_store (t := 126) (p := 6) rfl ?_); refine store_event (t := 126) (p := 6) (v := ?vo_1) (w1 := (World.setCell (World.setCell (World.setCell (World.setCell (World.setCell (World.setCell w3 ⟨g3, 0, none⟩ (.int .u32 0)) ⟨g3, 1, none⟩ (.int .u32 0)) ⟨g3, 2, none⟩ (.int .u32 0)) ⟨g3, 3, none⟩ (.int .u32 0)) ⟨g3, 4, none⟩ (.int .u32 0)) ⟨g3, 5, none⟩ (.int .u32 0))) ?hg ?ho ?hn ?hr ?_; (case ho => rfl); (case hg => rfl); (case hn => rfl); (case hr => (try simp only [Act.put, List.setIfInBounds_toArray, List.set_cons_zero, List.set_cons_succ]); exact run_put6_ rfl (show _ = Value.pointer (some ⟨g3, 0, none⟩) from by rfl) (show _ = Value.agg #[.int .u32 0, .int .u32 0, .int .u32 0, .int .u32 0, .int .u32 0, .int .u32 0] from by rfl) (HO.out.at 0 rfl) (by kernel_rfl) (by rfl)); intro w4 hw; replace HO := Aside0.mk (HO.out.put6 0 rfl hw rfl); clear hw) | ((with_reducible refine gate_dst (N := 7) rfl ?_); refine box_event ?hg (N := 7) ?hd (cs := #[.int .u32 0, .int .u32 0, .int .u32 0, .int .u32 0, .int .u32 0, .int .u32 0]) (t := 126) ?hr ?_; (case hd => rfl); (case hg => rfl); (case hr => first | (go_simp; done) | (go_simp; rfl)); intro g4 hg w5 hbox hb; replace HO := Aside0.mk (HO.out.box hg hbox hb); clear hg hbox hb) | ((with_reducible refine gate_store (t := 126) (p := 7) rfl ?_); refine store_event (t := 126) (p := 7) (v := ?vo_2) (w1 := (World.setCell (World.setCell (World.setCell (World.setCell (World.setCell (World.setCell w5 ⟨g4, 0, none⟩ (.int .u32 0)) ⟨g4, 1, none⟩ (.int .u32 0)) ⟨g4, 2, none⟩ (.int .u32 0)) ⟨g4, 3, none⟩ (.int .u32 0)) ⟨g4, 4, none⟩ (.int .u32 0)) ⟨g4, 5, none⟩ (.int .u32 0))) ?hg ?ho ?hn ?hr ?_; (case ho => rfl); (case hg => rfl); (case hn => rfl); (case hr => (try simp only [Act.put, List.setIfInBounds_toArray, List.set_cons_zero, List.set_cons_succ]); exact run_put6_ rfl (show _ = Value.pointer (some ⟨g4, 0, none⟩) from by rfl) (show _ = Value.agg #[.int .u32 0, .int .u32 0, .int .u32 0, .int .u32 0, .int .u32 0, .int .u32 0] from by rfl) (HO.out.at 0 rfl) (by kernel_rfl) (by rfl)); intro w6 hw; replace HO := Aside0.mk (HO.out.put6 0 rfl hw rfl); clear hw) | (go_at_call 131; (with_reducible refine (HC.out _ HO.out.bel).mono ?_); rintro e w2 ⟨rfl, hb⟩; replace HO := Aside0.mk (HO.out.below hb); clear hb))
  go_loopg [8] (s + 1) (fun kq v8 w' => ∃ (n : Nat) (i : Int), v8 = .int .i64 i ∧ Aside0 (i = (n : Int) - 1 ∧ n + 1 = kq ∧ n ≤ 192) ∧ Aside0 (OB w.heap.size w w' [(g4, A6 (x / 2 ^ n % y), 126), (g3, A6 (x / 2 ^ n / y * 2 ^ n), 126), (g2, #[.int .u32 0, .int .u32 0, .int .u32 0, .int .u32 0, .int .u32 0, .int .u32 0], 126), (g1, #[.int .u32 0, .int .u32 0, .int .u32 0, .int .u32 0, .int .u32 0, .int .u32 0], 126)]))
  case atStart =>
    refine ⟨s, _, rfl, ⟨by rw [i64w (by have := HS.out.1; omega) (by have := HS.out.1; omega)], rfl, HS.out.1⟩, ⟨?_⟩⟩
    rw [Nat.div_eq_of_lt HS.out.2, Nat.zero_mod, Nat.zero_div, Nat.zero_mul, A6_zero]
    exact HO.out
  case round =>
    clear HO HC HS
    obtain ⟨n, i, rfl, HN, HO⟩ := hrel
    by_cases c : 0 ≤ i
    · obtain ⟨m, rfl⟩ : ∃ m, n = m + 1 := ⟨n - 1, by have := HN.out.1; omega⟩
      obtain rfl : i = (m : Int) := by have := HN.out.1; omega
      have hm : m < 192 := by have := HN.out.2.2; omega
      have c0 : decide (0 ≤ (m : Int)) = true := decide_eq_true c
      clear c
      cases gk with
      | zero => have := HN.out.2.1; omega
      | succ k1 =>
      obtain ⟨R, hR⟩ : ∃ R, x / 2 ^ (m + 1) % y = R := ⟨_, rfl⟩
      obtain ⟨e, he⟩ : ∃ e, x / 2 ^ m % 2 = e := ⟨_, rfl⟩
      have HRy : Aside0 (R < y) := ⟨hR ▸ Nat.mod_lt _ HY0.out⟩
      have HE : Aside0 (e ≤ 1) := ⟨by omega⟩
      have HD : Aside0 (2 * R + e = 2 * (x / 2 ^ (m + 1) % y) + x / 2 ^ m % 2) := ⟨by rw [hR, he]⟩
      have HE2 : Aside0 (lb x (m / 32) / 2 ^ (m % 32) % 2 = e) := ⟨by rw [bit_at, he]⟩
      rw [hR] at HO
      clear hR he
      obtain ⟨T, hT⟩ : ∃ T : Int, ((lb R 5 : Nat) : Int) / 2147483648 = T := ⟨_, rfl⟩
      have HT : Aside0 ((T = 1 ∧ 4294967296 ^ 6 ≤ 2 * R + e) ∨ (T = 0 ∧ 2 * R + 1 < 4294967296 ^ 6)) := ⟨hT ▸ top_bitI (Nat.lt_trans HRy.out HY.out)⟩
      have r5 : wr.cell? ⟨g4, 5, none⟩ = some (.int .u32 ((lb R 5 : Nat) : Int)) := HO.out.cell 0 rfl 5 rfl
      go_wp2
      go_loopg [10] 6 (fun kq v10 w' => ∃ (j : Nat) (k : Int) (h : Nat → Nat), v10 = .int .i64 k ∧ Aside0 (k = j ∧ j + 1 = kq ∧ j ≤ 5 ∧ ∀ q, q < 6 → h q = if j < q then lb (2 * R + e) q else lb R q) ∧ Aside0 (OB w.heap.size w w' [(g4, o6 h, 126), (g3, A6 (x / 2 ^ (m + 1) / y * 2 ^ (m + 1)), 126), (g2, #[.int .u32 0, .int .u32 0, .int .u32 0, .int .u32 0, .int .u32 0, .int .u32 0], 126), (g1, #[.int .u32 0, .int .u32 0, .int .u32 0, .int .u32 0, .int .u32 0, .int .u32 0], 126)]))
      case atStart => exact ⟨5, 5, fun q => lb R q, rfl, ⟨rfl, rfl, by decide, fun q hq => by rw [if_neg (by omega)]⟩, ⟨HO.out⟩⟩
      case round =>
        clear HO r5
        obtain ⟨j, k, h, rfl, HJ, HO⟩ := hrel
        by_cases c : 0 < k
        · obtain ⟨d, rfl⟩ : ∃ d, j = d + 1 := ⟨j - 1, by have := HJ.out.1; omega⟩
          have hd : d + 1 < 6 := by have := HJ.out.2.2.1; omega
          have HK : Aside0 (k = ((d + 1 : Nat) : Int)) := ⟨HJ.out.1⟩
          have c1 : decide (0 < k) = true := decide_eq_true c
          have p0 := eq_true (show 0 ≤ k by omega)
          have p1 := eq_true (show k < 6 from by have := HK.out; omega)
          obtain ⟨K, hK⟩ : ∃ K : Int, wrap64 (k - 1) = K := ⟨_, rfl⟩
          have HK1 : Aside0 (K = (d : Int)) := ⟨by rw [← hK, HK.out, i64w (by omega) (by omega)]; omega⟩
          have p2 := eq_true (show 0 ≤ K by have := HK1.out; omega)
          have p3 := eq_true (show K < 6 from by have := HK1.out; omega)
          clear c
          cases gk with
          | zero => have := HJ.out.2.1; omega
          | succ k2 =>
          obtain ⟨A, hA⟩ : ∃ A : Int, A = (h (d + 1) : Int) := ⟨_, rfl⟩
          obtain ⟨C, hC⟩ : ∃ C : Int, C = (h d : Int) := ⟨_, rfl⟩
          have HA : Aside0 (A = ((lb R (d + 1) : Nat) : Int)) := ⟨by rw [hA, HJ.out.2.2.2 _ hd, if_neg (by omega)]⟩
          have HC : Aside0 (C = ((lb R (d + 1 - 1) : Nat) : Int)) := ⟨by rw [hC, HJ.out.2.2.2 _ (by omega), if_neg (by omega), Nat.add_sub_cancel]⟩
          go_wp2
          replace HO := Aside0.mk HO.out.drew
          obtain ⟨a0, a1⟩ := HO.out.cellZ 0 rfl HK.out (hA ▸ o6_get h (d + 1) hd)
          obtain ⟨b0, b1⟩ := HO.out.cellZ 0 rfl HK1.out (hC ▸ o6_get h d (by omega))
          have fr0 := HO.out.fr 0 rfl k.toNat
          clear hA hC
          refine start_ (n := 13) (S := fun w' => w'.cell? ⟨g4, k.toNat, none⟩ = some (.int .u32 A) ∧ w'.cell? ((⟨g4, 0, none⟩ : Addr).add k.toNat) = some (.int .u32 A) ∧ w'.cell? ⟨g4, K.toNat, none⟩ = some (.int .u32 C) ∧ w'.cell? ((⟨g4, 0, none⟩ : Addr).add K.toNat) = some (.int .u32 C) ∧ w'.frozen? ⟨g4, k.toNat, none⟩ = false) (ds := [12]) #[false, false, false, false, false, false, false, false, false, false, false, false, false] (by kernel_rfl) rfl rfl ⟨a0, a1, b0, b1, fr0⟩ (fun hHeld => ?_)
          refine pure_ (i := 0) (N := some 27) (v := ?_) (a' := ?_) #[true, false, false, false, false, false, false, false, false, false, false, false, false] rfl rfl (by kernel_rfl) (fun _ _ _ h => h) (Or.inl ⟨by rfl, ?_⟩) ?_ ?_
          rotate_left
          · intro w'
            go_simp
            with_reducible rfl
          rotate_left
          · simp only [Act.put, List.setIfInBounds_toArray, List.set_cons_zero, List.set_cons_succ, i64_w, i32_w]
            rfl
          refine pure_ (i := 1) (N := some 28) (v := ?_) (a' := ?_) #[true, true, false, false, false, false, false, false, false, false, false, false, false] rfl rfl (by kernel_rfl) (fun _ _ _ h => h) (Or.inl ⟨by rfl, ?_⟩) ?_ ?_
          rotate_left
          · intro w'
            go_simp
            with_reducible rfl
          rotate_left
          · simp only [Act.put, List.setIfInBounds_toArray, List.set_cons_zero, List.set_cons_succ, i64_w, i32_w]
            rfl
          refine pure_ (i := 2) (N := some 29) (v := ?_) (a' := ?_) #[true, true, true, false, false, false, false, false, false, false, false, false, false] rfl rfl (by kernel_rfl) (fun _ _ _ h => h) (Or.inl ⟨by rfl, ?_⟩) ?_ ?_
          rotate_left
          · intro w'
            go_simp
            with_reducible rfl
          rotate_left
          · simp only [Act.put, List.setIfInBounds_toArray, List.set_cons_zero, List.set_cons_succ, i64_w, i32_w]
            rfl
          refine pure_ (i := 5) (N := some 32) (v := ?_) (a' := ?_) #[true, true, true, false, false, true, false, false, false, false, false, false, false] rfl rfl (by kernel_rfl) (fun _ _ _ h => h) (Or.inl ⟨by rfl, ?_⟩) ?_ ?_
          rotate_left
          · intro w'
            go_simp
            with_reducible rfl
          rotate_left
          · simp only [Act.put, List.setIfInBounds_toArray, List.set_cons_zero, List.set_cons_succ, i64_w, i32_w]
            rfl
          refine pure_ (i := 6) (N := some 33) (v := ?_) (a' := ?_) #[true, true, true, false, false, true, true, false, false, false, false, false, false] rfl rfl (by kernel_rfl) (fun _ _ _ h => h) (Or.inl ⟨by rfl, ?_⟩) ?_ ?_
          rotate_left
          · intro w'
            go_simp
            with_reducible rfl
          rotate_left
          · simp only [Act.put, List.setIfInBounds_toArray, List.set_cons_zero, List.set_cons_succ, i64_w, i32_w]
            rfl
          refine pure_ (i := 7) (N := some 34) (v := ?_) (a' := ?_) #[true, true, true, false, false, true, true, true, false, false, false, false, false] rfl rfl (by kernel_rfl) (fun _ _ _ h => h) (Or.inl ⟨by rfl, ?_⟩) ?_ ?_
          rotate_left
          · intro w'
            go_simp
            with_reducible rfl
          rotate_left
          · simp only [Act.put, List.setIfInBounds_toArray, List.set_cons_zero, List.set_cons_succ, i64_w, i32_w]
            rfl
          refine take_ (i := 3) (N := some 30) (v := ?_) (a' := ?_) #[true, true, true, true, false, true, true, true, false, false, false, false, false] rfl rfl (by kernel_rfl) (fun _ _ _ h => h) (Or.inl ⟨by rfl, ?_⟩) hHeld ?_ ?_
          rotate_left
          · rintro w' ⟨s0, s1, s2, s3, s4⟩
            go_simp
            with_reducible rfl
          rotate_left
          · simp only [Act.put, List.setIfInBounds_toArray, List.set_cons_zero, List.set_cons_succ, i64_w, i32_w]
            rfl
          refine pure_ (i := 4) (N := some 31) (v := ?_) (a' := ?_) #[true, true, true, true, true, true, true, true, false, false, false, false, false] rfl rfl (by kernel_rfl) (fun _ _ _ h => h) (Or.inl ⟨by rfl, ?_⟩) ?_ ?_
          rotate_left
          · intro w'
            go_simp
            with_reducible rfl
          rotate_left
          · simp only [Act.put, List.setIfInBounds_toArray, List.set_cons_zero, List.set_cons_succ, i64_w, i32_w]
            rfl
          refine take_ (i := 8) (N := some 35) (v := ?_) (a' := ?_) #[true, true, true, true, true, true, true, true, true, false, false, false, false] rfl rfl (by kernel_rfl) (fun _ _ _ h => h) (Or.inl ⟨by rfl, ?_⟩) hHeld ?_ ?_
          rotate_left
          · rintro w' ⟨s0, s1, s2, s3, s4⟩
            go_simp
            with_reducible rfl
          rotate_left
          · simp only [Act.put, List.setIfInBounds_toArray, List.set_cons_zero, List.set_cons_succ, i64_w, i32_w]
            rfl
          refine pure_ (i := 9) (N := some 36) (v := ?_) (a' := ?_) #[true, true, true, true, true, true, true, true, true, true, false, false, false] rfl rfl (by kernel_rfl) (fun _ _ _ h => h) (Or.inl ⟨by rfl, ?_⟩) ?_ ?_
          rotate_left
          · intro w'
            go_simp
            with_reducible rfl
          rotate_left
          · simp only [Act.put, List.setIfInBounds_toArray, List.set_cons_zero, List.set_cons_succ, i64_w, i32_w]
            rfl
          refine pure_ (i := 10) (N := some 37) (v := ?_) (a' := ?_) #[true, true, true, true, true, true, true, true, true, true, true, false, false] rfl rfl (by kernel_rfl) (fun _ _ _ h => h) (Or.inl ⟨by rfl, ?_⟩) ?_ ?_
          rotate_left
          · intro w'
            go_simp
            with_reducible rfl
          rotate_left
          · simp only [Act.put, List.setIfInBounds_toArray, List.set_cons_zero, List.set_cons_succ, i64_w, i32_w]
            rfl
          refine pure_ (i := 11) (N := some 38) (v := ?_) (a' := ?_) #[true, true, true, true, true, true, true, true, true, true, true, true, false] rfl rfl (by kernel_rfl) (fun _ _ _ h => h) (Or.inl ⟨by rfl, ?_⟩) ?_ ?_
          rotate_left
          · intro w'
            go_simp
            with_reducible rfl
          rotate_left
          · simp only [Act.put, List.setIfInBounds_toArray, List.set_cons_zero, List.set_cons_succ, i64_w, i32_w]
            rfl
          refine last_ (i := 12) (N := none) #[true, true, true, true, true, true, true, true, true, true, true, true, true] rfl rfl (by kernel_rfl) (by decide) (fun K hK => ?_)
          refine skip_ (w1 := ?_) (by rfl) rfl ?_ ?_
          rotate_left
          · go_simp
            rfl
          refine hK.out _ _ ?_
          clear hK K
          refine done_ (by kernel_rfl) ?_
          go_wp2
          go_roundg k2
          case measure => omega
          case rel => exact ⟨d, _, _, rfl, ⟨by rw [hK]; exact HK1.out, by have := HJ.out.2.1; omega, by omega, shr_step HJ.out.2.2.2⟩, ⟨HO.out.put6x (k := 0) rfl hd HK.out (shl_at HE.out (by omega) HA.out HC.out) rfl rfl rfl⟩⟩
        · have c1 : decide (0 < k) = false := decide_eq_false c
          obtain rfl : j = 0 := by have := HJ.out.1; omega
          clear c
          have hq : m / 32 < 6 := by omega
          obtain ⟨F, hF⟩ : ∃ F : Int, F = ((lb x (m / 32) : Nat) : Int) := ⟨_, rfl⟩
          obtain ⟨A, hA⟩ : ∃ A : Int, A = (h 0 : Int) := ⟨_, rfl⟩
          have HA : Aside0 (A = ((lb R 0 : Nat) : Int)) := ⟨by rw [hA, HJ.out.2.2.2 _ (by decide), if_neg (by decide)]⟩
          have HF := Aside0.mk hF
          obtain ⟨I, hI⟩ : ∃ I : Int, wrap64 ((m : Int) / 32) = I := ⟨_, rfl⟩
          have HI : Aside0 (I = ((m / 32 : Nat) : Int)) := ⟨by rw [← hI, i64w (by omega) (by omega)]; omega⟩
          have p0 := eq_true (show 0 ≤ I by have := HI.out; omega)
          have p1 := eq_true (show I < 6 from by have := HI.out; omega)
          go_wp2
          have HO0 := HO
          replace HO := Aside0.mk HO.out.drew
          have a0 : wr.drew.cell? ⟨g4, 0, none⟩ = some (.int .u32 A) := HO.out.cell 0 rfl 0 (hA ▸ o6_get h 0 (by decide))
          have b0 := H0.out.at HO.out.bel hq HI.out hF
          have b1 := H0.out.at0 HO.out.bel hq HI.out hF
          have fr0 := HO.out.fr 0 rfl 0
          clear hF hA
          refine start_ (n := 17) (S := fun w' => w'.cell? ⟨g4, 0, none⟩ = some (.int .u32 A) ∧ w'.cell? ((⟨B0, O0, none⟩ : Addr).add I.toNat) = some (.int .u32 F) ∧ w'.cell? ⟨B0, O0 + I.toNat, none⟩ = some (.int .u32 F) ∧ w'.frozen? ⟨g4, 0, none⟩ = false) (ds := [16]) #[false, false, false, false, false, false, false, false, false, false, false, false, false, false, false, false, false] (by kernel_rfl) rfl rfl ⟨a0, b0, b1, fr0⟩ (fun hHeld => ?_)
          refine pure_ (i := 0) (N := some 39) (v := ?_) (a' := ?_) #[true, false, false, false, false, false, false, false, false, false, false, false, false, false, false, false, false] rfl rfl (by kernel_rfl) (fun _ _ _ h => h) (Or.inl ⟨by rfl, ?_⟩) ?_ ?_
          rotate_left
          · intro w'
            go_simp
            with_reducible rfl
          rotate_left
          · simp only [Act.put, List.setIfInBounds_toArray, List.set_cons_zero, List.set_cons_succ, i64_w, i32_w]
            rfl
          refine pure_ (i := 3) (N := some 42) (v := ?_) (a' := ?_) #[true, false, false, true, false, false, false, false, false, false, false, false, false, false, false, false, false] rfl rfl (by kernel_rfl) (fun _ _ _ h => h) (Or.inl ⟨by rfl, ?_⟩) ?_ ?_
          rotate_left
          · intro w'
            go_simp
            with_reducible rfl
          rotate_left
          · simp only [Act.put, List.setIfInBounds_toArray, List.set_cons_zero, List.set_cons_succ, i64_w, i32_w]
            rfl
          refine pure_ (i := 4) (N := some 43) (v := ?_) (a' := ?_) #[true, false, false, true, true, false, false, false, false, false, false, false, false, false, false, false, false] rfl rfl (by kernel_rfl) (fun _ _ _ h => h) (Or.inl ⟨by rfl, ?_⟩) ?_ ?_
          rotate_left
          · intro w'
            go_simp
            with_reducible rfl
          rotate_left
          · simp only [Act.put, List.setIfInBounds_toArray, List.set_cons_zero, List.set_cons_succ, i64_w, i32_w]
            rfl
          refine pure_ (i := 5) (N := some 44) (v := ?_) (a' := ?_) #[true, false, false, true, true, true, false, false, false, false, false, false, false, false, false, false, false] rfl rfl (by kernel_rfl) (fun _ _ _ h => h) (Or.inl ⟨by rfl, ?_⟩) ?_ ?_
          rotate_left
          · intro w'
            go_simp
            with_reducible rfl
          rotate_left
          · simp only [Act.put, List.setIfInBounds_toArray, List.set_cons_zero, List.set_cons_succ, i64_w, i32_w]
            rfl
          refine pure_ (i := 6) (N := some 45) (v := ?_) (a' := ?_) #[true, false, false, true, true, true, true, false, false, false, false, false, false, false, false, false, false] rfl rfl (by kernel_rfl) (fun _ _ _ h => h) (Or.inl ⟨by rfl, ?_⟩) ?_ ?_
          rotate_left
          · intro w'
            go_simp
            with_reducible rfl
          rotate_left
          · simp only [Act.put, List.setIfInBounds_toArray, List.set_cons_zero, List.set_cons_succ, i64_w, i32_w]
            rfl
          refine pure_ (i := 7) (N := some 46) (v := ?_) (a' := ?_) #[true, false, false, true, true, true, true, true, false, false, false, false, false, false, false, false, false] rfl rfl (by kernel_rfl) (fun _ _ _ h => h) (Or.inl ⟨by rfl, ?_⟩) ?_ ?_
          rotate_left
          · intro w'
            go_simp
            with_reducible rfl
          rotate_left
          · simp only [Act.put, List.setIfInBounds_toArray, List.set_cons_zero, List.set_cons_succ, i64_w, i32_w]
            rfl
          refine pure_ (i := 9) (N := some 48) (v := ?_) (a' := ?_) #[true, false, false, true, true, true, true, true, false, true, false, false, false, false, false, false, false] rfl rfl (by kernel_rfl) (fun _ _ _ h => h) (Or.inl ⟨by rfl, ?_⟩) ?_ ?_
          rotate_left
          · intro w'
            go_simp
            with_reducible rfl
          rotate_left
          · simp only [Act.put, List.setIfInBounds_toArray, List.set_cons_zero, List.set_cons_succ, i64_w, i32_w]
            rfl
          refine pure_ (i := 10) (N := some 49) (v := ?_) (a' := ?_) #[true, false, false, true, true, true, true, true, false, true, true, false, false, false, false, false, false] rfl rfl (by kernel_rfl) (fun _ _ _ h => h) (Or.inl ⟨by rfl, ?_⟩) ?_ ?_
          rotate_left
          · intro w'
            go_simp
            with_reducible rfl
          rotate_left
          · simp only [Act.put, List.setIfInBounds_toArray, List.set_cons_zero, List.set_cons_succ, i64_w, i32_w]
            rfl
          refine pure_ (i := 11) (N := some 50) (v := ?_) (a' := ?_) #[true, false, false, true, true, true, true, true, false, true, true, true, false, false, false, false, false] rfl rfl (by kernel_rfl) (fun _ _ _ h => h) (Or.inl ⟨by rfl, ?_⟩) ?_ ?_
          rotate_left
          · intro w'
            go_simp
            with_reducible rfl
          rotate_left
          · simp only [Act.put, List.setIfInBounds_toArray, List.set_cons_zero, List.set_cons_succ, i64_w, i32_w]
            rfl
          refine take_ (i := 1) (N := some 40) (v := ?_) (a' := ?_) #[true, true, false, true, true, true, true, true, false, true, true, true, false, false, false, false, false] rfl rfl (by kernel_rfl) (fun _ _ _ h => h) (Or.inl ⟨by rfl, ?_⟩) hHeld ?_ ?_
          rotate_left
          · rintro w' ⟨s0, s1, s2, s3⟩
            go_simp
            with_reducible rfl
          rotate_left
          · simp only [Act.put, List.setIfInBounds_toArray, List.set_cons_zero, List.set_cons_succ, i64_w, i32_w]
            rfl
          refine pure_ (i := 2) (N := some 41) (v := ?_) (a' := ?_) #[true, true, true, true, true, true, true, true, false, true, true, true, false, false, false, false, false] rfl rfl (by kernel_rfl) (fun _ _ _ h => h) (Or.inl ⟨by rfl, ?_⟩) ?_ ?_
          rotate_left
          · intro w'
            go_simp
            with_reducible rfl
          rotate_left
          · simp only [Act.put, List.setIfInBounds_toArray, List.set_cons_zero, List.set_cons_succ, i64_w, i32_w]
            rfl
          refine take_ (i := 8) (N := some 47) (v := ?_) (a' := ?_) #[true, true, true, true, true, true, true, true, true, true, true, true, false, false, false, false, false] rfl rfl (by kernel_rfl) (fun _ _ _ h => h) (Or.inl ⟨by rfl, ?_⟩) hHeld ?_ ?_
          rotate_left
          · rintro w' ⟨s0, s1, s2, s3⟩
            go_simp
            with_reducible rfl
          rotate_left
          · simp only [Act.put, List.setIfInBounds_toArray, List.set_cons_zero, List.set_cons_succ, i64_w, i32_w]
            rfl
          refine pure_ (i := 12) (N := some 51) (v := ?_) (a' := ?_) #[true, true, true, true, true, true, true, true, true, true, true, true, true, false, false, false, false] rfl rfl (by kernel_rfl) (fun _ _ _ h => h) (Or.inl ⟨by rfl, ?_⟩) ?_ ?_
          rotate_left
          · intro w'
            go_simp
            with_reducible rfl
          rotate_left
          · simp only [Act.put, List.setIfInBounds_toArray, List.set_cons_zero, List.set_cons_succ, i64_w, i32_w]
            rfl
          refine pure_ (i := 13) (N := some 52) (v := ?_) (a' := ?_) #[true, true, true, true, true, true, true, true, true, true, true, true, true, true, false, false, false] rfl rfl (by kernel_rfl) (fun _ _ _ h => h) (Or.inl ⟨by rfl, ?_⟩) ?_ ?_
          rotate_left
          · intro w'
            go_simp
            with_reducible rfl
          rotate_left
          · simp only [Act.put, List.setIfInBounds_toArray, List.set_cons_zero, List.set_cons_succ, i64_w, i32_w]
            rfl
          refine pure_ (i := 14) (N := some 53) (v := ?_) (a' := ?_) #[true, true, true, true, true, true, true, true, true, true, true, true, true, true, true, false, false] rfl rfl (by kernel_rfl) (fun _ _ _ h => h) (Or.inl ⟨by rfl, ?_⟩) ?_ ?_
          rotate_left
          · intro w'
            go_simp
            with_reducible rfl
          rotate_left
          · simp only [Act.put, List.setIfInBounds_toArray, List.set_cons_zero, List.set_cons_succ, i64_w, i32_w]
            rfl
          refine pure_ (i := 15) (N := some 54) (v := ?_) (a' := ?_) #[true, true, true, true, true, true, true, true, true, true, true, true, true, true, true, true, false] rfl rfl (by kernel_rfl) (fun _ _ _ h => h) (Or.inl ⟨by rfl, ?_⟩) ?_ ?_
          rotate_left
          · intro w'
            go_simp
            with_reducible rfl
          rotate_left
          · simp only [Act.put, List.setIfInBounds_toArray, List.set_cons_zero, List.set_cons_succ, i64_w, i32_w]
            rfl
          refine last_ (i := 16) (N := none) #[true, true, true, true, true, true, true, true, true, true, true, true, true, true, true, true, true] rfl rfl (by kernel_rfl) (by decide) (fun K hK => ?_)
          refine skip_ (w1 := ?_) (by rfl) rfl ?_ ?_
          rotate_left
          · go_simp
            rfl
          refine hK.out _ _ ?_
          clear hK K
          refine done_ (by kernel_rfl) ?_
          have HV := bit0_v HE2.out HE.out HA.out HF.out
          rw [HV]
          generalize hw_ : wr.setCell ⟨g4, 0, none⟩ (.int .u32 ((lb (2 * R + e) 0 : Nat) : Int)) = w7
          have HA6 : Aside0 (o6 (fun q => if q = 0 then lb (2 * R + e) 0 else h q) = A6 (2 * R + e)) := ⟨o6_A6 (shr_end HJ.out.2.2.2)⟩
          replace HO := Aside0.mk (HO0.out.put6x (k := 0) (i := 0) rfl (by decide) rfl rfl hw_.symm rfl rfl)
          rw [HA6.out] at HO
          replace HO := Aside0.mk HO.out.drew
          clear HO0 hw_ HV a0 b0 b1 fr0 hHeld HA6 HJ HA HF
          have HP : Aside0 (P6 w7 g4 0 (2 * R + e)) := ⟨P6.blk (HO.out.at 0 rfl)⟩
          obtain ⟨O, hO⟩ : ∃ O : Int, O = ((lb (x / 2 ^ (m + 1) / y * 2 ^ (m + 1)) (m / 32) : Nat) : Int) := ⟨_, rfl⟩
          have HO_ := Aside0.mk hO
          rcases HT.out with ⟨ht, hle⟩ | ⟨ht, hlt⟩
          · have t0 : (T == 1) = true := by rw [ht]; rfl
            have t1 : (T = 1) = True := eq_true ht
            have HL : Aside0 (y ≤ 2 * R + e) := ⟨Nat.le_trans (Nat.le_of_lt HY.out) hle⟩
            clear ht hle HT
            go_wp2_with (first | (go_at_call 115; (with_reducible refine (sMinus _ g4 0 B1 O1 (2 * R + e) y (P6.blk (HO.out.at 0 rfl)) (H1.out.below HO.out.bel) HL.out).mono ?_); rintro e w8 ⟨rfl, hb⟩; replace HO := Aside0.mk (HO.out.below hb); clear hb) | ((with_reducible refine gate_store (t := 126) (p := 7) rfl ?_); refine store_event (t := 126) (p := 7) (v := ?vo_3) (w1 := (World.setCell (World.setCell (World.setCell (World.setCell (World.setCell (World.setCell w8 ⟨g4, 0, none⟩ (.int .u32 ((lb (2 * R + e - y) 0 : Nat) : Int))) ⟨g4, 1, none⟩ (.int .u32 ((lb (2 * R + e - y) 1 : Nat) : Int))) ⟨g4, 2, none⟩ (.int .u32 ((lb (2 * R + e - y) 2 : Nat) : Int))) ⟨g4, 3, none⟩ (.int .u32 ((lb (2 * R + e - y) 3 : Nat) : Int))) ⟨g4, 4, none⟩ (.int .u32 ((lb (2 * R + e - y) 4 : Nat) : Int))) ⟨g4, 5, none⟩ (.int .u32 ((lb (2 * R + e - y) 5 : Nat) : Int)))) ?hg ?ho ?hn ?hr ?_; (case ho => rfl); (case hg => rfl); (case hn => rfl); (case hr => (try simp only [Act.put, List.setIfInBounds_toArray, List.set_cons_zero, List.set_cons_succ]); exact run_put6_ rfl (show _ = Value.pointer (some ⟨g4, 0, none⟩) from by rfl) (show _ = Value.agg #[.int .u32 ((lb (2 * R + e - y) 0 : Nat) : Int), .int .u32 ((lb (2 * R + e - y) 1 : Nat) : Int), .int .u32 ((lb (2 * R + e - y) 2 : Nat) : Int), .int .u32 ((lb (2 * R + e - y) 3 : Nat) : Int), .int .u32 ((lb (2 * R + e - y) 4 : Nat) : Int), .int .u32 ((lb (2 * R + e - y) 5 : Nat) : Int)] from by rfl) (HO.out.at 0 rfl) (by kernel_rfl) (by rfl)); intro w9 hw; replace HO := Aside0.mk (HO.out.put6 0 rfl hw rfl); clear hw; obtain ⟨d0, d1⟩ := HO.out.cellZ (v := O) 1 rfl HI.out (by rw [hO]; exact A6_get _ (m / 32) hq); have fr1 := HO.out.fr 1 rfl I.toNat; have fr2 := HO.out.fr 1 rfl (m / 32); have d2 : w9.cell? ⟨g3, m / 32, none⟩ = some (.int .u32 O) := HO.out.cell 1 rfl (m / 32) (by rw [hO]; exact A6_get _ (m / 32) hq)))
            go_roundg k1
            case measure => omega
            case rel =>
              refine ⟨m, _, rfl, ⟨by first | rfl | exact prevI rfl (by omega), by have := HN.out.2.1; omega, by omega⟩, ⟨?_⟩⟩
              have HB6 : o6 (fun q => if q = m / 32 then lb (x / 2 ^ (m + 1) / y * 2 ^ (m + 1) + 2 ^ m) (m / 32) else lb (x / 2 ^ (m + 1) / y * 2 ^ (m + 1)) q) = A6 (x / 2 ^ (m + 1) / y * 2 ^ (m + 1) + 2 ^ m) := o6_A6 (fun q hq => by by_cases e_ : q = m / 32; rw [if_pos e_, e_]; rw [if_neg e_, q_far e_])
              rw [(dv_yes HY0.out HD.out HL.out).1, (dv_yes HY0.out HD.out HL.out).2, ← HB6]
              exact HO.out.put6x (k := 1) (f := fun q => lb (x / 2 ^ (m + 1) / y * 2 ^ (m + 1)) q) (i := ((m / 32 : Nat) : Int)) rfl (by omega) rfl q_bitJ rfl rfl rfl
          · have t0 : (T == 1) = false := by rw [ht]; rfl
            have t1 : (T = 1) = False := eq_false (by omega)
            have HD2 : Aside0 (2 * R + e < 4294967296 ^ 6) := ⟨by have := HE.out; omega⟩
            clear ht HT
            by_cases l : y ≤ 2 * R + e
            · have HL := Aside0.mk l
              have c2 : decide (0 ≤ cmpN (2 * R + e) y) = true := cmp_ge l
              clear l hlt
              go_wp2_with (first | (go_at_call 114; (with_reducible refine (sCmp _ g4 0 B1 O1 (2 * R + e) y (P6.blk (HO.out.at 0 rfl)) (H1.out.below HO.out.bel) HD2.out HY.out).mono ?_); rintro e w8 ⟨rfl, hb⟩; replace HO := Aside0.mk (HO.out.below hb); clear hb) | (go_at_call 115; (with_reducible refine (sMinus _ g4 0 B1 O1 (2 * R + e) y (P6.blk (HO.out.at 0 rfl)) (H1.out.below HO.out.bel) HL.out).mono ?_); rintro e w8 ⟨rfl, hb⟩; replace HO := Aside0.mk (HO.out.below hb); clear hb) | ((with_reducible refine gate_store (t := 126) (p := 7) rfl ?_); refine store_event (t := 126) (p := 7) (v := ?vo_3) (w1 := (World.setCell (World.setCell (World.setCell (World.setCell (World.setCell (World.setCell w8 ⟨g4, 0, none⟩ (.int .u32 ((lb (2 * R + e - y) 0 : Nat) : Int))) ⟨g4, 1, none⟩ (.int .u32 ((lb (2 * R + e - y) 1 : Nat) : Int))) ⟨g4, 2, none⟩ (.int .u32 ((lb (2 * R + e - y) 2 : Nat) : Int))) ⟨g4, 3, none⟩ (.int .u32 ((lb (2 * R + e - y) 3 : Nat) : Int))) ⟨g4, 4, none⟩ (.int .u32 ((lb (2 * R + e - y) 4 : Nat) : Int))) ⟨g4, 5, none⟩ (.int .u32 ((lb (2 * R + e - y) 5 : Nat) : Int)))) ?hg ?ho ?hn ?hr ?_; (case ho => rfl); (case hg => rfl); (case hn => rfl); (case hr => (try simp only [Act.put, List.setIfInBounds_toArray, List.set_cons_zero, List.set_cons_succ]); exact run_put6_ rfl (show _ = Value.pointer (some ⟨g4, 0, none⟩) from by rfl) (show _ = Value.agg #[.int .u32 ((lb (2 * R + e - y) 0 : Nat) : Int), .int .u32 ((lb (2 * R + e - y) 1 : Nat) : Int), .int .u32 ((lb (2 * R + e - y) 2 : Nat) : Int), .int .u32 ((lb (2 * R + e - y) 3 : Nat) : Int), .int .u32 ((lb (2 * R + e - y) 4 : Nat) : Int), .int .u32 ((lb (2 * R + e - y) 5 : Nat) : Int)] from by rfl) (HO.out.at 0 rfl) (by kernel_rfl) (by rfl)); intro w9 hw; replace HO := Aside0.mk (HO.out.put6 0 rfl hw rfl); clear hw; obtain ⟨d0, d1⟩ := HO.out.cellZ (v := O) 1 rfl HI.out (by rw [hO]; exact A6_get _ (m / 32) hq); have fr1 := HO.out.fr 1 rfl I.toNat; have fr2 := HO.out.fr 1 rfl (m / 32); have d2 : w9.cell? ⟨g3, m / 32, none⟩ = some (.int .u32 O) := HO.out.cell 1 rfl (m / 32) (by rw [hO]; exact A6_get _ (m / 32) hq)))
              go_roundg k1
              case measure => omega
              case rel =>
                refine ⟨m, _, rfl, ⟨by first | rfl | exact prevI rfl (by omega), by have := HN.out.2.1; omega, by omega⟩, ⟨?_⟩⟩
                have HB6 : o6 (fun q => if q = m / 32 then lb (x / 2 ^ (m + 1) / y * 2 ^ (m + 1) + 2 ^ m) (m / 32) else lb (x / 2 ^ (m + 1) / y * 2 ^ (m + 1)) q) = A6 (x / 2 ^ (m + 1) / y * 2 ^ (m + 1) + 2 ^ m) := o6_A6 (fun q hq => by by_cases e_ : q = m / 32; rw [if_pos e_, e_]; rw [if_neg e_, q_far e_])
                rw [(dv_yes HY0.out HD.out HL.out).1, (dv_yes HY0.out HD.out HL.out).2, ← HB6]
                exact HO.out.put6x (k := 1) (f := fun q => lb (x / 2 ^ (m + 1) / y * 2 ^ (m + 1)) q) (i := ((m / 32 : Nat) : Int)) rfl (by omega) rfl q_bitJ rfl rfl rfl
            · have HL := Aside0.mk (Nat.not_le.1 l)
              have c2 : decide (0 ≤ cmpN (2 * R + e) y) = false := cmp_nge (Nat.not_le.1 l)
              clear l hlt
              go_wp2_with (first | (go_at_call 114; (with_reducible refine (sCmp _ g4 0 B1 O1 (2 * R + e) y (P6.blk (HO.out.at 0 rfl)) (H1.out.below HO.out.bel) HD2.out HY.out).mono ?_); rintro e w8 ⟨rfl, hb⟩; replace HO := Aside0.mk (HO.out.below hb); clear hb))
              go_roundg k1
              case measure => omega
              case rel =>
                refine ⟨m, _, rfl, ⟨by first | rfl | exact prevI rfl (by omega), by have := HN.out.2.1; omega, by omega⟩, ⟨?_⟩⟩
                rw [(dv_no HD.out HL.out).1, (dv_no HD.out HL.out).2]
                exact HO.out

    · have c0 : decide (0 ≤ i) = false := decide_eq_false c
      obtain rfl : n = 0 := by have := HN.out.1; omega
      rw [Nat.pow_zero, Nat.div_one, Nat.mul_one] at HO
      clear c
      go_wp2
      replace HO := Aside0.mk HO.out.drew
      refine start_ (n := 4) (S := fun w' => w'.cell? ⟨g3, 0, none⟩ = some (.int .u32 ((lb (x / y) 0 : Nat) : Int)) ∧ w'.cell? ⟨g3, 1, none⟩ = some (.int .u32 ((lb (x / y) 1 : Nat) : Int)) ∧ w'.cell? ⟨g3, 2, none⟩ = some (.int .u32 ((lb (x / y) 2 : Nat) : Int)) ∧ w'.cell? ⟨g3, 3, none⟩ = some (.int .u32 ((lb (x / y) 3 : Nat) : Int)) ∧ w'.cell? ⟨g3, 4, none⟩ = some (.int .u32 ((lb (x / y) 4 : Nat) : Int)) ∧ w'.cell? ⟨g3, 5, none⟩ = some (.int .u32 ((lb (x / y) 5 : Nat) : Int)) ∧ w'.cell? ⟨g4, 0, none⟩ = some (.int .u32 ((lb (x % y) 0 : Nat) : Int)) ∧ w'.cell? ⟨g4, 1, none⟩ = some (.int .u32 ((lb (x % y) 1 : Nat) : Int)) ∧ w'.cell? ⟨g4, 2, none⟩ = some (.int .u32 ((lb (x % y) 2 : Nat) : Int)) ∧ w'.cell? ⟨g4, 3, none⟩ = some (.int .u32 ((lb (x % y) 3 : Nat) : Int)) ∧ w'.cell? ⟨g4, 4, none⟩ = some (.int .u32 ((lb (x % y) 4 : Nat) : Int)) ∧ w'.cell? ⟨g4, 5, none⟩ = some (.int .u32 ((lb (x % y) 5 : Nat) : Int))) (ds := [3]) #[false, false, false, false] (by kernel_rfl) rfl rfl ⟨HO.out.cell 1 rfl 0 rfl, HO.out.cell 1 rfl 1 rfl, HO.out.cell 1 rfl 2 rfl, HO.out.cell 1 rfl 3 rfl, HO.out.cell 1 rfl 4 rfl, HO.out.cell 1 rfl 5 rfl, HO.out.cell 0 rfl 0 rfl, HO.out.cell 0 rfl 1 rfl, HO.out.cell 0 rfl 2 rfl, HO.out.cell 0 rfl 3 rfl, HO.out.cell 0 rfl 4 rfl, HO.out.cell 0 rfl 5 rfl⟩ (fun hHeld => ?_)
      refine take_ (i := 0) (N := some 74) (v := ?_) (a' := ?_) #[true, false, false, false] rfl rfl (by kernel_rfl) (fun _ _ _ h => h) (Or.inl ⟨by rfl, ?_⟩) hHeld ?_ ?_
      rotate_left
      · rintro w' ⟨s0, s1, s2, s3, s4, s5, s6, s7, s8, s9, s10, s11⟩
        go_simp
        with_reducible rfl
      rotate_left
      · simp only [Act.put, List.setIfInBounds_toArray, List.set_cons_zero, List.set_cons_succ, i64_w, i32_w]
        rfl
      refine take_ (i := 1) (N := some 75) (v := ?_) (a' := ?_) #[true, true, false, false] rfl rfl (by kernel_rfl) (fun _ _ _ h => h) (Or.inl ⟨by rfl, ?_⟩) hHeld ?_ ?_
      rotate_left
      · rintro w' ⟨s0, s1, s2, s3, s4, s5, s6, s7, s8, s9, s10, s11⟩
        go_simp
        with_reducible rfl
      rotate_left
      · simp only [Act.put, List.setIfInBounds_toArray, List.set_cons_zero, List.set_cons_succ, i64_w, i32_w]
        rfl
      have HO2 := Aside0.mk (HO.out.put6 3 rfl (rfl : (World.setCell (World.setCell (World.setCell (World.setCell (World.setCell (World.setCell wr.drew ⟨g1, 0, none⟩ (.int .u32 ((lb (x / y) 0 : Nat) : Int))) ⟨g1, 1, none⟩ (.int .u32 ((lb (x / y) 1 : Nat) : Int))) ⟨g1, 2, none⟩ (.int .u32 ((lb (x / y) 2 : Nat) : Int))) ⟨g1, 3, none⟩ (.int .u32 ((lb (x / y) 3 : Nat) : Int))) ⟨g1, 4, none⟩ (.int .u32 ((lb (x / y) 4 : Nat) : Int))) ⟨g1, 5, none⟩ (.int .u32 ((lb (x / y) 5 : Nat) : Int))) = _) rfl)
      refine one_store_ (i := 2) (w1 := (World.setCell (World.setCell (World.setCell (World.setCell (World.setCell (World.setCell wr.drew ⟨g1, 0, none⟩ (.int .u32 ((lb (x / y) 0 : Nat) : Int))) ⟨g1, 1, none⟩ (.int .u32 ((lb (x / y) 1 : Nat) : Int))) ⟨g1, 2, none⟩ (.int .u32 ((lb (x / y) 2 : Nat) : Int))) ⟨g1, 3, none⟩ (.int .u32 ((lb (x / y) 3 : Nat) : Int))) ⟨g1, 4, none⟩ (.int .u32 ((lb (x / y) 4 : Nat) : Int))) ⟨g1, 5, none⟩ (.int .u32 ((lb (x / y) 5 : Nat) : Int)))) #[true, true, true, false] rfl rfl (by kernel_rfl) (by decide) (by rfl) (run_put6_ rfl (show _ = Value.pointer (some ⟨g1, 0, none⟩) from by rfl) (show _ = Value.agg #[.int .u32 ((lb (x / y) 0 : Nat) : Int), .int .u32 ((lb (x / y) 1 : Nat) : Int), .int .u32 ((lb (x / y) 2 : Nat) : Int), .int .u32 ((lb (x / y) 3 : Nat) : Int), .int .u32 ((lb (x / y) 4 : Nat) : Int), .int .u32 ((lb (x / y) 5 : Nat) : Int)] from by rfl) (HO.out.at 3 rfl) (by kernel_rfl) (by rfl)) ⟨HO2.out.cell 1 rfl 0 rfl, HO2.out.cell 1 rfl 1 rfl, HO2.out.cell 1 rfl 2 rfl, HO2.out.cell 1 rfl 3 rfl, HO2.out.cell 1 rfl 4 rfl, HO2.out.cell 1 rfl 5 rfl, HO2.out.cell 0 rfl 0 rfl, HO2.out.cell 0 rfl 1 rfl, HO2.out.cell 0 rfl 2 rfl, HO2.out.cell 0 rfl 3 rfl, HO2.out.cell 0 rfl 4 rfl, HO2.out.cell 0 rfl 5 rfl⟩ (fun hHeld => ?_)
      refine last_store_ (i := 3) (w1 := (World.setCell (World.setCell (World.setCell (World.setCell (World.setCell (World.setCell (World.setCell (World.setCell (World.setCell (World.setCell (World.setCell (World.setCell wr.drew ⟨g1, 0, none⟩ (.int .u32 ((lb (x / y) 0 : Nat) : Int))) ⟨g1, 1, none⟩ (.int .u32 ((lb (x / y) 1 : Nat) : Int))) ⟨g1, 2, none⟩ (.int .u32 ((lb (x / y) 2 : Nat) : Int))) ⟨g1, 3, none⟩ (.int .u32 ((lb (x / y) 3 : Nat) : Int))) ⟨g1, 4, none⟩ (.int .u32 ((lb (x / y) 4 : Nat) : Int))) ⟨g1, 5, none⟩ (.int .u32 ((lb (x / y) 5 : Nat) : Int))) ⟨g2, 0, none⟩ (.int .u32 ((lb (x % y) 0 : Nat) : Int))) ⟨g2, 1, none⟩ (.int .u32 ((lb (x % y) 1 : Nat) : Int))) ⟨g2, 2, none⟩ (.int .u32 ((lb (x % y) 2 : Nat) : Int))) ⟨g2, 3, none⟩ (.int .u32 ((lb (x % y) 3 : Nat) : Int))) ⟨g2, 4, none⟩ (.int .u32 ((lb (x % y) 4 : Nat) : Int))) ⟨g2, 5, none⟩ (.int .u32 ((lb (x % y) 5 : Nat) : Int)))) #[true, true, true, true] rfl rfl (by kernel_rfl) (by decide) (by rfl) (run_put6_ rfl (show _ = Value.pointer (some ⟨g2, 0, none⟩) from by rfl) (show _ = Value.agg #[.int .u32 ((lb (x % y) 0 : Nat) : Int), .int .u32 ((lb (x % y) 1 : Nat) : Int), .int .u32 ((lb (x % y) 2 : Nat) : Int), .int .u32 ((lb (x % y) 3 : Nat) : Int), .int .u32 ((lb (x % y) 4 : Nat) : Int), .int .u32 ((lb (x % y) 5 : Nat) : Int)] from by rfl) (HO2.out.at 2 rfl) (by kernel_rfl) (by rfl)) ?_
      refine done_ (by kernel_rfl) ?_
      generalize hw_ : (World.setCell (World.setCell (World.setCell (World.setCell (World.setCell (World.setCell (World.setCell (World.setCell (World.setCell (World.setCell (World.setCell (World.setCell wr.drew ⟨g1, 0, none⟩ (.int .u32 ((lb (x / y) 0 : Nat) : Int))) ⟨g1, 1, none⟩ (.int .u32 ((lb (x / y) 1 : Nat) : Int))) ⟨g1, 2, none⟩ (.int .u32 ((lb (x / y) 2 : Nat) : Int))) ⟨g1, 3, none⟩ (.int .u32 ((lb (x / y) 3 : Nat) : Int))) ⟨g1, 4, none⟩ (.int .u32 ((lb (x / y) 4 : Nat) : Int))) ⟨g1, 5, none⟩ (.int .u32 ((lb (x / y) 5 : Nat) : Int))) ⟨g2, 0, none⟩ (.int .u32 ((lb (x % y) 0 : Nat) : Int))) ⟨g2, 1, none⟩ (.int .u32 ((lb (x % y) 1 : Nat) : Int))) ⟨g2, 2, none⟩ (.int .u32 ((lb (x % y) 2 : Nat) : Int))) ⟨g2, 3, none⟩ (.int .u32 ((lb (x % y) 3 : Nat) : Int))) ⟨g2, 4, none⟩ (.int .u32 ((lb (x % y) 4 : Nat) : Int))) ⟨g2, 5, none⟩ (.int .u32 ((lb (x % y) 5 : Nat) : Int))) = w19
      replace HO := Aside0.mk (HO2.out.put6 2 rfl hw_.symm rfl)
      clear hw_
      go_wp2
      refine bodyPost_ret (results_list (rs := [.cell 4 126, .cell 5 126]) rfl (by simp) (.cell g1 126 #[.int .u32 ((lb (x / y) 0 : Nat) : Int), .int .u32 ((lb (x / y) 1 : Nat) : Int), .int .u32 ((lb (x / y) 2 : Nat) : Int), .int .u32 ((lb (x / y) 3 : Nat) : Int), .int .u32 ((lb (x / y) 4 : Nat) : Int), .int .u32 ((lb (x / y) 5 : Nat) : Int)] (0, 0) _ rfl (HO.out.at 3 rfl) Try.underlying126 rfl (by kernel_rfl) (.cell g2 126 #[.int .u32 ((lb (x % y) 0 : Nat) : Int), .int .u32 ((lb (x % y) 1 : Nat) : Int), .int .u32 ((lb (x % y) 2 : Nat) : Int), .int .u32 ((lb (x % y) 3 : Nat) : Int), .int .u32 ((lb (x % y) 4 : Nat) : Int), .int .u32 ((lb (x % y) 5 : Nat) : Int)] (0, 0) _ rfl (HO.out.at 2 rfl) Try.underlying126 rfl (by kernel_rfl) .nil))) rfl ?_
      exact ⟨rfl, HO.out.bel⟩
theorem dv_up {x y : Nat} (hx : x < 4294967296 ^ 6) (hy : 0 < y) (hz : x % y ≠ 0) : x / y + 1 < 4294967296 ^ 6 := by
  have h2 : 2 ≤ y := by
    rcases (by omega : y = 1 ∨ 2 ≤ y) with h | h
    · rw [h, Nat.mod_one] at hz; exact absurd rfl hz
    · exact h
  have h3 : x / y ≤ x / 2 := Nat.div_le_div_left h2 (by decide)
  simp only [Nat.reducePow] at *
  omega
theorem A6_one : #[.int .u32 1, .int .u32 0, .int .u32 0, .int .u32 0, .int .u32 0, .int .u32 0] = A6 1 := by
  obtain ⟨a, b, c, d, e, f⟩ := of_lb 1 (by decide)
  unfold A6
  rw [← a, ← b, c, d, e, f]
  rfl
theorem P6_one {w : World} {g U : Nat} (h : w.heap[g]? = some (.cells #[.int .u32 1, .int .u32 0, .int .u32 0, .int .u32 0, .int .u32 0, .int .u32 0] U (0, 0))) : P6 w g 0 1 := by
  rw [A6_one] at h
  exact P6.blk h
def BitsOk : Prop := ∀ m : Nat, m < 4294967296 ^ 6 → ∃ s : Nat, (s ≤ 192 ∧ m < 2 ^ s) ∧ ∀ (W : World) (B O : Nat), P6 W B O m → Calls Try.prog 131 #[.pointer (some ⟨B, O, none⟩)] W fun e w' => e = .returned (.int .i64 (s : Int)) ∧ Below W.heap.size W w'
def dvV (q t : Bool) (x y : Nat) : Value := if q = true ∧ x % y ≠ 0 then .tuple #[.agg (W7 (q && !(zN (x / y + 1))) (x / y + 1)), .agg (W7 (t && !(zN (y - x % y))) (y - x % y))] else .tuple #[.agg (W7 (q && !(zN (x / y))) (x / y)), .agg (W7 (t && !(zN (x % y))) (x % y))]
set_option maxHeartbeats 8000000 in
set_option maxRecDepth 100000 in
theorem sDv (w : World) (s t q : Bool) (hst : (s == t) = !q) (x y : Nat) (hx : x < 4294967296 ^ 6) (hy : y < 4294967296 ^ 6) (hy0 : 0 < y) (hB : BitsOk) :
    Calls Try.prog 99 #[.agg #[.bool s, .int .u32 ((lb x 0 : Nat) : Int), .int .u32 ((lb x 1 : Nat) : Int), .int .u32 ((lb x 2 : Nat) : Int), .int .u32 ((lb x 3 : Nat) : Int), .int .u32 ((lb x 4 : Nat) : Int), .int .u32 ((lb x 5 : Nat) : Int)], .agg #[.bool t, .int .u32 ((lb y 0 : Nat) : Int), .int .u32 ((lb y 1 : Nat) : Int), .int .u32 ((lb y 2 : Nat) : Int), .int .u32 ((lb y 3 : Nat) : Int), .int .u32 ((lb y 4 : Nat) : Int), .int .u32 ((lb y 5 : Nat) : Int)]] w fun e w' => e = .returned (dvV q t x y) ∧ Below w.heap.size w w' := by
  obtain ⟨bs, hbs, hbi⟩ := hB x hx
  have HX := Aside0.mk hx
  have HY := Aside0.mk hy
  have HY0 := Aside0.mk hy0
  have HBS := Aside0.mk hbs
  have HBI := Aside0.mk hbi
  have HRM : Aside0 (x % y < 4294967296 ^ 6) := ⟨Nat.lt_trans (Nat.mod_lt _ hy0) hy⟩
  have HRL : Aside0 (x % y ≤ y) := ⟨Nat.le_of_lt (Nat.mod_lt _ hy0)⟩
  clear hx hy hy0 hbs hbi hB
  have hu25 := Try.underlying25
  have hu23 := Try.underlying23
  have hu126 := Try.underlying126
  have HO := Aside0.mk (OB.start w)
  cases q with
  | false =>
    have HV : Aside0 (dvV false t x y = .tuple #[.agg (W7 (false && !(zN (x / y))) (x / y)), .agg (W7 (t && !(zN (x % y))) (x % y))]) := ⟨if_neg (fun e => absurd e.1 (by decide))⟩
    have HQM : Aside0 (x / y < 4294967296 ^ 6) := ⟨Nat.lt_of_le_of_lt (Nat.div_le_self _ _) HX.out⟩
    have HRM2 := HRM
    go_enter Try.func99, Try.ntmps99
    go_wp2_with (first | ((with_reducible refine gate_dst (N := 2) rfl ?_); refine box_event ?hg (N := 2) ?hd (cs := #[.bool s, .int .u32 ((lb x 0 : Nat) : Int), .int .u32 ((lb x 1 : Nat) : Int), .int .u32 ((lb x 2 : Nat) : Int), .int .u32 ((lb x 3 : Nat) : Int), .int .u32 ((lb x 4 : Nat) : Int), .int .u32 ((lb x 5 : Nat) : Int)]) (t := 25) ?hr ?_; (case hd => rfl); (case hg => rfl); (case hr => first | (go_simp; done) | (go_simp; rfl)); intro g1 hg w1 hbox hb; replace HO := Aside0.mk (HO.out.box hg hbox hb); clear hg hbox hb) | ((with_reducible refine gate_dst (N := 3) rfl ?_); refine box_event ?hg (N := 3) ?hd (cs := #[.bool t, .int .u32 ((lb y 0 : Nat) : Int), .int .u32 ((lb y 1 : Nat) : Int), .int .u32 ((lb y 2 : Nat) : Int), .int .u32 ((lb y 3 : Nat) : Int), .int .u32 ((lb y 4 : Nat) : Int), .int .u32 ((lb y 5 : Nat) : Int)]) (t := 25) ?hr ?_; (case hd => rfl); (case hg => rfl); (case hr => first | (go_simp; done) | (go_simp; rfl)); intro g2 hg w1 hbox hb; replace HO := Aside0.mk (HO.out.box hg hbox hb); clear hg hbox hb) | ((with_reducible refine gate_dst (N := 4) rfl ?_); refine box_event ?hg (N := 4) ?hd (cs := #[.bool false, .int .u32 0, .int .u32 0, .int .u32 0, .int .u32 0, .int .u32 0, .int .u32 0]) (t := 25) ?hr ?_; (case hd => rfl); (case hg => rfl); (case hr => first | (go_simp; done) | (go_simp; rfl)); intro g3 hg w1 hbox hb; replace HO := Aside0.mk (HO.out.box hg hbox hb); clear hg hbox hb) | ((with_reducible refine gate_dst (N := 5) rfl ?_); refine box_event ?hg (N := 5) ?hd (cs := #[.bool false, .int .u32 0, .int .u32 0, .int .u32 0, .int .u32 0, .int .u32 0, .int .u32 0]) (t := 25) ?hr ?_; (case hd => rfl); (case hg => rfl); (case hr => first | (go_simp; done) | (go_simp; rfl)); intro g4 hg w2 hbox hb; replace HO := Aside0.mk (HO.out.box hg hbox hb); clear hg hbox hb; obtain ⟨a0, a1, a2, a3, a4, a5, a6⟩ := cells7_ (HO.out.at 3 rfl); obtain ⟨b0, b1, b2, b3, b4, b5, b6⟩ := cells7_ (HO.out.at 2 rfl)) | ((with_reducible refine gate_dst (N := 6) rfl ?_); refine box_event ?hg (N := 6) ?hd (cs := #[.int .u32 0, .int .u32 0, .int .u32 0, .int .u32 0, .int .u32 0, .int .u32 0]) (t := 126) ?hr ?_; (case hd => rfl); (case hg => rfl); (case hr => first | (go_simp; done) | (go_simp; rfl)); intro g5 hg w3 hbox hb; replace HO := Aside0.mk (HO.out.box hg hbox hb); clear hg hbox hb) | ((with_reducible refine gate_store (t := 126) (p := 6) rfl ?_); refine store_event (t := 126) (p := 6) (v := ?vo_1) (w1 := (World.setCell (World.setCell (World.setCell (World.setCell (World.setCell (World.setCell w3 ⟨g5, 0, none⟩ (.int .u32 ((lb x 0 : Nat) : Int))) ⟨g5, 1, none⟩ (.int .u32 ((lb x 1 : Nat) : Int))) ⟨g5, 2, none⟩ (.int .u32 ((lb x 2 : Nat) : Int))) ⟨g5, 3, none⟩ (.int .u32 ((lb x 3 : Nat) : Int))) ⟨g5, 4, none⟩ (.int .u32 ((lb x 4 : Nat) : Int))) ⟨g5, 5, none⟩ (.int .u32 ((lb x 5 : Nat) : Int)))) ?hg ?ho ?hn ?hr ?_; (case ho => rfl); (case hg => rfl); (case hn => rfl); (case hr => (try simp only [Act.put, List.setIfInBounds_toArray, List.set_cons_zero, List.set_cons_succ]); exact run_put6_ rfl (show _ = Value.pointer (some ⟨g5, 0, none⟩) from by rfl) (show _ = Value.agg #[.int .u32 ((lb x 0 : Nat) : Int), .int .u32 ((lb x 1 : Nat) : Int), .int .u32 ((lb x 2 : Nat) : Int), .int .u32 ((lb x 3 : Nat) : Int), .int .u32 ((lb x 4 : Nat) : Int), .int .u32 ((lb x 5 : Nat) : Int)] from by rfl) (HO.out.at 0 rfl) (by kernel_rfl) (by rfl)); intro w4 hw; replace HO := Aside0.mk (HO.out.put6 0 rfl hw rfl); clear hw; clear a0 a1 a2 a3 a4 a5 a6 b0 b1 b2 b3 b4 b5 b6; obtain ⟨b0, b1, b2, b3, b4, b5, b6⟩ := cells7_ (HO.out.at 3 rfl)) | ((with_reducible refine gate_dst (N := 7) rfl ?_); refine box_event ?hg (N := 7) ?hd (cs := #[.int .u32 0, .int .u32 0, .int .u32 0, .int .u32 0, .int .u32 0, .int .u32 0]) (t := 126) ?hr ?_; (case hd => rfl); (case hg => rfl); (case hr => first | (go_simp; done) | (go_simp; rfl)); intro g6 hg w5 hbox hb; replace HO := Aside0.mk (HO.out.box hg hbox hb); clear hg hbox hb) | ((with_reducible refine gate_store (t := 126) (p := 7) rfl ?_); refine store_event (t := 126) (p := 7) (v := ?vo_2) (w1 := (World.setCell (World.setCell (World.setCell (World.setCell (World.setCell (World.setCell w5 ⟨g6, 0, none⟩ (.int .u32 ((lb y 0 : Nat) : Int))) ⟨g6, 1, none⟩ (.int .u32 ((lb y 1 : Nat) : Int))) ⟨g6, 2, none⟩ (.int .u32 ((lb y 2 : Nat) : Int))) ⟨g6, 3, none⟩ (.int .u32 ((lb y 3 : Nat) : Int))) ⟨g6, 4, none⟩ (.int .u32 ((lb y 4 : Nat) : Int))) ⟨g6, 5, none⟩ (.int .u32 ((lb y 5 : Nat) : Int)))) ?hg ?ho ?hn ?hr ?_; (case ho => rfl); (case hg => rfl); (case hn => rfl); (case hr => (try simp only [Act.put, List.setIfInBounds_toArray, List.set_cons_zero, List.set_cons_succ]); exact run_put6_ rfl (show _ = Value.pointer (some ⟨g6, 0, none⟩) from by rfl) (show _ = Value.agg #[.int .u32 ((lb y 0 : Nat) : Int), .int .u32 ((lb y 1 : Nat) : Int), .int .u32 ((lb y 2 : Nat) : Int), .int .u32 ((lb y 3 : Nat) : Int), .int .u32 ((lb y 4 : Nat) : Int), .int .u32 ((lb y 5 : Nat) : Int)] from by rfl) (HO.out.at 0 rfl) (by kernel_rfl) (by rfl)); intro w6 hw; replace HO := Aside0.mk (HO.out.put6 0 rfl hw rfl); clear hw; clear b0 b1 b2 b3 b4 b5 b6) | (go_at_call 123; (with_reducible refine (sDiv _ g5 0 g6 0 x y bs (P6.blk (HO.out.at 1 rfl)) (P6.blk (HO.out.at 0 rfl)) HX.out HY.out HY0.out HBS.out (fun W hb => HBI.out W g5 0 ((P6.blk (HO.out.at 1 rfl)).below hb))).mono ?_); rintro e w7 ⟨rfl, hb⟩; replace HO := Aside0.mk (HO.out.below hb); clear hb) | ((with_reducible refine gate_dst (N := 8) rfl ?_); refine box_event ?hg (N := 8) ?hd (cs := #[.int .u32 0, .int .u32 0, .int .u32 0, .int .u32 0, .int .u32 0, .int .u32 0]) (t := 126) ?hr ?_; (case hd => rfl); (case hg => rfl); (case hr => first | (go_simp; done) | (go_simp; rfl)); intro g7 hg w8 hbox hb; replace HO := Aside0.mk (HO.out.box hg hbox hb); clear hg hbox hb) | ((with_reducible refine gate_dst (N := 9) rfl ?_); refine box_event ?hg (N := 9) ?hd (cs := #[.int .u32 0, .int .u32 0, .int .u32 0, .int .u32 0, .int .u32 0, .int .u32 0]) (t := 126) ?hr ?_; (case hd => rfl); (case hg => rfl); (case hr => first | (go_simp; done) | (go_simp; rfl)); intro g8 hg w9 hbox hb; replace HO := Aside0.mk (HO.out.box hg hbox hb); clear hg hbox hb) | ((with_reducible refine gate_store (t := 126) (p := 8) rfl ?_); refine store_event (t := 126) (p := 8) (v := ?vo_3) (w1 := (World.setCell (World.setCell (World.setCell (World.setCell (World.setCell (World.setCell w9 ⟨g7, 0, none⟩ (.int .u32 ((lb (x / y) 0 : Nat) : Int))) ⟨g7, 1, none⟩ (.int .u32 ((lb (x / y) 1 : Nat) : Int))) ⟨g7, 2, none⟩ (.int .u32 ((lb (x / y) 2 : Nat) : Int))) ⟨g7, 3, none⟩ (.int .u32 ((lb (x / y) 3 : Nat) : Int))) ⟨g7, 4, none⟩ (.int .u32 ((lb (x / y) 4 : Nat) : Int))) ⟨g7, 5, none⟩ (.int .u32 ((lb (x / y) 5 : Nat) : Int)))) ?hg ?ho ?hn ?hr ?_; (case ho => rfl); (case hg => rfl); (case hn => rfl); (case hr => (try simp only [Act.put, List.setIfInBounds_toArray, List.set_cons_zero, List.set_cons_succ]); exact run_put6_ rfl (show _ = Value.pointer (some ⟨g7, 0, none⟩) from by rfl) (show _ = Value.agg #[.int .u32 ((lb (x / y) 0 : Nat) : Int), .int .u32 ((lb (x / y) 1 : Nat) : Int), .int .u32 ((lb (x / y) 2 : Nat) : Int), .int .u32 ((lb (x / y) 3 : Nat) : Int), .int .u32 ((lb (x / y) 4 : Nat) : Int), .int .u32 ((lb (x / y) 5 : Nat) : Int)] from by rfl) (HO.out.at 1 rfl) (by kernel_rfl) (by rfl)); intro w10 hw; replace HO := Aside0.mk (HO.out.put6 1 rfl hw rfl); clear hw) | ((with_reducible refine gate_store (t := 126) (p := 9) rfl ?_); refine store_event (t := 126) (p := 9) (v := ?vo_4) (w1 := (World.setCell (World.setCell (World.setCell (World.setCell (World.setCell (World.setCell w10 ⟨g8, 0, none⟩ (.int .u32 ((lb (x % y) 0 : Nat) : Int))) ⟨g8, 1, none⟩ (.int .u32 ((lb (x % y) 1 : Nat) : Int))) ⟨g8, 2, none⟩ (.int .u32 ((lb (x % y) 2 : Nat) : Int))) ⟨g8, 3, none⟩ (.int .u32 ((lb (x % y) 3 : Nat) : Int))) ⟨g8, 4, none⟩ (.int .u32 ((lb (x % y) 4 : Nat) : Int))) ⟨g8, 5, none⟩ (.int .u32 ((lb (x % y) 5 : Nat) : Int)))) ?hg ?ho ?hn ?hr ?_; (case ho => rfl); (case hg => rfl); (case hn => rfl); (case hr => (try simp only [Act.put, List.setIfInBounds_toArray, List.set_cons_zero, List.set_cons_succ]); exact run_put6_ rfl (show _ = Value.pointer (some ⟨g8, 0, none⟩) from by rfl) (show _ = Value.agg #[.int .u32 ((lb (x % y) 0 : Nat) : Int), .int .u32 ((lb (x % y) 1 : Nat) : Int), .int .u32 ((lb (x % y) 2 : Nat) : Int), .int .u32 ((lb (x % y) 3 : Nat) : Int), .int .u32 ((lb (x % y) 4 : Nat) : Int), .int .u32 ((lb (x % y) 5 : Nat) : Int)] from by rfl) (HO.out.at 0 rfl) (by kernel_rfl) (by rfl)); intro w11 hw; replace HO := Aside0.mk (HO.out.put6 0 rfl hw rfl); clear hw; have s0 := HO.out.cell 7 rfl 0 rfl; have t0 := HO.out.cell 6 rfl 0 rfl))
    replace HO := Aside0.mk HO.out.drew
    refine start_ (n := 13) (S := fun w' => w'.cell? ⟨g1, 0, none⟩ = some (.bool s) ∧ w'.cell? ⟨g2, 0, none⟩ = some (.bool t) ∧ w'.cell? ⟨g7, 0, none⟩ = some (.int .u32 ((lb (x / y) 0 : Nat) : Int)) ∧ w'.cell? ⟨g7, 1, none⟩ = some (.int .u32 ((lb (x / y) 1 : Nat) : Int)) ∧ w'.cell? ⟨g7, 2, none⟩ = some (.int .u32 ((lb (x / y) 2 : Nat) : Int)) ∧ w'.cell? ⟨g7, 3, none⟩ = some (.int .u32 ((lb (x / y) 3 : Nat) : Int)) ∧ w'.cell? ⟨g7, 4, none⟩ = some (.int .u32 ((lb (x / y) 4 : Nat) : Int)) ∧ w'.cell? ⟨g7, 5, none⟩ = some (.int .u32 ((lb (x / y) 5 : Nat) : Int)) ∧ w'.cell? ⟨g8, 0, none⟩ = some (.int .u32 ((lb (x % y) 0 : Nat) : Int)) ∧ w'.cell? ⟨g8, 1, none⟩ = some (.int .u32 ((lb (x % y) 1 : Nat) : Int)) ∧ w'.cell? ⟨g8, 2, none⟩ = some (.int .u32 ((lb (x % y) 2 : Nat) : Int)) ∧ w'.cell? ⟨g8, 3, none⟩ = some (.int .u32 ((lb (x % y) 3 : Nat) : Int)) ∧ w'.cell? ⟨g8, 4, none⟩ = some (.int .u32 ((lb (x % y) 4 : Nat) : Int)) ∧ w'.cell? ⟨g8, 5, none⟩ = some (.int .u32 ((lb (x % y) 5 : Nat) : Int))) (ds := [12]) #[false, false, false, false, false, false, false, false, false, false, false, false, false] (by kernel_rfl) rfl rfl ⟨HO.out.cell 7 rfl 0 rfl, HO.out.cell 6 rfl 0 rfl, HO.out.cell 1 rfl 0 rfl, HO.out.cell 1 rfl 1 rfl, HO.out.cell 1 rfl 2 rfl, HO.out.cell 1 rfl 3 rfl, HO.out.cell 1 rfl 4 rfl, HO.out.cell 1 rfl 5 rfl, HO.out.cell 0 rfl 0 rfl, HO.out.cell 0 rfl 1 rfl, HO.out.cell 0 rfl 2 rfl, HO.out.cell 0 rfl 3 rfl, HO.out.cell 0 rfl 4 rfl, HO.out.cell 0 rfl 5 rfl⟩ (fun hHeld => ?_)
    refine pure_ (i := 0) (N := some 34) (v := ?_) (a' := ?_) #[true, false, false, false, false, false, false, false, false, false, false, false, false] rfl rfl (by kernel_rfl) (fun _ _ _ h => h) (Or.inl ⟨by rfl, ?_⟩) ?_ ?_
    rotate_left
    · intro w'
      go_simp
      with_reducible rfl
    rotate_left
    · simp only [Act.put, List.setIfInBounds_toArray, List.set_cons_zero, List.set_cons_succ, i64_w, i32_w]
      rfl
    refine pure_ (i := 2) (N := some 36) (v := ?_) (a' := ?_) #[true, false, true, false, false, false, false, false, false, false, false, false, false] rfl rfl (by kernel_rfl) (fun _ _ _ h => h) (Or.inl ⟨by rfl, ?_⟩) ?_ ?_
    rotate_left
    · intro w'
      go_simp
      with_reducible rfl
    rotate_left
    · simp only [Act.put, List.setIfInBounds_toArray, List.set_cons_zero, List.set_cons_succ, i64_w, i32_w]
      rfl
    refine pure_ (i := 7) (N := some 41) (v := ?_) (a' := ?_) #[true, false, true, false, false, false, false, true, false, false, false, false, false] rfl rfl (by kernel_rfl) (fun _ _ _ h => h) (Or.inl ⟨by rfl, ?_⟩) ?_ ?_
    rotate_left
    · intro w'
      go_simp
      with_reducible rfl
    rotate_left
    · simp only [Act.put, List.setIfInBounds_toArray, List.set_cons_zero, List.set_cons_succ, i64_w, i32_w]
      rfl
    refine take_ (i := 1) (N := some 35) (v := ?_) (a' := ?_) #[true, true, true, false, false, false, false, true, false, false, false, false, false] rfl rfl (by kernel_rfl) (fun _ _ _ h => h) (Or.inl ⟨by rfl, ?_⟩) hHeld ?_ ?_
    rotate_left
    · rintro w' ⟨s0, s1, s2, s3, s4, s5, s6, s7, s8, s9, s10, s11, s12, s13⟩
      go_simp
      with_reducible rfl
    rotate_left
    · simp only [Act.put, List.setIfInBounds_toArray, List.set_cons_zero, List.set_cons_succ, i64_w, i32_w]
      rfl
    refine take_ (i := 3) (N := some 37) (v := ?_) (a' := ?_) #[true, true, true, true, false, false, false, true, false, false, false, false, false] rfl rfl (by kernel_rfl) (fun _ _ _ h => h) (Or.inl ⟨by rfl, ?_⟩) hHeld ?_ ?_
    rotate_left
    · rintro w' ⟨s0, s1, s2, s3, s4, s5, s6, s7, s8, s9, s10, s11, s12, s13⟩
      go_simp
      with_reducible rfl
    rotate_left
    · simp only [Act.put, List.setIfInBounds_toArray, List.set_cons_zero, List.set_cons_succ, i64_w, i32_w]
      rfl
    refine pure_ (i := 4) (N := some 38) (v := ?_) (a' := ?_) #[true, true, true, true, true, false, false, true, false, false, false, false, false] rfl rfl (by kernel_rfl) (fun _ _ _ h => h) (Or.inl ⟨by rfl, ?_⟩) ?_ ?_
    rotate_left
    · intro w'
      go_simp
      with_reducible rfl
    rotate_left
    · simp only [Act.put, List.setIfInBounds_toArray, List.set_cons_zero, List.set_cons_succ, i64_w, i32_w]
      rfl
    refine take_ (i := 5) (N := some 39) (v := ?_) (a' := ?_) #[true, true, true, true, true, true, false, true, false, false, false, false, false] rfl rfl (by kernel_rfl) (fun _ _ _ h => h) (Or.inl ⟨by rfl, ?_⟩) hHeld ?_ ?_
    rotate_left
    · rintro w' ⟨s0, s1, s2, s3, s4, s5, s6, s7, s8, s9, s10, s11, s12, s13⟩
      go_simp
      with_reducible rfl
    rotate_left
    · simp only [Act.put, List.setIfInBounds_toArray, List.set_cons_zero, List.set_cons_succ, i64_w, i32_w]
      rfl
    refine take_ (i := 8) (N := some 42) (v := ?_) (a' := ?_) #[true, true, true, true, true, true, false, true, true, false, false, false, false] rfl rfl (by kernel_rfl) (fun _ _ _ h => h) (Or.inl ⟨by rfl, ?_⟩) hHeld ?_ ?_
    rotate_left
    · rintro w' ⟨s0, s1, s2, s3, s4, s5, s6, s7, s8, s9, s10, s11, s12, s13⟩
      go_simp
      with_reducible rfl
    rotate_left
    · simp only [Act.put, List.setIfInBounds_toArray, List.set_cons_zero, List.set_cons_succ, i64_w, i32_w]
      rfl
    refine take_ (i := 9) (N := some 43) (v := ?_) (a' := ?_) #[true, true, true, true, true, true, false, true, true, true, false, false, false] rfl rfl (by kernel_rfl) (fun _ _ _ h => h) (Or.inl ⟨by rfl, ?_⟩) hHeld ?_ ?_
    rotate_left
    · rintro w' ⟨s0, s1, s2, s3, s4, s5, s6, s7, s8, s9, s10, s11, s12, s13⟩
      go_simp
      with_reducible rfl
    rotate_left
    · simp only [Act.put, List.setIfInBounds_toArray, List.set_cons_zero, List.set_cons_succ, i64_w, i32_w]
      rfl
    refine one_ (i := 6) (N := some 40) #[true, true, true, true, true, true, true, true, true, true, false, false, false] rfl rfl (by kernel_rfl) (by decide) (fun K hK => ?_)
    refine goes_ Try.func112 (by kernel_rfl) rfl #[.bool false, .agg #[.int .u32 ((lb (x / y) 0 : Nat) : Int), .int .u32 ((lb (x / y) 1 : Nat) : Int), .int .u32 ((lb (x / y) 2 : Nat) : Int), .int .u32 ((lb (x / y) 3 : Nat) : Int), .int .u32 ((lb (x / y) 4 : Nat) : Int), .int .u32 ((lb (x / y) 5 : Nat) : Int)]] (by rfl) rfl rfl (by simp only [List.map_toArray, List.map_cons, List.map_nil]; rfl) ?_
    with_reducible refine (sMade _ false (x / y) HQM.out).mono ?_
    rintro e w21 ⟨rfl, hb⟩
    refine ⟨_, rfl, ?_⟩
    replace HO := Aside0.mk (HO.out.below hb)
    clear hb
    refine hK.out _ _ ⟨HO.out.cell 7 rfl 0 rfl, HO.out.cell 6 rfl 0 rfl, HO.out.cell 1 rfl 0 rfl, HO.out.cell 1 rfl 1 rfl, HO.out.cell 1 rfl 2 rfl, HO.out.cell 1 rfl 3 rfl, HO.out.cell 1 rfl 4 rfl, HO.out.cell 1 rfl 5 rfl, HO.out.cell 0 rfl 0 rfl, HO.out.cell 0 rfl 1 rfl, HO.out.cell 0 rfl 2 rfl, HO.out.cell 0 rfl 3 rfl, HO.out.cell 0 rfl 4 rfl, HO.out.cell 0 rfl 5 rfl⟩ (fun hHeld => ?_)
    clear hK K
    refine norm_ (a' := ?_) ?_ ?_
    rotate_left
    · show Act.put _ (some 40) _ = _
      simp only [Act.put, List.setIfInBounds_toArray, List.set_cons_zero, List.set_cons_succ, i64_w, i32_w]
      rfl
    refine one_ (i := 10) (N := some 44) #[true, true, true, true, true, true, true, true, true, true, true, false, false] rfl rfl (by kernel_rfl) (by decide) (fun K hK => ?_)
    refine goes_ Try.func112 (by kernel_rfl) rfl #[.bool t, .agg #[.int .u32 ((lb (x % y) 0 : Nat) : Int), .int .u32 ((lb (x % y) 1 : Nat) : Int), .int .u32 ((lb (x % y) 2 : Nat) : Int), .int .u32 ((lb (x % y) 3 : Nat) : Int), .int .u32 ((lb (x % y) 4 : Nat) : Int), .int .u32 ((lb (x % y) 5 : Nat) : Int)]] (by rfl) rfl rfl (by simp only [List.map_toArray, List.map_cons, List.map_nil]; rfl) ?_
    with_reducible refine (sMade _ t (x % y) HRM2.out).mono ?_
    rintro e w22 ⟨rfl, hb⟩
    refine ⟨_, rfl, ?_⟩
    replace HO := Aside0.mk (HO.out.below hb)
    clear hb
    refine hK.out _ _ ⟨HO.out.cell 7 rfl 0 rfl, HO.out.cell 6 rfl 0 rfl, HO.out.cell 1 rfl 0 rfl, HO.out.cell 1 rfl 1 rfl, HO.out.cell 1 rfl 2 rfl, HO.out.cell 1 rfl 3 rfl, HO.out.cell 1 rfl 4 rfl, HO.out.cell 1 rfl 5 rfl, HO.out.cell 0 rfl 0 rfl, HO.out.cell 0 rfl 1 rfl, HO.out.cell 0 rfl 2 rfl, HO.out.cell 0 rfl 3 rfl, HO.out.cell 0 rfl 4 rfl, HO.out.cell 0 rfl 5 rfl⟩ (fun hHeld => ?_)
    clear hK K
    refine norm_ (a' := ?_) ?_ ?_
    rotate_left
    · show Act.put _ (some 44) _ = _
      simp only [Act.put, List.setIfInBounds_toArray, List.set_cons_zero, List.set_cons_succ, i64_w, i32_w]
      rfl
    have HO2 := Aside0.mk (HO.out.put7 5 rfl (rfl : (World.setCell (World.setCell (World.setCell (World.setCell (World.setCell (World.setCell (World.setCell w22 ⟨g3, 0, none⟩ (.bool (false && !(zN (x / y))))) ⟨g3, 1, none⟩ (.int .u32 ((lb (x / y) 0 : Nat) : Int))) ⟨g3, 2, none⟩ (.int .u32 ((lb (x / y) 1 : Nat) : Int))) ⟨g3, 3, none⟩ (.int .u32 ((lb (x / y) 2 : Nat) : Int))) ⟨g3, 4, none⟩ (.int .u32 ((lb (x / y) 3 : Nat) : Int))) ⟨g3, 5, none⟩ (.int .u32 ((lb (x / y) 4 : Nat) : Int))) ⟨g3, 6, none⟩ (.int .u32 ((lb (x / y) 5 : Nat) : Int))) = _) rfl)
    refine one_store_ (i := 11) (w1 := (World.setCell (World.setCell (World.setCell (World.setCell (World.setCell (World.setCell (World.setCell w22 ⟨g3, 0, none⟩ (.bool (false && !(zN (x / y))))) ⟨g3, 1, none⟩ (.int .u32 ((lb (x / y) 0 : Nat) : Int))) ⟨g3, 2, none⟩ (.int .u32 ((lb (x / y) 1 : Nat) : Int))) ⟨g3, 3, none⟩ (.int .u32 ((lb (x / y) 2 : Nat) : Int))) ⟨g3, 4, none⟩ (.int .u32 ((lb (x / y) 3 : Nat) : Int))) ⟨g3, 5, none⟩ (.int .u32 ((lb (x / y) 4 : Nat) : Int))) ⟨g3, 6, none⟩ (.int .u32 ((lb (x / y) 5 : Nat) : Int)))) #[true, true, true, true, true, true, true, true, true, true, true, true, false] rfl rfl (by kernel_rfl) (by decide) (by rfl) (run_put7_ rfl (show _ = Value.pointer (some ⟨g3, 0, none⟩) from by rfl) (show _ = Value.agg #[.bool (false && !(zN (x / y))), .int .u32 ((lb (x / y) 0 : Nat) : Int), .int .u32 ((lb (x / y) 1 : Nat) : Int), .int .u32 ((lb (x / y) 2 : Nat) : Int), .int .u32 ((lb (x / y) 3 : Nat) : Int), .int .u32 ((lb (x / y) 4 : Nat) : Int), .int .u32 ((lb (x / y) 5 : Nat) : Int)] from by rfl) (HO.out.at 5 rfl) (by kernel_rfl) (by rfl)) ⟨HO2.out.cell 7 rfl 0 rfl, HO2.out.cell 6 rfl 0 rfl, HO2.out.cell 1 rfl 0 rfl, HO2.out.cell 1 rfl 1 rfl, HO2.out.cell 1 rfl 2 rfl, HO2.out.cell 1 rfl 3 rfl, HO2.out.cell 1 rfl 4 rfl, HO2.out.cell 1 rfl 5 rfl, HO2.out.cell 0 rfl 0 rfl, HO2.out.cell 0 rfl 1 rfl, HO2.out.cell 0 rfl 2 rfl, HO2.out.cell 0 rfl 3 rfl, HO2.out.cell 0 rfl 4 rfl, HO2.out.cell 0 rfl 5 rfl⟩ (fun hHeld => ?_)
    refine last_store_ (i := 12) (w1 := (World.setCell (World.setCell (World.setCell (World.setCell (World.setCell (World.setCell (World.setCell (World.setCell (World.setCell (World.setCell (World.setCell (World.setCell (World.setCell (World.setCell w22 ⟨g3, 0, none⟩ (.bool (false && !(zN (x / y))))) ⟨g3, 1, none⟩ (.int .u32 ((lb (x / y) 0 : Nat) : Int))) ⟨g3, 2, none⟩ (.int .u32 ((lb (x / y) 1 : Nat) : Int))) ⟨g3, 3, none⟩ (.int .u32 ((lb (x / y) 2 : Nat) : Int))) ⟨g3, 4, none⟩ (.int .u32 ((lb (x / y) 3 : Nat) : Int))) ⟨g3, 5, none⟩ (.int .u32 ((lb (x / y) 4 : Nat) : Int))) ⟨g3, 6, none⟩ (.int .u32 ((lb (x / y) 5 : Nat) : Int))) ⟨g4, 0, none⟩ (.bool (t && !(zN (x % y))))) ⟨g4, 1, none⟩ (.int .u32 ((lb (x % y) 0 : Nat) : Int))) ⟨g4, 2, none⟩ (.int .u32 ((lb (x % y) 1 : Nat) : Int))) ⟨g4, 3, none⟩ (.int .u32 ((lb (x % y) 2 : Nat) : Int))) ⟨g4, 4, none⟩ (.int .u32 ((lb (x % y) 3 : Nat) : Int))) ⟨g4, 5, none⟩ (.int .u32 ((lb (x % y) 4 : Nat) : Int))) ⟨g4, 6, none⟩ (.int .u32 ((lb (x % y) 5 : Nat) : Int)))) #[true, true, true, true, true, true, true, true, true, true, true, true, true] rfl rfl (by kernel_rfl) (by decide) (by rfl) (run_put7_ rfl (show _ = Value.pointer (some ⟨g4, 0, none⟩) from by rfl) (show _ = Value.agg #[.bool (t && !(zN (x % y))), .int .u32 ((lb (x % y) 0 : Nat) : Int), .int .u32 ((lb (x % y) 1 : Nat) : Int), .int .u32 ((lb (x % y) 2 : Nat) : Int), .int .u32 ((lb (x % y) 3 : Nat) : Int), .int .u32 ((lb (x % y) 4 : Nat) : Int), .int .u32 ((lb (x % y) 5 : Nat) : Int)] from by rfl) (HO2.out.at 4 rfl) (by kernel_rfl) (by rfl)) ?_
    refine done_ (by kernel_rfl) ?_
    generalize hw_ : (World.setCell (World.setCell (World.setCell (World.setCell (World.setCell (World.setCell (World.setCell (World.setCell (World.setCell (World.setCell (World.setCell (World.setCell (World.setCell (World.setCell w22 ⟨g3, 0, none⟩ (.bool (false && !(zN (x / y))))) ⟨g3, 1, none⟩ (.int .u32 ((lb (x / y) 0 : Nat) : Int))) ⟨g3, 2, none⟩ (.int .u32 ((lb (x / y) 1 : Nat) : Int))) ⟨g3, 3, none⟩ (.int .u32 ((lb (x / y) 2 : Nat) : Int))) ⟨g3, 4, none⟩ (.int .u32 ((lb (x / y) 3 : Nat) : Int))) ⟨g3, 5, none⟩ (.int .u32 ((lb (x / y) 4 : Nat) : Int))) ⟨g3, 6, none⟩ (.int .u32 ((lb (x / y) 5 : Nat) : Int))) ⟨g4, 0, none⟩ (.bool (t && !(zN (x % y))))) ⟨g4, 1, none⟩ (.int .u32 ((lb (x % y) 0 : Nat) : Int))) ⟨g4, 2, none⟩ (.int .u32 ((lb (x % y) 1 : Nat) : Int))) ⟨g4, 3, none⟩ (.int .u32 ((lb (x % y) 2 : Nat) : Int))) ⟨g4, 4, none⟩ (.int .u32 ((lb (x % y) 3 : Nat) : Int))) ⟨g4, 5, none⟩ (.int .u32 ((lb (x % y) 4 : Nat) : Int))) ⟨g4, 6, none⟩ (.int .u32 ((lb (x % y) 5 : Nat) : Int))) = w29
    replace HO := Aside0.mk (HO2.out.put7 4 rfl hw_.symm rfl)
    clear hw_
    go_wp2
    refine bodyPost_ret (results_list (rs := [.cell 4 25, .cell 5 25]) rfl (by simp) (.cell g3 25 #[.bool (false && !(zN (x / y))), .int .u32 ((lb (x / y) 0 : Nat) : Int), .int .u32 ((lb (x / y) 1 : Nat) : Int), .int .u32 ((lb (x / y) 2 : Nat) : Int), .int .u32 ((lb (x / y) 3 : Nat) : Int), .int .u32 ((lb (x / y) 4 : Nat) : Int), .int .u32 ((lb (x / y) 5 : Nat) : Int)] (0, 0) _ rfl (HO.out.at 5 rfl) Try.underlying25 rfl (by kernel_rfl) (.cell g4 25 #[.bool (t && !(zN (x % y))), .int .u32 ((lb (x % y) 0 : Nat) : Int), .int .u32 ((lb (x % y) 1 : Nat) : Int), .int .u32 ((lb (x % y) 2 : Nat) : Int), .int .u32 ((lb (x % y) 3 : Nat) : Int), .int .u32 ((lb (x % y) 4 : Nat) : Int), .int .u32 ((lb (x % y) 5 : Nat) : Int)] (0, 0) _ rfl (HO.out.at 4 rfl) Try.underlying25 rfl (by kernel_rfl) .nil))) rfl ?_
    exact ⟨by rw [HV.out]; rfl, HO.out.bel⟩
  | true =>
    cases z : zN (x % y) with
    | true =>
      have HV : Aside0 (dvV true t x y = .tuple #[.agg (W7 (true && !(zN (x / y))) (x / y)), .agg (W7 (t && !(zN (x % y))) (x % y))]) := ⟨if_neg (fun e => e.2 (of_decide_eq_true z))⟩
      have HQM : Aside0 (x / y < 4294967296 ^ 6) := ⟨Nat.lt_of_le_of_lt (Nat.div_le_self _ _) HX.out⟩
      have HRM2 := HRM
      go_enter Try.func99, Try.ntmps99
      go_wp2_with (first | ((with_reducible refine gate_dst (N := 2) rfl ?_); refine box_event ?hg (N := 2) ?hd (cs := #[.bool s, .int .u32 ((lb x 0 : Nat) : Int), .int .u32 ((lb x 1 : Nat) : Int), .int .u32 ((lb x 2 : Nat) : Int), .int .u32 ((lb x 3 : Nat) : Int), .int .u32 ((lb x 4 : Nat) : Int), .int .u32 ((lb x 5 : Nat) : Int)]) (t := 25) ?hr ?_; (case hd => rfl); (case hg => rfl); (case hr => first | (go_simp; done) | (go_simp; rfl)); intro g1 hg w1 hbox hb; replace HO := Aside0.mk (HO.out.box hg hbox hb); clear hg hbox hb) | ((with_reducible refine gate_dst (N := 3) rfl ?_); refine box_event ?hg (N := 3) ?hd (cs := #[.bool t, .int .u32 ((lb y 0 : Nat) : Int), .int .u32 ((lb y 1 : Nat) : Int), .int .u32 ((lb y 2 : Nat) : Int), .int .u32 ((lb y 3 : Nat) : Int), .int .u32 ((lb y 4 : Nat) : Int), .int .u32 ((lb y 5 : Nat) : Int)]) (t := 25) ?hr ?_; (case hd => rfl); (case hg => rfl); (case hr => first | (go_simp; done) | (go_simp; rfl)); intro g2 hg w1 hbox hb; replace HO := Aside0.mk (HO.out.box hg hbox hb); clear hg hbox hb) | ((with_reducible refine gate_dst (N := 4) rfl ?_); refine box_event ?hg (N := 4) ?hd (cs := #[.bool false, .int .u32 0, .int .u32 0, .int .u32 0, .int .u32 0, .int .u32 0, .int .u32 0]) (t := 25) ?hr ?_; (case hd => rfl); (case hg => rfl); (case hr => first | (go_simp; done) | (go_simp; rfl)); intro g3 hg w1 hbox hb; replace HO := Aside0.mk (HO.out.box hg hbox hb); clear hg hbox hb) | ((with_reducible refine gate_dst (N := 5) rfl ?_); refine box_event ?hg (N := 5) ?hd (cs := #[.bool false, .int .u32 0, .int .u32 0, .int .u32 0, .int .u32 0, .int .u32 0, .int .u32 0]) (t := 25) ?hr ?_; (case hd => rfl); (case hg => rfl); (case hr => first | (go_simp; done) | (go_simp; rfl)); intro g4 hg w2 hbox hb; replace HO := Aside0.mk (HO.out.box hg hbox hb); clear hg hbox hb; obtain ⟨a0, a1, a2, a3, a4, a5, a6⟩ := cells7_ (HO.out.at 3 rfl); obtain ⟨b0, b1, b2, b3, b4, b5, b6⟩ := cells7_ (HO.out.at 2 rfl)) | ((with_reducible refine gate_dst (N := 6) rfl ?_); refine box_event ?hg (N := 6) ?hd (cs := #[.int .u32 0, .int .u32 0, .int .u32 0, .int .u32 0, .int .u32 0, .int .u32 0]) (t := 126) ?hr ?_; (case hd => rfl); (case hg => rfl); (case hr => first | (go_simp; done) | (go_simp; rfl)); intro g5 hg w3 hbox hb; replace HO := Aside0.mk (HO.out.box hg hbox hb); clear hg hbox hb) | ((with_reducible refine gate_store (t := 126) (p := 6) rfl ?_); refine store_event (t := 126) (p := 6) (v := ?vo_1) (w1 := (World.setCell (World.setCell (World.setCell (World.setCell (World.setCell (World.setCell w3 ⟨g5, 0, none⟩ (.int .u32 ((lb x 0 : Nat) : Int))) ⟨g5, 1, none⟩ (.int .u32 ((lb x 1 : Nat) : Int))) ⟨g5, 2, none⟩ (.int .u32 ((lb x 2 : Nat) : Int))) ⟨g5, 3, none⟩ (.int .u32 ((lb x 3 : Nat) : Int))) ⟨g5, 4, none⟩ (.int .u32 ((lb x 4 : Nat) : Int))) ⟨g5, 5, none⟩ (.int .u32 ((lb x 5 : Nat) : Int)))) ?hg ?ho ?hn ?hr ?_; (case ho => rfl); (case hg => rfl); (case hn => rfl); (case hr => (try simp only [Act.put, List.setIfInBounds_toArray, List.set_cons_zero, List.set_cons_succ]); exact run_put6_ rfl (show _ = Value.pointer (some ⟨g5, 0, none⟩) from by rfl) (show _ = Value.agg #[.int .u32 ((lb x 0 : Nat) : Int), .int .u32 ((lb x 1 : Nat) : Int), .int .u32 ((lb x 2 : Nat) : Int), .int .u32 ((lb x 3 : Nat) : Int), .int .u32 ((lb x 4 : Nat) : Int), .int .u32 ((lb x 5 : Nat) : Int)] from by rfl) (HO.out.at 0 rfl) (by kernel_rfl) (by rfl)); intro w4 hw; replace HO := Aside0.mk (HO.out.put6 0 rfl hw rfl); clear hw; clear a0 a1 a2 a3 a4 a5 a6 b0 b1 b2 b3 b4 b5 b6; obtain ⟨b0, b1, b2, b3, b4, b5, b6⟩ := cells7_ (HO.out.at 3 rfl)) | ((with_reducible refine gate_dst (N := 7) rfl ?_); refine box_event ?hg (N := 7) ?hd (cs := #[.int .u32 0, .int .u32 0, .int .u32 0, .int .u32 0, .int .u32 0, .int .u32 0]) (t := 126) ?hr ?_; (case hd => rfl); (case hg => rfl); (case hr => first | (go_simp; done) | (go_simp; rfl)); intro g6 hg w5 hbox hb; replace HO := Aside0.mk (HO.out.box hg hbox hb); clear hg hbox hb) | ((with_reducible refine gate_store (t := 126) (p := 7) rfl ?_); refine store_event (t := 126) (p := 7) (v := ?vo_2) (w1 := (World.setCell (World.setCell (World.setCell (World.setCell (World.setCell (World.setCell w5 ⟨g6, 0, none⟩ (.int .u32 ((lb y 0 : Nat) : Int))) ⟨g6, 1, none⟩ (.int .u32 ((lb y 1 : Nat) : Int))) ⟨g6, 2, none⟩ (.int .u32 ((lb y 2 : Nat) : Int))) ⟨g6, 3, none⟩ (.int .u32 ((lb y 3 : Nat) : Int))) ⟨g6, 4, none⟩ (.int .u32 ((lb y 4 : Nat) : Int))) ⟨g6, 5, none⟩ (.int .u32 ((lb y 5 : Nat) : Int)))) ?hg ?ho ?hn ?hr ?_; (case ho => rfl); (case hg => rfl); (case hn => rfl); (case hr => (try simp only [Act.put, List.setIfInBounds_toArray, List.set_cons_zero, List.set_cons_succ]); exact run_put6_ rfl (show _ = Value.pointer (some ⟨g6, 0, none⟩) from by rfl) (show _ = Value.agg #[.int .u32 ((lb y 0 : Nat) : Int), .int .u32 ((lb y 1 : Nat) : Int), .int .u32 ((lb y 2 : Nat) : Int), .int .u32 ((lb y 3 : Nat) : Int), .int .u32 ((lb y 4 : Nat) : Int), .int .u32 ((lb y 5 : Nat) : Int)] from by rfl) (HO.out.at 0 rfl) (by kernel_rfl) (by rfl)); intro w6 hw; replace HO := Aside0.mk (HO.out.put6 0 rfl hw rfl); clear hw; clear b0 b1 b2 b3 b4 b5 b6) | (go_at_call 123; (with_reducible refine (sDiv _ g5 0 g6 0 x y bs (P6.blk (HO.out.at 1 rfl)) (P6.blk (HO.out.at 0 rfl)) HX.out HY.out HY0.out HBS.out (fun W hb => HBI.out W g5 0 ((P6.blk (HO.out.at 1 rfl)).below hb))).mono ?_); rintro e w7 ⟨rfl, hb⟩; replace HO := Aside0.mk (HO.out.below hb); clear hb) | ((with_reducible refine gate_dst (N := 8) rfl ?_); refine box_event ?hg (N := 8) ?hd (cs := #[.int .u32 0, .int .u32 0, .int .u32 0, .int .u32 0, .int .u32 0, .int .u32 0]) (t := 126) ?hr ?_; (case hd => rfl); (case hg => rfl); (case hr => first | (go_simp; done) | (go_simp; rfl)); intro g7 hg w8 hbox hb; replace HO := Aside0.mk (HO.out.box hg hbox hb); clear hg hbox hb) | ((with_reducible refine gate_dst (N := 9) rfl ?_); refine box_event ?hg (N := 9) ?hd (cs := #[.int .u32 0, .int .u32 0, .int .u32 0, .int .u32 0, .int .u32 0, .int .u32 0]) (t := 126) ?hr ?_; (case hd => rfl); (case hg => rfl); (case hr => first | (go_simp; done) | (go_simp; rfl)); intro g8 hg w9 hbox hb; replace HO := Aside0.mk (HO.out.box hg hbox hb); clear hg hbox hb) | ((with_reducible refine gate_store (t := 126) (p := 8) rfl ?_); refine store_event (t := 126) (p := 8) (v := ?vo_3) (w1 := (World.setCell (World.setCell (World.setCell (World.setCell (World.setCell (World.setCell w9 ⟨g7, 0, none⟩ (.int .u32 ((lb (x / y) 0 : Nat) : Int))) ⟨g7, 1, none⟩ (.int .u32 ((lb (x / y) 1 : Nat) : Int))) ⟨g7, 2, none⟩ (.int .u32 ((lb (x / y) 2 : Nat) : Int))) ⟨g7, 3, none⟩ (.int .u32 ((lb (x / y) 3 : Nat) : Int))) ⟨g7, 4, none⟩ (.int .u32 ((lb (x / y) 4 : Nat) : Int))) ⟨g7, 5, none⟩ (.int .u32 ((lb (x / y) 5 : Nat) : Int)))) ?hg ?ho ?hn ?hr ?_; (case ho => rfl); (case hg => rfl); (case hn => rfl); (case hr => (try simp only [Act.put, List.setIfInBounds_toArray, List.set_cons_zero, List.set_cons_succ]); exact run_put6_ rfl (show _ = Value.pointer (some ⟨g7, 0, none⟩) from by rfl) (show _ = Value.agg #[.int .u32 ((lb (x / y) 0 : Nat) : Int), .int .u32 ((lb (x / y) 1 : Nat) : Int), .int .u32 ((lb (x / y) 2 : Nat) : Int), .int .u32 ((lb (x / y) 3 : Nat) : Int), .int .u32 ((lb (x / y) 4 : Nat) : Int), .int .u32 ((lb (x / y) 5 : Nat) : Int)] from by rfl) (HO.out.at 1 rfl) (by kernel_rfl) (by rfl)); intro w10 hw; replace HO := Aside0.mk (HO.out.put6 1 rfl hw rfl); clear hw) | ((with_reducible refine gate_store (t := 126) (p := 9) rfl ?_); refine store_event (t := 126) (p := 9) (v := ?vo_4) (w1 := (World.setCell (World.setCell (World.setCell (World.setCell (World.setCell (World.setCell w10 ⟨g8, 0, none⟩ (.int .u32 ((lb (x % y) 0 : Nat) : Int))) ⟨g8, 1, none⟩ (.int .u32 ((lb (x % y) 1 : Nat) : Int))) ⟨g8, 2, none⟩ (.int .u32 ((lb (x % y) 2 : Nat) : Int))) ⟨g8, 3, none⟩ (.int .u32 ((lb (x % y) 3 : Nat) : Int))) ⟨g8, 4, none⟩ (.int .u32 ((lb (x % y) 4 : Nat) : Int))) ⟨g8, 5, none⟩ (.int .u32 ((lb (x % y) 5 : Nat) : Int)))) ?hg ?ho ?hn ?hr ?_; (case ho => rfl); (case hg => rfl); (case hn => rfl); (case hr => (try simp only [Act.put, List.setIfInBounds_toArray, List.set_cons_zero, List.set_cons_succ]); exact run_put6_ rfl (show _ = Value.pointer (some ⟨g8, 0, none⟩) from by rfl) (show _ = Value.agg #[.int .u32 ((lb (x % y) 0 : Nat) : Int), .int .u32 ((lb (x % y) 1 : Nat) : Int), .int .u32 ((lb (x % y) 2 : Nat) : Int), .int .u32 ((lb (x % y) 3 : Nat) : Int), .int .u32 ((lb (x % y) 4 : Nat) : Int), .int .u32 ((lb (x % y) 5 : Nat) : Int)] from by rfl) (HO.out.at 0 rfl) (by kernel_rfl) (by rfl)); intro w11 hw; replace HO := Aside0.mk (HO.out.put6 0 rfl hw rfl); clear hw; have s0 := HO.out.cell 7 rfl 0 rfl; have t0 := HO.out.cell 6 rfl 0 rfl) | (go_at_call 124; (with_reducible refine (sZero _ g8 0 (x % y) (P6.blk (HO.out.at 0 rfl)) HRM.out).mono ?_); rintro e w12 ⟨rfl, hb⟩; replace HO := Aside0.mk (HO.out.below hb); clear hb))
      replace HO := Aside0.mk HO.out.drew
      refine start_ (n := 13) (S := fun w' => w'.cell? ⟨g1, 0, none⟩ = some (.bool s) ∧ w'.cell? ⟨g2, 0, none⟩ = some (.bool t) ∧ w'.cell? ⟨g7, 0, none⟩ = some (.int .u32 ((lb (x / y) 0 : Nat) : Int)) ∧ w'.cell? ⟨g7, 1, none⟩ = some (.int .u32 ((lb (x / y) 1 : Nat) : Int)) ∧ w'.cell? ⟨g7, 2, none⟩ = some (.int .u32 ((lb (x / y) 2 : Nat) : Int)) ∧ w'.cell? ⟨g7, 3, none⟩ = some (.int .u32 ((lb (x / y) 3 : Nat) : Int)) ∧ w'.cell? ⟨g7, 4, none⟩ = some (.int .u32 ((lb (x / y) 4 : Nat) : Int)) ∧ w'.cell? ⟨g7, 5, none⟩ = some (.int .u32 ((lb (x / y) 5 : Nat) : Int)) ∧ w'.cell? ⟨g8, 0, none⟩ = some (.int .u32 ((lb (x % y) 0 : Nat) : Int)) ∧ w'.cell? ⟨g8, 1, none⟩ = some (.int .u32 ((lb (x % y) 1 : Nat) : Int)) ∧ w'.cell? ⟨g8, 2, none⟩ = some (.int .u32 ((lb (x % y) 2 : Nat) : Int)) ∧ w'.cell? ⟨g8, 3, none⟩ = some (.int .u32 ((lb (x % y) 3 : Nat) : Int)) ∧ w'.cell? ⟨g8, 4, none⟩ = some (.int .u32 ((lb (x % y) 4 : Nat) : Int)) ∧ w'.cell? ⟨g8, 5, none⟩ = some (.int .u32 ((lb (x % y) 5 : Nat) : Int))) (ds := [12]) #[false, false, false, false, false, false, false, false, false, false, false, false, false] (by kernel_rfl) rfl rfl ⟨HO.out.cell 7 rfl 0 rfl, HO.out.cell 6 rfl 0 rfl, HO.out.cell 1 rfl 0 rfl, HO.out.cell 1 rfl 1 rfl, HO.out.cell 1 rfl 2 rfl, HO.out.cell 1 rfl 3 rfl, HO.out.cell 1 rfl 4 rfl, HO.out.cell 1 rfl 5 rfl, HO.out.cell 0 rfl 0 rfl, HO.out.cell 0 rfl 1 rfl, HO.out.cell 0 rfl 2 rfl, HO.out.cell 0 rfl 3 rfl, HO.out.cell 0 rfl 4 rfl, HO.out.cell 0 rfl 5 rfl⟩ (fun hHeld => ?_)
      refine pure_ (i := 0) (N := some 34) (v := ?_) (a' := ?_) #[true, false, false, false, false, false, false, false, false, false, false, false, false] rfl rfl (by kernel_rfl) (fun _ _ _ h => h) (Or.inl ⟨by rfl, ?_⟩) ?_ ?_
      rotate_left
      · intro w'
        go_simp
        with_reducible rfl
      rotate_left
      · simp only [Act.put, List.setIfInBounds_toArray, List.set_cons_zero, List.set_cons_succ, i64_w, i32_w]
        rfl
      refine pure_ (i := 2) (N := some 36) (v := ?_) (a' := ?_) #[true, false, true, false, false, false, false, false, false, false, false, false, false] rfl rfl (by kernel_rfl) (fun _ _ _ h => h) (Or.inl ⟨by rfl, ?_⟩) ?_ ?_
      rotate_left
      · intro w'
        go_simp
        with_reducible rfl
      rotate_left
      · simp only [Act.put, List.setIfInBounds_toArray, List.set_cons_zero, List.set_cons_succ, i64_w, i32_w]
        rfl
      refine pure_ (i := 7) (N := some 41) (v := ?_) (a' := ?_) #[true, false, true, false, false, false, false, true, false, false, false, false, false] rfl rfl (by kernel_rfl) (fun _ _ _ h => h) (Or.inl ⟨by rfl, ?_⟩) ?_ ?_
      rotate_left
      · intro w'
        go_simp
        with_reducible rfl
      rotate_left
      · simp only [Act.put, List.setIfInBounds_toArray, List.set_cons_zero, List.set_cons_succ, i64_w, i32_w]
        rfl
      refine take_ (i := 1) (N := some 35) (v := ?_) (a' := ?_) #[true, true, true, false, false, false, false, true, false, false, false, false, false] rfl rfl (by kernel_rfl) (fun _ _ _ h => h) (Or.inl ⟨by rfl, ?_⟩) hHeld ?_ ?_
      rotate_left
      · rintro w' ⟨s0, s1, s2, s3, s4, s5, s6, s7, s8, s9, s10, s11, s12, s13⟩
        go_simp
        with_reducible rfl
      rotate_left
      · simp only [Act.put, List.setIfInBounds_toArray, List.set_cons_zero, List.set_cons_succ, i64_w, i32_w]
        rfl
      refine take_ (i := 3) (N := some 37) (v := ?_) (a' := ?_) #[true, true, true, true, false, false, false, true, false, false, false, false, false] rfl rfl (by kernel_rfl) (fun _ _ _ h => h) (Or.inl ⟨by rfl, ?_⟩) hHeld ?_ ?_
      rotate_left
      · rintro w' ⟨s0, s1, s2, s3, s4, s5, s6, s7, s8, s9, s10, s11, s12, s13⟩
        go_simp
        with_reducible rfl
      rotate_left
      · simp only [Act.put, List.setIfInBounds_toArray, List.set_cons_zero, List.set_cons_succ, i64_w, i32_w]
        rfl
      refine pure_ (i := 4) (N := some 38) (v := ?_) (a' := ?_) #[true, true, true, true, true, false, false, true, false, false, false, false, false] rfl rfl (by kernel_rfl) (fun _ _ _ h => h) (Or.inl ⟨by rfl, ?_⟩) ?_ ?_
      rotate_left
      · intro w'
        go_simp
        with_reducible rfl
      rotate_left
      · simp only [Act.put, List.setIfInBounds_toArray, List.set_cons_zero, List.set_cons_succ, i64_w, i32_w]
        rfl
      refine take_ (i := 5) (N := some 39) (v := ?_) (a' := ?_) #[true, true, true, true, true, true, false, true, false, false, false, false, false] rfl rfl (by kernel_rfl) (fun _ _ _ h => h) (Or.inl ⟨by rfl, ?_⟩) hHeld ?_ ?_
      rotate_left
      · rintro w' ⟨s0, s1, s2, s3, s4, s5, s6, s7, s8, s9, s10, s11, s12, s13⟩
        go_simp
        with_reducible rfl
      rotate_left
      · simp only [Act.put, List.setIfInBounds_toArray, List.set_cons_zero, List.set_cons_succ, i64_w, i32_w]
        rfl
      refine take_ (i := 8) (N := some 42) (v := ?_) (a' := ?_) #[true, true, true, true, true, true, false, true, true, false, false, false, false] rfl rfl (by kernel_rfl) (fun _ _ _ h => h) (Or.inl ⟨by rfl, ?_⟩) hHeld ?_ ?_
      rotate_left
      · rintro w' ⟨s0, s1, s2, s3, s4, s5, s6, s7, s8, s9, s10, s11, s12, s13⟩
        go_simp
        with_reducible rfl
      rotate_left
      · simp only [Act.put, List.setIfInBounds_toArray, List.set_cons_zero, List.set_cons_succ, i64_w, i32_w]
        rfl
      refine take_ (i := 9) (N := some 43) (v := ?_) (a' := ?_) #[true, true, true, true, true, true, false, true, true, true, false, false, false] rfl rfl (by kernel_rfl) (fun _ _ _ h => h) (Or.inl ⟨by rfl, ?_⟩) hHeld ?_ ?_
      rotate_left
      · rintro w' ⟨s0, s1, s2, s3, s4, s5, s6, s7, s8, s9, s10, s11, s12, s13⟩
        go_simp
        with_reducible rfl
      rotate_left
      · simp only [Act.put, List.setIfInBounds_toArray, List.set_cons_zero, List.set_cons_succ, i64_w, i32_w]
        rfl
      refine one_ (i := 6) (N := some 40) #[true, true, true, true, true, true, true, true, true, true, false, false, false] rfl rfl (by kernel_rfl) (by decide) (fun K hK => ?_)
      refine goes_ Try.func112 (by kernel_rfl) rfl #[.bool true, .agg #[.int .u32 ((lb (x / y) 0 : Nat) : Int), .int .u32 ((lb (x / y) 1 : Nat) : Int), .int .u32 ((lb (x / y) 2 : Nat) : Int), .int .u32 ((lb (x / y) 3 : Nat) : Int), .int .u32 ((lb (x / y) 4 : Nat) : Int), .int .u32 ((lb (x / y) 5 : Nat) : Int)]] (by rfl) rfl rfl (by simp only [List.map_toArray, List.map_cons, List.map_nil]; rfl) ?_
      with_reducible refine (sMade _ true (x / y) HQM.out).mono ?_
      rintro e w21 ⟨rfl, hb⟩
      refine ⟨_, rfl, ?_⟩
      replace HO := Aside0.mk (HO.out.below hb)
      clear hb
      refine hK.out _ _ ⟨HO.out.cell 7 rfl 0 rfl, HO.out.cell 6 rfl 0 rfl, HO.out.cell 1 rfl 0 rfl, HO.out.cell 1 rfl 1 rfl, HO.out.cell 1 rfl 2 rfl, HO.out.cell 1 rfl 3 rfl, HO.out.cell 1 rfl 4 rfl, HO.out.cell 1 rfl 5 rfl, HO.out.cell 0 rfl 0 rfl, HO.out.cell 0 rfl 1 rfl, HO.out.cell 0 rfl 2 rfl, HO.out.cell 0 rfl 3 rfl, HO.out.cell 0 rfl 4 rfl, HO.out.cell 0 rfl 5 rfl⟩ (fun hHeld => ?_)
      clear hK K
      refine norm_ (a' := ?_) ?_ ?_
      rotate_left
      · show Act.put _ (some 40) _ = _
        simp only [Act.put, List.setIfInBounds_toArray, List.set_cons_zero, List.set_cons_succ, i64_w, i32_w]
        rfl
      refine one_ (i := 10) (N := some 44) #[true, true, true, true, true, true, true, true, true, true, true, false, false] rfl rfl (by kernel_rfl) (by decide) (fun K hK => ?_)
      refine goes_ Try.func112 (by kernel_rfl) rfl #[.bool t, .agg #[.int .u32 ((lb (x % y) 0 : Nat) : Int), .int .u32 ((lb (x % y) 1 : Nat) : Int), .int .u32 ((lb (x % y) 2 : Nat) : Int), .int .u32 ((lb (x % y) 3 : Nat) : Int), .int .u32 ((lb (x % y) 4 : Nat) : Int), .int .u32 ((lb (x % y) 5 : Nat) : Int)]] (by rfl) rfl rfl (by simp only [List.map_toArray, List.map_cons, List.map_nil]; rfl) ?_
      with_reducible refine (sMade _ t (x % y) HRM2.out).mono ?_
      rintro e w22 ⟨rfl, hb⟩
      refine ⟨_, rfl, ?_⟩
      replace HO := Aside0.mk (HO.out.below hb)
      clear hb
      refine hK.out _ _ ⟨HO.out.cell 7 rfl 0 rfl, HO.out.cell 6 rfl 0 rfl, HO.out.cell 1 rfl 0 rfl, HO.out.cell 1 rfl 1 rfl, HO.out.cell 1 rfl 2 rfl, HO.out.cell 1 rfl 3 rfl, HO.out.cell 1 rfl 4 rfl, HO.out.cell 1 rfl 5 rfl, HO.out.cell 0 rfl 0 rfl, HO.out.cell 0 rfl 1 rfl, HO.out.cell 0 rfl 2 rfl, HO.out.cell 0 rfl 3 rfl, HO.out.cell 0 rfl 4 rfl, HO.out.cell 0 rfl 5 rfl⟩ (fun hHeld => ?_)
      clear hK K
      refine norm_ (a' := ?_) ?_ ?_
      rotate_left
      · show Act.put _ (some 44) _ = _
        simp only [Act.put, List.setIfInBounds_toArray, List.set_cons_zero, List.set_cons_succ, i64_w, i32_w]
        rfl
      have HO2 := Aside0.mk (HO.out.put7 5 rfl (rfl : (World.setCell (World.setCell (World.setCell (World.setCell (World.setCell (World.setCell (World.setCell w22 ⟨g3, 0, none⟩ (.bool (true && !(zN (x / y))))) ⟨g3, 1, none⟩ (.int .u32 ((lb (x / y) 0 : Nat) : Int))) ⟨g3, 2, none⟩ (.int .u32 ((lb (x / y) 1 : Nat) : Int))) ⟨g3, 3, none⟩ (.int .u32 ((lb (x / y) 2 : Nat) : Int))) ⟨g3, 4, none⟩ (.int .u32 ((lb (x / y) 3 : Nat) : Int))) ⟨g3, 5, none⟩ (.int .u32 ((lb (x / y) 4 : Nat) : Int))) ⟨g3, 6, none⟩ (.int .u32 ((lb (x / y) 5 : Nat) : Int))) = _) rfl)
      refine one_store_ (i := 11) (w1 := (World.setCell (World.setCell (World.setCell (World.setCell (World.setCell (World.setCell (World.setCell w22 ⟨g3, 0, none⟩ (.bool (true && !(zN (x / y))))) ⟨g3, 1, none⟩ (.int .u32 ((lb (x / y) 0 : Nat) : Int))) ⟨g3, 2, none⟩ (.int .u32 ((lb (x / y) 1 : Nat) : Int))) ⟨g3, 3, none⟩ (.int .u32 ((lb (x / y) 2 : Nat) : Int))) ⟨g3, 4, none⟩ (.int .u32 ((lb (x / y) 3 : Nat) : Int))) ⟨g3, 5, none⟩ (.int .u32 ((lb (x / y) 4 : Nat) : Int))) ⟨g3, 6, none⟩ (.int .u32 ((lb (x / y) 5 : Nat) : Int)))) #[true, true, true, true, true, true, true, true, true, true, true, true, false] rfl rfl (by kernel_rfl) (by decide) (by rfl) (run_put7_ rfl (show _ = Value.pointer (some ⟨g3, 0, none⟩) from by rfl) (show _ = Value.agg #[.bool (true && !(zN (x / y))), .int .u32 ((lb (x / y) 0 : Nat) : Int), .int .u32 ((lb (x / y) 1 : Nat) : Int), .int .u32 ((lb (x / y) 2 : Nat) : Int), .int .u32 ((lb (x / y) 3 : Nat) : Int), .int .u32 ((lb (x / y) 4 : Nat) : Int), .int .u32 ((lb (x / y) 5 : Nat) : Int)] from by rfl) (HO.out.at 5 rfl) (by kernel_rfl) (by rfl)) ⟨HO2.out.cell 7 rfl 0 rfl, HO2.out.cell 6 rfl 0 rfl, HO2.out.cell 1 rfl 0 rfl, HO2.out.cell 1 rfl 1 rfl, HO2.out.cell 1 rfl 2 rfl, HO2.out.cell 1 rfl 3 rfl, HO2.out.cell 1 rfl 4 rfl, HO2.out.cell 1 rfl 5 rfl, HO2.out.cell 0 rfl 0 rfl, HO2.out.cell 0 rfl 1 rfl, HO2.out.cell 0 rfl 2 rfl, HO2.out.cell 0 rfl 3 rfl, HO2.out.cell 0 rfl 4 rfl, HO2.out.cell 0 rfl 5 rfl⟩ (fun hHeld => ?_)
      refine last_store_ (i := 12) (w1 := (World.setCell (World.setCell (World.setCell (World.setCell (World.setCell (World.setCell (World.setCell (World.setCell (World.setCell (World.setCell (World.setCell (World.setCell (World.setCell (World.setCell w22 ⟨g3, 0, none⟩ (.bool (true && !(zN (x / y))))) ⟨g3, 1, none⟩ (.int .u32 ((lb (x / y) 0 : Nat) : Int))) ⟨g3, 2, none⟩ (.int .u32 ((lb (x / y) 1 : Nat) : Int))) ⟨g3, 3, none⟩ (.int .u32 ((lb (x / y) 2 : Nat) : Int))) ⟨g3, 4, none⟩ (.int .u32 ((lb (x / y) 3 : Nat) : Int))) ⟨g3, 5, none⟩ (.int .u32 ((lb (x / y) 4 : Nat) : Int))) ⟨g3, 6, none⟩ (.int .u32 ((lb (x / y) 5 : Nat) : Int))) ⟨g4, 0, none⟩ (.bool (t && !(zN (x % y))))) ⟨g4, 1, none⟩ (.int .u32 ((lb (x % y) 0 : Nat) : Int))) ⟨g4, 2, none⟩ (.int .u32 ((lb (x % y) 1 : Nat) : Int))) ⟨g4, 3, none⟩ (.int .u32 ((lb (x % y) 2 : Nat) : Int))) ⟨g4, 4, none⟩ (.int .u32 ((lb (x % y) 3 : Nat) : Int))) ⟨g4, 5, none⟩ (.int .u32 ((lb (x % y) 4 : Nat) : Int))) ⟨g4, 6, none⟩ (.int .u32 ((lb (x % y) 5 : Nat) : Int)))) #[true, true, true, true, true, true, true, true, true, true, true, true, true] rfl rfl (by kernel_rfl) (by decide) (by rfl) (run_put7_ rfl (show _ = Value.pointer (some ⟨g4, 0, none⟩) from by rfl) (show _ = Value.agg #[.bool (t && !(zN (x % y))), .int .u32 ((lb (x % y) 0 : Nat) : Int), .int .u32 ((lb (x % y) 1 : Nat) : Int), .int .u32 ((lb (x % y) 2 : Nat) : Int), .int .u32 ((lb (x % y) 3 : Nat) : Int), .int .u32 ((lb (x % y) 4 : Nat) : Int), .int .u32 ((lb (x % y) 5 : Nat) : Int)] from by rfl) (HO2.out.at 4 rfl) (by kernel_rfl) (by rfl)) ?_
      refine done_ (by kernel_rfl) ?_
      generalize hw_ : (World.setCell (World.setCell (World.setCell (World.setCell (World.setCell (World.setCell (World.setCell (World.setCell (World.setCell (World.setCell (World.setCell (World.setCell (World.setCell (World.setCell w22 ⟨g3, 0, none⟩ (.bool (true && !(zN (x / y))))) ⟨g3, 1, none⟩ (.int .u32 ((lb (x / y) 0 : Nat) : Int))) ⟨g3, 2, none⟩ (.int .u32 ((lb (x / y) 1 : Nat) : Int))) ⟨g3, 3, none⟩ (.int .u32 ((lb (x / y) 2 : Nat) : Int))) ⟨g3, 4, none⟩ (.int .u32 ((lb (x / y) 3 : Nat) : Int))) ⟨g3, 5, none⟩ (.int .u32 ((lb (x / y) 4 : Nat) : Int))) ⟨g3, 6, none⟩ (.int .u32 ((lb (x / y) 5 : Nat) : Int))) ⟨g4, 0, none⟩ (.bool (t && !(zN (x % y))))) ⟨g4, 1, none⟩ (.int .u32 ((lb (x % y) 0 : Nat) : Int))) ⟨g4, 2, none⟩ (.int .u32 ((lb (x % y) 1 : Nat) : Int))) ⟨g4, 3, none⟩ (.int .u32 ((lb (x % y) 2 : Nat) : Int))) ⟨g4, 4, none⟩ (.int .u32 ((lb (x % y) 3 : Nat) : Int))) ⟨g4, 5, none⟩ (.int .u32 ((lb (x % y) 4 : Nat) : Int))) ⟨g4, 6, none⟩ (.int .u32 ((lb (x % y) 5 : Nat) : Int))) = w29
      replace HO := Aside0.mk (HO2.out.put7 4 rfl hw_.symm rfl)
      clear hw_
      go_wp2
      refine bodyPost_ret (results_list (rs := [.cell 4 25, .cell 5 25]) rfl (by simp) (.cell g3 25 #[.bool (true && !(zN (x / y))), .int .u32 ((lb (x / y) 0 : Nat) : Int), .int .u32 ((lb (x / y) 1 : Nat) : Int), .int .u32 ((lb (x / y) 2 : Nat) : Int), .int .u32 ((lb (x / y) 3 : Nat) : Int), .int .u32 ((lb (x / y) 4 : Nat) : Int), .int .u32 ((lb (x / y) 5 : Nat) : Int)] (0, 0) _ rfl (HO.out.at 5 rfl) Try.underlying25 rfl (by kernel_rfl) (.cell g4 25 #[.bool (t && !(zN (x % y))), .int .u32 ((lb (x % y) 0 : Nat) : Int), .int .u32 ((lb (x % y) 1 : Nat) : Int), .int .u32 ((lb (x % y) 2 : Nat) : Int), .int .u32 ((lb (x % y) 3 : Nat) : Int), .int .u32 ((lb (x % y) 4 : Nat) : Int), .int .u32 ((lb (x % y) 5 : Nat) : Int)] (0, 0) _ rfl (HO.out.at 4 rfl) Try.underlying25 rfl (by kernel_rfl) .nil))) rfl ?_
      exact ⟨by rw [HV.out]; rfl, HO.out.bel⟩
    | false =>
      have hz : x % y ≠ 0 := of_decide_eq_false z
      have HV : Aside0 (dvV true t x y = .tuple #[.agg (W7 (true && !(zN (x / y + 1))) (x / y + 1)), .agg (W7 (t && !(zN (y - x % y))) (y - x % y))]) := ⟨if_pos ⟨rfl, hz⟩⟩
      have HQM : Aside0 (x / y + 1 < 4294967296 ^ 6) := ⟨dv_up HX.out HY0.out hz⟩
      have HRM2 : Aside0 (y - x % y < 4294967296 ^ 6) := ⟨Nat.lt_of_le_of_lt (Nat.sub_le _ _) HY.out⟩
      clear hz
      go_enter Try.func99, Try.ntmps99
      go_wp2_with (first | ((with_reducible refine gate_dst (N := 2) rfl ?_); refine box_event ?hg (N := 2) ?hd (cs := #[.bool s, .int .u32 ((lb x 0 : Nat) : Int), .int .u32 ((lb x 1 : Nat) : Int), .int .u32 ((lb x 2 : Nat) : Int), .int .u32 ((lb x 3 : Nat) : Int), .int .u32 ((lb x 4 : Nat) : Int), .int .u32 ((lb x 5 : Nat) : Int)]) (t := 25) ?hr ?_; (case hd => rfl); (case hg => rfl); (case hr => first | (go_simp; done) | (go_simp; rfl)); intro g1 hg w1 hbox hb; replace HO := Aside0.mk (HO.out.box hg hbox hb); clear hg hbox hb) | ((with_reducible refine gate_dst (N := 3) rfl ?_); refine box_event ?hg (N := 3) ?hd (cs := #[.bool t, .int .u32 ((lb y 0 : Nat) : Int), .int .u32 ((lb y 1 : Nat) : Int), .int .u32 ((lb y 2 : Nat) : Int), .int .u32 ((lb y 3 : Nat) : Int), .int .u32 ((lb y 4 : Nat) : Int), .int .u32 ((lb y 5 : Nat) : Int)]) (t := 25) ?hr ?_; (case hd => rfl); (case hg => rfl); (case hr => first | (go_simp; done) | (go_simp; rfl)); intro g2 hg w1 hbox hb; replace HO := Aside0.mk (HO.out.box hg hbox hb); clear hg hbox hb) | ((with_reducible refine gate_dst (N := 4) rfl ?_); refine box_event ?hg (N := 4) ?hd (cs := #[.bool false, .int .u32 0, .int .u32 0, .int .u32 0, .int .u32 0, .int .u32 0, .int .u32 0]) (t := 25) ?hr ?_; (case hd => rfl); (case hg => rfl); (case hr => first | (go_simp; done) | (go_simp; rfl)); intro g3 hg w1 hbox hb; replace HO := Aside0.mk (HO.out.box hg hbox hb); clear hg hbox hb) | ((with_reducible refine gate_dst (N := 5) rfl ?_); refine box_event ?hg (N := 5) ?hd (cs := #[.bool false, .int .u32 0, .int .u32 0, .int .u32 0, .int .u32 0, .int .u32 0, .int .u32 0]) (t := 25) ?hr ?_; (case hd => rfl); (case hg => rfl); (case hr => first | (go_simp; done) | (go_simp; rfl)); intro g4 hg w2 hbox hb; replace HO := Aside0.mk (HO.out.box hg hbox hb); clear hg hbox hb; obtain ⟨a0, a1, a2, a3, a4, a5, a6⟩ := cells7_ (HO.out.at 3 rfl); obtain ⟨b0, b1, b2, b3, b4, b5, b6⟩ := cells7_ (HO.out.at 2 rfl)) | ((with_reducible refine gate_dst (N := 6) rfl ?_); refine box_event ?hg (N := 6) ?hd (cs := #[.int .u32 0, .int .u32 0, .int .u32 0, .int .u32 0, .int .u32 0, .int .u32 0]) (t := 126) ?hr ?_; (case hd => rfl); (case hg => rfl); (case hr => first | (go_simp; done) | (go_simp; rfl)); intro g5 hg w3 hbox hb; replace HO := Aside0.mk (HO.out.box hg hbox hb); clear hg hbox hb) | ((with_reducible refine gate_store (t := 126) (p := 6) rfl ?_); refine store_event (t := 126) (p := 6) (v := ?vo_1) (w1 := (World.setCell (World.setCell (World.setCell (World.setCell (World.setCell (World.setCell w3 ⟨g5, 0, none⟩ (.int .u32 ((lb x 0 : Nat) : Int))) ⟨g5, 1, none⟩ (.int .u32 ((lb x 1 : Nat) : Int))) ⟨g5, 2, none⟩ (.int .u32 ((lb x 2 : Nat) : Int))) ⟨g5, 3, none⟩ (.int .u32 ((lb x 3 : Nat) : Int))) ⟨g5, 4, none⟩ (.int .u32 ((lb x 4 : Nat) : Int))) ⟨g5, 5, none⟩ (.int .u32 ((lb x 5 : Nat) : Int)))) ?hg ?ho ?hn ?hr ?_; (case ho => rfl); (case hg => rfl); (case hn => rfl); (case hr => (try simp only [Act.put, List.setIfInBounds_toArray, List.set_cons_zero, List.set_cons_succ]); exact run_put6_ rfl (show _ = Value.pointer (some ⟨g5, 0, none⟩) from by rfl) (show _ = Value.agg #[.int .u32 ((lb x 0 : Nat) : Int), .int .u32 ((lb x 1 : Nat) : Int), .int .u32 ((lb x 2 : Nat) : Int), .int .u32 ((lb x 3 : Nat) : Int), .int .u32 ((lb x 4 : Nat) : Int), .int .u32 ((lb x 5 : Nat) : Int)] from by rfl) (HO.out.at 0 rfl) (by kernel_rfl) (by rfl)); intro w4 hw; replace HO := Aside0.mk (HO.out.put6 0 rfl hw rfl); clear hw; clear a0 a1 a2 a3 a4 a5 a6 b0 b1 b2 b3 b4 b5 b6; obtain ⟨b0, b1, b2, b3, b4, b5, b6⟩ := cells7_ (HO.out.at 3 rfl)) | ((with_reducible refine gate_dst (N := 7) rfl ?_); refine box_event ?hg (N := 7) ?hd (cs := #[.int .u32 0, .int .u32 0, .int .u32 0, .int .u32 0, .int .u32 0, .int .u32 0]) (t := 126) ?hr ?_; (case hd => rfl); (case hg => rfl); (case hr => first | (go_simp; done) | (go_simp; rfl)); intro g6 hg w5 hbox hb; replace HO := Aside0.mk (HO.out.box hg hbox hb); clear hg hbox hb) | ((with_reducible refine gate_store (t := 126) (p := 7) rfl ?_); refine store_event (t := 126) (p := 7) (v := ?vo_2) (w1 := (World.setCell (World.setCell (World.setCell (World.setCell (World.setCell (World.setCell w5 ⟨g6, 0, none⟩ (.int .u32 ((lb y 0 : Nat) : Int))) ⟨g6, 1, none⟩ (.int .u32 ((lb y 1 : Nat) : Int))) ⟨g6, 2, none⟩ (.int .u32 ((lb y 2 : Nat) : Int))) ⟨g6, 3, none⟩ (.int .u32 ((lb y 3 : Nat) : Int))) ⟨g6, 4, none⟩ (.int .u32 ((lb y 4 : Nat) : Int))) ⟨g6, 5, none⟩ (.int .u32 ((lb y 5 : Nat) : Int)))) ?hg ?ho ?hn ?hr ?_; (case ho => rfl); (case hg => rfl); (case hn => rfl); (case hr => (try simp only [Act.put, List.setIfInBounds_toArray, List.set_cons_zero, List.set_cons_succ]); exact run_put6_ rfl (show _ = Value.pointer (some ⟨g6, 0, none⟩) from by rfl) (show _ = Value.agg #[.int .u32 ((lb y 0 : Nat) : Int), .int .u32 ((lb y 1 : Nat) : Int), .int .u32 ((lb y 2 : Nat) : Int), .int .u32 ((lb y 3 : Nat) : Int), .int .u32 ((lb y 4 : Nat) : Int), .int .u32 ((lb y 5 : Nat) : Int)] from by rfl) (HO.out.at 0 rfl) (by kernel_rfl) (by rfl)); intro w6 hw; replace HO := Aside0.mk (HO.out.put6 0 rfl hw rfl); clear hw; clear b0 b1 b2 b3 b4 b5 b6) | (go_at_call 123; (with_reducible refine (sDiv _ g5 0 g6 0 x y bs (P6.blk (HO.out.at 1 rfl)) (P6.blk (HO.out.at 0 rfl)) HX.out HY.out HY0.out HBS.out (fun W hb => HBI.out W g5 0 ((P6.blk (HO.out.at 1 rfl)).below hb))).mono ?_); rintro e w7 ⟨rfl, hb⟩; replace HO := Aside0.mk (HO.out.below hb); clear hb) | ((with_reducible refine gate_dst (N := 8) rfl ?_); refine box_event ?hg (N := 8) ?hd (cs := #[.int .u32 0, .int .u32 0, .int .u32 0, .int .u32 0, .int .u32 0, .int .u32 0]) (t := 126) ?hr ?_; (case hd => rfl); (case hg => rfl); (case hr => first | (go_simp; done) | (go_simp; rfl)); intro g7 hg w8 hbox hb; replace HO := Aside0.mk (HO.out.box hg hbox hb); clear hg hbox hb) | ((with_reducible refine gate_dst (N := 9) rfl ?_); refine box_event ?hg (N := 9) ?hd (cs := #[.int .u32 0, .int .u32 0, .int .u32 0, .int .u32 0, .int .u32 0, .int .u32 0]) (t := 126) ?hr ?_; (case hd => rfl); (case hg => rfl); (case hr => first | (go_simp; done) | (go_simp; rfl)); intro g8 hg w9 hbox hb; replace HO := Aside0.mk (HO.out.box hg hbox hb); clear hg hbox hb) | ((with_reducible refine gate_store (t := 126) (p := 8) rfl ?_); refine store_event (t := 126) (p := 8) (v := ?vo_3) (w1 := (World.setCell (World.setCell (World.setCell (World.setCell (World.setCell (World.setCell w9 ⟨g7, 0, none⟩ (.int .u32 ((lb (x / y) 0 : Nat) : Int))) ⟨g7, 1, none⟩ (.int .u32 ((lb (x / y) 1 : Nat) : Int))) ⟨g7, 2, none⟩ (.int .u32 ((lb (x / y) 2 : Nat) : Int))) ⟨g7, 3, none⟩ (.int .u32 ((lb (x / y) 3 : Nat) : Int))) ⟨g7, 4, none⟩ (.int .u32 ((lb (x / y) 4 : Nat) : Int))) ⟨g7, 5, none⟩ (.int .u32 ((lb (x / y) 5 : Nat) : Int)))) ?hg ?ho ?hn ?hr ?_; (case ho => rfl); (case hg => rfl); (case hn => rfl); (case hr => (try simp only [Act.put, List.setIfInBounds_toArray, List.set_cons_zero, List.set_cons_succ]); exact run_put6_ rfl (show _ = Value.pointer (some ⟨g7, 0, none⟩) from by rfl) (show _ = Value.agg #[.int .u32 ((lb (x / y) 0 : Nat) : Int), .int .u32 ((lb (x / y) 1 : Nat) : Int), .int .u32 ((lb (x / y) 2 : Nat) : Int), .int .u32 ((lb (x / y) 3 : Nat) : Int), .int .u32 ((lb (x / y) 4 : Nat) : Int), .int .u32 ((lb (x / y) 5 : Nat) : Int)] from by rfl) (HO.out.at 1 rfl) (by kernel_rfl) (by rfl)); intro w10 hw; replace HO := Aside0.mk (HO.out.put6 1 rfl hw rfl); clear hw) | ((with_reducible refine gate_store (t := 126) (p := 9) rfl ?_); refine store_event (t := 126) (p := 9) (v := ?vo_4) (w1 := (World.setCell (World.setCell (World.setCell (World.setCell (World.setCell (World.setCell w10 ⟨g8, 0, none⟩ (.int .u32 ((lb (x % y) 0 : Nat) : Int))) ⟨g8, 1, none⟩ (.int .u32 ((lb (x % y) 1 : Nat) : Int))) ⟨g8, 2, none⟩ (.int .u32 ((lb (x % y) 2 : Nat) : Int))) ⟨g8, 3, none⟩ (.int .u32 ((lb (x % y) 3 : Nat) : Int))) ⟨g8, 4, none⟩ (.int .u32 ((lb (x % y) 4 : Nat) : Int))) ⟨g8, 5, none⟩ (.int .u32 ((lb (x % y) 5 : Nat) : Int)))) ?hg ?ho ?hn ?hr ?_; (case ho => rfl); (case hg => rfl); (case hn => rfl); (case hr => (try simp only [Act.put, List.setIfInBounds_toArray, List.set_cons_zero, List.set_cons_succ]); exact run_put6_ rfl (show _ = Value.pointer (some ⟨g8, 0, none⟩) from by rfl) (show _ = Value.agg #[.int .u32 ((lb (x % y) 0 : Nat) : Int), .int .u32 ((lb (x % y) 1 : Nat) : Int), .int .u32 ((lb (x % y) 2 : Nat) : Int), .int .u32 ((lb (x % y) 3 : Nat) : Int), .int .u32 ((lb (x % y) 4 : Nat) : Int), .int .u32 ((lb (x % y) 5 : Nat) : Int)] from by rfl) (HO.out.at 0 rfl) (by kernel_rfl) (by rfl)); intro w11 hw; replace HO := Aside0.mk (HO.out.put6 0 rfl hw rfl); clear hw; have s0 := HO.out.cell 7 rfl 0 rfl; have t0 := HO.out.cell 6 rfl 0 rfl) | (go_at_call 124; (with_reducible refine (sZero _ g8 0 (x % y) (P6.blk (HO.out.at 0 rfl)) HRM.out).mono ?_); rintro e w12 ⟨rfl, hb⟩; replace HO := Aside0.mk (HO.out.below hb); clear hb) | ((with_reducible refine gate_dst (N := 10) rfl ?_); refine box_event ?hg (N := 10) ?hd (cs := #[.int .u32 0, .int .u32 0, .int .u32 0, .int .u32 0, .int .u32 0, .int .u32 0]) (t := 126) ?hr ?_; (case hd => rfl); (case hg => rfl); (case hr => first | (go_simp; done) | (go_simp; rfl)); intro g9 hg w13 hbox hb; replace HO := Aside0.mk (HO.out.box hg hbox hb); clear hg hbox hb) | ((with_reducible refine gate_store (t := 126) (p := 10) rfl ?_); refine store_event (t := 126) (p := 10) (v := ?vo_5) (w1 := (World.setCell (World.setCell (World.setCell (World.setCell (World.setCell (World.setCell w13 ⟨g9, 0, none⟩ (.int .u32 1)) ⟨g9, 1, none⟩ (.int .u32 0)) ⟨g9, 2, none⟩ (.int .u32 0)) ⟨g9, 3, none⟩ (.int .u32 0)) ⟨g9, 4, none⟩ (.int .u32 0)) ⟨g9, 5, none⟩ (.int .u32 0))) ?hg ?ho ?hn ?hr ?_; (case ho => rfl); (case hg => rfl); (case hn => rfl); (case hr => (try simp only [Act.put, List.setIfInBounds_toArray, List.set_cons_zero, List.set_cons_succ]); exact run_put6_ rfl (show _ = Value.pointer (some ⟨g9, 0, none⟩) from by rfl) (show _ = Value.agg #[.int .u32 1, .int .u32 0, .int .u32 0, .int .u32 0, .int .u32 0, .int .u32 0] from by rfl) (HO.out.at 0 rfl) (by kernel_rfl) (by rfl)); intro w14 hw; replace HO := Aside0.mk (HO.out.put6 0 rfl hw rfl); clear hw) | (go_at_call 113; (with_reducible refine (sPlus _ g7 0 g9 0 (x / y) 1 (P6.blk (HO.out.at 2 rfl)) (P6_one (HO.out.at 0 rfl))).mono ?_); rintro e w15 ⟨rfl, hb⟩; replace HO := Aside0.mk (HO.out.below hb); clear hb) | ((with_reducible refine gate_store (t := 126) (p := 8) rfl ?_); refine store_event (t := 126) (p := 8) (v := ?vo_6) (w1 := (World.setCell (World.setCell (World.setCell (World.setCell (World.setCell (World.setCell w15 ⟨g7, 0, none⟩ (.int .u32 ((lb (x / y + 1) 0 : Nat) : Int))) ⟨g7, 1, none⟩ (.int .u32 ((lb (x / y + 1) 1 : Nat) : Int))) ⟨g7, 2, none⟩ (.int .u32 ((lb (x / y + 1) 2 : Nat) : Int))) ⟨g7, 3, none⟩ (.int .u32 ((lb (x / y + 1) 3 : Nat) : Int))) ⟨g7, 4, none⟩ (.int .u32 ((lb (x / y + 1) 4 : Nat) : Int))) ⟨g7, 5, none⟩ (.int .u32 ((lb (x / y + 1) 5 : Nat) : Int)))) ?hg ?ho ?hn ?hr ?_; (case ho => rfl); (case hg => rfl); (case hn => rfl); (case hr => (try simp only [Act.put, List.setIfInBounds_toArray, List.set_cons_zero, List.set_cons_succ]); exact run_put6_ rfl (show _ = Value.pointer (some ⟨g7, 0, none⟩) from by rfl) (show _ = Value.agg #[.int .u32 ((lb (x / y + 1) 0 : Nat) : Int), .int .u32 ((lb (x / y + 1) 1 : Nat) : Int), .int .u32 ((lb (x / y + 1) 2 : Nat) : Int), .int .u32 ((lb (x / y + 1) 3 : Nat) : Int), .int .u32 ((lb (x / y + 1) 4 : Nat) : Int), .int .u32 ((lb (x / y + 1) 5 : Nat) : Int)] from by rfl) (HO.out.at 2 rfl) (by kernel_rfl) (by rfl)); intro w16 hw; replace HO := Aside0.mk (HO.out.put6 2 rfl hw rfl); clear hw) | (go_at_call 115; (with_reducible refine (sMinus _ g6 0 g8 0 y (x % y) (P6.blk (HO.out.at 3 rfl)) (P6.blk (HO.out.at 1 rfl)) HRL.out).mono ?_); rintro e w17 ⟨rfl, hb⟩; replace HO := Aside0.mk (HO.out.below hb); clear hb) | ((with_reducible refine gate_store (t := 126) (p := 9) rfl ?_); refine store_event (t := 126) (p := 9) (v := ?vo_7) (w1 := (World.setCell (World.setCell (World.setCell (World.setCell (World.setCell (World.setCell w17 ⟨g8, 0, none⟩ (.int .u32 ((lb (y - x % y) 0 : Nat) : Int))) ⟨g8, 1, none⟩ (.int .u32 ((lb (y - x % y) 1 : Nat) : Int))) ⟨g8, 2, none⟩ (.int .u32 ((lb (y - x % y) 2 : Nat) : Int))) ⟨g8, 3, none⟩ (.int .u32 ((lb (y - x % y) 3 : Nat) : Int))) ⟨g8, 4, none⟩ (.int .u32 ((lb (y - x % y) 4 : Nat) : Int))) ⟨g8, 5, none⟩ (.int .u32 ((lb (y - x % y) 5 : Nat) : Int)))) ?hg ?ho ?hn ?hr ?_; (case ho => rfl); (case hg => rfl); (case hn => rfl); (case hr => (try simp only [Act.put, List.setIfInBounds_toArray, List.set_cons_zero, List.set_cons_succ]); exact run_put6_ rfl (show _ = Value.pointer (some ⟨g8, 0, none⟩) from by rfl) (show _ = Value.agg #[.int .u32 ((lb (y - x % y) 0 : Nat) : Int), .int .u32 ((lb (y - x % y) 1 : Nat) : Int), .int .u32 ((lb (y - x % y) 2 : Nat) : Int), .int .u32 ((lb (y - x % y) 3 : Nat) : Int), .int .u32 ((lb (y - x % y) 4 : Nat) : Int), .int .u32 ((lb (y - x % y) 5 : Nat) : Int)] from by rfl) (HO.out.at 1 rfl) (by kernel_rfl) (by rfl)); intro w18 hw; replace HO := Aside0.mk (HO.out.put6 1 rfl hw rfl); clear hw))
      replace HO := Aside0.mk HO.out.drew
      refine start_ (n := 13) (S := fun w' => w'.cell? ⟨g1, 0, none⟩ = some (.bool s) ∧ w'.cell? ⟨g2, 0, none⟩ = some (.bool t) ∧ w'.cell? ⟨g7, 0, none⟩ = some (.int .u32 ((lb (x / y + 1) 0 : Nat) : Int)) ∧ w'.cell? ⟨g7, 1, none⟩ = some (.int .u32 ((lb (x / y + 1) 1 : Nat) : Int)) ∧ w'.cell? ⟨g7, 2, none⟩ = some (.int .u32 ((lb (x / y + 1) 2 : Nat) : Int)) ∧ w'.cell? ⟨g7, 3, none⟩ = some (.int .u32 ((lb (x / y + 1) 3 : Nat) : Int)) ∧ w'.cell? ⟨g7, 4, none⟩ = some (.int .u32 ((lb (x / y + 1) 4 : Nat) : Int)) ∧ w'.cell? ⟨g7, 5, none⟩ = some (.int .u32 ((lb (x / y + 1) 5 : Nat) : Int)) ∧ w'.cell? ⟨g8, 0, none⟩ = some (.int .u32 ((lb (y - x % y) 0 : Nat) : Int)) ∧ w'.cell? ⟨g8, 1, none⟩ = some (.int .u32 ((lb (y - x % y) 1 : Nat) : Int)) ∧ w'.cell? ⟨g8, 2, none⟩ = some (.int .u32 ((lb (y - x % y) 2 : Nat) : Int)) ∧ w'.cell? ⟨g8, 3, none⟩ = some (.int .u32 ((lb (y - x % y) 3 : Nat) : Int)) ∧ w'.cell? ⟨g8, 4, none⟩ = some (.int .u32 ((lb (y - x % y) 4 : Nat) : Int)) ∧ w'.cell? ⟨g8, 5, none⟩ = some (.int .u32 ((lb (y - x % y) 5 : Nat) : Int))) (ds := [12]) #[false, false, false, false, false, false, false, false, false, false, false, false, false] (by kernel_rfl) rfl rfl ⟨HO.out.cell 8 rfl 0 rfl, HO.out.cell 7 rfl 0 rfl, HO.out.cell 2 rfl 0 rfl, HO.out.cell 2 rfl 1 rfl, HO.out.cell 2 rfl 2 rfl, HO.out.cell 2 rfl 3 rfl, HO.out.cell 2 rfl 4 rfl, HO.out.cell 2 rfl 5 rfl, HO.out.cell 1 rfl 0 rfl, HO.out.cell 1 rfl 1 rfl, HO.out.cell 1 rfl 2 rfl, HO.out.cell 1 rfl 3 rfl, HO.out.cell 1 rfl 4 rfl, HO.out.cell 1 rfl 5 rfl⟩ (fun hHeld => ?_)
      refine pure_ (i := 0) (N := some 34) (v := ?_) (a' := ?_) #[true, false, false, false, false, false, false, false, false, false, false, false, false] rfl rfl (by kernel_rfl) (fun _ _ _ h => h) (Or.inl ⟨by rfl, ?_⟩) ?_ ?_
      rotate_left
      · intro w'
        go_simp
        with_reducible rfl
      rotate_left
      · simp only [Act.put, List.setIfInBounds_toArray, List.set_cons_zero, List.set_cons_succ, i64_w, i32_w]
        rfl
      refine pure_ (i := 2) (N := some 36) (v := ?_) (a' := ?_) #[true, false, true, false, false, false, false, false, false, false, false, false, false] rfl rfl (by kernel_rfl) (fun _ _ _ h => h) (Or.inl ⟨by rfl, ?_⟩) ?_ ?_
      rotate_left
      · intro w'
        go_simp
        with_reducible rfl
      rotate_left
      · simp only [Act.put, List.setIfInBounds_toArray, List.set_cons_zero, List.set_cons_succ, i64_w, i32_w]
        rfl
      refine pure_ (i := 7) (N := some 41) (v := ?_) (a' := ?_) #[true, false, true, false, false, false, false, true, false, false, false, false, false] rfl rfl (by kernel_rfl) (fun _ _ _ h => h) (Or.inl ⟨by rfl, ?_⟩) ?_ ?_
      rotate_left
      · intro w'
        go_simp
        with_reducible rfl
      rotate_left
      · simp only [Act.put, List.setIfInBounds_toArray, List.set_cons_zero, List.set_cons_succ, i64_w, i32_w]
        rfl
      refine take_ (i := 1) (N := some 35) (v := ?_) (a' := ?_) #[true, true, true, false, false, false, false, true, false, false, false, false, false] rfl rfl (by kernel_rfl) (fun _ _ _ h => h) (Or.inl ⟨by rfl, ?_⟩) hHeld ?_ ?_
      rotate_left
      · rintro w' ⟨s0, s1, s2, s3, s4, s5, s6, s7, s8, s9, s10, s11, s12, s13⟩
        go_simp
        with_reducible rfl
      rotate_left
      · simp only [Act.put, List.setIfInBounds_toArray, List.set_cons_zero, List.set_cons_succ, i64_w, i32_w]
        rfl
      refine take_ (i := 3) (N := some 37) (v := ?_) (a' := ?_) #[true, true, true, true, false, false, false, true, false, false, false, false, false] rfl rfl (by kernel_rfl) (fun _ _ _ h => h) (Or.inl ⟨by rfl, ?_⟩) hHeld ?_ ?_
      rotate_left
      · rintro w' ⟨s0, s1, s2, s3, s4, s5, s6, s7, s8, s9, s10, s11, s12, s13⟩
        go_simp
        with_reducible rfl
      rotate_left
      · simp only [Act.put, List.setIfInBounds_toArray, List.set_cons_zero, List.set_cons_succ, i64_w, i32_w]
        rfl
      refine pure_ (i := 4) (N := some 38) (v := ?_) (a' := ?_) #[true, true, true, true, true, false, false, true, false, false, false, false, false] rfl rfl (by kernel_rfl) (fun _ _ _ h => h) (Or.inl ⟨by rfl, ?_⟩) ?_ ?_
      rotate_left
      · intro w'
        go_simp
        with_reducible rfl
      rotate_left
      · simp only [Act.put, List.setIfInBounds_toArray, List.set_cons_zero, List.set_cons_succ, i64_w, i32_w]
        rfl
      refine take_ (i := 5) (N := some 39) (v := ?_) (a' := ?_) #[true, true, true, true, true, true, false, true, false, false, false, false, false] rfl rfl (by kernel_rfl) (fun _ _ _ h => h) (Or.inl ⟨by rfl, ?_⟩) hHeld ?_ ?_
      rotate_left
      · rintro w' ⟨s0, s1, s2, s3, s4, s5, s6, s7, s8, s9, s10, s11, s12, s13⟩
        go_simp
        with_reducible rfl
      rotate_left
      · simp only [Act.put, List.setIfInBounds_toArray, List.set_cons_zero, List.set_cons_succ, i64_w, i32_w]
        rfl
      refine take_ (i := 8) (N := some 42) (v := ?_) (a' := ?_) #[true, true, true, true, true, true, false, true, true, false, false, false, false] rfl rfl (by kernel_rfl) (fun _ _ _ h => h) (Or.inl ⟨by rfl, ?_⟩) hHeld ?_ ?_
      rotate_left
      · rintro w' ⟨s0, s1, s2, s3, s4, s5, s6, s7, s8, s9, s10, s11, s12, s13⟩
        go_simp
        with_reducible rfl
      rotate_left
      · simp only [Act.put, List.setIfInBounds_toArray, List.set_cons_zero, List.set_cons_succ, i64_w, i32_w]
        rfl
      refine take_ (i := 9) (N := some 43) (v := ?_) (a' := ?_) #[true, true, true, true, true, true, false, true, true, true, false, false, false] rfl rfl (by kernel_rfl) (fun _ _ _ h => h) (Or.inl ⟨by rfl, ?_⟩) hHeld ?_ ?_
      rotate_left
      · rintro w' ⟨s0, s1, s2, s3, s4, s5, s6, s7, s8, s9, s10, s11, s12, s13⟩
        go_simp
        with_reducible rfl
      rotate_left
      · simp only [Act.put, List.setIfInBounds_toArray, List.set_cons_zero, List.set_cons_succ, i64_w, i32_w]
        rfl
      refine one_ (i := 6) (N := some 40) #[true, true, true, true, true, true, true, true, true, true, false, false, false] rfl rfl (by kernel_rfl) (by decide) (fun K hK => ?_)
      refine goes_ Try.func112 (by kernel_rfl) rfl #[.bool true, .agg #[.int .u32 ((lb (x / y + 1) 0 : Nat) : Int), .int .u32 ((lb (x / y + 1) 1 : Nat) : Int), .int .u32 ((lb (x / y + 1) 2 : Nat) : Int), .int .u32 ((lb (x / y + 1) 3 : Nat) : Int), .int .u32 ((lb (x / y + 1) 4 : Nat) : Int), .int .u32 ((lb (x / y + 1) 5 : Nat) : Int)]] (by rfl) rfl rfl (by simp only [List.map_toArray, List.map_cons, List.map_nil]; rfl) ?_
      with_reducible refine (sMade _ true (x / y + 1) HQM.out).mono ?_
      rintro e w21 ⟨rfl, hb⟩
      refine ⟨_, rfl, ?_⟩
      replace HO := Aside0.mk (HO.out.below hb)
      clear hb
      refine hK.out _ _ ⟨HO.out.cell 8 rfl 0 rfl, HO.out.cell 7 rfl 0 rfl, HO.out.cell 2 rfl 0 rfl, HO.out.cell 2 rfl 1 rfl, HO.out.cell 2 rfl 2 rfl, HO.out.cell 2 rfl 3 rfl, HO.out.cell 2 rfl 4 rfl, HO.out.cell 2 rfl 5 rfl, HO.out.cell 1 rfl 0 rfl, HO.out.cell 1 rfl 1 rfl, HO.out.cell 1 rfl 2 rfl, HO.out.cell 1 rfl 3 rfl, HO.out.cell 1 rfl 4 rfl, HO.out.cell 1 rfl 5 rfl⟩ (fun hHeld => ?_)
      clear hK K
      refine norm_ (a' := ?_) ?_ ?_
      rotate_left
      · show Act.put _ (some 40) _ = _
        simp only [Act.put, List.setIfInBounds_toArray, List.set_cons_zero, List.set_cons_succ, i64_w, i32_w]
        rfl
      refine one_ (i := 10) (N := some 44) #[true, true, true, true, true, true, true, true, true, true, true, false, false] rfl rfl (by kernel_rfl) (by decide) (fun K hK => ?_)
      refine goes_ Try.func112 (by kernel_rfl) rfl #[.bool t, .agg #[.int .u32 ((lb (y - x % y) 0 : Nat) : Int), .int .u32 ((lb (y - x % y) 1 : Nat) : Int), .int .u32 ((lb (y - x % y) 2 : Nat) : Int), .int .u32 ((lb (y - x % y) 3 : Nat) : Int), .int .u32 ((lb (y - x % y) 4 : Nat) : Int), .int .u32 ((lb (y - x % y) 5 : Nat) : Int)]] (by rfl) rfl rfl (by simp only [List.map_toArray, List.map_cons, List.map_nil]; rfl) ?_
      with_reducible refine (sMade _ t (y - x % y) HRM2.out).mono ?_
      rintro e w22 ⟨rfl, hb⟩
      refine ⟨_, rfl, ?_⟩
      replace HO := Aside0.mk (HO.out.below hb)
      clear hb
      refine hK.out _ _ ⟨HO.out.cell 8 rfl 0 rfl, HO.out.cell 7 rfl 0 rfl, HO.out.cell 2 rfl 0 rfl, HO.out.cell 2 rfl 1 rfl, HO.out.cell 2 rfl 2 rfl, HO.out.cell 2 rfl 3 rfl, HO.out.cell 2 rfl 4 rfl, HO.out.cell 2 rfl 5 rfl, HO.out.cell 1 rfl 0 rfl, HO.out.cell 1 rfl 1 rfl, HO.out.cell 1 rfl 2 rfl, HO.out.cell 1 rfl 3 rfl, HO.out.cell 1 rfl 4 rfl, HO.out.cell 1 rfl 5 rfl⟩ (fun hHeld => ?_)
      clear hK K
      refine norm_ (a' := ?_) ?_ ?_
      rotate_left
      · show Act.put _ (some 44) _ = _
        simp only [Act.put, List.setIfInBounds_toArray, List.set_cons_zero, List.set_cons_succ, i64_w, i32_w]
        rfl
      have HO2 := Aside0.mk (HO.out.put7 6 rfl (rfl : (World.setCell (World.setCell (World.setCell (World.setCell (World.setCell (World.setCell (World.setCell w22 ⟨g3, 0, none⟩ (.bool (true && !(zN (x / y + 1))))) ⟨g3, 1, none⟩ (.int .u32 ((lb (x / y + 1) 0 : Nat) : Int))) ⟨g3, 2, none⟩ (.int .u32 ((lb (x / y + 1) 1 : Nat) : Int))) ⟨g3, 3, none⟩ (.int .u32 ((lb (x / y + 1) 2 : Nat) : Int))) ⟨g3, 4, none⟩ (.int .u32 ((lb (x / y + 1) 3 : Nat) : Int))) ⟨g3, 5, none⟩ (.int .u32 ((lb (x / y + 1) 4 : Nat) : Int))) ⟨g3, 6, none⟩ (.int .u32 ((lb (x / y + 1) 5 : Nat) : Int))) = _) rfl)
      refine one_store_ (i := 11) (w1 := (World.setCell (World.setCell (World.setCell (World.setCell (World.setCell (World.setCell (World.setCell w22 ⟨g3, 0, none⟩ (.bool (true && !(zN (x / y + 1))))) ⟨g3, 1, none⟩ (.int .u32 ((lb (x / y + 1) 0 : Nat) : Int))) ⟨g3, 2, none⟩ (.int .u32 ((lb (x / y + 1) 1 : Nat) : Int))) ⟨g3, 3, none⟩ (.int .u32 ((lb (x / y + 1) 2 : Nat) : Int))) ⟨g3, 4, none⟩ (.int .u32 ((lb (x / y + 1) 3 : Nat) : Int))) ⟨g3, 5, none⟩ (.int .u32 ((lb (x / y + 1) 4 : Nat) : Int))) ⟨g3, 6, none⟩ (.int .u32 ((lb (x / y + 1) 5 : Nat) : Int)))) #[true, true, true, true, true, true, true, true, true, true, true, true, false] rfl rfl (by kernel_rfl) (by decide) (by rfl) (run_put7_ rfl (show _ = Value.pointer (some ⟨g3, 0, none⟩) from by rfl) (show _ = Value.agg #[.bool (true && !(zN (x / y + 1))), .int .u32 ((lb (x / y + 1) 0 : Nat) : Int), .int .u32 ((lb (x / y + 1) 1 : Nat) : Int), .int .u32 ((lb (x / y + 1) 2 : Nat) : Int), .int .u32 ((lb (x / y + 1) 3 : Nat) : Int), .int .u32 ((lb (x / y + 1) 4 : Nat) : Int), .int .u32 ((lb (x / y + 1) 5 : Nat) : Int)] from by rfl) (HO.out.at 6 rfl) (by kernel_rfl) (by rfl)) ⟨HO2.out.cell 8 rfl 0 rfl, HO2.out.cell 7 rfl 0 rfl, HO2.out.cell 2 rfl 0 rfl, HO2.out.cell 2 rfl 1 rfl, HO2.out.cell 2 rfl 2 rfl, HO2.out.cell 2 rfl 3 rfl, HO2.out.cell 2 rfl 4 rfl, HO2.out.cell 2 rfl 5 rfl, HO2.out.cell 1 rfl 0 rfl, HO2.out.cell 1 rfl 1 rfl, HO2.out.cell 1 rfl 2 rfl, HO2.out.cell 1 rfl 3 rfl, HO2.out.cell 1 rfl 4 rfl, HO2.out.cell 1 rfl 5 rfl⟩ (fun hHeld => ?_)
      refine last_store_ (i := 12) (w1 := (World.setCell (World.setCell (World.setCell (World.setCell (World.setCell (World.setCell (World.setCell (World.setCell (World.setCell (World.setCell (World.setCell (World.setCell (World.setCell (World.setCell w22 ⟨g3, 0, none⟩ (.bool (true && !(zN (x / y + 1))))) ⟨g3, 1, none⟩ (.int .u32 ((lb (x / y + 1) 0 : Nat) : Int))) ⟨g3, 2, none⟩ (.int .u32 ((lb (x / y + 1) 1 : Nat) : Int))) ⟨g3, 3, none⟩ (.int .u32 ((lb (x / y + 1) 2 : Nat) : Int))) ⟨g3, 4, none⟩ (.int .u32 ((lb (x / y + 1) 3 : Nat) : Int))) ⟨g3, 5, none⟩ (.int .u32 ((lb (x / y + 1) 4 : Nat) : Int))) ⟨g3, 6, none⟩ (.int .u32 ((lb (x / y + 1) 5 : Nat) : Int))) ⟨g4, 0, none⟩ (.bool (t && !(zN (y - x % y))))) ⟨g4, 1, none⟩ (.int .u32 ((lb (y - x % y) 0 : Nat) : Int))) ⟨g4, 2, none⟩ (.int .u32 ((lb (y - x % y) 1 : Nat) : Int))) ⟨g4, 3, none⟩ (.int .u32 ((lb (y - x % y) 2 : Nat) : Int))) ⟨g4, 4, none⟩ (.int .u32 ((lb (y - x % y) 3 : Nat) : Int))) ⟨g4, 5, none⟩ (.int .u32 ((lb (y - x % y) 4 : Nat) : Int))) ⟨g4, 6, none⟩ (.int .u32 ((lb (y - x % y) 5 : Nat) : Int)))) #[true, true, true, true, true, true, true, true, true, true, true, true, true] rfl rfl (by kernel_rfl) (by decide) (by rfl) (run_put7_ rfl (show _ = Value.pointer (some ⟨g4, 0, none⟩) from by rfl) (show _ = Value.agg #[.bool (t && !(zN (y - x % y))), .int .u32 ((lb (y - x % y) 0 : Nat) : Int), .int .u32 ((lb (y - x % y) 1 : Nat) : Int), .int .u32 ((lb (y - x % y) 2 : Nat) : Int), .int .u32 ((lb (y - x % y) 3 : Nat) : Int), .int .u32 ((lb (y - x % y) 4 : Nat) : Int), .int .u32 ((lb (y - x % y) 5 : Nat) : Int)] from by rfl) (HO2.out.at 5 rfl) (by kernel_rfl) (by rfl)) ?_
      refine done_ (by kernel_rfl) ?_
      generalize hw_ : (World.setCell (World.setCell (World.setCell (World.setCell (World.setCell (World.setCell (World.setCell (World.setCell (World.setCell (World.setCell (World.setCell (World.setCell (World.setCell (World.setCell w22 ⟨g3, 0, none⟩ (.bool (true && !(zN (x / y + 1))))) ⟨g3, 1, none⟩ (.int .u32 ((lb (x / y + 1) 0 : Nat) : Int))) ⟨g3, 2, none⟩ (.int .u32 ((lb (x / y + 1) 1 : Nat) : Int))) ⟨g3, 3, none⟩ (.int .u32 ((lb (x / y + 1) 2 : Nat) : Int))) ⟨g3, 4, none⟩ (.int .u32 ((lb (x / y + 1) 3 : Nat) : Int))) ⟨g3, 5, none⟩ (.int .u32 ((lb (x / y + 1) 4 : Nat) : Int))) ⟨g3, 6, none⟩ (.int .u32 ((lb (x / y + 1) 5 : Nat) : Int))) ⟨g4, 0, none⟩ (.bool (t && !(zN (y - x % y))))) ⟨g4, 1, none⟩ (.int .u32 ((lb (y - x % y) 0 : Nat) : Int))) ⟨g4, 2, none⟩ (.int .u32 ((lb (y - x % y) 1 : Nat) : Int))) ⟨g4, 3, none⟩ (.int .u32 ((lb (y - x % y) 2 : Nat) : Int))) ⟨g4, 4, none⟩ (.int .u32 ((lb (y - x % y) 3 : Nat) : Int))) ⟨g4, 5, none⟩ (.int .u32 ((lb (y - x % y) 4 : Nat) : Int))) ⟨g4, 6, none⟩ (.int .u32 ((lb (y - x % y) 5 : Nat) : Int))) = w29
      replace HO := Aside0.mk (HO2.out.put7 5 rfl hw_.symm rfl)
      clear hw_
      go_wp2
      refine bodyPost_ret (results_list (rs := [.cell 4 25, .cell 5 25]) rfl (by simp) (.cell g3 25 #[.bool (true && !(zN (x / y + 1))), .int .u32 ((lb (x / y + 1) 0 : Nat) : Int), .int .u32 ((lb (x / y + 1) 1 : Nat) : Int), .int .u32 ((lb (x / y + 1) 2 : Nat) : Int), .int .u32 ((lb (x / y + 1) 3 : Nat) : Int), .int .u32 ((lb (x / y + 1) 4 : Nat) : Int), .int .u32 ((lb (x / y + 1) 5 : Nat) : Int)] (0, 0) _ rfl (HO.out.at 6 rfl) Try.underlying25 rfl (by kernel_rfl) (.cell g4 25 #[.bool (t && !(zN (y - x % y))), .int .u32 ((lb (y - x % y) 0 : Nat) : Int), .int .u32 ((lb (y - x % y) 1 : Nat) : Int), .int .u32 ((lb (y - x % y) 2 : Nat) : Int), .int .u32 ((lb (y - x % y) 3 : Nat) : Int), .int .u32 ((lb (y - x % y) 4 : Nat) : Int), .int .u32 ((lb (y - x % y) 5 : Nat) : Int)] (0, 0) _ rfl (HO.out.at 5 rfl) Try.underlying25 rfl (by kernel_rfl) .nil))) rfl ?_
      exact ⟨by rw [HV.out]; rfl, HO.out.bel⟩
theorem u64_or {a c : Nat} (ha : a < 4294967296) (hc : c < 4294967296) : bits .or .u64 (IntKind.u64.wrap ((a : Int) * 4294967296)) (c : Int) = ((a * 4294967296 + c : Nat) : Int) := by
  have hw : ∀ n : Int, 0 ≤ n → n < 2 ^ 64 → IntKind.u64.wrap n = n := fun n h h' => u64w h (by simpa using h')
  rw [u64w (by omega) (by omega)]
  have e : ((a : Int) * 4294967296) = ((a * 4294967296 : Nat) : Int) := by rw [Int.natCast_mul]; rfl
  rw [e, Int.natCast_add]
  exact bits_join .u64 64 (by decide) hw 32 _ _ (Int.natCast_nonneg _) (by exact_mod_cast (show a * 4294967296 % 2 ^ 32 = 0 by simp)) (by exact_mod_cast (show a * 4294967296 < 2 ^ 64 by omega)) (Int.natCast_nonneg _) (by exact_mod_cast (show c < 2 ^ 32 by omega)) (by exact_mod_cast (show c < 2 ^ 64 by omega))
theorem sm_step {x d m : Nat} (hd : 0 < d) : (x / 4294967296 ^ (m + 1) % d * 4294967296 + lb x m) / d = lb (x / d) m ∧ (x / 4294967296 ^ (m + 1) % d * 4294967296 + lb x m) % d = x / 4294967296 ^ m % d := by
  have e1 := div_lb x m
  have h1 := Nat.div_add_mod (x / 4294967296 ^ (m + 1)) d
  have h2 := Nat.mod_lt (x / 4294967296 ^ (m + 1)) hd
  have l := lb_lt x m
  have e2 : x / d / 4294967296 ^ m = x / 4294967296 ^ m / d := by rw [Nat.div_div_eq_div_mul, Nat.div_div_eq_div_mul, Nat.mul_comm]
  generalize x / 4294967296 ^ (m + 1) / d = u at *
  generalize hr : x / 4294967296 ^ (m + 1) % d = r at *
  have e3 : x / 4294967296 ^ m = d * (u * 4294967296) + (r * 4294967296 + lb x m) := by
    rw [e1, ← h1, Nat.add_mul, Nat.mul_assoc]; omega
  refine ⟨?_, by rw [e3, Nat.mul_add_mod]⟩
  have e4 : lb (x / d) m = x / 4294967296 ^ m / d % 4294967296 := by unfold lb; rw [e2]
  rw [e4, e3, Nat.mul_add_div hd, Nat.add_comm (u * 4294967296), Nat.add_mul_mod_self_right]
  have : (r + 1) * 4294967296 ≤ d * 4294967296 := Nat.mul_le_mul_right _ h2
  refine (Nat.mod_eq_of_lt ?_).symm
  rw [Nat.div_lt_iff_lt_mul hd, Nat.mul_comm 4294967296 d]
  omega
theorem sm_v {x d m : Nat} {A C E D : Int} (hd : 0 < d ∧ d < 4294967296) (hD : D = (d : Int)) (hA : A = ((lb x m : Nat) : Int)) (hC : C = ((x / 4294967296 ^ (m + 1) % d : Nat) : Int)) (hE : bits .or .u64 (IntKind.u64.wrap (C * 4294967296)) A = E) : IntKind.u64.wrap D = D ∧ IntKind.u64.wrap (E.tdiv D) % 4294967296 = ((lb (x / d) m : Nat) : Int) ∧ E.tmod D = ((x / 4294967296 ^ m % d : Nat) : Int) ∧ 0 ≤ E ∧ E.tdiv D = ((lb (x / d) m : Nat) : Int) := by
  have h2 := Nat.mod_lt (x / 4294967296 ^ (m + 1)) hd.1
  have l := lb_lt x m
  obtain ⟨s1, s2⟩ := sm_step (x := x) (m := m) hd.1
  rw [hC, hA, u64_or (by omega) l] at hE
  rw [← hE, hD, ← Int.ofNat_tdiv, ← Int.ofNat_tmod, s1, s2]
  have l2 := lb_lt (x / d) m
  refine ⟨u64w (by omega) (by omega), by rw [u64w (by omega) (by omega)]; omega, rfl, by omega, rfl⟩
theorem sm_mix {x d n V : Nat} {h : Nat → Nat} (hh : ∀ m, m < 6 → h m = if m < n + 1 then lb x m else lb (x / d) m) (hv : V = lb (x / d) n) : ∀ m, m < 6 → (if m = n then V else h m) = if m < n then lb x m else lb (x / d) m := by
  intro m hm
  by_cases e : m = n
  · rw [if_pos e, if_neg (by omega), hv, e]
  · rw [if_neg e, hh m hm]
    by_cases z : m < n
    · rw [if_pos z, if_pos (by omega)]
    · rw [if_neg z, if_neg (by omega)]
set_option maxHeartbeats 8000000 in
set_option maxRecDepth 100000 in
theorem iSmall (w : World) (x d : Nat) (hx : x < 4294967296 ^ 6) (hd : 0 < d ∧ d < 4294967296) :
    Calls Try.prog 103 #[.agg #[.int .u32 ((lb x 0 : Nat) : Int), .int .u32 ((lb x 1 : Nat) : Int), .int .u32 ((lb x 2 : Nat) : Int), .int .u32 ((lb x 3 : Nat) : Int), .int .u32 ((lb x 4 : Nat) : Int), .int .u32 ((lb x 5 : Nat) : Int)], .int .u32 (d : Int)] w fun e w' => e = .returned (.tuple #[.agg (A6 (x / d)), .int .u32 ((x % d : Nat) : Int)]) ∧ Below w.heap.size w w' := by
  have hu111 := Try.underlying111
  have HX := Aside0.mk hx
  have HD := Aside0.mk hd
  clear hx hd
  have HO := Aside0.mk (OB.start w)
  obtain ⟨D, hDD⟩ : ∃ D : Int, (d : Int) = D := ⟨_, rfl⟩
  have HDD : Aside0 (D = (d : Int)) := ⟨hDD.symm⟩
  rw [hDD]
  clear hDD
  go_enter Try.func103, Try.ntmps103
  go_wp2_with (first | ((with_reducible refine gate_dst (N := 2) rfl ?_); refine box_event ?hg (N := 2) ?hd (cs := #[.int .u32 ((lb x 0 : Nat) : Int), .int .u32 ((lb x 1 : Nat) : Int), .int .u32 ((lb x 2 : Nat) : Int), .int .u32 ((lb x 3 : Nat) : Int), .int .u32 ((lb x 4 : Nat) : Int), .int .u32 ((lb x 5 : Nat) : Int)]) (t := 111) ?hr ?_; (case hd => rfl); (case hg => rfl); (case hr => first | (go_simp; done) | (go_simp; rfl)); intro g1 hg w1 hbox hb; replace HO := Aside0.mk (HO.out.box hg hbox hb); clear hg hbox hb) | ((with_reducible refine gate_dst (N := 4) rfl ?_); refine box_event ?hg (N := 4) ?hd (cs := #[.int .u32 0, .int .u32 0, .int .u32 0, .int .u32 0, .int .u32 0, .int .u32 0]) (t := 111) ?hr ?_; (case hd => rfl); (case hg => rfl); (case hr => first | (go_simp; done) | (go_simp; rfl)); intro g2 hg w2 hbox hb; replace HO := Aside0.mk (HO.out.box hg hbox hb); clear hg hbox hb))
  go_loopg [6, 7] 7 (fun kq v6 v7 w' => ∃ (n : Nat) (C i : Int) (h : Nat → Nat), v6 = .int .u64 C ∧ v7 = .int .i64 i ∧ Aside0 (C = ((x / 4294967296 ^ n % d : Nat) : Int) ∧ i = (n : Int) - 1 ∧ n + 1 = kq ∧ n ≤ 6 ∧ ∀ m, m < 6 → h m = if m < n then lb x m else lb (x / d) m) ∧ Aside0 (OB w.heap.size w w' [(g2, #[.int .u32 0, .int .u32 0, .int .u32 0, .int .u32 0, .int .u32 0, .int .u32 0], 111), (g1, o6 h, 111)]))
  case atStart => exact ⟨6, 0, 5, fun m => lb x m, rfl, rfl, ⟨by rw [Nat.div_eq_of_lt HX.out, Nat.zero_mod]; rfl, rfl, rfl, by decide, fun m hm => by rw [if_pos hm]⟩, ⟨HO.out⟩⟩
  case round =>
    clear HO
    obtain ⟨n, C, i, h, rfl, rfl, HN, HO⟩ := hrel
    by_cases c : 0 ≤ i
    · obtain ⟨m, rfl⟩ : ∃ m, n = m + 1 := ⟨n - 1, by have := HN.out.2.1; omega⟩
      have hm : m < 6 := by have := HN.out.2.2.2.1; omega
      have HI : Aside0 (i = (m : Int)) := ⟨by have := HN.out.2.1; omega⟩
      have c0 : decide (0 ≤ i) = true := decide_eq_true c
      have p0 := eq_true c
      have p1 := eq_true (show i < 6 from by have := HI.out; omega)
      clear c
      obtain ⟨A, hA⟩ : ∃ A : Int, A = (h m : Int) := ⟨_, rfl⟩
      have HA : Aside0 (A = ((lb x m : Nat) : Int)) := ⟨by rw [hA, HN.out.2.2.2.2 m hm, if_pos (by omega)]⟩
      obtain ⟨b0, b1⟩ := HO.out.cellZ 1 rfl HI.out (hA ▸ o6_get h m hm)
      have fr0 := HO.out.fr 1 rfl i.toNat
      have hA0 : IntKind.u64.wrap A = A := u64w (by have := HA.out; have := lbz x m; omega) (by have := HA.out; have := lbz x m; omega)
      obtain ⟨E, hE⟩ : ∃ E : Int, bits .or .u64 (IntKind.u64.wrap (C * 4294967296)) A = E := ⟨_, rfl⟩
      obtain ⟨v1, v2, v3, v4, v5⟩ := sm_v HD.out HDD.out HA.out HN.out.1 hE
      have HV := Aside0.mk (And.intro v2 (And.intro v3 (And.intro v4 v5)))
      have d0 : (D = 0) = False := eq_false (by have h1_ := HDD.out; have h2_ := HD.out; omega)
      have d1 : (D == 0) = false := by have h1_ := HDD.out; have h2_ := HD.out; rw [beq_eq_false_iff_ne]; omega
      clear hA v2 v3 v4 v5
      cases gk with
      | zero => have := HN.out.2.2.1; omega
      | succ k1 =>
      go_wp2
      go_roundg k1
      case measure => omega
      case rel => exact ⟨m, _, _, _, rfl, rfl, ⟨HV.out.2.1, prevI HI.out (by omega), by have := HN.out.2.2.1; omega, by omega, sm_mix HN.out.2.2.2.2 rfl⟩, ⟨HO.out.put6x (k := 1) rfl hm HI.out HV.out.1 rfl rfl rfl⟩⟩
    · have c0 : decide (0 ≤ i) = false := decide_eq_false c
      obtain rfl : n = 0 := by have := HN.out.2.1; omega
      have HF : Aside0 (o6 h = A6 (x / d)) := ⟨o6_A6 (fun j hj => by rw [HN.out.2.2.2.2 j hj, if_neg (by omega)])⟩
      have HC : Aside0 (C = ((x % d : Nat) : Int)) := ⟨by have := HN.out.1; rwa [Nat.pow_zero, Nat.div_one] at this⟩
      have hC : C % 4294967296 = C := by have h1_ := HC.out; have h2_ := Nat.mod_lt x HD.out.1; have h3_ := HD.out.2; omega
      rw [HF.out] at HO
      obtain ⟨hc0, hc1, hc2, hc3, hc4, hc5⟩ := cells6_ (show wr.heap[g1]? = some (.cells #[.int .u32 ((lb (x / d) 0 : Nat) : Int), .int .u32 ((lb (x / d) 1 : Nat) : Int), .int .u32 ((lb (x / d) 2 : Nat) : Int), .int .u32 ((lb (x / d) 3 : Nat) : Int), .int .u32 ((lb (x / d) 4 : Nat) : Int), .int .u32 ((lb (x / d) 5 : Nat) : Int)] _ (0, 0)) from HO.out.at 1 rfl)
      clear c
      go_wp2_with (first | ((with_reducible refine gate_store (t := 111) (p := 4) rfl ?_); refine store_event (t := 111) (p := 4) (v := ?vo_1) (w1 := (World.setCell (World.setCell (World.setCell (World.setCell (World.setCell (World.setCell wr ⟨g2, 0, none⟩ (.int .u32 ((lb (x / d) 0 : Nat) : Int))) ⟨g2, 1, none⟩ (.int .u32 ((lb (x / d) 1 : Nat) : Int))) ⟨g2, 2, none⟩ (.int .u32 ((lb (x / d) 2 : Nat) : Int))) ⟨g2, 3, none⟩ (.int .u32 ((lb (x / d) 3 : Nat) : Int))) ⟨g2, 4, none⟩ (.int .u32 ((lb (x / d) 4 : Nat) : Int))) ⟨g2, 5, none⟩ (.int .u32 ((lb (x / d) 5 : Nat) : Int)))) ?hg ?ho ?hn ?hr ?_; (case ho => rfl); (case hg => rfl); (case hn => rfl); (case hr => (try simp only [Act.put, List.setIfInBounds_toArray, List.set_cons_zero, List.set_cons_succ]); exact run_put6_ rfl (show _ = Value.pointer (some ⟨g2, 0, none⟩) from by rfl) (show _ = Value.agg #[.int .u32 ((lb (x / d) 0 : Nat) : Int), .int .u32 ((lb (x / d) 1 : Nat) : Int), .int .u32 ((lb (x / d) 2 : Nat) : Int), .int .u32 ((lb (x / d) 3 : Nat) : Int), .int .u32 ((lb (x / d) 4 : Nat) : Int), .int .u32 ((lb (x / d) 5 : Nat) : Int)] from by rfl) (HO.out.at 0 rfl) (by kernel_rfl) (by rfl)); intro w5 hw; replace HO := Aside0.mk (HO.out.put6 0 rfl hw rfl); clear hw))
      refine bodyPost_ret (results_ct rfl _ _ g2 111 #[.int .u32 ((lb (x / d) 0 : Nat) : Int), .int .u32 ((lb (x / d) 1 : Nat) : Int), .int .u32 ((lb (x / d) 2 : Nat) : Int), .int .u32 ((lb (x / d) 3 : Nat) : Int), .int .u32 ((lb (x / d) 4 : Nat) : Int), .int .u32 ((lb (x / d) 5 : Nat) : Int)] (0, 0) _ rfl (HO.out.at 0 rfl) Try.underlying111 rfl (by kernel_rfl)) rfl ?_
      exact ⟨by rw [HC.out]; rfl, HO.out.bel⟩
end Go.Proofs.Ytbomadebdekjjaa.Wide
