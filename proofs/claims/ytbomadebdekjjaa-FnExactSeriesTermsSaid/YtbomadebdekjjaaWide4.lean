/- Own text of this session: wide numbers by hand walks. -/
import Derived.Test.YtbomadebdekjjaaWide1
namespace Go.Proofs.Ytbomadebdekjjaa.Wide
open Go.RowKit Go.Proofs.Ytbomadebdekjjaa.MOpen Go.Proofs.YtbomadebdekjjaaW.PrintWords Go.Proofs.YtbomadebdekjjaaW.PrintLast Go.Proofs.YtbomadebdekjjaaW.PrintMore
attribute [local go_sem] max2_int min2_int max_two min_two max_three min_three max_four min_four
set_option linter.unusedVariables false
set_option linter.unusedSimpArgs false
attribute [local go_sem high] eqA111 eqA126
theorem shr_run (W : World) {F Q s : Int} {f k : Nat} (hk : k ≤ 32) (hF : F = ((f : Nat) : Int)) (hQ : Q = ((f / 2 ^ k : Nat) : Int)) (hs : wrap64 s = (k : Int)) : (Op.shift BinOp.shr .u32 F .i64 (wrap64 s)).run Try.prog W = .ok (.int .u32 Q) W := by
  rw [hs, hF, hQ]
  unfold Op.shift
  have hk2 : min k 32 = k := Nat.min_eq_left hk
  go_simp
  rw [Int.fdiv_eq_ediv_of_nonneg _ (Int.le_of_lt (Int.pow_pos (by decide)))]
  first | done | (rw [if_neg (by omega)])
theorem up_lb (x L r k : Nat) (h : L ≤ k) : lb (x * 2 ^ (32 * L + r)) k = lb (x * 2 ^ r) (k - L) := by
  have e : x * 2 ^ (32 * L + r) = x * 2 ^ r * 4294967296 ^ L := by
    rw [Nat.pow_add, Nat.pow_mul, show (2 : Nat) ^ 32 = 4294967296 by decide, Nat.mul_comm (4294967296 ^ L), Nat.mul_assoc]
  rw [e]
  unfold lb
  have e2 : 4294967296 ^ k = 4294967296 ^ L * 4294967296 ^ (k - L) := by rw [← Nat.pow_add]; congr 1; omega
  rw [e2, ← Nat.div_div_eq_div_mul, Nat.mul_div_cancel _ (bpos L)]
theorem up_under {x b k : Nat} (h : k < b / 32) : lb (x * 2 ^ b) k = 0 := by
  have e : x * 2 ^ b = x * 2 ^ (b - 32 * (k + 1)) * 4294967296 ^ (k + 1) := by
    rw [show (4294967296 : Nat) = 2 ^ 32 by decide, ← Nat.pow_mul, Nat.mul_assoc, ← Nat.pow_add]; congr 2; omega
  rw [e]
  unfold lb
  rw [Nat.pow_succ, ← Nat.mul_assoc, Nat.mul_right_comm, Nat.mul_div_cancel _ (bpos k), Nat.mul_mod_left]
theorem up_zero {x b m : Nat} (h : b / 32 ≤ m) (hr : b % 32 = 0) : lb x (m - b / 32) * 2 ^ (b % 32) % 4294967296 = lb (x * 2 ^ b) m := by
  have e : b = 32 * (b / 32) + b % 32 := by omega
  conv => rhs; rw [e, up_lb _ _ _ _ h]
  rw [hr, Nat.pow_zero, Nat.mul_one, Nat.mul_one, Nat.mod_eq_of_lt (lb_lt _ _)]
theorem up_low {x b m : Nat} (h : m = b / 32) : lb x (m - b / 32) * 2 ^ (b % 32) % 4294967296 = lb (x * 2 ^ b) m := by
  have e : b = 32 * (b / 32) + b % 32 := by omega
  conv => rhs; rw [e, up_lb _ _ _ _ (by omega)]
  rw [h, Nat.sub_self]
  unfold lb
  rw [Nat.pow_zero, Nat.div_one, Nat.div_one, Nat.mod_mul_mod]
theorem wraps_u32 (n : Int) (h₀ : 0 ≤ n) (h₁ : n < 2 ^ 32) : IntKind.u32.wrap n = n := by rw [IntKind.wrap_u32]; omega
theorem up_high {x b m : Nat} (h : b / 32 + 1 ≤ m) (hr : 0 < b % 32) : lb x (m - b / 32) * 2 ^ (b % 32) % 4294967296 + lb x (m - b / 32 - 1) / 2 ^ (32 - b % 32) = lb (x * 2 ^ b) m := by
  have e : b = 32 * (b / 32) + b % 32 := by omega
  conv => rhs; rw [e, up_lb _ _ _ _ (by omega)]
  obtain ⟨k, hk⟩ : ∃ k, m - b / 32 = k + 1 := ⟨m - b / 32 - 1, by omega⟩
  rw [hk, Nat.add_sub_cancel]
  have hr2 : b % 32 < 32 := Nat.mod_lt _ (by decide)
  generalize b % 32 = r at hr hr2
  have hB : (4294967296 : Nat) = 2 ^ (32 - r) * 2 ^ r := by
    rw [← Nat.pow_add, show 32 - r + r = 32 by omega]
  have hp : 0 < 2 ^ r := Nat.pow_pos (by decide)
  unfold lb
  rw [Nat.pow_succ, ← Nat.div_div_eq_div_mul]
  generalize hy : x / 4294967296 ^ k = y
  have e1 : x * 2 ^ r / (4294967296 ^ k * 4294967296) = y / 2 ^ (32 - r) := by
    rw [← hy, Nat.div_div_eq_div_mul]
    conv => lhs; rw [show 4294967296 ^ k * 4294967296 = 4294967296 ^ k * 2 ^ (32 - r) * 2 ^ r by rw [Nat.mul_assoc, ← hB]]
    exact Nat.mul_div_mul_right _ _ hp
  rw [e1]
  generalize 2 ^ (32 - r) = c at hB
  generalize 2 ^ r = p at hB hp
  rw [hB]
  rw [Nat.mul_mod_mul_right, Nat.mod_mul_right_mod, Nat.mod_mul_right_div_self, ← Nat.div_div_eq_div_mul]
  generalize y / c = u
  rw [Nat.mul_comm c p, Nat.mod_mul, Nat.mul_comm, Nat.add_comm]
theorem or_up {x m b : Nat} {G Q : Int} (h : b / 32 + 1 ≤ m) (hr : 0 < b % 32) (hG : G = ((lb x (m - b / 32) * 2 ^ (b % 32) % 4294967296 : Nat) : Int)) (hQ : Q = ((lb x (m - b / 32 - 1) / 2 ^ (32 - b % 32) : Nat) : Int)) : bits .or .u32 G Q = ((lb (x * 2 ^ b) m : Nat) : Int) := by
  rw [← up_high h hr, Int.natCast_add, ← hG, ← hQ]
  have hr2 : b % 32 < 32 := Nat.mod_lt _ (by decide)
  have l1 := lb_lt x (m - b / 32 - 1)
  have hB : (4294967296 : Nat) = 2 ^ (32 - b % 32) * 2 ^ (b % 32) := by
    rw [← Nat.pow_add, show 32 - b % 32 + b % 32 = 32 by omega]
  have q1 : lb x (m - b / 32 - 1) / 2 ^ (32 - b % 32) < 2 ^ (b % 32) := by
    rw [Nat.div_lt_iff_lt_mul (Nat.pow_pos (by decide)), Nat.mul_comm, ← hB]; exact l1
  have q2 : lb x (m - b / 32 - 1) / 2 ^ (32 - b % 32) < 2 ^ 32 := Nat.lt_of_le_of_lt (Nat.div_le_self _ _) l1
  have g1 : lb x (m - b / 32) * 2 ^ (b % 32) % 4294967296 < 2 ^ 32 := Nat.mod_lt _ (by decide)
  have g2 : (lb x (m - b / 32) * 2 ^ (b % 32) % 4294967296) % 2 ^ (b % 32) = 0 := by
    conv => lhs; rw [hB]
    rw [Nat.mul_mod_mul_right, Nat.mul_mod_left]
  rw [hG, hQ]
  generalize lb x (m - b / 32) * 2 ^ (b % 32) % 4294967296 = g at *
  generalize lb x (m - b / 32 - 1) / 2 ^ (32 - b % 32) = q at *
  exact bits_join .u32 32 (by decide) wraps_u32 (b % 32) g q (Int.natCast_nonneg _) (by exact_mod_cast g2) (by exact_mod_cast g1) (Int.natCast_nonneg _) (by exact_mod_cast q1) (by exact_mod_cast q2)
theorem up_step2 {P n V U : Nat} {h : Nat → Nat} (hh : ∀ m, m < 6 → h m = if m < n + 1 then 0 else lb P m) (hv : V = lb P n) : ∀ m, m < 6 → (if m = n then V else (if m = n then U else h m)) = if m < n then 0 else lb P m := by
  intro m hm
  by_cases e : m = n
  · rw [if_pos e, if_neg (by omega), hv, e]
  · rw [if_neg e, if_neg e, hh m hm]
    by_cases z : m < n
    · rw [if_pos z, if_pos (by omega)]
    · rw [if_neg z, if_neg (by omega)]
theorem up_step {P n V : Nat} {h : Nat → Nat} (hh : ∀ m, m < 6 → h m = if m < n + 1 then 0 else lb P m) (hv : V = lb P n) : ∀ m, m < 6 → (if m = n then V else h m) = if m < n then 0 else lb P m := by
  intro m hm
  by_cases e : m = n
  · rw [if_pos e, if_neg (by omega), hv, e]
  · rw [if_neg e, hh m hm]
    by_cases z : m < n
    · rw [if_pos z, if_pos (by omega)]
    · rw [if_neg z, if_neg (by omega)]
set_option maxHeartbeats 8000000 in
set_option maxRecDepth 100000 in
theorem iUp (w : World) (x b : Nat) (hx : x < 4294967296 ^ 6) (hb : b < 192) :
    Calls Try.prog 101 #[.agg #[.int .u32 ((lb x 0 : Nat) : Int), .int .u32 ((lb x 1 : Nat) : Int), .int .u32 ((lb x 2 : Nat) : Int), .int .u32 ((lb x 3 : Nat) : Int), .int .u32 ((lb x 4 : Nat) : Int), .int .u32 ((lb x 5 : Nat) : Int)], .int .i64 (b : Int)] w fun e w' => e = .returned (.agg (A6 (x * 2 ^ b))) ∧ Below w.heap.size w w' := by
  have hu111 := Try.underlying111
  have HX := Aside0.mk hx
  have HB := Aside0.mk hb
  clear hx hb
  have HO := Aside0.mk (OB.start w)
  go_enter Try.func101, Try.ntmps101
  have HL : Aside0 ((wrap64 ((b : Int) / 32)) = ((b / 32 : Nat) : Int) ∧ b / 32 ≤ 5) := ⟨by rw [i64w (by have := HB.out; omega) (by have := HB.out; omega)]; have := HB.out; omega⟩
  have HR : Aside0 (((b : Int) % 32) = ((b % 32 : Nat) : Int)) := ⟨by omega⟩
  go_wp2_with (first | ((with_reducible refine gate_dst (N := 2) rfl ?_); refine box_event ?hg (N := 2) ?hd (cs := #[.int .u32 ((lb x 0 : Nat) : Int), .int .u32 ((lb x 1 : Nat) : Int), .int .u32 ((lb x 2 : Nat) : Int), .int .u32 ((lb x 3 : Nat) : Int), .int .u32 ((lb x 4 : Nat) : Int), .int .u32 ((lb x 5 : Nat) : Int)]) (t := 111) ?hr ?_; (case hd => rfl); (case hg => rfl); (case hr => first | (go_simp; done) | (go_simp; rfl)); intro g1 hg w1 hbox hb; replace HO := Aside0.mk (HO.out.box hg hbox hb); clear hg hbox hb) | ((with_reducible refine gate_dst (N := 4) rfl ?_); refine box_event ?hg (N := 4) ?hd (cs := #[.int .u32 0, .int .u32 0, .int .u32 0, .int .u32 0, .int .u32 0, .int .u32 0]) (t := 111) ?hr ?_; (case hd => rfl); (case hg => rfl); (case hr => first | (go_simp; done) | (go_simp; rfl)); intro g2 hg w2 hbox hb; replace HO := Aside0.mk (HO.out.box hg hbox hb); clear hg hbox hb) | ((with_reducible refine gate_dst (N := 5) rfl ?_); refine box_event ?hg (N := 5) ?hd (cs := #[.int .u32 0, .int .u32 0, .int .u32 0, .int .u32 0, .int .u32 0, .int .u32 0]) (t := 111) ?hr ?_; (case hd => rfl); (case hg => rfl); (case hr => first | (go_simp; done) | (go_simp; rfl)); intro g3 hg w3 hbox hb; replace HO := Aside0.mk (HO.out.box hg hbox hb); clear hg hbox hb) | ((with_reducible refine gate_store (t := 111) (p := 5) rfl ?_); refine store_event (t := 111) (p := 5) (v := ?vo_1) (w1 := (World.setCell (World.setCell (World.setCell (World.setCell (World.setCell (World.setCell w3 ⟨g3, 0, none⟩ (.int .u32 0)) ⟨g3, 1, none⟩ (.int .u32 0)) ⟨g3, 2, none⟩ (.int .u32 0)) ⟨g3, 3, none⟩ (.int .u32 0)) ⟨g3, 4, none⟩ (.int .u32 0)) ⟨g3, 5, none⟩ (.int .u32 0))) ?hg ?ho ?hn ?hr ?_; (case ho => rfl); (case hg => rfl); (case hn => rfl); (case hr => (try simp only [Act.put, List.setIfInBounds_toArray, List.set_cons_zero, List.set_cons_succ]); exact run_put6_ rfl (show _ = Value.pointer (some ⟨g3, 0, none⟩) from by rfl) (show _ = Value.agg #[.int .u32 0, .int .u32 0, .int .u32 0, .int .u32 0, .int .u32 0, .int .u32 0] from by rfl) (HO.out.at 0 rfl) (by kernel_rfl) (by rfl)); intro w4 hw; replace HO := Aside0.mk (HO.out.put6 0 rfl hw rfl); clear hw))
  go_loopg [8] 7 (fun kq v8 w' => ∃ (n : Nat) (i : Int) (h : Nat → Nat), v8 = .int .i64 i ∧ Aside0 (i = (n : Int) - 1 ∧ n + 1 = kq ∧ n ≤ 6 ∧ b / 32 ≤ n ∧ ∀ m, m < 6 → h m = if m < n then 0 else lb (x * 2 ^ b) m) ∧ Aside0 (OB w.heap.size w w' [(g3, o6 h, 111), (g2, #[.int .u32 0, .int .u32 0, .int .u32 0, .int .u32 0, .int .u32 0, .int .u32 0], 111), (g1, A6 x, 111)]))
  case atStart => exact ⟨6, 5, fun _ => 0, rfl, ⟨rfl, rfl, by decide, by have := HL.out.2; omega, fun m hm => by rw [if_pos hm]⟩, ⟨HO.out⟩⟩
  case round =>
    clear HO
    obtain ⟨n, i, h, rfl, HN, HO⟩ := hrel
    by_cases c : (wrap64 ((b : Int) / 32)) ≤ i
    · obtain ⟨m, rfl⟩ : ∃ m, n = m + 1 := ⟨n - 1, by have h1_ := HN.out.1; have h2_ := HL.out.1; omega⟩
      have hm : m < 6 := by have := HN.out.2.2.1; omega
      have HI : Aside0 (i = (m : Int)) := ⟨by have := HN.out.1; omega⟩
      have hlm : b / 32 ≤ m := by have h1_ := HI.out; have h2_ := HL.out.1; omega
      have c0 : decide ((wrap64 ((b : Int) / 32)) ≤ i) = true := decide_eq_true c
      have p0 := eq_true (show 0 ≤ i from by have := HI.out; omega)
      have p1 := eq_true (show i < 6 from by have := HI.out; omega)
      obtain ⟨D, hD⟩ : ∃ D : Int, wrap64 (i - (wrap64 ((b : Int) / 32))) = D := ⟨_, rfl⟩
      have HD : Aside0 (D = ((m - b / 32 : Nat) : Int)) := ⟨by rw [← hD, i64w (by have h1_ := HI.out; have h2_ := HL.out; omega) (by have h1_ := HI.out; have h2_ := HL.out; omega)]; have h1_ := HI.out; have h2_ := HL.out.1; omega⟩
      have p2 := eq_true (show 0 ≤ D from by have := HD.out; omega)
      have p3 := eq_true (show D < 6 from by have := HD.out; omega)
      clear c
      obtain ⟨A, hA⟩ : ∃ A : Int, A = ((lb x (m - b / 32) : Nat) : Int) := ⟨_, rfl⟩
      obtain ⟨a0, a1⟩ := HO.out.cellZ 2 rfl HD.out (hA ▸ A6_get x (m - b / 32) (by omega))
      have HA := Aside0.mk hA
      have fr0 := HO.out.fr 0 rfl i.toNat
      obtain ⟨O, hO⟩ : ∃ O : Int, O = (h m : Int) := ⟨_, rfl⟩
      obtain ⟨b0, b1⟩ := HO.out.cellZ 0 rfl HI.out (hO ▸ o6_get h m hm)
      clear hA
      cases gk with
      | zero => have := HN.out.2.1; omega
      | succ k1 =>
      have HV : Aside0 (A * 2 ^ (b % 32) % 4294967296 = ((lb x (m - b / 32) * 2 ^ (b % 32) % 4294967296 : Nat) : Int)) := ⟨by rw [HA.out, Int.natCast_emod, Int.natCast_mul, Int.natCast_pow]; rfl⟩
      by_cases d : 0 < ((b : Int) % 32)
      · have d0 : decide (0 < ((b : Int) % 32)) = true := decide_eq_true d
        by_cases e : (wrap64 ((b : Int) / 32)) < i
        · have e0 : decide ((wrap64 ((b : Int) / 32)) < i) = true := decide_eq_true e
          obtain ⟨E, hE⟩ : ∃ E : Int, wrap64 (D - 1) = E := ⟨_, rfl⟩
          have hml : b / 32 + 1 ≤ m := by have h1_ := HI.out; have h2_ := HL.out.1; omega
          have HE : Aside0 (E = ((m - b / 32 - 1 : Nat) : Int)) := ⟨by rw [← hE, HD.out, i64w (by omega) (by omega)]; omega⟩
          have p4 := eq_true (show 0 ≤ E from by have := HE.out; omega)
          have p5 := eq_true (show E < 6 from by have := HE.out; omega)
          go_wp2
          generalize hw5 : wr.setCell ⟨g3, i.toNat, none⟩ (.int .u32 (A * 2 ^ (b % 32) % 4294967296)) = w5
          have HO5 := Aside0.mk (HO.out.put6x (k := 0) rfl hm HI.out HV.out hw5.symm rfl rfl)
          obtain ⟨F, hF⟩ : ∃ F : Int, F = ((lb x (m - b / 32 - 1) : Nat) : Int) := ⟨_, rfl⟩
          have HO4 := HO5
          replace HO5 := Aside0.mk HO5.out.drew
          obtain ⟨f0, f1⟩ := HO5.out.cellZ 2 rfl HE.out (hF ▸ A6_get x (m - b / 32 - 1) (by omega))
          obtain ⟨G, hG⟩ : ∃ G : Int, G = ((lb x (m - b / 32) * 2 ^ (b % 32) % 4294967296 : Nat) : Int) := ⟨_, rfl⟩
          obtain ⟨e1, e2⟩ := HO5.out.cellZ (v := G) 0 rfl HI.out (by rw [hG]; refine (o6_get _ m hm).trans ?_; simp)
          have fr5 := HO5.out.fr 0 rfl i.toNat
          have HF := Aside0.mk hF
          have HG := Aside0.mk hG
          obtain ⟨Q, hQ⟩ : ∃ Q : Int, Q = ((lb x (m - b / 32 - 1) / 2 ^ (32 - b % 32) : Nat) : Int) := ⟨_, rfl⟩
          have sh : ∀ W, (Op.shift BinOp.shr .u32 F .i64 (wrap64 (32 - (b : Int) % 32))).run Try.prog W = .ok (.int .u32 Q) W := fun W => shr_run W (by omega) hF hQ (by rw [i64w (by omega) (by omega)]; omega)
          have HQ := Aside0.mk hQ
          clear hw5 hF hG hQ a0 a1 b0 b1 fr0
          refine start_ (n := 15) (S := fun w' => w'.cell? ⟨g3, i.toNat, none⟩ = some (.int .u32 G) ∧ w'.cell? ((⟨g3, 0, none⟩ : Addr).add i.toNat) = some (.int .u32 G) ∧ w'.cell? ⟨g1, E.toNat, none⟩ = some (.int .u32 F) ∧ w'.cell? ((⟨g1, 0, none⟩ : Addr).add E.toNat) = some (.int .u32 F) ∧ w'.frozen? ⟨g3, i.toNat, none⟩ = false) (ds := [14]) #[false, false, false, false, false, false, false, false, false, false, false, false, false, false, false] (by kernel_rfl) rfl rfl ⟨e1, e2, f0, f1, fr5⟩ (fun hHeld => ?_)
          refine pure_ (i := 0) (N := some 35) (v := ?_) (a' := ?_) #[true, false, false, false, false, false, false, false, false, false, false, false, false, false, false] rfl rfl (by kernel_rfl) (fun _ _ _ h => h) (Or.inl ⟨by rfl, ?_⟩) ?_ ?_
          rotate_left
          · intro w'
            go_simp
            with_reducible rfl
          rotate_left
          · simp only [Act.put, List.setIfInBounds_toArray, List.set_cons_zero, List.set_cons_succ, i64_w, i32_w]
            rfl
          refine pure_ (i := 1) (N := some 36) (v := ?_) (a' := ?_) #[true, true, false, false, false, false, false, false, false, false, false, false, false, false, false] rfl rfl (by kernel_rfl) (fun _ _ _ h => h) (Or.inl ⟨by rfl, ?_⟩) ?_ ?_
          rotate_left
          · intro w'
            go_simp
            with_reducible rfl
          rotate_left
          · simp only [Act.put, List.setIfInBounds_toArray, List.set_cons_zero, List.set_cons_succ, i64_w, i32_w]
            rfl
          refine pure_ (i := 3) (N := some 38) (v := ?_) (a' := ?_) #[true, true, false, true, false, false, false, false, false, false, false, false, false, false, false] rfl rfl (by kernel_rfl) (fun _ _ _ h => h) (Or.inl ⟨by rfl, ?_⟩) ?_ ?_
          rotate_left
          · intro w'
            go_simp
            with_reducible rfl
          rotate_left
          · simp only [Act.put, List.setIfInBounds_toArray, List.set_cons_zero, List.set_cons_succ, i64_w, i32_w]
            rfl
          refine pure_ (i := 4) (N := some 39) (v := ?_) (a' := ?_) #[true, true, false, true, true, false, false, false, false, false, false, false, false, false, false] rfl rfl (by kernel_rfl) (fun _ _ _ h => h) (Or.inl ⟨by rfl, ?_⟩) ?_ ?_
          rotate_left
          · intro w'
            go_simp
            with_reducible rfl
          rotate_left
          · simp only [Act.put, List.setIfInBounds_toArray, List.set_cons_zero, List.set_cons_succ, i64_w, i32_w]
            rfl
          refine pure_ (i := 5) (N := some 40) (v := ?_) (a' := ?_) #[true, true, false, true, true, true, false, false, false, false, false, false, false, false, false] rfl rfl (by kernel_rfl) (fun _ _ _ h => h) (Or.inl ⟨by rfl, ?_⟩) ?_ ?_
          rotate_left
          · intro w'
            go_simp
            with_reducible rfl
          rotate_left
          · simp only [Act.put, List.setIfInBounds_toArray, List.set_cons_zero, List.set_cons_succ, i64_w, i32_w]
            rfl
          refine pure_ (i := 6) (N := some 41) (v := ?_) (a' := ?_) #[true, true, false, true, true, true, true, false, false, false, false, false, false, false, false] rfl rfl (by kernel_rfl) (fun _ _ _ h => h) (Or.inl ⟨by rfl, ?_⟩) ?_ ?_
          rotate_left
          · intro w'
            go_simp
            with_reducible rfl
          rotate_left
          · simp only [Act.put, List.setIfInBounds_toArray, List.set_cons_zero, List.set_cons_succ, i64_w, i32_w]
            rfl
          refine pure_ (i := 7) (N := some 42) (v := ?_) (a' := ?_) #[true, true, false, true, true, true, true, true, false, false, false, false, false, false, false] rfl rfl (by kernel_rfl) (fun _ _ _ h => h) (Or.inl ⟨by rfl, ?_⟩) ?_ ?_
          rotate_left
          · intro w'
            go_simp
            with_reducible rfl
          rotate_left
          · simp only [Act.put, List.setIfInBounds_toArray, List.set_cons_zero, List.set_cons_succ, i64_w, i32_w]
            rfl
          refine pure_ (i := 9) (N := some 44) (v := ?_) (a' := ?_) #[true, true, false, true, true, true, true, true, false, true, false, false, false, false, false] rfl rfl (by kernel_rfl) (fun _ _ _ h => h) (Or.inl ⟨by rfl, ?_⟩) ?_ ?_
          rotate_left
          · intro w'
            go_simp
            with_reducible rfl
          rotate_left
          · simp only [Act.put, List.setIfInBounds_toArray, List.set_cons_zero, List.set_cons_succ, i64_w, i32_w]
            rfl
          refine pure_ (i := 10) (N := some 45) (v := ?_) (a' := ?_) #[true, true, false, true, true, true, true, true, false, true, true, false, false, false, false] rfl rfl (by kernel_rfl) (fun _ _ _ h => h) (Or.inl ⟨by rfl, ?_⟩) ?_ ?_
          rotate_left
          · intro w'
            go_simp
            with_reducible rfl
          rotate_left
          · simp only [Act.put, List.setIfInBounds_toArray, List.set_cons_zero, List.set_cons_succ, i64_w, i32_w]
            rfl
          refine take_ (i := 2) (N := some 37) (v := ?_) (a' := ?_) #[true, true, true, true, true, true, true, true, false, true, true, false, false, false, false] rfl rfl (by kernel_rfl) (fun _ _ _ h => h) (Or.inl ⟨by rfl, ?_⟩) hHeld ?_ ?_
          rotate_left
          · rintro w' ⟨s0, s1, s2, s3, s4⟩
            go_simp
            with_reducible rfl
          rotate_left
          · simp only [Act.put, List.setIfInBounds_toArray, List.set_cons_zero, List.set_cons_succ, i64_w, i32_w]
            rfl
          refine take_ (i := 8) (N := some 43) (v := ?_) (a' := ?_) #[true, true, true, true, true, true, true, true, true, true, true, false, false, false, false] rfl rfl (by kernel_rfl) (fun _ _ _ h => h) (Or.inl ⟨by rfl, ?_⟩) hHeld ?_ ?_
          rotate_left
          · rintro w' ⟨s0, s1, s2, s3, s4⟩
            go_simp
            with_reducible rfl
          rotate_left
          · simp only [Act.put, List.setIfInBounds_toArray, List.set_cons_zero, List.set_cons_succ, i64_w, i32_w]
            rfl
          refine pure_ (i := 11) (N := some 46) (v := ?_) (a' := ?_) #[true, true, true, true, true, true, true, true, true, true, true, true, false, false, false] rfl rfl (by kernel_rfl) (fun _ _ _ h => h) (Or.inl ⟨by rfl, ?_⟩) ?_ ?_
          rotate_left
          · intro w'
            go_simp
            with_reducible rfl
          rotate_left
          · simp only [Act.put, List.setIfInBounds_toArray, List.set_cons_zero, List.set_cons_succ, i64_w, i32_w]
            rfl
          refine pure_ (i := 12) (N := some 47) (v := ?_) (a' := ?_) #[true, true, true, true, true, true, true, true, true, true, true, true, true, false, false] rfl rfl (by kernel_rfl) (fun _ _ _ h => h) (Or.inl ⟨by rfl, ?_⟩) ?_ ?_
          rotate_left
          · intro w'
            go_simp
            with_reducible rfl
          rotate_left
          · simp only [Act.put, List.setIfInBounds_toArray, List.set_cons_zero, List.set_cons_succ, i64_w, i32_w]
            rfl
          refine pure_ (i := 13) (N := some 48) (v := ?_) (a' := ?_) #[true, true, true, true, true, true, true, true, true, true, true, true, true, true, false] rfl rfl (by kernel_rfl) (fun _ _ _ h => h) (Or.inl ⟨by rfl, ?_⟩) ?_ ?_
          rotate_left
          · intro w'
            go_simp
            with_reducible rfl
          rotate_left
          · simp only [Act.put, List.setIfInBounds_toArray, List.set_cons_zero, List.set_cons_succ, i64_w, i32_w]
            rfl
          refine last_ (i := 14) (N := none) #[true, true, true, true, true, true, true, true, true, true, true, true, true, true, true] rfl rfl (by kernel_rfl) (by decide) (fun K hK => ?_)
          refine skip_ (w1 := ?_) (by rfl) rfl ?_ ?_
          rotate_left
          · go_simp
            rfl
          refine hK.out _ _ ?_
          clear hK K
          refine done_ (by kernel_rfl) ?_
          go_wp2
          have HJ := or_up (x := x) (m := m) (b := b) hml (show 0 < b % 32 by have := HR.out; omega) HG.out HQ.out
          go_roundg k1
          case measure => omega
          case rel => exact ⟨m, _, _, rfl, ⟨prevI HI.out (by omega), by have := HN.out.2.1; omega, by omega, hlm, up_step2 HN.out.2.2.2.2 rfl⟩, ⟨(HO4.out.put6x (k := 0) rfl hm HI.out HJ rfl rfl rfl).drew⟩⟩
        · have e0 : decide ((wrap64 ((b : Int) / 32)) < i) = false := decide_eq_false e
          go_wp2
          go_roundg k1
          case measure => omega
          case rel => exact ⟨m, _, _, rfl, ⟨prevI HI.out (by omega), by have := HN.out.2.1; omega, by omega, hlm, up_step HN.out.2.2.2.2 (up_low (by have h1_ := HI.out; have h2_ := HL.out.1; omega))⟩, ⟨HO.out.put6x (k := 0) rfl hm HI.out HV.out rfl rfl rfl⟩⟩
      · have d0 : decide (0 < ((b : Int) % 32)) = false := decide_eq_false d
        go_wp2
        go_roundg k1
        case measure => omega
        case rel => exact ⟨m, _, _, rfl, ⟨prevI HI.out (by omega), by have := HN.out.2.1; omega, by omega, hlm, up_step HN.out.2.2.2.2 (up_zero hlm (by have := HR.out; omega))⟩, ⟨HO.out.put6x (k := 0) rfl hm HI.out HV.out rfl rfl rfl⟩⟩
    · have c0 : decide ((wrap64 ((b : Int) / 32)) ≤ i) = false := decide_eq_false c
      have HF : Aside0 (o6 h = A6 (x * 2 ^ b)) := ⟨o6_A6 (fun j hj => by rw [HN.out.2.2.2.2 j hj]; by_cases z : j < n; rw [if_pos z, up_under (by have h1_ := HN.out.1; have h2_ := HL.out.1; omega)]; rw [if_neg z])⟩
      rw [HF.out] at HO
      obtain ⟨hc0, hc1, hc2, hc3, hc4, hc5⟩ := cells6_ (show wr.heap[g3]? = some (.cells #[.int .u32 ((lb (x * 2 ^ b) 0 : Nat) : Int), .int .u32 ((lb (x * 2 ^ b) 1 : Nat) : Int), .int .u32 ((lb (x * 2 ^ b) 2 : Nat) : Int), .int .u32 ((lb (x * 2 ^ b) 3 : Nat) : Int), .int .u32 ((lb (x * 2 ^ b) 4 : Nat) : Int), .int .u32 ((lb (x * 2 ^ b) 5 : Nat) : Int)] _ (0, 0)) from HO.out.at 0 rfl)
      go_wp2_with (first | ((with_reducible refine gate_store (t := 111) (p := 4) rfl ?_); refine store_event (t := 111) (p := 4) (v := ?vo_2) (w1 := (World.setCell (World.setCell (World.setCell (World.setCell (World.setCell (World.setCell wr ⟨g2, 0, none⟩ (.int .u32 ((lb (x * 2 ^ b) 0 : Nat) : Int))) ⟨g2, 1, none⟩ (.int .u32 ((lb (x * 2 ^ b) 1 : Nat) : Int))) ⟨g2, 2, none⟩ (.int .u32 ((lb (x * 2 ^ b) 2 : Nat) : Int))) ⟨g2, 3, none⟩ (.int .u32 ((lb (x * 2 ^ b) 3 : Nat) : Int))) ⟨g2, 4, none⟩ (.int .u32 ((lb (x * 2 ^ b) 4 : Nat) : Int))) ⟨g2, 5, none⟩ (.int .u32 ((lb (x * 2 ^ b) 5 : Nat) : Int)))) ?hg ?ho ?hn ?hr ?_; (case ho => rfl); (case hg => rfl); (case hn => rfl); (case hr => (try simp only [Act.put, List.setIfInBounds_toArray, List.set_cons_zero, List.set_cons_succ]); exact run_put6_ rfl (show _ = Value.pointer (some ⟨g2, 0, none⟩) from by rfl) (show _ = Value.agg #[.int .u32 ((lb (x * 2 ^ b) 0 : Nat) : Int), .int .u32 ((lb (x * 2 ^ b) 1 : Nat) : Int), .int .u32 ((lb (x * 2 ^ b) 2 : Nat) : Int), .int .u32 ((lb (x * 2 ^ b) 3 : Nat) : Int), .int .u32 ((lb (x * 2 ^ b) 4 : Nat) : Int), .int .u32 ((lb (x * 2 ^ b) 5 : Nat) : Int)] from by rfl) (HO.out.at 1 rfl) (by kernel_rfl) (by rfl)); intro w6 hw; replace HO := Aside0.mk (HO.out.put6 1 rfl hw rfl); clear hw))
      refine bodyPost_ret (results_cell_row rfl _ _ g2 111 #[.int .u32 ((lb (x * 2 ^ b) 0 : Nat) : Int), .int .u32 ((lb (x * 2 ^ b) 1 : Nat) : Int), .int .u32 ((lb (x * 2 ^ b) 2 : Nat) : Int), .int .u32 ((lb (x * 2 ^ b) 3 : Nat) : Int), .int .u32 ((lb (x * 2 ^ b) 4 : Nat) : Int), .int .u32 ((lb (x * 2 ^ b) 5 : Nat) : Int)] (0, 0) _ rfl (HO.out.at 1 rfl) Try.underlying111 rfl (by kernel_rfl)) rfl ?_
      exact ⟨rfl, HO.out.bel⟩
def upR (s : Int) (x b : Nat) : Array Value := if 192 < s + b ∧ ¬ x = 0 then #[.agg #[.int .u32 0, .int .u32 0, .int .u32 0, .int .u32 0, .int .u32 0, .int .u32 0], .bool false] else #[.agg (A6 (x * 2 ^ b)), .bool true]
def cU (x r n : Nat) : Nat := if n = 0 then 0 else lb x (n - 1) / 2 ^ (32 - r)
theorem sup_u {x n b : Nat} {A U : Int} (hA : A = ((lb x n : Nat) : Int)) (hU : IntKind.u64.wrap (A * 2 ^ (b % 32)) = U) : U = ((lb x n * 2 ^ (b % 32) : Nat) : Int) := by
  have l := lb_lt x n
  have hr : 2 ^ (b % 32) ≤ 2 ^ 31 := Nat.pow_le_pow_right (by decide) (by omega)
  have hm : lb x n * 2 ^ (b % 32) ≤ 4294967296 * 2 ^ 31 := Nat.mul_le_mul (by omega) hr
  have e : A * 2 ^ (b % 32) = ((lb x n * 2 ^ (b % 32) : Nat) : Int) := by rw [hA, Int.natCast_mul, Int.natCast_pow]; rfl
  rw [← hU, e]
  generalize lb x n * 2 ^ (b % 32) = z at *
  exact u64w (by omega) (by omega)
theorem or_nat {a c : Nat} (ha : a < 2 ^ 32) (hc : c < 2 ^ 32) : bits .or .u32 (a : Int) (c : Int) = ((a ||| c : Nat) : Int) := (bits_nat .u32 32 (by decide) wraps_u32 a c ha hc).2
theorem pow_split (b : Nat) : (4294967296 : Nat) = 2 ^ (32 - b % 32) * 2 ^ (b % 32) := by
  rw [← Nat.pow_add, show 32 - b % 32 + b % 32 = 32 by omega]
theorem cU_lt (x b n : Nat) : cU x (b % 32) n < 2 ^ 32 := by
  unfold cU
  split
  · decide
  · exact Nat.lt_of_le_of_lt (Nat.div_le_self _ _) (lb_lt _ _)
theorem sup_v {x n b : Nat} {O U V : Int} (hO : O = ((cU x (b % 32) n : Nat) : Int)) (hU : U = ((lb x n * 2 ^ (b % 32) : Nat) : Int)) (hV : bits BinOp.or IntKind.u32 O (U % 4294967296) = V) : V = ((lb (x * 2 ^ b) (n + b / 32) : Nat) : Int) := by
  have eU : U % 4294967296 = ((lb x n * 2 ^ (b % 32) % 4294967296 : Nat) : Int) := by rw [hU, Int.natCast_emod]; rfl
  rw [← hV, eU, hO, or_nat (cU_lt x b n) (Nat.mod_lt _ (by decide))]
  congr 1
  have hsub : n + b / 32 - b / 32 = n := by omega
  by_cases h0 : n = 0
  · have := up_low (x := x) (b := b) (m := n + b / 32) (by omega)
    rw [hsub] at this
    rw [← this]
    unfold cU
    rw [if_pos h0, Nat.zero_or]
  · by_cases hr : b % 32 = 0
    · have := up_zero (x := x) (b := b) (m := n + b / 32) (by omega) hr
      rw [hsub] at this
      rw [← this]
      unfold cU
      rw [if_neg h0, hr, Nat.div_eq_of_lt (lb_lt x (n - 1)), Nat.zero_or]
    · have h1 := or_up (x := x) (m := n + b / 32) (b := b) (by omega) (by omega) rfl rfl
      rw [hsub] at h1
      rw [or_nat (Nat.mod_lt _ (by decide)) (Nat.lt_of_le_of_lt (Nat.div_le_self _ _) (lb_lt _ _))] at h1
      unfold cU
      rw [if_neg h0, Nat.or_comm]
      exact Int.ofNat.inj h1
theorem sup_w {x n b : Nat} {U : Int} (hU : U = ((lb x n * 2 ^ (b % 32) : Nat) : Int)) : bits BinOp.or IntKind.u32 0 (U / 4294967296 % 4294967296) = ((cU x (b % 32) (n + 1) : Nat) : Int) := by
  have hp : 0 < 2 ^ (b % 32) := Nat.pow_pos (by decide)
  have e1 : lb x n * 2 ^ (b % 32) / 4294967296 = lb x n / 2 ^ (32 - b % 32) := by
    conv => lhs; rw [pow_split b]
    exact Nat.mul_div_mul_right _ _ hp
  have l : lb x n / 2 ^ (32 - b % 32) < 2 ^ 32 := Nat.lt_of_le_of_lt (Nat.div_le_self _ _) (lb_lt _ _)
  have eU : U / 4294967296 % 4294967296 = ((lb x n / 2 ^ (32 - b % 32) : Nat) : Int) := by
    rw [hU, ← e1]
    rw [← e1] at l
    generalize lb x n * 2 ^ (b % 32) = z at *
    omega
  rw [eU]
  have := or_nat (a := 0) (by decide) l
  rw [Nat.zero_or] at this
  unfold cU
  rw [if_neg (by omega), Nat.add_sub_cancel]
  exact this
theorem sup_step {P x b n : Nat} {h : Nat → Nat} (hh : ∀ m, m < 6 → h m = if m < n + b / 32 then lb P m else if m = n + b / 32 then cU x (b % 32) n else 0) : ∀ m, m < 6 → (if m = n + b / 32 + 1 then cU x (b % 32) (n + 1) else (if m = n + b / 32 then lb P (n + b / 32) else h m)) = if m < n + 1 + b / 32 then lb P m else if m = n + 1 + b / 32 then cU x (b % 32) (n + 1) else 0 := by
  intro m hm
  by_cases e : m = n + b / 32 + 1
  · rw [if_pos e, if_neg (by omega), if_pos (by omega)]
  · rw [if_neg e]
    by_cases e2 : m = n + b / 32
    · rw [if_pos e2, if_pos (by omega), e2]
    · rw [if_neg e2, hh m hm]
      by_cases c : m < n + b / 32
      · rw [if_pos c, if_pos (by omega)]
      · rw [if_neg c, if_neg e2, if_neg (by omega), if_neg (by omega)]
theorem sup_step5 {P x b n : Nat} {h : Nat → Nat} (h5 : n + b / 32 = 5) (hh : ∀ m, m < 6 → h m = if m < n + b / 32 then lb P m else if m = n + b / 32 then cU x (b % 32) n else 0) : ∀ m, m < 6 → (if m = n + b / 32 then lb P (n + b / 32) else h m) = if m < n + 1 + b / 32 then lb P m else if m = n + 1 + b / 32 then cU x (b % 32) (n + 1) else 0 := by
  intro m hm
  rw [if_pos (show m < n + 1 + b / 32 by omega)]
  by_cases e : m = n + b / 32
  · rw [if_pos e, e]
  · rw [if_neg e, hh m hm, if_pos (by omega)]
theorem sup_start {x b : Nat} : ∀ m, m < 6 → (fun _ : Nat => 0) m = if m < 0 + b / 32 then lb (x * 2 ^ b) m else if m = 0 + b / 32 then cU x (b % 32) 0 else 0 := by
  intro m hm
  by_cases c : m < 0 + b / 32
  · rw [if_pos c, up_under (by omega)]
  · rw [if_neg c]
    split
    · rfl
    · rfl
set_option maxHeartbeats 8000000 in
set_option maxRecDepth 100000 in
theorem sUp (w : World) (B0 O0 x b : Nat) (s : Int) (h0 : P6 w B0 O0 x) (hx : x < 4294967296 ^ 6) (hb : b < 192) (hs : 0 ≤ s ∧ s ≤ 192) (hc : ∀ W : World, Below w.heap.size w W → Calls Try.prog 131 #[.pointer (some ⟨B0, O0, none⟩)] W fun e w' => e = .returned (.int .i64 s) ∧ Below W.heap.size W w') :
    Calls Try.prog 122 #[.pointer (some ⟨B0, O0, none⟩), .int .i64 (b : Int)] w fun e w' => e = .returned (.tuple (upR s x b)) ∧ Below w.heap.size w w' := by
  have H0 := Aside0.mk h0
  have HX := Aside0.mk hx
  have HB := Aside0.mk hb
  have HC := Aside0.mk hc
  have HS := Aside0.mk hs
  clear h0 hx hb hc hs
  have hu126 := Try.underlying126
  have HO := Aside0.mk (OB.start w)
  have HL : Aside0 (wrap64 ((b : Int) / 32) = ((b / 32 : Nat) : Int) ∧ b / 32 ≤ 5) := ⟨by rw [i64w (by have := HB.out; omega) (by have := HB.out; omega)]; have := HB.out; omega⟩
  have HR : Aside0 ((b : Int) % 32 = ((b % 32 : Nat) : Int)) := ⟨by omega⟩
  have e0 : wrap64 (s + (b : Int)) = s + b := i64w (by have := HS.out; omega) (by have := HS.out; have := HB.out; omega)
  by_cases c : 192 < s + (b : Int)
  · have c0 : decide (192 < s + (b : Int)) = true := decide_eq_true c
    by_cases z0 : x = 0
    · have z : zN x = true := decide_eq_true z0
      have HU : Aside0 (upR s x b = #[.agg (A6 (x * 2 ^ b)), .bool true]) := ⟨if_neg (fun e => e.2 z0)⟩
      clear c z0
      go_enter Try.func122, Try.ntmps122
      go_wp2_with (first | ((with_reducible refine gate_dst (N := 4) rfl ?_); refine box_event ?hg (N := 4) ?hd (cs := #[.int .u32 0, .int .u32 0, .int .u32 0, .int .u32 0, .int .u32 0, .int .u32 0]) (t := 126) ?hr ?_; (case hd => rfl); (case hg => rfl); (case hr => first | (go_simp; done) | (go_simp; rfl)); intro g1 hg w1 hbox hb; replace HO := Aside0.mk (HO.out.box hg hbox hb); clear hg hbox hb) | (go_at_call 131; (with_reducible refine (HC.out _ HO.out.bel).mono ?_); rintro e w2 ⟨rfl, hb⟩; replace HO := Aside0.mk (HO.out.below hb); clear hb) | (go_at_call 124; (with_reducible refine (sZero _ B0 O0 x (H0.out.below HO.out.bel) HX.out).mono ?_); rintro e w3 ⟨rfl, hb⟩; replace HO := Aside0.mk (HO.out.below hb); clear hb) | ((with_reducible refine gate_dst (N := 6) rfl ?_); refine box_event ?hg (N := 6) ?hd (cs := #[.int .u32 0, .int .u32 0, .int .u32 0, .int .u32 0, .int .u32 0, .int .u32 0]) (t := 126) ?hr ?_; (case hd => rfl); (case hg => rfl); (case hr => first | (go_simp; done) | (go_simp; rfl)); intro g2 hg w5 hbox hb; replace HO := Aside0.mk (HO.out.box hg hbox hb); clear hg hbox hb) | ((with_reducible refine gate_store (t := 126) (p := 6) rfl ?_); refine store_event (t := 126) (p := 6) (v := ?vo_1) (w1 := (World.setCell (World.setCell (World.setCell (World.setCell (World.setCell (World.setCell w5 ⟨g2, 0, none⟩ (.int .u32 0)) ⟨g2, 1, none⟩ (.int .u32 0)) ⟨g2, 2, none⟩ (.int .u32 0)) ⟨g2, 3, none⟩ (.int .u32 0)) ⟨g2, 4, none⟩ (.int .u32 0)) ⟨g2, 5, none⟩ (.int .u32 0))) ?hg ?ho ?hn ?hr ?_; (case ho => rfl); (case hg => rfl); (case hn => rfl); (case hr => (try simp only [Act.put, List.setIfInBounds_toArray, List.set_cons_zero, List.set_cons_succ]); exact run_put6_ rfl (show _ = Value.pointer (some ⟨g2, 0, none⟩) from by rfl) (show _ = Value.agg #[.int .u32 0, .int .u32 0, .int .u32 0, .int .u32 0, .int .u32 0, .int .u32 0] from by rfl) (HO.out.at 0 rfl) (by kernel_rfl) (by rfl)); intro w6 hw; replace HO := Aside0.mk (HO.out.put6 0 rfl hw rfl); clear hw))
      go_loopg [7] 7 (fun kq v7 w' => ∃ (n : Nat) (i : Int) (h : Nat → Nat), v7 = .int .i64 i ∧ Aside0 (i = (n : Int) ∧ n + kq = 7 ∧ n + b / 32 ≤ 6 ∧ ∀ m, m < 6 → h m = if m < n + b / 32 then lb (x * 2 ^ b) m else if m = n + b / 32 then cU x (b % 32) n else 0) ∧ Aside0 (OB w.heap.size w w' [(g2, o6 h, 126), (g1, #[.int .u32 0, .int .u32 0, .int .u32 0, .int .u32 0, .int .u32 0, .int .u32 0], 126)]))
      case atStart => exact ⟨0, 0, fun _ => 0, rfl, ⟨rfl, rfl, by have := HL.out.2; omega, sup_start⟩, ⟨HO.out⟩⟩
      case round =>
        clear HO
        obtain ⟨n, i, h, rfl, HN, HO⟩ := hrel
        have hn : n ≤ 6 := by have := HN.out.2.2.1; omega
        have HF6 : n + b / 32 = 6 → Aside0 (o6 h = A6 (x * 2 ^ b)) := fun z => ⟨o6_A6 (fun j hj => by rw [HN.out.2.2.2 j hj, if_pos (by omega)])⟩
        by_cases c : i < 6
        · have c1 : decide (i < 6) = true := decide_eq_true c
          obtain ⟨S, hS⟩ : ∃ S : Int, wrap64 (i + (b : Int) / 32) = S := ⟨_, rfl⟩
          have HS_ : Aside0 (S = ((n + b / 32 : Nat) : Int)) := ⟨by rw [← hS, HN.out.1, i64w (by have := HB.out; omega) (by have := HB.out; omega)]; omega⟩
          have hw : wrap64 ((b : Int) / 32) = (b : Int) / 32 := i64w (by have := HB.out; omega) (by have := HB.out; omega)
          have hS2 : wrap64 (i + wrap64 ((b : Int) / 32)) = S := by rw [hw]; exact hS
          by_cases d : 6 ≤ S
          · have d0 : decide (6 ≤ S) = true := decide_eq_true d
            have HF := HF6 (by have h1_ := HS_.out; have h2_ := HN.out.2.2.1; omega)
            rw [HF.out] at HO
            obtain ⟨hc0, hc1, hc2, hc3, hc4, hc5⟩ := cells6_ (show wr.heap[g2]? = some (.cells #[.int .u32 ((lb (x * 2 ^ b) 0 : Nat) : Int), .int .u32 ((lb (x * 2 ^ b) 1 : Nat) : Int), .int .u32 ((lb (x * 2 ^ b) 2 : Nat) : Int), .int .u32 ((lb (x * 2 ^ b) 3 : Nat) : Int), .int .u32 ((lb (x * 2 ^ b) 4 : Nat) : Int), .int .u32 ((lb (x * 2 ^ b) 5 : Nat) : Int)] _ (0, 0)) from HO.out.at 0 rfl)
            clear HF6 c d
            go_wp2_with (first | ((with_reducible refine gate_store (t := 126) (p := 4) rfl ?_); refine store_event (t := 126) (p := 4) (v := ?vo_4) (w1 := (World.setCell (World.setCell (World.setCell (World.setCell (World.setCell (World.setCell wr ⟨g1, 0, none⟩ (.int .u32 ((lb (x * 2 ^ b) 0 : Nat) : Int))) ⟨g1, 1, none⟩ (.int .u32 ((lb (x * 2 ^ b) 1 : Nat) : Int))) ⟨g1, 2, none⟩ (.int .u32 ((lb (x * 2 ^ b) 2 : Nat) : Int))) ⟨g1, 3, none⟩ (.int .u32 ((lb (x * 2 ^ b) 3 : Nat) : Int))) ⟨g1, 4, none⟩ (.int .u32 ((lb (x * 2 ^ b) 4 : Nat) : Int))) ⟨g1, 5, none⟩ (.int .u32 ((lb (x * 2 ^ b) 5 : Nat) : Int)))) ?hg ?ho ?hn ?hr ?_; (case ho => rfl); (case hg => rfl); (case hn => rfl); (case hr => (try simp only [Act.put, List.setIfInBounds_toArray, List.set_cons_zero, List.set_cons_succ]); exact run_put6_ rfl (show _ = Value.pointer (some ⟨g1, 0, none⟩) from by rfl) (show _ = Value.agg #[.int .u32 ((lb (x * 2 ^ b) 0 : Nat) : Int), .int .u32 ((lb (x * 2 ^ b) 1 : Nat) : Int), .int .u32 ((lb (x * 2 ^ b) 2 : Nat) : Int), .int .u32 ((lb (x * 2 ^ b) 3 : Nat) : Int), .int .u32 ((lb (x * 2 ^ b) 4 : Nat) : Int), .int .u32 ((lb (x * 2 ^ b) 5 : Nat) : Int)] from by rfl) (HO.out.at 1 rfl) (by kernel_rfl) (by rfl)); intro w8 hw; replace HO := Aside0.mk (HO.out.put6 1 rfl hw rfl); clear hw))
            refine bodyPost_ret (results_ct rfl _ _ g1 126 #[.int .u32 ((lb (x * 2 ^ b) 0 : Nat) : Int), .int .u32 ((lb (x * 2 ^ b) 1 : Nat) : Int), .int .u32 ((lb (x * 2 ^ b) 2 : Nat) : Int), .int .u32 ((lb (x * 2 ^ b) 3 : Nat) : Int), .int .u32 ((lb (x * 2 ^ b) 4 : Nat) : Int), .int .u32 ((lb (x * 2 ^ b) 5 : Nat) : Int)] (0, 0) _ rfl (HO.out.at 1 rfl) Try.underlying126 rfl (by kernel_rfl)) rfl ?_
            exact ⟨by rw [HU.out]; rfl, HO.out.bel⟩
          · have d0 : decide (6 ≤ S) = false := decide_eq_false d
            have hn6 : n + b / 32 < 6 := by have h1_ := HS_.out; omega
            have p0 := eq_true (show 0 ≤ i from by have := HN.out.1; omega)
            have p1 := eq_true c
            have p2 := eq_true (show 0 ≤ S from by have := HS_.out; omega)
            have p3 := eq_true (show S < 6 from by omega)
            obtain ⟨A, hA⟩ : ∃ A : Int, A = ((lb x n : Nat) : Int) := ⟨_, rfl⟩
            have q0 := H0.out.at HO.out.bel (show n < 6 by omega) HN.out.1 hA
            have r0 := H0.out.at0 HO.out.bel (show n < 6 by omega) HN.out.1 hA
            obtain ⟨O, hO⟩ : ∃ O : Int, O = (h (n + b / 32) : Int) := ⟨_, rfl⟩
            obtain ⟨b0, b1⟩ := HO.out.cellZ 0 rfl HS_.out (hO ▸ o6_get h (n + b / 32) hn6)
            have fr0 := HO.out.fr 0 rfl S.toNat
            have HA := Aside0.mk hA
            have HO_ : Aside0 (O = ((cU x (b % 32) n : Nat) : Int)) := ⟨by rw [hO, HN.out.2.2.2 _ hn6, if_neg (Nat.lt_irrefl _), if_pos rfl]⟩
            clear hA hO HF6 c d
            obtain ⟨T, hT⟩ : ∃ T : Int, wrap64 (S + 1) = T := ⟨_, rfl⟩
            have HT_ : Aside0 (T = ((n + b / 32 + 1 : Nat) : Int)) := ⟨by rw [← hT, HS_.out, i64w (by omega) (by omega)]; omega⟩
            cases gk with
            | zero => have := HN.out.2.1; omega
            | succ k1 =>
            have hu1 : IntKind.u64.wrap A = A := u64w (by have := HA.out; have := lbz x n; omega) (by have := HA.out; have := lbz x n; omega)
            obtain ⟨U, hU⟩ : ∃ U : Int, IntKind.u64.wrap (A * 2 ^ (b % 32)) = U := ⟨_, rfl⟩
            have HU_ : Aside0 (U = ((lb x n * 2 ^ (b % 32) : Nat) : Int)) := ⟨sup_u HA.out hU⟩
            obtain ⟨V, hV⟩ : ∃ V : Int, bits BinOp.or IntKind.u32 O (U % 4294967296) = V := ⟨_, rfl⟩
            have HV : Aside0 (V = ((lb (x * 2 ^ b) (n + b / 32) : Nat) : Int)) := ⟨sup_v HO_.out HU_.out hV⟩
            have HO5 := Aside0.mk (HO.out.put6x (k := 0) rfl hn6 HS_.out HV.out rfl rfl rfl)
            by_cases e : T < 6
            · have e1 : decide (T < 6) = true := decide_eq_true e
              have p4 := eq_true (show 0 ≤ T from by have := HT_.out; omega)
              have p5 := eq_true e
              have hn7 : n + b / 32 + 1 < 6 := by have := HT_.out; omega
              obtain ⟨f0, f1⟩ := HO5.out.cellZ (v := 0) 0 rfl HT_.out (by refine (o6_get _ _ hn7).trans ?_; rw [if_neg (by omega), HN.out.2.2.2 _ hn7, if_neg (by omega), if_neg (by omega)]; rfl)
              have fr5 := HO5.out.fr 0 rfl T.toNat
              go_wp2
              go_roundg k1
              case measure => omega
              case rel => exact ⟨n + 1, _, _, rfl, ⟨nextI HN.out.1 (by omega), by have := HN.out.2.1; omega, by omega, sup_step HN.out.2.2.2⟩, ⟨HO5.out.put6x (k := 0) rfl hn7 HT_.out (sup_w HU_.out) rfl rfl rfl⟩⟩
            · have e1 : decide (T < 6) = false := decide_eq_false e
              have hn7 : n + b / 32 = 5 := by have h1_ := HT_.out; omega
              go_wp2
              go_roundg k1
              case measure => omega
              case rel => exact ⟨n + 1, _, _, rfl, ⟨nextI HN.out.1 (by omega), by have := HN.out.2.1; omega, by omega, sup_step5 hn7 HN.out.2.2.2⟩, ⟨HO5.out⟩⟩
        · have c1 : decide (i < 6) = false := decide_eq_false c
          have HF := HF6 (by have h1_ := HN.out.1; have h2_ := HN.out.2.2.1; omega)
          rw [HF.out] at HO
          obtain ⟨hc0, hc1, hc2, hc3, hc4, hc5⟩ := cells6_ (show wr.heap[g2]? = some (.cells #[.int .u32 ((lb (x * 2 ^ b) 0 : Nat) : Int), .int .u32 ((lb (x * 2 ^ b) 1 : Nat) : Int), .int .u32 ((lb (x * 2 ^ b) 2 : Nat) : Int), .int .u32 ((lb (x * 2 ^ b) 3 : Nat) : Int), .int .u32 ((lb (x * 2 ^ b) 4 : Nat) : Int), .int .u32 ((lb (x * 2 ^ b) 5 : Nat) : Int)] _ (0, 0)) from HO.out.at 0 rfl)
          clear HF6 c
          go_wp2_with (first | ((with_reducible refine gate_store (t := 126) (p := 4) rfl ?_); refine store_event (t := 126) (p := 4) (v := ?vo_4) (w1 := (World.setCell (World.setCell (World.setCell (World.setCell (World.setCell (World.setCell wr ⟨g1, 0, none⟩ (.int .u32 ((lb (x * 2 ^ b) 0 : Nat) : Int))) ⟨g1, 1, none⟩ (.int .u32 ((lb (x * 2 ^ b) 1 : Nat) : Int))) ⟨g1, 2, none⟩ (.int .u32 ((lb (x * 2 ^ b) 2 : Nat) : Int))) ⟨g1, 3, none⟩ (.int .u32 ((lb (x * 2 ^ b) 3 : Nat) : Int))) ⟨g1, 4, none⟩ (.int .u32 ((lb (x * 2 ^ b) 4 : Nat) : Int))) ⟨g1, 5, none⟩ (.int .u32 ((lb (x * 2 ^ b) 5 : Nat) : Int)))) ?hg ?ho ?hn ?hr ?_; (case ho => rfl); (case hg => rfl); (case hn => rfl); (case hr => (try simp only [Act.put, List.setIfInBounds_toArray, List.set_cons_zero, List.set_cons_succ]); exact run_put6_ rfl (show _ = Value.pointer (some ⟨g1, 0, none⟩) from by rfl) (show _ = Value.agg #[.int .u32 ((lb (x * 2 ^ b) 0 : Nat) : Int), .int .u32 ((lb (x * 2 ^ b) 1 : Nat) : Int), .int .u32 ((lb (x * 2 ^ b) 2 : Nat) : Int), .int .u32 ((lb (x * 2 ^ b) 3 : Nat) : Int), .int .u32 ((lb (x * 2 ^ b) 4 : Nat) : Int), .int .u32 ((lb (x * 2 ^ b) 5 : Nat) : Int)] from by rfl) (HO.out.at 1 rfl) (by kernel_rfl) (by rfl)); intro w8 hw; replace HO := Aside0.mk (HO.out.put6 1 rfl hw rfl); clear hw))
          refine bodyPost_ret (results_ct rfl _ _ g1 126 #[.int .u32 ((lb (x * 2 ^ b) 0 : Nat) : Int), .int .u32 ((lb (x * 2 ^ b) 1 : Nat) : Int), .int .u32 ((lb (x * 2 ^ b) 2 : Nat) : Int), .int .u32 ((lb (x * 2 ^ b) 3 : Nat) : Int), .int .u32 ((lb (x * 2 ^ b) 4 : Nat) : Int), .int .u32 ((lb (x * 2 ^ b) 5 : Nat) : Int)] (0, 0) _ rfl (HO.out.at 1 rfl) Try.underlying126 rfl (by kernel_rfl)) rfl ?_
          exact ⟨by rw [HU.out]; rfl, HO.out.bel⟩
    · have z : zN x = false := decide_eq_false z0
      have HU : Aside0 (upR s x b = #[.agg #[.int .u32 0, .int .u32 0, .int .u32 0, .int .u32 0, .int .u32 0, .int .u32 0], .bool false]) := ⟨if_pos ⟨c, z0⟩⟩
      clear c z0
      go_enter Try.func122, Try.ntmps122
      go_wp2_with (first | ((with_reducible refine gate_dst (N := 4) rfl ?_); refine box_event ?hg (N := 4) ?hd (cs := #[.int .u32 0, .int .u32 0, .int .u32 0, .int .u32 0, .int .u32 0, .int .u32 0]) (t := 126) ?hr ?_; (case hd => rfl); (case hg => rfl); (case hr => first | (go_simp; done) | (go_simp; rfl)); intro g1 hg w1 hbox hb; replace HO := Aside0.mk (HO.out.box hg hbox hb); clear hg hbox hb) | (go_at_call 131; (with_reducible refine (HC.out _ HO.out.bel).mono ?_); rintro e w2 ⟨rfl, hb⟩; replace HO := Aside0.mk (HO.out.below hb); clear hb) | (go_at_call 124; (with_reducible refine (sZero _ B0 O0 x (H0.out.below HO.out.bel) HX.out).mono ?_); rintro e w3 ⟨rfl, hb⟩; replace HO := Aside0.mk (HO.out.below hb); clear hb) | ((with_reducible refine gate_store (t := 126) (p := 4) rfl ?_); refine store_event (t := 126) (p := 4) (v := ?vo_2) (w1 := (World.setCell (World.setCell (World.setCell (World.setCell (World.setCell (World.setCell w3 ⟨g1, 0, none⟩ (.int .u32 0)) ⟨g1, 1, none⟩ (.int .u32 0)) ⟨g1, 2, none⟩ (.int .u32 0)) ⟨g1, 3, none⟩ (.int .u32 0)) ⟨g1, 4, none⟩ (.int .u32 0)) ⟨g1, 5, none⟩ (.int .u32 0))) ?hg ?ho ?hn ?hr ?_; (case ho => rfl); (case hg => rfl); (case hn => rfl); (case hr => (try simp only [Act.put, List.setIfInBounds_toArray, List.set_cons_zero, List.set_cons_succ]); exact run_put6_ rfl (show _ = Value.pointer (some ⟨g1, 0, none⟩) from by rfl) (show _ = Value.agg #[.int .u32 0, .int .u32 0, .int .u32 0, .int .u32 0, .int .u32 0, .int .u32 0] from by rfl) (HO.out.at 0 rfl) (by kernel_rfl) (by rfl)); intro w4 hw; replace HO := Aside0.mk (HO.out.put6 0 rfl hw rfl); clear hw))
      refine bodyPost_ret (results_ct rfl _ _ g1 126 #[.int .u32 0, .int .u32 0, .int .u32 0, .int .u32 0, .int .u32 0, .int .u32 0] (0, 0) _ rfl (HO.out.at 0 rfl) Try.underlying126 rfl (by kernel_rfl)) rfl ?_
      exact ⟨by rw [HU.out]; rfl, HO.out.bel⟩
  · have c0 : decide (192 < s + (b : Int)) = false := decide_eq_false c
    have HU : Aside0 (upR s x b = #[.agg (A6 (x * 2 ^ b)), .bool true]) := ⟨if_neg (fun e => c e.1)⟩
    clear c
    go_enter Try.func122, Try.ntmps122
    go_wp2_with (first | ((with_reducible refine gate_dst (N := 4) rfl ?_); refine box_event ?hg (N := 4) ?hd (cs := #[.int .u32 0, .int .u32 0, .int .u32 0, .int .u32 0, .int .u32 0, .int .u32 0]) (t := 126) ?hr ?_; (case hd => rfl); (case hg => rfl); (case hr => first | (go_simp; done) | (go_simp; rfl)); intro g1 hg w1 hbox hb; replace HO := Aside0.mk (HO.out.box hg hbox hb); clear hg hbox hb) | (go_at_call 131; (with_reducible refine (HC.out _ HO.out.bel).mono ?_); rintro e w2 ⟨rfl, hb⟩; replace HO := Aside0.mk (HO.out.below hb); clear hb) | ((with_reducible refine gate_dst (N := 6) rfl ?_); refine box_event ?hg (N := 6) ?hd (cs := #[.int .u32 0, .int .u32 0, .int .u32 0, .int .u32 0, .int .u32 0, .int .u32 0]) (t := 126) ?hr ?_; (case hd => rfl); (case hg => rfl); (case hr => first | (go_simp; done) | (go_simp; rfl)); intro g2 hg w5 hbox hb; replace HO := Aside0.mk (HO.out.box hg hbox hb); clear hg hbox hb) | ((with_reducible refine gate_store (t := 126) (p := 6) rfl ?_); refine store_event (t := 126) (p := 6) (v := ?vo_3) (w1 := (World.setCell (World.setCell (World.setCell (World.setCell (World.setCell (World.setCell w5 ⟨g2, 0, none⟩ (.int .u32 0)) ⟨g2, 1, none⟩ (.int .u32 0)) ⟨g2, 2, none⟩ (.int .u32 0)) ⟨g2, 3, none⟩ (.int .u32 0)) ⟨g2, 4, none⟩ (.int .u32 0)) ⟨g2, 5, none⟩ (.int .u32 0))) ?hg ?ho ?hn ?hr ?_; (case ho => rfl); (case hg => rfl); (case hn => rfl); (case hr => (try simp only [Act.put, List.setIfInBounds_toArray, List.set_cons_zero, List.set_cons_succ]); exact run_put6_ rfl (show _ = Value.pointer (some ⟨g2, 0, none⟩) from by rfl) (show _ = Value.agg #[.int .u32 0, .int .u32 0, .int .u32 0, .int .u32 0, .int .u32 0, .int .u32 0] from by rfl) (HO.out.at 0 rfl) (by kernel_rfl) (by rfl)); intro w6 hw; replace HO := Aside0.mk (HO.out.put6 0 rfl hw rfl); clear hw))
    go_loopg [7] 7 (fun kq v7 w' => ∃ (n : Nat) (i : Int) (h : Nat → Nat), v7 = .int .i64 i ∧ Aside0 (i = (n : Int) ∧ n + kq = 7 ∧ n + b / 32 ≤ 6 ∧ ∀ m, m < 6 → h m = if m < n + b / 32 then lb (x * 2 ^ b) m else if m = n + b / 32 then cU x (b % 32) n else 0) ∧ Aside0 (OB w.heap.size w w' [(g2, o6 h, 126), (g1, #[.int .u32 0, .int .u32 0, .int .u32 0, .int .u32 0, .int .u32 0, .int .u32 0], 126)]))
    case atStart => exact ⟨0, 0, fun _ => 0, rfl, ⟨rfl, rfl, by have := HL.out.2; omega, sup_start⟩, ⟨HO.out⟩⟩
    case round =>
      clear HO
      obtain ⟨n, i, h, rfl, HN, HO⟩ := hrel
      have hn : n ≤ 6 := by have := HN.out.2.2.1; omega
      have HF6 : n + b / 32 = 6 → Aside0 (o6 h = A6 (x * 2 ^ b)) := fun z => ⟨o6_A6 (fun j hj => by rw [HN.out.2.2.2 j hj, if_pos (by omega)])⟩
      by_cases c : i < 6
      · have c1 : decide (i < 6) = true := decide_eq_true c
        obtain ⟨S, hS⟩ : ∃ S : Int, wrap64 (i + (b : Int) / 32) = S := ⟨_, rfl⟩
        have HS_ : Aside0 (S = ((n + b / 32 : Nat) : Int)) := ⟨by rw [← hS, HN.out.1, i64w (by have := HB.out; omega) (by have := HB.out; omega)]; omega⟩
        have hw : wrap64 ((b : Int) / 32) = (b : Int) / 32 := i64w (by have := HB.out; omega) (by have := HB.out; omega)
        have hS2 : wrap64 (i + wrap64 ((b : Int) / 32)) = S := by rw [hw]; exact hS
        by_cases d : 6 ≤ S
        · have d0 : decide (6 ≤ S) = true := decide_eq_true d
          have HF := HF6 (by have h1_ := HS_.out; have h2_ := HN.out.2.2.1; omega)
          rw [HF.out] at HO
          obtain ⟨hc0, hc1, hc2, hc3, hc4, hc5⟩ := cells6_ (show wr.heap[g2]? = some (.cells #[.int .u32 ((lb (x * 2 ^ b) 0 : Nat) : Int), .int .u32 ((lb (x * 2 ^ b) 1 : Nat) : Int), .int .u32 ((lb (x * 2 ^ b) 2 : Nat) : Int), .int .u32 ((lb (x * 2 ^ b) 3 : Nat) : Int), .int .u32 ((lb (x * 2 ^ b) 4 : Nat) : Int), .int .u32 ((lb (x * 2 ^ b) 5 : Nat) : Int)] _ (0, 0)) from HO.out.at 0 rfl)
          clear HF6 c d
          go_wp2_with (first | ((with_reducible refine gate_store (t := 126) (p := 4) rfl ?_); refine store_event (t := 126) (p := 4) (v := ?vo_4) (w1 := (World.setCell (World.setCell (World.setCell (World.setCell (World.setCell (World.setCell wr ⟨g1, 0, none⟩ (.int .u32 ((lb (x * 2 ^ b) 0 : Nat) : Int))) ⟨g1, 1, none⟩ (.int .u32 ((lb (x * 2 ^ b) 1 : Nat) : Int))) ⟨g1, 2, none⟩ (.int .u32 ((lb (x * 2 ^ b) 2 : Nat) : Int))) ⟨g1, 3, none⟩ (.int .u32 ((lb (x * 2 ^ b) 3 : Nat) : Int))) ⟨g1, 4, none⟩ (.int .u32 ((lb (x * 2 ^ b) 4 : Nat) : Int))) ⟨g1, 5, none⟩ (.int .u32 ((lb (x * 2 ^ b) 5 : Nat) : Int)))) ?hg ?ho ?hn ?hr ?_; (case ho => rfl); (case hg => rfl); (case hn => rfl); (case hr => (try simp only [Act.put, List.setIfInBounds_toArray, List.set_cons_zero, List.set_cons_succ]); exact run_put6_ rfl (show _ = Value.pointer (some ⟨g1, 0, none⟩) from by rfl) (show _ = Value.agg #[.int .u32 ((lb (x * 2 ^ b) 0 : Nat) : Int), .int .u32 ((lb (x * 2 ^ b) 1 : Nat) : Int), .int .u32 ((lb (x * 2 ^ b) 2 : Nat) : Int), .int .u32 ((lb (x * 2 ^ b) 3 : Nat) : Int), .int .u32 ((lb (x * 2 ^ b) 4 : Nat) : Int), .int .u32 ((lb (x * 2 ^ b) 5 : Nat) : Int)] from by rfl) (HO.out.at 1 rfl) (by kernel_rfl) (by rfl)); intro w8 hw; replace HO := Aside0.mk (HO.out.put6 1 rfl hw rfl); clear hw))
          refine bodyPost_ret (results_ct rfl _ _ g1 126 #[.int .u32 ((lb (x * 2 ^ b) 0 : Nat) : Int), .int .u32 ((lb (x * 2 ^ b) 1 : Nat) : Int), .int .u32 ((lb (x * 2 ^ b) 2 : Nat) : Int), .int .u32 ((lb (x * 2 ^ b) 3 : Nat) : Int), .int .u32 ((lb (x * 2 ^ b) 4 : Nat) : Int), .int .u32 ((lb (x * 2 ^ b) 5 : Nat) : Int)] (0, 0) _ rfl (HO.out.at 1 rfl) Try.underlying126 rfl (by kernel_rfl)) rfl ?_
          exact ⟨by rw [HU.out]; rfl, HO.out.bel⟩
        · have d0 : decide (6 ≤ S) = false := decide_eq_false d
          have hn6 : n + b / 32 < 6 := by have h1_ := HS_.out; omega
          have p0 := eq_true (show 0 ≤ i from by have := HN.out.1; omega)
          have p1 := eq_true c
          have p2 := eq_true (show 0 ≤ S from by have := HS_.out; omega)
          have p3 := eq_true (show S < 6 from by omega)
          obtain ⟨A, hA⟩ : ∃ A : Int, A = ((lb x n : Nat) : Int) := ⟨_, rfl⟩
          have q0 := H0.out.at HO.out.bel (show n < 6 by omega) HN.out.1 hA
          have r0 := H0.out.at0 HO.out.bel (show n < 6 by omega) HN.out.1 hA
          obtain ⟨O, hO⟩ : ∃ O : Int, O = (h (n + b / 32) : Int) := ⟨_, rfl⟩
          obtain ⟨b0, b1⟩ := HO.out.cellZ 0 rfl HS_.out (hO ▸ o6_get h (n + b / 32) hn6)
          have fr0 := HO.out.fr 0 rfl S.toNat
          have HA := Aside0.mk hA
          have HO_ : Aside0 (O = ((cU x (b % 32) n : Nat) : Int)) := ⟨by rw [hO, HN.out.2.2.2 _ hn6, if_neg (Nat.lt_irrefl _), if_pos rfl]⟩
          clear hA hO HF6 c d
          obtain ⟨T, hT⟩ : ∃ T : Int, wrap64 (S + 1) = T := ⟨_, rfl⟩
          have HT_ : Aside0 (T = ((n + b / 32 + 1 : Nat) : Int)) := ⟨by rw [← hT, HS_.out, i64w (by omega) (by omega)]; omega⟩
          cases gk with
          | zero => have := HN.out.2.1; omega
          | succ k1 =>
          have hu1 : IntKind.u64.wrap A = A := u64w (by have := HA.out; have := lbz x n; omega) (by have := HA.out; have := lbz x n; omega)
          obtain ⟨U, hU⟩ : ∃ U : Int, IntKind.u64.wrap (A * 2 ^ (b % 32)) = U := ⟨_, rfl⟩
          have HU_ : Aside0 (U = ((lb x n * 2 ^ (b % 32) : Nat) : Int)) := ⟨sup_u HA.out hU⟩
          obtain ⟨V, hV⟩ : ∃ V : Int, bits BinOp.or IntKind.u32 O (U % 4294967296) = V := ⟨_, rfl⟩
          have HV : Aside0 (V = ((lb (x * 2 ^ b) (n + b / 32) : Nat) : Int)) := ⟨sup_v HO_.out HU_.out hV⟩
          have HO5 := Aside0.mk (HO.out.put6x (k := 0) rfl hn6 HS_.out HV.out rfl rfl rfl)
          by_cases e : T < 6
          · have e1 : decide (T < 6) = true := decide_eq_true e
            have p4 := eq_true (show 0 ≤ T from by have := HT_.out; omega)
            have p5 := eq_true e
            have hn7 : n + b / 32 + 1 < 6 := by have := HT_.out; omega
            obtain ⟨f0, f1⟩ := HO5.out.cellZ (v := 0) 0 rfl HT_.out (by refine (o6_get _ _ hn7).trans ?_; rw [if_neg (by omega), HN.out.2.2.2 _ hn7, if_neg (by omega), if_neg (by omega)]; rfl)
            have fr5 := HO5.out.fr 0 rfl T.toNat
            go_wp2
            go_roundg k1
            case measure => omega
            case rel => exact ⟨n + 1, _, _, rfl, ⟨nextI HN.out.1 (by omega), by have := HN.out.2.1; omega, by omega, sup_step HN.out.2.2.2⟩, ⟨HO5.out.put6x (k := 0) rfl hn7 HT_.out (sup_w HU_.out) rfl rfl rfl⟩⟩
          · have e1 : decide (T < 6) = false := decide_eq_false e
            have hn7 : n + b / 32 = 5 := by have h1_ := HT_.out; omega
            go_wp2
            go_roundg k1
            case measure => omega
            case rel => exact ⟨n + 1, _, _, rfl, ⟨nextI HN.out.1 (by omega), by have := HN.out.2.1; omega, by omega, sup_step5 hn7 HN.out.2.2.2⟩, ⟨HO5.out⟩⟩
      · have c1 : decide (i < 6) = false := decide_eq_false c
        have HF := HF6 (by have h1_ := HN.out.1; have h2_ := HN.out.2.2.1; omega)
        rw [HF.out] at HO
        obtain ⟨hc0, hc1, hc2, hc3, hc4, hc5⟩ := cells6_ (show wr.heap[g2]? = some (.cells #[.int .u32 ((lb (x * 2 ^ b) 0 : Nat) : Int), .int .u32 ((lb (x * 2 ^ b) 1 : Nat) : Int), .int .u32 ((lb (x * 2 ^ b) 2 : Nat) : Int), .int .u32 ((lb (x * 2 ^ b) 3 : Nat) : Int), .int .u32 ((lb (x * 2 ^ b) 4 : Nat) : Int), .int .u32 ((lb (x * 2 ^ b) 5 : Nat) : Int)] _ (0, 0)) from HO.out.at 0 rfl)
        clear HF6 c
        go_wp2_with (first | ((with_reducible refine gate_store (t := 126) (p := 4) rfl ?_); refine store_event (t := 126) (p := 4) (v := ?vo_4) (w1 := (World.setCell (World.setCell (World.setCell (World.setCell (World.setCell (World.setCell wr ⟨g1, 0, none⟩ (.int .u32 ((lb (x * 2 ^ b) 0 : Nat) : Int))) ⟨g1, 1, none⟩ (.int .u32 ((lb (x * 2 ^ b) 1 : Nat) : Int))) ⟨g1, 2, none⟩ (.int .u32 ((lb (x * 2 ^ b) 2 : Nat) : Int))) ⟨g1, 3, none⟩ (.int .u32 ((lb (x * 2 ^ b) 3 : Nat) : Int))) ⟨g1, 4, none⟩ (.int .u32 ((lb (x * 2 ^ b) 4 : Nat) : Int))) ⟨g1, 5, none⟩ (.int .u32 ((lb (x * 2 ^ b) 5 : Nat) : Int)))) ?hg ?ho ?hn ?hr ?_; (case ho => rfl); (case hg => rfl); (case hn => rfl); (case hr => (try simp only [Act.put, List.setIfInBounds_toArray, List.set_cons_zero, List.set_cons_succ]); exact run_put6_ rfl (show _ = Value.pointer (some ⟨g1, 0, none⟩) from by rfl) (show _ = Value.agg #[.int .u32 ((lb (x * 2 ^ b) 0 : Nat) : Int), .int .u32 ((lb (x * 2 ^ b) 1 : Nat) : Int), .int .u32 ((lb (x * 2 ^ b) 2 : Nat) : Int), .int .u32 ((lb (x * 2 ^ b) 3 : Nat) : Int), .int .u32 ((lb (x * 2 ^ b) 4 : Nat) : Int), .int .u32 ((lb (x * 2 ^ b) 5 : Nat) : Int)] from by rfl) (HO.out.at 1 rfl) (by kernel_rfl) (by rfl)); intro w8 hw; replace HO := Aside0.mk (HO.out.put6 1 rfl hw rfl); clear hw))
        refine bodyPost_ret (results_ct rfl _ _ g1 126 #[.int .u32 ((lb (x * 2 ^ b) 0 : Nat) : Int), .int .u32 ((lb (x * 2 ^ b) 1 : Nat) : Int), .int .u32 ((lb (x * 2 ^ b) 2 : Nat) : Int), .int .u32 ((lb (x * 2 ^ b) 3 : Nat) : Int), .int .u32 ((lb (x * 2 ^ b) 4 : Nat) : Int), .int .u32 ((lb (x * 2 ^ b) 5 : Nat) : Int)] (0, 0) _ rfl (HO.out.at 1 rfl) Try.underlying126 rfl (by kernel_rfl)) rfl ?_
        exact ⟨by rw [HU.out]; rfl, HO.out.bel⟩
end Go.Proofs.Ytbomadebdekjjaa.Wide
