/- Own text of this session: wide numbers by hand walks. -/
import Derived.Test.YtbomadebdekjjaaWide0
namespace Go.Proofs.Ytbomadebdekjjaa.Wide
open Go.RowKit Go.Proofs.Ytbomadebdekjjaa.MOpen Go.Proofs.YtbomadebdekjjaaW.PrintWords Go.Proofs.YtbomadebdekjjaaW.PrintLast Go.Proofs.YtbomadebdekjjaaW.PrintMore
attribute [local go_sem] max2_int min2_int max_two min_two max_three min_three max_four min_four
set_option linter.unusedVariables false
set_option linter.unusedSimpArgs false
attribute [local go_sem high] eqA111 eqA126
set_option maxHeartbeats 8000000 in
set_option maxRecDepth 100000 in
theorem iTimes (w : World) (x y : Nat) (hx : x < 4294967296 ^ 6) (hy : y < 4294967296 ^ 6) :
    Calls Try.prog 102 #[.agg #[.int .u32 ((lb x 0 : Nat) : Int), .int .u32 ((lb x 1 : Nat) : Int), .int .u32 ((lb x 2 : Nat) : Int), .int .u32 ((lb x 3 : Nat) : Int), .int .u32 ((lb x 4 : Nat) : Int), .int .u32 ((lb x 5 : Nat) : Int)], .agg #[.int .u32 ((lb y 0 : Nat) : Int), .int .u32 ((lb y 1 : Nat) : Int), .int .u32 ((lb y 2 : Nat) : Int), .int .u32 ((lb y 3 : Nat) : Int), .int .u32 ((lb y 4 : Nat) : Int), .int .u32 ((lb y 5 : Nat) : Int)]] w fun e w' => e = .returned (.tuple #[.agg (timA (x * y)), .bool (ovM (x * y))]) ∧ Below w.heap.size w w' := by
  have hu111 := Try.underlying111
  have hu142 := Try.underlying142
  have hu123 := Try.underlying123
  have HX := Aside0.mk hx
  have HY := Aside0.mk hy
  clear hx hy
  have HO := Aside0.mk (OB.start w)
  go_enter Try.func102, Try.ntmps102
  go_wp2_with (first | ((with_reducible refine gate_dst (N := 2) rfl ?_); refine box_event ?hg (N := 2) ?hd (cs := #[.int .u32 ((lb x 0 : Nat) : Int), .int .u32 ((lb x 1 : Nat) : Int), .int .u32 ((lb x 2 : Nat) : Int), .int .u32 ((lb x 3 : Nat) : Int), .int .u32 ((lb x 4 : Nat) : Int), .int .u32 ((lb x 5 : Nat) : Int)]) (t := 111) ?hr ?_; (case hd => rfl); (case hg => rfl); (case hr => first | (go_simp; done) | (go_simp; rfl)); intro g1 hg w1 hbox hb; replace HO := Aside0.mk (HO.out.box hg hbox hb); clear hg hbox hb) | ((with_reducible refine gate_dst (N := 3) rfl ?_); refine box_event ?hg (N := 3) ?hd (cs := #[.int .u32 ((lb y 0 : Nat) : Int), .int .u32 ((lb y 1 : Nat) : Int), .int .u32 ((lb y 2 : Nat) : Int), .int .u32 ((lb y 3 : Nat) : Int), .int .u32 ((lb y 4 : Nat) : Int), .int .u32 ((lb y 5 : Nat) : Int)]) (t := 111) ?hr ?_; (case hd => rfl); (case hg => rfl); (case hr => first | (go_simp; done) | (go_simp; rfl)); intro g2 hg w2 hbox hb; replace HO := Aside0.mk (HO.out.box hg hbox hb); clear hg hbox hb) | ((with_reducible refine gate_dst (N := 4) rfl ?_); refine box_event ?hg (N := 4) ?hd (cs := #[.int .u32 0, .int .u32 0, .int .u32 0, .int .u32 0, .int .u32 0, .int .u32 0]) (t := 111) ?hr ?_; (case hd => rfl); (case hg => rfl); (case hr => first | (go_simp; done) | (go_simp; rfl)); intro g3 hg w3 hbox hb; replace HO := Aside0.mk (HO.out.box hg hbox hb); clear hg hbox hb) | ((with_reducible refine gate_dst (N := 6) rfl ?_); refine box_event ?hg (N := 6) ?hd (cs := #[.int .u32 0, .int .u32 0, .int .u32 0, .int .u32 0, .int .u32 0, .int .u32 0, .int .u32 0, .int .u32 0, .int .u32 0, .int .u32 0, .int .u32 0, .int .u32 0]) (t := 123) ?hr ?_; (case hd => rfl); (case hg => rfl); (case hr => first | (go_simp; done) | (go_simp; rfl)); intro g4 hg w4 hbox hb; replace HO := Aside0.mk (HO.out.box hg hbox hb); clear hg hbox hb; obtain ⟨hc0, hc1, hc2, hc3, hc4, hc5⟩ := cells6_ (HO.out.at 3 rfl)))
  go_loopg [15] 7 (fun kq v15 w' => ∃ (n : Nat) (i : Int) (f : Nat → Nat), v15 = .int .i64 i ∧ Aside0 (i = n ∧ n + kq = 7 ∧ n ≤ 6 ∧ ∀ m, m < 12 → f m = lb (rowX x y n) m) ∧ Aside0 (OB w.heap.size w w' [(g4, o12 f, 123), (g3, #[.int .u32 0, .int .u32 0, .int .u32 0, .int .u32 0, .int .u32 0, .int .u32 0], 111), (g2, A6 y, 111), (g1, A6 x, 111)]))
  case atStart => exact ⟨0, 0, fun _ => 0, rfl, ⟨rfl, rfl, by decide, fun m _ => by unfold rowX; rw [Nat.pow_zero, Nat.mod_one, Nat.zero_mul, lb0]⟩, ⟨HO.out⟩⟩
  case round =>
    clear HO
    obtain ⟨n, i, f, rfl, HN, HO⟩ := hrel
    by_cases c : i < 6
    · have hn : n < 6 := by have := HN.out.1; omega
      have c0 : decide (i < 6) = true := decide_eq_true c
      have p0 := eq_true (show 0 ≤ i from by have := HN.out.1; omega)
      have p1 := eq_true c
      obtain ⟨A, hA⟩ : ∃ A : Int, A = ((lb x n : Nat) : Int) := ⟨_, rfl⟩
      have ix0 : ∀ W, (Instr.index 111 (.agg #[.int .u32 ((lb x 0 : Nat) : Int), .int .u32 ((lb x 1 : Nat) : Int), .int .u32 ((lb x 2 : Nat) : Int), .int .u32 ((lb x 3 : Nat) : Int), .int .u32 ((lb x 4 : Nat) : Int), .int .u32 ((lb x 5 : Nat) : Int)]) (.int .i64 i)).run Try.prog W = .ok (.int .u32 A) W := fun W => idx111 W x HN.out.1 hn hA
      obtain ⟨b0, b1, b2, b3, b4, b5⟩ := cells6_ (show wr.heap[g2]? = some (.cells #[.int .u32 ((lb y 0 : Nat) : Int), .int .u32 ((lb y 1 : Nat) : Int), .int .u32 ((lb y 2 : Nat) : Int), .int .u32 ((lb y 3 : Nat) : Int), .int .u32 ((lb y 4 : Nat) : Int), .int .u32 ((lb y 5 : Nat) : Int)] _ (0, 0)) from HO.out.at 2 rfl)
      have HA := Aside0.mk hA
      clear c hA
      cases gk with
      | zero => have := HN.out.2.1; omega
      | succ k1 =>
      go_wp2
      go_loopg [9, 20] 7 (fun kq v9 v20 w' => ∃ (j : Nat) (C k : Int) (h : Nat → Nat), v9 = .int .u64 C ∧ v20 = .int .i64 k ∧ Aside0 (C = ((cyT (rowX x y n) (lb x n) y n j : Nat) : Int) ∧ k = j ∧ j + kq = 7 ∧ j ≤ 6 ∧ ∀ m, m < 12 → h m = if m < n + j then lb (rowX x y (n + 1)) m else lb (rowX x y n) m) ∧ Aside0 (OB w.heap.size w w' [(g4, o12 h, 123), (g3, #[.int .u32 0, .int .u32 0, .int .u32 0, .int .u32 0, .int .u32 0, .int .u32 0], 111), (g2, A6 y, 111), (g1, A6 x, 111)]))
      case atStart => exact ⟨0, 0, 0, f, rfl, rfl, ⟨by rw [cyT_zero]; rfl, rfl, rfl, by decide, row_start HN.out.2.2.2⟩, ⟨HO.out⟩⟩
      case round =>
        clear HO b0 b1 b2 b3 b4 b5 ix0
        obtain ⟨j, C, k, h, rfl, rfl, HJ, HO⟩ := hrel
        by_cases c : k < 6
        · have hj : j < 6 := by have := HJ.out.2.1; omega
          have c1 : decide (k < 6) = true := decide_eq_true c
          clear c
          obtain ⟨S, hS⟩ : ∃ S : Int, wrap64 (i + k) = S := ⟨_, rfl⟩
          have HS : Aside0 (S = ((n + j : Nat) : Int)) := ⟨by rw [← hS, HN.out.1, HJ.out.2.1, i64w (by omega) (by omega)]; omega⟩
          have p4 := eq_true (show 0 ≤ S from by have := HS.out; omega)
          have p5 := eq_true (show S < 12 from by have := HS.out; omega)
          obtain ⟨Y, hY⟩ : ∃ Y : Int, Y = ((lb y j : Nat) : Int) := ⟨_, rfl⟩
          obtain ⟨Z, hZ⟩ : ∃ Z : Int, Z = (h (n + j) : Int) := ⟨_, rfl⟩
          have ix1 : ∀ W, (Instr.index 111 (.agg #[.int .u32 ((lb y 0 : Nat) : Int), .int .u32 ((lb y 1 : Nat) : Int), .int .u32 ((lb y 2 : Nat) : Int), .int .u32 ((lb y 3 : Nat) : Int), .int .u32 ((lb y 4 : Nat) : Int), .int .u32 ((lb y 5 : Nat) : Int)]) (.int .i64 k)).run Try.prog W = .ok (.int .u32 Y) W := fun W => idx111 W y HJ.out.2.1 hj hY
          obtain ⟨d0, d1⟩ := HO.out.cellZ 0 rfl HS.out (hZ ▸ o12_get h (n + j) (by omega))
          have fr0 := HO.out.fr 0 rfl S.toNat
          have HY_ := Aside0.mk hY
          have HZ := Aside0.mk hZ
          clear hY hZ
          cases gk with
          | zero => have := HJ.out.2.2.1; omega
          | succ k2 =>
          go_wp2
          go_roundg k2
          case measure => omega
          case rel => exact ⟨j + 1, _, _, _, rfl, rfl, ⟨(tim_lc HA.out HY_.out HZ.out HJ.out.1 (by omega) HJ.out.2.2.2.2).2, nextI HJ.out.2.1 (by omega), by have := HJ.out.2.2.1; omega, by omega, row_step HJ.out.2.2.2.2⟩, ⟨HO.out.put12 (by omega) HS.out (tim_lc HA.out HY_.out HZ.out HJ.out.1 (by omega) HJ.out.2.2.2.2).1 rfl rfl⟩⟩
        · have c1 : decide (k < 6) = false := decide_eq_false c
          obtain rfl : j = 6 := by have := HJ.out.2; omega
          obtain ⟨S, hS⟩ : ∃ S : Int, wrap64 (i + 6) = S := ⟨_, rfl⟩
          have HS : Aside0 (S = ((n + 6 : Nat) : Int)) := ⟨addI (k := 6) HN.out.1 (by omega) hS⟩
          have p4 := eq_true (show 0 ≤ S from by have := HS.out; omega)
          have p5 := eq_true (show S < 12 from by have := HS.out; omega)
          have fr0 := HO.out.fr 0 rfl S.toNat
          obtain ⟨d0, d1⟩ := HO.out.cellZ 0 rfl HS.out (o12_get h (n + 6) (by omega))
          go_wp2
          go_roundg k1
          case measure => omega
          case rel => exact ⟨n + 1, _, _, rfl, ⟨nextI HN.out.1 (by omega), by have := HN.out.2.1; omega, by omega, row_end HY.out HJ.out.2.2.2.2⟩, ⟨HO.out.put12 (v := cyT (rowX x y n) (lb x n) y n 6 % 4294967296) (by omega) HS.out (by rw [HJ.out.1]; omega) rfl rfl⟩⟩
    · have c0 : decide (i < 6) = false := decide_eq_false c
      obtain rfl : n = 6 := by have := HN.out; omega
      have HF : Aside0 (∀ m, m < 12 → f m = lb (x * y) m) := ⟨by rw [← rowX_six HX.out]; exact HN.out.2.2.2⟩
      clear HN c
      go_wp2
      go_loopg [55] 7 (fun kq v55 w' => ∃ (n : Nat) (i : Int), v55 = .int .i64 i ∧ Aside0 (i = n ∧ n + kq = 7 ∧ n ≤ 6 ∧ ∀ m, m < n → lb (x * y) (6 + m) = 0) ∧ Aside0 (OB w.heap.size w w' [(g4, o12 f, 123), (g3, #[.int .u32 0, .int .u32 0, .int .u32 0, .int .u32 0, .int .u32 0, .int .u32 0], 111), (g2, A6 y, 111), (g1, A6 x, 111)]))
      case atStart => exact ⟨0, 0, rfl, ⟨rfl, rfl, by decide, fun m hm => absurd hm (by omega)⟩, ⟨HO.out⟩⟩
      case round =>
        clear HO
        obtain ⟨n, i, rfl, HN, HO⟩ := hrel
        by_cases c : i < 6
        · have hn : n < 6 := by have := HN.out.1; omega
          have c1 : decide (i < 6) = true := decide_eq_true c
          have p0 := eq_true (show 0 ≤ i from by have := HN.out.1; omega)
          have p1 := eq_true c
          clear c
          obtain ⟨D, hD⟩ : ∃ D : Int, D = (f (6 + n) : Int) := ⟨_, rfl⟩
          obtain ⟨d0, d1⟩ := HO.out.cellA 0 (o := 6) rfl HN.out.1 (hD ▸ o12_get f (6 + n) (by omega))
          have HD : Aside0 (D = ((lb (x * y) (6 + n) : Nat) : Int)) := ⟨by rw [hD, HF.out _ (by omega)]⟩
          clear hD
          by_cases l : D = 0
          · have l0 : (D == 0) = true := by rw [l]; rfl
            have HL := Aside0.mk l
            clear l
            cases gk with
            | zero => have := HN.out.2.1; omega
            | succ k2 =>
            go_wp2
            go_roundg k2
            case measure => omega
            case rel => exact ⟨n + 1, _, rfl, ⟨nextI HN.out.1 (by omega), by have := HN.out.2.1; omega, by omega, fun m hm => by have h1_ := HN.out.2.2.2 m; have h2_ := HD.out; have h3_ := HL.out; by_cases e : m < n; exact h1_ e; obtain rfl : m = n := (by omega); omega⟩, HO⟩
          · have l0 : (D == 0) = false := by simpa using l
            have HL := Aside0.mk (prod_over (P := x * y) hn (by have h2_ := HD.out; intro h_; exact l (by rw [h2_, h_]; rfl)))
            clear l
            go_wp2_with (first | ((with_reducible refine gate_store (t := 111) (p := 4) rfl ?_); refine store_event (t := 111) (p := 4) (v := ?vo_1) (w1 := (World.setCell (World.setCell (World.setCell (World.setCell (World.setCell (World.setCell wr ⟨g3, 0, none⟩ (.int .u32 0)) ⟨g3, 1, none⟩ (.int .u32 0)) ⟨g3, 2, none⟩ (.int .u32 0)) ⟨g3, 3, none⟩ (.int .u32 0)) ⟨g3, 4, none⟩ (.int .u32 0)) ⟨g3, 5, none⟩ (.int .u32 0))) ?hg ?ho ?hn ?hr ?_; (case ho => rfl); (case hg => rfl); (case hn => rfl); (case hr => (try simp only [Act.put, List.setIfInBounds_toArray, List.set_cons_zero, List.set_cons_succ]); exact run_put6_ rfl (show _ = Value.pointer (some ⟨g3, 0, none⟩) from by rfl) (show _ = Value.agg #[.int .u32 0, .int .u32 0, .int .u32 0, .int .u32 0, .int .u32 0, .int .u32 0] from by rfl) (HO.out.at 1 rfl) (by kernel_rfl) (by rfl)); intro w8 hw; replace HO := Aside0.mk (HO.out.put6 1 rfl hw rfl); clear hw))
            refine bodyPost_ret (results_ct rfl _ _ g3 111 #[.int .u32 0, .int .u32 0, .int .u32 0, .int .u32 0, .int .u32 0, .int .u32 0] (0, 0) _ rfl (HO.out.at 1 rfl) Try.underlying111 rfl (by kernel_rfl)) rfl ?_
            exact ⟨by rw [(timA_neg HL.out).1, (timA_neg HL.out).2]; rfl, HO.out.bel⟩
        · have c1 : decide (i < 6) = false := decide_eq_false c
          obtain rfl : n = 6 := by have := HN.out; omega
          have HP := Aside0.mk (prod_fits (prod_lt HX.out HY.out) HN.out.2.2.2)
          have k0 : wr.cell? ⟨g4, 0, none⟩ = some (.int .u32 ((lb (x * y) 0 : Nat) : Int)) := by rw [← HF.out 0 (by decide)]; exact HO.out.cell 0 rfl 0 rfl
          have k1 : wr.cell? ⟨g4, 1, none⟩ = some (.int .u32 ((lb (x * y) 1 : Nat) : Int)) := by rw [← HF.out 1 (by decide)]; exact HO.out.cell 0 rfl 1 rfl
          have k2 : wr.cell? ⟨g4, 2, none⟩ = some (.int .u32 ((lb (x * y) 2 : Nat) : Int)) := by rw [← HF.out 2 (by decide)]; exact HO.out.cell 0 rfl 2 rfl
          have k3 : wr.cell? ⟨g4, 3, none⟩ = some (.int .u32 ((lb (x * y) 3 : Nat) : Int)) := by rw [← HF.out 3 (by decide)]; exact HO.out.cell 0 rfl 3 rfl
          have k4 : wr.cell? ⟨g4, 4, none⟩ = some (.int .u32 ((lb (x * y) 4 : Nat) : Int)) := by rw [← HF.out 4 (by decide)]; exact HO.out.cell 0 rfl 4 rfl
          have k5 : wr.cell? ⟨g4, 5, none⟩ = some (.int .u32 ((lb (x * y) 5 : Nat) : Int)) := by rw [← HF.out 5 (by decide)]; exact HO.out.cell 0 rfl 5 rfl
          have ar := fun W => arr111 W g4
          go_wp2_with (first | ((with_reducible refine gate_store (t := 111) (p := 4) rfl ?_); refine store_event (t := 111) (p := 4) (v := ?vo_2) (w1 := (World.setCell (World.setCell (World.setCell (World.setCell (World.setCell (World.setCell wr ⟨g3, 0, none⟩ (.int .u32 ((lb (x * y) 0 : Nat) : Int))) ⟨g3, 1, none⟩ (.int .u32 ((lb (x * y) 1 : Nat) : Int))) ⟨g3, 2, none⟩ (.int .u32 ((lb (x * y) 2 : Nat) : Int))) ⟨g3, 3, none⟩ (.int .u32 ((lb (x * y) 3 : Nat) : Int))) ⟨g3, 4, none⟩ (.int .u32 ((lb (x * y) 4 : Nat) : Int))) ⟨g3, 5, none⟩ (.int .u32 ((lb (x * y) 5 : Nat) : Int)))) ?hg ?ho ?hn ?hr ?_; (case ho => rfl); (case hg => rfl); (case hn => rfl); (case hr => (try simp only [Act.put, List.setIfInBounds_toArray, List.set_cons_zero, List.set_cons_succ]); exact run_put6_ rfl (show _ = Value.pointer (some ⟨g3, 0, none⟩) from by rfl) (show _ = Value.agg #[.int .u32 ((lb (x * y) 0 : Nat) : Int), .int .u32 ((lb (x * y) 1 : Nat) : Int), .int .u32 ((lb (x * y) 2 : Nat) : Int), .int .u32 ((lb (x * y) 3 : Nat) : Int), .int .u32 ((lb (x * y) 4 : Nat) : Int), .int .u32 ((lb (x * y) 5 : Nat) : Int)] from by rfl) (HO.out.at 1 rfl) (by kernel_rfl) (by rfl)); intro w8 hw; replace HO := Aside0.mk (HO.out.put6 1 rfl hw rfl); clear hw))
          refine bodyPost_ret (results_ct rfl _ _ g3 111 #[.int .u32 ((lb (x * y) 0 : Nat) : Int), .int .u32 ((lb (x * y) 1 : Nat) : Int), .int .u32 ((lb (x * y) 2 : Nat) : Int), .int .u32 ((lb (x * y) 3 : Nat) : Int), .int .u32 ((lb (x * y) 4 : Nat) : Int), .int .u32 ((lb (x * y) 5 : Nat) : Int)] (0, 0) _ rfl (HO.out.at 1 rfl) Try.underlying111 rfl (by kernel_rfl)) rfl ?_
          exact ⟨by rw [(timA_pos HP.out).1, (timA_pos HP.out).2]; rfl, HO.out.bel⟩
end Go.Proofs.Ytbomadebdekjjaa.Wide
