/- Own text of this session: wide numbers by hand walks. -/
import Derived.Test.YtbomadebdekjjaaWide0
namespace Go.Proofs.Ytbomadebdekjjaa.Wide
open Go.RowKit Go.Proofs.Ytbomadebdekjjaa.MOpen Go.Proofs.YtbomadebdekjjaaW.PrintWords Go.Proofs.YtbomadebdekjjaaW.PrintLast Go.Proofs.YtbomadebdekjjaaW.PrintMore
attribute [local go_sem] max2_int min2_int max_two min_two max_three min_three max_four min_four
set_option linter.unusedVariables false
set_option linter.unusedSimpArgs false
attribute [local go_sem high] eqA111 eqA126
set_option maxHeartbeats 8000000 in
set_option maxRecDepth 100000 in
theorem iPlus (w : World) (x y : Nat) :
    Calls Try.prog 117 #[.agg #[.int .u32 ((lb x 0 : Nat) : Int), .int .u32 ((lb x 1 : Nat) : Int), .int .u32 ((lb x 2 : Nat) : Int), .int .u32 ((lb x 3 : Nat) : Int), .int .u32 ((lb x 4 : Nat) : Int), .int .u32 ((lb x 5 : Nat) : Int)], .agg #[.int .u32 ((lb y 0 : Nat) : Int), .int .u32 ((lb y 1 : Nat) : Int), .int .u32 ((lb y 2 : Nat) : Int), .int .u32 ((lb y 3 : Nat) : Int), .int .u32 ((lb y 4 : Nat) : Int), .int .u32 ((lb y 5 : Nat) : Int)]] w fun e w' => e = .returned (.tuple #[.agg (A6 (x + y)), .bool (!(okP x y))]) ∧ Below w.heap.size w w' := by
  have HO := Aside0.mk (OB.start w)
  go_enter Try.func117, Try.ntmps117
  have hu111 := Try.underlying111
  go_wp2_with (first | ((with_reducible refine gate_dst (N := 2) rfl ?_); refine box_event ?hg (N := 2) ?hd (cs := #[.int .u32 ((lb x 0 : Nat) : Int), .int .u32 ((lb x 1 : Nat) : Int), .int .u32 ((lb x 2 : Nat) : Int), .int .u32 ((lb x 3 : Nat) : Int), .int .u32 ((lb x 4 : Nat) : Int), .int .u32 ((lb x 5 : Nat) : Int)]) (t := 111) ?hr ?_; (case hd => rfl); (case hg => rfl); (case hr => first | (go_simp; done) | (go_simp; rfl)); intro g1 hg w1 hbox hb; replace HO := Aside0.mk (HO.out.box hg hbox hb); clear hg hbox hb) | ((with_reducible refine gate_dst (N := 3) rfl ?_); refine box_event ?hg (N := 3) ?hd (cs := #[.int .u32 ((lb y 0 : Nat) : Int), .int .u32 ((lb y 1 : Nat) : Int), .int .u32 ((lb y 2 : Nat) : Int), .int .u32 ((lb y 3 : Nat) : Int), .int .u32 ((lb y 4 : Nat) : Int), .int .u32 ((lb y 5 : Nat) : Int)]) (t := 111) ?hr ?_; (case hd => rfl); (case hg => rfl); (case hr => first | (go_simp; done) | (go_simp; rfl)); intro g2 hg w2 hbox hb; replace HO := Aside0.mk (HO.out.box hg hbox hb); clear hg hbox hb) | ((with_reducible refine gate_dst (N := 4) rfl ?_); refine box_event ?hg (N := 4) ?hd (cs := #[.int .u32 0, .int .u32 0, .int .u32 0, .int .u32 0, .int .u32 0, .int .u32 0]) (t := 111) ?hr ?_; (case hd => rfl); (case hg => rfl); (case hr => first | (go_simp; done) | (go_simp; rfl)); intro g3 hg w3 hbox hb; replace HO := Aside0.mk (HO.out.box hg hbox hb); clear hg hbox hb))
  go_loopg [6, 8] 7 (fun kq v6 v8 w' => ∃ (n : Nat) (C i : Int) (h : Nat → Nat), v6 = .int .u64 C ∧ v8 = .int .i64 i ∧ Aside0 (C = ((cyP x y n : Nat) : Int) ∧ i = n ∧ n + kq = 7 ∧ n ≤ 6 ∧ ∀ m, m < 6 → h m = if m < n then lb (x + y) m else lb x m) ∧ Aside0 (OB w.heap.size w w' [(g3, #[.int .u32 0, .int .u32 0, .int .u32 0, .int .u32 0, .int .u32 0, .int .u32 0], 111), (g2, A6 y, 111), (g1, o6 h, 111)]))
  case atStart => exact ⟨0, 0, 0, lb x, rfl, rfl, ⟨by rw [cyP_zero]; rfl, rfl, rfl, by decide, fun m _ => by rw [if_neg (by omega)]⟩, ⟨HO.out⟩⟩
  case round =>
    clear HO
    obtain ⟨n, C, i, h, rfl, rfl, HN, HO⟩ := hrel
    by_cases c : i < 6
    · have hn : n < 6 := by have := HN.out.2.1; omega
      have c0 : decide (i < 6) = true := decide_eq_true c
      have p0 := eq_true (show 0 ≤ i from by have := HN.out.2.1; omega)
      have p1 := eq_true c
      obtain ⟨X, hX⟩ : ∃ X : Int, X = (h n : Int) := ⟨_, rfl⟩
      obtain ⟨Y, hY⟩ : ∃ Y : Int, Y = ((lb y n : Nat) : Int) := ⟨_, rfl⟩
      obtain ⟨a0, a1⟩ := HO.out.cellZ 2 rfl HN.out.2.1 (hX ▸ o6_get h n hn)
      obtain ⟨b0, b1⟩ := HO.out.cellZ 1 rfl HN.out.2.1 (hY ▸ A6_get y n hn)
      have fr0 := HO.out.fr 2 rfl i.toNat
      have HX : Aside0 (X = ((lb x n : Nat) : Int)) := ⟨by rw [hX, mix_at HN.out.2.2.2.2 hn]⟩
      have HY := Aside0.mk hY
      clear hX hY c
      cases gk with
      | zero => have := HN.out.2.2.1; omega
      | succ k1 =>
      go_wp2
      go_quiet (fail)
      go_wp2
      go_roundg k1
      case measure => omega
      case rel => exact ⟨n + 1, _, _, _, rfl, rfl, ⟨(iplus_v HX.out HY.out HN.out.1).2, nextI HN.out.2.1 (by omega), by have := HN.out.2.2.1; omega, by omega, mix_step HN.out.2.2.2.2⟩, ⟨(HO.out.drewN nq).put6x (k := 2) rfl hn HN.out.2.1 (iplus_v HX.out HY.out HN.out.1).1 rfl rfl rfl⟩⟩
    · have c0 : decide (i < 6) = false := decide_eq_false c
      obtain rfl : n = 6 := by have := HN.out.2; omega
      have HA : Aside0 (o6 h = A6 (x + y)) := ⟨o6_A6 (mix_all HN.out.2.2.2.2)⟩
      rw [HA.out] at HO
      obtain ⟨hc0, hc1, hc2, hc3, hc4, hc5⟩ := cells6_ (show wr.heap[g1]? = some (.cells #[.int .u32 ((lb (x + y) 0 : Nat) : Int), .int .u32 ((lb (x + y) 1 : Nat) : Int), .int .u32 ((lb (x + y) 2 : Nat) : Int), .int .u32 ((lb (x + y) 3 : Nat) : Int), .int .u32 ((lb (x + y) 4 : Nat) : Int), .int .u32 ((lb (x + y) 5 : Nat) : Int)] _ (0, 0)) from HO.out.at 2 rfl)
      go_wp2_with (first | ((with_reducible refine gate_store (t := 111) (p := 4) rfl ?_); refine store_event (t := 111) (p := 4) (v := ?vo_1) (w1 := (World.setCell (World.setCell (World.setCell (World.setCell (World.setCell (World.setCell wr ⟨g3, 0, none⟩ (.int .u32 ((lb (x + y) 0 : Nat) : Int))) ⟨g3, 1, none⟩ (.int .u32 ((lb (x + y) 1 : Nat) : Int))) ⟨g3, 2, none⟩ (.int .u32 ((lb (x + y) 2 : Nat) : Int))) ⟨g3, 3, none⟩ (.int .u32 ((lb (x + y) 3 : Nat) : Int))) ⟨g3, 4, none⟩ (.int .u32 ((lb (x + y) 4 : Nat) : Int))) ⟨g3, 5, none⟩ (.int .u32 ((lb (x + y) 5 : Nat) : Int)))) ?hg ?ho ?hn ?hr ?_; (case ho => rfl); (case hg => rfl); (case hn => rfl); (case hr => (try simp only [Act.put, List.setIfInBounds_toArray, List.set_cons_zero, List.set_cons_succ]); exact run_put6_ rfl (show _ = Value.pointer (some ⟨g3, 0, none⟩) from by rfl) (show _ = Value.agg #[.int .u32 ((lb (x + y) 0 : Nat) : Int), .int .u32 ((lb (x + y) 1 : Nat) : Int), .int .u32 ((lb (x + y) 2 : Nat) : Int), .int .u32 ((lb (x + y) 3 : Nat) : Int), .int .u32 ((lb (x + y) 4 : Nat) : Int), .int .u32 ((lb (x + y) 5 : Nat) : Int)] from by rfl) (HO.out.at 0 rfl) (by kernel_rfl) (by rfl)); intro w5 hw; replace HO := Aside0.mk (HO.out.put6 0 rfl hw rfl); clear hw))
      refine bodyPost_ret (results_ct rfl _ _ g3 111 #[.int .u32 ((lb (x + y) 0 : Nat) : Int), .int .u32 ((lb (x + y) 1 : Nat) : Int), .int .u32 ((lb (x + y) 2 : Nat) : Int), .int .u32 ((lb (x + y) 3 : Nat) : Int), .int .u32 ((lb (x + y) 4 : Nat) : Int), .int .u32 ((lb (x + y) 5 : Nat) : Int)] (0, 0) _ rfl (HO.out.at 0 rfl) Try.underlying111 rfl (by kernel_rfl)) rfl ?_
      exact ⟨congrArg (fun z => Ending.returned (.tuple #[.agg (A6 (x + y)), .bool (!z)])) (okP_eq HN.out.1), HO.out.bel⟩
set_option maxHeartbeats 8000000 in
set_option maxRecDepth 100000 in
theorem iMinus (w : World) (x y : Nat) (hk : y ≤ x) :
    Calls Try.prog 119 #[.agg #[.int .u32 ((lb x 0 : Nat) : Int), .int .u32 ((lb x 1 : Nat) : Int), .int .u32 ((lb x 2 : Nat) : Int), .int .u32 ((lb x 3 : Nat) : Int), .int .u32 ((lb x 4 : Nat) : Int), .int .u32 ((lb x 5 : Nat) : Int)], .agg #[.int .u32 ((lb y 0 : Nat) : Int), .int .u32 ((lb y 1 : Nat) : Int), .int .u32 ((lb y 2 : Nat) : Int), .int .u32 ((lb y 3 : Nat) : Int), .int .u32 ((lb y 4 : Nat) : Int), .int .u32 ((lb y 5 : Nat) : Int)]] w fun e w' => e = .returned (.agg (A6 (x - y))) ∧ Below w.heap.size w w' := by
  have HK := Aside0.mk hk
  clear hk
  have HO := Aside0.mk (OB.start w)
  go_enter Try.func119, Try.ntmps119
  have hu111 := Try.underlying111
  go_wp2_with (first | ((with_reducible refine gate_dst (N := 2) rfl ?_); refine box_event ?hg (N := 2) ?hd (cs := #[.int .u32 ((lb x 0 : Nat) : Int), .int .u32 ((lb x 1 : Nat) : Int), .int .u32 ((lb x 2 : Nat) : Int), .int .u32 ((lb x 3 : Nat) : Int), .int .u32 ((lb x 4 : Nat) : Int), .int .u32 ((lb x 5 : Nat) : Int)]) (t := 111) ?hr ?_; (case hd => rfl); (case hg => rfl); (case hr => first | (go_simp; done) | (go_simp; rfl)); intro g1 hg w1 hbox hb; replace HO := Aside0.mk (HO.out.box hg hbox hb); clear hg hbox hb) | ((with_reducible refine gate_dst (N := 3) rfl ?_); refine box_event ?hg (N := 3) ?hd (cs := #[.int .u32 ((lb y 0 : Nat) : Int), .int .u32 ((lb y 1 : Nat) : Int), .int .u32 ((lb y 2 : Nat) : Int), .int .u32 ((lb y 3 : Nat) : Int), .int .u32 ((lb y 4 : Nat) : Int), .int .u32 ((lb y 5 : Nat) : Int)]) (t := 111) ?hr ?_; (case hd => rfl); (case hg => rfl); (case hr => first | (go_simp; done) | (go_simp; rfl)); intro g2 hg w2 hbox hb; replace HO := Aside0.mk (HO.out.box hg hbox hb); clear hg hbox hb) | ((with_reducible refine gate_dst (N := 4) rfl ?_); refine box_event ?hg (N := 4) ?hd (cs := #[.int .u32 0, .int .u32 0, .int .u32 0, .int .u32 0, .int .u32 0, .int .u32 0]) (t := 111) ?hr ?_; (case hd => rfl); (case hg => rfl); (case hr => first | (go_simp; done) | (go_simp; rfl)); intro g3 hg w3 hbox hb; replace HO := Aside0.mk (HO.out.box hg hbox hb); clear hg hbox hb))
  go_loopg [5, 8] 7 (fun kq v5 v8 w' => ∃ (n : Nat) (C i : Int) (h : Nat → Nat), v5 = .int .u64 C ∧ v8 = .int .i64 i ∧ Aside0 (C = ((bwM x y n : Nat) : Int) ∧ i = n ∧ n + kq = 7 ∧ n ≤ 6 ∧ ∀ m, m < 6 → h m = if m < n then lb (x - y) m else lb x m) ∧ Aside0 (OB w.heap.size w w' [(g3, #[.int .u32 0, .int .u32 0, .int .u32 0, .int .u32 0, .int .u32 0, .int .u32 0], 111), (g2, A6 y, 111), (g1, o6 h, 111)]))
  case atStart => exact ⟨0, 0, 0, lb x, rfl, rfl, ⟨by rw [bwM_zero]; rfl, rfl, rfl, by decide, fun m _ => by rw [if_neg (by omega)]⟩, ⟨HO.out⟩⟩
  case round =>
    clear HO
    obtain ⟨n, C, i, h, rfl, rfl, HN, HO⟩ := hrel
    by_cases c : i < 6
    · have hn : n < 6 := by have := HN.out.2.1; omega
      have c0 : decide (i < 6) = true := decide_eq_true c
      have p0 := eq_true (show 0 ≤ i from by have := HN.out.2.1; omega)
      have p1 := eq_true c
      obtain ⟨X, hX⟩ : ∃ X : Int, X = (h n : Int) := ⟨_, rfl⟩
      obtain ⟨Y, hY⟩ : ∃ Y : Int, Y = ((lb y n : Nat) : Int) := ⟨_, rfl⟩
      obtain ⟨a0, a1⟩ := HO.out.cellZ 2 rfl HN.out.2.1 (hX ▸ o6_get h n hn)
      obtain ⟨b0, b1⟩ := HO.out.cellZ 1 rfl HN.out.2.1 (hY ▸ A6_get y n hn)
      have fr0 := HO.out.fr 2 rfl i.toNat
      have HX : Aside0 (X = ((lb x n : Nat) : Int)) := ⟨by rw [hX, mix_at HN.out.2.2.2.2 hn]⟩
      have HY := Aside0.mk hY
      clear hX hY c
      cases gk with
      | zero => have := HN.out.2.2.1; omega
      | succ k1 =>
      go_wp2
      go_quiet (fail)
      go_wp2
      go_roundg k1
      case measure => omega
      case rel => exact ⟨n + 1, _, _, _, rfl, rfl, ⟨(imin_v HK.out HX.out HY.out HN.out.1).2, nextI HN.out.2.1 (by omega), by have := HN.out.2.2.1; omega, by omega, mix_step HN.out.2.2.2.2⟩, ⟨(HO.out.drewN nq).put6x (k := 2) rfl hn HN.out.2.1 (imin_v HK.out HX.out HY.out HN.out.1).1 rfl rfl rfl⟩⟩
    · have c0 : decide (i < 6) = false := decide_eq_false c
      obtain rfl : n = 6 := by have := HN.out.2; omega
      have HA : Aside0 (o6 h = A6 (x - y)) := ⟨o6_A6 (mix_all HN.out.2.2.2.2)⟩
      rw [HA.out] at HO
      obtain ⟨hc0, hc1, hc2, hc3, hc4, hc5⟩ := cells6_ (show wr.heap[g1]? = some (.cells #[.int .u32 ((lb (x - y) 0 : Nat) : Int), .int .u32 ((lb (x - y) 1 : Nat) : Int), .int .u32 ((lb (x - y) 2 : Nat) : Int), .int .u32 ((lb (x - y) 3 : Nat) : Int), .int .u32 ((lb (x - y) 4 : Nat) : Int), .int .u32 ((lb (x - y) 5 : Nat) : Int)] _ (0, 0)) from HO.out.at 2 rfl)
      go_wp2_with (first | ((with_reducible refine gate_store (t := 111) (p := 4) rfl ?_); refine store_event (t := 111) (p := 4) (v := ?vo_2) (w1 := (World.setCell (World.setCell (World.setCell (World.setCell (World.setCell (World.setCell wr ⟨g3, 0, none⟩ (.int .u32 ((lb (x - y) 0 : Nat) : Int))) ⟨g3, 1, none⟩ (.int .u32 ((lb (x - y) 1 : Nat) : Int))) ⟨g3, 2, none⟩ (.int .u32 ((lb (x - y) 2 : Nat) : Int))) ⟨g3, 3, none⟩ (.int .u32 ((lb (x - y) 3 : Nat) : Int))) ⟨g3, 4, none⟩ (.int .u32 ((lb (x - y) 4 : Nat) : Int))) ⟨g3, 5, none⟩ (.int .u32 ((lb (x - y) 5 : Nat) : Int)))) ?hg ?ho ?hn ?hr ?_; (case ho => rfl); (case hg => rfl); (case hn => rfl); (case hr => (try simp only [Act.put, List.setIfInBounds_toArray, List.set_cons_zero, List.set_cons_succ]); exact run_put6_ rfl (show _ = Value.pointer (some ⟨g3, 0, none⟩) from by rfl) (show _ = Value.agg #[.int .u32 ((lb (x - y) 0 : Nat) : Int), .int .u32 ((lb (x - y) 1 : Nat) : Int), .int .u32 ((lb (x - y) 2 : Nat) : Int), .int .u32 ((lb (x - y) 3 : Nat) : Int), .int .u32 ((lb (x - y) 4 : Nat) : Int), .int .u32 ((lb (x - y) 5 : Nat) : Int)] from by rfl) (HO.out.at 0 rfl) (by kernel_rfl) (by rfl)); intro w5 hw; replace HO := Aside0.mk (HO.out.put6 0 rfl hw rfl); clear hw))
      refine bodyPost_ret (results_cell_row rfl _ _ g3 111 #[.int .u32 ((lb (x - y) 0 : Nat) : Int), .int .u32 ((lb (x - y) 1 : Nat) : Int), .int .u32 ((lb (x - y) 2 : Nat) : Int), .int .u32 ((lb (x - y) 3 : Nat) : Int), .int .u32 ((lb (x - y) 4 : Nat) : Int), .int .u32 ((lb (x - y) 5 : Nat) : Int)] (0, 0) _ rfl (HO.out.at 0 rfl) Try.underlying111 rfl (by kernel_rfl)) rfl ?_
      exact ⟨rfl, HO.out.bel⟩
set_option maxHeartbeats 8000000 in
set_option maxRecDepth 100000 in
theorem iCmp (w : World) (x y : Nat) (hx : x < 4294967296 ^ 6) (hy : y < 4294967296 ^ 6) :
    Calls Try.prog 118 #[.agg #[.int .u32 ((lb x 0 : Nat) : Int), .int .u32 ((lb x 1 : Nat) : Int), .int .u32 ((lb x 2 : Nat) : Int), .int .u32 ((lb x 3 : Nat) : Int), .int .u32 ((lb x 4 : Nat) : Int), .int .u32 ((lb x 5 : Nat) : Int)], .agg #[.int .u32 ((lb y 0 : Nat) : Int), .int .u32 ((lb y 1 : Nat) : Int), .int .u32 ((lb y 2 : Nat) : Int), .int .u32 ((lb y 3 : Nat) : Int), .int .u32 ((lb y 4 : Nat) : Int), .int .u32 ((lb y 5 : Nat) : Int)]] w fun e w' => e = .returned (.int .i64 (cmpN x y)) ∧ Below w.heap.size w w' := by
  have HX := Aside0.mk hx
  have HY := Aside0.mk hy
  clear hx hy
  have HO := Aside0.mk (OB.start w)
  go_enter Try.func118, Try.ntmps118
  have hu111 := Try.underlying111
  go_wp2_with (first | ((with_reducible refine gate_dst (N := 2) rfl ?_); refine box_event ?hg (N := 2) ?hd (cs := #[.int .u32 ((lb x 0 : Nat) : Int), .int .u32 ((lb x 1 : Nat) : Int), .int .u32 ((lb x 2 : Nat) : Int), .int .u32 ((lb x 3 : Nat) : Int), .int .u32 ((lb x 4 : Nat) : Int), .int .u32 ((lb x 5 : Nat) : Int)]) (t := 111) ?hr ?_; (case hd => rfl); (case hg => rfl); (case hr => first | (go_simp; done) | (go_simp; rfl)); intro g1 hg w1 hbox hb; replace HO := Aside0.mk (HO.out.box hg hbox hb); clear hg hbox hb) | ((with_reducible refine gate_dst (N := 3) rfl ?_); refine box_event ?hg (N := 3) ?hd (cs := #[.int .u32 ((lb y 0 : Nat) : Int), .int .u32 ((lb y 1 : Nat) : Int), .int .u32 ((lb y 2 : Nat) : Int), .int .u32 ((lb y 3 : Nat) : Int), .int .u32 ((lb y 4 : Nat) : Int), .int .u32 ((lb y 5 : Nat) : Int)]) (t := 111) ?hr ?_; (case hd => rfl); (case hg => rfl); (case hr => first | (go_simp; done) | (go_simp; rfl)); intro g2 hg w2 hbox hb; replace HO := Aside0.mk (HO.out.box hg hbox hb); clear hg hbox hb))
  go_loopg [5] 7 (fun kq v5 w' => ∃ (n : Nat) (i : Int), v5 = .int .i64 i ∧ Aside0 (i = (n : Int) - 1 ∧ n + 1 = kq ∧ n ≤ 6 ∧ x / 4294967296 ^ n = y / 4294967296 ^ n) ∧ Aside0 (OB w.heap.size w w' [(g2, A6 y, 111), (g1, A6 x, 111)]))
  case atStart => exact ⟨6, 5, rfl, ⟨rfl, rfl, by decide, by rw [top_six HX.out, top_six HY.out]⟩, ⟨HO.out⟩⟩
  case round =>
    clear HO HX HY
    obtain ⟨n, i, rfl, HN, HO⟩ := hrel
    by_cases c : 0 ≤ i
    · obtain ⟨m, rfl⟩ : ∃ m, n = m + 1 := ⟨n - 1, by have := HN.out.1; omega⟩
      have hm : m < 6 := by have := HN.out.2.2.1; omega
      have HI : Aside0 (i = (m : Int)) := ⟨by have := HN.out.1; omega⟩
      have c0 : decide (0 ≤ i) = true := decide_eq_true c
      have p0 := eq_true c
      have p1 := eq_true (show i < 6 from by have := HI.out; omega)
      clear c
      obtain ⟨X, hX⟩ : ∃ X : Int, X = ((lb x m : Nat) : Int) := ⟨_, rfl⟩
      obtain ⟨Y, hY⟩ : ∃ Y : Int, Y = ((lb y m : Nat) : Int) := ⟨_, rfl⟩
      obtain ⟨a0, a1⟩ := HO.out.cellZ 1 rfl HI.out (hX ▸ A6_get x m hm)
      obtain ⟨b0, b1⟩ := HO.out.cellZ 0 rfl HI.out (hY ▸ A6_get y m hm)
      have HX := Aside0.mk hX
      have HY := Aside0.mk hY
      clear hX hY
      by_cases l : X = Y
      · have l0 : (X == Y) = true := by rw [l]; exact beq_self_eq_true _
        have HL := Aside0.mk l
        clear l
        go_wp2
        go_quiet (fail)
        go_wp2
        cases gk with
        | zero => have := HN.out.2.1; omega
        | succ k1 =>
        go_roundg k1
        case measure => omega
        case rel => exact ⟨m, _, rfl, ⟨prevI HI.out (by omega), by have := HN.out.2.1; omega, by omega, top_eq HN.out.2.2.2 (by have h1_ := HX.out; have h2_ := HY.out; have h3_ := HL.out; omega)⟩, ⟨HO.out.drewN nq⟩⟩
      · have l0 : (X == Y) = false := by simpa using l
        have HL := Aside0.mk l
        clear l
        by_cases l2 : X < Y
        · have l3 : decide (X < Y) = true := decide_eq_true l2
          go_wp2
          go_quiet (fail)
          go_wp2
          go_quiet (fail)
          go_wp2
          go_ret
          exact ⟨congrArg (fun z => Ending.returned (.int .i64 z)) (cmp_lt HN.out.2.2.2 HX.out HY.out l2).symm, by repeat (first | exact HO.out.bel | apply pw_below_drewN)⟩
        · have l3 : decide (X < Y) = false := decide_eq_false l2
          have HL2 := Aside0.mk l2
          go_wp2
          go_quiet (fail)
          go_wp2
          go_quiet (fail)
          go_wp2
          go_ret
          exact ⟨congrArg (fun z => Ending.returned (.int .i64 z)) (cmp_gt HN.out.2.2.2 HX.out HY.out (by have h1_ := HL.out; have h2_ := HL2.out; omega)).symm, by repeat (first | exact HO.out.bel | apply pw_below_drewN)⟩
    · obtain rfl : n = 0 := by have := HN.out.1; omega
      have c0 : decide (0 ≤ i) = false := decide_eq_false c
      go_wp2
      go_ret
      exact ⟨congrArg (fun z => Ending.returned (.int .i64 z)) (cmp_eq HN.out.2.2.2).symm, HO.out.bel⟩
set_option maxHeartbeats 8000000 in
set_option maxRecDepth 100000 in
theorem iWideF (w : World) (x : Nat) (hx : x < 4294967296 ^ 6) :
    Calls Try.prog 116 #[.bool false, .agg (A6 x)] w fun e w' => e = .returned (.agg (W7 false x)) ∧ Below w.heap.size w w' := by
  unfold A6
  have hu111 := Try.underlying111
  have HX := Aside0.mk hx
  clear hx
  have HO := Aside0.mk (OB.start w)
  go_enter Try.func116, Try.ntmps116
  go_wp2_with (first | ((with_reducible refine gate_dst (N := 3) rfl ?_); refine box_event ?hg (N := 3) ?hd (cs := #[.int .u32 ((lb x 0 : Nat) : Int), .int .u32 ((lb x 1 : Nat) : Int), .int .u32 ((lb x 2 : Nat) : Int), .int .u32 ((lb x 3 : Nat) : Int), .int .u32 ((lb x 4 : Nat) : Int), .int .u32 ((lb x 5 : Nat) : Int)]) (t := 111) ?hr ?_; (case hd => rfl); (case hg => rfl); (case hr => first | (go_simp; done) | (go_simp; rfl)); intro g1 hg w1 hbox hb; replace HO := Aside0.mk (HO.out.box hg hbox hb); clear hg hbox hb) | ((with_reducible refine gate_dst (N := 4) rfl ?_); refine box_event ?hg (N := 4) ?hd (cs := #[.bool false, .int .u32 0, .int .u32 0, .int .u32 0, .int .u32 0, .int .u32 0, .int .u32 0]) (t := 25) ?hr ?_; (case hd => rfl); (case hg => rfl); (case hr => first | (go_simp; done) | (go_simp; rfl)); intro g2 hg w2 hbox hb; replace HO := Aside0.mk (HO.out.box hg hbox hb); clear hg hbox hb))
  replace HO := Aside0.mk HO.out.drew
  refine start_ (n := 9) (S := fun w' => w'.cell? ⟨g1, 0, none⟩ = some (.int .u32 ((lb x 0 : Nat) : Int)) ∧ w'.cell? ⟨g1, 1, none⟩ = some (.int .u32 ((lb x 1 : Nat) : Int)) ∧ w'.cell? ⟨g1, 2, none⟩ = some (.int .u32 ((lb x 2 : Nat) : Int)) ∧ w'.cell? ⟨g1, 3, none⟩ = some (.int .u32 ((lb x 3 : Nat) : Int)) ∧ w'.cell? ⟨g1, 4, none⟩ = some (.int .u32 ((lb x 4 : Nat) : Int)) ∧ w'.cell? ⟨g1, 5, none⟩ = some (.int .u32 ((lb x 5 : Nat) : Int))) (ds := [8]) #[false, false, false, false, false, false, false, false, false] (by kernel_rfl) rfl rfl ⟨HO.out.cell 1 rfl 0 rfl, HO.out.cell 1 rfl 1 rfl, HO.out.cell 1 rfl 2 rfl, HO.out.cell 1 rfl 3 rfl, HO.out.cell 1 rfl 4 rfl, HO.out.cell 1 rfl 5 rfl⟩ (fun hHeld => ?_)
  refine pure_ (i := 0) (N := some 5) (v := ?_) (a' := ?_) #[true, false, false, false, false, false, false, false, false] rfl rfl (by kernel_rfl) (fun _ _ _ h => h) (Or.inl ⟨by rfl, ?_⟩) ?_ ?_
  rotate_left
  · intro w'
    go_simp
    with_reducible rfl
  rotate_left
  · simp only [Act.put, List.setIfInBounds_toArray, List.set_cons_zero, List.set_cons_succ, i64_w, i32_w]
    rfl
  refine pure_ (i := 1) (N := some 6) (v := ?_) (a' := ?_) #[true, true, false, false, false, false, false, false, false] rfl rfl (by kernel_rfl) (fun _ _ _ h => h) (Or.inl ⟨by rfl, ?_⟩) ?_ ?_
  rotate_left
  · intro w'
    go_simp
    with_reducible rfl
  rotate_left
  · simp only [Act.put, List.setIfInBounds_toArray, List.set_cons_zero, List.set_cons_succ, i64_w, i32_w]
    rfl
  refine pure_ (i := 2) (N := some 7) (v := undef) (a' := ?_) #[true, true, true, false, false, false, false, false, false] rfl rfl (by kernel_rfl) (fun _ _ _ h => h) (Or.inr ⟨by rfl, rfl⟩) ?_ ?_
  rotate_left
  · simp only [Act.put, List.setIfInBounds_toArray, List.set_cons_zero, List.set_cons_succ, i64_w, i32_w]
    rfl
  refine pure_ (i := 3) (N := some 8) (v := undef) (a' := ?_) #[true, true, true, true, false, false, false, false, false] rfl rfl (by kernel_rfl) (fun _ _ _ h => h) (Or.inr ⟨by rfl, rfl⟩) ?_ ?_
  rotate_left
  · simp only [Act.put, List.setIfInBounds_toArray, List.set_cons_zero, List.set_cons_succ, i64_w, i32_w]
    rfl
  refine pure_ (i := 4) (N := some 9) (v := undef) (a' := ?_) #[true, true, true, true, true, false, false, false, false] rfl rfl (by kernel_rfl) (fun _ _ _ h => h) (Or.inr ⟨by rfl, rfl⟩) ?_ ?_
  rotate_left
  · simp only [Act.put, List.setIfInBounds_toArray, List.set_cons_zero, List.set_cons_succ, i64_w, i32_w]
    rfl
  refine pure_ (i := 5) (N := some 10) (v := ?_) (a' := ?_) #[true, true, true, true, true, true, false, false, false] rfl rfl (by kernel_rfl) (fun _ _ _ h => h) (Or.inl ⟨by rfl, ?_⟩) ?_ ?_
  rotate_left
  · intro w'
    go_simp
    with_reducible rfl
  rotate_left
  · simp only [Act.put, List.setIfInBounds_toArray, List.set_cons_zero, List.set_cons_succ, i64_w, i32_w]
    rfl
  refine take_ (i := 6) (N := some 11) (v := ?_) (a' := ?_) #[true, true, true, true, true, true, true, false, false] rfl rfl (by kernel_rfl) (fun _ _ _ h => h) (Or.inl ⟨by rfl, ?_⟩) hHeld ?_ ?_
  rotate_left
  · rintro w' ⟨s0, s1, s2, s3, s4, s5⟩
    go_simp
    with_reducible rfl
  rotate_left
  · simp only [Act.put, List.setIfInBounds_toArray, List.set_cons_zero, List.set_cons_succ, i64_w, i32_w]
    rfl
  refine pure_ (i := 7) (N := some 12) (v := ?_) (a' := ?_) #[true, true, true, true, true, true, true, true, false] rfl rfl (by kernel_rfl) (fun _ _ _ h => h) (Or.inl ⟨by rfl, ?_⟩) ?_ ?_
  rotate_left
  · intro w'
    go_simp
    with_reducible rfl
  rotate_left
  · simp only [Act.put, List.setIfInBounds_toArray, List.set_cons_zero, List.set_cons_succ, i64_w, i32_w]
    rfl
  refine last_store_ (i := 8) (w1 := (World.setCell (World.setCell (World.setCell (World.setCell (World.setCell (World.setCell (World.setCell w2.drew ⟨g2, 0, none⟩ (.bool false)) ⟨g2, 1, none⟩ (.int .u32 ((lb x 0 : Nat) : Int))) ⟨g2, 2, none⟩ (.int .u32 ((lb x 1 : Nat) : Int))) ⟨g2, 3, none⟩ (.int .u32 ((lb x 2 : Nat) : Int))) ⟨g2, 4, none⟩ (.int .u32 ((lb x 3 : Nat) : Int))) ⟨g2, 5, none⟩ (.int .u32 ((lb x 4 : Nat) : Int))) ⟨g2, 6, none⟩ (.int .u32 ((lb x 5 : Nat) : Int)))) #[true, true, true, true, true, true, true, true, true] rfl rfl (by kernel_rfl) (by decide) (by rfl) (run_put7_ rfl (show _ = Value.pointer (some ⟨g2, 0, none⟩) from by rfl) (show _ = Value.agg #[.bool false, .int .u32 ((lb x 0 : Nat) : Int), .int .u32 ((lb x 1 : Nat) : Int), .int .u32 ((lb x 2 : Nat) : Int), .int .u32 ((lb x 3 : Nat) : Int), .int .u32 ((lb x 4 : Nat) : Int), .int .u32 ((lb x 5 : Nat) : Int)] from by rfl) (HO.out.at 0 rfl) (by kernel_rfl) (by rfl)) ?_
  refine done_ (by kernel_rfl) ?_
  generalize hw5 : (World.setCell (World.setCell (World.setCell (World.setCell (World.setCell (World.setCell (World.setCell w2.drew ⟨g2, 0, none⟩ (.bool false)) ⟨g2, 1, none⟩ (.int .u32 ((lb x 0 : Nat) : Int))) ⟨g2, 2, none⟩ (.int .u32 ((lb x 1 : Nat) : Int))) ⟨g2, 3, none⟩ (.int .u32 ((lb x 2 : Nat) : Int))) ⟨g2, 4, none⟩ (.int .u32 ((lb x 3 : Nat) : Int))) ⟨g2, 5, none⟩ (.int .u32 ((lb x 4 : Nat) : Int))) ⟨g2, 6, none⟩ (.int .u32 ((lb x 5 : Nat) : Int))) = w5
  replace HO := Aside0.mk (HO.out.put7 0 rfl hw5.symm rfl)
  clear hw5
  go_wp2
  refine bodyPost_ret (results_cell_row rfl _ _ g2 25 #[.bool false, .int .u32 ((lb x 0 : Nat) : Int), .int .u32 ((lb x 1 : Nat) : Int), .int .u32 ((lb x 2 : Nat) : Int), .int .u32 ((lb x 3 : Nat) : Int), .int .u32 ((lb x 4 : Nat) : Int), .int .u32 ((lb x 5 : Nat) : Int)] (0, 0) _ rfl (HO.out.at 0 rfl) Try.underlying25 rfl (by kernel_rfl)) rfl ?_
  exact ⟨rfl, HO.out.bel⟩
set_option maxHeartbeats 8000000 in
set_option maxRecDepth 100000 in
theorem iWideT (w : World) (x : Nat) (hx : x < 4294967296 ^ 6) :
    Calls Try.prog 116 #[.bool true, .agg (A6 x)] w fun e w' => e = .returned (.agg (W7 (!(zN x)) x)) ∧ Below w.heap.size w w' := by
  unfold A6
  have hu111 := Try.underlying111
  have HX := Aside0.mk hx
  clear hx
  have HO := Aside0.mk (OB.start w)
  go_enter Try.func116, Try.ntmps116
  go_wp2_with (first | ((with_reducible refine gate_dst (N := 3) rfl ?_); refine box_event ?hg (N := 3) ?hd (cs := #[.int .u32 ((lb x 0 : Nat) : Int), .int .u32 ((lb x 1 : Nat) : Int), .int .u32 ((lb x 2 : Nat) : Int), .int .u32 ((lb x 3 : Nat) : Int), .int .u32 ((lb x 4 : Nat) : Int), .int .u32 ((lb x 5 : Nat) : Int)]) (t := 111) ?hr ?_; (case hd => rfl); (case hg => rfl); (case hr => first | (go_simp; done) | (go_simp; rfl)); intro g1 hg w1 hbox hb; replace HO := Aside0.mk (HO.out.box hg hbox hb); clear hg hbox hb) | ((with_reducible refine gate_dst (N := 4) rfl ?_); refine box_event ?hg (N := 4) ?hd (cs := #[.bool false, .int .u32 0, .int .u32 0, .int .u32 0, .int .u32 0, .int .u32 0, .int .u32 0]) (t := 25) ?hr ?_; (case hd => rfl); (case hg => rfl); (case hr => first | (go_simp; done) | (go_simp; rfl)); intro g2 hg w2 hbox hb; replace HO := Aside0.mk (HO.out.box hg hbox hb); clear hg hbox hb))
  replace HO := Aside0.mk HO.out.drew
  refine start_ (n := 9) (S := fun w' => w'.cell? ⟨g1, 0, none⟩ = some (.int .u32 ((lb x 0 : Nat) : Int)) ∧ w'.cell? ⟨g1, 1, none⟩ = some (.int .u32 ((lb x 1 : Nat) : Int)) ∧ w'.cell? ⟨g1, 2, none⟩ = some (.int .u32 ((lb x 2 : Nat) : Int)) ∧ w'.cell? ⟨g1, 3, none⟩ = some (.int .u32 ((lb x 3 : Nat) : Int)) ∧ w'.cell? ⟨g1, 4, none⟩ = some (.int .u32 ((lb x 4 : Nat) : Int)) ∧ w'.cell? ⟨g1, 5, none⟩ = some (.int .u32 ((lb x 5 : Nat) : Int))) (ds := [8]) #[false, false, false, false, false, false, false, false, false] (by kernel_rfl) rfl rfl ⟨HO.out.cell 1 rfl 0 rfl, HO.out.cell 1 rfl 1 rfl, HO.out.cell 1 rfl 2 rfl, HO.out.cell 1 rfl 3 rfl, HO.out.cell 1 rfl 4 rfl, HO.out.cell 1 rfl 5 rfl⟩ (fun hHeld => ?_)
  refine pure_ (i := 0) (N := some 5) (v := ?_) (a' := ?_) #[true, false, false, false, false, false, false, false, false] rfl rfl (by kernel_rfl) (fun _ _ _ h => h) (Or.inl ⟨by rfl, ?_⟩) ?_ ?_
  rotate_left
  · intro w'
    go_simp
    with_reducible rfl
  rotate_left
  · simp only [Act.put, List.setIfInBounds_toArray, List.set_cons_zero, List.set_cons_succ, i64_w, i32_w]
    rfl
  refine pure_ (i := 1) (N := some 6) (v := ?_) (a' := ?_) #[true, true, false, false, false, false, false, false, false] rfl rfl (by kernel_rfl) (fun _ _ _ h => h) (Or.inl ⟨by rfl, ?_⟩) ?_ ?_
  rotate_left
  · intro w'
    go_simp
    with_reducible rfl
  rotate_left
  · simp only [Act.put, List.setIfInBounds_toArray, List.set_cons_zero, List.set_cons_succ, i64_w, i32_w]
    rfl
  refine pure_ (i := 3) (N := some 8) (v := ?_) (a' := ?_) #[true, true, false, true, false, false, false, false, false] rfl rfl (by kernel_rfl) (fun _ _ _ h => h) (Or.inl ⟨by rfl, ?_⟩) ?_ ?_
  rotate_left
  · intro w'
    go_simp
    with_reducible rfl
  rotate_left
  · simp only [Act.put, List.setIfInBounds_toArray, List.set_cons_zero, List.set_cons_succ, i64_w, i32_w]
    rfl
  refine take_ (i := 2) (N := some 7) (v := ?_) (a' := ?_) #[true, true, true, true, false, false, false, false, false] rfl rfl (by kernel_rfl) (fun _ _ _ h => h) (Or.inl ⟨by rfl, ?_⟩) hHeld ?_ ?_
  rotate_left
  · rintro w' ⟨s0, s1, s2, s3, s4, s5⟩
    go_simp
    with_reducible rfl
  rotate_left
  · simp only [Act.put, List.setIfInBounds_toArray, List.set_cons_zero, List.set_cons_succ, i64_w, i32_w]
    rfl
  refine pure_ (i := 4) (N := some 9) (v := ?_) (a' := ?_) #[true, true, true, true, true, false, false, false, false] rfl rfl (by kernel_rfl) (fun _ _ _ h => h) (Or.inl ⟨by rfl, ?_⟩) ?_ ?_
  rotate_left
  · intro w'
    go_simp
    with_reducible rfl
  rotate_left
  · simp only [Act.put, List.setIfInBounds_toArray, List.set_cons_zero, List.set_cons_succ, i64_w, i32_w]
    rfl
  refine pure_ (i := 5) (N := some 10) (v := ?_) (a' := ?_) #[true, true, true, true, true, true, false, false, false] rfl rfl (by kernel_rfl) (fun _ _ _ h => h) (Or.inl ⟨by rfl, ?_⟩) ?_ ?_
  rotate_left
  · intro w'
    go_simp
    with_reducible rfl
  rotate_left
  · simp only [Act.put, List.setIfInBounds_toArray, List.set_cons_zero, List.set_cons_succ, i64_w, i32_w]
    rfl
  refine take_ (i := 6) (N := some 11) (v := ?_) (a' := ?_) #[true, true, true, true, true, true, true, false, false] rfl rfl (by kernel_rfl) (fun _ _ _ h => h) (Or.inl ⟨by rfl, ?_⟩) hHeld ?_ ?_
  rotate_left
  · rintro w' ⟨s0, s1, s2, s3, s4, s5⟩
    go_simp
    with_reducible rfl
  rotate_left
  · simp only [Act.put, List.setIfInBounds_toArray, List.set_cons_zero, List.set_cons_succ, i64_w, i32_w]
    rfl
  refine pure_ (i := 7) (N := some 12) (v := ?_) (a' := ?_) #[true, true, true, true, true, true, true, true, false] rfl rfl (by kernel_rfl) (fun _ _ _ h => h) (Or.inl ⟨by rfl, ?_⟩) ?_ ?_
  rotate_left
  · intro w'
    go_simp
    with_reducible rfl
  rotate_left
  · simp only [Act.put, List.setIfInBounds_toArray, List.set_cons_zero, List.set_cons_succ, i64_w, i32_w]
    rfl
  refine last_store_ (i := 8) (w1 := (World.setCell (World.setCell (World.setCell (World.setCell (World.setCell (World.setCell (World.setCell w2.drew ⟨g2, 0, none⟩ (.bool (!(((lb x 0 : Nat) : Int) == 0) || (!(((lb x 1 : Nat) : Int) == 0) || (!(((lb x 2 : Nat) : Int) == 0) || (!(((lb x 3 : Nat) : Int) == 0) || (!(((lb x 4 : Nat) : Int) == 0) || (!(((lb x 5 : Nat) : Int) == 0))))))))) ⟨g2, 1, none⟩ (.int .u32 ((lb x 0 : Nat) : Int))) ⟨g2, 2, none⟩ (.int .u32 ((lb x 1 : Nat) : Int))) ⟨g2, 3, none⟩ (.int .u32 ((lb x 2 : Nat) : Int))) ⟨g2, 4, none⟩ (.int .u32 ((lb x 3 : Nat) : Int))) ⟨g2, 5, none⟩ (.int .u32 ((lb x 4 : Nat) : Int))) ⟨g2, 6, none⟩ (.int .u32 ((lb x 5 : Nat) : Int)))) #[true, true, true, true, true, true, true, true, true] rfl rfl (by kernel_rfl) (by decide) (by rfl) (run_put7_ rfl (show _ = Value.pointer (some ⟨g2, 0, none⟩) from by rfl) (show _ = Value.agg #[.bool (!(((lb x 0 : Nat) : Int) == 0) || (!(((lb x 1 : Nat) : Int) == 0) || (!(((lb x 2 : Nat) : Int) == 0) || (!(((lb x 3 : Nat) : Int) == 0) || (!(((lb x 4 : Nat) : Int) == 0) || (!(((lb x 5 : Nat) : Int) == 0))))))), .int .u32 ((lb x 0 : Nat) : Int), .int .u32 ((lb x 1 : Nat) : Int), .int .u32 ((lb x 2 : Nat) : Int), .int .u32 ((lb x 3 : Nat) : Int), .int .u32 ((lb x 4 : Nat) : Int), .int .u32 ((lb x 5 : Nat) : Int)] from by rfl) (HO.out.at 0 rfl) (by kernel_rfl) (by rfl)) ?_
  refine done_ (by kernel_rfl) ?_
  generalize hw5 : (World.setCell (World.setCell (World.setCell (World.setCell (World.setCell (World.setCell (World.setCell w2.drew ⟨g2, 0, none⟩ (.bool (!(((lb x 0 : Nat) : Int) == 0) || (!(((lb x 1 : Nat) : Int) == 0) || (!(((lb x 2 : Nat) : Int) == 0) || (!(((lb x 3 : Nat) : Int) == 0) || (!(((lb x 4 : Nat) : Int) == 0) || (!(((lb x 5 : Nat) : Int) == 0))))))))) ⟨g2, 1, none⟩ (.int .u32 ((lb x 0 : Nat) : Int))) ⟨g2, 2, none⟩ (.int .u32 ((lb x 1 : Nat) : Int))) ⟨g2, 3, none⟩ (.int .u32 ((lb x 2 : Nat) : Int))) ⟨g2, 4, none⟩ (.int .u32 ((lb x 3 : Nat) : Int))) ⟨g2, 5, none⟩ (.int .u32 ((lb x 4 : Nat) : Int))) ⟨g2, 6, none⟩ (.int .u32 ((lb x 5 : Nat) : Int))) = w5
  replace HO := Aside0.mk (HO.out.put7 0 rfl hw5.symm rfl)
  clear hw5
  go_wp2
  refine bodyPost_ret (results_cell_row rfl _ _ g2 25 #[.bool (!(((lb x 0 : Nat) : Int) == 0) || (!(((lb x 1 : Nat) : Int) == 0) || (!(((lb x 2 : Nat) : Int) == 0) || (!(((lb x 3 : Nat) : Int) == 0) || (!(((lb x 4 : Nat) : Int) == 0) || (!(((lb x 5 : Nat) : Int) == 0))))))), .int .u32 ((lb x 0 : Nat) : Int), .int .u32 ((lb x 1 : Nat) : Int), .int .u32 ((lb x 2 : Nat) : Int), .int .u32 ((lb x 3 : Nat) : Int), .int .u32 ((lb x 4 : Nat) : Int), .int .u32 ((lb x 5 : Nat) : Int)] (0, 0) _ rfl (HO.out.at 0 rfl) Try.underlying25 rfl (by kernel_rfl)) rfl ?_
  exact ⟨by show Ending.returned (.agg #[.bool (!(((lb x 0 : Nat) : Int) == 0) || (!(((lb x 1 : Nat) : Int) == 0) || (!(((lb x 2 : Nat) : Int) == 0) || (!(((lb x 3 : Nat) : Int) == 0) || (!(((lb x 4 : Nat) : Int) == 0) || (!(((lb x 5 : Nat) : Int) == 0))))))), .int .u32 ((lb x 0 : Nat) : Int), .int .u32 ((lb x 1 : Nat) : Int), .int .u32 ((lb x 2 : Nat) : Int), .int .u32 ((lb x 3 : Nat) : Int), .int .u32 ((lb x 4 : Nat) : Int), .int .u32 ((lb x 5 : Nat) : Int)]) = _; rw [nzero_lb HX.out]; rfl, HO.out.bel⟩
theorem iWide (w : World) (s : Bool) (x : Nat) (hx : x < 4294967296 ^ 6) :
    Calls Try.prog 116 #[.bool s, .agg #[.int .u32 ((lb x 0 : Nat) : Int), .int .u32 ((lb x 1 : Nat) : Int), .int .u32 ((lb x 2 : Nat) : Int), .int .u32 ((lb x 3 : Nat) : Int), .int .u32 ((lb x 4 : Nat) : Int), .int .u32 ((lb x 5 : Nat) : Int)]] w fun e w' => e = .returned (.agg (W7 (s && !(zN x)) x)) ∧ Below w.heap.size w w' := by
  cases s
  · exact iWideF w x hx
  · exact iWideT w x hx
set_option maxHeartbeats 8000000 in
set_option maxRecDepth 100000 in
theorem iOfN (w : World) (n : Int) (hn : -9223372036854775808 ≤ n) (hn2 : n < 9223372036854775808) (hs : n < 0) :
    Calls Try.prog 88 #[.int .i64 n] w fun e w' => e = .returned (WV n) ∧ Below w.heap.size w w' := by
  have HN := Aside0.mk hn
  have HN2 := Aside0.mk hn2
  clear hn hn2
  have HO := Aside0.mk (OB.start w)
  go_enter Try.func88, Try.ntmps88
  have hb : n.natAbs ≤ 9223372036854775808 := by have h1_ := HN.out; have h2_ := HN2.out; omega
  have MT : Aside0 (∀ w : World, Calls Try.prog 116 #[.bool true, .agg #[.int .u32 ((lb n.natAbs 0 : Nat) : Int), .int .u32 ((lb n.natAbs 1 : Nat) : Int), .int .u32 0, .int .u32 0, .int .u32 0, .int .u32 0]] w fun e w' => e = .returned (.agg (W7 true n.natAbs)) ∧ Below w.heap.size w w') := ⟨fun w => by have := iWideT w n.natAbs (small6 hb); rw [A6_two _ hb] at this; rw [zN_pos (by omega)] at this; exact this⟩
  have hl := of_lb n.natAbs hb
  have e2 := hl.1
  have e3 := hl.2.1
  have HS := Aside0.mk hs
  have e1 : IntKind.u64.wrap (-IntKind.u64.wrap n) = (n.natAbs : Int) := u64neg HN.out HS.out
  have c0 : decide (n < 0) = true := decide_eq_true HS.out
  clear hl hs hb
  go_wp2_with (first | ((with_reducible refine gate_dst (N := 2) rfl ?_); refine box_event ?hg (N := 2) ?hd (cs := #[.bool false, .int .u32 0, .int .u32 0, .int .u32 0, .int .u32 0, .int .u32 0, .int .u32 0]) (t := 25) ?hr ?_; (case hd => rfl); (case hg => rfl); (case hr => first | (go_simp; done) | (go_simp; rfl)); intro g1 hg w1 hbox hb; replace HO := Aside0.mk (HO.out.box hg hbox hb); clear hg hbox hb) | (go_at_call 116; (with_reducible refine (MT.out _).mono ?_); rintro e w4 ⟨rfl, hb⟩; replace HO := Aside0.mk (HO.out.below hb); clear hb) | ((with_reducible refine gate_store (t := 25) (p := 2) rfl ?_); refine store_event (t := 25) (p := 2) (v := ?vo_1) (w1 := (World.setCell (World.setCell (World.setCell (World.setCell (World.setCell (World.setCell (World.setCell w4 ⟨g1, 0, none⟩ (.bool true)) ⟨g1, 1, none⟩ (.int .u32 ((lb n.natAbs 0 : Nat) : Int))) ⟨g1, 2, none⟩ (.int .u32 ((lb n.natAbs 1 : Nat) : Int))) ⟨g1, 3, none⟩ (.int .u32 ((lb n.natAbs 2 : Nat) : Int))) ⟨g1, 4, none⟩ (.int .u32 ((lb n.natAbs 3 : Nat) : Int))) ⟨g1, 5, none⟩ (.int .u32 ((lb n.natAbs 4 : Nat) : Int))) ⟨g1, 6, none⟩ (.int .u32 ((lb n.natAbs 5 : Nat) : Int)))) ?hg ?ho ?hn ?hr ?_; (case ho => rfl); (case hg => rfl); (case hn => rfl); (case hr => (try simp only [Act.put, List.setIfInBounds_toArray, List.set_cons_zero, List.set_cons_succ]); exact run_put7_ rfl (show _ = Value.pointer (some ⟨g1, 0, none⟩) from by rfl) (show _ = Value.agg #[.bool true, .int .u32 ((lb n.natAbs 0 : Nat) : Int), .int .u32 ((lb n.natAbs 1 : Nat) : Int), .int .u32 ((lb n.natAbs 2 : Nat) : Int), .int .u32 ((lb n.natAbs 3 : Nat) : Int), .int .u32 ((lb n.natAbs 4 : Nat) : Int), .int .u32 ((lb n.natAbs 5 : Nat) : Int)] from by rfl) (HO.out.at 0 rfl) (by kernel_rfl) (by rfl)); intro w5 hw; replace HO := Aside0.mk (HO.out.put7 0 rfl hw rfl); clear hw))
  refine bodyPost_ret (results_cell_row rfl _ _ g1 25 (W7 true n.natAbs) (0, 0) _ rfl (HO.out.at 0 rfl) Try.underlying25 rfl (by kernel_rfl)) rfl ?_
  exact ⟨by unfold WV; rw [c0], HO.out.bel⟩
set_option maxHeartbeats 8000000 in
set_option maxRecDepth 100000 in
theorem iOfP (w : World) (n : Int) (hn : -9223372036854775808 ≤ n) (hn2 : n < 9223372036854775808) (hs : ¬ n < 0) :
    Calls Try.prog 88 #[.int .i64 n] w fun e w' => e = .returned (WV n) ∧ Below w.heap.size w w' := by
  have HN := Aside0.mk hn
  have HN2 := Aside0.mk hn2
  clear hn hn2
  have HO := Aside0.mk (OB.start w)
  go_enter Try.func88, Try.ntmps88
  have hb : n.natAbs ≤ 9223372036854775808 := by have h1_ := HN.out; have h2_ := HN2.out; omega
  have MT : Aside0 (∀ w : World, Calls Try.prog 116 #[.bool false, .agg #[.int .u32 ((lb n.natAbs 0 : Nat) : Int), .int .u32 ((lb n.natAbs 1 : Nat) : Int), .int .u32 0, .int .u32 0, .int .u32 0, .int .u32 0]] w fun e w' => e = .returned (.agg (W7 false n.natAbs)) ∧ Below w.heap.size w w') := ⟨fun w => by have := iWideF w n.natAbs (small6 hb); rw [A6_two _ hb] at this; exact this⟩
  have hl := of_lb n.natAbs hb
  have e2 := hl.1
  have e3 := hl.2.1
  have HS := Aside0.mk hs
  have e1 : IntKind.u64.wrap n = (n.natAbs : Int) := by have h1_ := HS.out; have h2_ := HN2.out; rw [u64w (by omega) (by omega)]; omega
  have c0 : decide (n < 0) = false := decide_eq_false HS.out
  clear hl hs hb
  go_wp2_with (first | ((with_reducible refine gate_dst (N := 2) rfl ?_); refine box_event ?hg (N := 2) ?hd (cs := #[.bool false, .int .u32 0, .int .u32 0, .int .u32 0, .int .u32 0, .int .u32 0, .int .u32 0]) (t := 25) ?hr ?_; (case hd => rfl); (case hg => rfl); (case hr => first | (go_simp; done) | (go_simp; rfl)); intro g1 hg w1 hbox hb; replace HO := Aside0.mk (HO.out.box hg hbox hb); clear hg hbox hb) | (go_at_call 116; (with_reducible refine (MT.out _).mono ?_); rintro e w4 ⟨rfl, hb⟩; replace HO := Aside0.mk (HO.out.below hb); clear hb) | ((with_reducible refine gate_store (t := 25) (p := 2) rfl ?_); refine store_event (t := 25) (p := 2) (v := ?vo_2) (w1 := (World.setCell (World.setCell (World.setCell (World.setCell (World.setCell (World.setCell (World.setCell w4 ⟨g1, 0, none⟩ (.bool false)) ⟨g1, 1, none⟩ (.int .u32 ((lb n.natAbs 0 : Nat) : Int))) ⟨g1, 2, none⟩ (.int .u32 ((lb n.natAbs 1 : Nat) : Int))) ⟨g1, 3, none⟩ (.int .u32 ((lb n.natAbs 2 : Nat) : Int))) ⟨g1, 4, none⟩ (.int .u32 ((lb n.natAbs 3 : Nat) : Int))) ⟨g1, 5, none⟩ (.int .u32 ((lb n.natAbs 4 : Nat) : Int))) ⟨g1, 6, none⟩ (.int .u32 ((lb n.natAbs 5 : Nat) : Int)))) ?hg ?ho ?hn ?hr ?_; (case ho => rfl); (case hg => rfl); (case hn => rfl); (case hr => (try simp only [Act.put, List.setIfInBounds_toArray, List.set_cons_zero, List.set_cons_succ]); exact run_put7_ rfl (show _ = Value.pointer (some ⟨g1, 0, none⟩) from by rfl) (show _ = Value.agg #[.bool false, .int .u32 ((lb n.natAbs 0 : Nat) : Int), .int .u32 ((lb n.natAbs 1 : Nat) : Int), .int .u32 ((lb n.natAbs 2 : Nat) : Int), .int .u32 ((lb n.natAbs 3 : Nat) : Int), .int .u32 ((lb n.natAbs 4 : Nat) : Int), .int .u32 ((lb n.natAbs 5 : Nat) : Int)] from by rfl) (HO.out.at 0 rfl) (by kernel_rfl) (by rfl)); intro w5 hw; replace HO := Aside0.mk (HO.out.put7 0 rfl hw rfl); clear hw))
  refine bodyPost_ret (results_cell_row rfl _ _ g1 25 (W7 false n.natAbs) (0, 0) _ rfl (HO.out.at 0 rfl) Try.underlying25 rfl (by kernel_rfl)) rfl ?_
  exact ⟨by unfold WV; rw [c0], HO.out.bel⟩
set_option maxHeartbeats 8000000 in
set_option maxRecDepth 100000 in
theorem iTimes (w : World) (x y : Nat) (hx : x < 4294967296 ^ 6) (hy : y < 4294967296 ^ 6) :
    Calls Try.prog 102 #[.agg #[.int .u32 ((lb x 0 : Nat) : Int), .int .u32 ((lb x 1 : Nat) : Int), .int .u32 ((lb x 2 : Nat) : Int), .int .u32 ((lb x 3 : Nat) : Int), .int .u32 ((lb x 4 : Nat) : Int), .int .u32 ((lb x 5 : Nat) : Int)], .agg #[.int .u32 ((lb y 0 : Nat) : Int), .int .u32 ((lb y 1 : Nat) : Int), .int .u32 ((lb y 2 : Nat) : Int), .int .u32 ((lb y 3 : Nat) : Int), .int .u32 ((lb y 4 : Nat) : Int), .int .u32 ((lb y 5 : Nat) : Int)]] w fun e w' => e = .returned (.tuple #[.agg (timA (x * y)), .bool (ovM (x * y))]) ∧ Below w.heap.size w w' := by
  have hu111 := Try.underlying111
  have hu142 := Try.underlying142
  have hu123 := Try.underlying123
  have HX := Aside0.mk hx
  have HY := Aside0.mk hy
  clear hx hy
  have HO := Aside0.mk (OB.start w)
  go_enter Try.func102, Try.ntmps102
  go_wp2_with (first | ((with_reducible refine gate_dst (N := 2) rfl ?_); refine box_event ?hg (N := 2) ?hd (cs := #[.int .u32 ((lb x 0 : Nat) : Int), .int .u32 ((lb x 1 : Nat) : Int), .int .u32 ((lb x 2 : Nat) : Int), .int .u32 ((lb x 3 : Nat) : Int), .int .u32 ((lb x 4 : Nat) : Int), .int .u32 ((lb x 5 : Nat) : Int)]) (t := 111) ?hr ?_; (case hd => rfl); (case hg => rfl); (case hr => first | (go_simp; done) | (go_simp; rfl)); intro g1 hg w1 hbox hb; replace HO := Aside0.mk (HO.out.box hg hbox hb); clear hg hbox hb) | ((with_reducible refine gate_dst (N := 3) rfl ?_); refine box_event ?hg (N := 3) ?hd (cs := #[.int .u32 ((lb y 0 : Nat) : Int), .int .u32 ((lb y 1 : Nat) : Int), .int .u32 ((lb y 2 : Nat) : Int), .int .u32 ((lb y 3 : Nat) : Int), .int .u32 ((lb y 4 : Nat) : Int), .int .u32 ((lb y 5 : Nat) : Int)]) (t := 111) ?hr ?_; (case hd => rfl); (case hg => rfl); (case hr => first | (go_simp; done) | (go_simp; rfl)); intro g2 hg w2 hbox hb; replace HO := Aside0.mk (HO.out.box hg hbox hb); clear hg hbox hb) | ((with_reducible refine gate_dst (N := 4) rfl ?_); refine box_event ?hg (N := 4) ?hd (cs := #[.int .u32 0, .int .u32 0, .int .u32 0, .int .u32 0, .int .u32 0, .int .u32 0]) (t := 111) ?hr ?_; (case hd => rfl); (case hg => rfl); (case hr => first | (go_simp; done) | (go_simp; rfl)); intro g3 hg w3 hbox hb; replace HO := Aside0.mk (HO.out.box hg hbox hb); clear hg hbox hb) | ((with_reducible refine gate_dst (N := 6) rfl ?_); refine box_event ?hg (N := 6) ?hd (cs := #[.int .u32 0, .int .u32 0, .int .u32 0, .int .u32 0, .int .u32 0, .int .u32 0, .int .u32 0, .int .u32 0, .int .u32 0, .int .u32 0, .int .u32 0, .int .u32 0]) (t := 123) ?hr ?_; (case hd => rfl); (case hg => rfl); (case hr => first | (go_simp; done) | (go_simp; rfl)); intro g4 hg w4 hbox hb; replace HO := Aside0.mk (HO.out.box hg hbox hb); clear hg hbox hb; obtain ⟨hc0, hc1, hc2, hc3, hc4, hc5⟩ := cells6_ (HO.out.at 3 rfl)))
  go_loopg [15] 7 (fun kq v15 w' => ∃ (n : Nat) (i : Int) (f : Nat → Nat), v15 = .int .i64 i ∧ Aside0 (i = n ∧ n + kq = 7 ∧ n ≤ 6 ∧ ∀ m, m < 12 → f m = lb (rowX x y n) m) ∧ Aside0 (OB w.heap.size w w' [(g4, o12 f, 123), (g3, #[.int .u32 0, .int .u32 0, .int .u32 0, .int .u32 0, .int .u32 0, .int .u32 0], 111), (g2, A6 y, 111), (g1, A6 x, 111)]))
  case atStart => exact ⟨0, 0, fun _ => 0, rfl, ⟨rfl, rfl, by decide, fun m _ => by unfold rowX; rw [Nat.pow_zero, Nat.mod_one, Nat.zero_mul, lb0]⟩, ⟨HO.out⟩⟩
  case round =>
    clear HO
    obtain ⟨n, i, f, rfl, HN, HO⟩ := hrel
    by_cases c : i < 6
    · have hn : n < 6 := by have := HN.out.1; omega
      have c0 : decide (i < 6) = true := decide_eq_true c
      have p0 := eq_true (show 0 ≤ i from by have := HN.out.1; omega)
      have p1 := eq_true c
      obtain ⟨A, hA⟩ : ∃ A : Int, A = ((lb x n : Nat) : Int) := ⟨_, rfl⟩
      have ix0 : ∀ W, (Instr.index 111 (.agg #[.int .u32 ((lb x 0 : Nat) : Int), .int .u32 ((lb x 1 : Nat) : Int), .int .u32 ((lb x 2 : Nat) : Int), .int .u32 ((lb x 3 : Nat) : Int), .int .u32 ((lb x 4 : Nat) : Int), .int .u32 ((lb x 5 : Nat) : Int)]) (.int .i64 i)).run Try.prog W = .ok (.int .u32 A) W := fun W => idx111 W x HN.out.1 hn hA
      obtain ⟨b0, b1, b2, b3, b4, b5⟩ := cells6_ (show wr.heap[g2]? = some (.cells #[.int .u32 ((lb y 0 : Nat) : Int), .int .u32 ((lb y 1 : Nat) : Int), .int .u32 ((lb y 2 : Nat) : Int), .int .u32 ((lb y 3 : Nat) : Int), .int .u32 ((lb y 4 : Nat) : Int), .int .u32 ((lb y 5 : Nat) : Int)] _ (0, 0)) from HO.out.at 2 rfl)
      have HA := Aside0.mk hA
      clear c hA
      cases gk with
      | zero => have := HN.out.2.1; omega
      | succ k1 =>
      go_wp2
      go_loopg [9, 20] 7 (fun kq v9 v20 w' => ∃ (j : Nat) (C k : Int) (h : Nat → Nat), v9 = .int .u64 C ∧ v20 = .int .i64 k ∧ Aside0 (C = ((cyT (rowX x y n) (lb x n) y n j : Nat) : Int) ∧ k = j ∧ j + kq = 7 ∧ j ≤ 6 ∧ ∀ m, m < 12 → h m = if m < n + j then lb (rowX x y (n + 1)) m else lb (rowX x y n) m) ∧ Aside0 (OB w.heap.size w w' [(g4, o12 h, 123), (g3, #[.int .u32 0, .int .u32 0, .int .u32 0, .int .u32 0, .int .u32 0, .int .u32 0], 111), (g2, A6 y, 111), (g1, A6 x, 111)]))
      case atStart => exact ⟨0, 0, 0, f, rfl, rfl, ⟨by rw [cyT_zero]; rfl, rfl, rfl, by decide, row_start HN.out.2.2.2⟩, ⟨HO.out⟩⟩
      case round =>
        clear HO b0 b1 b2 b3 b4 b5 ix0
        obtain ⟨j, C, k, h, rfl, rfl, HJ, HO⟩ := hrel
        by_cases c : k < 6
        · have hj : j < 6 := by have := HJ.out.2.1; omega
          have c1 : decide (k < 6) = true := decide_eq_true c
          clear c
          obtain ⟨S, hS⟩ : ∃ S : Int, wrap64 (i + k) = S := ⟨_, rfl⟩
          have HS : Aside0 (S = ((n + j : Nat) : Int)) := ⟨by rw [← hS, HN.out.1, HJ.out.2.1, i64w (by omega) (by omega)]; omega⟩
          have p4 := eq_true (show 0 ≤ S from by have := HS.out; omega)
          have p5 := eq_true (show S < 12 from by have := HS.out; omega)
          obtain ⟨Y, hY⟩ : ∃ Y : Int, Y = ((lb y j : Nat) : Int) := ⟨_, rfl⟩
          obtain ⟨Z, hZ⟩ : ∃ Z : Int, Z = (h (n + j) : Int) := ⟨_, rfl⟩
          have ix1 : ∀ W, (Instr.index 111 (.agg #[.int .u32 ((lb y 0 : Nat) : Int), .int .u32 ((lb y 1 : Nat) : Int), .int .u32 ((lb y 2 : Nat) : Int), .int .u32 ((lb y 3 : Nat) : Int), .int .u32 ((lb y 4 : Nat) : Int), .int .u32 ((lb y 5 : Nat) : Int)]) (.int .i64 k)).run Try.prog W = .ok (.int .u32 Y) W := fun W => idx111 W y HJ.out.2.1 hj hY
          obtain ⟨d0, d1⟩ := HO.out.cellZ 0 rfl HS.out (hZ ▸ o12_get h (n + j) (by omega))
          have fr0 := HO.out.fr 0 rfl S.toNat
          have HY_ := Aside0.mk hY
          have HZ := Aside0.mk hZ
          clear hY hZ
          cases gk with
          | zero => have := HJ.out.2.2.1; omega
          | succ k2 =>
          go_wp2
          go_roundg k2
          case measure => omega
          case rel => exact ⟨j + 1, _, _, _, rfl, rfl, ⟨(tim_lc HA.out HY_.out HZ.out HJ.out.1 (by omega) HJ.out.2.2.2.2).2, nextI HJ.out.2.1 (by omega), by have := HJ.out.2.2.1; omega, by omega, row_step HJ.out.2.2.2.2⟩, ⟨HO.out.put12 (by omega) HS.out (tim_lc HA.out HY_.out HZ.out HJ.out.1 (by omega) HJ.out.2.2.2.2).1 rfl rfl⟩⟩
        · have c1 : decide (k < 6) = false := decide_eq_false c
          obtain rfl : j = 6 := by have := HJ.out.2; omega
          obtain ⟨S, hS⟩ : ∃ S : Int, wrap64 (i + 6) = S := ⟨_, rfl⟩
          have HS : Aside0 (S = ((n + 6 : Nat) : Int)) := ⟨addI (k := 6) HN.out.1 (by omega) hS⟩
          have p4 := eq_true (show 0 ≤ S from by have := HS.out; omega)
          have p5 := eq_true (show S < 12 from by have := HS.out; omega)
          have fr0 := HO.out.fr 0 rfl S.toNat
          obtain ⟨d0, d1⟩ := HO.out.cellZ 0 rfl HS.out (o12_get h (n + 6) (by omega))
          go_wp2
          go_roundg k1
          case measure => omega
          case rel => exact ⟨n + 1, _, _, rfl, ⟨nextI HN.out.1 (by omega), by have := HN.out.2.1; omega, by omega, row_end HY.out HJ.out.2.2.2.2⟩, ⟨HO.out.put12 (v := cyT (rowX x y n) (lb x n) y n 6 % 4294967296) (by omega) HS.out (by rw [HJ.out.1]; omega) rfl rfl⟩⟩
    · have c0 : decide (i < 6) = false := decide_eq_false c
      obtain rfl : n = 6 := by have := HN.out; omega
      have HF : Aside0 (∀ m, m < 12 → f m = lb (x * y) m) := ⟨by rw [← rowX_six HX.out]; exact HN.out.2.2.2⟩
      clear HN c
      go_wp2
      go_loopg [55] 7 (fun kq v55 w' => ∃ (n : Nat) (i : Int), v55 = .int .i64 i ∧ Aside0 (i = n ∧ n + kq = 7 ∧ n ≤ 6 ∧ ∀ m, m < n → lb (x * y) (6 + m) = 0) ∧ Aside0 (OB w.heap.size w w' [(g4, o12 f, 123), (g3, #[.int .u32 0, .int .u32 0, .int .u32 0, .int .u32 0, .int .u32 0, .int .u32 0], 111), (g2, A6 y, 111), (g1, A6 x, 111)]))
      case atStart => exact ⟨0, 0, rfl, ⟨rfl, rfl, by decide, fun m hm => absurd hm (by omega)⟩, ⟨HO.out⟩⟩
      case round =>
        clear HO
        obtain ⟨n, i, rfl, HN, HO⟩ := hrel
        by_cases c : i < 6
        · have hn : n < 6 := by have := HN.out.1; omega
          have c1 : decide (i < 6) = true := decide_eq_true c
          have p0 := eq_true (show 0 ≤ i from by have := HN.out.1; omega)
          have p1 := eq_true c
          clear c
          obtain ⟨D, hD⟩ : ∃ D : Int, D = (f (6 + n) : Int) := ⟨_, rfl⟩
          obtain ⟨d0, d1⟩ := HO.out.cellA 0 (o := 6) rfl HN.out.1 (hD ▸ o12_get f (6 + n) (by omega))
          have HD : Aside0 (D = ((lb (x * y) (6 + n) : Nat) : Int)) := ⟨by rw [hD, HF.out _ (by omega)]⟩
          clear hD
          by_cases l : D = 0
          · have l0 : (D == 0) = true := by rw [l]; rfl
            have HL := Aside0.mk l
            clear l
            cases gk with
            | zero => have := HN.out.2.1; omega
            | succ k2 =>
            go_wp2
            go_roundg k2
            case measure => omega
            case rel => exact ⟨n + 1, _, rfl, ⟨nextI HN.out.1 (by omega), by have := HN.out.2.1; omega, by omega, fun m hm => by have h1_ := HN.out.2.2.2 m; have h2_ := HD.out; have h3_ := HL.out; by_cases e : m < n; exact h1_ e; obtain rfl : m = n := (by omega); omega⟩, HO⟩
          · have l0 : (D == 0) = false := by simpa using l
            have HL := Aside0.mk (prod_over (P := x * y) hn (by have h2_ := HD.out; intro h_; exact l (by rw [h2_, h_]; rfl)))
            clear l
            go_wp2_with (first | ((with_reducible refine gate_store (t := 111) (p := 4) rfl ?_); refine store_event (t := 111) (p := 4) (v := ?vo_1) (w1 := (World.setCell (World.setCell (World.setCell (World.setCell (World.setCell (World.setCell wr ⟨g3, 0, none⟩ (.int .u32 0)) ⟨g3, 1, none⟩ (.int .u32 0)) ⟨g3, 2, none⟩ (.int .u32 0)) ⟨g3, 3, none⟩ (.int .u32 0)) ⟨g3, 4, none⟩ (.int .u32 0)) ⟨g3, 5, none⟩ (.int .u32 0))) ?hg ?ho ?hn ?hr ?_; (case ho => rfl); (case hg => rfl); (case hn => rfl); (case hr => (try simp only [Act.put, List.setIfInBounds_toArray, List.set_cons_zero, List.set_cons_succ]); exact run_put6_ rfl (show _ = Value.pointer (some ⟨g3, 0, none⟩) from by rfl) (show _ = Value.agg #[.int .u32 0, .int .u32 0, .int .u32 0, .int .u32 0, .int .u32 0, .int .u32 0] from by rfl) (HO.out.at 1 rfl) (by kernel_rfl) (by rfl)); intro w8 hw; replace HO := Aside0.mk (HO.out.put6 1 rfl hw rfl); clear hw))
            refine bodyPost_ret (results_ct rfl _ _ g3 111 #[.int .u32 0, .int .u32 0, .int .u32 0, .int .u32 0, .int .u32 0, .int .u32 0] (0, 0) _ rfl (HO.out.at 1 rfl) Try.underlying111 rfl (by kernel_rfl)) rfl ?_
            exact ⟨by rw [(timA_neg HL.out).1, (timA_neg HL.out).2]; rfl, HO.out.bel⟩
        · have c1 : decide (i < 6) = false := decide_eq_false c
          obtain rfl : n = 6 := by have := HN.out; omega
          have HP := Aside0.mk (prod_fits (prod_lt HX.out HY.out) HN.out.2.2.2)
          have k0 : wr.cell? ⟨g4, 0, none⟩ = some (.int .u32 ((lb (x * y) 0 : Nat) : Int)) := by rw [← HF.out 0 (by decide)]; exact HO.out.cell 0 rfl 0 rfl
          have k1 : wr.cell? ⟨g4, 1, none⟩ = some (.int .u32 ((lb (x * y) 1 : Nat) : Int)) := by rw [← HF.out 1 (by decide)]; exact HO.out.cell 0 rfl 1 rfl
          have k2 : wr.cell? ⟨g4, 2, none⟩ = some (.int .u32 ((lb (x * y) 2 : Nat) : Int)) := by rw [← HF.out 2 (by decide)]; exact HO.out.cell 0 rfl 2 rfl
          have k3 : wr.cell? ⟨g4, 3, none⟩ = some (.int .u32 ((lb (x * y) 3 : Nat) : Int)) := by rw [← HF.out 3 (by decide)]; exact HO.out.cell 0 rfl 3 rfl
          have k4 : wr.cell? ⟨g4, 4, none⟩ = some (.int .u32 ((lb (x * y) 4 : Nat) : Int)) := by rw [← HF.out 4 (by decide)]; exact HO.out.cell 0 rfl 4 rfl
          have k5 : wr.cell? ⟨g4, 5, none⟩ = some (.int .u32 ((lb (x * y) 5 : Nat) : Int)) := by rw [← HF.out 5 (by decide)]; exact HO.out.cell 0 rfl 5 rfl
          have ar := fun W => arr111 W g4
          go_wp2_with (first | ((with_reducible refine gate_store (t := 111) (p := 4) rfl ?_); refine store_event (t := 111) (p := 4) (v := ?vo_2) (w1 := (World.setCell (World.setCell (World.setCell (World.setCell (World.setCell (World.setCell wr ⟨g3, 0, none⟩ (.int .u32 ((lb (x * y) 0 : Nat) : Int))) ⟨g3, 1, none⟩ (.int .u32 ((lb (x * y) 1 : Nat) : Int))) ⟨g3, 2, none⟩ (.int .u32 ((lb (x * y) 2 : Nat) : Int))) ⟨g3, 3, none⟩ (.int .u32 ((lb (x * y) 3 : Nat) : Int))) ⟨g3, 4, none⟩ (.int .u32 ((lb (x * y) 4 : Nat) : Int))) ⟨g3, 5, none⟩ (.int .u32 ((lb (x * y) 5 : Nat) : Int)))) ?hg ?ho ?hn ?hr ?_; (case ho => rfl); (case hg => rfl); (case hn => rfl); (case hr => (try simp only [Act.put, List.setIfInBounds_toArray, List.set_cons_zero, List.set_cons_succ]); exact run_put6_ rfl (show _ = Value.pointer (some ⟨g3, 0, none⟩) from by rfl) (show _ = Value.agg #[.int .u32 ((lb (x * y) 0 : Nat) : Int), .int .u32 ((lb (x * y) 1 : Nat) : Int), .int .u32 ((lb (x * y) 2 : Nat) : Int), .int .u32 ((lb (x * y) 3 : Nat) : Int), .int .u32 ((lb (x * y) 4 : Nat) : Int), .int .u32 ((lb (x * y) 5 : Nat) : Int)] from by rfl) (HO.out.at 1 rfl) (by kernel_rfl) (by rfl)); intro w8 hw; replace HO := Aside0.mk (HO.out.put6 1 rfl hw rfl); clear hw))
          refine bodyPost_ret (results_ct rfl _ _ g3 111 #[.int .u32 ((lb (x * y) 0 : Nat) : Int), .int .u32 ((lb (x * y) 1 : Nat) : Int), .int .u32 ((lb (x * y) 2 : Nat) : Int), .int .u32 ((lb (x * y) 3 : Nat) : Int), .int .u32 ((lb (x * y) 4 : Nat) : Int), .int .u32 ((lb (x * y) 5 : Nat) : Int)] (0, 0) _ rfl (HO.out.at 1 rfl) Try.underlying111 rfl (by kernel_rfl)) rfl ?_
          exact ⟨by rw [(timA_pos HP.out).1, (timA_pos HP.out).2]; rfl, HO.out.bel⟩
end Go.Proofs.Ytbomadebdekjjaa.Wide
