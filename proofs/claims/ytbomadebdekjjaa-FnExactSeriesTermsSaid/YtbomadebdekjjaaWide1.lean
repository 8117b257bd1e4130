/- Own text of this session: wide numbers by hand walks. -/
import Derived.Test.YtbomadebdekjjaaWide0
namespace Go.Proofs.Ytbomadebdekjjaa.Wide
open Go.RowKit Go.Proofs.Ytbomadebdekjjaa.MOpen Go.Proofs.YtbomadebdekjjaaW.PrintWords Go.Proofs.YtbomadebdekjjaaW.PrintLast Go.Proofs.YtbomadebdekjjaaW.PrintMore
attribute [local go_sem] max2_int min2_int max_two min_two max_three min_three max_four min_four
set_option linter.unusedVariables false
set_option linter.unusedSimpArgs false
attribute [local go_sem high] eqA111 eqA126
set_option maxHeartbeats 8000000 in
set_option maxRecDepth 100000 in
theorem sPlus (w : World) (B0 O0 B1 O1 x y : Nat) (h0 : P6 w B0 O0 x) (h1 : P6 w B1 O1 y) :
    Calls Try.prog 113 #[.pointer (some ⟨B0, O0, none⟩), .pointer (some ⟨B1, O1, none⟩)] w fun e w' => e = .returned (.tuple #[.agg (A6 (x + y)), .bool (okP x y)]) ∧ Below w.heap.size w w' := by
  have H0 := Aside0.mk h0
  have H1 := Aside0.mk h1
  clear h0 h1
  have HO := Aside0.mk (OB.start w)
  go_enter Try.func113, Try.ntmps113
  have hu126 := Try.underlying126
  go_wp2_with (first | ((with_reducible refine gate_dst (N := 4) rfl ?_); refine box_event ?hg (N := 4) ?hd (cs := #[.int .u32 0, .int .u32 0, .int .u32 0, .int .u32 0, .int .u32 0, .int .u32 0]) (t := 126) ?hr ?_; (case hd => rfl); (case hg => rfl); (case hr => first | (go_simp; done) | (go_simp; rfl)); intro g1 hg w1 hbox hb; replace HO := Aside0.mk (HO.out.box hg hbox hb); clear hg hbox hb) | ((with_reducible refine gate_dst (N := 6) rfl ?_); refine box_event ?hg (N := 6) ?hd (cs := #[.int .u32 0, .int .u32 0, .int .u32 0, .int .u32 0, .int .u32 0, .int .u32 0]) (t := 126) ?hr ?_; (case hd => rfl); (case hg => rfl); (case hr => first | (go_simp; done) | (go_simp; rfl)); intro g2 hg w2 hbox hb; replace HO := Aside0.mk (HO.out.box hg hbox hb); clear hg hbox hb; obtain ⟨hc0, hc1, hc2, hc3, hc4, hc5⟩ := cells6_ (HO.out.at 0 rfl);obtain ⟨hf0, hf1, hf2, hf3, hf4, hf5⟩ := frozen6_ (HO.out.at 0 rfl)) | ((with_reducible refine gate_store (t := 126) (p := 6) rfl ?_); refine store_event (t := 126) (p := 6) (v := ?vo_1) (w1 := (World.setCell (World.setCell (World.setCell (World.setCell (World.setCell (World.setCell w2 ⟨g2, 0, none⟩ (.int .u32 0)) ⟨g2, 1, none⟩ (.int .u32 0)) ⟨g2, 2, none⟩ (.int .u32 0)) ⟨g2, 3, none⟩ (.int .u32 0)) ⟨g2, 4, none⟩ (.int .u32 0)) ⟨g2, 5, none⟩ (.int .u32 0))) ?hg ?ho ?hn ?hr ?_; (case ho => rfl); (case hg => rfl); (case hn => rfl); (case hr => (try simp only [Act.put, List.setIfInBounds_toArray, List.set_cons_zero, List.set_cons_succ]); exact run_put6_ rfl (show _ = Value.pointer (some ⟨g2, 0, none⟩) from by rfl) (show _ = Value.agg #[.int .u32 0, .int .u32 0, .int .u32 0, .int .u32 0, .int .u32 0, .int .u32 0] from by rfl) (HO.out.at 0 rfl) (by kernel_rfl) (by rfl)); intro w3 hw; replace HO := Aside0.mk (HO.out.put6 0 rfl hw rfl); clear hw))
  go_loopg [7, 8] 7 (fun kq v7 v8 w' => ∃ (n : Nat) (C i : Int), v7 = .int .u64 C ∧ v8 = .int .i64 i ∧ Aside0 (C = ((cyP x y n : Nat) : Int) ∧ i = n ∧ n + kq = 7 ∧ n ≤ 6) ∧ Aside0 (OB w.heap.size w w' [(g2, oA n (x + y), 126), (g1, Z6, 126)]))
  case atStart => exact ⟨0, 0, 0, rfl, rfl, ⟨by rw [cyP_zero]; rfl, rfl, rfl, by decide⟩, ⟨HO.out⟩⟩
  case round =>
    clear HO hc0 hc1 hc2 hc3 hc4 hc5 hf0 hf1 hf2 hf3 hf4 hf5
    obtain ⟨n, C, i, rfl, rfl, HN, HO⟩ := hrel
    by_cases c : i < 6
    · have hn : n < 6 := by have := HN.out.2.1; omega
      have c0 : decide (i < 6) = true := decide_eq_true c
      have p0 := eq_true (show 0 ≤ i from by have := HN.out.2.1; omega)
      have p1 := eq_true c
      obtain ⟨X, hX⟩ : ∃ X : Int, X = ((lb x n : Nat) : Int) := ⟨_, rfl⟩
      obtain ⟨Y, hY⟩ : ∃ Y : Int, Y = ((lb y n : Nat) : Int) := ⟨_, rfl⟩
      have q0 := H0.out.at HO.out.bel hn HN.out.2.1 hX
      have r0 := H0.out.at0 HO.out.bel hn HN.out.2.1 hX
      have r1 := H1.out.at0 HO.out.bel hn HN.out.2.1 hY
      have q1 := H1.out.at HO.out.bel hn HN.out.2.1 hY
      have HX := Aside0.mk hX
      have HY := Aside0.mk hY
      have fr0 := HO.out.fr 0 rfl i.toNat
      have wr0 := HO.out.cell 0 rfl i.toNat (show _ = _ from oA_get (by have := HN.out.2.1; omega))
      clear hX hY c
      go_wp2
      go_quiet (fail)
      go_wp2
      cases gk with
      | zero => have := HN.out.2.2; omega
      | succ k1 =>
      go_roundg k1
      case measure => omega
      case rel => exact ⟨n + 1, _, _, rfl, rfl, ⟨plus_c HX.out HY.out HN.out.1, nextI HN.out.2.1 (by omega), by have := HN.out.2.2; omega⟩, ⟨(HO.out.drewN nq).oA hn HN.out.2.1 (plus_l HX.out HY.out HN.out.1) rfl⟩⟩
    · have c0 : decide (i < 6) = false := decide_eq_false c
      obtain rfl : n = 6 := by have := HN.out; omega
      obtain ⟨hca0, hca1, hca2, hca3, hca4, hca5⟩ := cells6_ (show wr.heap[g2]? = some (.cells #[.int .u32 ((lb (x + y) 0 : Nat) : Int), .int .u32 ((lb (x + y) 1 : Nat) : Int), .int .u32 ((lb (x + y) 2 : Nat) : Int), .int .u32 ((lb (x + y) 3 : Nat) : Int), .int .u32 ((lb (x + y) 4 : Nat) : Int), .int .u32 ((lb (x + y) 5 : Nat) : Int)] _ (0, 0)) from HO.out.at 0 rfl)
      obtain ⟨hcb0, hcb1, hcb2, hcb3, hcb4, hcb5⟩ := cells6_ (show wr.heap[g1]? = some (.cells #[.int .u32 0, .int .u32 0, .int .u32 0, .int .u32 0, .int .u32 0, .int .u32 0] _ (0, 0)) from HO.out.at 1 rfl)
      obtain ⟨hfb0, hfb1, hfb2, hfb3, hfb4, hfb5⟩ := frozen6_ (HO.out.at 1 rfl)
      go_wp2_with (first | ((with_reducible refine gate_store (t := 126) (p := 4) rfl ?_); refine store_event (t := 126) (p := 4) (v := ?vo_2) (w1 := (World.setCell (World.setCell (World.setCell (World.setCell (World.setCell (World.setCell wr ⟨g1, 0, none⟩ (.int .u32 ((lb (x + y) 0 : Nat) : Int))) ⟨g1, 1, none⟩ (.int .u32 ((lb (x + y) 1 : Nat) : Int))) ⟨g1, 2, none⟩ (.int .u32 ((lb (x + y) 2 : Nat) : Int))) ⟨g1, 3, none⟩ (.int .u32 ((lb (x + y) 3 : Nat) : Int))) ⟨g1, 4, none⟩ (.int .u32 ((lb (x + y) 4 : Nat) : Int))) ⟨g1, 5, none⟩ (.int .u32 ((lb (x + y) 5 : Nat) : Int)))) ?hg ?ho ?hn ?hr ?_; (case ho => rfl); (case hg => rfl); (case hn => rfl); (case hr => (try simp only [Act.put, List.setIfInBounds_toArray, List.set_cons_zero, List.set_cons_succ]); exact run_put6_ rfl (show _ = Value.pointer (some ⟨g1, 0, none⟩) from by rfl) (show _ = Value.agg #[.int .u32 ((lb (x + y) 0 : Nat) : Int), .int .u32 ((lb (x + y) 1 : Nat) : Int), .int .u32 ((lb (x + y) 2 : Nat) : Int), .int .u32 ((lb (x + y) 3 : Nat) : Int), .int .u32 ((lb (x + y) 4 : Nat) : Int), .int .u32 ((lb (x + y) 5 : Nat) : Int)] from by rfl) (HO.out.at 1 rfl) (by kernel_rfl) (by rfl)); intro w5 hw; replace HO := Aside0.mk (HO.out.put6 1 rfl hw rfl); clear hw))
      refine bodyPost_ret (results_ct rfl _ _ g1 126 (A6 (x + y)) (0, 0) _ rfl (HO.out.at 1 rfl) Try.underlying126 rfl (by kernel_rfl)) rfl ?_
      exact ⟨congrArg (fun z => Ending.returned (.tuple #[.agg (A6 (x + y)), .bool z])) (okP_eq HN.out.1), HO.out.bel⟩
set_option maxHeartbeats 8000000 in
set_option maxRecDepth 100000 in
theorem sCmp (w : World) (B0 O0 B1 O1 x y : Nat) (h0 : P6 w B0 O0 x) (h1 : P6 w B1 O1 y) (hx : x < 4294967296 ^ 6) (hy : y < 4294967296 ^ 6) :
    Calls Try.prog 114 #[.pointer (some ⟨B0, O0, none⟩), .pointer (some ⟨B1, O1, none⟩)] w fun e w' => e = .returned (.int .i64 (cmpN x y)) ∧ Below w.heap.size w w' := by
  have H0 := Aside0.mk h0
  have H1 := Aside0.mk h1
  have HX := Aside0.mk hx
  have HY := Aside0.mk hy
  clear h0 h1 hx hy
  have HO := Aside0.mk (OB.start w)
  go_enter Try.func114, Try.ntmps114
  go_wp2
  go_loopg [5] 7 (fun kq v5 w' => ∃ (n : Nat) (i : Int), v5 = .int .i64 i ∧ Aside0 (i = (n : Int) - 1 ∧ n + 1 = kq ∧ n ≤ 6 ∧ x / 4294967296 ^ n = y / 4294967296 ^ n) ∧ Aside0 (OB w.heap.size w w' []))
  case atStart => exact ⟨6, 5, rfl, ⟨rfl, rfl, by decide, by rw [top_six HX.out, top_six HY.out]⟩, HO⟩
  case round =>
    clear HO HX HY
    obtain ⟨n, i, rfl, HN, HO⟩ := hrel
    by_cases c : 0 ≤ i
    · obtain ⟨m, rfl⟩ : ∃ m, n = m + 1 := ⟨n - 1, by have := HN.out.1; omega⟩
      have hm : m < 6 := by have := HN.out.2.2.1; omega
      have HI : Aside0 (i = (m : Int)) := ⟨by have := HN.out.1; omega⟩
      have c0 : decide (0 ≤ i) = true := decide_eq_true c
      have p0 := eq_true c
      have p1 := eq_true (show i < 6 from by have := HI.out; omega)
      clear c
      obtain ⟨X, hX⟩ : ∃ X : Int, X = ((lb x m : Nat) : Int) := ⟨_, rfl⟩
      obtain ⟨Y, hY⟩ : ∃ Y : Int, Y = ((lb y m : Nat) : Int) := ⟨_, rfl⟩
      have q0 := H0.out.at HO.out.bel hm HI.out hX
      have r0 := H0.out.at0 HO.out.bel hm HI.out hX
      have r1 := H1.out.at0 HO.out.bel hm HI.out hY
      have q1 := H1.out.at HO.out.bel hm HI.out hY
      have HX := Aside0.mk hX
      have HY := Aside0.mk hY
      clear hX hY
      by_cases l : X < Y
      · have l0 : decide (X < Y) = true := decide_eq_true l
        go_wp2
        go_quiet (fail)
        go_wp2
        go_ret
        exact ⟨congrArg (fun z => Ending.returned (.int .i64 z)) (cmp_lt HN.out.2.2.2 HX.out HY.out l).symm, (HO.out.drewN nq).bel⟩
      · have l0 : decide (X < Y) = false := decide_eq_false l
        by_cases l2 : Y < X
        · have l3 : decide (Y < X) = true := decide_eq_true l2
          go_wp2
          go_quiet (fail)
          go_wp2
          go_quiet (fail)
          go_wp2
          go_ret
          exact ⟨congrArg (fun z => Ending.returned (.int .i64 z)) (cmp_gt HN.out.2.2.2 HX.out HY.out l2).symm, by repeat (first | exact HO.out.bel | apply pw_below_drewN)⟩
        · have l3 : decide (Y < X) = false := decide_eq_false l2
          go_wp2
          go_quiet (fail)
          go_wp2
          go_quiet (fail)
          go_wp2
          cases gk with
          | zero => have := HN.out.2.1; omega
          | succ k1 =>
          go_roundg k1
          case measure => omega
          case rel => exact ⟨m, _, rfl, ⟨prevI HI.out (by omega), by have := HN.out.2.1; omega, by omega, top_eq HN.out.2.2.2 (by have h1_ := HX.out; have h2_ := HY.out; omega)⟩, ⟨by repeat (first | exact HO.out | apply OB.drewN)⟩⟩
    · obtain rfl : n = 0 := by have := HN.out.1; omega
      have c0 : decide (0 ≤ i) = false := decide_eq_false c
      go_wp2
      go_ret
      exact ⟨congrArg (fun z => Ending.returned (.int .i64 z)) (cmp_eq HN.out.2.2.2).symm, HO.out.bel⟩
set_option maxHeartbeats 8000000 in
set_option maxRecDepth 100000 in
theorem sMinus (w : World) (B0 O0 B1 O1 x y : Nat) (h0 : P6 w B0 O0 x) (h1 : P6 w B1 O1 y) (hx_ : y ≤ x) :
    Calls Try.prog 115 #[.pointer (some ⟨B0, O0, none⟩), .pointer (some ⟨B1, O1, none⟩)] w fun e w' => e = .returned (.agg (A6 (x - y))) ∧ Below w.heap.size w w' := by
  have H0 := Aside0.mk h0
  have H1 := Aside0.mk h1
  have HX_ := Aside0.mk hx_
  clear h0 h1 hx_
  have HO := Aside0.mk (OB.start w)
  go_enter Try.func115, Try.ntmps115
  have hu126 := Try.underlying126
  go_wp2_with (first | ((with_reducible refine gate_dst (N := 4) rfl ?_); refine box_event ?hg (N := 4) ?hd (cs := #[.int .u32 0, .int .u32 0, .int .u32 0, .int .u32 0, .int .u32 0, .int .u32 0]) (t := 126) ?hr ?_; (case hd => rfl); (case hg => rfl); (case hr => first | (go_simp; done) | (go_simp; rfl)); intro g1 hg w1 hbox hb; replace HO := Aside0.mk (HO.out.box hg hbox hb); clear hg hbox hb) | ((with_reducible refine gate_dst (N := 5) rfl ?_); refine box_event ?hg (N := 5) ?hd (cs := #[.int .u32 0, .int .u32 0, .int .u32 0, .int .u32 0, .int .u32 0, .int .u32 0]) (t := 126) ?hr ?_; (case hd => rfl); (case hg => rfl); (case hr => first | (go_simp; done) | (go_simp; rfl)); intro g2 hg w2 hbox hb; replace HO := Aside0.mk (HO.out.box hg hbox hb); clear hg hbox hb; obtain ⟨hc0, hc1, hc2, hc3, hc4, hc5⟩ := cells6_ (HO.out.at 0 rfl);obtain ⟨hf0, hf1, hf2, hf3, hf4, hf5⟩ := frozen6_ (HO.out.at 0 rfl)) | ((with_reducible refine gate_store (t := 126) (p := 5) rfl ?_); refine store_event (t := 126) (p := 5) (v := ?vo_1) (w1 := (World.setCell (World.setCell (World.setCell (World.setCell (World.setCell (World.setCell w2 ⟨g2, 0, none⟩ (.int .u32 0)) ⟨g2, 1, none⟩ (.int .u32 0)) ⟨g2, 2, none⟩ (.int .u32 0)) ⟨g2, 3, none⟩ (.int .u32 0)) ⟨g2, 4, none⟩ (.int .u32 0)) ⟨g2, 5, none⟩ (.int .u32 0))) ?hg ?ho ?hn ?hr ?_; (case ho => rfl); (case hg => rfl); (case hn => rfl); (case hr => (try simp only [Act.put, List.setIfInBounds_toArray, List.set_cons_zero, List.set_cons_succ]); exact run_put6_ rfl (show _ = Value.pointer (some ⟨g2, 0, none⟩) from by rfl) (show _ = Value.agg #[.int .u32 0, .int .u32 0, .int .u32 0, .int .u32 0, .int .u32 0, .int .u32 0] from by rfl) (HO.out.at 0 rfl) (by kernel_rfl) (by rfl)); intro w3 hw; replace HO := Aside0.mk (HO.out.put6 0 rfl hw rfl); clear hw))
  go_loopg [6, 7, 8] 7 (fun kq v6 v7 v8 w' => ∃ (n : Nat) (C i : Int), v6 = .int .i64 C ∧ v7 = .int .i64 i ∧ Aside0 (C = ((bwM x y n : Nat) : Int) ∧ i = n ∧ n + kq = 7 ∧ n ≤ 6) ∧ Aside0 (OB w.heap.size w w' [(g2, oA n (x - y), 126), (g1, Z6, 126)]))
  case atStart => exact ⟨0, 0, 0, rfl, rfl, ⟨by rw [bwM_zero]; rfl, rfl, rfl, by decide⟩, ⟨HO.out⟩⟩
  case round =>
    clear HO hc0 hc1 hc2 hc3 hc4 hc5 hf0 hf1 hf2 hf3 hf4 hf5
    obtain ⟨n, C, i, rfl, rfl, HN, HO⟩ := hrel
    by_cases c : i < 6
    · have hn : n < 6 := by have := HN.out.2.1; omega
      have c0 : decide (i < 6) = true := decide_eq_true c
      have p0 := eq_true (show 0 ≤ i from by have := HN.out.2.1; omega)
      have p1 := eq_true c
      clear c
      obtain ⟨X, hX⟩ : ∃ X : Int, X = ((lb x n : Nat) : Int) := ⟨_, rfl⟩
      obtain ⟨Y, hY⟩ : ∃ Y : Int, Y = ((lb y n : Nat) : Int) := ⟨_, rfl⟩
      have q0 := H0.out.at HO.out.bel hn HN.out.2.1 hX
      have r0 := H0.out.at0 HO.out.bel hn HN.out.2.1 hX
      have r1 := H1.out.at0 HO.out.bel hn HN.out.2.1 hY
      have q1 := H1.out.at HO.out.bel hn HN.out.2.1 hY
      have HX := Aside0.mk hX
      have HY := Aside0.mk hY
      clear hX hY
      have fr0 := HO.out.fr 0 rfl i.toNat
      have wr0 := HO.out.cell 0 rfl i.toNat (show _ = _ from oA_get (by have := HN.out.2.1; omega))
      by_cases l : wrap64 (wrap64 (wrap64 X - wrap64 Y) - C) < 0
      · have l0 : decide (wrap64 (wrap64 (wrap64 X - wrap64 Y) - C) < 0) = true := decide_eq_true l
        go_wp2
        go_quiet (fail)
        go_wp2
        cases gk with
        | zero => have := HN.out.2.2; omega
        | succ k1 =>
        go_roundg k1
        case measure => omega
        case rel => exact ⟨n + 1, _, _, rfl, rfl, ⟨(min_c HX.out HY.out HN.out.1).1 l, nextI HN.out.2.1 (by omega), by have := HN.out.2.2; omega⟩, ⟨(HO.out.drewN nq).oA hn HN.out.2.1 (min_l HX_.out HX.out HY.out HN.out.1).2 rfl⟩⟩
      · have l0 : decide (wrap64 (wrap64 (wrap64 X - wrap64 Y) - C) < 0) = false := decide_eq_false l
        go_wp2
        go_quiet (fail)
        go_wp2
        cases gk with
        | zero => have := HN.out.2.2; omega
        | succ k1 =>
        go_roundg k1
        case measure => omega
        case rel => exact ⟨n + 1, _, _, rfl, rfl, ⟨(min_c HX.out HY.out HN.out.1).2 (Int.not_lt.mpr l), nextI HN.out.2.1 (by omega), by have := HN.out.2.2; omega⟩, ⟨(HO.out.drewN nq).oA hn HN.out.2.1 (min_l HX_.out HX.out HY.out HN.out.1).1 rfl⟩⟩
    · have c0 : decide (i < 6) = false := decide_eq_false c
      obtain rfl : n = 6 := by have := HN.out; omega
      obtain ⟨hca0, hca1, hca2, hca3, hca4, hca5⟩ := cells6_ (show wr.heap[g2]? = some (.cells #[.int .u32 ((lb (x - y) 0 : Nat) : Int), .int .u32 ((lb (x - y) 1 : Nat) : Int), .int .u32 ((lb (x - y) 2 : Nat) : Int), .int .u32 ((lb (x - y) 3 : Nat) : Int), .int .u32 ((lb (x - y) 4 : Nat) : Int), .int .u32 ((lb (x - y) 5 : Nat) : Int)] _ (0, 0)) from HO.out.at 0 rfl)
      obtain ⟨hcb0, hcb1, hcb2, hcb3, hcb4, hcb5⟩ := cells6_ (show wr.heap[g1]? = some (.cells #[.int .u32 0, .int .u32 0, .int .u32 0, .int .u32 0, .int .u32 0, .int .u32 0] _ (0, 0)) from HO.out.at 1 rfl)
      obtain ⟨hfb0, hfb1, hfb2, hfb3, hfb4, hfb5⟩ := frozen6_ (HO.out.at 1 rfl)
      go_wp2_with (first | ((with_reducible refine gate_store (t := 126) (p := 4) rfl ?_); refine store_event (t := 126) (p := 4) (v := ?vo_2) (w1 := (World.setCell (World.setCell (World.setCell (World.setCell (World.setCell (World.setCell wr ⟨g1, 0, none⟩ (.int .u32 ((lb (x - y) 0 : Nat) : Int))) ⟨g1, 1, none⟩ (.int .u32 ((lb (x - y) 1 : Nat) : Int))) ⟨g1, 2, none⟩ (.int .u32 ((lb (x - y) 2 : Nat) : Int))) ⟨g1, 3, none⟩ (.int .u32 ((lb (x - y) 3 : Nat) : Int))) ⟨g1, 4, none⟩ (.int .u32 ((lb (x - y) 4 : Nat) : Int))) ⟨g1, 5, none⟩ (.int .u32 ((lb (x - y) 5 : Nat) : Int)))) ?hg ?ho ?hn ?hr ?_; (case ho => rfl); (case hg => rfl); (case hn => rfl); (case hr => (try simp only [Act.put, List.setIfInBounds_toArray, List.set_cons_zero, List.set_cons_succ]); exact run_put6_ rfl (show _ = Value.pointer (some ⟨g1, 0, none⟩) from by rfl) (show _ = Value.agg #[.int .u32 ((lb (x - y) 0 : Nat) : Int), .int .u32 ((lb (x - y) 1 : Nat) : Int), .int .u32 ((lb (x - y) 2 : Nat) : Int), .int .u32 ((lb (x - y) 3 : Nat) : Int), .int .u32 ((lb (x - y) 4 : Nat) : Int), .int .u32 ((lb (x - y) 5 : Nat) : Int)] from by rfl) (HO.out.at 1 rfl) (by kernel_rfl) (by rfl)); intro w5 hw; replace HO := Aside0.mk (HO.out.put6 1 rfl hw rfl); clear hw))
      refine bodyPost_ret (results_cell_row rfl _ _ g1 126 (A6 (x - y)) (0, 0) _ rfl (HO.out.at 1 rfl) Try.underlying126 rfl (by kernel_rfl)) rfl ?_
      exact ⟨rfl, HO.out.bel⟩
set_option maxHeartbeats 8000000 in
set_option maxRecDepth 100000 in
theorem sZero (w : World) (B0 O0 x : Nat) (h0 : P6 w B0 O0 x) (hx : x < 4294967296 ^ 6) :
    Calls Try.prog 124 #[.pointer (some ⟨B0, O0, none⟩)] w fun e w' => e = .returned (.bool (zN x)) ∧ Below w.heap.size w w' := by
  have H0 := Aside0.mk h0
  have HX := Aside0.mk hx
  clear h0 hx
  have HO := Aside0.mk (OB.start w)
  go_enter Try.func124, Try.ntmps124
  have hu126 := Try.underlying126
  have q0 := H0.out 0 (by decide)
  have q1 := H0.out 1 (by decide)
  have q2 := H0.out 2 (by decide)
  have q3 := H0.out 3 (by decide)
  have q4 := H0.out 4 (by decide)
  have q5 := H0.out 5 (by decide)
  rw [Nat.add_zero] at q0
  go_wp2
  go_ret
  exact ⟨congrArg (fun z => Ending.returned (.bool z)) (zero_lb HX.out), by repeat (first | exact HO.out.bel | apply pw_below_drewN | apply below_drew)⟩
set_option maxHeartbeats 8000000 in
set_option maxRecDepth 100000 in
theorem sMadeF (w : World) (x : Nat) (hx : x < 4294967296 ^ 6) :
    Calls Try.prog 112 #[.bool false, .agg (A6 x)] w fun e w' => e = .returned (.agg (W7 false x)) ∧ Below w.heap.size w w' := by
  unfold A6
  have HX := Aside0.mk hx
  clear hx
  have HO := Aside0.mk (OB.start w)
  go_enter Try.func112, Try.ntmps112
  go_wp2_with (first | ((with_reducible refine gate_dst (N := 3) rfl ?_); refine box_event ?hg (N := 3) ?hd (cs := #[.int .u32 ((lb x 0 : Nat) : Int), .int .u32 ((lb x 1 : Nat) : Int), .int .u32 ((lb x 2 : Nat) : Int), .int .u32 ((lb x 3 : Nat) : Int), .int .u32 ((lb x 4 : Nat) : Int), .int .u32 ((lb x 5 : Nat) : Int)]) (t := 126) ?hr ?_; (case hd => rfl); (case hg => rfl); (case hr => first | (go_simp; done) | (go_simp; rfl)); intro g1 hg w1 hbox hb; replace HO := Aside0.mk (HO.out.box hg hbox hb); clear hg hbox hb) | ((with_reducible refine gate_dst (N := 4) rfl ?_); refine box_event ?hg (N := 4) ?hd (cs := #[.bool false, .int .u32 0, .int .u32 0, .int .u32 0, .int .u32 0, .int .u32 0, .int .u32 0]) (t := 25) ?hr ?_; (case hd => rfl); (case hg => rfl); (case hr => first | (go_simp; done) | (go_simp; rfl)); intro g2 hg w2 hbox hb; replace HO := Aside0.mk (HO.out.box hg hbox hb); clear hg hbox hb))
  replace HO := Aside0.mk HO.out.drew
  refine start_ (n := 8) (S := fun w' => w'.cell? ⟨g1, 0, none⟩ = some (.int .u32 ((lb x 0 : Nat) : Int)) ∧ w'.cell? ⟨g1, 1, none⟩ = some (.int .u32 ((lb x 1 : Nat) : Int)) ∧ w'.cell? ⟨g1, 2, none⟩ = some (.int .u32 ((lb x 2 : Nat) : Int)) ∧ w'.cell? ⟨g1, 3, none⟩ = some (.int .u32 ((lb x 3 : Nat) : Int)) ∧ w'.cell? ⟨g1, 4, none⟩ = some (.int .u32 ((lb x 4 : Nat) : Int)) ∧ w'.cell? ⟨g1, 5, none⟩ = some (.int .u32 ((lb x 5 : Nat) : Int))) (ds := [7]) #[false, false, false, false, false, false, false, false] (by kernel_rfl) rfl rfl ⟨HO.out.cell 1 rfl 0 rfl, HO.out.cell 1 rfl 1 rfl, HO.out.cell 1 rfl 2 rfl, HO.out.cell 1 rfl 3 rfl, HO.out.cell 1 rfl 4 rfl, HO.out.cell 1 rfl 5 rfl⟩ (fun hHeld => ?_)
  refine pure_ (i := 0) (N := some 5) (v := ?_) (a' := ?_) #[true, false, false, false, false, false, false, false] rfl rfl (by kernel_rfl) (fun _ _ _ h => h) (Or.inl ⟨by rfl, ?_⟩) ?_ ?_
  rotate_left
  · intro w'
    go_simp
    with_reducible rfl
  rotate_left
  · simp only [Act.put, List.setIfInBounds_toArray, List.set_cons_zero, List.set_cons_succ, i64_w, i32_w]
    rfl
  refine pure_ (i := 1) (N := some 6) (v := ?_) (a' := ?_) #[true, true, false, false, false, false, false, false] rfl rfl (by kernel_rfl) (fun _ _ _ h => h) (Or.inl ⟨by rfl, ?_⟩) ?_ ?_
  rotate_left
  · intro w'
    go_simp
    with_reducible rfl
  rotate_left
  · simp only [Act.put, List.setIfInBounds_toArray, List.set_cons_zero, List.set_cons_succ, i64_w, i32_w]
    rfl
  refine pure_ (i := 2) (N := some 7) (v := undef) (a' := ?_) #[true, true, true, false, false, false, false, false] rfl rfl (by kernel_rfl) (fun _ _ _ h => h) (Or.inr ⟨by rfl, rfl⟩) ?_ ?_
  rotate_left
  · simp only [Act.put, List.setIfInBounds_toArray, List.set_cons_zero, List.set_cons_succ, i64_w, i32_w]
    rfl
  refine pure_ (i := 3) (N := some 8) (v := undef) (a' := ?_) #[true, true, true, true, false, false, false, false] rfl rfl (by kernel_rfl) (fun _ _ _ h => h) (Or.inr ⟨by rfl, rfl⟩) ?_ ?_
  rotate_left
  · simp only [Act.put, List.setIfInBounds_toArray, List.set_cons_zero, List.set_cons_succ, i64_w, i32_w]
    rfl
  refine pure_ (i := 4) (N := some 9) (v := ?_) (a' := ?_) #[true, true, true, true, true, false, false, false] rfl rfl (by kernel_rfl) (fun _ _ _ h => h) (Or.inl ⟨by rfl, ?_⟩) ?_ ?_
  rotate_left
  · intro w'
    go_simp
    with_reducible rfl
  rotate_left
  · simp only [Act.put, List.setIfInBounds_toArray, List.set_cons_zero, List.set_cons_succ, i64_w, i32_w]
    rfl
  refine take_ (i := 5) (N := some 10) (v := ?_) (a' := ?_) #[true, true, true, true, true, true, false, false] rfl rfl (by kernel_rfl) (fun _ _ _ h => h) (Or.inl ⟨by rfl, ?_⟩) hHeld ?_ ?_
  rotate_left
  · rintro w' ⟨s0, s1, s2, s3, s4, s5⟩
    go_simp
    with_reducible rfl
  rotate_left
  · simp only [Act.put, List.setIfInBounds_toArray, List.set_cons_zero, List.set_cons_succ, i64_w, i32_w]
    rfl
  refine pure_ (i := 6) (N := some 11) (v := ?_) (a' := ?_) #[true, true, true, true, true, true, true, false] rfl rfl (by kernel_rfl) (fun _ _ _ h => h) (Or.inl ⟨by rfl, ?_⟩) ?_ ?_
  rotate_left
  · intro w'
    go_simp
    with_reducible rfl
  rotate_left
  · simp only [Act.put, List.setIfInBounds_toArray, List.set_cons_zero, List.set_cons_succ, i64_w, i32_w]
    rfl
  refine last_store_ (i := 7) (w1 := (World.setCell (World.setCell (World.setCell (World.setCell (World.setCell (World.setCell (World.setCell w2.drew ⟨g2, 0, none⟩ (.bool false)) ⟨g2, 1, none⟩ (.int .u32 ((lb x 0 : Nat) : Int))) ⟨g2, 2, none⟩ (.int .u32 ((lb x 1 : Nat) : Int))) ⟨g2, 3, none⟩ (.int .u32 ((lb x 2 : Nat) : Int))) ⟨g2, 4, none⟩ (.int .u32 ((lb x 3 : Nat) : Int))) ⟨g2, 5, none⟩ (.int .u32 ((lb x 4 : Nat) : Int))) ⟨g2, 6, none⟩ (.int .u32 ((lb x 5 : Nat) : Int)))) #[true, true, true, true, true, true, true, true] rfl rfl (by kernel_rfl) (by decide) (by rfl) (run_put7_ rfl (show _ = Value.pointer (some ⟨g2, 0, none⟩) from by rfl) (show _ = Value.agg #[.bool false, .int .u32 ((lb x 0 : Nat) : Int), .int .u32 ((lb x 1 : Nat) : Int), .int .u32 ((lb x 2 : Nat) : Int), .int .u32 ((lb x 3 : Nat) : Int), .int .u32 ((lb x 4 : Nat) : Int), .int .u32 ((lb x 5 : Nat) : Int)] from by rfl) (HO.out.at 0 rfl) (by kernel_rfl) (by rfl)) ?_
  refine done_ (by kernel_rfl) ?_
  generalize hw5 : (World.setCell (World.setCell (World.setCell (World.setCell (World.setCell (World.setCell (World.setCell w2.drew ⟨g2, 0, none⟩ (.bool false)) ⟨g2, 1, none⟩ (.int .u32 ((lb x 0 : Nat) : Int))) ⟨g2, 2, none⟩ (.int .u32 ((lb x 1 : Nat) : Int))) ⟨g2, 3, none⟩ (.int .u32 ((lb x 2 : Nat) : Int))) ⟨g2, 4, none⟩ (.int .u32 ((lb x 3 : Nat) : Int))) ⟨g2, 5, none⟩ (.int .u32 ((lb x 4 : Nat) : Int))) ⟨g2, 6, none⟩ (.int .u32 ((lb x 5 : Nat) : Int))) = w5
  replace HO := Aside0.mk (HO.out.put7 0 rfl hw5.symm rfl)
  clear hw5
  go_wp2
  refine bodyPost_ret (results_cell_row rfl _ _ g2 25 #[.bool false, .int .u32 ((lb x 0 : Nat) : Int), .int .u32 ((lb x 1 : Nat) : Int), .int .u32 ((lb x 2 : Nat) : Int), .int .u32 ((lb x 3 : Nat) : Int), .int .u32 ((lb x 4 : Nat) : Int), .int .u32 ((lb x 5 : Nat) : Int)] (0, 0) _ rfl (HO.out.at 0 rfl) Try.underlying25 rfl (by kernel_rfl)) rfl ?_
  exact ⟨rfl, HO.out.bel⟩
set_option maxHeartbeats 8000000 in
set_option maxRecDepth 100000 in
theorem sMadeT (w : World) (x : Nat) (hx : x < 4294967296 ^ 6) :
    Calls Try.prog 112 #[.bool true, .agg (A6 x)] w fun e w' => e = .returned (.agg (W7 (!(zN x)) x)) ∧ Below w.heap.size w w' := by
  unfold A6
  have HX := Aside0.mk hx
  clear hx
  have HO := Aside0.mk (OB.start w)
  go_enter Try.func112, Try.ntmps112
  go_wp2_with (first | ((with_reducible refine gate_dst (N := 3) rfl ?_); refine box_event ?hg (N := 3) ?hd (cs := #[.int .u32 ((lb x 0 : Nat) : Int), .int .u32 ((lb x 1 : Nat) : Int), .int .u32 ((lb x 2 : Nat) : Int), .int .u32 ((lb x 3 : Nat) : Int), .int .u32 ((lb x 4 : Nat) : Int), .int .u32 ((lb x 5 : Nat) : Int)]) (t := 126) ?hr ?_; (case hd => rfl); (case hg => rfl); (case hr => first | (go_simp; done) | (go_simp; rfl)); intro g1 hg w1 hbox hb; replace HO := Aside0.mk (HO.out.box hg hbox hb); clear hg hbox hb) | ((with_reducible refine gate_dst (N := 4) rfl ?_); refine box_event ?hg (N := 4) ?hd (cs := #[.bool false, .int .u32 0, .int .u32 0, .int .u32 0, .int .u32 0, .int .u32 0, .int .u32 0]) (t := 25) ?hr ?_; (case hd => rfl); (case hg => rfl); (case hr => first | (go_simp; done) | (go_simp; rfl)); intro g2 hg w2 hbox hb; replace HO := Aside0.mk (HO.out.box hg hbox hb); clear hg hbox hb))
  replace HO := Aside0.mk HO.out.drew
  refine start_ (n := 8) (S := fun w' => w'.cell? ⟨g1, 0, none⟩ = some (.int .u32 ((lb x 0 : Nat) : Int)) ∧ w'.cell? ⟨g1, 1, none⟩ = some (.int .u32 ((lb x 1 : Nat) : Int)) ∧ w'.cell? ⟨g1, 2, none⟩ = some (.int .u32 ((lb x 2 : Nat) : Int)) ∧ w'.cell? ⟨g1, 3, none⟩ = some (.int .u32 ((lb x 3 : Nat) : Int)) ∧ w'.cell? ⟨g1, 4, none⟩ = some (.int .u32 ((lb x 4 : Nat) : Int)) ∧ w'.cell? ⟨g1, 5, none⟩ = some (.int .u32 ((lb x 5 : Nat) : Int))) (ds := [7]) #[false, false, false, false, false, false, false, false] (by kernel_rfl) rfl rfl ⟨HO.out.cell 1 rfl 0 rfl, HO.out.cell 1 rfl 1 rfl, HO.out.cell 1 rfl 2 rfl, HO.out.cell 1 rfl 3 rfl, HO.out.cell 1 rfl 4 rfl, HO.out.cell 1 rfl 5 rfl⟩ (fun hHeld => ?_)
  refine pure_ (i := 0) (N := some 5) (v := ?_) (a' := ?_) #[true, false, false, false, false, false, false, false] rfl rfl (by kernel_rfl) (fun _ _ _ h => h) (Or.inl ⟨by rfl, ?_⟩) ?_ ?_
  rotate_left
  · intro w'
    go_simp
    with_reducible rfl
  rotate_left
  · simp only [Act.put, List.setIfInBounds_toArray, List.set_cons_zero, List.set_cons_succ, i64_w, i32_w]
    rfl
  refine pure_ (i := 1) (N := some 6) (v := ?_) (a' := ?_) #[true, true, false, false, false, false, false, false] rfl rfl (by kernel_rfl) (fun _ _ _ h => h) (Or.inl ⟨by rfl, ?_⟩) ?_ ?_
  rotate_left
  · intro w'
    go_simp
    with_reducible rfl
  rotate_left
  · simp only [Act.put, List.setIfInBounds_toArray, List.set_cons_zero, List.set_cons_succ, i64_w, i32_w]
    rfl
  refine take_ (i := 5) (N := some 10) (v := ?_) (a' := ?_) #[true, true, false, false, false, true, false, false] rfl rfl (by kernel_rfl) (fun _ _ _ h => h) (Or.inl ⟨by rfl, ?_⟩) hHeld ?_ ?_
  rotate_left
  · rintro w' ⟨s0, s1, s2, s3, s4, s5⟩
    go_simp
    with_reducible rfl
  rotate_left
  · simp only [Act.put, List.setIfInBounds_toArray, List.set_cons_zero, List.set_cons_succ, i64_w, i32_w]
    rfl
  refine one_ (i := 2) (N := some 7) #[true, true, true, false, false, true, false, false] rfl rfl (by kernel_rfl) (by decide) (fun K hK => ?_)
  refine goes_ Try.func124 (by kernel_rfl) rfl #[.pointer (some ⟨g1, 0, none⟩)] (by rfl) rfl rfl (by simp only [List.map_toArray, List.map_cons, List.map_nil]; rfl) ?_
  with_reducible refine (sZero _ g1 0 x (P6.blk (HO.out.at 1 rfl)) HX.out).mono ?_
  rintro e w4 ⟨rfl, hb⟩
  refine ⟨_, rfl, ?_⟩
  replace HO := Aside0.mk (HO.out.below hb)
  clear hb
  refine hK.out _ _ ⟨HO.out.cell 1 rfl 0 rfl, HO.out.cell 1 rfl 1 rfl, HO.out.cell 1 rfl 2 rfl, HO.out.cell 1 rfl 3 rfl, HO.out.cell 1 rfl 4 rfl, HO.out.cell 1 rfl 5 rfl⟩ (fun hHeld => ?_)
  clear hK K
  refine norm_ (a' := ?_) ?_ ?_
  rotate_left
  · show Act.put _ (some 7) _ = _
    simp only [Act.put, List.setIfInBounds_toArray, List.set_cons_zero, List.set_cons_succ, i64_w, i32_w]
    rfl
  refine pure_ (i := 3) (N := some 8) (v := ?_) (a' := ?_) #[true, true, true, true, false, true, false, false] rfl rfl (by kernel_rfl) (fun _ _ _ h => h) (Or.inl ⟨by rfl, ?_⟩) ?_ ?_
  rotate_left
  · intro w'
    go_simp
    with_reducible rfl
  rotate_left
  · simp only [Act.put, List.setIfInBounds_toArray, List.set_cons_zero, List.set_cons_succ, i64_w, i32_w]
    rfl
  refine pure_ (i := 4) (N := some 9) (v := ?_) (a' := ?_) #[true, true, true, true, true, true, false, false] rfl rfl (by kernel_rfl) (fun _ _ _ h => h) (Or.inl ⟨by rfl, ?_⟩) ?_ ?_
  rotate_left
  · intro w'
    go_simp
    with_reducible rfl
  rotate_left
  · simp only [Act.put, List.setIfInBounds_toArray, List.set_cons_zero, List.set_cons_succ, i64_w, i32_w]
    rfl
  refine pure_ (i := 6) (N := some 11) (v := ?_) (a' := ?_) #[true, true, true, true, true, true, true, false] rfl rfl (by kernel_rfl) (fun _ _ _ h => h) (Or.inl ⟨by rfl, ?_⟩) ?_ ?_
  rotate_left
  · intro w'
    go_simp
    with_reducible rfl
  rotate_left
  · simp only [Act.put, List.setIfInBounds_toArray, List.set_cons_zero, List.set_cons_succ, i64_w, i32_w]
    rfl
  refine last_store_ (i := 7) (w1 := (World.setCell (World.setCell (World.setCell (World.setCell (World.setCell (World.setCell (World.setCell w4 ⟨g2, 0, none⟩ (.bool (!(zN x)))) ⟨g2, 1, none⟩ (.int .u32 ((lb x 0 : Nat) : Int))) ⟨g2, 2, none⟩ (.int .u32 ((lb x 1 : Nat) : Int))) ⟨g2, 3, none⟩ (.int .u32 ((lb x 2 : Nat) : Int))) ⟨g2, 4, none⟩ (.int .u32 ((lb x 3 : Nat) : Int))) ⟨g2, 5, none⟩ (.int .u32 ((lb x 4 : Nat) : Int))) ⟨g2, 6, none⟩ (.int .u32 ((lb x 5 : Nat) : Int)))) #[true, true, true, true, true, true, true, true] rfl rfl (by kernel_rfl) (by decide) (by rfl) (run_put7_ rfl (show _ = Value.pointer (some ⟨g2, 0, none⟩) from by rfl) (show _ = Value.agg #[.bool (!(zN x)), .int .u32 ((lb x 0 : Nat) : Int), .int .u32 ((lb x 1 : Nat) : Int), .int .u32 ((lb x 2 : Nat) : Int), .int .u32 ((lb x 3 : Nat) : Int), .int .u32 ((lb x 4 : Nat) : Int), .int .u32 ((lb x 5 : Nat) : Int)] from by rfl) (HO.out.at 0 rfl) (by kernel_rfl) (by rfl)) ?_
  refine done_ (by kernel_rfl) ?_
  generalize hw5 : (World.setCell (World.setCell (World.setCell (World.setCell (World.setCell (World.setCell (World.setCell w4 ⟨g2, 0, none⟩ (.bool (!(zN x)))) ⟨g2, 1, none⟩ (.int .u32 ((lb x 0 : Nat) : Int))) ⟨g2, 2, none⟩ (.int .u32 ((lb x 1 : Nat) : Int))) ⟨g2, 3, none⟩ (.int .u32 ((lb x 2 : Nat) : Int))) ⟨g2, 4, none⟩ (.int .u32 ((lb x 3 : Nat) : Int))) ⟨g2, 5, none⟩ (.int .u32 ((lb x 4 : Nat) : Int))) ⟨g2, 6, none⟩ (.int .u32 ((lb x 5 : Nat) : Int))) = w5
  replace HO := Aside0.mk (HO.out.put7 0 rfl hw5.symm rfl)
  clear hw5
  go_wp2
  refine bodyPost_ret (results_cell_row rfl _ _ g2 25 #[.bool (!(zN x)), .int .u32 ((lb x 0 : Nat) : Int), .int .u32 ((lb x 1 : Nat) : Int), .int .u32 ((lb x 2 : Nat) : Int), .int .u32 ((lb x 3 : Nat) : Int), .int .u32 ((lb x 4 : Nat) : Int), .int .u32 ((lb x 5 : Nat) : Int)] (0, 0) _ rfl (HO.out.at 0 rfl) Try.underlying25 rfl (by kernel_rfl)) rfl ?_
  exact ⟨rfl, HO.out.bel⟩
theorem sMade (w : World) (s : Bool) (x : Nat) (hx : x < 4294967296 ^ 6) :
    Calls Try.prog 112 #[.bool s, .agg #[.int .u32 ((lb x 0 : Nat) : Int), .int .u32 ((lb x 1 : Nat) : Int), .int .u32 ((lb x 2 : Nat) : Int), .int .u32 ((lb x 3 : Nat) : Int), .int .u32 ((lb x 4 : Nat) : Int), .int .u32 ((lb x 5 : Nat) : Int)]] w fun e w' => e = .returned (.agg (W7 (s && !(zN x)) x)) ∧ Below w.heap.size w w' := by
  cases s
  · exact sMadeF w x hx
  · exact sMadeT w x hx
set_option maxHeartbeats 8000000 in
set_option maxRecDepth 100000 in
theorem sOfN (w : World) (n : Int) (hn : -9223372036854775808 ≤ n) (hn2 : n < 9223372036854775808) (hs : n < 0) :
    Calls Try.prog 83 #[.int .i64 n] w fun e w' => e = .returned (WV n) ∧ Below w.heap.size w w' := by
  have HN := Aside0.mk hn
  have HN2 := Aside0.mk hn2
  clear hn hn2
  have HO := Aside0.mk (OB.start w)
  go_enter Try.func83, Try.ntmps83
  have hb : n.natAbs ≤ 9223372036854775808 := by have h1_ := HN.out; have h2_ := HN2.out; omega
  have MT : Aside0 (∀ w : World, Calls Try.prog 112 #[.bool true, .agg #[.int .u32 ((lb n.natAbs 0 : Nat) : Int), .int .u32 ((lb n.natAbs 1 : Nat) : Int), .int .u32 0, .int .u32 0, .int .u32 0, .int .u32 0]] w fun e w' => e = .returned (.agg (W7 true n.natAbs)) ∧ Below w.heap.size w w') := ⟨fun w => by have := sMadeT w n.natAbs (small6 hb); rw [A6_two _ hb] at this; rw [zN_pos (by omega)] at this; exact this⟩
  have hl := of_lb n.natAbs hb
  have e2 := hl.1
  have e3 := hl.2.1
  have HS := Aside0.mk hs
  have e1 : IntKind.u64.wrap (-IntKind.u64.wrap n) = (n.natAbs : Int) := u64neg HN.out HS.out
  have c0 : decide (n < 0) = true := decide_eq_true HS.out
  clear hl hs hb
  go_wp2_with (first | ((with_reducible refine gate_dst (N := 2) rfl ?_); refine box_event ?hg (N := 2) ?hd (cs := #[.bool false, .int .u32 0, .int .u32 0, .int .u32 0, .int .u32 0, .int .u32 0, .int .u32 0]) (t := 25) ?hr ?_; (case hd => rfl); (case hg => rfl); (case hr => first | (go_simp; done) | (go_simp; rfl)); intro g1 hg w1 hbox hb; replace HO := Aside0.mk (HO.out.box hg hbox hb); clear hg hbox hb) | ((with_reducible refine gate_dst (N := 4) rfl ?_); refine box_event ?hg (N := 4) ?hd (cs := #[.int .u32 0, .int .u32 0, .int .u32 0, .int .u32 0, .int .u32 0, .int .u32 0]) (t := 126) ?hr ?_; (case hd => rfl); (case hg => rfl); (case hr => first | (go_simp; done) | (go_simp; rfl)); intro g2 hg w2 hbox hb; replace HO := Aside0.mk (HO.out.box hg hbox hb); clear hg hbox hb; have fr0 := HO.out.fr 0 rfl; obtain ⟨hc0, hc1, hc2, hc3, hc4, hc5⟩ := cells6_ (HO.out.at 0 rfl)) | ((with_reducible refine gate_store (t := 126) (p := 4) rfl ?_); refine store_event (t := 126) (p := 4) (v := ?vo_1) (w1 := (World.setCell (World.setCell (World.setCell (World.setCell (World.setCell (World.setCell w2 ⟨g2, 0, none⟩ (.int .u32 0)) ⟨g2, 1, none⟩ (.int .u32 0)) ⟨g2, 2, none⟩ (.int .u32 0)) ⟨g2, 3, none⟩ (.int .u32 0)) ⟨g2, 4, none⟩ (.int .u32 0)) ⟨g2, 5, none⟩ (.int .u32 0))) ?hg ?ho ?hn ?hr ?_; (case ho => rfl); (case hg => rfl); (case hn => rfl); (case hr => (try simp only [Act.put, List.setIfInBounds_toArray, List.set_cons_zero, List.set_cons_succ]); exact run_put6_ rfl (show _ = Value.pointer (some ⟨g2, 0, none⟩) from by rfl) (show _ = Value.agg #[.int .u32 0, .int .u32 0, .int .u32 0, .int .u32 0, .int .u32 0, .int .u32 0] from by rfl) (HO.out.at 0 rfl) (by kernel_rfl) (by rfl)); intro w3 hw; replace HO := Aside0.mk (HO.out.put6 0 rfl hw rfl); clear hw; clear hc0 hc1 hc2 hc3 hc4 hc5 fr0; have fr0 := HO.out.fr 0 rfl; obtain ⟨hc0, hc1, hc2, hc3, hc4, hc5⟩ := cells6_ (HO.out.at 0 rfl)) | (go_at_call 112; (with_reducible refine (MT.out _).mono ?_); rintro e w4 ⟨rfl, hb⟩; replace HO := Aside0.mk (((HO.out.set 0 rfl 0 _ rfl).set 0 rfl 1 _ rfl).below hb); clear hb hc0 hc1 hc2 hc3 hc4 hc5 fr0) | ((with_reducible refine gate_store (t := 25) (p := 2) rfl ?_); refine store_event (t := 25) (p := 2) (v := ?vo_2) (w1 := (World.setCell (World.setCell (World.setCell (World.setCell (World.setCell (World.setCell (World.setCell w4 ⟨g1, 0, none⟩ (.bool true)) ⟨g1, 1, none⟩ (.int .u32 ((lb n.natAbs 0 : Nat) : Int))) ⟨g1, 2, none⟩ (.int .u32 ((lb n.natAbs 1 : Nat) : Int))) ⟨g1, 3, none⟩ (.int .u32 ((lb n.natAbs 2 : Nat) : Int))) ⟨g1, 4, none⟩ (.int .u32 ((lb n.natAbs 3 : Nat) : Int))) ⟨g1, 5, none⟩ (.int .u32 ((lb n.natAbs 4 : Nat) : Int))) ⟨g1, 6, none⟩ (.int .u32 ((lb n.natAbs 5 : Nat) : Int)))) ?hg ?ho ?hn ?hr ?_; (case ho => rfl); (case hg => rfl); (case hn => rfl); (case hr => (try simp only [Act.put, List.setIfInBounds_toArray, List.set_cons_zero, List.set_cons_succ]); exact run_put7_ rfl (show _ = Value.pointer (some ⟨g1, 0, none⟩) from by rfl) (show _ = Value.agg #[.bool true, .int .u32 ((lb n.natAbs 0 : Nat) : Int), .int .u32 ((lb n.natAbs 1 : Nat) : Int), .int .u32 ((lb n.natAbs 2 : Nat) : Int), .int .u32 ((lb n.natAbs 3 : Nat) : Int), .int .u32 ((lb n.natAbs 4 : Nat) : Int), .int .u32 ((lb n.natAbs 5 : Nat) : Int)] from by rfl) (HO.out.at 1 rfl) (by kernel_rfl) (by rfl)); intro w5 hw; replace HO := Aside0.mk (HO.out.put7 1 rfl hw rfl); clear hw))
  refine bodyPost_ret (results_cell_row rfl _ _ g1 25 (W7 true n.natAbs) (0, 0) _ rfl (HO.out.at 1 rfl) Try.underlying25 rfl (by kernel_rfl)) rfl ?_
  exact ⟨by unfold WV; rw [c0], HO.out.bel⟩
set_option maxHeartbeats 8000000 in
set_option maxRecDepth 100000 in
theorem sOfP (w : World) (n : Int) (hn : -9223372036854775808 ≤ n) (hn2 : n < 9223372036854775808) (hs : ¬ n < 0) :
    Calls Try.prog 83 #[.int .i64 n] w fun e w' => e = .returned (WV n) ∧ Below w.heap.size w w' := by
  have HN := Aside0.mk hn
  have HN2 := Aside0.mk hn2
  clear hn hn2
  have HO := Aside0.mk (OB.start w)
  go_enter Try.func83, Try.ntmps83
  have hb : n.natAbs ≤ 9223372036854775808 := by have h1_ := HN.out; have h2_ := HN2.out; omega
  have MT : Aside0 (∀ w : World, Calls Try.prog 112 #[.bool false, .agg #[.int .u32 ((lb n.natAbs 0 : Nat) : Int), .int .u32 ((lb n.natAbs 1 : Nat) : Int), .int .u32 0, .int .u32 0, .int .u32 0, .int .u32 0]] w fun e w' => e = .returned (.agg (W7 false n.natAbs)) ∧ Below w.heap.size w w') := ⟨fun w => by have := sMadeF w n.natAbs (small6 hb); rw [A6_two _ hb] at this; exact this⟩
  have hl := of_lb n.natAbs hb
  have e2 := hl.1
  have e3 := hl.2.1
  have HS := Aside0.mk hs
  have e1 : IntKind.u64.wrap n = (n.natAbs : Int) := by have h1_ := HS.out; have h2_ := HN2.out; rw [u64w (by omega) (by omega)]; omega
  have c0 : decide (n < 0) = false := decide_eq_false HS.out
  clear hl hs hb
  go_wp2_with (first | ((with_reducible refine gate_dst (N := 2) rfl ?_); refine box_event ?hg (N := 2) ?hd (cs := #[.bool false, .int .u32 0, .int .u32 0, .int .u32 0, .int .u32 0, .int .u32 0, .int .u32 0]) (t := 25) ?hr ?_; (case hd => rfl); (case hg => rfl); (case hr => first | (go_simp; done) | (go_simp; rfl)); intro g1 hg w1 hbox hb; replace HO := Aside0.mk (HO.out.box hg hbox hb); clear hg hbox hb) | ((with_reducible refine gate_dst (N := 4) rfl ?_); refine box_event ?hg (N := 4) ?hd (cs := #[.int .u32 0, .int .u32 0, .int .u32 0, .int .u32 0, .int .u32 0, .int .u32 0]) (t := 126) ?hr ?_; (case hd => rfl); (case hg => rfl); (case hr => first | (go_simp; done) | (go_simp; rfl)); intro g2 hg w2 hbox hb; replace HO := Aside0.mk (HO.out.box hg hbox hb); clear hg hbox hb; have fr0 := HO.out.fr 0 rfl; obtain ⟨hc0, hc1, hc2, hc3, hc4, hc5⟩ := cells6_ (HO.out.at 0 rfl)) | ((with_reducible refine gate_store (t := 126) (p := 4) rfl ?_); refine store_event (t := 126) (p := 4) (v := ?vo_3) (w1 := (World.setCell (World.setCell (World.setCell (World.setCell (World.setCell (World.setCell w2 ⟨g2, 0, none⟩ (.int .u32 0)) ⟨g2, 1, none⟩ (.int .u32 0)) ⟨g2, 2, none⟩ (.int .u32 0)) ⟨g2, 3, none⟩ (.int .u32 0)) ⟨g2, 4, none⟩ (.int .u32 0)) ⟨g2, 5, none⟩ (.int .u32 0))) ?hg ?ho ?hn ?hr ?_; (case ho => rfl); (case hg => rfl); (case hn => rfl); (case hr => (try simp only [Act.put, List.setIfInBounds_toArray, List.set_cons_zero, List.set_cons_succ]); exact run_put6_ rfl (show _ = Value.pointer (some ⟨g2, 0, none⟩) from by rfl) (show _ = Value.agg #[.int .u32 0, .int .u32 0, .int .u32 0, .int .u32 0, .int .u32 0, .int .u32 0] from by rfl) (HO.out.at 0 rfl) (by kernel_rfl) (by rfl)); intro w3 hw; replace HO := Aside0.mk (HO.out.put6 0 rfl hw rfl); clear hw; clear hc0 hc1 hc2 hc3 hc4 hc5 fr0; have fr0 := HO.out.fr 0 rfl; obtain ⟨hc0, hc1, hc2, hc3, hc4, hc5⟩ := cells6_ (HO.out.at 0 rfl)) | (go_at_call 112; (with_reducible refine (MT.out _).mono ?_); rintro e w4 ⟨rfl, hb⟩; replace HO := Aside0.mk (((HO.out.set 0 rfl 0 _ rfl).set 0 rfl 1 _ rfl).below hb); clear hb hc0 hc1 hc2 hc3 hc4 hc5 fr0) | ((with_reducible refine gate_store (t := 25) (p := 2) rfl ?_); refine store_event (t := 25) (p := 2) (v := ?vo_4) (w1 := (World.setCell (World.setCell (World.setCell (World.setCell (World.setCell (World.setCell (World.setCell w4 ⟨g1, 0, none⟩ (.bool false)) ⟨g1, 1, none⟩ (.int .u32 ((lb n.natAbs 0 : Nat) : Int))) ⟨g1, 2, none⟩ (.int .u32 ((lb n.natAbs 1 : Nat) : Int))) ⟨g1, 3, none⟩ (.int .u32 ((lb n.natAbs 2 : Nat) : Int))) ⟨g1, 4, none⟩ (.int .u32 ((lb n.natAbs 3 : Nat) : Int))) ⟨g1, 5, none⟩ (.int .u32 ((lb n.natAbs 4 : Nat) : Int))) ⟨g1, 6, none⟩ (.int .u32 ((lb n.natAbs 5 : Nat) : Int)))) ?hg ?ho ?hn ?hr ?_; (case ho => rfl); (case hg => rfl); (case hn => rfl); (case hr => (try simp only [Act.put, List.setIfInBounds_toArray, List.set_cons_zero, List.set_cons_succ]); exact run_put7_ rfl (show _ = Value.pointer (some ⟨g1, 0, none⟩) from by rfl) (show _ = Value.agg #[.bool false, .int .u32 ((lb n.natAbs 0 : Nat) : Int), .int .u32 ((lb n.natAbs 1 : Nat) : Int), .int .u32 ((lb n.natAbs 2 : Nat) : Int), .int .u32 ((lb n.natAbs 3 : Nat) : Int), .int .u32 ((lb n.natAbs 4 : Nat) : Int), .int .u32 ((lb n.natAbs 5 : Nat) : Int)] from by rfl) (HO.out.at 1 rfl) (by kernel_rfl) (by rfl)); intro w5 hw; replace HO := Aside0.mk (HO.out.put7 1 rfl hw rfl); clear hw))
  refine bodyPost_ret (results_cell_row rfl _ _ g1 25 (W7 false n.natAbs) (0, 0) _ rfl (HO.out.at 1 rfl) Try.underlying25 rfl (by kernel_rfl)) rfl ?_
  exact ⟨by unfold WV; rw [c0], HO.out.bel⟩
set_option maxHeartbeats 8000000 in
set_option maxRecDepth 100000 in
theorem sAddO (w : World) (s t : Bool) (hst : (s == t) = true) (x y : Nat) (hx : x < 4294967296 ^ 6) (hy : y < 4294967296 ^ 6) (hk : okP x y = false) :
    Calls Try.prog 84 #[.agg (W7 s x), .agg (W7 t y)] w fun e w' => e = .returned (.tuple #[.agg #[.bool false, .int .u32 0, .int .u32 0, .int .u32 0, .int .u32 0, .int .u32 0, .int .u32 0], .int .i64 3]) ∧ Below w.heap.size w w' := by
  unfold W7
  have HX := Aside0.mk hx
  have HY := Aside0.mk hy
  clear hx hy
  have HO := Aside0.mk (OB.start w)
  go_enter Try.func84, Try.ntmps84
  go_wp2_with (first | ((with_reducible refine gate_dst (N := 2) rfl ?_); refine box_event ?hg (N := 2) ?hd (cs := #[.bool s, .int .u32 ((lb x 0 : Nat) : Int), .int .u32 ((lb x 1 : Nat) : Int), .int .u32 ((lb x 2 : Nat) : Int), .int .u32 ((lb x 3 : Nat) : Int), .int .u32 ((lb x 4 : Nat) : Int), .int .u32 ((lb x 5 : Nat) : Int)]) (t := 25) ?hr ?_; (case hd => rfl); (case hg => rfl); (case hr => first | (go_simp; done) | (go_simp; rfl)); intro g1 hg w1 hbox hb; replace HO := Aside0.mk (HO.out.box hg hbox hb); clear hg hbox hb) | ((with_reducible refine gate_dst (N := 3) rfl ?_); refine box_event ?hg (N := 3) ?hd (cs := #[.bool t, .int .u32 ((lb y 0 : Nat) : Int), .int .u32 ((lb y 1 : Nat) : Int), .int .u32 ((lb y 2 : Nat) : Int), .int .u32 ((lb y 3 : Nat) : Int), .int .u32 ((lb y 4 : Nat) : Int), .int .u32 ((lb y 5 : Nat) : Int)]) (t := 25) ?hr ?_; (case hd => rfl); (case hg => rfl); (case hr => first | (go_simp; done) | (go_simp; rfl)); intro g2 hg w2 hbox hb; replace HO := Aside0.mk (HO.out.box hg hbox hb); clear hg hbox hb) | ((with_reducible refine gate_dst (N := 4) rfl ?_); refine box_event ?hg (N := 4) ?hd (cs := #[.bool false, .int .u32 0, .int .u32 0, .int .u32 0, .int .u32 0, .int .u32 0, .int .u32 0]) (t := 25) ?hr ?_; (case hd => rfl); (case hg => rfl); (case hr => first | (go_simp; done) | (go_simp; rfl)); intro g3 hg w3 hbox hb; replace HO := Aside0.mk (HO.out.box hg hbox hb); clear hg hbox hb; obtain ⟨hc0, hc1, hc2, hc3, hc4, hc5, hc6⟩ := cells7_ (HO.out.at 2 rfl)) | ((with_reducible refine gate_dst (N := 6) rfl ?_); refine box_event ?hg (N := 6) ?hd (cs := #[.int .u32 0, .int .u32 0, .int .u32 0, .int .u32 0, .int .u32 0, .int .u32 0]) (t := 126) ?hr ?_; (case hd => rfl); (case hg => rfl); (case hr => first | (go_simp; done) | (go_simp; rfl)); intro g4 hg w4 hbox hb; replace HO := Aside0.mk (HO.out.box hg hbox hb); clear hg hbox hb; clear hc0 hc1 hc2 hc3 hc4 hc5 hc6) | ((with_reducible refine gate_store (t := 126) (p := 6) rfl ?_); refine store_event (t := 126) (p := 6) (v := ?vo_1) (w1 := (World.setCell (World.setCell (World.setCell (World.setCell (World.setCell (World.setCell w4 ⟨g4, 0, none⟩ (.int .u32 ((lb x 0 : Nat) : Int))) ⟨g4, 1, none⟩ (.int .u32 ((lb x 1 : Nat) : Int))) ⟨g4, 2, none⟩ (.int .u32 ((lb x 2 : Nat) : Int))) ⟨g4, 3, none⟩ (.int .u32 ((lb x 3 : Nat) : Int))) ⟨g4, 4, none⟩ (.int .u32 ((lb x 4 : Nat) : Int))) ⟨g4, 5, none⟩ (.int .u32 ((lb x 5 : Nat) : Int)))) ?hg ?ho ?hn ?hr ?_; (case ho => rfl); (case hg => rfl); (case hn => rfl); (case hr => (try simp only [Act.put, List.setIfInBounds_toArray, List.set_cons_zero, List.set_cons_succ]); exact run_put6_ rfl (show _ = Value.pointer (some ⟨g4, 0, none⟩) from by rfl) (show _ = Value.agg #[.int .u32 ((lb x 0 : Nat) : Int), .int .u32 ((lb x 1 : Nat) : Int), .int .u32 ((lb x 2 : Nat) : Int), .int .u32 ((lb x 3 : Nat) : Int), .int .u32 ((lb x 4 : Nat) : Int), .int .u32 ((lb x 5 : Nat) : Int)] from by rfl) (HO.out.at 0 rfl) (by kernel_rfl) (by rfl)); intro w5 hw; replace HO := Aside0.mk (HO.out.put6 0 rfl hw rfl); clear hw; obtain ⟨hc0, hc1, hc2, hc3, hc4, hc5, hc6⟩ := cells7_ (HO.out.at 2 rfl)) | ((with_reducible refine gate_dst (N := 7) rfl ?_); refine box_event ?hg (N := 7) ?hd (cs := #[.int .u32 0, .int .u32 0, .int .u32 0, .int .u32 0, .int .u32 0, .int .u32 0]) (t := 126) ?hr ?_; (case hd => rfl); (case hg => rfl); (case hr => first | (go_simp; done) | (go_simp; rfl)); intro g5 hg w6 hbox hb; replace HO := Aside0.mk (HO.out.box hg hbox hb); clear hg hbox hb; clear hc0 hc1 hc2 hc3 hc4 hc5 hc6) | ((with_reducible refine gate_store (t := 126) (p := 7) rfl ?_); refine store_event (t := 126) (p := 7) (v := ?vo_2) (w1 := (World.setCell (World.setCell (World.setCell (World.setCell (World.setCell (World.setCell w6 ⟨g5, 0, none⟩ (.int .u32 ((lb y 0 : Nat) : Int))) ⟨g5, 1, none⟩ (.int .u32 ((lb y 1 : Nat) : Int))) ⟨g5, 2, none⟩ (.int .u32 ((lb y 2 : Nat) : Int))) ⟨g5, 3, none⟩ (.int .u32 ((lb y 3 : Nat) : Int))) ⟨g5, 4, none⟩ (.int .u32 ((lb y 4 : Nat) : Int))) ⟨g5, 5, none⟩ (.int .u32 ((lb y 5 : Nat) : Int)))) ?hg ?ho ?hn ?hr ?_; (case ho => rfl); (case hg => rfl); (case hn => rfl); (case hr => (try simp only [Act.put, List.setIfInBounds_toArray, List.set_cons_zero, List.set_cons_succ]); exact run_put6_ rfl (show _ = Value.pointer (some ⟨g5, 0, none⟩) from by rfl) (show _ = Value.agg #[.int .u32 ((lb y 0 : Nat) : Int), .int .u32 ((lb y 1 : Nat) : Int), .int .u32 ((lb y 2 : Nat) : Int), .int .u32 ((lb y 3 : Nat) : Int), .int .u32 ((lb y 4 : Nat) : Int), .int .u32 ((lb y 5 : Nat) : Int)] from by rfl) (HO.out.at 0 rfl) (by kernel_rfl) (by rfl)); intro w7 hw; replace HO := Aside0.mk (HO.out.put6 0 rfl hw rfl); clear hw; have k0 := HO.out.cell 4 rfl 0 rfl; have k1 := HO.out.cell 3 rfl 0 rfl) | (go_at_call 113; (with_reducible refine (sPlus _ g4 0 g5 0 x y (P6.blk (m := x) (HO.out.at 1 rfl)) (P6.blk (m := y) (HO.out.at 0 rfl))).mono ?_); rintro e w8 ⟨rfl, hb⟩; replace HO := Aside0.mk (HO.out.below hb); clear hb k0 k1) | ((with_reducible refine gate_dst (N := 8) rfl ?_); refine box_event ?hg (N := 8) ?hd (cs := #[.int .u32 0, .int .u32 0, .int .u32 0, .int .u32 0, .int .u32 0, .int .u32 0]) (t := 126) ?hr ?_; (case hd => rfl); (case hg => rfl); (case hr => first | (go_simp; done) | (go_simp; rfl)); intro g6 hg w9 hbox hb; replace HO := Aside0.mk (HO.out.box hg hbox hb); clear hg hbox hb) | ((with_reducible refine gate_store (t := 126) (p := 8) rfl ?_); refine store_event (t := 126) (p := 8) (v := ?vo_3) (w1 := (World.setCell (World.setCell (World.setCell (World.setCell (World.setCell (World.setCell w9 ⟨g6, 0, none⟩ (.int .u32 ((lb (x + y) 0 : Nat) : Int))) ⟨g6, 1, none⟩ (.int .u32 ((lb (x + y) 1 : Nat) : Int))) ⟨g6, 2, none⟩ (.int .u32 ((lb (x + y) 2 : Nat) : Int))) ⟨g6, 3, none⟩ (.int .u32 ((lb (x + y) 3 : Nat) : Int))) ⟨g6, 4, none⟩ (.int .u32 ((lb (x + y) 4 : Nat) : Int))) ⟨g6, 5, none⟩ (.int .u32 ((lb (x + y) 5 : Nat) : Int)))) ?hg ?ho ?hn ?hr ?_; (case ho => rfl); (case hg => rfl); (case hn => rfl); (case hr => (try simp only [Act.put, List.setIfInBounds_toArray, List.set_cons_zero, List.set_cons_succ]); exact run_put6_ rfl (show _ = Value.pointer (some ⟨g6, 0, none⟩) from by rfl) (show _ = Value.agg #[.int .u32 ((lb (x + y) 0 : Nat) : Int), .int .u32 ((lb (x + y) 1 : Nat) : Int), .int .u32 ((lb (x + y) 2 : Nat) : Int), .int .u32 ((lb (x + y) 3 : Nat) : Int), .int .u32 ((lb (x + y) 4 : Nat) : Int), .int .u32 ((lb (x + y) 5 : Nat) : Int)] from by rfl) (HO.out.at 0 rfl) (by kernel_rfl) (by rfl)); intro w10 hw; replace HO := Aside0.mk (HO.out.put6 0 rfl hw rfl); clear hw; have k0 := HO.out.cell 5 rfl 0 rfl; obtain ⟨hc0, hc1, hc2, hc3, hc4, hc5⟩ := cells6_ (HO.out.at 0 rfl)) | ((with_reducible refine gate_store (t := 25) (p := 4) rfl ?_); refine store_event (t := 25) (p := 4) (v := ?vo_4) (w1 := (World.setCell (World.setCell (World.setCell (World.setCell (World.setCell (World.setCell (World.setCell w10 ⟨g3, 0, none⟩ (.bool false)) ⟨g3, 1, none⟩ (.int .u32 0)) ⟨g3, 2, none⟩ (.int .u32 0)) ⟨g3, 3, none⟩ (.int .u32 0)) ⟨g3, 4, none⟩ (.int .u32 0)) ⟨g3, 5, none⟩ (.int .u32 0)) ⟨g3, 6, none⟩ (.int .u32 0))) ?hg ?ho ?hn ?hr ?_; (case ho => rfl); (case hg => rfl); (case hn => rfl); (case hr => (try simp only [Act.put, List.setIfInBounds_toArray, List.set_cons_zero, List.set_cons_succ]); exact run_put7_ rfl (show _ = Value.pointer (some ⟨g3, 0, none⟩) from by rfl) (show _ = Value.agg #[.bool false, .int .u32 0, .int .u32 0, .int .u32 0, .int .u32 0, .int .u32 0, .int .u32 0] from by rfl) (HO.out.at 3 rfl) (by kernel_rfl) (by rfl)); intro w11 hw; replace HO := Aside0.mk (HO.out.put7 3 rfl hw rfl); clear hw))
  refine bodyPost_ret (results_ct rfl _ _ g3 25 #[.bool false, .int .u32 0, .int .u32 0, .int .u32 0, .int .u32 0, .int .u32 0, .int .u32 0] (0, 0) _ rfl (HO.out.at 3 rfl) Try.underlying25 rfl (by kernel_rfl)) rfl ?_
  exact ⟨rfl, HO.out.bel⟩
set_option maxHeartbeats 8000000 in
set_option maxRecDepth 100000 in
theorem sAddS (w : World) (s t : Bool) (hst : (s == t) = true) (x y : Nat) (hx : x < 4294967296 ^ 6) (hy : y < 4294967296 ^ 6) (hk : okP x y = true) (hm : x + y < 4294967296 ^ 6) :
    Calls Try.prog 84 #[.agg (W7 s x), .agg (W7 t y)] w fun e w' => e = .returned (.tuple #[.agg (W7 (s && !(zN (x + y))) (x + y)), .int .i64 0]) ∧ Below w.heap.size w w' := by
  unfold W7
  have HX := Aside0.mk hx
  have HY := Aside0.mk hy
  have HM := Aside0.mk hm
  clear hx hy hm
  have HO := Aside0.mk (OB.start w)
  go_enter Try.func84, Try.ntmps84
  go_wp2_with (first | ((with_reducible refine gate_dst (N := 2) rfl ?_); refine box_event ?hg (N := 2) ?hd (cs := #[.bool s, .int .u32 ((lb x 0 : Nat) : Int), .int .u32 ((lb x 1 : Nat) : Int), .int .u32 ((lb x 2 : Nat) : Int), .int .u32 ((lb x 3 : Nat) : Int), .int .u32 ((lb x 4 : Nat) : Int), .int .u32 ((lb x 5 : Nat) : Int)]) (t := 25) ?hr ?_; (case hd => rfl); (case hg => rfl); (case hr => first | (go_simp; done) | (go_simp; rfl)); intro g1 hg w1 hbox hb; replace HO := Aside0.mk (HO.out.box hg hbox hb); clear hg hbox hb) | ((with_reducible refine gate_dst (N := 3) rfl ?_); refine box_event ?hg (N := 3) ?hd (cs := #[.bool t, .int .u32 ((lb y 0 : Nat) : Int), .int .u32 ((lb y 1 : Nat) : Int), .int .u32 ((lb y 2 : Nat) : Int), .int .u32 ((lb y 3 : Nat) : Int), .int .u32 ((lb y 4 : Nat) : Int), .int .u32 ((lb y 5 : Nat) : Int)]) (t := 25) ?hr ?_; (case hd => rfl); (case hg => rfl); (case hr => first | (go_simp; done) | (go_simp; rfl)); intro g2 hg w2 hbox hb; replace HO := Aside0.mk (HO.out.box hg hbox hb); clear hg hbox hb) | ((with_reducible refine gate_dst (N := 4) rfl ?_); refine box_event ?hg (N := 4) ?hd (cs := #[.bool false, .int .u32 0, .int .u32 0, .int .u32 0, .int .u32 0, .int .u32 0, .int .u32 0]) (t := 25) ?hr ?_; (case hd => rfl); (case hg => rfl); (case hr => first | (go_simp; done) | (go_simp; rfl)); intro g3 hg w3 hbox hb; replace HO := Aside0.mk (HO.out.box hg hbox hb); clear hg hbox hb; obtain ⟨hc0, hc1, hc2, hc3, hc4, hc5, hc6⟩ := cells7_ (HO.out.at 2 rfl)) | ((with_reducible refine gate_dst (N := 6) rfl ?_); refine box_event ?hg (N := 6) ?hd (cs := #[.int .u32 0, .int .u32 0, .int .u32 0, .int .u32 0, .int .u32 0, .int .u32 0]) (t := 126) ?hr ?_; (case hd => rfl); (case hg => rfl); (case hr => first | (go_simp; done) | (go_simp; rfl)); intro g4 hg w4 hbox hb; replace HO := Aside0.mk (HO.out.box hg hbox hb); clear hg hbox hb; clear hc0 hc1 hc2 hc3 hc4 hc5 hc6) | ((with_reducible refine gate_store (t := 126) (p := 6) rfl ?_); refine store_event (t := 126) (p := 6) (v := ?vo_5) (w1 := (World.setCell (World.setCell (World.setCell (World.setCell (World.setCell (World.setCell w4 ⟨g4, 0, none⟩ (.int .u32 ((lb x 0 : Nat) : Int))) ⟨g4, 1, none⟩ (.int .u32 ((lb x 1 : Nat) : Int))) ⟨g4, 2, none⟩ (.int .u32 ((lb x 2 : Nat) : Int))) ⟨g4, 3, none⟩ (.int .u32 ((lb x 3 : Nat) : Int))) ⟨g4, 4, none⟩ (.int .u32 ((lb x 4 : Nat) : Int))) ⟨g4, 5, none⟩ (.int .u32 ((lb x 5 : Nat) : Int)))) ?hg ?ho ?hn ?hr ?_; (case ho => rfl); (case hg => rfl); (case hn => rfl); (case hr => (try simp only [Act.put, List.setIfInBounds_toArray, List.set_cons_zero, List.set_cons_succ]); exact run_put6_ rfl (show _ = Value.pointer (some ⟨g4, 0, none⟩) from by rfl) (show _ = Value.agg #[.int .u32 ((lb x 0 : Nat) : Int), .int .u32 ((lb x 1 : Nat) : Int), .int .u32 ((lb x 2 : Nat) : Int), .int .u32 ((lb x 3 : Nat) : Int), .int .u32 ((lb x 4 : Nat) : Int), .int .u32 ((lb x 5 : Nat) : Int)] from by rfl) (HO.out.at 0 rfl) (by kernel_rfl) (by rfl)); intro w5 hw; replace HO := Aside0.mk (HO.out.put6 0 rfl hw rfl); clear hw; obtain ⟨hc0, hc1, hc2, hc3, hc4, hc5, hc6⟩ := cells7_ (HO.out.at 2 rfl)) | ((with_reducible refine gate_dst (N := 7) rfl ?_); refine box_event ?hg (N := 7) ?hd (cs := #[.int .u32 0, .int .u32 0, .int .u32 0, .int .u32 0, .int .u32 0, .int .u32 0]) (t := 126) ?hr ?_; (case hd => rfl); (case hg => rfl); (case hr => first | (go_simp; done) | (go_simp; rfl)); intro g5 hg w6 hbox hb; replace HO := Aside0.mk (HO.out.box hg hbox hb); clear hg hbox hb; clear hc0 hc1 hc2 hc3 hc4 hc5 hc6) | ((with_reducible refine gate_store (t := 126) (p := 7) rfl ?_); refine store_event (t := 126) (p := 7) (v := ?vo_6) (w1 := (World.setCell (World.setCell (World.setCell (World.setCell (World.setCell (World.setCell w6 ⟨g5, 0, none⟩ (.int .u32 ((lb y 0 : Nat) : Int))) ⟨g5, 1, none⟩ (.int .u32 ((lb y 1 : Nat) : Int))) ⟨g5, 2, none⟩ (.int .u32 ((lb y 2 : Nat) : Int))) ⟨g5, 3, none⟩ (.int .u32 ((lb y 3 : Nat) : Int))) ⟨g5, 4, none⟩ (.int .u32 ((lb y 4 : Nat) : Int))) ⟨g5, 5, none⟩ (.int .u32 ((lb y 5 : Nat) : Int)))) ?hg ?ho ?hn ?hr ?_; (case ho => rfl); (case hg => rfl); (case hn => rfl); (case hr => (try simp only [Act.put, List.setIfInBounds_toArray, List.set_cons_zero, List.set_cons_succ]); exact run_put6_ rfl (show _ = Value.pointer (some ⟨g5, 0, none⟩) from by rfl) (show _ = Value.agg #[.int .u32 ((lb y 0 : Nat) : Int), .int .u32 ((lb y 1 : Nat) : Int), .int .u32 ((lb y 2 : Nat) : Int), .int .u32 ((lb y 3 : Nat) : Int), .int .u32 ((lb y 4 : Nat) : Int), .int .u32 ((lb y 5 : Nat) : Int)] from by rfl) (HO.out.at 0 rfl) (by kernel_rfl) (by rfl)); intro w7 hw; replace HO := Aside0.mk (HO.out.put6 0 rfl hw rfl); clear hw; have k0 := HO.out.cell 4 rfl 0 rfl; have k1 := HO.out.cell 3 rfl 0 rfl) | (go_at_call 113; (with_reducible refine (sPlus _ g4 0 g5 0 x y (P6.blk (m := x) (HO.out.at 1 rfl)) (P6.blk (m := y) (HO.out.at 0 rfl))).mono ?_); rintro e w8 ⟨rfl, hb⟩; replace HO := Aside0.mk (HO.out.below hb); clear hb k0 k1) | ((with_reducible refine gate_dst (N := 8) rfl ?_); refine box_event ?hg (N := 8) ?hd (cs := #[.int .u32 0, .int .u32 0, .int .u32 0, .int .u32 0, .int .u32 0, .int .u32 0]) (t := 126) ?hr ?_; (case hd => rfl); (case hg => rfl); (case hr => first | (go_simp; done) | (go_simp; rfl)); intro g6 hg w9 hbox hb; replace HO := Aside0.mk (HO.out.box hg hbox hb); clear hg hbox hb) | ((with_reducible refine gate_store (t := 126) (p := 8) rfl ?_); refine store_event (t := 126) (p := 8) (v := ?vo_7) (w1 := (World.setCell (World.setCell (World.setCell (World.setCell (World.setCell (World.setCell w9 ⟨g6, 0, none⟩ (.int .u32 ((lb (x + y) 0 : Nat) : Int))) ⟨g6, 1, none⟩ (.int .u32 ((lb (x + y) 1 : Nat) : Int))) ⟨g6, 2, none⟩ (.int .u32 ((lb (x + y) 2 : Nat) : Int))) ⟨g6, 3, none⟩ (.int .u32 ((lb (x + y) 3 : Nat) : Int))) ⟨g6, 4, none⟩ (.int .u32 ((lb (x + y) 4 : Nat) : Int))) ⟨g6, 5, none⟩ (.int .u32 ((lb (x + y) 5 : Nat) : Int)))) ?hg ?ho ?hn ?hr ?_; (case ho => rfl); (case hg => rfl); (case hn => rfl); (case hr => (try simp only [Act.put, List.setIfInBounds_toArray, List.set_cons_zero, List.set_cons_succ]); exact run_put6_ rfl (show _ = Value.pointer (some ⟨g6, 0, none⟩) from by rfl) (show _ = Value.agg #[.int .u32 ((lb (x + y) 0 : Nat) : Int), .int .u32 ((lb (x + y) 1 : Nat) : Int), .int .u32 ((lb (x + y) 2 : Nat) : Int), .int .u32 ((lb (x + y) 3 : Nat) : Int), .int .u32 ((lb (x + y) 4 : Nat) : Int), .int .u32 ((lb (x + y) 5 : Nat) : Int)] from by rfl) (HO.out.at 0 rfl) (by kernel_rfl) (by rfl)); intro w10 hw; replace HO := Aside0.mk (HO.out.put6 0 rfl hw rfl); clear hw; have k0 := HO.out.cell 5 rfl 0 rfl; obtain ⟨hc0, hc1, hc2, hc3, hc4, hc5⟩ := cells6_ (HO.out.at 0 rfl)) | (go_at_call 112; (with_reducible refine (sMade _ s (x + y) HM.out).mono ?_); rintro e w11 ⟨rfl, hb⟩; replace HO := Aside0.mk (HO.out.below hb); clear hb k0 hc0 hc1 hc2 hc3 hc4 hc5) | ((with_reducible refine gate_store (t := 25) (p := 4) rfl ?_); refine store_event (t := 25) (p := 4) (v := ?vo_8) (w1 := (World.setCell (World.setCell (World.setCell (World.setCell (World.setCell (World.setCell (World.setCell w11 ⟨g3, 0, none⟩ (.bool (s && !(zN (x + y))))) ⟨g3, 1, none⟩ (.int .u32 ((lb (x + y) 0 : Nat) : Int))) ⟨g3, 2, none⟩ (.int .u32 ((lb (x + y) 1 : Nat) : Int))) ⟨g3, 3, none⟩ (.int .u32 ((lb (x + y) 2 : Nat) : Int))) ⟨g3, 4, none⟩ (.int .u32 ((lb (x + y) 3 : Nat) : Int))) ⟨g3, 5, none⟩ (.int .u32 ((lb (x + y) 4 : Nat) : Int))) ⟨g3, 6, none⟩ (.int .u32 ((lb (x + y) 5 : Nat) : Int)))) ?hg ?ho ?hn ?hr ?_; (case ho => rfl); (case hg => rfl); (case hn => rfl); (case hr => (try simp only [Act.put, List.setIfInBounds_toArray, List.set_cons_zero, List.set_cons_succ]); exact run_put7_ rfl (show _ = Value.pointer (some ⟨g3, 0, none⟩) from by rfl) (show _ = Value.agg #[.bool (s && !(zN (x + y))), .int .u32 ((lb (x + y) 0 : Nat) : Int), .int .u32 ((lb (x + y) 1 : Nat) : Int), .int .u32 ((lb (x + y) 2 : Nat) : Int), .int .u32 ((lb (x + y) 3 : Nat) : Int), .int .u32 ((lb (x + y) 4 : Nat) : Int), .int .u32 ((lb (x + y) 5 : Nat) : Int)] from by rfl) (HO.out.at 3 rfl) (by kernel_rfl) (by rfl)); intro w12 hw; replace HO := Aside0.mk (HO.out.put7 3 rfl hw rfl); clear hw))
  refine bodyPost_ret (results_ct rfl _ _ g3 25 #[.bool (s && !(zN (x + y))), .int .u32 ((lb (x + y) 0 : Nat) : Int), .int .u32 ((lb (x + y) 1 : Nat) : Int), .int .u32 ((lb (x + y) 2 : Nat) : Int), .int .u32 ((lb (x + y) 3 : Nat) : Int), .int .u32 ((lb (x + y) 4 : Nat) : Int), .int .u32 ((lb (x + y) 5 : Nat) : Int)] (0, 0) _ rfl (HO.out.at 3 rfl) Try.underlying25 rfl (by kernel_rfl)) rfl ?_
  exact ⟨rfl, HO.out.bel⟩
set_option maxHeartbeats 8000000 in
set_option maxRecDepth 100000 in
theorem sAddG (w : World) (s t : Bool) (hst : (s == t) = false) (x y : Nat) (hx : x < 4294967296 ^ 6) (hy : y < 4294967296 ^ 6) (hk : y ≤ x) :
    Calls Try.prog 84 #[.agg (W7 s x), .agg (W7 t y)] w fun e w' => e = .returned (.tuple #[.agg (W7 (s && !(zN (x - y))) (x - y)), .int .i64 0]) ∧ Below w.heap.size w w' := by
  unfold W7
  have HX := Aside0.mk hx
  have HY := Aside0.mk hy
  clear hx hy
  have HO := Aside0.mk (OB.start w)
  have hc : decide (0 ≤ cmpN x y) = true := by unfold cmpN; split <;> (try split) <;> first | decide | (exfalso; omega)
  have HM : Aside0 ((x - y) < 4294967296 ^ 6) := ⟨by have h1_ := HX.out; have h2_ := HY.out; omega⟩
  have HK := Aside0.mk hk
  go_enter Try.func84, Try.ntmps84
  go_wp2_with (first | ((with_reducible refine gate_dst (N := 2) rfl ?_); refine box_event ?hg (N := 2) ?hd (cs := #[.bool s, .int .u32 ((lb x 0 : Nat) : Int), .int .u32 ((lb x 1 : Nat) : Int), .int .u32 ((lb x 2 : Nat) : Int), .int .u32 ((lb x 3 : Nat) : Int), .int .u32 ((lb x 4 : Nat) : Int), .int .u32 ((lb x 5 : Nat) : Int)]) (t := 25) ?hr ?_; (case hd => rfl); (case hg => rfl); (case hr => first | (go_simp; done) | (go_simp; rfl)); intro g1 hg w1 hbox hb; replace HO := Aside0.mk (HO.out.box hg hbox hb); clear hg hbox hb) | ((with_reducible refine gate_dst (N := 3) rfl ?_); refine box_event ?hg (N := 3) ?hd (cs := #[.bool t, .int .u32 ((lb y 0 : Nat) : Int), .int .u32 ((lb y 1 : Nat) : Int), .int .u32 ((lb y 2 : Nat) : Int), .int .u32 ((lb y 3 : Nat) : Int), .int .u32 ((lb y 4 : Nat) : Int), .int .u32 ((lb y 5 : Nat) : Int)]) (t := 25) ?hr ?_; (case hd => rfl); (case hg => rfl); (case hr => first | (go_simp; done) | (go_simp; rfl)); intro g2 hg w2 hbox hb; replace HO := Aside0.mk (HO.out.box hg hbox hb); clear hg hbox hb) | ((with_reducible refine gate_dst (N := 4) rfl ?_); refine box_event ?hg (N := 4) ?hd (cs := #[.bool false, .int .u32 0, .int .u32 0, .int .u32 0, .int .u32 0, .int .u32 0, .int .u32 0]) (t := 25) ?hr ?_; (case hd => rfl); (case hg => rfl); (case hr => first | (go_simp; done) | (go_simp; rfl)); intro g3 hg w3 hbox hb; replace HO := Aside0.mk (HO.out.box hg hbox hb); clear hg hbox hb; obtain ⟨hc0, hc1, hc2, hc3, hc4, hc5, hc6⟩ := cells7_ (HO.out.at 2 rfl)) | ((with_reducible refine gate_dst (N := 6) rfl ?_); refine box_event ?hg (N := 6) ?hd (cs := #[.int .u32 0, .int .u32 0, .int .u32 0, .int .u32 0, .int .u32 0, .int .u32 0]) (t := 126) ?hr ?_; (case hd => rfl); (case hg => rfl); (case hr => first | (go_simp; done) | (go_simp; rfl)); intro g4 hg w4 hbox hb; replace HO := Aside0.mk (HO.out.box hg hbox hb); clear hg hbox hb; clear hc0 hc1 hc2 hc3 hc4 hc5 hc6) | ((with_reducible refine gate_store (t := 126) (p := 6) rfl ?_); refine store_event (t := 126) (p := 6) (v := ?vo_9) (w1 := (World.setCell (World.setCell (World.setCell (World.setCell (World.setCell (World.setCell w4 ⟨g4, 0, none⟩ (.int .u32 ((lb x 0 : Nat) : Int))) ⟨g4, 1, none⟩ (.int .u32 ((lb x 1 : Nat) : Int))) ⟨g4, 2, none⟩ (.int .u32 ((lb x 2 : Nat) : Int))) ⟨g4, 3, none⟩ (.int .u32 ((lb x 3 : Nat) : Int))) ⟨g4, 4, none⟩ (.int .u32 ((lb x 4 : Nat) : Int))) ⟨g4, 5, none⟩ (.int .u32 ((lb x 5 : Nat) : Int)))) ?hg ?ho ?hn ?hr ?_; (case ho => rfl); (case hg => rfl); (case hn => rfl); (case hr => (try simp only [Act.put, List.setIfInBounds_toArray, List.set_cons_zero, List.set_cons_succ]); exact run_put6_ rfl (show _ = Value.pointer (some ⟨g4, 0, none⟩) from by rfl) (show _ = Value.agg #[.int .u32 ((lb x 0 : Nat) : Int), .int .u32 ((lb x 1 : Nat) : Int), .int .u32 ((lb x 2 : Nat) : Int), .int .u32 ((lb x 3 : Nat) : Int), .int .u32 ((lb x 4 : Nat) : Int), .int .u32 ((lb x 5 : Nat) : Int)] from by rfl) (HO.out.at 0 rfl) (by kernel_rfl) (by rfl)); intro w5 hw; replace HO := Aside0.mk (HO.out.put6 0 rfl hw rfl); clear hw; obtain ⟨hc0, hc1, hc2, hc3, hc4, hc5, hc6⟩ := cells7_ (HO.out.at 2 rfl)) | ((with_reducible refine gate_dst (N := 7) rfl ?_); refine box_event ?hg (N := 7) ?hd (cs := #[.int .u32 0, .int .u32 0, .int .u32 0, .int .u32 0, .int .u32 0, .int .u32 0]) (t := 126) ?hr ?_; (case hd => rfl); (case hg => rfl); (case hr => first | (go_simp; done) | (go_simp; rfl)); intro g5 hg w6 hbox hb; replace HO := Aside0.mk (HO.out.box hg hbox hb); clear hg hbox hb; clear hc0 hc1 hc2 hc3 hc4 hc5 hc6) | ((with_reducible refine gate_store (t := 126) (p := 7) rfl ?_); refine store_event (t := 126) (p := 7) (v := ?vo_10) (w1 := (World.setCell (World.setCell (World.setCell (World.setCell (World.setCell (World.setCell w6 ⟨g5, 0, none⟩ (.int .u32 ((lb y 0 : Nat) : Int))) ⟨g5, 1, none⟩ (.int .u32 ((lb y 1 : Nat) : Int))) ⟨g5, 2, none⟩ (.int .u32 ((lb y 2 : Nat) : Int))) ⟨g5, 3, none⟩ (.int .u32 ((lb y 3 : Nat) : Int))) ⟨g5, 4, none⟩ (.int .u32 ((lb y 4 : Nat) : Int))) ⟨g5, 5, none⟩ (.int .u32 ((lb y 5 : Nat) : Int)))) ?hg ?ho ?hn ?hr ?_; (case ho => rfl); (case hg => rfl); (case hn => rfl); (case hr => (try simp only [Act.put, List.setIfInBounds_toArray, List.set_cons_zero, List.set_cons_succ]); exact run_put6_ rfl (show _ = Value.pointer (some ⟨g5, 0, none⟩) from by rfl) (show _ = Value.agg #[.int .u32 ((lb y 0 : Nat) : Int), .int .u32 ((lb y 1 : Nat) : Int), .int .u32 ((lb y 2 : Nat) : Int), .int .u32 ((lb y 3 : Nat) : Int), .int .u32 ((lb y 4 : Nat) : Int), .int .u32 ((lb y 5 : Nat) : Int)] from by rfl) (HO.out.at 0 rfl) (by kernel_rfl) (by rfl)); intro w7 hw; replace HO := Aside0.mk (HO.out.put6 0 rfl hw rfl); clear hw; have k0 := HO.out.cell 4 rfl 0 rfl; have k1 := HO.out.cell 3 rfl 0 rfl) | (go_at_call 114; (with_reducible refine (sCmp _ g4 0 g5 0 x y (P6.blk (m := x) (HO.out.at 1 rfl)) (P6.blk (m := y) (HO.out.at 0 rfl)) HX.out HY.out).mono ?_); rintro e w8 ⟨rfl, hb⟩; replace HO := Aside0.mk (HO.out.below hb); clear hb k0 k1))
  replace HO := Aside0.mk HO.out.drew
  refine start_ (n := 6) (S := fun w' => w'.cell? ⟨g1, 0, none⟩ = some (.bool s)) (ds := [4]) #[false, false, false, false, false, false] (by kernel_rfl) rfl rfl (HO.out.cell 4 rfl 0 rfl) (fun hHeld => ?_)
  refine pure_ (i := 0) (N := some 32) (v := ?_) (a' := ?_) #[true, false, false, false, false, false] rfl rfl (by kernel_rfl) (fun _ _ _ h => h) (Or.inl ⟨by rfl, ?_⟩) ?_ ?_
  rotate_left
  · intro w'
    go_simp
    with_reducible rfl
  rotate_left
  · simp only [Act.put, List.setIfInBounds_toArray, List.set_cons_zero, List.set_cons_succ, i64_w, i32_w]
    rfl
  refine take_ (i := 1) (N := some 33) (v := ?_) (a' := ?_) #[true, true, false, false, false, false] rfl rfl (by kernel_rfl) (fun _ _ _ h => h) (Or.inl ⟨by rfl, ?_⟩) hHeld ?_ ?_
  rotate_left
  · intro w' s0
    go_simp
    with_reducible rfl
  rotate_left
  · simp only [Act.put, List.setIfInBounds_toArray, List.set_cons_zero, List.set_cons_succ, i64_w, i32_w]
    rfl
  refine one_ (i := 2) (N := some 34) #[true, true, true, false, false, false] rfl rfl (by kernel_rfl) (by decide) (fun K hK => ?_)
  refine goes_ Try.func115 (by kernel_rfl) rfl #[.pointer (some ⟨g4, 0, none⟩), .pointer (some ⟨g5, 0, none⟩)] (by rfl) rfl rfl (by simp only [List.map_toArray, List.map_cons, List.map_nil]; rfl) ?_
  with_reducible refine (sMinus _ g4 0 g5 0 x y (P6.blk (m := x) (HO.out.at 1 rfl)) (P6.blk (m := y) (HO.out.at 0 rfl)) HK.out).mono ?_
  rintro e w9 ⟨rfl, hb⟩
  refine ⟨_, rfl, ?_⟩
  replace HO := Aside0.mk (HO.out.below hb)
  clear hb
  refine hK.out _ _ (HO.out.cell 4 rfl 0 rfl) (fun hHeld => ?_)
  clear hK K
  refine norm_ (a' := ?_) ?_ ?_
  rotate_left
  · show Act.put _ (some 34) _ = _
    simp only [Act.put, List.setIfInBounds_toArray, List.set_cons_zero, List.set_cons_succ, i64_w, i32_w]
    rfl
  refine one_ (i := 3) (N := some 35) #[true, true, true, true, false, false] rfl rfl (by kernel_rfl) (by decide) (fun K hK => ?_)
  refine goes_ Try.func112 (by kernel_rfl) rfl #[.bool s, .agg #[.int .u32 ((lb (x - y) 0 : Nat) : Int), .int .u32 ((lb (x - y) 1 : Nat) : Int), .int .u32 ((lb (x - y) 2 : Nat) : Int), .int .u32 ((lb (x - y) 3 : Nat) : Int), .int .u32 ((lb (x - y) 4 : Nat) : Int), .int .u32 ((lb (x - y) 5 : Nat) : Int)]] (by rfl) rfl rfl (by simp only [List.map_toArray, List.map_cons, List.map_nil]; rfl) ?_
  with_reducible refine (sMade _ s (x - y) HM.out).mono ?_
  rintro e w10 ⟨rfl, hb⟩
  refine ⟨_, rfl, ?_⟩
  replace HO := Aside0.mk (HO.out.below hb)
  clear hb
  refine hK.out _ _ (HO.out.cell 4 rfl 0 rfl) (fun hHeld => ?_)
  clear hK K
  refine norm_ (a' := ?_) ?_ ?_
  rotate_left
  · show Act.put _ (some 35) _ = _
    simp only [Act.put, List.setIfInBounds_toArray, List.set_cons_zero, List.set_cons_succ, i64_w, i32_w]
    rfl
  refine last_store_ (i := 4) (w1 := (World.setCell (World.setCell (World.setCell (World.setCell (World.setCell (World.setCell (World.setCell w10 ⟨g3, 0, none⟩ (.bool (s && !(zN (x - y))))) ⟨g3, 1, none⟩ (.int .u32 ((lb (x - y) 0 : Nat) : Int))) ⟨g3, 2, none⟩ (.int .u32 ((lb (x - y) 1 : Nat) : Int))) ⟨g3, 3, none⟩ (.int .u32 ((lb (x - y) 2 : Nat) : Int))) ⟨g3, 4, none⟩ (.int .u32 ((lb (x - y) 3 : Nat) : Int))) ⟨g3, 5, none⟩ (.int .u32 ((lb (x - y) 4 : Nat) : Int))) ⟨g3, 6, none⟩ (.int .u32 ((lb (x - y) 5 : Nat) : Int)))) #[true, true, true, true, true, false] rfl rfl (by kernel_rfl) (by decide) (by rfl) (run_put7_ rfl (show _ = Value.pointer (some ⟨g3, 0, none⟩) from by rfl) (show _ = Value.agg #[.bool (s && !(zN (x - y))), .int .u32 ((lb (x - y) 0 : Nat) : Int), .int .u32 ((lb (x - y) 1 : Nat) : Int), .int .u32 ((lb (x - y) 2 : Nat) : Int), .int .u32 ((lb (x - y) 3 : Nat) : Int), .int .u32 ((lb (x - y) 4 : Nat) : Int), .int .u32 ((lb (x - y) 5 : Nat) : Int)] from by rfl) (HO.out.at 2 rfl) (by kernel_rfl) (by rfl)) ?_
  refine pure_ (i := 5) (N := some 5) (v := ?_) (a' := ?_) #[true, true, true, true, true, true] rfl rfl (by kernel_rfl) (fun _ _ _ h => h) (Or.inl ⟨by rfl, ?_⟩) ?_ ?_
  rotate_left
  · intro w'
    go_simp
    with_reducible rfl
  rotate_left
  · simp only [Act.put, List.setIfInBounds_toArray, List.set_cons_zero, List.set_cons_succ, i64_w, i32_w]
    rfl
  refine done_ (by kernel_rfl) ?_
  generalize hw5 : (World.setCell (World.setCell (World.setCell (World.setCell (World.setCell (World.setCell (World.setCell w10 ⟨g3, 0, none⟩ (.bool (s && !(zN (x - y))))) ⟨g3, 1, none⟩ (.int .u32 ((lb (x - y) 0 : Nat) : Int))) ⟨g3, 2, none⟩ (.int .u32 ((lb (x - y) 1 : Nat) : Int))) ⟨g3, 3, none⟩ (.int .u32 ((lb (x - y) 2 : Nat) : Int))) ⟨g3, 4, none⟩ (.int .u32 ((lb (x - y) 3 : Nat) : Int))) ⟨g3, 5, none⟩ (.int .u32 ((lb (x - y) 4 : Nat) : Int))) ⟨g3, 6, none⟩ (.int .u32 ((lb (x - y) 5 : Nat) : Int))) = w11
  replace HO := Aside0.mk (HO.out.put7 2 rfl hw5.symm rfl)
  clear hw5
  go_wp2
  refine bodyPost_ret (results_ct rfl _ _ g3 25 #[.bool (s && !(zN (x - y))), .int .u32 ((lb (x - y) 0 : Nat) : Int), .int .u32 ((lb (x - y) 1 : Nat) : Int), .int .u32 ((lb (x - y) 2 : Nat) : Int), .int .u32 ((lb (x - y) 3 : Nat) : Int), .int .u32 ((lb (x - y) 4 : Nat) : Int), .int .u32 ((lb (x - y) 5 : Nat) : Int)] (0, 0) _ rfl (HO.out.at 2 rfl) Try.underlying25 rfl (by kernel_rfl)) rfl ?_
  exact ⟨rfl, HO.out.bel⟩
set_option maxHeartbeats 8000000 in
set_option maxRecDepth 100000 in
theorem sAddL (w : World) (s t : Bool) (hst : (s == t) = false) (x y : Nat) (hx : x < 4294967296 ^ 6) (hy : y < 4294967296 ^ 6) (hk : x < y) :
    Calls Try.prog 84 #[.agg (W7 s x), .agg (W7 t y)] w fun e w' => e = .returned (.tuple #[.agg (W7 (t && !(zN (y - x))) (y - x)), .int .i64 0]) ∧ Below w.heap.size w w' := by
  unfold W7
  have HX := Aside0.mk hx
  have HY := Aside0.mk hy
  clear hx hy
  have HO := Aside0.mk (OB.start w)
  have hc : decide (0 ≤ cmpN x y) = false := by unfold cmpN; split <;> (try split) <;> first | decide | (exfalso; omega)
  have HM : Aside0 ((y - x) < 4294967296 ^ 6) := ⟨by have h1_ := HX.out; have h2_ := HY.out; omega⟩
  have HK := Aside0.mk hk
  go_enter Try.func84, Try.ntmps84
  go_wp2_with (first | ((with_reducible refine gate_dst (N := 2) rfl ?_); refine box_event ?hg (N := 2) ?hd (cs := #[.bool s, .int .u32 ((lb x 0 : Nat) : Int), .int .u32 ((lb x 1 : Nat) : Int), .int .u32 ((lb x 2 : Nat) : Int), .int .u32 ((lb x 3 : Nat) : Int), .int .u32 ((lb x 4 : Nat) : Int), .int .u32 ((lb x 5 : Nat) : Int)]) (t := 25) ?hr ?_; (case hd => rfl); (case hg => rfl); (case hr => first | (go_simp; done) | (go_simp; rfl)); intro g1 hg w1 hbox hb; replace HO := Aside0.mk (HO.out.box hg hbox hb); clear hg hbox hb) | ((with_reducible refine gate_dst (N := 3) rfl ?_); refine box_event ?hg (N := 3) ?hd (cs := #[.bool t, .int .u32 ((lb y 0 : Nat) : Int), .int .u32 ((lb y 1 : Nat) : Int), .int .u32 ((lb y 2 : Nat) : Int), .int .u32 ((lb y 3 : Nat) : Int), .int .u32 ((lb y 4 : Nat) : Int), .int .u32 ((lb y 5 : Nat) : Int)]) (t := 25) ?hr ?_; (case hd => rfl); (case hg => rfl); (case hr => first | (go_simp; done) | (go_simp; rfl)); intro g2 hg w2 hbox hb; replace HO := Aside0.mk (HO.out.box hg hbox hb); clear hg hbox hb) | ((with_reducible refine gate_dst (N := 4) rfl ?_); refine box_event ?hg (N := 4) ?hd (cs := #[.bool false, .int .u32 0, .int .u32 0, .int .u32 0, .int .u32 0, .int .u32 0, .int .u32 0]) (t := 25) ?hr ?_; (case hd => rfl); (case hg => rfl); (case hr => first | (go_simp; done) | (go_simp; rfl)); intro g3 hg w3 hbox hb; replace HO := Aside0.mk (HO.out.box hg hbox hb); clear hg hbox hb; obtain ⟨hc0, hc1, hc2, hc3, hc4, hc5, hc6⟩ := cells7_ (HO.out.at 2 rfl)) | ((with_reducible refine gate_dst (N := 6) rfl ?_); refine box_event ?hg (N := 6) ?hd (cs := #[.int .u32 0, .int .u32 0, .int .u32 0, .int .u32 0, .int .u32 0, .int .u32 0]) (t := 126) ?hr ?_; (case hd => rfl); (case hg => rfl); (case hr => first | (go_simp; done) | (go_simp; rfl)); intro g4 hg w4 hbox hb; replace HO := Aside0.mk (HO.out.box hg hbox hb); clear hg hbox hb; clear hc0 hc1 hc2 hc3 hc4 hc5 hc6) | ((with_reducible refine gate_store (t := 126) (p := 6) rfl ?_); refine store_event (t := 126) (p := 6) (v := ?vo_11) (w1 := (World.setCell (World.setCell (World.setCell (World.setCell (World.setCell (World.setCell w4 ⟨g4, 0, none⟩ (.int .u32 ((lb x 0 : Nat) : Int))) ⟨g4, 1, none⟩ (.int .u32 ((lb x 1 : Nat) : Int))) ⟨g4, 2, none⟩ (.int .u32 ((lb x 2 : Nat) : Int))) ⟨g4, 3, none⟩ (.int .u32 ((lb x 3 : Nat) : Int))) ⟨g4, 4, none⟩ (.int .u32 ((lb x 4 : Nat) : Int))) ⟨g4, 5, none⟩ (.int .u32 ((lb x 5 : Nat) : Int)))) ?hg ?ho ?hn ?hr ?_; (case ho => rfl); (case hg => rfl); (case hn => rfl); (case hr => (try simp only [Act.put, List.setIfInBounds_toArray, List.set_cons_zero, List.set_cons_succ]); exact run_put6_ rfl (show _ = Value.pointer (some ⟨g4, 0, none⟩) from by rfl) (show _ = Value.agg #[.int .u32 ((lb x 0 : Nat) : Int), .int .u32 ((lb x 1 : Nat) : Int), .int .u32 ((lb x 2 : Nat) : Int), .int .u32 ((lb x 3 : Nat) : Int), .int .u32 ((lb x 4 : Nat) : Int), .int .u32 ((lb x 5 : Nat) : Int)] from by rfl) (HO.out.at 0 rfl) (by kernel_rfl) (by rfl)); intro w5 hw; replace HO := Aside0.mk (HO.out.put6 0 rfl hw rfl); clear hw; obtain ⟨hc0, hc1, hc2, hc3, hc4, hc5, hc6⟩ := cells7_ (HO.out.at 2 rfl)) | ((with_reducible refine gate_dst (N := 7) rfl ?_); refine box_event ?hg (N := 7) ?hd (cs := #[.int .u32 0, .int .u32 0, .int .u32 0, .int .u32 0, .int .u32 0, .int .u32 0]) (t := 126) ?hr ?_; (case hd => rfl); (case hg => rfl); (case hr => first | (go_simp; done) | (go_simp; rfl)); intro g5 hg w6 hbox hb; replace HO := Aside0.mk (HO.out.box hg hbox hb); clear hg hbox hb; clear hc0 hc1 hc2 hc3 hc4 hc5 hc6) | ((with_reducible refine gate_store (t := 126) (p := 7) rfl ?_); refine store_event (t := 126) (p := 7) (v := ?vo_12) (w1 := (World.setCell (World.setCell (World.setCell (World.setCell (World.setCell (World.setCell w6 ⟨g5, 0, none⟩ (.int .u32 ((lb y 0 : Nat) : Int))) ⟨g5, 1, none⟩ (.int .u32 ((lb y 1 : Nat) : Int))) ⟨g5, 2, none⟩ (.int .u32 ((lb y 2 : Nat) : Int))) ⟨g5, 3, none⟩ (.int .u32 ((lb y 3 : Nat) : Int))) ⟨g5, 4, none⟩ (.int .u32 ((lb y 4 : Nat) : Int))) ⟨g5, 5, none⟩ (.int .u32 ((lb y 5 : Nat) : Int)))) ?hg ?ho ?hn ?hr ?_; (case ho => rfl); (case hg => rfl); (case hn => rfl); (case hr => (try simp only [Act.put, List.setIfInBounds_toArray, List.set_cons_zero, List.set_cons_succ]); exact run_put6_ rfl (show _ = Value.pointer (some ⟨g5, 0, none⟩) from by rfl) (show _ = Value.agg #[.int .u32 ((lb y 0 : Nat) : Int), .int .u32 ((lb y 1 : Nat) : Int), .int .u32 ((lb y 2 : Nat) : Int), .int .u32 ((lb y 3 : Nat) : Int), .int .u32 ((lb y 4 : Nat) : Int), .int .u32 ((lb y 5 : Nat) : Int)] from by rfl) (HO.out.at 0 rfl) (by kernel_rfl) (by rfl)); intro w7 hw; replace HO := Aside0.mk (HO.out.put6 0 rfl hw rfl); clear hw; have k0 := HO.out.cell 4 rfl 0 rfl; have k1 := HO.out.cell 3 rfl 0 rfl) | (go_at_call 114; (with_reducible refine (sCmp _ g4 0 g5 0 x y (P6.blk (m := x) (HO.out.at 1 rfl)) (P6.blk (m := y) (HO.out.at 0 rfl)) HX.out HY.out).mono ?_); rintro e w8 ⟨rfl, hb⟩; replace HO := Aside0.mk (HO.out.below hb); clear hb k0 k1))
  replace HO := Aside0.mk HO.out.drew
  refine start_ (n := 6) (S := fun w' => w'.cell? ⟨g2, 0, none⟩ = some (.bool t)) (ds := [4]) #[false, false, false, false, false, false] (by kernel_rfl) rfl rfl (HO.out.cell 3 rfl 0 rfl) (fun hHeld => ?_)
  refine pure_ (i := 0) (N := some 36) (v := ?_) (a' := ?_) #[true, false, false, false, false, false] rfl rfl (by kernel_rfl) (fun _ _ _ h => h) (Or.inl ⟨by rfl, ?_⟩) ?_ ?_
  rotate_left
  · intro w'
    go_simp
    with_reducible rfl
  rotate_left
  · simp only [Act.put, List.setIfInBounds_toArray, List.set_cons_zero, List.set_cons_succ, i64_w, i32_w]
    rfl
  refine take_ (i := 1) (N := some 37) (v := ?_) (a' := ?_) #[true, true, false, false, false, false] rfl rfl (by kernel_rfl) (fun _ _ _ h => h) (Or.inl ⟨by rfl, ?_⟩) hHeld ?_ ?_
  rotate_left
  · intro w' s0
    go_simp
    with_reducible rfl
  rotate_left
  · simp only [Act.put, List.setIfInBounds_toArray, List.set_cons_zero, List.set_cons_succ, i64_w, i32_w]
    rfl
  refine one_ (i := 2) (N := some 38) #[true, true, true, false, false, false] rfl rfl (by kernel_rfl) (by decide) (fun K hK => ?_)
  refine goes_ Try.func115 (by kernel_rfl) rfl #[.pointer (some ⟨g5, 0, none⟩), .pointer (some ⟨g4, 0, none⟩)] (by rfl) rfl rfl (by simp only [List.map_toArray, List.map_cons, List.map_nil]; rfl) ?_
  with_reducible refine (sMinus _ g5 0 g4 0 y x (P6.blk (m := y) (HO.out.at 0 rfl)) (P6.blk (m := x) (HO.out.at 1 rfl)) (Nat.le_of_lt HK.out)).mono ?_
  rintro e w9 ⟨rfl, hb⟩
  refine ⟨_, rfl, ?_⟩
  replace HO := Aside0.mk (HO.out.below hb)
  clear hb
  refine hK.out _ _ (HO.out.cell 3 rfl 0 rfl) (fun hHeld => ?_)
  clear hK K
  refine norm_ (a' := ?_) ?_ ?_
  rotate_left
  · show Act.put _ (some 38) _ = _
    simp only [Act.put, List.setIfInBounds_toArray, List.set_cons_zero, List.set_cons_succ, i64_w, i32_w]
    rfl
  refine one_ (i := 3) (N := some 39) #[true, true, true, true, false, false] rfl rfl (by kernel_rfl) (by decide) (fun K hK => ?_)
  refine goes_ Try.func112 (by kernel_rfl) rfl #[.bool t, .agg #[.int .u32 ((lb (y - x) 0 : Nat) : Int), .int .u32 ((lb (y - x) 1 : Nat) : Int), .int .u32 ((lb (y - x) 2 : Nat) : Int), .int .u32 ((lb (y - x) 3 : Nat) : Int), .int .u32 ((lb (y - x) 4 : Nat) : Int), .int .u32 ((lb (y - x) 5 : Nat) : Int)]] (by rfl) rfl rfl (by simp only [List.map_toArray, List.map_cons, List.map_nil]; rfl) ?_
  with_reducible refine (sMade _ t (y - x) HM.out).mono ?_
  rintro e w10 ⟨rfl, hb⟩
  refine ⟨_, rfl, ?_⟩
  replace HO := Aside0.mk (HO.out.below hb)
  clear hb
  refine hK.out _ _ (HO.out.cell 3 rfl 0 rfl) (fun hHeld => ?_)
  clear hK K
  refine norm_ (a' := ?_) ?_ ?_
  rotate_left
  · show Act.put _ (some 39) _ = _
    simp only [Act.put, List.setIfInBounds_toArray, List.set_cons_zero, List.set_cons_succ, i64_w, i32_w]
    rfl
  refine last_store_ (i := 4) (w1 := (World.setCell (World.setCell (World.setCell (World.setCell (World.setCell (World.setCell (World.setCell w10 ⟨g3, 0, none⟩ (.bool (t && !(zN (y - x))))) ⟨g3, 1, none⟩ (.int .u32 ((lb (y - x) 0 : Nat) : Int))) ⟨g3, 2, none⟩ (.int .u32 ((lb (y - x) 1 : Nat) : Int))) ⟨g3, 3, none⟩ (.int .u32 ((lb (y - x) 2 : Nat) : Int))) ⟨g3, 4, none⟩ (.int .u32 ((lb (y - x) 3 : Nat) : Int))) ⟨g3, 5, none⟩ (.int .u32 ((lb (y - x) 4 : Nat) : Int))) ⟨g3, 6, none⟩ (.int .u32 ((lb (y - x) 5 : Nat) : Int)))) #[true, true, true, true, true, false] rfl rfl (by kernel_rfl) (by decide) (by rfl) (run_put7_ rfl (show _ = Value.pointer (some ⟨g3, 0, none⟩) from by rfl) (show _ = Value.agg #[.bool (t && !(zN (y - x))), .int .u32 ((lb (y - x) 0 : Nat) : Int), .int .u32 ((lb (y - x) 1 : Nat) : Int), .int .u32 ((lb (y - x) 2 : Nat) : Int), .int .u32 ((lb (y - x) 3 : Nat) : Int), .int .u32 ((lb (y - x) 4 : Nat) : Int), .int .u32 ((lb (y - x) 5 : Nat) : Int)] from by rfl) (HO.out.at 2 rfl) (by kernel_rfl) (by rfl)) ?_
  refine pure_ (i := 5) (N := some 5) (v := ?_) (a' := ?_) #[true, true, true, true, true, true] rfl rfl (by kernel_rfl) (fun _ _ _ h => h) (Or.inl ⟨by rfl, ?_⟩) ?_ ?_
  rotate_left
  · intro w'
    go_simp
    with_reducible rfl
  rotate_left
  · simp only [Act.put, List.setIfInBounds_toArray, List.set_cons_zero, List.set_cons_succ, i64_w, i32_w]
    rfl
  refine done_ (by kernel_rfl) ?_
  generalize hw5 : (World.setCell (World.setCell (World.setCell (World.setCell (World.setCell (World.setCell (World.setCell w10 ⟨g3, 0, none⟩ (.bool (t && !(zN (y - x))))) ⟨g3, 1, none⟩ (.int .u32 ((lb (y - x) 0 : Nat) : Int))) ⟨g3, 2, none⟩ (.int .u32 ((lb (y - x) 1 : Nat) : Int))) ⟨g3, 3, none⟩ (.int .u32 ((lb (y - x) 2 : Nat) : Int))) ⟨g3, 4, none⟩ (.int .u32 ((lb (y - x) 3 : Nat) : Int))) ⟨g3, 5, none⟩ (.int .u32 ((lb (y - x) 4 : Nat) : Int))) ⟨g3, 6, none⟩ (.int .u32 ((lb (y - x) 5 : Nat) : Int))) = w11
  replace HO := Aside0.mk (HO.out.put7 2 rfl hw5.symm rfl)
  clear hw5
  go_wp2
  refine bodyPost_ret (results_ct rfl _ _ g3 25 #[.bool (t && !(zN (y - x))), .int .u32 ((lb (y - x) 0 : Nat) : Int), .int .u32 ((lb (y - x) 1 : Nat) : Int), .int .u32 ((lb (y - x) 2 : Nat) : Int), .int .u32 ((lb (y - x) 3 : Nat) : Int), .int .u32 ((lb (y - x) 4 : Nat) : Int), .int .u32 ((lb (y - x) 5 : Nat) : Int)] (0, 0) _ rfl (HO.out.at 2 rfl) Try.underlying25 rfl (by kernel_rfl)) rfl ?_
  exact ⟨rfl, HO.out.bel⟩
set_option maxHeartbeats 8000000 in
set_option maxRecDepth 100000 in
theorem sMul (w : World) (s t q : Bool) (hst : (s == t) = !q) (x y : Nat) (hx : x < 4294967296 ^ 6) (hy : y < 4294967296 ^ 6) :
    Calls Try.prog 82 #[.agg (W7 s x), .agg (W7 t y)] w fun e w' => e = .returned (.tuple #[.agg (mulA q (x * y)), .int .i64 (fitC (x * y))]) ∧ Below w.heap.size w w' := by
  have hu25 := Try.underlying25
  have hu23 := Try.underlying23
  have hu123 := Try.underlying123
  have hu126 := Try.underlying126
  have HX := Aside0.mk hx
  have HY := Aside0.mk hy
  clear hx hy
  have HO := Aside0.mk (OB.start w)
  go_enter Try.func82, Try.ntmps82
  go_wp2_with (first | ((with_reducible refine gate_dst (N := 2) rfl ?_); refine box_event ?hg (N := 2) ?hd (cs := #[.bool s, .int .u32 ((lb x 0 : Nat) : Int), .int .u32 ((lb x 1 : Nat) : Int), .int .u32 ((lb x 2 : Nat) : Int), .int .u32 ((lb x 3 : Nat) : Int), .int .u32 ((lb x 4 : Nat) : Int), .int .u32 ((lb x 5 : Nat) : Int)]) (t := 25) ?hr ?_; (case hd => rfl); (case hg => rfl); (case hr => first | (go_simp; done) | (go_simp; rfl)); intro g1 hg w1 hbox hb; replace HO := Aside0.mk (HO.out.box hg hbox hb); clear hg hbox hb) | ((with_reducible refine gate_dst (N := 3) rfl ?_); refine box_event ?hg (N := 3) ?hd (cs := #[.bool t, .int .u32 ((lb y 0 : Nat) : Int), .int .u32 ((lb y 1 : Nat) : Int), .int .u32 ((lb y 2 : Nat) : Int), .int .u32 ((lb y 3 : Nat) : Int), .int .u32 ((lb y 4 : Nat) : Int), .int .u32 ((lb y 5 : Nat) : Int)]) (t := 25) ?hr ?_; (case hd => rfl); (case hg => rfl); (case hr => first | (go_simp; done) | (go_simp; rfl)); intro g2 hg w2 hbox hb; replace HO := Aside0.mk (HO.out.box hg hbox hb); clear hg hbox hb) | ((with_reducible refine gate_dst (N := 4) rfl ?_); refine box_event ?hg (N := 4) ?hd (cs := #[.bool false, .int .u32 0, .int .u32 0, .int .u32 0, .int .u32 0, .int .u32 0, .int .u32 0]) (t := 25) ?hr ?_; (case hd => rfl); (case hg => rfl); (case hr => first | (go_simp; done) | (go_simp; rfl)); intro g3 hg w3 hbox hb; replace HO := Aside0.mk (HO.out.box hg hbox hb); clear hg hbox hb) | ((with_reducible refine gate_dst (N := 6) rfl ?_); refine box_event ?hg (N := 6) ?hd (cs := #[.int .u32 0, .int .u32 0, .int .u32 0, .int .u32 0, .int .u32 0, .int .u32 0, .int .u32 0, .int .u32 0, .int .u32 0, .int .u32 0, .int .u32 0, .int .u32 0]) (t := 123) ?hr ?_; (case hd => rfl); (case hg => rfl); (case hr => first | (go_simp; done) | (go_simp; rfl)); intro g4 hg w4 hbox hb; replace HO := Aside0.mk (HO.out.box hg hbox hb); clear hg hbox hb) | ((with_reducible refine gate_store (t := 123) (p := 6) rfl ?_); refine store_event (t := 123) (p := 6) (v := ?vo_1) (w1 := (World.setCell (World.setCell (World.setCell (World.setCell (World.setCell (World.setCell (World.setCell (World.setCell (World.setCell (World.setCell (World.setCell (World.setCell w4 ⟨g4, 0, none⟩ (.int .u32 0)) ⟨g4, 1, none⟩ (.int .u32 0)) ⟨g4, 2, none⟩ (.int .u32 0)) ⟨g4, 3, none⟩ (.int .u32 0)) ⟨g4, 4, none⟩ (.int .u32 0)) ⟨g4, 5, none⟩ (.int .u32 0)) ⟨g4, 6, none⟩ (.int .u32 0)) ⟨g4, 7, none⟩ (.int .u32 0)) ⟨g4, 8, none⟩ (.int .u32 0)) ⟨g4, 9, none⟩ (.int .u32 0)) ⟨g4, 10, none⟩ (.int .u32 0)) ⟨g4, 11, none⟩ (.int .u32 0))) ?hg ?ho ?hn ?hr ?_; (case ho => rfl); (case hg => rfl); (case hn => rfl); (case hr => (try simp only [Act.put, List.setIfInBounds_toArray, List.set_cons_zero, List.set_cons_succ]); exact run_put12_ rfl (show _ = Value.pointer (some ⟨g4, 0, none⟩) from by rfl) (show _ = Value.agg #[.int .u32 0, .int .u32 0, .int .u32 0, .int .u32 0, .int .u32 0, .int .u32 0, .int .u32 0, .int .u32 0, .int .u32 0, .int .u32 0, .int .u32 0, .int .u32 0] from by rfl) (HO.out.at 0 rfl) (by kernel_rfl) (by rfl)); intro w5 hw; replace HO := Aside0.mk (HO.out.whole12 hw); clear hw))
  go_loopg [7] 7 (fun kq v7 w' => ∃ (n : Nat) (i : Int) (f : Nat → Nat), v7 = .int .i64 i ∧ Aside0 (i = n ∧ n + kq = 7 ∧ n ≤ 6 ∧ ∀ m, m < 12 → f m = lb (rowX x y n) m) ∧ Aside0 (OB w.heap.size w w' [(g4, o12 f, 123), (g3, #[.bool false, .int .u32 0, .int .u32 0, .int .u32 0, .int .u32 0, .int .u32 0, .int .u32 0], 25), (g2, W7 t y, 25), (g1, W7 s x, 25)]))
  case atStart => exact ⟨0, 0, fun _ => 0, rfl, ⟨rfl, rfl, by decide, fun m _ => by unfold rowX; rw [Nat.pow_zero, Nat.mod_one, Nat.zero_mul, lb0]⟩, ⟨HO.out⟩⟩
  case round =>
    clear HO
    obtain ⟨n, i, f, rfl, HN, HO⟩ := hrel
    by_cases c : i < 6
    · have hn : n < 6 := by have := HN.out.1; omega
      have c0 : decide (i < 6) = true := decide_eq_true c
      have p0 := eq_true (show 0 ≤ i from by have := HN.out.1; omega)
      have p1 := eq_true c
      clear c
      cases gk with
      | zero => have := HN.out.2.1; omega
      | succ k1 =>
      go_wp2
      go_loopg [8, 9] 7 (fun kq v8 v9 w' => ∃ (j : Nat) (C k : Int) (h : Nat → Nat), v8 = .int .u64 C ∧ v9 = .int .i64 k ∧ Aside0 (C = ((cyT (rowX x y n) (lb x n) y n j : Nat) : Int) ∧ k = j ∧ j + kq = 7 ∧ j ≤ 6 ∧ ∀ m, m < 12 → h m = if m < n + j then lb (rowX x y (n + 1)) m else lb (rowX x y n) m) ∧ Aside0 (OB w.heap.size w w' [(g4, o12 h, 123), (g3, #[.bool false, .int .u32 0, .int .u32 0, .int .u32 0, .int .u32 0, .int .u32 0, .int .u32 0], 25), (g2, W7 t y, 25), (g1, W7 s x, 25)]))
      case atStart => exact ⟨0, 0, 0, f, rfl, rfl, ⟨by rw [cyT_zero]; rfl, rfl, rfl, by decide, row_start HN.out.2.2.2⟩, ⟨HO.out⟩⟩
      case round =>
        clear HO
        obtain ⟨j, C, k, h, rfl, rfl, HJ, HO⟩ := hrel
        by_cases c : k < 6
        · have hj : j < 6 := by have := HJ.out.2.1; omega
          have c1 : decide (k < 6) = true := decide_eq_true c
          have p2 := eq_true (show 0 ≤ k from by have := HJ.out.2.1; omega)
          have p3 := eq_true c
          clear c
          obtain ⟨S, hS⟩ : ∃ S : Int, wrap64 (i + k) = S := ⟨_, rfl⟩
          have HS : Aside0 (S = ((n + j : Nat) : Int)) := ⟨by rw [← hS, HN.out.1, HJ.out.2.1, i64w (by omega) (by omega)]; omega⟩
          have p4 := eq_true (show 0 ≤ S from by have := HS.out; omega)
          have p5 := eq_true (show S < 12 from by have := HS.out; omega)
          obtain ⟨A, hA⟩ : ∃ A : Int, A = ((lb x n : Nat) : Int) := ⟨_, rfl⟩
          obtain ⟨Y, hY⟩ : ∃ Y : Int, Y = ((lb y j : Nat) : Int) := ⟨_, rfl⟩
          obtain ⟨Z, hZ⟩ : ∃ Z : Int, Z = (h (n + j) : Int) := ⟨_, rfl⟩
          obtain ⟨a0, a1⟩ := HO.out.cellA 3 rfl HN.out.1 (hA ▸ W7_get s x n hn)
          obtain ⟨b0, b1⟩ := HO.out.cellA 2 rfl HJ.out.2.1 (hY ▸ W7_get t y j hj)
          obtain ⟨d0, d1⟩ := HO.out.cellZ 0 rfl HS.out (hZ ▸ o12_get h (n + j) (by omega))
          have fr0 := HO.out.fr 0 rfl S.toNat
          have HA := Aside0.mk hA
          have HY_ := Aside0.mk hY
          have HZ := Aside0.mk hZ
          clear hA hY hZ
          go_wp2
          go_quiet (fail)
          go_wp2
          cases gk with
          | zero => have := HJ.out.2.2.1; omega
          | succ k2 =>
          go_roundg k2
          case measure => omega
          case rel => exact ⟨j + 1, _, _, _, rfl, rfl, ⟨(mul_lc HA.out HY_.out HZ.out HJ.out.1 (by omega) HJ.out.2.2.2.2).2, nextI HJ.out.2.1 (by omega), by have := HJ.out.2.2.1; omega, by omega, row_step HJ.out.2.2.2.2⟩, ⟨(HO.out.drewN nq).put12 (by omega) HS.out (mul_lc HA.out HY_.out HZ.out HJ.out.1 (by omega) HJ.out.2.2.2.2).1 rfl rfl⟩⟩
        · have c1 : decide (k < 6) = false := decide_eq_false c
          obtain rfl : j = 6 := by have := HJ.out.2; omega
          obtain ⟨S, hS⟩ : ∃ S : Int, wrap64 (i + 6) = S := ⟨_, rfl⟩
          have HS : Aside0 (S = ((n + 6 : Nat) : Int)) := ⟨addI (k := 6) HN.out.1 (by omega) hS⟩
          have p4 := eq_true (show 0 ≤ S from by have := HS.out; omega)
          have p5 := eq_true (show S < 12 from by have := HS.out; omega)
          have fr0 := HO.out.fr 0 rfl S.toNat
          obtain ⟨d0, d1⟩ := HO.out.cellZ 0 rfl HS.out (o12_get h (n + 6) (by omega))
          go_wp2
          go_roundg k1
          case measure => omega
          case rel => exact ⟨n + 1, _, _, rfl, ⟨nextI HN.out.1 (by omega), by have := HN.out.2.1; omega, by omega, row_end HY.out HJ.out.2.2.2.2⟩, ⟨HO.out.put12 (v := cyT (rowX x y n) (lb x n) y n 6 % 4294967296) (by omega) HS.out (by rw [HJ.out.1]; omega) rfl rfl⟩⟩
    · have c0 : decide (i < 6) = false := decide_eq_false c
      obtain rfl : n = 6 := by have := HN.out; omega
      have HF : Aside0 (∀ m, m < 12 → f m = lb (x * y) m) := ⟨by rw [← rowX_six HX.out]; exact HN.out.2.2.2⟩
      clear HN c
      go_wp2_with (first | ((with_reducible refine gate_dst (N := 11) rfl ?_); refine box_event ?hg (N := 11) ?hd (cs := #[.int .u32 0, .int .u32 0, .int .u32 0, .int .u32 0, .int .u32 0, .int .u32 0]) (t := 126) ?hr ?_; (case hd => rfl); (case hg => rfl); (case hr => first | (go_simp; done) | (go_simp; rfl)); intro g5 hg w5 hbox hb; replace HO := Aside0.mk (HO.out.box hg hbox hb); clear hg hbox hb) | ((with_reducible refine gate_store (t := 126) (p := 11) rfl ?_); refine store_event (t := 126) (p := 11) (v := ?vo_3) (w1 := (World.setCell (World.setCell (World.setCell (World.setCell (World.setCell (World.setCell w5 ⟨g5, 0, none⟩ (.int .u32 0)) ⟨g5, 1, none⟩ (.int .u32 0)) ⟨g5, 2, none⟩ (.int .u32 0)) ⟨g5, 3, none⟩ (.int .u32 0)) ⟨g5, 4, none⟩ (.int .u32 0)) ⟨g5, 5, none⟩ (.int .u32 0))) ?hg ?ho ?hn ?hr ?_; (case ho => rfl); (case hg => rfl); (case hn => rfl); (case hr => (try simp only [Act.put, List.setIfInBounds_toArray, List.set_cons_zero, List.set_cons_succ]); exact run_put6_ rfl (show _ = Value.pointer (some ⟨g5, 0, none⟩) from by rfl) (show _ = Value.agg #[.int .u32 0, .int .u32 0, .int .u32 0, .int .u32 0, .int .u32 0, .int .u32 0] from by rfl) (HO.out.at 0 rfl) (by kernel_rfl) (by rfl)); intro w6 hw; replace HO := Aside0.mk (HO.out.put6 0 rfl hw rfl); clear hw))
      go_loopg [12] 7 (fun kq v12 w' => ∃ (n : Nat) (i : Int), v12 = .int .i64 i ∧ Aside0 (i = n ∧ n + kq = 7 ∧ n ≤ 6 ∧ ∀ m, m < n → lb (x * y) (6 + m) = 0) ∧ Aside0 (OB w.heap.size w w' ((g5, oA n (x * y), 126) :: [(g4, o12 f, 123), (g3, #[.bool false, .int .u32 0, .int .u32 0, .int .u32 0, .int .u32 0, .int .u32 0, .int .u32 0], 25), (g2, W7 t y, 25), (g1, W7 s x, 25)])))
      case atStart => exact ⟨0, 0, rfl, ⟨rfl, rfl, by decide, fun m hm => absurd hm (by omega)⟩, ⟨HO.out⟩⟩
      case round =>
        clear HO
        obtain ⟨n, i, rfl, HN, HO⟩ := hrel
        by_cases c : i < 6
        · have hn : n < 6 := by have := HN.out.1; omega
          have c1 : decide (i < 6) = true := decide_eq_true c
          have p0 := eq_true (show 0 ≤ i from by have := HN.out.1; omega)
          have p1 := eq_true c
          have p2 := eq_true (show i < 12 from by omega)
          clear c
          obtain ⟨S, hS⟩ : ∃ S : Int, wrap64 (i + 6) = S := ⟨_, rfl⟩
          have HS : Aside0 (S = ((n + 6 : Nat) : Int)) := ⟨addI (k := 6) HN.out.1 (by omega) hS⟩
          have p4 := eq_true (show 0 ≤ S from by have := HS.out; omega)
          have p5 := eq_true (show S < 12 from by have := HS.out; omega)
          obtain ⟨E, hE⟩ : ∃ E : Int, E = (f n : Int) := ⟨_, rfl⟩
          obtain ⟨D, hD⟩ : ∃ D : Int, D = (f (n + 6) : Int) := ⟨_, rfl⟩
          obtain ⟨d0, d1⟩ := HO.out.cellZ 1 rfl HN.out.1 (hE ▸ o12_get f n (by omega))
          obtain ⟨e0, e1⟩ := HO.out.cellZ 0 rfl HN.out.1 (oA_get (n := n) (m := x * y) hn)
          have fr0 := HO.out.fr 0 rfl i.toNat
          have HE : Aside0 (E = ((lb (x * y) n : Nat) : Int)) := ⟨by rw [hE, HF.out n (by omega)]⟩
          have HD : Aside0 (D = ((lb (x * y) (6 + n) : Nat) : Int)) := ⟨by rw [hD, HF.out _ (by omega), Nat.add_comm]⟩
          have HD2 := Aside0.mk hD
          clear hE hD
          by_cases l : D = 0
          · have l0 : (D == 0) = true := by rw [l]; rfl
            have HL := Aside0.mk l
            clear l
            go_wp2_with (first | ((with_reducible refine gate_store (t := 22) (p := 64) rfl ?_); refine store_event (t := 22) (p := 64) (v := ?vo_2) (w1 := (World.setCell wr ⟨g5, i.toNat, none⟩ (.int .u32 E))) ?hg ?ho ?hn ?hr ?_; (case ho => rfl); (case hg => rfl); (case hn => rfl); (case hr => first | (go_simp; done) | (go_simp; rfl)); intro w7 hw; have HO2 := Aside0.mk (HO.out.oA hn HN.out.1 HE.out hw); clear HO d0 d1 e0 e1 fr0; have HO := HO2; clear HO2; obtain ⟨d0, d1⟩ := HO.out.cellZ 1 rfl HS.out (HD2.out ▸ o12_get f (n + 6) (by omega)); clear hw))
            cases gk with
            | zero => have := HN.out.2.1; omega
            | succ k2 =>
            go_roundg k2
            case measure => omega
            case rel => exact ⟨n + 1, _, rfl, ⟨nextI HN.out.1 (by omega), by have := HN.out.2.1; omega, by omega, fun m hm => by have h1_ := HN.out.2.2.2 m; have h2_ := HD.out; have h3_ := HL.out; by_cases e : m < n; exact h1_ e; obtain rfl : m = n := (by omega); omega⟩, HO⟩
          · have l0 : (D == 0) = false := by simpa using l
            have HL := Aside0.mk (prod_over (P := x * y) hn (by have h2_ := HD.out; intro h_; exact l (by rw [h2_, h_]; rfl)))
            clear l
            go_wp2_with (first | ((with_reducible refine gate_store (t := 22) (p := 64) rfl ?_); refine store_event (t := 22) (p := 64) (v := ?vo_4) (w1 := (World.setCell wr ⟨g5, i.toNat, none⟩ (.int .u32 E))) ?hg ?ho ?hn ?hr ?_; (case ho => rfl); (case hg => rfl); (case hn => rfl); (case hr => first | (go_simp; done) | (go_simp; rfl)); intro w7 hw; have HO2 := Aside0.mk (HO.out.oA hn HN.out.1 HE.out hw); clear HO d0 d1 e0 e1 fr0; have HO := HO2; clear HO2; obtain ⟨d0, d1⟩ := HO.out.cellZ 1 rfl HS.out (HD2.out ▸ o12_get f (n + 6) (by omega)); clear hw) | ((with_reducible refine gate_store (t := 25) (p := 4) rfl ?_); refine store_event (t := 25) (p := 4) (v := ?vo_5) (w1 := (World.setCell (World.setCell (World.setCell (World.setCell (World.setCell (World.setCell (World.setCell w7 ⟨g3, 0, none⟩ (.bool false)) ⟨g3, 1, none⟩ (.int .u32 0)) ⟨g3, 2, none⟩ (.int .u32 0)) ⟨g3, 3, none⟩ (.int .u32 0)) ⟨g3, 4, none⟩ (.int .u32 0)) ⟨g3, 5, none⟩ (.int .u32 0)) ⟨g3, 6, none⟩ (.int .u32 0))) ?hg ?ho ?hn ?hr ?_; (case ho => rfl); (case hg => rfl); (case hn => rfl); (case hr => (try simp only [Act.put, List.setIfInBounds_toArray, List.set_cons_zero, List.set_cons_succ]); exact run_put7_ rfl (show _ = Value.pointer (some ⟨g3, 0, none⟩) from by rfl) (show _ = Value.agg #[.bool false, .int .u32 0, .int .u32 0, .int .u32 0, .int .u32 0, .int .u32 0, .int .u32 0] from by rfl) (HO.out.at 2 rfl) (by kernel_rfl) (by rfl)); intro w8 hw; replace HO := Aside0.mk (HO.out.put7 2 rfl hw rfl); clear hw))
            refine bodyPost_ret (results_ct rfl _ _ g3 25 #[.bool false, .int .u32 0, .int .u32 0, .int .u32 0, .int .u32 0, .int .u32 0, .int .u32 0] (0, 0) _ rfl (HO.out.at 2 rfl) Try.underlying25 rfl (by kernel_rfl)) rfl ?_
            exact ⟨by rw [(mulA_neg (q := q) HL.out).1, (mulA_neg (q := q) HL.out).2]; rfl, HO.out.bel⟩
        · have c1 : decide (i < 6) = false := decide_eq_false c
          obtain rfl : n = 6 := by have := HN.out; omega
          have HP := Aside0.mk (prod_fits (prod_lt HX.out HY.out) HN.out.2.2.2)
          obtain ⟨hc0, hc1, hc2, hc3, hc4, hc5⟩ := cells6_ (show wr.heap[g5]? = some (.cells #[.int .u32 ((lb (x * y) 0 : Nat) : Int), .int .u32 ((lb (x * y) 1 : Nat) : Int), .int .u32 ((lb (x * y) 2 : Nat) : Int), .int .u32 ((lb (x * y) 3 : Nat) : Int), .int .u32 ((lb (x * y) 4 : Nat) : Int), .int .u32 ((lb (x * y) 5 : Nat) : Int)] _ (0, 0)) from HO.out.at 0 rfl)
          have k0 : wr.cell? ⟨g1, 0, none⟩ = some (.bool s) := HO.out.cell 4 rfl 0 rfl
          have k1 : wr.cell? ⟨g2, 0, none⟩ = some (.bool t) := HO.out.cell 3 rfl 0 rfl
          go_wp2_with (first | (go_at_call 112; (with_reducible refine (sMade _ q (x * y) HP.out).mono ?_); rintro e w7 ⟨rfl, hb⟩; replace HO := Aside0.mk (HO.out.below hb); clear hb) | ((with_reducible refine gate_store (t := 25) (p := 4) rfl ?_); refine store_event (t := 25) (p := 4) (v := ?vo_6) (w1 := (World.setCell (World.setCell (World.setCell (World.setCell (World.setCell (World.setCell (World.setCell w7 ⟨g3, 0, none⟩ (.bool (q && !(zN (x * y))))) ⟨g3, 1, none⟩ (.int .u32 ((lb (x * y) 0 : Nat) : Int))) ⟨g3, 2, none⟩ (.int .u32 ((lb (x * y) 1 : Nat) : Int))) ⟨g3, 3, none⟩ (.int .u32 ((lb (x * y) 2 : Nat) : Int))) ⟨g3, 4, none⟩ (.int .u32 ((lb (x * y) 3 : Nat) : Int))) ⟨g3, 5, none⟩ (.int .u32 ((lb (x * y) 4 : Nat) : Int))) ⟨g3, 6, none⟩ (.int .u32 ((lb (x * y) 5 : Nat) : Int)))) ?hg ?ho ?hn ?hr ?_; (case ho => rfl); (case hg => rfl); (case hn => rfl); (case hr => (try simp only [Act.put, List.setIfInBounds_toArray, List.set_cons_zero, List.set_cons_succ]); exact run_put7_ rfl (show _ = Value.pointer (some ⟨g3, 0, none⟩) from by rfl) (show _ = Value.agg #[.bool (q && !(zN (x * y))), .int .u32 ((lb (x * y) 0 : Nat) : Int), .int .u32 ((lb (x * y) 1 : Nat) : Int), .int .u32 ((lb (x * y) 2 : Nat) : Int), .int .u32 ((lb (x * y) 3 : Nat) : Int), .int .u32 ((lb (x * y) 4 : Nat) : Int), .int .u32 ((lb (x * y) 5 : Nat) : Int)] from by rfl) (HO.out.at 2 rfl) (by kernel_rfl) (by rfl)); intro w8 hw; replace HO := Aside0.mk (HO.out.put7 2 rfl hw rfl); clear hw))
          refine bodyPost_ret (results_ct rfl _ _ g3 25 #[.bool (q && !(zN (x * y))), .int .u32 ((lb (x * y) 0 : Nat) : Int), .int .u32 ((lb (x * y) 1 : Nat) : Int), .int .u32 ((lb (x * y) 2 : Nat) : Int), .int .u32 ((lb (x * y) 3 : Nat) : Int), .int .u32 ((lb (x * y) 4 : Nat) : Int), .int .u32 ((lb (x * y) 5 : Nat) : Int)] (0, 0) _ rfl (HO.out.at 2 rfl) Try.underlying25 rfl (by kernel_rfl)) rfl ?_
          exact ⟨by rw [(mulA_pos (q := q) HP.out).1, (mulA_pos (q := q) HP.out).2]; rfl, HO.out.bel⟩
end Go.Proofs.Ytbomadebdekjjaa.Wide
