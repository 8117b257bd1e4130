/- Functions of the program as Lean functions, and the proof that the code comes to what they say. Written by a program of this session (myprint.py). -/
import Derived.Test.YtgldplkbacfacaaMFnPairsx0
import Derived.Test.YtgldplkbacfacaaMFnPairsx5
import Derived.Test.YtgldplkbacfacaaMFnPairsx6
import Derived.Test.YtgldplkbacfacaaMFnPairsx7
namespace Go.Proofs.Ytgldplkbacfacaa.MFnPairs
open Go.RowKit Go.Proofs.Ytgldplkbacfacaa.MOpen Go.Proofs.YtgldplkbacfacaaW.PrintWords Go.Proofs.YtgldplkbacfacaaW.PrintLast Go.Proofs.YtgldplkbacfacaaW.PrintMore
attribute [local go_sem] max2_int min2_int max_two min_two max_three min_three max_four min_four   -- for this text's walks alone
set_option linter.unusedVariables false
set_option linter.unusedSimpArgs false

def implC (ov : Bool) (a b c : Int) : Option (Int × Bool) := (bits_Mul64.f (IntKind.u64.wrap (mx a (wrap64 (-a)))) (IntKind.u64.wrap (mx b (wrap64 (-b))))).bind fun bt => (if bt.1 = 0 then (if bt.2 > 2000000000000000 then (some (0, true)) else (if ov = true then (some (wrap64 ((wrap64 (a * b)) + c), true)) else ((impl_within.f (wrap64 ((wrap64 (a * b)) + c)) (-1000000000000000) 1000000000000000).bind fun t => (some (wrap64 ((wrap64 (a * b)) + c), !t))))) else (some (0, true)))
set_option maxHeartbeats 8000000 in
set_option maxRecDepth 100000 in
theorem impl_cell (g : Nat) (mv gv : Value) (ov : Bool) (a1 a2 a3 r1 : Int) (r2 : Bool) (w : World) (hb : w.heap[g]? = some (.cells #[mv, gv, .bool ov] 71 (0, 0))) (h : implC ov a1 a2 a3 = some (r1, r2)) :
    Calls Try.prog 69 #[.pointer (some ⟨g, 0, none⟩), .int .i64 a1, .int .i64 a2, .int .i64 a3] w fun e w' => e = .returned (.int .i64 r1) ∧ Up w w' g 2 (.bool r2) := by
  have hc : w.cell? ⟨g, 2, none⟩ = some (.bool ov) := (blk_cell hb 2).trans rfl
  have hf := blk_frozen hb 2
  clear hb
  unfold implC at h
  obtain ⟨ji5, hji5⟩ : ∃ j_ : Int, (mx a1 (wrap64 (-a1))) = j_ := ⟨_, rfl⟩
  have hji5_ : (if a1 < (wrap64 (-a1)) then (wrap64 (-a1)) else a1) = ji5 := hji5
  obtain ⟨ji6, hji6⟩ : ∃ j_ : Int, (mx a2 (wrap64 (-a2))) = j_ := ⟨_, rfl⟩
  have hji6_ : (if a2 < (wrap64 (-a2)) then (wrap64 (-a2)) else a2) = ji6 := hji6
  rw [hji5, hji6] at h
  obtain ⟨⟨t1, t2⟩, A0, H⟩ := Option.bind_eq_some_iff.mp h
  simp only at H
  have A := Aside0.mk A0
  clear A0 h
  by_cases c8 : t1 = 0
  · rw [if_pos c8] at H
    have c8b0 : (t1 == 0) = true := beq_iff_eq.mpr c8
    have c8b1 : (t1 != 0) = false := bne_eq_false_iff_eq.mpr c8
    clear c8
    by_cases c9 : t2 > 2000000000000000
    · rw [if_pos c9] at H
      have c9b0 : decide (2000000000000000 < t2) = true := decide_eq_true c9
      clear c9
      simp only [Option.some.injEq, Prod.mk.injEq] at H
      obtain ⟨rfl, rfl⟩ := H
      go_enter Try.func69, Try.ntmps69
      go_wp2_with (first | ((with_reducible refine gate_callee (f := 82) rfl ?_); refine goesL_ (some 23) rfl rfl Try.func82 (by kernel_rfl) rfl #[.int .u64 (IntKind.u64.wrap (ji5)), .int .u64 (IntKind.u64.wrap (ji6))] rfl (by (try simp only [List.map_toArray, List.map_cons, List.map_nil]); first | done | (simp only [hji5, hji6]; rfl) | rfl) ?_; (with_reducible refine (bits_Mul64.calls (IntKind.u64.wrap (ji5)) (IntKind.u64.wrap (ji6)) t1 t2 _ A.out).mono ?_); rintro e w' ⟨rfl, ⟨nd, rfl⟩⟩; refine ⟨_, rfl, ?_⟩))
      go_ret
      exact ⟨rfl, _, rfl⟩
    · rw [if_neg c9] at H
      have c9b0 : decide (2000000000000000 < t2) = false := decide_eq_false c9
      clear c9
      cases ov with
      | true =>
        rw [if_pos rfl] at H
        simp only [Option.some.injEq, Prod.mk.injEq] at H
        obtain ⟨rfl, rfl⟩ := H
        go_enter Try.func69, Try.ntmps69
        go_wp2_with (first | ((with_reducible refine gate_callee (f := 82) rfl ?_); refine goesL_ (some 23) rfl rfl Try.func82 (by kernel_rfl) rfl #[.int .u64 (IntKind.u64.wrap (ji5)), .int .u64 (IntKind.u64.wrap (ji6))] rfl (by (try simp only [List.map_toArray, List.map_cons, List.map_nil]); first | done | (simp only [hji5, hji6]; rfl) | rfl) ?_; (with_reducible refine (bits_Mul64.calls (IntKind.u64.wrap (ji5)) (IntKind.u64.wrap (ji6)) t1 t2 _ A.out).mono ?_); rintro e w' ⟨rfl, ⟨nd, rfl⟩⟩; refine ⟨_, rfl, ?_⟩))
        go_ret
        exact ⟨rfl, _, rfl⟩
      | false =>
        rw [if_neg (by decide)] at H
        obtain ⟨t3, A1, H⟩ := Option.bind_eq_some_iff.mp H
        have A2 := Aside0.mk A1
        clear A1
        simp only [Option.some.injEq, Prod.mk.injEq] at H
        obtain ⟨rfl, rfl⟩ := H
        go_enter Try.func69, Try.ntmps69
        go_wp2_with (first | ((with_reducible refine gate_callee (f := 82) rfl ?_); refine goesL_ (some 23) rfl rfl Try.func82 (by kernel_rfl) rfl #[.int .u64 (IntKind.u64.wrap (ji5)), .int .u64 (IntKind.u64.wrap (ji6))] rfl (by (try simp only [List.map_toArray, List.map_cons, List.map_nil]); first | done | (simp only [hji5, hji6]; rfl) | rfl) ?_; (with_reducible refine (bits_Mul64.calls (IntKind.u64.wrap (ji5)) (IntKind.u64.wrap (ji6)) t1 t2 _ A.out).mono ?_); rintro e w' ⟨rfl, ⟨nd, rfl⟩⟩; refine ⟨_, rfl, ?_⟩) | (go_at_call 60; (with_reducible refine (impl_within.calls _ _ _ t3 _ A2.out).mono ?_); rintro e w' ⟨rfl, ⟨nd, rfl⟩⟩))
        go_ret
        exact ⟨rfl, _, rfl⟩
  · rw [if_neg c8] at H
    have c8b0 : (t1 == 0) = false := beq_eq_false_iff_ne.mpr c8
    have c8b1 : (t1 != 0) = true := bne_iff_ne.mpr c8
    simp only [Option.some.injEq, Prod.mk.injEq] at H
    obtain ⟨rfl, rfl⟩ := H
    go_enter Try.func69, Try.ntmps69
    go_wp2_with (first | ((with_reducible refine gate_callee (f := 82) rfl ?_); refine goesL_ (some 23) rfl rfl Try.func82 (by kernel_rfl) rfl #[.int .u64 (IntKind.u64.wrap (ji5)), .int .u64 (IntKind.u64.wrap (ji6))] rfl (by (try simp only [List.map_toArray, List.map_cons, List.map_nil]); first | done | (simp only [hji5, hji6]; rfl) | rfl) ?_; (with_reducible refine (bits_Mul64.calls (IntKind.u64.wrap (ji5)) (IntKind.u64.wrap (ji6)) t1 t2 _ A.out).mono ?_); rintro e w' ⟨rfl, ⟨nd, rfl⟩⟩; refine ⟨_, rfl, ?_⟩))
    go_ret
    exact ⟨rfl, _, rfl⟩
set_option maxHeartbeats 8000000 in
set_option maxRecDepth 100000 in
theorem impl_take (b g : Nat) (ms : List S52) (gs : List Int) (f : Bool) (kd tm : Int) (w0 w : World) (hM : Mv 71 b w g ms gs f) (hB : Below b w0 w) (hbs : b ≤ w.heap.size) (hl : ms.length < 1000000) :
    Calls Try.prog 79 #[.pointer (some ⟨g, 0, none⟩), .int .i8 kd, .int .i64 tm] w fun e w' => e = .returned (.tuple #[]) ∧ Mv 71 b w' g (ms ++ [⟨kd, tm⟩]) gs f ∧ Below b w0 w' ∧ KeepT 71 w w' := by
  obtain ⟨mv, gv, h⟩ := Mw.start (by decide) hM hB hbs
  have X0 := Aside0.mk h
  clear h hM hB hbs
  have x0w := X0.out.x0
  go_enter Try.func79, Try.ntmps79
  go_wp2_with (first | ((with_reducible refine gate_builtin (b := .append) (xs := #[.tmp 10, .tmp 14]) rfl ?_); at_builtin; refine Kd.R_append k52 (w0 := w0) b rfl (.tmp 10) (.tmp 14) 33 52 (.agg #[(.int .i8 0), (.int .i64 0)]) 16 rfl Try.underlying33 info52_ rfl (by decide) (by omega) mv ms (⟨kd, tm⟩ : S52) [.int .i8 kd, .int .i64 tm] (fun _ => True) (fun _ => False) rfl rfl ?aP (fun _ hk => hk.elim) ?aF ?aO ?aB ?aS ?aL ?_; (case aP => exact k52_mkM _ _ _ (⟨kd, tm⟩ : S52)); (case aB => exact X0.out.bel); (case aF => exact (fun _ _ => trivial)); (case aO => exact X0.out.m); (case aS => exact X0.out.sz); (case aL => omega); intro v_ w1 ho hb1 hg1 hat; obtain ⟨Aw1, cw1, rfl⟩ := Kd.R_slice ho; have X1 := Aside0.mk (X0.out.appM ho hb1 hg1); clear ho hb1 hg1 hat X0; have x0w1 := X1.out.x0; have x1w1 := X1.out.x1; have x2w1 := X1.out.x2; have f0w1 := X1.out.fr 0; have f1w1 := X1.out.fr 1; have f2w1 := X1.out.fr 2) | ((with_reducible refine gate_store (t := 33) (p := 17) rfl ?_); refine store_event (t := 33) (p := 17) (v := ?vo_w2) (w1 := (w1.setCell ⟨g, 0, none⟩ (.slice Aw1 (ms.length + 1) cw1))) ?hg ?ho ?hn ?hr ?_; (case ho => rfl); (case hg => rfl); (case hn => rfl); (case hr => first | (go_simp; done) | (go_simp; rfl)); intro w2 hw; have X2 := Aside0.mk (X1.out.set0 hw); clear hw X1; have x0w2 := X2.out.x0; have x1w2 := X2.out.x1; have x2w2 := X2.out.x2; have f0w2 := X2.out.fr 0; have f1w2 := X2.out.fr 1; have f2w2 := X2.out.fr 2))
  go_end0
  exact ⟨rfl, X2.out.done' (by simp) (by simp) (by simp)⟩
set_option maxHeartbeats 8000000 in
set_option maxRecDepth 100000 in
theorem impl_give (b g : Nat) (ms : List S52) (gs : List Int) (f : Bool) (q : Int) (w0 w : World) (hM : Mv 71 b w g ms gs f) (hB : Below b w0 w) (hbs : b ≤ w.heap.size) (hl : ms.length < 1000000) (hl2 : gs.length < 1000000) :
    Calls Try.prog 68 #[.pointer (some ⟨g, 0, none⟩), .int .i64 q] w fun e w' => e = .returned (.tuple #[]) ∧ Mv 71 b w' g (ms ++ [⟨1, q⟩]) (gs ++ [q]) (f || decide (40 < (gs.length : Int) + 1)) ∧ Below b w0 w' ∧ KeepT 71 w w' := by
  obtain ⟨mv, gv, h⟩ := Mw.start (by decide) hM hB hbs
  obtain ⟨A2, c2, rfl⟩ := Kd.R_slice h.t
  have X0 := Aside0.mk h
  clear h hM hB hbs
  have x0w := X0.out.x0
  cases f with
  | true =>
    go_enter Try.func68, Try.ntmps68
    go_wp2_with (first | ((with_reducible refine gate_builtin (b := .append) (xs := #[.tmp 8, .tmp 11]) rfl ?_); at_builtin; refine Kd.R_append k52 (w0 := w0) b rfl (.tmp 8) (.tmp 11) 33 52 (.agg #[(.int .i8 0), (.int .i64 0)]) 16 rfl Try.underlying33 info52_ rfl (by decide) (by omega) mv ms (⟨1, q⟩ : S52) [.int .i8 1, .int .i64 q] (fun _ => True) (fun _ => False) rfl rfl ?aP (fun _ hk => hk.elim) ?aF ?aO ?aB ?aS ?aL ?_; (case aP => exact k52_mkM _ _ _ (⟨1, q⟩ : S52)); (case aB => exact X0.out.bel); (case aF => exact (fun _ _ => trivial)); (case aO => exact X0.out.m); (case aS => exact X0.out.sz); (case aL => omega); intro v_ w1 ho hb1 hg1 hat; obtain ⟨Aw1, cw1, rfl⟩ := Kd.R_slice ho; have X1 := Aside0.mk (X0.out.appM ho hb1 hg1); clear ho hb1 hg1 hat X0; have x0w1 := X1.out.x0; have x1w1 := X1.out.x1; have x2w1 := X1.out.x2; have f0w1 := X1.out.fr 0; have f1w1 := X1.out.fr 1; have f2w1 := X1.out.fr 2) | ((with_reducible refine gate_store (t := 33) (p := 14) rfl ?_); refine store_event (t := 33) (p := 14) (v := ?vo_w2) (w1 := (w1.setCell ⟨g, 0, none⟩ (.slice Aw1 (ms.length + 1) cw1))) ?hg ?ho ?hn ?hr ?_; (case ho => rfl); (case hg => rfl); (case hn => rfl); (case hr => first | (go_simp; done) | (go_simp; rfl)); intro w2 hw; have X2 := Aside0.mk (X1.out.set0 hw); clear hw X1; have x0w2 := X2.out.x0; have x1w2 := X2.out.x1; have x2w2 := X2.out.x2; have f0w2 := X2.out.fr 0; have f1w2 := X2.out.fr 1; have f2w2 := X2.out.fr 2) | ((with_reducible refine gate_builtin (b := .append) (xs := #[.tmp 19, .tmp 21]) rfl ?_); at_builtin; refine Kd.R_append (Kd.int .i64) (w0 := w0) b rfl (.tmp 19) (.tmp 21) 24 2 (.int .i64 0) 8 rfl Try.underlying24 info2 rfl (by decide) (by omega) (.slice A2 gs.length c2) gs q [.int .i64 q] (fun _ => True) (fun _ => False) rfl rfl ?aP (fun _ hk => hk.elim) ?aF ?aO ?aB ?aS ?aL ?_; (case aP => exact rfl); (case aB => exact X2.out.bel); (case aF => exact (fun _ _ => trivial)); (case aO => exact X2.out.t); (case aS => exact X2.out.sz); (case aL => omega); intro v_ w3 ho hb1 hg1 hat; obtain ⟨Aw3, cw3, rfl⟩ := Kd.R_slice ho; have X3 := Aside0.mk (X2.out.appT ho hb1 hg1); clear ho hb1 hg1 hat X2; have x0w3 := X3.out.x0; have x1w3 := X3.out.x1; have x2w3 := X3.out.x2; have f0w3 := X3.out.fr 0; have f1w3 := X3.out.fr 1; have f2w3 := X3.out.fr 2) | ((with_reducible refine gate_store (t := 24) (p := 24) rfl ?_); refine store_event (t := 24) (p := 24) (v := ?vo_w4) (w1 := (w3.setCell ⟨g, 1, none⟩ (.slice Aw3 (gs.length + 1) cw3))) ?hg ?ho ?hn ?hr ?_; (case ho => rfl); (case hg => rfl); (case hn => rfl); (case hr => first | (go_simp; done) | (go_simp; rfl)); intro w4 hw; have X4 := Aside0.mk (X3.out.set1 hw); clear hw X3; have x0w4 := X4.out.x0; have x1w4 := X4.out.x1; have x2w4 := X4.out.x2; have f0w4 := X4.out.fr 0; have f1w4 := X4.out.fr 1; have f2w4 := X4.out.fr 2) | ((with_reducible refine gate_store (t := 4) (p := 39) rfl ?_); refine store_event (t := 4) (p := 39) (v := ?vo_w5) (w1 := (w4.setCell ⟨g, 2, none⟩ (.bool true))) ?hg ?ho ?hn ?hr ?_; (case ho => rfl); (case hg => rfl); (case hn => rfl); (case hr => first | (go_simp; done) | (go_simp; rfl)); intro w5 hw; have X5 := Aside0.mk (X4.out.set2 hw); clear hw X4; have x0w5 := X5.out.x0; have x1w5 := X5.out.x1; have x2w5 := X5.out.x2; have f0w5 := X5.out.fr 0; have f1w5 := X5.out.fr 1; have f2w5 := X5.out.fr 2))
    go_end0
    exact ⟨rfl, X5.out.done' (by simp) (by simp) (by simp)⟩
  | false =>
    have hz : decide (40 < (gs.length : Int) + 1) = decide (40 < (gs.length : Int) + 1) := rfl
    go_enter Try.func68, Try.ntmps68
    go_wp2_with (first | ((with_reducible refine gate_builtin (b := .append) (xs := #[.tmp 8, .tmp 11]) rfl ?_); at_builtin; refine Kd.R_append k52 (w0 := w0) b rfl (.tmp 8) (.tmp 11) 33 52 (.agg #[(.int .i8 0), (.int .i64 0)]) 16 rfl Try.underlying33 info52_ rfl (by decide) (by omega) mv ms (⟨1, q⟩ : S52) [.int .i8 1, .int .i64 q] (fun _ => True) (fun _ => False) rfl rfl ?aP (fun _ hk => hk.elim) ?aF ?aO ?aB ?aS ?aL ?_; (case aP => exact k52_mkM _ _ _ (⟨1, q⟩ : S52)); (case aB => exact X0.out.bel); (case aF => exact (fun _ _ => trivial)); (case aO => exact X0.out.m); (case aS => exact X0.out.sz); (case aL => omega); intro v_ w1 ho hb1 hg1 hat; obtain ⟨Aw1, cw1, rfl⟩ := Kd.R_slice ho; have X1 := Aside0.mk (X0.out.appM ho hb1 hg1); clear ho hb1 hg1 hat X0; have x0w1 := X1.out.x0; have x1w1 := X1.out.x1; have x2w1 := X1.out.x2; have f0w1 := X1.out.fr 0; have f1w1 := X1.out.fr 1; have f2w1 := X1.out.fr 2) | ((with_reducible refine gate_store (t := 33) (p := 14) rfl ?_); refine store_event (t := 33) (p := 14) (v := ?vo_w2) (w1 := (w1.setCell ⟨g, 0, none⟩ (.slice Aw1 (ms.length + 1) cw1))) ?hg ?ho ?hn ?hr ?_; (case ho => rfl); (case hg => rfl); (case hn => rfl); (case hr => first | (go_simp; done) | (go_simp; rfl)); intro w2 hw; have X2 := Aside0.mk (X1.out.set0 hw); clear hw X1; have x0w2 := X2.out.x0; have x1w2 := X2.out.x1; have x2w2 := X2.out.x2; have f0w2 := X2.out.fr 0; have f1w2 := X2.out.fr 1; have f2w2 := X2.out.fr 2) | ((with_reducible refine gate_builtin (b := .append) (xs := #[.tmp 19, .tmp 21]) rfl ?_); at_builtin; refine Kd.R_append (Kd.int .i64) (w0 := w0) b rfl (.tmp 19) (.tmp 21) 24 2 (.int .i64 0) 8 rfl Try.underlying24 info2 rfl (by decide) (by omega) (.slice A2 gs.length c2) gs q [.int .i64 q] (fun _ => True) (fun _ => False) rfl rfl ?aP (fun _ hk => hk.elim) ?aF ?aO ?aB ?aS ?aL ?_; (case aP => exact rfl); (case aB => exact X2.out.bel); (case aF => exact (fun _ _ => trivial)); (case aO => exact X2.out.t); (case aS => exact X2.out.sz); (case aL => omega); intro v_ w3 ho hb1 hg1 hat; obtain ⟨Aw3, cw3, rfl⟩ := Kd.R_slice ho; have X3 := Aside0.mk (X2.out.appT ho hb1 hg1); clear ho hb1 hg1 hat X2; have x0w3 := X3.out.x0; have x1w3 := X3.out.x1; have x2w3 := X3.out.x2; have f0w3 := X3.out.fr 0; have f1w3 := X3.out.fr 1; have f2w3 := X3.out.fr 2) | ((with_reducible refine gate_store (t := 24) (p := 24) rfl ?_); refine store_event (t := 24) (p := 24) (v := ?vo_w4) (w1 := (w3.setCell ⟨g, 1, none⟩ (.slice Aw3 (gs.length + 1) cw3))) ?hg ?ho ?hn ?hr ?_; (case ho => rfl); (case hg => rfl); (case hn => rfl); (case hr => first | (go_simp; done) | (go_simp; rfl)); intro w4 hw; have X4 := Aside0.mk (X3.out.set1 hw); clear hw X3; have x0w4 := X4.out.x0; have x1w4 := X4.out.x1; have x2w4 := X4.out.x2; have f0w4 := X4.out.fr 0; have f1w4 := X4.out.fr 1; have f2w4 := X4.out.fr 2) | ((with_reducible refine gate_store (t := 4) (p := 39) rfl ?_); refine store_event (t := 4) (p := 39) (v := ?vo_w5) (w1 := (w4.setCell ⟨g, 2, none⟩ (.bool (decide (40 < (gs.length : Int) + 1))))) ?hg ?ho ?hn ?hr ?_; (case ho => rfl); (case hg => rfl); (case hn => rfl); (case hr => first | (go_simp; done) | (go_simp; rfl)); intro w5 hw; have X5 := Aside0.mk (X4.out.set2 hw); clear hw X4; have x0w5 := X5.out.x0; have x1w5 := X5.out.x1; have x2w5 := X5.out.x2; have f0w5 := X5.out.fr 0; have f1w5 := X5.out.fr 1; have f2w5 := X5.out.fr 2))
    go_end0
    exact ⟨rfl, X5.out.done' (by simp) (by simp) (by simp)⟩
/-- A machine with four numbers while it moves: what the notes say, the numbers (block gm), how many terms were taken (block gt). -/
structure PW (b : Nat) (w0 w : World) (gw gm gt : Nat) (A B C D tk : Int) (ms : List S52) (gs : List Int) (ov : Bool) : Prop where
  n : Mv 71 b w gw ms gs ov
  m : w.heap[gm]? = some (.cells #[.int .i64 A, .int .i64 B, .int .i64 C, .int .i64 D] 27 (0, 0))
  t : w.heap[gt]? = some (.cells #[.int .i64 tk] 3 (0, 0))
  lm : b ≤ gm
  lt : b ≤ gt
  bel : Below b w0 w
  sz : b ≤ w.heap.size
section
variable {b : Nat} {w0 w w1 : World} {gw gm gt : Nat} {A B C D tk : Int} {ms ms1 : List S52} {gs gs1 : List Int} {ov ov1 : Bool}
theorem PW.below (h : PW b w0 w gw gm gt A B C D tk ms gs ov) (hb : Below w.heap.size w w1) : PW b w0 w1 gw gm gt A B C D tk ms gs ov :=
  ⟨h.n.below hb, blk_below h.m hb, blk_below h.t hb, h.lm, h.lt, below_then h.bel h.sz hb, Nat.le_trans h.sz hb.size⟩
theorem PW.drewN (h : PW b w0 w gw gm gt A B C D tk ms gs ov) (n : Nat) : PW b w0 (w.drewN n) gw gm gt A B C D tk ms gs ov := h.below (pw_below_drewN (Below.refl _ _) n)
theorem PW.alloc (h : PW b w0 w gw gm gt A B C D tk ms gs ov) (o : Obj) : PW b w0 (w.alloc o) gw gm gt A B C D tk ms gs ov := h.below (below_alloc (Below.refl _ _) o)
theorem PW.note (h : PW b w0 w gw gm gt A B C D tk ms gs ov) (hn : Mv 71 b w1 gw ms1 gs1 ov1) (hb : Below b w0 w1) (hk : KeepT 71 w w1) : PW b w0 w1 gw gm gt A B C D tk ms1 gs1 ov1 :=
  ⟨hn, hk.2 _ _ _ h.m (by decide) (by decide) (by decide), hk.2 _ _ _ h.t (by decide) (by decide) (by decide), h.lm, h.lt, hb, Nat.le_trans h.sz hk.1⟩
theorem PW.up (h : PW b w0 w gw gm gt A B C D tk ms gs ov) (hu : Up w w1 gw 2 (.bool ov1)) : PW b w0 w1 gw gm gt A B C D tk ms gs ov1 := by
  have hk := Up.keep h.n hu
  obtain ⟨mv, gv, h1, h2, h3, h4⟩ := h.n
  exact h.note (h.n.up (by decide) hu) (Up.below (T := 71) hu h.bel h2) hk
theorem PW.c0 (h : PW b w0 w gw gm gt A B C D tk ms gs ov) : w.cell? ⟨gm, 0, none⟩ = some (.int .i64 A) := (blk_cell h.m 0).trans rfl
theorem PW.c1 (h : PW b w0 w gw gm gt A B C D tk ms gs ov) : w.cell? ⟨gm, 1, none⟩ = some (.int .i64 B) := (blk_cell h.m 1).trans rfl
theorem PW.c2 (h : PW b w0 w gw gm gt A B C D tk ms gs ov) : w.cell? ⟨gm, 2, none⟩ = some (.int .i64 C) := (blk_cell h.m 2).trans rfl
theorem PW.c3 (h : PW b w0 w gw gm gt A B C D tk ms gs ov) : w.cell? ⟨gm, 3, none⟩ = some (.int .i64 D) := (blk_cell h.m 3).trans rfl
theorem PW.ct (h : PW b w0 w gw gm gt A B C D tk ms gs ov) : w.cell? ⟨gt, 0, none⟩ = some (.int .i64 tk) := (blk_cell h.t 0).trans rfl
theorem PW.fm (h : PW b w0 w gw gm gt A B C D tk ms gs ov) (j : Nat) : w.frozen? ⟨gm, j, none⟩ = false := blk_frozen h.m j
theorem PW.ft (h : PW b w0 w gw gm gt A B C D tk ms gs ov) (j : Nat) : w.frozen? ⟨gt, j, none⟩ = false := blk_frozen h.t j
theorem PW.cw (h : PW b w0 w gw gm gt A B C D tk ms gs ov) : w.cell? ⟨gw, 2, none⟩ = some (.bool ov) := by
  obtain ⟨mv, gv, h1, _⟩ := h.n
  exact (blk_cell h1 2).trans rfl
theorem PW.tset (h : PW b w0 w gw gm gt A B C D tk ms gs ov) {u : Int} (hw : w1 = w.setCell ⟨gt, 0, none⟩ (.int .i64 u)) : PW b w0 w1 gw gm gt A B C D u ms gs ov := by
  subst hw
  refine ⟨h.n.far h.t (by decide) (by decide) (by decide) 0 _, blk_far h.m (blk_ne h.m h.t (by decide)) _, ?_, h.lm, h.lt, h.bel.setCell h.lt _, by rw [setCell_size]; exact h.sz⟩
  have := blk_set h.t 0 (.int .i64 u)
  simpa using this
theorem PW.mset1 (h : PW b w0 w gw gm gt A B C D tk ms gs ov) {a : Int} (j : Nat) {A' B' C' D' : Int} (e : (#[.int .i64 A, .int .i64 B, .int .i64 C, .int .i64 D] : Array Value).setIfInBounds j (.int .i64 a) = #[.int .i64 A', .int .i64 B', .int .i64 C', .int .i64 D']) : PW b w0 (w.setCell ⟨gm, j, none⟩ (.int .i64 a)) gw gm gt A' B' C' D' tk ms gs ov := by
  refine ⟨h.n.far h.m (by decide) (by decide) (by decide) j _, ?_, blk_far h.t (blk_ne h.t h.m (by decide)) _, h.lm, h.lt, h.bel.setCell h.lm _, by rw [setCell_size]; exact h.sz⟩
  rw [← e]
  exact blk_set h.m j _
theorem PW.mset (h : PW b w0 w gw gm gt A B C D tk ms gs ov) {A' B' C' D' : Int} (hw : w1 = (((w.setCell ⟨gm, 0, none⟩ (.int .i64 A')).setCell ⟨gm, 1, none⟩ (.int .i64 B')).setCell ⟨gm, 2, none⟩ (.int .i64 C')).setCell ⟨gm, 3, none⟩ (.int .i64 D')) : PW b w0 w1 gw gm gt A' B' C' D' tk ms gs ov := by
  subst hw
  exact (((h.mset1 0 rfl).mset1 1 rfl).mset1 2 rfl).mset1 3 rfl
end
theorem gives_two (k : Nat) (Aa Ab : Option Addr) (x y u v q : Int) (ok : Bool) (W : World) (h1 : Kd.C (Kd.int .i64) W Aa 2 [x, y]) (h2 : Kd.C (Kd.int .i64) W Ab 2 [u, v]) (h : impl_gives.f k [x, y] [u, v] = some (q, ok)) :
    Calls Try.prog 66 #[.slice Aa 2 2, .slice Ab 2 2] W fun e w' => e = .returned (.tuple #[.int .i64 q, .bool ok]) ∧ Drawn0 W w' := impl_gives.calls k Aa 2 [x, y] Ab 2 [u, v] q ok W h1 (Nat.le_refl 2) h2 (Nat.le_refl 2) h
theorem PW.drew {b : Nat} {w0 w : World} {gw gm gt : Nat} {A B C D tk : Int} {ms : List S52} {gs : List Int} {ov : Bool} (h : PW b w0 w gw gm gt A B C D tk ms gs ov) : PW b w0 w.drew gw gm gt A B C D tk ms gs ov := h.below (below_drew (Below.refl _ _))
theorem PW.cell {b : Nat} {w0 w : World} {gw gm gt : Nat} {A B C D tk : Int} {ms : List S52} {gs : List Int} {ov o : Bool} {a1 a2 a3 r : Int} (h : PW b w0 w gw gm gt A B C D tk ms gs ov) (hc : implC ov a1 a2 a3 = some (r, o)) :
    Calls Try.prog 69 #[.pointer (some ⟨gw, 0, none⟩), .int .i64 a1, .int .i64 a2, .int .i64 a3] w fun e w' => e = .returned (.int .i64 r) ∧ PW b w0 w' gw gm gt A B C D tk ms gs o := by
  obtain ⟨mv, gv, h1, h2, h3, h4⟩ := h.n
  refine (impl_cell gw mv gv ov a1 a2 a3 r o w h1 hc).mono ?_
  rintro e w' ⟨rfl, hu⟩
  exact ⟨rfl, h.up hu⟩
set_option maxHeartbeats 8000000 in
set_option maxRecDepth 100000 in
theorem step_give (k b : Nat) (w0 w : World) (gw gm gt : Nat) (A B C D : Int) (tk : Int) (xs : List Int) (A1 : Option Addr) (c1 : Nat) (ms : List S52) (gs : List Int) (ov o1 o2 : Bool) (q x y : Int)
    (hP : PW b w0 w gw gm gt A B C D tk ms gs ov) (hl : ms.length < 1000000) (hl2 : gs.length < 1000000) (htk0 : 0 ≤ tk) (htk2 : tk < 1000000)
    (hg : impl_gives.f k [A, wrap64 (A + B)] [C, wrap64 (C + D)] = some (q, true)) (htk : 0 < tk) (h1 : implC (ov || decide (40 < (gs.length : Int) + 1)) C (wrap64 (-q)) A = some (x, o1)) (h2 : implC o1 D (wrap64 (-q)) B = some (y, o2)) :
    Calls Try.prog 61 #[.pointer (some ⟨gm, 0, none⟩), .pointer (some ⟨gw, 0, none⟩), .slice A1 xs.length c1, .pointer (some ⟨gt, 0, none⟩)] w fun e w' => e = .returned (.bool (!o2)) ∧ PW b w0 w' gw gm gt C D x y tk (ms ++ [⟨1, q⟩]) (gs ++ [q]) o2 := by
  have X0 := Aside0.mk hP
  have HG := Aside0.mk hg
  have c0w := hP.c0
  have c1w := hP.c1
  have c2w := hP.c2
  have c3w := hP.c3
  have n0 := World.new_ne w _ c0w
  clear hP hg
  have H1 := Aside0.mk h1
  have H2 := Aside0.mk h2
  clear h1 h2
  go_enter Try.func61, Try.ntmps61
  go_wp2
  go_cut [9, 10] (fun v9 v10 wc => v9 = .int .i64 q ∧ v10 = .bool true ∧ Aside0 (PW b w0 wc gw gm gt A B C D tk ms gs ov))
  case first =>
    go_region_held3 (fun w' => w'.cell? ⟨gm, 0, none⟩ = some (.int .i64 A) ∧ w'.cell? ⟨gm, 1, none⟩ = some (.int .i64 B) ∧ w'.cell? ⟨gm, 2, none⟩ = some (.int .i64 C) ∧ w'.cell? ⟨gm, 3, none⟩ = some (.int .i64 D)) (first | exact ⟨X1.out.c0, X1.out.c1, X1.out.c2, X1.out.c3⟩ | go_keep)
      (first | (go_at_call 66; (with_reducible refine (gives_two k _ _ A (wrap64 (A + B)) C (wrap64 (C + D)) q true _ ?s1 ?s3 HG.out).mono ?_); (case s1 => first | exact C_two' (two_first w 0 _ _) rfl (i64_wrap _) | exact C_two' (two_second w _ _) rfl (i64_wrap _)); (case s3 => first | exact C_two' (two_first w 0 _ _) rfl (i64_wrap _) | exact C_two' (two_second w _ _) rfl (i64_wrap _)); rintro e w1 ⟨rfl, hd⟩; have X1 := Aside0.mk (X0.out.below (below_step (below_drew (below_alloc (below_alloc (Below.refl _ _) _) _)) hd.below)); clear hd))
    all_goals (go_wp2; go_meet)
    all_goals exact ⟨rfl, rfl, X1⟩
  case rest =>
    clear X0 c0w c1w c2w c3w n0
    obtain ⟨rfl, rfl, X1⟩ := hcut
    have ctw := X1.out.ct
    have ht0 : decide ((0 : Int) < tk) = true := decide_eq_true (by omega)
    go_wp2_with (first | (go_at_call 68; (with_reducible refine (impl_give b gw ms gs ov q w0 _ ?s1 ?s2 ?s3 hl hl2).mono ?_); (case s1 => exact X1.out.n); (case s2 => exact X1.out.bel); (case s3 => exact X1.out.sz); rintro e w2 ⟨rfl, hn, hb, hk⟩; have X2 := Aside0.mk (X1.out.note hn hb hk); clear hn hb hk))
    refine start_ (n := 36) (S := fun w' => w'.cell? ⟨gm, 0, none⟩ = some (.int .i64 A) ∧ w'.cell? ⟨gm, 1, none⟩ = some (.int .i64 B) ∧ w'.cell? ⟨gm, 2, none⟩ = some (.int .i64 C) ∧ w'.cell? ⟨gm, 3, none⟩ = some (.int .i64 D)) (ds := [35]) #[false, false, false, false, false, false, false, false, false, false, false, false, false, false, false, false, false, false, false, false, false, false, false, false, false, false, false, false, false, false, false, false, false, false, false, false] (by kernel_rfl) rfl rfl ⟨X2.out.drew.c0, X2.out.drew.c1, X2.out.drew.c2, X2.out.drew.c3⟩ (fun hHeld => ?_)
    refine pure_ (i := 0) (N := some 55) (v := ?_) (a' := ?_) #[true, false, false, false, false, false, false, false, false, false, false, false, false, false, false, false, false, false, false, false, false, false, false, false, false, false, false, false, false, false, false, false, false, false, false, false] rfl rfl (by kernel_rfl) (fun _ _ _ h => h) (Or.inl ⟨by rfl, ?_⟩) ?_ ?_
    rotate_left
    · intro w'
      go_simp
      with_reducible rfl
    rotate_left
    · simp only [Act.put, List.setIfInBounds_toArray, List.set_cons_zero, List.set_cons_succ, i64_w, i32_w]
      rfl
    refine pure_ (i := 1) (N := some 56) (v := ?_) (a' := ?_) #[true, true, false, false, false, false, false, false, false, false, false, false, false, false, false, false, false, false, false, false, false, false, false, false, false, false, false, false, false, false, false, false, false, false, false, false] rfl rfl (by kernel_rfl) (fun _ _ _ h => h) (Or.inl ⟨by rfl, ?_⟩) ?_ ?_
    rotate_left
    · intro w'
      go_simp
      with_reducible rfl
    rotate_left
    · simp only [Act.put, List.setIfInBounds_toArray, List.set_cons_zero, List.set_cons_succ, i64_w, i32_w]
      rfl
    refine pure_ (i := 2) (N := some 57) (v := ?_) (a' := ?_) #[true, true, true, false, false, false, false, false, false, false, false, false, false, false, false, false, false, false, false, false, false, false, false, false, false, false, false, false, false, false, false, false, false, false, false, false] rfl rfl (by kernel_rfl) (fun _ _ _ h => h) (Or.inl ⟨by rfl, ?_⟩) ?_ ?_
    rotate_left
    · intro w'
      go_simp
      with_reducible rfl
    rotate_left
    · simp only [Act.put, List.setIfInBounds_toArray, List.set_cons_zero, List.set_cons_succ, i64_w, i32_w]
      rfl
    refine pure_ (i := 3) (N := some 58) (v := ?_) (a' := ?_) #[true, true, true, true, false, false, false, false, false, false, false, false, false, false, false, false, false, false, false, false, false, false, false, false, false, false, false, false, false, false, false, false, false, false, false, false] rfl rfl (by kernel_rfl) (fun _ _ _ h => h) (Or.inl ⟨by rfl, ?_⟩) ?_ ?_
    rotate_left
    · intro w'
      go_simp
      with_reducible rfl
    rotate_left
    · simp only [Act.put, List.setIfInBounds_toArray, List.set_cons_zero, List.set_cons_succ, i64_w, i32_w]
      rfl
    refine pure_ (i := 5) (N := some 60) (v := ?_) (a' := ?_) #[true, true, true, true, false, true, false, false, false, false, false, false, false, false, false, false, false, false, false, false, false, false, false, false, false, false, false, false, false, false, false, false, false, false, false, false] rfl rfl (by kernel_rfl) (fun _ _ _ h => h) (Or.inl ⟨by rfl, ?_⟩) ?_ ?_
    rotate_left
    · intro w'
      go_simp
      with_reducible rfl
    rotate_left
    · simp only [Act.put, List.setIfInBounds_toArray, List.set_cons_zero, List.set_cons_succ, i64_w, i32_w]
      rfl
    refine pure_ (i := 6) (N := some 61) (v := ?_) (a' := ?_) #[true, true, true, true, false, true, true, false, false, false, false, false, false, false, false, false, false, false, false, false, false, false, false, false, false, false, false, false, false, false, false, false, false, false, false, false] rfl rfl (by kernel_rfl) (fun _ _ _ h => h) (Or.inl ⟨by rfl, ?_⟩) ?_ ?_
    rotate_left
    · intro w'
      go_simp
      with_reducible rfl
    rotate_left
    · simp only [Act.put, List.setIfInBounds_toArray, List.set_cons_zero, List.set_cons_succ, i64_w, i32_w]
      rfl
    refine pure_ (i := 7) (N := some 62) (v := ?_) (a' := ?_) #[true, true, true, true, false, true, true, true, false, false, false, false, false, false, false, false, false, false, false, false, false, false, false, false, false, false, false, false, false, false, false, false, false, false, false, false] rfl rfl (by kernel_rfl) (fun _ _ _ h => h) (Or.inl ⟨by rfl, ?_⟩) ?_ ?_
    rotate_left
    · intro w'
      go_simp
      with_reducible rfl
    rotate_left
    · simp only [Act.put, List.setIfInBounds_toArray, List.set_cons_zero, List.set_cons_succ, i64_w, i32_w]
      rfl
    refine pure_ (i := 9) (N := some 64) (v := ?_) (a' := ?_) #[true, true, true, true, false, true, true, true, false, true, false, false, false, false, false, false, false, false, false, false, false, false, false, false, false, false, false, false, false, false, false, false, false, false, false, false] rfl rfl (by kernel_rfl) (fun _ _ _ h => h) (Or.inl ⟨by rfl, ?_⟩) ?_ ?_
    rotate_left
    · intro w'
      go_simp
      with_reducible rfl
    rotate_left
    · simp only [Act.put, List.setIfInBounds_toArray, List.set_cons_zero, List.set_cons_succ, i64_w, i32_w]
      rfl
    refine pure_ (i := 10) (N := some 65) (v := ?_) (a' := ?_) #[true, true, true, true, false, true, true, true, false, true, true, false, false, false, false, false, false, false, false, false, false, false, false, false, false, false, false, false, false, false, false, false, false, false, false, false] rfl rfl (by kernel_rfl) (fun _ _ _ h => h) (Or.inl ⟨by rfl, ?_⟩) ?_ ?_
    rotate_left
    · intro w'
      go_simp
      with_reducible rfl
    rotate_left
    · simp only [Act.put, List.setIfInBounds_toArray, List.set_cons_zero, List.set_cons_succ, i64_w, i32_w]
      rfl
    refine pure_ (i := 11) (N := some 66) (v := ?_) (a' := ?_) #[true, true, true, true, false, true, true, true, false, true, true, true, false, false, false, false, false, false, false, false, false, false, false, false, false, false, false, false, false, false, false, false, false, false, false, false] rfl rfl (by kernel_rfl) (fun _ _ _ h => h) (Or.inl ⟨by rfl, ?_⟩) ?_ ?_
    rotate_left
    · intro w'
      go_simp
      with_reducible rfl
    rotate_left
    · simp only [Act.put, List.setIfInBounds_toArray, List.set_cons_zero, List.set_cons_succ, i64_w, i32_w]
      rfl
    refine pure_ (i := 12) (N := some 67) (v := ?_) (a' := ?_) #[true, true, true, true, false, true, true, true, false, true, true, true, true, false, false, false, false, false, false, false, false, false, false, false, false, false, false, false, false, false, false, false, false, false, false, false] rfl rfl (by kernel_rfl) (fun _ _ _ h => h) (Or.inl ⟨by rfl, ?_⟩) ?_ ?_
    rotate_left
    · intro w'
      go_simp
      with_reducible rfl
    rotate_left
    · simp only [Act.put, List.setIfInBounds_toArray, List.set_cons_zero, List.set_cons_succ, i64_w, i32_w]
      rfl
    refine pure_ (i := 14) (N := some 69) (v := ?_) (a' := ?_) #[true, true, true, true, false, true, true, true, false, true, true, true, true, false, true, false, false, false, false, false, false, false, false, false, false, false, false, false, false, false, false, false, false, false, false, false] rfl rfl (by kernel_rfl) (fun _ _ _ h => h) (Or.inl ⟨by rfl, ?_⟩) ?_ ?_
    rotate_left
    · intro w'
      go_simp
      with_reducible rfl
    rotate_left
    · simp only [Act.put, List.setIfInBounds_toArray, List.set_cons_zero, List.set_cons_succ, i64_w, i32_w]
      rfl
    refine pure_ (i := 15) (N := some 70) (v := ?_) (a' := ?_) #[true, true, true, true, false, true, true, true, false, true, true, true, true, false, true, true, false, false, false, false, false, false, false, false, false, false, false, false, false, false, false, false, false, false, false, false] rfl rfl (by kernel_rfl) (fun _ _ _ h => h) (Or.inl ⟨by rfl, ?_⟩) ?_ ?_
    rotate_left
    · intro w'
      go_simp
      with_reducible rfl
    rotate_left
    · simp only [Act.put, List.setIfInBounds_toArray, List.set_cons_zero, List.set_cons_succ, i64_w, i32_w]
      rfl
    refine pure_ (i := 16) (N := some 71) (v := ?_) (a' := ?_) #[true, true, true, true, false, true, true, true, false, true, true, true, true, false, true, true, true, false, false, false, false, false, false, false, false, false, false, false, false, false, false, false, false, false, false, false] rfl rfl (by kernel_rfl) (fun _ _ _ h => h) (Or.inl ⟨by rfl, ?_⟩) ?_ ?_
    rotate_left
    · intro w'
      go_simp
      with_reducible rfl
    rotate_left
    · simp only [Act.put, List.setIfInBounds_toArray, List.set_cons_zero, List.set_cons_succ, i64_w, i32_w]
      rfl
    refine pure_ (i := 17) (N := some 72) (v := ?_) (a' := ?_) #[true, true, true, true, false, true, true, true, false, true, true, true, true, false, true, true, true, true, false, false, false, false, false, false, false, false, false, false, false, false, false, false, false, false, false, false] rfl rfl (by kernel_rfl) (fun _ _ _ h => h) (Or.inl ⟨by rfl, ?_⟩) ?_ ?_
    rotate_left
    · intro w'
      go_simp
      with_reducible rfl
    rotate_left
    · simp only [Act.put, List.setIfInBounds_toArray, List.set_cons_zero, List.set_cons_succ, i64_w, i32_w]
      rfl
    refine pure_ (i := 18) (N := some 73) (v := ?_) (a' := ?_) #[true, true, true, true, false, true, true, true, false, true, true, true, true, false, true, true, true, true, true, false, false, false, false, false, false, false, false, false, false, false, false, false, false, false, false, false] rfl rfl (by kernel_rfl) (fun _ _ _ h => h) (Or.inl ⟨by rfl, ?_⟩) ?_ ?_
    rotate_left
    · intro w'
      go_simp
      with_reducible rfl
    rotate_left
    · simp only [Act.put, List.setIfInBounds_toArray, List.set_cons_zero, List.set_cons_succ, i64_w, i32_w]
      rfl
    refine pure_ (i := 21) (N := some 76) (v := ?_) (a' := ?_) #[true, true, true, true, false, true, true, true, false, true, true, true, true, false, true, true, true, true, true, false, false, true, false, false, false, false, false, false, false, false, false, false, false, false, false, false] rfl rfl (by kernel_rfl) (fun _ _ _ h => h) (Or.inl ⟨by rfl, ?_⟩) ?_ ?_
    rotate_left
    · intro w'
      go_simp
      with_reducible rfl
    rotate_left
    · simp only [Act.put, List.setIfInBounds_toArray, List.set_cons_zero, List.set_cons_succ, i64_w, i32_w]
      rfl
    refine pure_ (i := 22) (N := some 77) (v := ?_) (a' := ?_) #[true, true, true, true, false, true, true, true, false, true, true, true, true, false, true, true, true, true, true, false, false, true, true, false, false, false, false, false, false, false, false, false, false, false, false, false] rfl rfl (by kernel_rfl) (fun _ _ _ h => h) (Or.inl ⟨by rfl, ?_⟩) ?_ ?_
    rotate_left
    · intro w'
      go_simp
      with_reducible rfl
    rotate_left
    · simp only [Act.put, List.setIfInBounds_toArray, List.set_cons_zero, List.set_cons_succ, i64_w, i32_w]
      rfl
    refine pure_ (i := 23) (N := some 78) (v := ?_) (a' := ?_) #[true, true, true, true, false, true, true, true, false, true, true, true, true, false, true, true, true, true, true, false, false, true, true, true, false, false, false, false, false, false, false, false, false, false, false, false] rfl rfl (by kernel_rfl) (fun _ _ _ h => h) (Or.inl ⟨by rfl, ?_⟩) ?_ ?_
    rotate_left
    · intro w'
      go_simp
      with_reducible rfl
    rotate_left
    · simp only [Act.put, List.setIfInBounds_toArray, List.set_cons_zero, List.set_cons_succ, i64_w, i32_w]
      rfl
    refine pure_ (i := 24) (N := some 79) (v := ?_) (a' := ?_) #[true, true, true, true, false, true, true, true, false, true, true, true, true, false, true, true, true, true, true, false, false, true, true, true, true, false, false, false, false, false, false, false, false, false, false, false] rfl rfl (by kernel_rfl) (fun _ _ _ h => h) (Or.inl ⟨by rfl, ?_⟩) ?_ ?_
    rotate_left
    · intro w'
      go_simp
      with_reducible rfl
    rotate_left
    · simp only [Act.put, List.setIfInBounds_toArray, List.set_cons_zero, List.set_cons_succ, i64_w, i32_w]
      rfl
    refine pure_ (i := 26) (N := some 81) (v := ?_) (a' := ?_) #[true, true, true, true, false, true, true, true, false, true, true, true, true, false, true, true, true, true, true, false, false, true, true, true, true, false, true, false, false, false, false, false, false, false, false, false] rfl rfl (by kernel_rfl) (fun _ _ _ h => h) (Or.inl ⟨by rfl, ?_⟩) ?_ ?_
    rotate_left
    · intro w'
      go_simp
      with_reducible rfl
    rotate_left
    · simp only [Act.put, List.setIfInBounds_toArray, List.set_cons_zero, List.set_cons_succ, i64_w, i32_w]
      rfl
    refine pure_ (i := 27) (N := some 82) (v := ?_) (a' := ?_) #[true, true, true, true, false, true, true, true, false, true, true, true, true, false, true, true, true, true, true, false, false, true, true, true, true, false, true, true, false, false, false, false, false, false, false, false] rfl rfl (by kernel_rfl) (fun _ _ _ h => h) (Or.inl ⟨by rfl, ?_⟩) ?_ ?_
    rotate_left
    · intro w'
      go_simp
      with_reducible rfl
    rotate_left
    · simp only [Act.put, List.setIfInBounds_toArray, List.set_cons_zero, List.set_cons_succ, i64_w, i32_w]
      rfl
    refine pure_ (i := 28) (N := some 83) (v := ?_) (a' := ?_) #[true, true, true, true, false, true, true, true, false, true, true, true, true, false, true, true, true, true, true, false, false, true, true, true, true, false, true, true, true, false, false, false, false, false, false, false] rfl rfl (by kernel_rfl) (fun _ _ _ h => h) (Or.inl ⟨by rfl, ?_⟩) ?_ ?_
    rotate_left
    · intro w'
      go_simp
      with_reducible rfl
    rotate_left
    · simp only [Act.put, List.setIfInBounds_toArray, List.set_cons_zero, List.set_cons_succ, i64_w, i32_w]
      rfl
    refine pure_ (i := 29) (N := some 84) (v := ?_) (a' := ?_) #[true, true, true, true, false, true, true, true, false, true, true, true, true, false, true, true, true, true, true, false, false, true, true, true, true, false, true, true, true, true, false, false, false, false, false, false] rfl rfl (by kernel_rfl) (fun _ _ _ h => h) (Or.inl ⟨by rfl, ?_⟩) ?_ ?_
    rotate_left
    · intro w'
      go_simp
      with_reducible rfl
    rotate_left
    · simp only [Act.put, List.setIfInBounds_toArray, List.set_cons_zero, List.set_cons_succ, i64_w, i32_w]
      rfl
    refine pure_ (i := 30) (N := some 85) (v := ?_) (a' := ?_) #[true, true, true, true, false, true, true, true, false, true, true, true, true, false, true, true, true, true, true, false, false, true, true, true, true, false, true, true, true, true, true, false, false, false, false, false] rfl rfl (by kernel_rfl) (fun _ _ _ h => h) (Or.inl ⟨by rfl, ?_⟩) ?_ ?_
    rotate_left
    · intro w'
      go_simp
      with_reducible rfl
    rotate_left
    · simp only [Act.put, List.setIfInBounds_toArray, List.set_cons_zero, List.set_cons_succ, i64_w, i32_w]
      rfl
    refine take_ (i := 4) (N := some 59) (v := ?_) (a' := ?_) #[true, true, true, true, true, true, true, true, false, true, true, true, true, false, true, true, true, true, true, false, false, true, true, true, true, false, true, true, true, true, true, false, false, false, false, false] rfl rfl (by kernel_rfl) (fun _ _ _ h => h) (Or.inl ⟨by rfl, ?_⟩) hHeld ?_ ?_
    rotate_left
    · rintro w' ⟨s0, s1, s2, s3⟩
      go_simp
      with_reducible rfl
    rotate_left
    · simp only [Act.put, List.setIfInBounds_toArray, List.set_cons_zero, List.set_cons_succ, i64_w, i32_w]
      rfl
    refine take_ (i := 8) (N := some 63) (v := ?_) (a' := ?_) #[true, true, true, true, true, true, true, true, true, true, true, true, true, false, true, true, true, true, true, false, false, true, true, true, true, false, true, true, true, true, true, false, false, false, false, false] rfl rfl (by kernel_rfl) (fun _ _ _ h => h) (Or.inl ⟨by rfl, ?_⟩) hHeld ?_ ?_
    rotate_left
    · rintro w' ⟨s0, s1, s2, s3⟩
      go_simp
      with_reducible rfl
    rotate_left
    · simp only [Act.put, List.setIfInBounds_toArray, List.set_cons_zero, List.set_cons_succ, i64_w, i32_w]
      rfl
    refine take_ (i := 13) (N := some 68) (v := ?_) (a' := ?_) #[true, true, true, true, true, true, true, true, true, true, true, true, true, true, true, true, true, true, true, false, false, true, true, true, true, false, true, true, true, true, true, false, false, false, false, false] rfl rfl (by kernel_rfl) (fun _ _ _ h => h) (Or.inl ⟨by rfl, ?_⟩) hHeld ?_ ?_
    rotate_left
    · rintro w' ⟨s0, s1, s2, s3⟩
      go_simp
      with_reducible rfl
    rotate_left
    · simp only [Act.put, List.setIfInBounds_toArray, List.set_cons_zero, List.set_cons_succ, i64_w, i32_w]
      rfl
    refine take_ (i := 19) (N := some 74) (v := ?_) (a' := ?_) #[true, true, true, true, true, true, true, true, true, true, true, true, true, true, true, true, true, true, true, true, false, true, true, true, true, false, true, true, true, true, true, false, false, false, false, false] rfl rfl (by kernel_rfl) (fun _ _ _ h => h) (Or.inl ⟨by rfl, ?_⟩) hHeld ?_ ?_
    rotate_left
    · rintro w' ⟨s0, s1, s2, s3⟩
      go_simp
      with_reducible rfl
    rotate_left
    · simp only [Act.put, List.setIfInBounds_toArray, List.set_cons_zero, List.set_cons_succ, i64_w, i32_w]
      rfl
    refine take_ (i := 25) (N := some 80) (v := ?_) (a' := ?_) #[true, true, true, true, true, true, true, true, true, true, true, true, true, true, true, true, true, true, true, true, false, true, true, true, true, true, true, true, true, true, true, false, false, false, false, false] rfl rfl (by kernel_rfl) (fun _ _ _ h => h) (Or.inl ⟨by rfl, ?_⟩) hHeld ?_ ?_
    rotate_left
    · rintro w' ⟨s0, s1, s2, s3⟩
      go_simp
      with_reducible rfl
    rotate_left
    · simp only [Act.put, List.setIfInBounds_toArray, List.set_cons_zero, List.set_cons_succ, i64_w, i32_w]
      rfl
    refine take_ (i := 31) (N := some 86) (v := ?_) (a' := ?_) #[true, true, true, true, true, true, true, true, true, true, true, true, true, true, true, true, true, true, true, true, false, true, true, true, true, true, true, true, true, true, true, true, false, false, false, false] rfl rfl (by kernel_rfl) (fun _ _ _ h => h) (Or.inl ⟨by rfl, ?_⟩) hHeld ?_ ?_
    rotate_left
    · rintro w' ⟨s0, s1, s2, s3⟩
      go_simp
      with_reducible rfl
    rotate_left
    · simp only [Act.put, List.setIfInBounds_toArray, List.set_cons_zero, List.set_cons_succ, i64_w, i32_w]
      rfl
    refine one_ (i := 20) (N := some 75) #[true, true, true, true, true, true, true, true, true, true, true, true, true, true, true, true, true, true, true, true, true, true, true, true, true, true, true, true, true, true, true, true, false, false, false, false] rfl rfl (by kernel_rfl) (by decide) (fun K hK => ?_)
    refine goes_ Try.func69 (by kernel_rfl) rfl #[.pointer (some ⟨gw, 0, none⟩), .int .i64 C, .int .i64 (wrap64 (-q)), .int .i64 A] (by rfl) rfl rfl (by simp only [List.map_toArray, List.map_cons, List.map_nil]; rfl) ?_
    with_reducible refine (PW.cell X2.out.drew H1.out).mono ?_
    rintro e w3 ⟨rfl, hX⟩
    refine ⟨_, rfl, ?_⟩
    have X3 := Aside0.mk hX
    clear hX
    refine hK.out _ _ ⟨X3.out.c0, X3.out.c1, X3.out.c2, X3.out.c3⟩ (fun hHeld => ?_)
    clear hK K
    refine norm_ (a' := ?_) ?_ ?_
    rotate_left
    · show Act.put _ (some 75) _ = _
      simp only [Act.put, List.setIfInBounds_toArray, List.set_cons_zero, List.set_cons_succ, i64_w, i32_w]
      rfl
    refine one_ (i := 32) (N := some 87) #[true, true, true, true, true, true, true, true, true, true, true, true, true, true, true, true, true, true, true, true, true, true, true, true, true, true, true, true, true, true, true, true, true, false, false, false] rfl rfl (by kernel_rfl) (by decide) (fun K hK => ?_)
    refine goes_ Try.func69 (by kernel_rfl) rfl #[.pointer (some ⟨gw, 0, none⟩), .int .i64 D, .int .i64 (wrap64 (-q)), .int .i64 B] (by rfl) rfl rfl (by simp only [List.map_toArray, List.map_cons, List.map_nil]; rfl) ?_
    with_reducible refine (PW.cell X3.out H2.out).mono ?_
    rintro e w4 ⟨rfl, hX⟩
    refine ⟨_, rfl, ?_⟩
    have X4 := Aside0.mk hX
    clear hX
    refine hK.out _ _ ⟨X4.out.c0, X4.out.c1, X4.out.c2, X4.out.c3⟩ (fun hHeld => ?_)
    clear hK K
    refine norm_ (a' := ?_) ?_ ?_
    rotate_left
    · show Act.put _ (some 87) _ = _
      simp only [Act.put, List.setIfInBounds_toArray, List.set_cons_zero, List.set_cons_succ, i64_w, i32_w]
      rfl
    refine pure_ (i := 33) (N := some 88) (v := ?_) (a' := ?_) #[true, true, true, true, true, true, true, true, true, true, true, true, true, true, true, true, true, true, true, true, true, true, true, true, true, true, true, true, true, true, true, true, true, true, false, false] rfl rfl (by kernel_rfl) (fun _ _ _ h => h) (Or.inl ⟨by rfl, ?_⟩) ?_ ?_
    rotate_left
    · intro w'
      go_simp
      with_reducible rfl
    rotate_left
    · simp only [Act.put, List.setIfInBounds_toArray, List.set_cons_zero, List.set_cons_succ, i64_w, i32_w]
      rfl
    refine pure_ (i := 34) (N := some 89) (v := ?_) (a' := ?_) #[true, true, true, true, true, true, true, true, true, true, true, true, true, true, true, true, true, true, true, true, true, true, true, true, true, true, true, true, true, true, true, true, true, true, true, false] rfl rfl (by kernel_rfl) (fun _ _ _ h => h) (Or.inl ⟨by rfl, ?_⟩) ?_ ?_
    rotate_left
    · intro w'
      go_simp
      with_reducible rfl
    rotate_left
    · simp only [Act.put, List.setIfInBounds_toArray, List.set_cons_zero, List.set_cons_succ, i64_w, i32_w]
      rfl
    refine last_store_ (i := 35) (w1 := (World.setCell (World.setCell (World.setCell (World.setCell w4 ⟨gm, 0, none⟩ (.int .i64 C)) ⟨gm, 1, none⟩ (.int .i64 D)) ⟨gm, 2, none⟩ (.int .i64 x)) ⟨gm, 3, none⟩ (.int .i64 y))) #[true, true, true, true, true, true, true, true, true, true, true, true, true, true, true, true, true, true, true, true, true, true, true, true, true, true, true, true, true, true, true, true, true, true, true, true] rfl rfl (by kernel_rfl) (by decide) (by rfl) (run_put4_ rfl (show _ = Value.pointer (some ⟨gm, 0, none⟩) from by rfl) (show _ = Value.agg #[.int .i64 C, .int .i64 D, .int .i64 x, .int .i64 y] from by rfl) X4.out.m (by kernel_rfl) (by rfl)) ?_
    refine done_ (by kernel_rfl) ?_
    generalize hw5 : (World.setCell (World.setCell (World.setCell (World.setCell w4 ⟨gm, 0, none⟩ (.int .i64 C)) ⟨gm, 1, none⟩ (.int .i64 D)) ⟨gm, 2, none⟩ (.int .i64 x)) ⟨gm, 3, none⟩ (.int .i64 y)) = w5
    have X5 := Aside0.mk (X4.out.mset hw5.symm)
    have cw5 := X5.out.cw
    clear hw5
    go_wp2
    go_ret
    exact ⟨rfl, X5.out⟩
set_option maxHeartbeats 8000000 in
set_option maxRecDepth 100000 in
theorem step_take (k b : Nat) (w0 w : World) (gw gm gt : Nat) (A B C D : Int) (tk : Int) (xs : List Int) (A1 : Option Addr) (c1 : Nat) (ms : List S52) (gs : List Int) (ov ok o1 o2 : Bool) (q x y : Int)
    (hP : PW b w0 w gw gm gt A B C D tk ms gs ov) (hl : ms.length < 1000000) (hl2 : gs.length < 1000000) (htk0 : 0 ≤ tk) (htk2 : tk < 1000000)
    (hg : impl_gives.f k [A, wrap64 (A + B)] [C, wrap64 (C + D)] = some (q, ok)) (hno : ok = false ∨ tk = 0) (hlt : tk < (xs.length : Int)) (hxl : xs.length < 1000000) (hr : Kd.C (Kd.int .i64) w0 A1 xs.length xs) (hc : xs.length ≤ c1) (h0 : w0.heap.size = b) (h1 : implC ov A (rd xs tk) B = some (x, o1)) (h2 : implC o1 C (rd xs tk) D = some (y, o2)) :
    Calls Try.prog 61 #[.pointer (some ⟨gm, 0, none⟩), .pointer (some ⟨gw, 0, none⟩), .slice A1 xs.length c1, .pointer (some ⟨gt, 0, none⟩)] w fun e w' => e = .returned (.bool (!o2)) ∧ PW b w0 w' gw gm gt x A y C (tk + 1) (ms ++ [⟨2, rd xs tk⟩]) gs o2 := by
  have X0 := Aside0.mk hP
  have HG := Aside0.mk hg
  have c0w := hP.c0
  have c1w := hP.c1
  have c2w := hP.c2
  have c3w := hP.c3
  have n0 := World.new_ne w _ c0w
  clear hP hg
  have H1 := Aside0.mk h1
  have H2 := Aside0.mk h2
  have HR := Aside0.mk hr
  have HC := Aside0.mk hc
  have H0 := Aside0.mk h0
  clear h1 h2 hr hc h0
  go_enter Try.func61, Try.ntmps61
  go_wp2
  go_cut [9, 10] (fun v9 v10 wc => v9 = .int .i64 q ∧ v10 = .bool ok ∧ Aside0 (PW b w0 wc gw gm gt A B C D tk ms gs ov))
  case first =>
    go_region_held3 (fun w' => w'.cell? ⟨gm, 0, none⟩ = some (.int .i64 A) ∧ w'.cell? ⟨gm, 1, none⟩ = some (.int .i64 B) ∧ w'.cell? ⟨gm, 2, none⟩ = some (.int .i64 C) ∧ w'.cell? ⟨gm, 3, none⟩ = some (.int .i64 D)) (first | exact ⟨X1.out.c0, X1.out.c1, X1.out.c2, X1.out.c3⟩ | go_keep)
      (first | (go_at_call 66; (with_reducible refine (gives_two k _ _ A (wrap64 (A + B)) C (wrap64 (C + D)) q ok _ ?s1 ?s3 HG.out).mono ?_); (case s1 => first | exact C_two' (two_first w 0 _ _) rfl (i64_wrap _) | exact C_two' (two_second w _ _) rfl (i64_wrap _)); (case s3 => first | exact C_two' (two_first w 0 _ _) rfl (i64_wrap _) | exact C_two' (two_second w _ _) rfl (i64_wrap _)); rintro e w1 ⟨rfl, hd⟩; have X1 := Aside0.mk (X0.out.below (below_step (below_drew (below_alloc (below_alloc (Below.refl _ _) _) _)) hd.below)); clear hd))
    all_goals (go_wp2; go_meet)
    all_goals exact ⟨rfl, rfl, X1⟩
  case rest =>
    clear X0 c0w c1w c2w c3w n0
    obtain ⟨rfl, rfl, X1⟩ := hcut
    have ctw := X1.out.ct
    go_upto_region 3 with (fail)
    go_cut [44] (fun v44 wc => v44 = .bool false ∧ Aside0 (PW b w0 wc gw gm gt A B C D tk ms gs ov))
    case first =>
      cases ok with
      | false =>
        go_wp2
        go_meet
        exact ⟨rfl, X1⟩
      | true =>
        have ht0 : decide ((0 : Int) < tk) = false := decide_eq_false (by have := hno.resolve_left (by simp); omega)
        go_wp2
        go_meet
        exact ⟨rfl, X1⟩
    case rest =>
      clear X1 ctw
      obtain ⟨rfl, X1⟩ := hcut
      have ctw := X1.out.ct
      have hlt1 : decide (tk < (xs.length : Int)) = true := decide_eq_true (by omega)
      obtain ⟨ad, e0_, hxi⟩ := Kd.at_int (Kd.C_below HR.out (by rw [H0.out]; exact X1.out.bel)) tk (by omega) (by omega)
      cases e0_
      have p0 := eq_true htk0
      have p1 := eq_true hlt
      go_wp2_with (first | (go_at_call 79; (with_reducible refine (impl_take b gw ms gs ov 2 (rd xs tk) w0 _ ?s1 ?s2 ?s3 hl).mono ?_); (case s1 => exact X1.out.n); (case s2 => exact X1.out.bel); (case s3 => exact X1.out.sz); rintro e w2 ⟨rfl, hn, hb, hk⟩; have X2 := Aside0.mk (X1.out.note hn hb hk); clear hn hb hk))
      refine start_ (n := 34) (S := fun w' => w'.cell? ⟨gm, 0, none⟩ = some (.int .i64 A) ∧ w'.cell? ⟨gm, 1, none⟩ = some (.int .i64 B) ∧ w'.cell? ⟨gm, 2, none⟩ = some (.int .i64 C) ∧ w'.cell? ⟨gm, 3, none⟩ = some (.int .i64 D)) (ds := [33]) #[false, false, false, false, false, false, false, false, false, false, false, false, false, false, false, false, false, false, false, false, false, false, false, false, false, false, false, false, false, false, false, false, false, false] (by kernel_rfl) rfl rfl ⟨X2.out.drew.c0, X2.out.drew.c1, X2.out.drew.c2, X2.out.drew.c3⟩ (fun hHeld => ?_)
      refine pure_ (i := 0) (N := some 106) (v := ?_) (a' := ?_) #[true, false, false, false, false, false, false, false, false, false, false, false, false, false, false, false, false, false, false, false, false, false, false, false, false, false, false, false, false, false, false, false, false, false] rfl rfl (by kernel_rfl) (fun _ _ _ h => h) (Or.inl ⟨by rfl, ?_⟩) ?_ ?_
      rotate_left
      · intro w'
        go_simp
        with_reducible rfl
      rotate_left
      · simp only [Act.put, List.setIfInBounds_toArray, List.set_cons_zero, List.set_cons_succ, i64_w, i32_w]
        rfl
      refine pure_ (i := 1) (N := some 107) (v := ?_) (a' := ?_) #[true, true, false, false, false, false, false, false, false, false, false, false, false, false, false, false, false, false, false, false, false, false, false, false, false, false, false, false, false, false, false, false, false, false] rfl rfl (by kernel_rfl) (fun _ _ _ h => h) (Or.inl ⟨by rfl, ?_⟩) ?_ ?_
      rotate_left
      · intro w'
        go_simp
        with_reducible rfl
      rotate_left
      · simp only [Act.put, List.setIfInBounds_toArray, List.set_cons_zero, List.set_cons_succ, i64_w, i32_w]
        rfl
      refine pure_ (i := 2) (N := some 108) (v := ?_) (a' := ?_) #[true, true, true, false, false, false, false, false, false, false, false, false, false, false, false, false, false, false, false, false, false, false, false, false, false, false, false, false, false, false, false, false, false, false] rfl rfl (by kernel_rfl) (fun _ _ _ h => h) (Or.inl ⟨by rfl, ?_⟩) ?_ ?_
      rotate_left
      · intro w'
        go_simp
        with_reducible rfl
      rotate_left
      · simp only [Act.put, List.setIfInBounds_toArray, List.set_cons_zero, List.set_cons_succ, i64_w, i32_w]
        rfl
      refine pure_ (i := 3) (N := some 109) (v := ?_) (a' := ?_) #[true, true, true, true, false, false, false, false, false, false, false, false, false, false, false, false, false, false, false, false, false, false, false, false, false, false, false, false, false, false, false, false, false, false] rfl rfl (by kernel_rfl) (fun _ _ _ h => h) (Or.inl ⟨by rfl, ?_⟩) ?_ ?_
      rotate_left
      · intro w'
        go_simp
        with_reducible rfl
      rotate_left
      · simp only [Act.put, List.setIfInBounds_toArray, List.set_cons_zero, List.set_cons_succ, i64_w, i32_w]
        rfl
      refine pure_ (i := 4) (N := some 110) (v := ?_) (a' := ?_) #[true, true, true, true, true, false, false, false, false, false, false, false, false, false, false, false, false, false, false, false, false, false, false, false, false, false, false, false, false, false, false, false, false, false] rfl rfl (by kernel_rfl) (fun _ _ _ h => h) (Or.inl ⟨by rfl, ?_⟩) ?_ ?_
      rotate_left
      · intro w'
        go_simp
        with_reducible rfl
      rotate_left
      · simp only [Act.put, List.setIfInBounds_toArray, List.set_cons_zero, List.set_cons_succ, i64_w, i32_w]
        rfl
      refine pure_ (i := 6) (N := some 112) (v := ?_) (a' := ?_) #[true, true, true, true, true, false, true, false, false, false, false, false, false, false, false, false, false, false, false, false, false, false, false, false, false, false, false, false, false, false, false, false, false, false] rfl rfl (by kernel_rfl) (fun _ _ _ h => h) (Or.inl ⟨by rfl, ?_⟩) ?_ ?_
      rotate_left
      · intro w'
        go_simp
        with_reducible rfl
      rotate_left
      · simp only [Act.put, List.setIfInBounds_toArray, List.set_cons_zero, List.set_cons_succ, i64_w, i32_w]
        rfl
      refine pure_ (i := 7) (N := some 113) (v := ?_) (a' := ?_) #[true, true, true, true, true, false, true, true, false, false, false, false, false, false, false, false, false, false, false, false, false, false, false, false, false, false, false, false, false, false, false, false, false, false] rfl rfl (by kernel_rfl) (fun _ _ _ h => h) (Or.inl ⟨by rfl, ?_⟩) ?_ ?_
      rotate_left
      · intro w'
        go_simp
        with_reducible rfl
      rotate_left
      · simp only [Act.put, List.setIfInBounds_toArray, List.set_cons_zero, List.set_cons_succ, i64_w, i32_w]
        rfl
      refine pure_ (i := 8) (N := some 114) (v := ?_) (a' := ?_) #[true, true, true, true, true, false, true, true, true, false, false, false, false, false, false, false, false, false, false, false, false, false, false, false, false, false, false, false, false, false, false, false, false, false] rfl rfl (by kernel_rfl) (fun _ _ _ h => h) (Or.inl ⟨by rfl, ?_⟩) ?_ ?_
      rotate_left
      · intro w'
        go_simp
        with_reducible rfl
      rotate_left
      · simp only [Act.put, List.setIfInBounds_toArray, List.set_cons_zero, List.set_cons_succ, i64_w, i32_w]
        rfl
      refine pure_ (i := 9) (N := some 115) (v := ?_) (a' := ?_) #[true, true, true, true, true, false, true, true, true, true, false, false, false, false, false, false, false, false, false, false, false, false, false, false, false, false, false, false, false, false, false, false, false, false] rfl rfl (by kernel_rfl) (fun _ _ _ h => h) (Or.inl ⟨by rfl, ?_⟩) ?_ ?_
      rotate_left
      · intro w'
        go_simp
        with_reducible rfl
      rotate_left
      · simp only [Act.put, List.setIfInBounds_toArray, List.set_cons_zero, List.set_cons_succ, i64_w, i32_w]
        rfl
      refine pure_ (i := 12) (N := some 118) (v := ?_) (a' := ?_) #[true, true, true, true, true, false, true, true, true, true, false, false, true, false, false, false, false, false, false, false, false, false, false, false, false, false, false, false, false, false, false, false, false, false] rfl rfl (by kernel_rfl) (fun _ _ _ h => h) (Or.inl ⟨by rfl, ?_⟩) ?_ ?_
      rotate_left
      · intro w'
        go_simp
        with_reducible rfl
      rotate_left
      · simp only [Act.put, List.setIfInBounds_toArray, List.set_cons_zero, List.set_cons_succ, i64_w, i32_w]
        rfl
      refine pure_ (i := 13) (N := some 119) (v := ?_) (a' := ?_) #[true, true, true, true, true, false, true, true, true, true, false, false, true, true, false, false, false, false, false, false, false, false, false, false, false, false, false, false, false, false, false, false, false, false] rfl rfl (by kernel_rfl) (fun _ _ _ h => h) (Or.inl ⟨by rfl, ?_⟩) ?_ ?_
      rotate_left
      · intro w'
        go_simp
        with_reducible rfl
      rotate_left
      · simp only [Act.put, List.setIfInBounds_toArray, List.set_cons_zero, List.set_cons_succ, i64_w, i32_w]
        rfl
      refine pure_ (i := 14) (N := some 120) (v := ?_) (a' := ?_) #[true, true, true, true, true, false, true, true, true, true, false, false, true, true, true, false, false, false, false, false, false, false, false, false, false, false, false, false, false, false, false, false, false, false] rfl rfl (by kernel_rfl) (fun _ _ _ h => h) (Or.inl ⟨by rfl, ?_⟩) ?_ ?_
      rotate_left
      · intro w'
        go_simp
        with_reducible rfl
      rotate_left
      · simp only [Act.put, List.setIfInBounds_toArray, List.set_cons_zero, List.set_cons_succ, i64_w, i32_w]
        rfl
      refine pure_ (i := 16) (N := some 122) (v := ?_) (a' := ?_) #[true, true, true, true, true, false, true, true, true, true, false, false, true, true, true, false, true, false, false, false, false, false, false, false, false, false, false, false, false, false, false, false, false, false] rfl rfl (by kernel_rfl) (fun _ _ _ h => h) (Or.inl ⟨by rfl, ?_⟩) ?_ ?_
      rotate_left
      · intro w'
        go_simp
        with_reducible rfl
      rotate_left
      · simp only [Act.put, List.setIfInBounds_toArray, List.set_cons_zero, List.set_cons_succ, i64_w, i32_w]
        rfl
      refine pure_ (i := 17) (N := some 123) (v := ?_) (a' := ?_) #[true, true, true, true, true, false, true, true, true, true, false, false, true, true, true, false, true, true, false, false, false, false, false, false, false, false, false, false, false, false, false, false, false, false] rfl rfl (by kernel_rfl) (fun _ _ _ h => h) (Or.inl ⟨by rfl, ?_⟩) ?_ ?_
      rotate_left
      · intro w'
        go_simp
        with_reducible rfl
      rotate_left
      · simp only [Act.put, List.setIfInBounds_toArray, List.set_cons_zero, List.set_cons_succ, i64_w, i32_w]
        rfl
      refine pure_ (i := 18) (N := some 124) (v := ?_) (a' := ?_) #[true, true, true, true, true, false, true, true, true, true, false, false, true, true, true, false, true, true, true, false, false, false, false, false, false, false, false, false, false, false, false, false, false, false] rfl rfl (by kernel_rfl) (fun _ _ _ h => h) (Or.inl ⟨by rfl, ?_⟩) ?_ ?_
      rotate_left
      · intro w'
        go_simp
        with_reducible rfl
      rotate_left
      · simp only [Act.put, List.setIfInBounds_toArray, List.set_cons_zero, List.set_cons_succ, i64_w, i32_w]
        rfl
      refine pure_ (i := 19) (N := some 125) (v := ?_) (a' := ?_) #[true, true, true, true, true, false, true, true, true, true, false, false, true, true, true, false, true, true, true, true, false, false, false, false, false, false, false, false, false, false, false, false, false, false] rfl rfl (by kernel_rfl) (fun _ _ _ h => h) (Or.inl ⟨by rfl, ?_⟩) ?_ ?_
      rotate_left
      · intro w'
        go_simp
        with_reducible rfl
      rotate_left
      · simp only [Act.put, List.setIfInBounds_toArray, List.set_cons_zero, List.set_cons_succ, i64_w, i32_w]
        rfl
      refine pure_ (i := 21) (N := some 127) (v := ?_) (a' := ?_) #[true, true, true, true, true, false, true, true, true, true, false, false, true, true, true, false, true, true, true, true, false, true, false, false, false, false, false, false, false, false, false, false, false, false] rfl rfl (by kernel_rfl) (fun _ _ _ h => h) (Or.inl ⟨by rfl, ?_⟩) ?_ ?_
      rotate_left
      · intro w'
        go_simp
        with_reducible rfl
      rotate_left
      · simp only [Act.put, List.setIfInBounds_toArray, List.set_cons_zero, List.set_cons_succ, i64_w, i32_w]
        rfl
      refine pure_ (i := 22) (N := some 128) (v := ?_) (a' := ?_) #[true, true, true, true, true, false, true, true, true, true, false, false, true, true, true, false, true, true, true, true, false, true, true, false, false, false, false, false, false, false, false, false, false, false] rfl rfl (by kernel_rfl) (fun _ _ _ h => h) (Or.inl ⟨by rfl, ?_⟩) ?_ ?_
      rotate_left
      · intro w'
        go_simp
        with_reducible rfl
      rotate_left
      · simp only [Act.put, List.setIfInBounds_toArray, List.set_cons_zero, List.set_cons_succ, i64_w, i32_w]
        rfl
      refine pure_ (i := 23) (N := some 129) (v := ?_) (a' := ?_) #[true, true, true, true, true, false, true, true, true, true, false, false, true, true, true, false, true, true, true, true, false, true, true, true, false, false, false, false, false, false, false, false, false, false] rfl rfl (by kernel_rfl) (fun _ _ _ h => h) (Or.inl ⟨by rfl, ?_⟩) ?_ ?_
      rotate_left
      · intro w'
        go_simp
        with_reducible rfl
      rotate_left
      · simp only [Act.put, List.setIfInBounds_toArray, List.set_cons_zero, List.set_cons_succ, i64_w, i32_w]
        rfl
      refine pure_ (i := 24) (N := some 130) (v := ?_) (a' := ?_) #[true, true, true, true, true, false, true, true, true, true, false, false, true, true, true, false, true, true, true, true, false, true, true, true, true, false, false, false, false, false, false, false, false, false] rfl rfl (by kernel_rfl) (fun _ _ _ h => h) (Or.inl ⟨by rfl, ?_⟩) ?_ ?_
      rotate_left
      · intro w'
        go_simp
        with_reducible rfl
      rotate_left
      · simp only [Act.put, List.setIfInBounds_toArray, List.set_cons_zero, List.set_cons_succ, i64_w, i32_w]
        rfl
      refine pure_ (i := 27) (N := some 133) (v := ?_) (a' := ?_) #[true, true, true, true, true, false, true, true, true, true, false, false, true, true, true, false, true, true, true, true, false, true, true, true, true, false, false, true, false, false, false, false, false, false] rfl rfl (by kernel_rfl) (fun _ _ _ h => h) (Or.inl ⟨by rfl, ?_⟩) ?_ ?_
      rotate_left
      · intro w'
        go_simp
        with_reducible rfl
      rotate_left
      · simp only [Act.put, List.setIfInBounds_toArray, List.set_cons_zero, List.set_cons_succ, i64_w, i32_w]
        rfl
      refine pure_ (i := 28) (N := some 134) (v := ?_) (a' := ?_) #[true, true, true, true, true, false, true, true, true, true, false, false, true, true, true, false, true, true, true, true, false, true, true, true, true, false, false, true, true, false, false, false, false, false] rfl rfl (by kernel_rfl) (fun _ _ _ h => h) (Or.inl ⟨by rfl, ?_⟩) ?_ ?_
      rotate_left
      · intro w'
        go_simp
        with_reducible rfl
      rotate_left
      · simp only [Act.put, List.setIfInBounds_toArray, List.set_cons_zero, List.set_cons_succ, i64_w, i32_w]
        rfl
      refine pure_ (i := 29) (N := some 135) (v := ?_) (a' := ?_) #[true, true, true, true, true, false, true, true, true, true, false, false, true, true, true, false, true, true, true, true, false, true, true, true, true, false, false, true, true, true, false, false, false, false] rfl rfl (by kernel_rfl) (fun _ _ _ h => h) (Or.inl ⟨by rfl, ?_⟩) ?_ ?_
      rotate_left
      · intro w'
        go_simp
        with_reducible rfl
      rotate_left
      · simp only [Act.put, List.setIfInBounds_toArray, List.set_cons_zero, List.set_cons_succ, i64_w, i32_w]
        rfl
      refine take_ (i := 5) (N := some 111) (v := ?_) (a' := ?_) #[true, true, true, true, true, true, true, true, true, true, false, false, true, true, true, false, true, true, true, true, false, true, true, true, true, false, false, true, true, true, false, false, false, false] rfl rfl (by kernel_rfl) (fun _ _ _ h => h) (Or.inl ⟨by rfl, ?_⟩) hHeld ?_ ?_
      rotate_left
      · rintro w' ⟨s0, s1, s2, s3⟩
        go_simp
        with_reducible rfl
      rotate_left
      · simp only [Act.put, List.setIfInBounds_toArray, List.set_cons_zero, List.set_cons_succ, i64_w, i32_w]
        rfl
      refine take_ (i := 10) (N := some 116) (v := ?_) (a' := ?_) #[true, true, true, true, true, true, true, true, true, true, true, false, true, true, true, false, true, true, true, true, false, true, true, true, true, false, false, true, true, true, false, false, false, false] rfl rfl (by kernel_rfl) (fun _ _ _ h => h) (Or.inl ⟨by rfl, ?_⟩) hHeld ?_ ?_
      rotate_left
      · rintro w' ⟨s0, s1, s2, s3⟩
        go_simp
        with_reducible rfl
      rotate_left
      · simp only [Act.put, List.setIfInBounds_toArray, List.set_cons_zero, List.set_cons_succ, i64_w, i32_w]
        rfl
      refine take_ (i := 15) (N := some 121) (v := ?_) (a' := ?_) #[true, true, true, true, true, true, true, true, true, true, true, false, true, true, true, true, true, true, true, true, false, true, true, true, true, false, false, true, true, true, false, false, false, false] rfl rfl (by kernel_rfl) (fun _ _ _ h => h) (Or.inl ⟨by rfl, ?_⟩) hHeld ?_ ?_
      rotate_left
      · rintro w' ⟨s0, s1, s2, s3⟩
        go_simp
        with_reducible rfl
      rotate_left
      · simp only [Act.put, List.setIfInBounds_toArray, List.set_cons_zero, List.set_cons_succ, i64_w, i32_w]
        rfl
      refine take_ (i := 20) (N := some 126) (v := ?_) (a' := ?_) #[true, true, true, true, true, true, true, true, true, true, true, false, true, true, true, true, true, true, true, true, true, true, true, true, true, false, false, true, true, true, false, false, false, false] rfl rfl (by kernel_rfl) (fun _ _ _ h => h) (Or.inl ⟨by rfl, ?_⟩) hHeld ?_ ?_
      rotate_left
      · rintro w' ⟨s0, s1, s2, s3⟩
        go_simp
        with_reducible rfl
      rotate_left
      · simp only [Act.put, List.setIfInBounds_toArray, List.set_cons_zero, List.set_cons_succ, i64_w, i32_w]
        rfl
      refine take_ (i := 25) (N := some 131) (v := ?_) (a' := ?_) #[true, true, true, true, true, true, true, true, true, true, true, false, true, true, true, true, true, true, true, true, true, true, true, true, true, true, false, true, true, true, false, false, false, false] rfl rfl (by kernel_rfl) (fun _ _ _ h => h) (Or.inl ⟨by rfl, ?_⟩) hHeld ?_ ?_
      rotate_left
      · rintro w' ⟨s0, s1, s2, s3⟩
        go_simp
        with_reducible rfl
      rotate_left
      · simp only [Act.put, List.setIfInBounds_toArray, List.set_cons_zero, List.set_cons_succ, i64_w, i32_w]
        rfl
      refine take_ (i := 30) (N := some 136) (v := ?_) (a' := ?_) #[true, true, true, true, true, true, true, true, true, true, true, false, true, true, true, true, true, true, true, true, true, true, true, true, true, true, false, true, true, true, true, false, false, false] rfl rfl (by kernel_rfl) (fun _ _ _ h => h) (Or.inl ⟨by rfl, ?_⟩) hHeld ?_ ?_
      rotate_left
      · rintro w' ⟨s0, s1, s2, s3⟩
        go_simp
        with_reducible rfl
      rotate_left
      · simp only [Act.put, List.setIfInBounds_toArray, List.set_cons_zero, List.set_cons_succ, i64_w, i32_w]
        rfl
      refine one_ (i := 11) (N := some 117) #[true, true, true, true, true, true, true, true, true, true, true, true, true, true, true, true, true, true, true, true, true, true, true, true, true, true, false, true, true, true, true, false, false, false] rfl rfl (by kernel_rfl) (by decide) (fun K hK => ?_)
      refine goes_ Try.func69 (by kernel_rfl) rfl #[.pointer (some ⟨gw, 0, none⟩), .int .i64 A, .int .i64 (rd xs tk), .int .i64 B] (by rfl) rfl rfl (by simp only [List.map_toArray, List.map_cons, List.map_nil]; rfl) ?_
      with_reducible refine (PW.cell X2.out.drew H1.out).mono ?_
      rintro e w3 ⟨rfl, hX⟩
      refine ⟨_, rfl, ?_⟩
      have X3 := Aside0.mk hX
      clear hX
      refine hK.out _ _ ⟨X3.out.c0, X3.out.c1, X3.out.c2, X3.out.c3⟩ (fun hHeld => ?_)
      clear hK K
      refine norm_ (a' := ?_) ?_ ?_
      rotate_left
      · show Act.put _ (some 117) _ = _
        simp only [Act.put, List.setIfInBounds_toArray, List.set_cons_zero, List.set_cons_succ, i64_w, i32_w]
        rfl
      refine one_ (i := 26) (N := some 132) #[true, true, true, true, true, true, true, true, true, true, true, true, true, true, true, true, true, true, true, true, true, true, true, true, true, true, true, true, true, true, true, false, false, false] rfl rfl (by kernel_rfl) (by decide) (fun K hK => ?_)
      refine goes_ Try.func69 (by kernel_rfl) rfl #[.pointer (some ⟨gw, 0, none⟩), .int .i64 C, .int .i64 (rd xs tk), .int .i64 D] (by rfl) rfl rfl (by simp only [List.map_toArray, List.map_cons, List.map_nil]; rfl) ?_
      with_reducible refine (PW.cell X3.out H2.out).mono ?_
      rintro e w4 ⟨rfl, hX⟩
      refine ⟨_, rfl, ?_⟩
      have X4 := Aside0.mk hX
      clear hX
      refine hK.out _ _ ⟨X4.out.c0, X4.out.c1, X4.out.c2, X4.out.c3⟩ (fun hHeld => ?_)
      clear hK K
      refine norm_ (a' := ?_) ?_ ?_
      rotate_left
      · show Act.put _ (some 132) _ = _
        simp only [Act.put, List.setIfInBounds_toArray, List.set_cons_zero, List.set_cons_succ, i64_w, i32_w]
        rfl
      refine pure_ (i := 31) (N := some 137) (v := ?_) (a' := ?_) #[true, true, true, true, true, true, true, true, true, true, true, true, true, true, true, true, true, true, true, true, true, true, true, true, true, true, true, true, true, true, true, true, false, false] rfl rfl (by kernel_rfl) (fun _ _ _ h => h) (Or.inl ⟨by rfl, ?_⟩) ?_ ?_
      rotate_left
      · intro w'
        go_simp
        with_reducible rfl
      rotate_left
      · simp only [Act.put, List.setIfInBounds_toArray, List.set_cons_zero, List.set_cons_succ, i64_w, i32_w]
        rfl
      refine pure_ (i := 32) (N := some 138) (v := ?_) (a' := ?_) #[true, true, true, true, true, true, true, true, true, true, true, true, true, true, true, true, true, true, true, true, true, true, true, true, true, true, true, true, true, true, true, true, true, false] rfl rfl (by kernel_rfl) (fun _ _ _ h => h) (Or.inl ⟨by rfl, ?_⟩) ?_ ?_
      rotate_left
      · intro w'
        go_simp
        with_reducible rfl
      rotate_left
      · simp only [Act.put, List.setIfInBounds_toArray, List.set_cons_zero, List.set_cons_succ, i64_w, i32_w]
        rfl
      refine last_store_ (i := 33) (w1 := (World.setCell (World.setCell (World.setCell (World.setCell w4 ⟨gm, 0, none⟩ (.int .i64 x)) ⟨gm, 1, none⟩ (.int .i64 A)) ⟨gm, 2, none⟩ (.int .i64 y)) ⟨gm, 3, none⟩ (.int .i64 C))) #[true, true, true, true, true, true, true, true, true, true, true, true, true, true, true, true, true, true, true, true, true, true, true, true, true, true, true, true, true, true, true, true, true, true] rfl rfl (by kernel_rfl) (by decide) (by rfl) (run_put4_ rfl (show _ = Value.pointer (some ⟨gm, 0, none⟩) from by rfl) (show _ = Value.agg #[.int .i64 x, .int .i64 A, .int .i64 y, .int .i64 C] from by rfl) X4.out.m (by kernel_rfl) (by rfl)) ?_
      refine done_ (by kernel_rfl) ?_
      generalize hw5 : (World.setCell (World.setCell (World.setCell (World.setCell w4 ⟨gm, 0, none⟩ (.int .i64 x)) ⟨gm, 1, none⟩ (.int .i64 A)) ⟨gm, 2, none⟩ (.int .i64 y)) ⟨gm, 3, none⟩ (.int .i64 C)) = w5
      have X5 := Aside0.mk (X4.out.mset hw5.symm)
      have ct5 := X5.out.ct
      have ft5 := X5.out.ft 0
      clear hw5
      go_wp2_with (first | ((with_reducible refine gate_store (t := 3) (p := 143) rfl ?_); refine store_event (t := 3) (p := 143) (v := ?vo_w6) (w1 := (w5.setCell ⟨gt, 0, none⟩ (.int .i64 (tk + 1)))) ?hg ?ho ?hn ?hr ?_; (case ho => rfl); (case hg => rfl); (case hn => rfl); (case hr => first | (go_simp; done) | (go_simp; rfl)); intro w6 hw; have X6 := Aside0.mk (X5.out.tset hw); clear hw; have cw6 := X6.out.cw))
      go_ret
      exact ⟨rfl, X6.out⟩
set_option maxHeartbeats 8000000 in
set_option maxRecDepth 100000 in
theorem step_inf (k b : Nat) (w0 w : World) (gw gm gt : Nat) (A B C D : Int) (tk : Int) (xs : List Int) (A1 : Option Addr) (c1 : Nat) (ms : List S52) (gs : List Int) (ov ok : Bool) (q : Int)
    (hP : PW b w0 w gw gm gt A B C D tk ms gs ov) (hl : ms.length < 1000000) (hl2 : gs.length < 1000000) (htk0 : 0 ≤ tk) (htk2 : tk < 1000000)
    (hg : impl_gives.f k [A, wrap64 (A + B)] [C, wrap64 (C + D)] = some (q, ok)) (hno : ok = false ∨ tk = 0) (hlt : tk ≤ (xs.length : Int)) (hge : (xs.length : Int) ≤ tk) (hxl : xs.length < 1000000) :
    Calls Try.prog 61 #[.pointer (some ⟨gm, 0, none⟩), .pointer (some ⟨gw, 0, none⟩), .slice A1 xs.length c1, .pointer (some ⟨gt, 0, none⟩)] w fun e w' => e = .returned (.bool (!ov)) ∧ PW b w0 w' gw gm gt A A C C (tk + 1) (ms ++ [⟨2, 0⟩]) gs ov := by
  have X0 := Aside0.mk hP
  have HG := Aside0.mk hg
  have c0w := hP.c0
  have c1w := hP.c1
  have c2w := hP.c2
  have c3w := hP.c3
  have n0 := World.new_ne w _ c0w
  clear hP hg
  go_enter Try.func61, Try.ntmps61
  go_wp2
  go_cut [9, 10] (fun v9 v10 wc => v9 = .int .i64 q ∧ v10 = .bool ok ∧ Aside0 (PW b w0 wc gw gm gt A B C D tk ms gs ov))
  case first =>
    go_region_held3 (fun w' => w'.cell? ⟨gm, 0, none⟩ = some (.int .i64 A) ∧ w'.cell? ⟨gm, 1, none⟩ = some (.int .i64 B) ∧ w'.cell? ⟨gm, 2, none⟩ = some (.int .i64 C) ∧ w'.cell? ⟨gm, 3, none⟩ = some (.int .i64 D)) (first | exact ⟨X1.out.c0, X1.out.c1, X1.out.c2, X1.out.c3⟩ | go_keep)
      (first | (go_at_call 66; (with_reducible refine (gives_two k _ _ A (wrap64 (A + B)) C (wrap64 (C + D)) q ok _ ?s1 ?s3 HG.out).mono ?_); (case s1 => first | exact C_two' (two_first w 0 _ _) rfl (i64_wrap _) | exact C_two' (two_second w _ _) rfl (i64_wrap _)); (case s3 => first | exact C_two' (two_first w 0 _ _) rfl (i64_wrap _) | exact C_two' (two_second w _ _) rfl (i64_wrap _)); rintro e w1 ⟨rfl, hd⟩; have X1 := Aside0.mk (X0.out.below (below_step (below_drew (below_alloc (below_alloc (Below.refl _ _) _) _)) hd.below)); clear hd))
    all_goals (go_wp2; go_meet)
    all_goals exact ⟨rfl, rfl, X1⟩
  case rest =>
    clear X0 c0w c1w c2w c3w n0
    obtain ⟨rfl, rfl, X1⟩ := hcut
    have ctw := X1.out.ct
    go_upto_region 3 with (fail)
    go_cut [44] (fun v44 wc => v44 = .bool false ∧ Aside0 (PW b w0 wc gw gm gt A B C D tk ms gs ov))
    case first =>
      cases ok with
      | false =>
        go_wp2
        go_meet
        exact ⟨rfl, X1⟩
      | true =>
        have ht0 : decide ((0 : Int) < tk) = false := decide_eq_false (by have := hno.resolve_left (by simp); omega)
        go_wp2
        go_meet
        exact ⟨rfl, X1⟩
    case rest =>
      clear X1 ctw
      obtain ⟨rfl, X1⟩ := hcut
      have ctw := X1.out.ct
      have hlt1 : decide (tk < (xs.length : Int)) = false := decide_eq_false (by omega)
      have heq1 : (tk == (xs.length : Int)) = true := by simp; omega
      go_wp2_with (first | (go_at_call 79; (with_reducible refine (impl_take b gw ms gs ov 2 0 w0 _ ?s1 ?s2 ?s3 hl).mono ?_); (case s1 => exact X1.out.n); (case s2 => exact X1.out.bel); (case s3 => exact X1.out.sz); rintro e w2 ⟨rfl, hn, hb, hk⟩; have X2 := Aside0.mk (X1.out.note hn hb hk); clear hn hb hk))
      refine start_ (n := 20) (S := fun w' => w'.cell? ⟨gm, 0, none⟩ = some (.int .i64 A) ∧ w'.cell? ⟨gm, 1, none⟩ = some (.int .i64 B) ∧ w'.cell? ⟨gm, 2, none⟩ = some (.int .i64 C) ∧ w'.cell? ⟨gm, 3, none⟩ = some (.int .i64 D)) (ds := [19]) #[false, false, false, false, false, false, false, false, false, false, false, false, false, false, false, false, false, false, false, false] (by kernel_rfl) rfl rfl ⟨X2.out.drew.c0, X2.out.drew.c1, X2.out.drew.c2, X2.out.drew.c3⟩ (fun hHeld => ?_)
      refine pure_ (i := 0) (N := some 153) (v := ?_) (a' := ?_) #[true, false, false, false, false, false, false, false, false, false, false, false, false, false, false, false, false, false, false, false] rfl rfl (by kernel_rfl) (fun _ _ _ h => h) (Or.inl ⟨by rfl, ?_⟩) ?_ ?_
      rotate_left
      · intro w'
        go_simp
        with_reducible rfl
      rotate_left
      · simp only [Act.put, List.setIfInBounds_toArray, List.set_cons_zero, List.set_cons_succ, i64_w, i32_w]
        rfl
      refine pure_ (i := 1) (N := some 154) (v := ?_) (a' := ?_) #[true, true, false, false, false, false, false, false, false, false, false, false, false, false, false, false, false, false, false, false] rfl rfl (by kernel_rfl) (fun _ _ _ h => h) (Or.inl ⟨by rfl, ?_⟩) ?_ ?_
      rotate_left
      · intro w'
        go_simp
        with_reducible rfl
      rotate_left
      · simp only [Act.put, List.setIfInBounds_toArray, List.set_cons_zero, List.set_cons_succ, i64_w, i32_w]
        rfl
      refine pure_ (i := 2) (N := some 155) (v := ?_) (a' := ?_) #[true, true, true, false, false, false, false, false, false, false, false, false, false, false, false, false, false, false, false, false] rfl rfl (by kernel_rfl) (fun _ _ _ h => h) (Or.inl ⟨by rfl, ?_⟩) ?_ ?_
      rotate_left
      · intro w'
        go_simp
        with_reducible rfl
      rotate_left
      · simp only [Act.put, List.setIfInBounds_toArray, List.set_cons_zero, List.set_cons_succ, i64_w, i32_w]
        rfl
      refine pure_ (i := 3) (N := some 156) (v := ?_) (a' := ?_) #[true, true, true, true, false, false, false, false, false, false, false, false, false, false, false, false, false, false, false, false] rfl rfl (by kernel_rfl) (fun _ _ _ h => h) (Or.inl ⟨by rfl, ?_⟩) ?_ ?_
      rotate_left
      · intro w'
        go_simp
        with_reducible rfl
      rotate_left
      · simp only [Act.put, List.setIfInBounds_toArray, List.set_cons_zero, List.set_cons_succ, i64_w, i32_w]
        rfl
      refine pure_ (i := 5) (N := some 158) (v := ?_) (a' := ?_) #[true, true, true, true, false, true, false, false, false, false, false, false, false, false, false, false, false, false, false, false] rfl rfl (by kernel_rfl) (fun _ _ _ h => h) (Or.inl ⟨by rfl, ?_⟩) ?_ ?_
      rotate_left
      · intro w'
        go_simp
        with_reducible rfl
      rotate_left
      · simp only [Act.put, List.setIfInBounds_toArray, List.set_cons_zero, List.set_cons_succ, i64_w, i32_w]
        rfl
      refine pure_ (i := 6) (N := some 159) (v := ?_) (a' := ?_) #[true, true, true, true, false, true, true, false, false, false, false, false, false, false, false, false, false, false, false, false] rfl rfl (by kernel_rfl) (fun _ _ _ h => h) (Or.inl ⟨by rfl, ?_⟩) ?_ ?_
      rotate_left
      · intro w'
        go_simp
        with_reducible rfl
      rotate_left
      · simp only [Act.put, List.setIfInBounds_toArray, List.set_cons_zero, List.set_cons_succ, i64_w, i32_w]
        rfl
      refine pure_ (i := 7) (N := some 160) (v := ?_) (a' := ?_) #[true, true, true, true, false, true, true, true, false, false, false, false, false, false, false, false, false, false, false, false] rfl rfl (by kernel_rfl) (fun _ _ _ h => h) (Or.inl ⟨by rfl, ?_⟩) ?_ ?_
      rotate_left
      · intro w'
        go_simp
        with_reducible rfl
      rotate_left
      · simp only [Act.put, List.setIfInBounds_toArray, List.set_cons_zero, List.set_cons_succ, i64_w, i32_w]
        rfl
      refine pure_ (i := 9) (N := some 162) (v := ?_) (a' := ?_) #[true, true, true, true, false, true, true, true, false, true, false, false, false, false, false, false, false, false, false, false] rfl rfl (by kernel_rfl) (fun _ _ _ h => h) (Or.inl ⟨by rfl, ?_⟩) ?_ ?_
      rotate_left
      · intro w'
        go_simp
        with_reducible rfl
      rotate_left
      · simp only [Act.put, List.setIfInBounds_toArray, List.set_cons_zero, List.set_cons_succ, i64_w, i32_w]
        rfl
      refine pure_ (i := 10) (N := some 163) (v := ?_) (a' := ?_) #[true, true, true, true, false, true, true, true, false, true, true, false, false, false, false, false, false, false, false, false] rfl rfl (by kernel_rfl) (fun _ _ _ h => h) (Or.inl ⟨by rfl, ?_⟩) ?_ ?_
      rotate_left
      · intro w'
        go_simp
        with_reducible rfl
      rotate_left
      · simp only [Act.put, List.setIfInBounds_toArray, List.set_cons_zero, List.set_cons_succ, i64_w, i32_w]
        rfl
      refine pure_ (i := 11) (N := some 164) (v := ?_) (a' := ?_) #[true, true, true, true, false, true, true, true, false, true, true, true, false, false, false, false, false, false, false, false] rfl rfl (by kernel_rfl) (fun _ _ _ h => h) (Or.inl ⟨by rfl, ?_⟩) ?_ ?_
      rotate_left
      · intro w'
        go_simp
        with_reducible rfl
      rotate_left
      · simp only [Act.put, List.setIfInBounds_toArray, List.set_cons_zero, List.set_cons_succ, i64_w, i32_w]
        rfl
      refine pure_ (i := 13) (N := some 166) (v := ?_) (a' := ?_) #[true, true, true, true, false, true, true, true, false, true, true, true, false, true, false, false, false, false, false, false] rfl rfl (by kernel_rfl) (fun _ _ _ h => h) (Or.inl ⟨by rfl, ?_⟩) ?_ ?_
      rotate_left
      · intro w'
        go_simp
        with_reducible rfl
      rotate_left
      · simp only [Act.put, List.setIfInBounds_toArray, List.set_cons_zero, List.set_cons_succ, i64_w, i32_w]
        rfl
      refine pure_ (i := 14) (N := some 167) (v := ?_) (a' := ?_) #[true, true, true, true, false, true, true, true, false, true, true, true, false, true, true, false, false, false, false, false] rfl rfl (by kernel_rfl) (fun _ _ _ h => h) (Or.inl ⟨by rfl, ?_⟩) ?_ ?_
      rotate_left
      · intro w'
        go_simp
        with_reducible rfl
      rotate_left
      · simp only [Act.put, List.setIfInBounds_toArray, List.set_cons_zero, List.set_cons_succ, i64_w, i32_w]
        rfl
      refine pure_ (i := 15) (N := some 168) (v := ?_) (a' := ?_) #[true, true, true, true, false, true, true, true, false, true, true, true, false, true, true, true, false, false, false, false] rfl rfl (by kernel_rfl) (fun _ _ _ h => h) (Or.inl ⟨by rfl, ?_⟩) ?_ ?_
      rotate_left
      · intro w'
        go_simp
        with_reducible rfl
      rotate_left
      · simp only [Act.put, List.setIfInBounds_toArray, List.set_cons_zero, List.set_cons_succ, i64_w, i32_w]
        rfl
      refine take_ (i := 4) (N := some 157) (v := ?_) (a' := ?_) #[true, true, true, true, true, true, true, true, false, true, true, true, false, true, true, true, false, false, false, false] rfl rfl (by kernel_rfl) (fun _ _ _ h => h) (Or.inl ⟨by rfl, ?_⟩) hHeld ?_ ?_
      rotate_left
      · rintro w' ⟨s0, s1, s2, s3⟩
        go_simp
        with_reducible rfl
      rotate_left
      · simp only [Act.put, List.setIfInBounds_toArray, List.set_cons_zero, List.set_cons_succ, i64_w, i32_w]
        rfl
      refine take_ (i := 8) (N := some 161) (v := ?_) (a' := ?_) #[true, true, true, true, true, true, true, true, true, true, true, true, false, true, true, true, false, false, false, false] rfl rfl (by kernel_rfl) (fun _ _ _ h => h) (Or.inl ⟨by rfl, ?_⟩) hHeld ?_ ?_
      rotate_left
      · rintro w' ⟨s0, s1, s2, s3⟩
        go_simp
        with_reducible rfl
      rotate_left
      · simp only [Act.put, List.setIfInBounds_toArray, List.set_cons_zero, List.set_cons_succ, i64_w, i32_w]
        rfl
      refine take_ (i := 12) (N := some 165) (v := ?_) (a' := ?_) #[true, true, true, true, true, true, true, true, true, true, true, true, true, true, true, true, false, false, false, false] rfl rfl (by kernel_rfl) (fun _ _ _ h => h) (Or.inl ⟨by rfl, ?_⟩) hHeld ?_ ?_
      rotate_left
      · rintro w' ⟨s0, s1, s2, s3⟩
        go_simp
        with_reducible rfl
      rotate_left
      · simp only [Act.put, List.setIfInBounds_toArray, List.set_cons_zero, List.set_cons_succ, i64_w, i32_w]
        rfl
      refine take_ (i := 16) (N := some 169) (v := ?_) (a' := ?_) #[true, true, true, true, true, true, true, true, true, true, true, true, true, true, true, true, true, false, false, false] rfl rfl (by kernel_rfl) (fun _ _ _ h => h) (Or.inl ⟨by rfl, ?_⟩) hHeld ?_ ?_
      rotate_left
      · rintro w' ⟨s0, s1, s2, s3⟩
        go_simp
        with_reducible rfl
      rotate_left
      · simp only [Act.put, List.setIfInBounds_toArray, List.set_cons_zero, List.set_cons_succ, i64_w, i32_w]
        rfl
      refine pure_ (i := 17) (N := some 170) (v := ?_) (a' := ?_) #[true, true, true, true, true, true, true, true, true, true, true, true, true, true, true, true, true, true, false, false] rfl rfl (by kernel_rfl) (fun _ _ _ h => h) (Or.inl ⟨by rfl, ?_⟩) ?_ ?_
      rotate_left
      · intro w'
        go_simp
        with_reducible rfl
      rotate_left
      · simp only [Act.put, List.setIfInBounds_toArray, List.set_cons_zero, List.set_cons_succ, i64_w, i32_w]
        rfl
      refine pure_ (i := 18) (N := some 171) (v := ?_) (a' := ?_) #[true, true, true, true, true, true, true, true, true, true, true, true, true, true, true, true, true, true, true, false] rfl rfl (by kernel_rfl) (fun _ _ _ h => h) (Or.inl ⟨by rfl, ?_⟩) ?_ ?_
      rotate_left
      · intro w'
        go_simp
        with_reducible rfl
      rotate_left
      · simp only [Act.put, List.setIfInBounds_toArray, List.set_cons_zero, List.set_cons_succ, i64_w, i32_w]
        rfl
      have X4 := Aside0.mk X2.out.drew
      refine last_store_ (i := 19) (w1 := (World.setCell (World.setCell (World.setCell (World.setCell w2.drew ⟨gm, 0, none⟩ (.int .i64 A)) ⟨gm, 1, none⟩ (.int .i64 A)) ⟨gm, 2, none⟩ (.int .i64 C)) ⟨gm, 3, none⟩ (.int .i64 C))) #[true, true, true, true, true, true, true, true, true, true, true, true, true, true, true, true, true, true, true, true] rfl rfl (by kernel_rfl) (by decide) (by rfl) (run_put4_ rfl (show _ = Value.pointer (some ⟨gm, 0, none⟩) from by rfl) (show _ = Value.agg #[.int .i64 A, .int .i64 A, .int .i64 C, .int .i64 C] from by rfl) X4.out.m (by kernel_rfl) (by rfl)) ?_
      refine done_ (by kernel_rfl) ?_
      generalize hw5 : (World.setCell (World.setCell (World.setCell (World.setCell w2.drew ⟨gm, 0, none⟩ (.int .i64 A)) ⟨gm, 1, none⟩ (.int .i64 A)) ⟨gm, 2, none⟩ (.int .i64 C)) ⟨gm, 3, none⟩ (.int .i64 C)) = w5
      have X5 := Aside0.mk (X4.out.mset hw5.symm)
      have ct5 := X5.out.ct
      have ft5 := X5.out.ft 0
      clear hw5
      go_wp2_with (first | ((with_reducible refine gate_store (t := 3) (p := 176) rfl ?_); refine store_event (t := 3) (p := 176) (v := ?vo_w6) (w1 := (w5.setCell ⟨gt, 0, none⟩ (.int .i64 (tk + 1)))) ?hg ?ho ?hn ?hr ?_; (case ho => rfl); (case hg => rfl); (case hn => rfl); (case hr => first | (go_simp; done) | (go_simp; rfl)); intro w6 hw; have X6 := Aside0.mk (X5.out.tset hw); clear hw; have cw6 := X6.out.cw))
      go_ret
      exact ⟨rfl, X6.out⟩
set_option maxHeartbeats 8000000 in
set_option maxRecDepth 100000 in
theorem step_end (k b : Nat) (w0 w : World) (gw gm gt : Nat) (A B C D : Int) (tk : Int) (xs : List Int) (A1 : Option Addr) (c1 : Nat) (ms : List S52) (gs : List Int) (ov ok : Bool) (q : Int)
    (hP : PW b w0 w gw gm gt A B C D tk ms gs ov) (hl : ms.length < 1000000) (hl2 : gs.length < 1000000) (htk0 : 0 ≤ tk) (htk2 : tk < 1000000)
    (hg : impl_gives.f k [A, wrap64 (A + B)] [C, wrap64 (C + D)] = some (q, ok)) (hno : ok = false ∨ tk = 0) (hlt : (xs.length : Int) < tk) (hxl : xs.length < 1000000) :
    Calls Try.prog 61 #[.pointer (some ⟨gm, 0, none⟩), .pointer (some ⟨gw, 0, none⟩), .slice A1 xs.length c1, .pointer (some ⟨gt, 0, none⟩)] w fun e w' => e = .returned (.bool false) ∧ PW b w0 w' gw gm gt A B C D tk ms gs ov := by
  have X0 := Aside0.mk hP
  have HG := Aside0.mk hg
  have c0w := hP.c0
  have c1w := hP.c1
  have c2w := hP.c2
  have c3w := hP.c3
  have n0 := World.new_ne w _ c0w
  clear hP hg
  go_enter Try.func61, Try.ntmps61
  go_wp2
  go_cut [9, 10] (fun v9 v10 wc => v9 = .int .i64 q ∧ v10 = .bool ok ∧ Aside0 (PW b w0 wc gw gm gt A B C D tk ms gs ov))
  case first =>
    go_region_held3 (fun w' => w'.cell? ⟨gm, 0, none⟩ = some (.int .i64 A) ∧ w'.cell? ⟨gm, 1, none⟩ = some (.int .i64 B) ∧ w'.cell? ⟨gm, 2, none⟩ = some (.int .i64 C) ∧ w'.cell? ⟨gm, 3, none⟩ = some (.int .i64 D)) (first | exact ⟨X1.out.c0, X1.out.c1, X1.out.c2, X1.out.c3⟩ | go_keep)
      (first | (go_at_call 66; (with_reducible refine (gives_two k _ _ A (wrap64 (A + B)) C (wrap64 (C + D)) q ok _ ?s1 ?s3 HG.out).mono ?_); (case s1 => first | exact C_two' (two_first w 0 _ _) rfl (i64_wrap _) | exact C_two' (two_second w _ _) rfl (i64_wrap _)); (case s3 => first | exact C_two' (two_first w 0 _ _) rfl (i64_wrap _) | exact C_two' (two_second w _ _) rfl (i64_wrap _)); rintro e w1 ⟨rfl, hd⟩; have X1 := Aside0.mk (X0.out.below (below_step (below_drew (below_alloc (below_alloc (Below.refl _ _) _) _)) hd.below)); clear hd))
    all_goals (go_wp2; go_meet)
    all_goals exact ⟨rfl, rfl, X1⟩
  case rest =>
    clear X0 c0w c1w c2w c3w n0
    obtain ⟨rfl, rfl, X1⟩ := hcut
    have ctw := X1.out.ct
    go_upto_region 3 with (fail)
    go_cut [44] (fun v44 wc => v44 = .bool false ∧ Aside0 (PW b w0 wc gw gm gt A B C D tk ms gs ov))
    case first =>
      cases ok with
      | false =>
        go_wp2
        go_meet
        exact ⟨rfl, X1⟩
      | true =>
        have ht0 : decide ((0 : Int) < tk) = false := decide_eq_false (by have := hno.resolve_left (by simp); omega)
        go_wp2
        go_meet
        exact ⟨rfl, X1⟩
    case rest =>
      clear X1 ctw
      obtain ⟨rfl, X1⟩ := hcut
      have ctw := X1.out.ct
      have hlt1 : decide (tk < (xs.length : Int)) = false := decide_eq_false (by omega)
      have heq1 : (tk == (xs.length : Int)) = false := by simp; omega
      go_wp2
      go_ret
      exact ⟨rfl, X1.out⟩
def stepI (k : Nat) (xs : List Int) (s : PSt) : Option (Bool × PSt) :=
  (impl_gives.f k [s.A, wrap64 (s.A + s.B)] [s.C, wrap64 (s.C + s.D)]).bind fun t =>
    if t.2 = true ∧ 0 < s.tk then
      (implC (s.ov || decide (40 < (s.gs.length : Int) + 1)) s.C (wrap64 (-t.1)) s.A).bind fun c => (implC c.2 s.D (wrap64 (-t.1)) s.B).bind fun d => some (!d.2, ⟨s.C, s.D, c.1, d.1, s.tk, s.ms ++ [⟨1, t.1⟩], s.gs ++ [t.1], d.2⟩)
    else if s.tk < (xs.length : Int) then
      (implC s.ov s.A (rd xs s.tk) s.B).bind fun c => (implC c.2 s.C (rd xs s.tk) s.D).bind fun d => some (!d.2, ⟨c.1, s.A, d.1, s.C, s.tk + 1, s.ms ++ [⟨2, rd xs s.tk⟩], s.gs, d.2⟩)
    else if s.tk ≤ (xs.length : Int) then some (!s.ov, ⟨s.A, s.A, s.C, s.C, s.tk + 1, s.ms ++ [⟨2, 0⟩], s.gs, s.ov⟩)
    else some (false, s)
def runI (k : Nat) (xs : List Int) : Nat → PSt → Option PSt
  | 0, _ => none
  | n + 1, s => if s.ms.length < 1000000 ∧ s.gs.length < 1000000 ∧ 0 ≤ s.tk ∧ s.tk < 1000000 ∧ xs.length < 1000000 then (stepI k xs s).bind fun r => (if r.1 = true then runI k xs n r.2 else some r.2) else none
def PWs (b : Nat) (w0 w : World) (gw gm gt : Nat) (s : PSt) : Prop := PW b w0 w gw gm gt s.A s.B s.C s.D s.tk s.ms s.gs s.ov
theorem step_all (k b : Nat) (w0 w : World) (gw gm gt : Nat) (s : PSt) (xs : List Int) (A1 : Option Addr) (c1 : Nat) (r : Bool) (s' : PSt) (hP : PWs b w0 w gw gm gt s)
    (hb : s.ms.length < 1000000 ∧ s.gs.length < 1000000 ∧ 0 ≤ s.tk ∧ s.tk < 1000000 ∧ xs.length < 1000000) (hr : Kd.C (Kd.int .i64) w0 A1 xs.length xs) (hc : xs.length ≤ c1) (h0 : w0.heap.size = b) (h : stepI k xs s = some (r, s')) :
    Calls Try.prog 61 #[.pointer (some ⟨gm, 0, none⟩), .pointer (some ⟨gw, 0, none⟩), .slice A1 xs.length c1, .pointer (some ⟨gt, 0, none⟩)] w fun e w' => e = .returned (.bool r) ∧ PWs b w0 w' gw gm gt s' := by
  obtain ⟨h1, h2, h3, h4, h5⟩ := hb
  unfold stepI at h
  obtain ⟨⟨q, ok⟩, hg, H⟩ := Option.bind_eq_some_iff.mp h
  simp only at H
  clear h
  by_cases c : ok = true ∧ 0 < s.tk
  · rw [if_pos c] at H
    obtain ⟨⟨x, o1⟩, e1, H⟩ := Option.bind_eq_some_iff.mp H
    obtain ⟨⟨y, o2⟩, e2, H⟩ := Option.bind_eq_some_iff.mp H
    simp only [Option.some.injEq, Prod.mk.injEq] at H
    obtain ⟨rfl, rfl⟩ := H
    rw [c.1] at hg
    exact step_give k b w0 w gw gm gt s.A s.B s.C s.D s.tk xs A1 c1 s.ms s.gs s.ov o1 o2 q x y hP h1 h2 h3 h4 hg c.2 e1 e2
  · rw [if_neg c] at H
    have hno : ok = false ∨ s.tk = 0 := by
      cases ok with
      | false => exact Or.inl rfl
      | true => exact Or.inr (by have : ¬ 0 < s.tk := fun z => c ⟨rfl, z⟩; omega)
    by_cases c2 : s.tk < (xs.length : Int)
    · rw [if_pos c2] at H
      obtain ⟨⟨x, o1⟩, e1, H⟩ := Option.bind_eq_some_iff.mp H
      obtain ⟨⟨y, o2⟩, e2, H⟩ := Option.bind_eq_some_iff.mp H
      simp only [Option.some.injEq, Prod.mk.injEq] at H
      obtain ⟨rfl, rfl⟩ := H
      exact step_take k b w0 w gw gm gt s.A s.B s.C s.D s.tk xs A1 c1 s.ms s.gs s.ov ok o1 o2 q x y hP h1 h2 h3 h4 hg hno c2 h5 hr hc h0 e1 e2
    · rw [if_neg c2] at H
      by_cases c3 : s.tk ≤ (xs.length : Int)
      · rw [if_pos c3] at H
        simp only [Option.some.injEq, Prod.mk.injEq] at H
        obtain ⟨rfl, rfl⟩ := H
        exact step_inf k b w0 w gw gm gt s.A s.B s.C s.D s.tk xs A1 c1 s.ms s.gs s.ov ok q hP h1 h2 h3 h4 hg hno c3 (by omega) h5
      · rw [if_neg c3] at H
        simp only [Option.some.injEq, Prod.mk.injEq] at H
        obtain ⟨rfl, rfl⟩ := H
        exact step_end k b w0 w gw gm gt s.A s.B s.C s.D s.tk xs A1 c1 s.ms s.gs s.ov ok q hP h1 h2 h3 h4 hg hno (by omega) h5
def inP (x : Int) : Bool := decide (-1000000000 ≤ x ∧ x ≤ 1000000000)
theorem within_inP (x : Int) : impl_within.f x (-1000000000) 1000000000 = some (inP x) := by
  unfold impl_within.f inP
  split <;> simp <;> omega
theorem PWs_start {s : PSt} {gm : Nat} {w wr : World} (hB : Below w.heap.size w wr) (hm : wr.heap[gm]? = some (.cells #[.int .i64 s.A, .int .i64 s.B, .int .i64 s.C, .int .i64 s.D] 27 (0, 0))) (e1 : gm = w.heap.size) (e2 : s.tk = 0) (e3 : s.ms = []) (e4 : s.gs = []) (e5 : s.ov = false) (e6 : (0 : Nat) = 0) (e7 : (0 : Nat) = 0) :
    PWs w.heap.size w ((wr.alloc (.cells #[.slice none 0 0, .slice none 0 0, .bool false] 71)).alloc (.cells #[.int .i64 0] 3)) wr.heap.size gm (wr.alloc (.cells #[.slice none 0 0, .slice none 0 0, .bool false] 71)).heap.size s := by
  obtain ⟨A, B, C, D, tk, ms, gs, ov⟩ := s
  simp only at e2 e3 e4 e5 hm
  subst e2 e3 e4 e5
  exact ⟨⟨_, _, blk_alloc (heap_alloc_new wr _) _, hB.size, Kd.R_nil _ _ _ _ _, Kd.R_nil _ _ _ _ _⟩, blk_alloc (blk_alloc hm _) _, heap_alloc_new _ _, by omega, by have := hB.size; simp; omega, below_alloc (below_alloc hB _) _, by have := hB.size; simp; omega⟩
theorem PWs_code {b : Nat} {w0 w : World} {gw gm gt : Nat} {s : PSt} {k : Nat} {c : Int} (h : PWs b w0 w gw gm gt s) (hc : impl_mover_code.f k s.ms s.gs s.ov = some c) :
    Calls Try.prog 62 #[.pointer (some ⟨gw, 0, none⟩)] w fun e w' => e = .returned (.int .i64 c) ∧ PWs b w0 w' gw gm gt s := by
  obtain ⟨mv, gv, h1, h2, h3, h4⟩ := h.n
  obtain ⟨A0, c0, rfl, l0, r0⟩ := Kd.R_reads h3
  obtain ⟨A1, c1, rfl, l1, r1⟩ := Kd.R_reads h4
  refine (impl_mover_code.calls k gw 0 A0 c0 s.ms A1 c1 s.gs s.ov c w r0 l0 r1 l1 ⟨(blk_cell h1 0).trans rfl, (blk_cell h1 1).trans rfl, (blk_cell h1 2).trans rfl⟩ hc).mono ?_
  rintro e w' ⟨rfl, hd⟩
  exact ⟨rfl, PW.below h hd.below⟩
set_option maxHeartbeats 8000000 in
set_option maxRecDepth 100000 in
theorem run_ok (k : Nat) (A B C D : Int) (xs : List Int) (A1 : Option Addr) (c1 : Nat) (s : PSt) (c : Int) (w : World) (hr : Kd.C (Kd.int .i64) w A1 xs.length xs) (hc : xs.length ≤ c1)
    (hv : impl_ValidTerms.f k xs = some true) (hA : inP A = true) (hB : inP B = true) (hC : inP C = true) (hD : inP D = true) (hs : runI k xs k ⟨A, B, C, D, 0, [], [], false⟩ = some s) (hcode : impl_mover_code.f k s.ms s.gs s.ov = some c) :
    Calls Try.prog 41 #[.agg #[.int .i64 A, .int .i64 B, .int .i64 C, .int .i64 D], .slice A1 xs.length c1] w fun e w' => ∃ gw, e = .returned (.tuple #[.pointer (some ⟨gw, 0, none⟩), .int .i64 c]) ∧ Mv 71 w.heap.size w' gw s.ms s.gs s.ov ∧ Below w.heap.size w w' := by
  have HR := Aside0.mk hr
  have HC := Aside0.mk hc
  have HV := Aside0.mk hv
  have HS := Aside0.mk hs
  have HCo := Aside0.mk hcode
  have HA := Aside0.mk ((within_inP A).trans (by rw [hA]))
  have HB := Aside0.mk ((within_inP B).trans (by rw [hB]))
  have HC2 := Aside0.mk ((within_inP C).trans (by rw [hC]))
  have HD := Aside0.mk ((within_inP D).trans (by rw [hD]))
  clear hr hc hv hs hcode hA hB hC hD
  go_enter Try.func41, Try.ntmps41
  go_wp2_with (first | (go_at_call 59; (with_reducible refine (impl_ValidTerms.calls k A1 c1 xs true _ ?s1 ?s2 HV.out).mono ?_); (case s1 => first | exact HR.out | exact Kd.C_alloc HR.out _); (case s2 => exact HC.out); rintro e w' ⟨rfl, ⟨nd, rfl⟩⟩))
  go_loopg [23] 5 (fun kq v23 w' => ∃ i : Nat, v23 = .int .i64 i ∧ Aside0 (i + kq = 5) ∧ Aside0 (1 ≤ kq) ∧ Aside0 (w'.heap[w.heap.size]? = some (.cells #[.int .i64 A, .int .i64 B, .int .i64 C, .int .i64 D] 27 (0, 0))) ∧ Aside0 (w'.heap[w.heap.size + 1]? = some (.cells #[.int .i64 A, .int .i64 B, .int .i64 C, .int .i64 D] 2 (0, 0))) ∧ Aside0 (Below w.heap.size w w'))
  case atStart =>
    refine ⟨0, rfl, ⟨rfl⟩, ⟨by omega⟩, ⟨blk_alloc (show (World.drewN (w.alloc _) nd).heap[w.heap.size]? = _ from heap_alloc_new w _) _⟩, ⟨?_⟩, ⟨below_alloc (pw_below_drewN (below_alloc (Below.refl _ _) _) nd) _⟩⟩
    have h := heap_alloc_new (World.drewN (w.alloc (.cells #[.int .i64 A, .int .i64 B, .int .i64 C, .int .i64 D] 27)) nd) (.cells #[.int .i64 A, .int .i64 B, .int .i64 C, .int .i64 D] 2)
    rwa [show (World.drewN (w.alloc (.cells #[.int .i64 A, .int .i64 B, .int .i64 C, .int .i64 D] 27)) nd).heap.size = w.heap.size + 1 by simp] at h
  case round =>
    obtain ⟨i, rfl, HI, HK, HM, HL, HBl⟩ := hrel
    cases gk with
    | zero => exact absurd HK.out (by omega)
    | succ k1 =>
      rcases (show i = 0 ∨ i = 1 ∨ i = 2 ∨ i = 3 ∨ i = 4 by have := HI.out; omega) with rfl | rfl | rfl | rfl | rfl
      · have hx := (blk_cell HL.out 0).trans (show _ = some (Value.int .i64 A) from rfl)
        go_wp2_with (first | (go_at_call 60; (with_reducible refine (impl_within.calls A (-1000000000) 1000000000 true _ HA.out).mono ?_); rintro e w' ⟨rfl, ⟨nd, rfl⟩⟩))
        go_roundg k1
        case measure => omega
        case rel => exact ⟨1, rfl, ⟨by have := HI.out; omega⟩, ⟨by have := HI.out; omega⟩, ⟨HM.out⟩, ⟨HL.out⟩, ⟨pw_below_drewN HBl.out _⟩⟩
      · have hx := (blk_cell HL.out 1).trans (show _ = some (Value.int .i64 B) from rfl)
        go_wp2_with (first | (go_at_call 60; (with_reducible refine (impl_within.calls B (-1000000000) 1000000000 true _ HB.out).mono ?_); rintro e w' ⟨rfl, ⟨nd, rfl⟩⟩))
        go_roundg k1
        case measure => omega
        case rel => exact ⟨2, rfl, ⟨by have := HI.out; omega⟩, ⟨by have := HI.out; omega⟩, ⟨HM.out⟩, ⟨HL.out⟩, ⟨pw_below_drewN HBl.out _⟩⟩
      · have hx := (blk_cell HL.out 2).trans (show _ = some (Value.int .i64 C) from rfl)
        go_wp2_with (first | (go_at_call 60; (with_reducible refine (impl_within.calls C (-1000000000) 1000000000 true _ HC2.out).mono ?_); rintro e w' ⟨rfl, ⟨nd, rfl⟩⟩))
        go_roundg k1
        case measure => omega
        case rel => exact ⟨3, rfl, ⟨by have := HI.out; omega⟩, ⟨by have := HI.out; omega⟩, ⟨HM.out⟩, ⟨HL.out⟩, ⟨pw_below_drewN HBl.out _⟩⟩
      · have hx := (blk_cell HL.out 3).trans (show _ = some (Value.int .i64 D) from rfl)
        go_wp2_with (first | (go_at_call 60; (with_reducible refine (impl_within.calls D (-1000000000) 1000000000 true _ HD.out).mono ?_); rintro e w' ⟨rfl, ⟨nd, rfl⟩⟩))
        go_roundg k1
        case measure => omega
        case rel => exact ⟨4, rfl, ⟨by have := HI.out; omega⟩, ⟨by have := HI.out; omega⟩, ⟨HM.out⟩, ⟨HL.out⟩, ⟨pw_below_drewN HBl.out _⟩⟩
      · go_wp2
        have hsz : w.heap.size + 2 ≤ wr.heap.size := by have h := blk_lt HL.out; omega
        have X0 := Aside0.mk (PWs_start (s := ⟨A, B, C, D, 0, [], [], false⟩) (gm := w.heap.size) HBl.out HM.out rfl rfl rfl rfl rfl rfl rfl)
        have e1 : (wr.alloc (.cells #[.slice none 0 0, .slice none 0 0, .bool false] 71)).heap.size = wr.heap.size + 1 := by simp
        rw [e1] at X0
        clear e1 HI HK
        obtain ⟨wo, rfl⟩ : ∃ wo : World, wo = wr := ⟨_, rfl⟩
        go_loopg [35] k (fun kq v35 w' => ∃ s1 : PSt, Aside0 (runI k xs kq s1 = some s) ∧ Aside0 (kq ≤ k) ∧ Aside0 (PWs w.heap.size w w' wo.heap.size w.heap.size (wo.heap.size + 1) s1))
        case atStart => exact ⟨_, HS, ⟨Nat.le_refl _⟩, X0⟩
        case round =>
          clear X0
          obtain ⟨s1, HR1, HK1, X1⟩ := hrel
          cases gk with
          | zero => exact absurd HR1.out (by simp [runI])
          | succ k2 =>
            have h := HR1.out
            rw [runI] at h
            by_cases cb : s1.ms.length < 1000000 ∧ s1.gs.length < 1000000 ∧ 0 ≤ s1.tk ∧ s1.tk < 1000000 ∧ xs.length < 1000000
            · rw [if_pos cb] at h
              obtain ⟨⟨r, s2⟩, hst, h⟩ := Option.bind_eq_some_iff.mp h
              have HST := Aside0.mk hst
              have CB := Aside0.mk cb
              clear hst cb HR1
              simp only at h
              cases r with
              | true =>
                rw [if_pos rfl] at h
                have HN := Aside0.mk h
                clear h
                go_wp2_with (first | (go_at_call 61; (with_reducible refine (step_all k w.heap.size w _ wo.heap.size w.heap.size (wo.heap.size + 1) s1 xs A1 c1 true s2 ?s1 CB.out HR.out HC.out rfl HST.out).mono ?_); (case s1 => exact X1.out); rintro e w3 ⟨rfl, hX⟩; have X3 := Aside0.mk hX; clear hX))
                go_roundg k2
                case measure => omega
                case rel => exact ⟨s2, HN, ⟨by have := HK1.out; omega⟩, X3⟩
              | false =>
                rw [if_neg (by decide)] at h
                obtain rfl := Option.some.inj h
                clear h
                go_wp2_with (first | (go_at_call 61; (with_reducible refine (step_all k w.heap.size w _ wo.heap.size w.heap.size (wo.heap.size + 1) s1 xs A1 c1 false s2 ?s1 CB.out HR.out HC.out rfl HST.out).mono ?_); (case s1 => exact X1.out); rintro e w3 ⟨rfl, hX⟩; have X3 := Aside0.mk hX; clear hX) | (go_at_call 62; (with_reducible refine (PWs_code X3.out HCo.out).mono ?_); rintro e w4 ⟨rfl, hX⟩; have X4 := Aside0.mk hX; clear hX))
                go_ret2
                exact ⟨_, rfl, X4.out.n, X4.out.bel⟩
            · rw [if_neg cb] at h
              cases h
/-- The numbers ahead of place i are in their bounds. -/
def preP (A B C D : Int) : Nat → Prop
  | 0 => True
  | 1 => inP A = true
  | 2 => inP A = true ∧ inP B = true
  | 3 => inP A = true ∧ inP B = true ∧ inP C = true
  | _ => inP A = true ∧ inP B = true ∧ inP C = true ∧ inP D = true
set_option maxHeartbeats 8000000 in
set_option maxRecDepth 100000 in
theorem run_bad1 (k : Nat) (A B C D : Int) (xs : List Int) (A1 : Option Addr) (c1 : Nat) (w : World) (hr : Kd.C (Kd.int .i64) w A1 xs.length xs) (hc : xs.length ≤ c1) (hv : impl_ValidTerms.f k xs = some false) :
    Calls Try.prog 41 #[.agg #[.int .i64 A, .int .i64 B, .int .i64 C, .int .i64 D], .slice A1 xs.length c1] w fun e w' => e = .returned (.tuple #[.pointer none, .int .i64 1]) ∧ Below w.heap.size w w' := by
  have HR := Aside0.mk hr
  have HC := Aside0.mk hc
  have HV := Aside0.mk hv
  clear hr hc hv
  go_enter Try.func41, Try.ntmps41
  go_wp2_with (first | (go_at_call 59; (with_reducible refine (impl_ValidTerms.calls k A1 c1 xs false _ ?s1 ?s2 HV.out).mono ?_); (case s1 => first | exact HR.out | exact Kd.C_alloc HR.out _); (case s2 => exact HC.out); rintro e w' ⟨rfl, ⟨nd, rfl⟩⟩))
  go_ret2
  exact ⟨rfl, pw_below_drewN (below_alloc (Below.refl _ _) _) _⟩
set_option maxHeartbeats 8000000 in
set_option maxRecDepth 100000 in
theorem run_bad2 (k : Nat) (A B C D : Int) (xs : List Int) (A1 : Option Addr) (c1 : Nat) (w : World) (hr : Kd.C (Kd.int .i64) w A1 xs.length xs) (hc : xs.length ≤ c1)
    (hv : impl_ValidTerms.f k xs = some true) (hno : ¬ (inP A = true ∧ inP B = true ∧ inP C = true ∧ inP D = true)) :
    Calls Try.prog 41 #[.agg #[.int .i64 A, .int .i64 B, .int .i64 C, .int .i64 D], .slice A1 xs.length c1] w fun e w' => e = .returned (.tuple #[.pointer none, .int .i64 2]) ∧ Below w.heap.size w w' := by
  have HR := Aside0.mk hr
  have HC := Aside0.mk hc
  have HV := Aside0.mk hv
  have HN := Aside0.mk hno
  have HA := Aside0.mk (within_inP A)
  have HB := Aside0.mk (within_inP B)
  have HC2 := Aside0.mk (within_inP C)
  have HD := Aside0.mk (within_inP D)
  clear hr hc hv hno
  go_enter Try.func41, Try.ntmps41
  go_wp2_with (first | (go_at_call 59; (with_reducible refine (impl_ValidTerms.calls k A1 c1 xs true _ ?s1 ?s2 HV.out).mono ?_); (case s1 => first | exact HR.out | exact Kd.C_alloc HR.out _); (case s2 => exact HC.out); rintro e w' ⟨rfl, ⟨nd, rfl⟩⟩))
  go_loopg [23] 5 (fun kq v23 w' => ∃ i : Nat, v23 = .int .i64 i ∧ Aside0 (i + kq = 5) ∧ Aside0 (1 ≤ kq) ∧ Aside0 (w'.heap[w.heap.size]? = some (.cells #[.int .i64 A, .int .i64 B, .int .i64 C, .int .i64 D] 27 (0, 0))) ∧ Aside0 (w'.heap[w.heap.size + 1]? = some (.cells #[.int .i64 A, .int .i64 B, .int .i64 C, .int .i64 D] 2 (0, 0))) ∧ Aside0 (Below w.heap.size w w') ∧ Aside0 (preP A B C D i))
  case atStart =>
    refine ⟨0, rfl, ⟨rfl⟩, ⟨by omega⟩, ⟨blk_alloc (show (World.drewN (w.alloc _) nd).heap[w.heap.size]? = _ from heap_alloc_new w _) _⟩, ⟨?_⟩, ⟨below_alloc (pw_below_drewN (below_alloc (Below.refl _ _) _) nd) _⟩, ⟨trivial⟩⟩
    have h := heap_alloc_new (World.drewN (w.alloc (.cells #[.int .i64 A, .int .i64 B, .int .i64 C, .int .i64 D] 27)) nd) (.cells #[.int .i64 A, .int .i64 B, .int .i64 C, .int .i64 D] 2)
    rwa [show (World.drewN (w.alloc (.cells #[.int .i64 A, .int .i64 B, .int .i64 C, .int .i64 D] 27)) nd).heap.size = w.heap.size + 1 by simp] at h
  case round =>
    obtain ⟨i, rfl, HI, HK, HM, HL, HBl, HP⟩ := hrel
    cases gk with
    | zero => exact absurd HK.out (by omega)
    | succ k1 =>
      rcases (show i = 0 ∨ i = 1 ∨ i = 2 ∨ i = 3 ∨ i = 4 by have := HI.out; omega) with rfl | rfl | rfl | rfl | rfl
      · have hx := (blk_cell HL.out 0).trans (show _ = some (Value.int .i64 A) from rfl)
        cases hx2_ : inP A with
        | true =>
          have hx3 := Aside0.mk hx2_
          have hx4 := Aside0.mk (HA.out.trans (by rw [hx2_]))
          clear hx2_
          go_wp2_with (first | (go_at_call 60; (with_reducible refine (impl_within.calls A (-1000000000) 1000000000 true _ hx4.out).mono ?_); rintro e w' ⟨rfl, ⟨nd, rfl⟩⟩))
          go_roundg k1
          case measure => omega
          case rel => exact ⟨1, rfl, ⟨by have := HI.out; omega⟩, ⟨by have := HI.out; omega⟩, ⟨HM.out⟩, ⟨HL.out⟩, ⟨pw_below_drewN HBl.out _⟩, ⟨hx3.out⟩⟩
        | false =>
          have hx4 := Aside0.mk (HA.out.trans (by rw [hx2_]))
          clear hx2_
          go_wp2_with (first | (go_at_call 60; (with_reducible refine (impl_within.calls A (-1000000000) 1000000000 false _ hx4.out).mono ?_); rintro e w' ⟨rfl, ⟨nd, rfl⟩⟩))
          go_ret2
          exact ⟨rfl, pw_below_drewN HBl.out _⟩
      · have hx := (blk_cell HL.out 1).trans (show _ = some (Value.int .i64 B) from rfl)
        cases hx2_ : inP B with
        | true =>
          have hx3 := Aside0.mk hx2_
          have hx4 := Aside0.mk (HB.out.trans (by rw [hx2_]))
          clear hx2_
          go_wp2_with (first | (go_at_call 60; (with_reducible refine (impl_within.calls B (-1000000000) 1000000000 true _ hx4.out).mono ?_); rintro e w' ⟨rfl, ⟨nd, rfl⟩⟩))
          go_roundg k1
          case measure => omega
          case rel => exact ⟨2, rfl, ⟨by have := HI.out; omega⟩, ⟨by have := HI.out; omega⟩, ⟨HM.out⟩, ⟨HL.out⟩, ⟨pw_below_drewN HBl.out _⟩, ⟨⟨HP.out, hx3.out⟩⟩⟩
        | false =>
          have hx4 := Aside0.mk (HB.out.trans (by rw [hx2_]))
          clear hx2_
          go_wp2_with (first | (go_at_call 60; (with_reducible refine (impl_within.calls B (-1000000000) 1000000000 false _ hx4.out).mono ?_); rintro e w' ⟨rfl, ⟨nd, rfl⟩⟩))
          go_ret2
          exact ⟨rfl, pw_below_drewN HBl.out _⟩
      · have hx := (blk_cell HL.out 2).trans (show _ = some (Value.int .i64 C) from rfl)
        cases hx2_ : inP C with
        | true =>
          have hx3 := Aside0.mk hx2_
          have hx4 := Aside0.mk (HC2.out.trans (by rw [hx2_]))
          clear hx2_
          go_wp2_with (first | (go_at_call 60; (with_reducible refine (impl_within.calls C (-1000000000) 1000000000 true _ hx4.out).mono ?_); rintro e w' ⟨rfl, ⟨nd, rfl⟩⟩))
          go_roundg k1
          case measure => omega
          case rel => exact ⟨3, rfl, ⟨by have := HI.out; omega⟩, ⟨by have := HI.out; omega⟩, ⟨HM.out⟩, ⟨HL.out⟩, ⟨pw_below_drewN HBl.out _⟩, ⟨⟨HP.out.1, HP.out.2, hx3.out⟩⟩⟩
        | false =>
          have hx4 := Aside0.mk (HC2.out.trans (by rw [hx2_]))
          clear hx2_
          go_wp2_with (first | (go_at_call 60; (with_reducible refine (impl_within.calls C (-1000000000) 1000000000 false _ hx4.out).mono ?_); rintro e w' ⟨rfl, ⟨nd, rfl⟩⟩))
          go_ret2
          exact ⟨rfl, pw_below_drewN HBl.out _⟩
      · have hx := (blk_cell HL.out 3).trans (show _ = some (Value.int .i64 D) from rfl)
        cases hx2_ : inP D with
        | true =>
          have hx3 := Aside0.mk hx2_
          have hx4 := Aside0.mk (HD.out.trans (by rw [hx2_]))
          clear hx2_
          go_wp2_with (first | (go_at_call 60; (with_reducible refine (impl_within.calls D (-1000000000) 1000000000 true _ hx4.out).mono ?_); rintro e w' ⟨rfl, ⟨nd, rfl⟩⟩))
          go_roundg k1
          case measure => omega
          case rel => exact ⟨4, rfl, ⟨by have := HI.out; omega⟩, ⟨by have := HI.out; omega⟩, ⟨HM.out⟩, ⟨HL.out⟩, ⟨pw_below_drewN HBl.out _⟩, ⟨⟨HP.out.1, HP.out.2.1, HP.out.2.2, hx3.out⟩⟩⟩
        | false =>
          have hx4 := Aside0.mk (HD.out.trans (by rw [hx2_]))
          clear hx2_
          go_wp2_with (first | (go_at_call 60; (with_reducible refine (impl_within.calls D (-1000000000) 1000000000 false _ hx4.out).mono ?_); rintro e w' ⟨rfl, ⟨nd, rfl⟩⟩))
          go_ret2
          exact ⟨rfl, pw_below_drewN HBl.out _⟩
      · exact absurd HP.out HN.out
theorem stepI_mono (xs : List Int) (s : PSt) (k : Nat) : LeO (stepI k xs s) (stepI (k + 1) xs s) := by
  unfold stepI
  exact LeO.bind (impl_gives.mono _ _ _) (fun _ => LeO.refl _)
theorem runI_mono (xs : List Int) (k : Nat) : ∀ (n : Nat) (s : PSt), LeO (runI k xs n s) (runI (k + 1) xs (n + 1) s)
  | 0, s => by intro r h; simp [runI] at h
  | n + 1, s => by
    rw [runI]
    conv => rhs; rw [runI]
    refine LeO.ite ?_ (LeO.none _)
    refine LeO.bind (stepI_mono xs s k) (fun r => ?_)
    exact LeO.ite (runI_mono xs k n r.2) (LeO.refl _)
/-- What a machine with four numbers comes to: its last state with a code, or a code alone. -/
def pairF (k : Nat) (A B C D : Int) (xs : List Int) : Option (PSt × Int) :=
  (impl_ValidTerms.f k xs).bind fun v => if v = true then (if inP A = true ∧ inP B = true ∧ inP C = true ∧ inP D = true then ((runI k xs k ⟨A, B, C, D, 0, [], [], false⟩).bind fun s => (impl_mover_code.f k s.ms s.gs s.ov).bind fun c => some (s, c)) else some (⟨A, B, C, D, 0, [], [], false⟩, 2)) else some (⟨A, B, C, D, 0, [], [], false⟩, 1)
theorem pairF_mono (A B C D : Int) (xs : List Int) (k : Nat) : LeO (pairF k A B C D xs) (pairF (k + 1) A B C D xs) := by
  unfold pairF
  refine LeO.bind (impl_ValidTerms.mono _ _) (fun v => LeO.ite (LeO.ite ?_ (LeO.refl _)) (LeO.refl _))
  exact LeO.bind (runI_mono xs k k _) (fun s => LeO.bind (impl_mover_code.mono _ _ _ _) (fun _ => LeO.refl _))
/-- The machine's run: a pointer to its notes, or none with a code that isn't 0. -/
theorem run_calls (k : Nat) (A B C D : Int) (xs : List Int) (A1 : Option Addr) (c1 : Nat) (s : PSt) (c : Int) (w : World) (hr : Kd.C (Kd.int .i64) w A1 xs.length xs) (hc : xs.length ≤ c1) (h : pairF k A B C D xs = some (s, c)) :
    Calls Try.prog 41 #[.agg #[.int .i64 A, .int .i64 B, .int .i64 C, .int .i64 D], .slice A1 xs.length c1] w fun e w' => ∃ p, e = .returned (.tuple #[.pointer p, .int .i64 c]) ∧ (c = 0 → ∃ gw, p = some ⟨gw, 0, none⟩ ∧ Mv 71 w.heap.size w' gw s.ms s.gs s.ov) ∧ Below w.heap.size w w' := by
  unfold pairF at h
  obtain ⟨v, hv, h⟩ := Option.bind_eq_some_iff.mp h
  cases v with
  | false =>
    rw [if_neg (by decide)] at h
    simp only [Option.some.injEq, Prod.mk.injEq] at h
    obtain ⟨rfl, rfl⟩ := h
    refine (run_bad1 k A B C D xs A1 c1 w hr hc hv).mono ?_
    rintro e w' ⟨rfl, hb⟩
    exact ⟨_, rfl, fun z => absurd z (by decide), hb⟩
  | true =>
    rw [if_pos rfl] at h
    by_cases ci : inP A = true ∧ inP B = true ∧ inP C = true ∧ inP D = true
    · rw [if_pos ci] at h
      obtain ⟨s1, hs, h⟩ := Option.bind_eq_some_iff.mp h
      obtain ⟨c2, hc2, h⟩ := Option.bind_eq_some_iff.mp h
      simp only [Option.some.injEq, Prod.mk.injEq] at h
      obtain ⟨rfl, rfl⟩ := h
      refine (run_ok k A B C D xs A1 c1 s1 c2 w hr hc hv ci.1 ci.2.1 ci.2.2.1 ci.2.2.2 hs hc2).mono ?_
      rintro e w' ⟨gw, rfl, hM, hb⟩
      exact ⟨_, rfl, fun _ => ⟨gw, rfl, hM⟩, hb⟩
    · rw [if_neg ci] at h
      simp only [Option.some.injEq, Prod.mk.injEq] at h
      obtain ⟨rfl, rfl⟩ := h
      refine (run_bad2 k A B C D xs A1 c1 w hr hc hv ci).mono ?_
      rintro e w' ⟨rfl, hb⟩
      exact ⟨_, rfl, fun z => absurd z (by decide), hb⟩

end Go.Proofs.Ytgldplkbacfacaa.MFnPairs
