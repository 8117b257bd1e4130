/- Functions as Lean functions, with proofs. By a program of this session. -/
import Derived.Test.YtgldplkbacfacaaMFnEightsx0
import Derived.Test.YtgldplkbacfacaaMFnEightsx5
import Derived.Test.YtgldplkbacfacaaMFnEightsx6
import Derived.Test.YtgldplkbacfacaaMFnEightsx7
import Derived.Test.YtgldplkbacfacaaMFnEightsx8
namespace Go.Proofs.Ytgldplkbacfacaa.MFnEights
open Go.RowKit Go.Proofs.Ytgldplkbacfacaa.MOpen Go.Proofs.YtgldplkbacfacaaW.PrintWords Go.Proofs.YtgldplkbacfacaaW.PrintLast Go.Proofs.YtgldplkbacfacaaW.PrintMore
attribute [local go_sem] max2_int min2_int max_two min_two max_three min_three max_four min_four
set_option linter.unusedVariables false
set_option linter.unusedSimpArgs false
set_option maxHeartbeats 32000000
set_option maxRecDepth 100000

def implC (ov : Bool) (a b c : Int) : Option (Int × Bool) := (bits_Mul64.f (IntKind.u64.wrap (mx a (wrap64 (-a)))) (IntKind.u64.wrap (mx b (wrap64 (-b))))).bind fun bt => (if bt.1 = 0 then (if bt.2 > 2000000000000000 then (some (0, true)) else (if ov = true then (some (wrap64 ((wrap64 (a * b)) + c), true)) else ((impl_within.f (wrap64 ((wrap64 (a * b)) + c)) (-1000000000000000) 1000000000000000).bind fun t => (some (wrap64 ((wrap64 (a * b)) + c), !t))))) else (some (0, true)))
theorem impl_cell (g : Nat) (mv gv : Value) (ov : Bool) (a1 a2 a3 r1 : Int) (r2 : Bool) (w : World) (hb : w.heap[g]? = some (.cells #[mv, gv, .bool ov] 71 (0, 0))) (h : implC ov a1 a2 a3 = some (r1, r2)) :
    Calls Try.prog 69 #[.pointer (some ⟨g, 0, none⟩), .int .i64 a1, .int .i64 a2, .int .i64 a3] w fun e w' => e = .returned (.int .i64 r1) ∧ Up w w' g 2 (.bool r2) := by
  have hc : w.cell? ⟨g, 2, none⟩ = some (.bool ov) := (blk_cell hb 2).trans rfl
  have hf := blk_frozen hb 2
  clear hb
  unfold implC at h
  obtain ⟨ji5, hji5⟩ : ∃ j_ : Int, (mx a1 (wrap64 (-a1))) = j_ := ⟨_, rfl⟩
  have hji5_ : (if a1 < (wrap64 (-a1)) then (wrap64 (-a1)) else a1) = ji5 := hji5
  obtain ⟨ji6, hji6⟩ : ∃ j_ : Int, (mx a2 (wrap64 (-a2))) = j_ := ⟨_, rfl⟩
  have hji6_ : (if a2 < (wrap64 (-a2)) then (wrap64 (-a2)) else a2) = ji6 := hji6
  rw [hji5, hji6] at h
  obtain ⟨⟨t1, t2⟩, A0, H⟩ := Option.bind_eq_some_iff.mp h
  simp only at H
  have A := Aside0.mk A0
  clear A0 h
  by_cases c8 : t1 = 0
  · rw [if_pos c8] at H
    have c8b0 : (t1 == 0) = true := beq_iff_eq.mpr c8
    have c8b1 : (t1 != 0) = false := bne_eq_false_iff_eq.mpr c8
    clear c8
    by_cases c9 : t2 > 2000000000000000
    · rw [if_pos c9] at H
      have c9b0 : decide (2000000000000000 < t2) = true := decide_eq_true c9
      clear c9
      simp only [Option.some.injEq, Prod.mk.injEq] at H
      obtain ⟨rfl, rfl⟩ := H
      go_enter Try.func69, Try.ntmps69
      go_wp2_with (first | ((with_reducible refine gate_callee (f := 82) rfl ?_); refine goesL_ (some 23) rfl rfl Try.func82 (by kernel_rfl) rfl #[.int .u64 (IntKind.u64.wrap (ji5)), .int .u64 (IntKind.u64.wrap (ji6))] rfl (by (try simp only [List.map_toArray, List.map_cons, List.map_nil]); first | done | (simp only [hji5, hji6]; rfl) | rfl) ?_; (with_reducible refine (bits_Mul64.calls (IntKind.u64.wrap (ji5)) (IntKind.u64.wrap (ji6)) t1 t2 _ A.out).mono ?_); rintro e w' ⟨rfl, ⟨nd, rfl⟩⟩; refine ⟨_, rfl, ?_⟩))
      go_ret
      exact ⟨rfl, _, rfl⟩
    · rw [if_neg c9] at H
      have c9b0 : decide (2000000000000000 < t2) = false := decide_eq_false c9
      clear c9
      cases ov with
      | true =>
        rw [if_pos rfl] at H
        simp only [Option.some.injEq, Prod.mk.injEq] at H
        obtain ⟨rfl, rfl⟩ := H
        go_enter Try.func69, Try.ntmps69
        go_wp2_with (first | ((with_reducible refine gate_callee (f := 82) rfl ?_); refine goesL_ (some 23) rfl rfl Try.func82 (by kernel_rfl) rfl #[.int .u64 (IntKind.u64.wrap (ji5)), .int .u64 (IntKind.u64.wrap (ji6))] rfl (by (try simp only [List.map_toArray, List.map_cons, List.map_nil]); first | done | (simp only [hji5, hji6]; rfl) | rfl) ?_; (with_reducible refine (bits_Mul64.calls (IntKind.u64.wrap (ji5)) (IntKind.u64.wrap (ji6)) t1 t2 _ A.out).mono ?_); rintro e w' ⟨rfl, ⟨nd, rfl⟩⟩; refine ⟨_, rfl, ?_⟩))
        go_ret
        exact ⟨rfl, _, rfl⟩
      | false =>
        rw [if_neg (by decide)] at H
        obtain ⟨t3, A1, H⟩ := Option.bind_eq_some_iff.mp H
        have A2 := Aside0.mk A1
        clear A1
        simp only [Option.some.injEq, Prod.mk.injEq] at H
        obtain ⟨rfl, rfl⟩ := H
        go_enter Try.func69, Try.ntmps69
        go_wp2_with (first | ((with_reducible refine gate_callee (f := 82) rfl ?_); refine goesL_ (some 23) rfl rfl Try.func82 (by kernel_rfl) rfl #[.int .u64 (IntKind.u64.wrap (ji5)), .int .u64 (IntKind.u64.wrap (ji6))] rfl (by (try simp only [List.map_toArray, List.map_cons, List.map_nil]); first | done | (simp only [hji5, hji6]; rfl) | rfl) ?_; (with_reducible refine (bits_Mul64.calls (IntKind.u64.wrap (ji5)) (IntKind.u64.wrap (ji6)) t1 t2 _ A.out).mono ?_); rintro e w' ⟨rfl, ⟨nd, rfl⟩⟩; refine ⟨_, rfl, ?_⟩) | (go_at_call 60; (with_reducible refine (impl_within.calls _ _ _ t3 _ A2.out).mono ?_); rintro e w' ⟨rfl, ⟨nd, rfl⟩⟩))
        go_ret
        exact ⟨rfl, _, rfl⟩
  · rw [if_neg c8] at H
    have c8b0 : (t1 == 0) = false := beq_eq_false_iff_ne.mpr c8
    have c8b1 : (t1 != 0) = true := bne_iff_ne.mpr c8
    simp only [Option.some.injEq, Prod.mk.injEq] at H
    obtain ⟨rfl, rfl⟩ := H
    go_enter Try.func69, Try.ntmps69
    go_wp2_with (first | ((with_reducible refine gate_callee (f := 82) rfl ?_); refine goesL_ (some 23) rfl rfl Try.func82 (by kernel_rfl) rfl #[.int .u64 (IntKind.u64.wrap (ji5)), .int .u64 (IntKind.u64.wrap (ji6))] rfl (by (try simp only [List.map_toArray, List.map_cons, List.map_nil]); first | done | (simp only [hji5, hji6]; rfl) | rfl) ?_; (with_reducible refine (bits_Mul64.calls (IntKind.u64.wrap (ji5)) (IntKind.u64.wrap (ji6)) t1 t2 _ A.out).mono ?_); rintro e w' ⟨rfl, ⟨nd, rfl⟩⟩; refine ⟨_, rfl, ?_⟩))
    go_ret
    exact ⟨rfl, _, rfl⟩
theorem impl_take (b g : Nat) (ms : List S52) (gs : List Int) (f : Bool) (kd tm : Int) (w0 w : World) (hM : Mv 71 b w g ms gs f) (hB : Below b w0 w) (hbs : b ≤ w.heap.size) (hl : ms.length < 1000000) :
    Calls Try.prog 79 #[.pointer (some ⟨g, 0, none⟩), .int .i8 kd, .int .i64 tm] w fun e w' => e = .returned (.tuple #[]) ∧ Mv 71 b w' g (ms ++ [⟨kd, tm⟩]) gs f ∧ Below b w0 w' ∧ KeepT 71 w w' := by
  obtain ⟨mv, gv, h⟩ := Mw.start (by decide) hM hB hbs
  have X0 := Aside0.mk h
  clear h hM hB hbs
  have x0w := X0.out.x0
  go_enter Try.func79, Try.ntmps79
  go_wp2_with (first | ((with_reducible refine gate_builtin (b := .append) (xs := #[.tmp 10, .tmp 14]) rfl ?_); at_builtin; refine Kd.R_append k52 (w0 := w0) b rfl (.tmp 10) (.tmp 14) 33 52 (.agg #[(.int .i8 0), (.int .i64 0)]) 16 rfl Try.underlying33 info52_ rfl (by decide) (by omega) mv ms (⟨kd, tm⟩ : S52) [.int .i8 kd, .int .i64 tm] (fun _ => True) (fun _ => False) rfl rfl ?aP (fun _ hk => hk.elim) ?aF ?aO ?aB ?aS ?aL ?_; (case aP => exact k52_mkM _ _ _ (⟨kd, tm⟩ : S52)); (case aB => exact X0.out.bel); (case aF => exact (fun _ _ => trivial)); (case aO => exact X0.out.m); (case aS => exact X0.out.sz); (case aL => omega); intro v_ w1 ho hb1 hg1 hat; obtain ⟨Aw1, cw1, rfl⟩ := Kd.R_slice ho; have X1 := Aside0.mk (X0.out.appM ho hb1 hg1); clear ho hb1 hg1 hat X0; have x0w1 := X1.out.x0; have x1w1 := X1.out.x1; have x2w1 := X1.out.x2; have f0w1 := X1.out.fr 0; have f1w1 := X1.out.fr 1; have f2w1 := X1.out.fr 2) | ((with_reducible refine gate_store (t := 33) (p := 17) rfl ?_); refine store_event (t := 33) (p := 17) (v := ?vo_w2) (w1 := (w1.setCell ⟨g, 0, none⟩ (.slice Aw1 (ms.length + 1) cw1))) ?hg ?ho ?hn ?hr ?_; (case ho => rfl); (case hg => rfl); (case hn => rfl); (case hr => first | (go_simp; done) | (go_simp; rfl)); intro w2 hw; have X2 := Aside0.mk (X1.out.set0 hw); clear hw X1; have x0w2 := X2.out.x0; have x1w2 := X2.out.x1; have x2w2 := X2.out.x2; have f0w2 := X2.out.fr 0; have f1w2 := X2.out.fr 1; have f2w2 := X2.out.fr 2))
  go_end0
  exact ⟨rfl, X2.out.done' (by simp) (by simp) (by simp)⟩
theorem impl_give (b g : Nat) (ms : List S52) (gs : List Int) (f : Bool) (q : Int) (w0 w : World) (hM : Mv 71 b w g ms gs f) (hB : Below b w0 w) (hbs : b ≤ w.heap.size) (hl : ms.length < 1000000) (hl2 : gs.length < 1000000) :
    Calls Try.prog 68 #[.pointer (some ⟨g, 0, none⟩), .int .i64 q] w fun e w' => e = .returned (.tuple #[]) ∧ Mv 71 b w' g (ms ++ [⟨1, q⟩]) (gs ++ [q]) (f || decide (40 < (gs.length : Int) + 1)) ∧ Below b w0 w' ∧ KeepT 71 w w' := by
  obtain ⟨mv, gv, h⟩ := Mw.start (by decide) hM hB hbs
  obtain ⟨A2, c2, rfl⟩ := Kd.R_slice h.t
  have X0 := Aside0.mk h
  clear h hM hB hbs
  have x0w := X0.out.x0
  cases f with
  | true =>
    go_enter Try.func68, Try.ntmps68
    go_wp2_with (first | ((with_reducible refine gate_builtin (b := .append) (xs := #[.tmp 8, .tmp 11]) rfl ?_); at_builtin; refine Kd.R_append k52 (w0 := w0) b rfl (.tmp 8) (.tmp 11) 33 52 (.agg #[(.int .i8 0), (.int .i64 0)]) 16 rfl Try.underlying33 info52_ rfl (by decide) (by omega) mv ms (⟨1, q⟩ : S52) [.int .i8 1, .int .i64 q] (fun _ => True) (fun _ => False) rfl rfl ?aP (fun _ hk => hk.elim) ?aF ?aO ?aB ?aS ?aL ?_; (case aP => exact k52_mkM _ _ _ (⟨1, q⟩ : S52)); (case aB => exact X0.out.bel); (case aF => exact (fun _ _ => trivial)); (case aO => exact X0.out.m); (case aS => exact X0.out.sz); (case aL => omega); intro v_ w1 ho hb1 hg1 hat; obtain ⟨Aw1, cw1, rfl⟩ := Kd.R_slice ho; have X1 := Aside0.mk (X0.out.appM ho hb1 hg1); clear ho hb1 hg1 hat X0; have x0w1 := X1.out.x0; have x1w1 := X1.out.x1; have x2w1 := X1.out.x2; have f0w1 := X1.out.fr 0; have f1w1 := X1.out.fr 1; have f2w1 := X1.out.fr 2) | ((with_reducible refine gate_store (t := 33) (p := 14) rfl ?_); refine store_event (t := 33) (p := 14) (v := ?vo_w2) (w1 := (w1.setCell ⟨g, 0, none⟩ (.slice Aw1 (ms.length + 1) cw1))) ?hg ?ho ?hn ?hr ?_; (case ho => rfl); (case hg => rfl); (case hn => rfl); (case hr => first | (go_simp; done) | (go_simp; rfl)); intro w2 hw; have X2 := Aside0.mk (X1.out.set0 hw); clear hw X1; have x0w2 := X2.out.x0; have x1w2 := X2.out.x1; have x2w2 := X2.out.x2; have f0w2 := X2.out.fr 0; have f1w2 := X2.out.fr 1; have f2w2 := X2.out.fr 2) | ((with_reducible refine gate_builtin (b := .append) (xs := #[.tmp 19, .tmp 21]) rfl ?_); at_builtin; refine Kd.R_append (Kd.int .i64) (w0 := w0) b rfl (.tmp 19) (.tmp 21) 24 2 (.int .i64 0) 8 rfl Try.underlying24 info2 rfl (by decide) (by omega) (.slice A2 gs.length c2) gs q [.int .i64 q] (fun _ => True) (fun _ => False) rfl rfl ?aP (fun _ hk => hk.elim) ?aF ?aO ?aB ?aS ?aL ?_; (case aP => exact rfl); (case aB => exact X2.out.bel); (case aF => exact (fun _ _ => trivial)); (case aO => exact X2.out.t); (case aS => exact X2.out.sz); (case aL => omega); intro v_ w3 ho hb1 hg1 hat; obtain ⟨Aw3, cw3, rfl⟩ := Kd.R_slice ho; have X3 := Aside0.mk (X2.out.appT ho hb1 hg1); clear ho hb1 hg1 hat X2; have x0w3 := X3.out.x0; have x1w3 := X3.out.x1; have x2w3 := X3.out.x2; have f0w3 := X3.out.fr 0; have f1w3 := X3.out.fr 1; have f2w3 := X3.out.fr 2) | ((with_reducible refine gate_store (t := 24) (p := 24) rfl ?_); refine store_event (t := 24) (p := 24) (v := ?vo_w4) (w1 := (w3.setCell ⟨g, 1, none⟩ (.slice Aw3 (gs.length + 1) cw3))) ?hg ?ho ?hn ?hr ?_; (case ho => rfl); (case hg => rfl); (case hn => rfl); (case hr => first | (go_simp; done) | (go_simp; rfl)); intro w4 hw; have X4 := Aside0.mk (X3.out.set1 hw); clear hw X3; have x0w4 := X4.out.x0; have x1w4 := X4.out.x1; have x2w4 := X4.out.x2; have f0w4 := X4.out.fr 0; have f1w4 := X4.out.fr 1; have f2w4 := X4.out.fr 2) | ((with_reducible refine gate_store (t := 4) (p := 39) rfl ?_); refine store_event (t := 4) (p := 39) (v := ?vo_w5) (w1 := (w4.setCell ⟨g, 2, none⟩ (.bool true))) ?hg ?ho ?hn ?hr ?_; (case ho => rfl); (case hg => rfl); (case hn => rfl); (case hr => first | (go_simp; done) | (go_simp; rfl)); intro w5 hw; have X5 := Aside0.mk (X4.out.set2 hw); clear hw X4; have x0w5 := X5.out.x0; have x1w5 := X5.out.x1; have x2w5 := X5.out.x2; have f0w5 := X5.out.fr 0; have f1w5 := X5.out.fr 1; have f2w5 := X5.out.fr 2))
    go_end0
    exact ⟨rfl, X5.out.done' (by simp) (by simp) (by simp)⟩
  | false =>
    have hz : decide (40 < (gs.length : Int) + 1) = decide (40 < (gs.length : Int) + 1) := rfl
    go_enter Try.func68, Try.ntmps68
    go_wp2_with (first | ((with_reducible refine gate_builtin (b := .append) (xs := #[.tmp 8, .tmp 11]) rfl ?_); at_builtin; refine Kd.R_append k52 (w0 := w0) b rfl (.tmp 8) (.tmp 11) 33 52 (.agg #[(.int .i8 0), (.int .i64 0)]) 16 rfl Try.underlying33 info52_ rfl (by decide) (by omega) mv ms (⟨1, q⟩ : S52) [.int .i8 1, .int .i64 q] (fun _ => True) (fun _ => False) rfl rfl ?aP (fun _ hk => hk.elim) ?aF ?aO ?aB ?aS ?aL ?_; (case aP => exact k52_mkM _ _ _ (⟨1, q⟩ : S52)); (case aB => exact X0.out.bel); (case aF => exact (fun _ _ => trivial)); (case aO => exact X0.out.m); (case aS => exact X0.out.sz); (case aL => omega); intro v_ w1 ho hb1 hg1 hat; obtain ⟨Aw1, cw1, rfl⟩ := Kd.R_slice ho; have X1 := Aside0.mk (X0.out.appM ho hb1 hg1); clear ho hb1 hg1 hat X0; have x0w1 := X1.out.x0; have x1w1 := X1.out.x1; have x2w1 := X1.out.x2; have f0w1 := X1.out.fr 0; have f1w1 := X1.out.fr 1; have f2w1 := X1.out.fr 2) | ((with_reducible refine gate_store (t := 33) (p := 14) rfl ?_); refine store_event (t := 33) (p := 14) (v := ?vo_w2) (w1 := (w1.setCell ⟨g, 0, none⟩ (.slice Aw1 (ms.length + 1) cw1))) ?hg ?ho ?hn ?hr ?_; (case ho => rfl); (case hg => rfl); (case hn => rfl); (case hr => first | (go_simp; done) | (go_simp; rfl)); intro w2 hw; have X2 := Aside0.mk (X1.out.set0 hw); clear hw X1; have x0w2 := X2.out.x0; have x1w2 := X2.out.x1; have x2w2 := X2.out.x2; have f0w2 := X2.out.fr 0; have f1w2 := X2.out.fr 1; have f2w2 := X2.out.fr 2) | ((with_reducible refine gate_builtin (b := .append) (xs := #[.tmp 19, .tmp 21]) rfl ?_); at_builtin; refine Kd.R_append (Kd.int .i64) (w0 := w0) b rfl (.tmp 19) (.tmp 21) 24 2 (.int .i64 0) 8 rfl Try.underlying24 info2 rfl (by decide) (by omega) (.slice A2 gs.length c2) gs q [.int .i64 q] (fun _ => True) (fun _ => False) rfl rfl ?aP (fun _ hk => hk.elim) ?aF ?aO ?aB ?aS ?aL ?_; (case aP => exact rfl); (case aB => exact X2.out.bel); (case aF => exact (fun _ _ => trivial)); (case aO => exact X2.out.t); (case aS => exact X2.out.sz); (case aL => omega); intro v_ w3 ho hb1 hg1 hat; obtain ⟨Aw3, cw3, rfl⟩ := Kd.R_slice ho; have X3 := Aside0.mk (X2.out.appT ho hb1 hg1); clear ho hb1 hg1 hat X2; have x0w3 := X3.out.x0; have x1w3 := X3.out.x1; have x2w3 := X3.out.x2; have f0w3 := X3.out.fr 0; have f1w3 := X3.out.fr 1; have f2w3 := X3.out.fr 2) | ((with_reducible refine gate_store (t := 24) (p := 24) rfl ?_); refine store_event (t := 24) (p := 24) (v := ?vo_w4) (w1 := (w3.setCell ⟨g, 1, none⟩ (.slice Aw3 (gs.length + 1) cw3))) ?hg ?ho ?hn ?hr ?_; (case ho => rfl); (case hg => rfl); (case hn => rfl); (case hr => first | (go_simp; done) | (go_simp; rfl)); intro w4 hw; have X4 := Aside0.mk (X3.out.set1 hw); clear hw X3; have x0w4 := X4.out.x0; have x1w4 := X4.out.x1; have x2w4 := X4.out.x2; have f0w4 := X4.out.fr 0; have f1w4 := X4.out.fr 1; have f2w4 := X4.out.fr 2) | ((with_reducible refine gate_store (t := 4) (p := 39) rfl ?_); refine store_event (t := 4) (p := 39) (v := ?vo_w5) (w1 := (w4.setCell ⟨g, 2, none⟩ (.bool (decide (40 < (gs.length : Int) + 1))))) ?hg ?ho ?hn ?hr ?_; (case ho => rfl); (case hg => rfl); (case hn => rfl); (case hr => first | (go_simp; done) | (go_simp; rfl)); intro w5 hw; have X5 := Aside0.mk (X4.out.set2 hw); clear hw X4; have x0w5 := X5.out.x0; have x1w5 := X5.out.x1; have x2w5 := X5.out.x2; have f0w5 := X5.out.fr 0; have f1w5 := X5.out.fr 1; have f2w5 := X5.out.fr 2))
    go_end0
    exact ⟨rfl, X5.out.done' (by simp) (by simp) (by simp)⟩
def inP (x : Int) : Bool := decide (-1000000000 ≤ x ∧ x ≤ 1000000000)
theorem within_inP (x : Int) : impl_within.f x (-1000000000) 1000000000 = some (inP x) := by
  unfold impl_within.f inP
  split <;> simp <;> omega
section
variable {T b : Nat} {w0 w w1 : World} {gw g : Nat} {cs : Array Value} {U : Nat} {ms ms1 : List S52} {gs gs1 : List Int} {ok ok1 : Bool} {bl : List (Nat × Array Value × Nat)}
theorem HB8.cellI {o : Bool} {a1 a2 a3 r : Int} (h : HB8 71 b w0 w gw ms gs ok bl) (hc : implC ok a1 a2 a3 = some (r, o)) :
    Calls Try.prog 69 #[.pointer (some ⟨gw, 0, none⟩), .int .i64 a1, .int .i64 a2, .int .i64 a3] w fun e w' => e = .returned (.int .i64 r) ∧ HB8 71 b w0 w' gw ms gs o bl := by
  obtain ⟨mv, gv, h1, h2, h3, h4⟩ := h.n
  refine (impl_cell gw mv gv ok a1 a2 a3 r o w h1 hc).mono ?_
  rintro e w' ⟨rfl, hu⟩
  exact ⟨rfl, h.up hu⟩
end
theorem gives_four (k : Nat) (Aa Ab : Option Addr) (ca cb : Nat) (x0 x1 x2 x3 y0 y1 y2 y3 q : Int) (ok : Bool) (W : World) (h1 : Kd.C (Kd.int .i64) W Aa 4 [x0, x1, x2, x3]) (l1 : 4 ≤ ca) (h2 : Kd.C (Kd.int .i64) W Ab 4 [y0, y1, y2, y3]) (l2 : 4 ≤ cb) (h : impl_gives.f k [x0, x1, x2, x3] [y0, y1, y2, y3] = some (q, ok)) :
    Calls Try.prog 66 #[.slice Aa 4 ca, .slice Ab 4 cb] W fun e w' => e = .returned (.tuple #[.int .i64 q, .bool ok]) ∧ Drawn0 W w' := impl_gives.calls k Aa ca [x0, x1, x2, x3] Ab cb [y0, y1, y2, y3] q ok W h1 l1 h2 l2 h

theorem far2 {bl : List (Nat × Array Value × Nat)} {n : Nat} {c : Array Value} {U : Nat} (h : ∀ p ∈ bl, p.1 < n) : ∀ p ∈ ((n, c, U) :: bl), p.1 ≠ n + 1 := by
  intro p hp
  rcases List.mem_cons.1 hp with rfl | hp
  · exact Nat.ne_of_lt (Nat.lt_succ_self _)
  · exact Nat.ne_of_lt (Nat.lt_succ_of_lt (h p hp))
theorem HB8.start2 {T b : Nat} {w0 w : World} {gw : Nat} {ms : List S52} {gs : List Int} {ok : Bool} {bl : List (Nat × Array Value × Nat)} (h : HB8 T b w0 w gw ms gs ok bl) (hT : 38 ≠ T) (c1 c2 : Array Value) : HB8 T b w0 ((w.alloc (.cells c1 38)).alloc (.cells c2 38)) gw ms gs ok ((w.heap.size + 1, c2, 38) :: (w.heap.size, c1, 38) :: bl) := by
  have h1 := h.new (U := 38) ⟨by decide, by decide, hT⟩ c1
  have h2 := h1.new (U := 38) ⟨by decide, by decide, hT⟩ c2
  rwa [show (w.alloc (.cells c1 38)).heap.size = w.heap.size + 1 by simp] at h2
/-- What a source makes of four numbers. -/
def rowF (ov : Bool) (kd : Int) (xs : List Int) (tk t0 t1 t2 t3 : Int) : Option ((Int × Int × Int × Int) × Bool) :=
  if tk = (xs.length : Int) then (if kd = 2 then some ((t0, t1, t0, t1), ov) else some ((t0, t0, t2, t2), ov))
  else if kd = 2 then (implC ov t0 (rd xs tk) t2).bind fun c0 => (implC c0.2 t1 (rd xs tk) t3).bind fun c1 => some ((c0.1, c1.1, t0, t1), c1.2)
  else (implC ov t0 (rd xs tk) t1).bind fun c0 => (implC c0.2 t2 (rd xs tk) t3).bind fun c1 => some ((c0.1, t0, c1.1, t2), c1.2)
theorem impl_row (b gw gq : Nat) (ms : List S52) (gs : List Int) (ov o2 : Bool) (bl : List (Nat × Array Value × Nat)) (kd : Int) (xs : List Int) (A : Option Addr) (c : Nat) (tk t0 t1 t2 t3 r0 r1 r2 r3 : Int) (w0 w : World) (hX : HB8 71 b w0 w gw ms gs ov bl) (hm : (gq, #[.int .i8 kd, .slice A xs.length c, .int .i64 tk], 101) ∈ bl) (hr : Kd.C (Kd.int .i64) w A xs.length xs) (hk : kd = 2 ∨ kd = 3) (h0 : 0 ≤ tk) (h1 : tk ≤ (xs.length : Int)) (hf : rowF ov kd xs tk t0 t1 t2 t3 = some ((r0, r1, r2, r3), o2)) :
    Calls Try.prog 83 #[.pointer (some ⟨gq, 0, none⟩), .pointer (some ⟨gw, 0, none⟩), .agg #[.int .i64 t0, .int .i64 t1, .int .i64 t2, .int .i64 t3]] w fun e w' => e = .returned (.agg #[.int .i64 r0, .int .i64 r1, .int .i64 r2, .int .i64 r3]) ∧ HB8 71 b w0 w' gw ms gs o2 bl := by
  have X0 := Aside0.mk (hX.start2 (by decide) #[.int .i64 t0, .int .i64 t1, .int .i64 t2, .int .i64 t3] #[.int .i64 0, .int .i64 0, .int .i64 0, .int .i64 0])
  have HR := Aside0.mk hr
  have hu38 := Try.underlying38
  have hgq := X0.out.m _ (List.mem_cons_of_mem _ (List.mem_cons_of_mem _ hm))
  have HM := Aside0.mk hm
  have hX0 := hX
  clear hX hr hm
  go_enter Try.func83, Try.ntmps83
  go_wp2
  have FAR := Aside0.mk (show ∀ p ∈ bl, p.1 < w.heap.size from fun p hp => blk_lt (hX0.m p hp).1)
  have BW := Aside0.mk (below_alloc (below_alloc (Below.refl w.heap.size w) (.cells #[.int .i64 t0, .int .i64 t1, .int .i64 t2, .int .i64 t3] 38)) (.cells #[.int .i64 0, .int .i64 0, .int .i64 0, .int .i64 0] 38))
  clear hX0
  generalize hw1 : ((w.alloc (.cells #[.int .i64 t0, .int .i64 t1, .int .i64 t2, .int .i64 t3] 38)).alloc (.cells #[.int .i64 0, .int .i64 0, .int .i64 0, .int .i64 0] 38)) = w1 at *
  have hgq0 := X0.out.m _ (List.mem_cons_of_mem _ (List.mem_cons_of_mem _ HM.out))
  have sa0 := (blk_cell hgq0.1 0).trans (show _ = some (Value.int .i8 _) from rfl)
  have sb0 := (blk_cell hgq0.1 1).trans (show _ = some (Value.slice A xs.length c) from rfl)
  have sc0 := (blk_cell hgq0.1 2).trans (show _ = some (Value.int .i64 tk) from rfl)
  go_quiet (fail)
  have X2 := Aside0.mk (X0.out.below (pw_below_drewN (Below.refl _ _) nq))
  have BW2 := Aside0.mk (pw_below_drewN BW.out nq)
  generalize w1.drewN nq = w2 at X2 BW2 ⊢
  clear sa0 sb0 sc0 hgq0 hgq
  have hgq2 := X2.out.m _ (List.mem_cons_of_mem _ (List.mem_cons_of_mem _ HM.out))
  have sa2 := (blk_cell hgq2.1 0).trans (show _ = some (Value.int .i8 _) from rfl)
  have sb2 := (blk_cell hgq2.1 1).trans (show _ = some (Value.slice A xs.length c) from rfl)
  have sc2 := (blk_cell hgq2.1 2).trans (show _ = some (Value.int .i64 tk) from rfl)
  have d0w2 := (blk_cell X2.out.at0 0).trans (show _ = some (Value.int .i64 _) from rfl)
  have dz0w2 := blk_frozen X2.out.at0 0
  have d1w2 := (blk_cell X2.out.at0 1).trans (show _ = some (Value.int .i64 _) from rfl)
  have dz1w2 := blk_frozen X2.out.at0 1
  have d2w2 := (blk_cell X2.out.at0 2).trans (show _ = some (Value.int .i64 _) from rfl)
  have dz2w2 := blk_frozen X2.out.at0 2
  have d3w2 := (blk_cell X2.out.at0 3).trans (show _ = some (Value.int .i64 _) from rfl)
  have dz3w2 := blk_frozen X2.out.at0 3
  have e0w2 := (blk_cell X2.out.at1 0).trans (show _ = some (Value.int .i64 _) from rfl)
  have ez0w2 := blk_frozen X2.out.at1 0
  have e1w2 := (blk_cell X2.out.at1 1).trans (show _ = some (Value.int .i64 _) from rfl)
  have ez1w2 := blk_frozen X2.out.at1 1
  have e2w2 := (blk_cell X2.out.at1 2).trans (show _ = some (Value.int .i64 _) from rfl)
  have ez2w2 := blk_frozen X2.out.at1 2
  have e3w2 := (blk_cell X2.out.at1 3).trans (show _ = some (Value.int .i64 _) from rfl)
  have ez3w2 := blk_frozen X2.out.at1 3
  unfold rowF at hf
  by_cases ci : tk = (xs.length : Int)
  · rw [if_pos ci] at hf
    have f1 : (tk == (xs.length : Int)) = true := beq_iff_eq.mpr ci
    clear ci
    rcases hk with rfl | rfl
    · rw [if_pos rfl] at hf
      simp only [Option.some.injEq, Prod.mk.injEq] at hf
      obtain ⟨⟨rfl, rfl, rfl, rfl⟩, rfl⟩ := hf
      go_wp2_with (first | ((with_reducible refine gate_store (t := 38) (p := 6) rfl ?_); refine store_event (t := 38) (p := 6) (v := ?vo_w4_1) (w1 := (World.setCell (World.setCell (World.setCell (World.setCell w2 ⟨(w.heap.size + 1), 0, none⟩ (.int .i64 t0)) ⟨(w.heap.size + 1), 1, none⟩ (.int .i64 t1)) ⟨(w.heap.size + 1), 2, none⟩ (.int .i64 t0)) ⟨(w.heap.size + 1), 3, none⟩ (.int .i64 t1))) ?hg ?ho ?hn ?hr ?_; (case ho => rfl); (case hg => rfl); (case hn => rfl); (case hr => first | (go_simp; done) | (go_simp; rfl)); intro w4 hw; have X4 := Aside0.mk (X2.out.put4_0 (far2 FAR.out) hw); clear hw))
      refine bodyPost_ret (results_cell_row rfl _ _ (w.heap.size + 1) 38 #[.int .i64 t0, .int .i64 t1, .int .i64 t0, .int .i64 t1] (0, 0) _ rfl X4.out.at0 Try.underlying38 rfl (by kernel_rfl)) rfl ?_
      exact ⟨rfl, X4.out.drop.drop⟩
    · rw [if_neg (by decide)] at hf
      simp only [Option.some.injEq, Prod.mk.injEq] at hf
      obtain ⟨⟨rfl, rfl, rfl, rfl⟩, rfl⟩ := hf
      go_wp2_with (first | ((with_reducible refine gate_store (t := 38) (p := 6) rfl ?_); refine store_event (t := 38) (p := 6) (v := ?vo_w4_2) (w1 := (World.setCell (World.setCell (World.setCell (World.setCell w2 ⟨(w.heap.size + 1), 0, none⟩ (.int .i64 t0)) ⟨(w.heap.size + 1), 1, none⟩ (.int .i64 t0)) ⟨(w.heap.size + 1), 2, none⟩ (.int .i64 t2)) ⟨(w.heap.size + 1), 3, none⟩ (.int .i64 t2))) ?hg ?ho ?hn ?hr ?_; (case ho => rfl); (case hg => rfl); (case hn => rfl); (case hr => first | (go_simp; done) | (go_simp; rfl)); intro w4 hw; have X4 := Aside0.mk (X2.out.put4_0 (far2 FAR.out) hw); clear hw))
      refine bodyPost_ret (results_cell_row rfl _ _ (w.heap.size + 1) 38 #[.int .i64 t0, .int .i64 t0, .int .i64 t2, .int .i64 t2] (0, 0) _ rfl X4.out.at0 Try.underlying38 rfl (by kernel_rfl)) rfl ?_
      exact ⟨rfl, X4.out.drop.drop⟩
  · rw [if_neg ci] at hf
    have f1 : (tk == (xs.length : Int)) = false := beq_eq_false_iff_ne.mpr ci
    obtain ⟨ad, e0_, hx0⟩ := Kd.at_int HR.out tk (by omega) (by omega)
    cases e0_
    have hxi := (BW2.out.cell (World.block_lt_of_cell? w _ hx0)).trans hx0
    have p0 := eq_true h0
    have p1 := eq_true (show tk < (xs.length : Int) by omega)
    clear hx0
    go_wp2
    go_quiet (fail)
    have X3 := Aside0.mk (X2.out.below (pw_below_drewN (Below.refl _ _) nq))
    generalize w2.drewN nq = w3 at X3 ⊢
    clear sa2 sb2 sc2 hgq2 hxi p0 p1 d0w2 d1w2 d2w2 d3w2 e0w2 e1w2 e2w2 e3w2 dz0w2 dz1w2 dz2w2 dz3w2 ez0w2 ez1w2 ez2w2 ez3w2
    have hgq3 := X3.out.m _ (List.mem_cons_of_mem _ (List.mem_cons_of_mem _ HM.out))
    have sa3 := (blk_cell hgq3.1 0).trans (show _ = some (Value.int .i8 _) from rfl)
    have sb3 := (blk_cell hgq3.1 1).trans (show _ = some (Value.slice (some ad) xs.length c) from rfl)
    have sc3 := (blk_cell hgq3.1 2).trans (show _ = some (Value.int .i64 tk) from rfl)
    have d0w3 := (blk_cell X3.out.at0 0).trans (show _ = some (Value.int .i64 _) from rfl)
    have dz0w3 := blk_frozen X3.out.at0 0
    have d1w3 := (blk_cell X3.out.at0 1).trans (show _ = some (Value.int .i64 _) from rfl)
    have dz1w3 := blk_frozen X3.out.at0 1
    have d2w3 := (blk_cell X3.out.at0 2).trans (show _ = some (Value.int .i64 _) from rfl)
    have dz2w3 := blk_frozen X3.out.at0 2
    have d3w3 := (blk_cell X3.out.at0 3).trans (show _ = some (Value.int .i64 _) from rfl)
    have dz3w3 := blk_frozen X3.out.at0 3
    have e0w3 := (blk_cell X3.out.at1 0).trans (show _ = some (Value.int .i64 _) from rfl)
    have ez0w3 := blk_frozen X3.out.at1 0
    have e1w3 := (blk_cell X3.out.at1 1).trans (show _ = some (Value.int .i64 _) from rfl)
    have ez1w3 := blk_frozen X3.out.at1 1
    have e2w3 := (blk_cell X3.out.at1 2).trans (show _ = some (Value.int .i64 _) from rfl)
    have ez2w3 := blk_frozen X3.out.at1 2
    have e3w3 := (blk_cell X3.out.at1 3).trans (show _ = some (Value.int .i64 _) from rfl)
    have ez3w3 := blk_frozen X3.out.at1 3
    rcases hk with rfl | rfl
    · rw [if_pos rfl] at hf
      obtain ⟨⟨x, o1⟩, e1, hf⟩ := Option.bind_eq_some_iff.mp hf
      obtain ⟨⟨y, o2'⟩, e2, hf⟩ := Option.bind_eq_some_iff.mp hf
      simp only [Option.some.injEq, Prod.mk.injEq] at hf
      obtain ⟨⟨rfl, rfl, rfl, rfl⟩, rfl⟩ := hf
      have H1 := Aside0.mk e1
      have H2 := Aside0.mk e2
      clear e1 e2
      go_wp2
      have XD := Aside0.mk X3.out.drew
      refine start_ (n := 20) (S := fun w' => w'.cell? ⟨w.heap.size, 0, none⟩ = some (.int .i64 t0) ∧ w'.cell? ⟨w.heap.size, 1, none⟩ = some (.int .i64 t1) ∧ w'.cell? ⟨w.heap.size, 2, none⟩ = some (.int .i64 t2) ∧ w'.cell? ⟨w.heap.size, 3, none⟩ = some (.int .i64 t3)) (ds := [19]) #[false, false, false, false, false, false, false, false, false, false, false, false, false, false, false, false, false, false, false, false] (by kernel_rfl) rfl rfl ⟨(blk_cell XD.out.at1 0).trans rfl, (blk_cell XD.out.at1 1).trans rfl, (blk_cell XD.out.at1 2).trans rfl, (blk_cell XD.out.at1 3).trans rfl⟩ (fun hHeld => ?_)
      refine pure_ (i := 0) (N := some 55) (v := ?_) (a' := ?_) #[true, false, false, false, false, false, false, false, false, false, false, false, false, false, false, false, false, false, false, false] rfl rfl (by kernel_rfl) (fun _ _ _ h => h) (Or.inl ⟨by rfl, ?_⟩) ?_ ?_
      rotate_left
      · intro w'
        go_simp
        with_reducible rfl
      rotate_left
      · simp only [Act.put, sa_, sz_, ss_, i64_w, i32_w]
        rfl
      refine pure_ (i := 1) (N := some 56) (v := ?_) (a' := ?_) #[true, true, false, false, false, false, false, false, false, false, false, false, false, false, false, false, false, false, false, false] rfl rfl (by kernel_rfl) (fun _ _ _ h => h) (Or.inl ⟨by rfl, ?_⟩) ?_ ?_
      rotate_left
      · intro w'
        go_simp
        with_reducible rfl
      rotate_left
      · simp only [Act.put, sa_, sz_, ss_, i64_w, i32_w]
        rfl
      refine pure_ (i := 3) (N := some 58) (v := ?_) (a' := ?_) #[true, true, false, true, false, false, false, false, false, false, false, false, false, false, false, false, false, false, false, false] rfl rfl (by kernel_rfl) (fun _ _ _ h => h) (Or.inl ⟨by rfl, ?_⟩) ?_ ?_
      rotate_left
      · intro w'
        go_simp
        with_reducible rfl
      rotate_left
      · simp only [Act.put, sa_, sz_, ss_, i64_w, i32_w]
        rfl
      refine pure_ (i := 4) (N := some 59) (v := ?_) (a' := ?_) #[true, true, false, true, true, false, false, false, false, false, false, false, false, false, false, false, false, false, false, false] rfl rfl (by kernel_rfl) (fun _ _ _ h => h) (Or.inl ⟨by rfl, ?_⟩) ?_ ?_
      rotate_left
      · intro w'
        go_simp
        with_reducible rfl
      rotate_left
      · simp only [Act.put, sa_, sz_, ss_, i64_w, i32_w]
        rfl
      refine pure_ (i := 7) (N := some 62) (v := ?_) (a' := ?_) #[true, true, false, true, true, false, false, true, false, false, false, false, false, false, false, false, false, false, false, false] rfl rfl (by kernel_rfl) (fun _ _ _ h => h) (Or.inl ⟨by rfl, ?_⟩) ?_ ?_
      rotate_left
      · intro w'
        go_simp
        with_reducible rfl
      rotate_left
      · simp only [Act.put, sa_, sz_, ss_, i64_w, i32_w]
        rfl
      refine pure_ (i := 8) (N := some 63) (v := ?_) (a' := ?_) #[true, true, false, true, true, false, false, true, true, false, false, false, false, false, false, false, false, false, false, false] rfl rfl (by kernel_rfl) (fun _ _ _ h => h) (Or.inl ⟨by rfl, ?_⟩) ?_ ?_
      rotate_left
      · intro w'
        go_simp
        with_reducible rfl
      rotate_left
      · simp only [Act.put, sa_, sz_, ss_, i64_w, i32_w]
        rfl
      refine pure_ (i := 10) (N := some 65) (v := ?_) (a' := ?_) #[true, true, false, true, true, false, false, true, true, false, true, false, false, false, false, false, false, false, false, false] rfl rfl (by kernel_rfl) (fun _ _ _ h => h) (Or.inl ⟨by rfl, ?_⟩) ?_ ?_
      rotate_left
      · intro w'
        go_simp
        with_reducible rfl
      rotate_left
      · simp only [Act.put, sa_, sz_, ss_, i64_w, i32_w]
        rfl
      refine pure_ (i := 11) (N := some 66) (v := ?_) (a' := ?_) #[true, true, false, true, true, false, false, true, true, false, true, true, false, false, false, false, false, false, false, false] rfl rfl (by kernel_rfl) (fun _ _ _ h => h) (Or.inl ⟨by rfl, ?_⟩) ?_ ?_
      rotate_left
      · intro w'
        go_simp
        with_reducible rfl
      rotate_left
      · simp only [Act.put, sa_, sz_, ss_, i64_w, i32_w]
        rfl
      refine pure_ (i := 14) (N := some 69) (v := ?_) (a' := ?_) #[true, true, false, true, true, false, false, true, true, false, true, true, false, false, true, false, false, false, false, false] rfl rfl (by kernel_rfl) (fun _ _ _ h => h) (Or.inl ⟨by rfl, ?_⟩) ?_ ?_
      rotate_left
      · intro w'
        go_simp
        with_reducible rfl
      rotate_left
      · simp only [Act.put, sa_, sz_, ss_, i64_w, i32_w]
        rfl
      refine pure_ (i := 16) (N := some 71) (v := ?_) (a' := ?_) #[true, true, false, true, true, false, false, true, true, false, true, true, false, false, true, false, true, false, false, false] rfl rfl (by kernel_rfl) (fun _ _ _ h => h) (Or.inl ⟨by rfl, ?_⟩) ?_ ?_
      rotate_left
      · intro w'
        go_simp
        with_reducible rfl
      rotate_left
      · simp only [Act.put, sa_, sz_, ss_, i64_w, i32_w]
        rfl
      refine take_ (i := 2) (N := some 57) (v := ?_) (a' := ?_) #[true, true, true, true, true, false, false, true, true, false, true, true, false, false, true, false, true, false, false, false] rfl rfl (by kernel_rfl) (fun _ _ _ h => h) (Or.inl ⟨by rfl, ?_⟩) hHeld ?_ ?_
      rotate_left
      · rintro w' ⟨s0, s1, s2, s3⟩
        go_simp
        with_reducible rfl
      rotate_left
      · simp only [Act.put, sa_, sz_, ss_, i64_w, i32_w]
        rfl
      refine take_ (i := 5) (N := some 60) (v := ?_) (a' := ?_) #[true, true, true, true, true, true, false, true, true, false, true, true, false, false, true, false, true, false, false, false] rfl rfl (by kernel_rfl) (fun _ _ _ h => h) (Or.inl ⟨by rfl, ?_⟩) hHeld ?_ ?_
      rotate_left
      · rintro w' ⟨s0, s1, s2, s3⟩
        go_simp
        with_reducible rfl
      rotate_left
      · simp only [Act.put, sa_, sz_, ss_, i64_w, i32_w]
        rfl
      refine take_ (i := 9) (N := some 64) (v := ?_) (a' := ?_) #[true, true, true, true, true, true, false, true, true, true, true, true, false, false, true, false, true, false, false, false] rfl rfl (by kernel_rfl) (fun _ _ _ h => h) (Or.inl ⟨by rfl, ?_⟩) hHeld ?_ ?_
      rotate_left
      · rintro w' ⟨s0, s1, s2, s3⟩
        go_simp
        with_reducible rfl
      rotate_left
      · simp only [Act.put, sa_, sz_, ss_, i64_w, i32_w]
        rfl
      refine take_ (i := 12) (N := some 67) (v := ?_) (a' := ?_) #[true, true, true, true, true, true, false, true, true, true, true, true, true, false, true, false, true, false, false, false] rfl rfl (by kernel_rfl) (fun _ _ _ h => h) (Or.inl ⟨by rfl, ?_⟩) hHeld ?_ ?_
      rotate_left
      · rintro w' ⟨s0, s1, s2, s3⟩
        go_simp
        with_reducible rfl
      rotate_left
      · simp only [Act.put, sa_, sz_, ss_, i64_w, i32_w]
        rfl
      refine take_ (i := 15) (N := some 70) (v := ?_) (a' := ?_) #[true, true, true, true, true, true, false, true, true, true, true, true, true, false, true, true, true, false, false, false] rfl rfl (by kernel_rfl) (fun _ _ _ h => h) (Or.inl ⟨by rfl, ?_⟩) hHeld ?_ ?_
      rotate_left
      · rintro w' ⟨s0, s1, s2, s3⟩
        go_simp
        with_reducible rfl
      rotate_left
      · simp only [Act.put, sa_, sz_, ss_, i64_w, i32_w]
        rfl
      refine take_ (i := 17) (N := some 72) (v := ?_) (a' := ?_) #[true, true, true, true, true, true, false, true, true, true, true, true, true, false, true, true, true, true, false, false] rfl rfl (by kernel_rfl) (fun _ _ _ h => h) (Or.inl ⟨by rfl, ?_⟩) hHeld ?_ ?_
      rotate_left
      · rintro w' ⟨s0, s1, s2, s3⟩
        go_simp
        with_reducible rfl
      rotate_left
      · simp only [Act.put, sa_, sz_, ss_, i64_w, i32_w]
        rfl
      refine one_ (i := 6) (N := some 61) #[true, true, true, true, true, true, true, true, true, true, true, true, true, false, true, true, true, true, false, false] rfl rfl (by kernel_rfl) (by decide) (fun K hK => ?_)
      refine goes_ Try.func69 (by kernel_rfl) rfl #[.pointer (some ⟨gw, 0, none⟩), .int .i64 t0, .int .i64 (rd xs tk), .int .i64 t2] (by rfl) rfl rfl (by simp only [List.map_toArray, List.map_cons, List.map_nil]; rfl) ?_
      with_reducible refine (HB8.cellI XD.out H1.out).mono ?_
      rintro e w4 ⟨rfl, hX⟩
      refine ⟨_, rfl, ?_⟩
      have X4 := Aside0.mk hX
      clear hX
      refine hK.out _ _ ⟨(blk_cell X4.out.at1 0).trans rfl, (blk_cell X4.out.at1 1).trans rfl, (blk_cell X4.out.at1 2).trans rfl, (blk_cell X4.out.at1 3).trans rfl⟩ (fun hHeld => ?_)
      clear hK K
      refine norm_ (a' := ?_) ?_ ?_
      rotate_left
      · show Act.put _ (some 61) _ = _
        simp only [Act.put, sa_, sz_, ss_, i64_w, i32_w]
        rfl
      refine one_ (i := 13) (N := some 68) #[true, true, true, true, true, true, true, true, true, true, true, true, true, true, true, true, true, true, false, false] rfl rfl (by kernel_rfl) (by decide) (fun K hK => ?_)
      refine goes_ Try.func69 (by kernel_rfl) rfl #[.pointer (some ⟨gw, 0, none⟩), .int .i64 t1, .int .i64 (rd xs tk), .int .i64 t3] (by rfl) rfl rfl (by simp only [List.map_toArray, List.map_cons, List.map_nil]; rfl) ?_
      with_reducible refine (HB8.cellI X4.out H2.out).mono ?_
      rintro e w5 ⟨rfl, hX⟩
      refine ⟨_, rfl, ?_⟩
      have X5 := Aside0.mk hX
      clear hX
      refine hK.out _ _ ⟨(blk_cell X5.out.at1 0).trans rfl, (blk_cell X5.out.at1 1).trans rfl, (blk_cell X5.out.at1 2).trans rfl, (blk_cell X5.out.at1 3).trans rfl⟩ (fun hHeld => ?_)
      clear hK K
      refine norm_ (a' := ?_) ?_ ?_
      rotate_left
      · show Act.put _ (some 68) _ = _
        simp only [Act.put, sa_, sz_, ss_, i64_w, i32_w]
        rfl
      refine pure_ (i := 18) (N := some 73) (v := ?_) (a' := ?_) #[true, true, true, true, true, true, true, true, true, true, true, true, true, true, true, true, true, true, true, false] rfl rfl (by kernel_rfl) (fun _ _ _ h => h) (Or.inl ⟨by rfl, ?_⟩) ?_ ?_
      rotate_left
      · intro w'
        go_simp
        with_reducible rfl
      rotate_left
      · simp only [Act.put, sa_, sz_, ss_, i64_w, i32_w]
        rfl
      refine last_store_ (i := 19) (w1 := (World.setCell (World.setCell (World.setCell (World.setCell w5 ⟨(w.heap.size + 1), 0, none⟩ (.int .i64 x)) ⟨(w.heap.size + 1), 1, none⟩ (.int .i64 y)) ⟨(w.heap.size + 1), 2, none⟩ (.int .i64 t0)) ⟨(w.heap.size + 1), 3, none⟩ (.int .i64 t1))) #[true, true, true, true, true, true, true, true, true, true, true, true, true, true, true, true, true, true, true, true] rfl rfl (by kernel_rfl) (by decide) (by rfl) (run_put4_ rfl (show _ = Value.pointer (some ⟨(w.heap.size + 1), 0, none⟩) from by rfl) (show _ = Value.agg #[.int .i64 x, .int .i64 y, .int .i64 t0, .int .i64 t1] from by rfl) X5.out.at0 (by kernel_rfl) (by rfl)) ?_
      refine done_ (by kernel_rfl) ?_
      generalize hw6 : (World.setCell (World.setCell (World.setCell (World.setCell w5 ⟨(w.heap.size + 1), 0, none⟩ (.int .i64 x)) ⟨(w.heap.size + 1), 1, none⟩ (.int .i64 y)) ⟨(w.heap.size + 1), 2, none⟩ (.int .i64 t0)) ⟨(w.heap.size + 1), 3, none⟩ (.int .i64 t1)) = w6
      have X6 := Aside0.mk (X5.out.put4_0 (far2 FAR.out) hw6.symm)
      clear hw6
      go_wp2
      refine bodyPost_ret (results_cell_row rfl _ _ (w.heap.size + 1) 38 #[.int .i64 x, .int .i64 y, .int .i64 t0, .int .i64 t1] (0, 0) _ rfl X6.out.at0 Try.underlying38 rfl (by kernel_rfl)) rfl ?_
      exact ⟨rfl, X6.out.drop.drop⟩
    · rw [if_neg (by decide)] at hf
      obtain ⟨⟨x, o1⟩, e1, hf⟩ := Option.bind_eq_some_iff.mp hf
      obtain ⟨⟨y, o2'⟩, e2, hf⟩ := Option.bind_eq_some_iff.mp hf
      simp only [Option.some.injEq, Prod.mk.injEq] at hf
      obtain ⟨⟨rfl, rfl, rfl, rfl⟩, rfl⟩ := hf
      have H1 := Aside0.mk e1
      have H2 := Aside0.mk e2
      clear e1 e2
      go_wp2
      have XD := Aside0.mk X3.out.drew
      refine start_ (n := 20) (S := fun w' => w'.cell? ⟨w.heap.size, 0, none⟩ = some (.int .i64 t0) ∧ w'.cell? ⟨w.heap.size, 1, none⟩ = some (.int .i64 t1) ∧ w'.cell? ⟨w.heap.size, 2, none⟩ = some (.int .i64 t2) ∧ w'.cell? ⟨w.heap.size, 3, none⟩ = some (.int .i64 t3)) (ds := [19]) #[false, false, false, false, false, false, false, false, false, false, false, false, false, false, false, false, false, false, false, false] (by kernel_rfl) rfl rfl ⟨(blk_cell XD.out.at1 0).trans rfl, (blk_cell XD.out.at1 1).trans rfl, (blk_cell XD.out.at1 2).trans rfl, (blk_cell XD.out.at1 3).trans rfl⟩ (fun hHeld => ?_)
      refine pure_ (i := 0) (N := some 85) (v := ?_) (a' := ?_) #[true, false, false, false, false, false, false, false, false, false, false, false, false, false, false, false, false, false, false, false] rfl rfl (by kernel_rfl) (fun _ _ _ h => h) (Or.inl ⟨by rfl, ?_⟩) ?_ ?_
      rotate_left
      · intro w'
        go_simp
        with_reducible rfl
      rotate_left
      · simp only [Act.put, sa_, sz_, ss_, i64_w, i32_w]
        rfl
      refine pure_ (i := 1) (N := some 86) (v := ?_) (a' := ?_) #[true, true, false, false, false, false, false, false, false, false, false, false, false, false, false, false, false, false, false, false] rfl rfl (by kernel_rfl) (fun _ _ _ h => h) (Or.inl ⟨by rfl, ?_⟩) ?_ ?_
      rotate_left
      · intro w'
        go_simp
        with_reducible rfl
      rotate_left
      · simp only [Act.put, sa_, sz_, ss_, i64_w, i32_w]
        rfl
      refine pure_ (i := 3) (N := some 88) (v := ?_) (a' := ?_) #[true, true, false, true, false, false, false, false, false, false, false, false, false, false, false, false, false, false, false, false] rfl rfl (by kernel_rfl) (fun _ _ _ h => h) (Or.inl ⟨by rfl, ?_⟩) ?_ ?_
      rotate_left
      · intro w'
        go_simp
        with_reducible rfl
      rotate_left
      · simp only [Act.put, sa_, sz_, ss_, i64_w, i32_w]
        rfl
      refine pure_ (i := 4) (N := some 89) (v := ?_) (a' := ?_) #[true, true, false, true, true, false, false, false, false, false, false, false, false, false, false, false, false, false, false, false] rfl rfl (by kernel_rfl) (fun _ _ _ h => h) (Or.inl ⟨by rfl, ?_⟩) ?_ ?_
      rotate_left
      · intro w'
        go_simp
        with_reducible rfl
      rotate_left
      · simp only [Act.put, sa_, sz_, ss_, i64_w, i32_w]
        rfl
      refine pure_ (i := 7) (N := some 92) (v := ?_) (a' := ?_) #[true, true, false, true, true, false, false, true, false, false, false, false, false, false, false, false, false, false, false, false] rfl rfl (by kernel_rfl) (fun _ _ _ h => h) (Or.inl ⟨by rfl, ?_⟩) ?_ ?_
      rotate_left
      · intro w'
        go_simp
        with_reducible rfl
      rotate_left
      · simp only [Act.put, sa_, sz_, ss_, i64_w, i32_w]
        rfl
      refine pure_ (i := 9) (N := some 94) (v := ?_) (a' := ?_) #[true, true, false, true, true, false, false, true, false, true, false, false, false, false, false, false, false, false, false, false] rfl rfl (by kernel_rfl) (fun _ _ _ h => h) (Or.inl ⟨by rfl, ?_⟩) ?_ ?_
      rotate_left
      · intro w'
        go_simp
        with_reducible rfl
      rotate_left
      · simp only [Act.put, sa_, sz_, ss_, i64_w, i32_w]
        rfl
      refine pure_ (i := 10) (N := some 95) (v := ?_) (a' := ?_) #[true, true, false, true, true, false, false, true, false, true, true, false, false, false, false, false, false, false, false, false] rfl rfl (by kernel_rfl) (fun _ _ _ h => h) (Or.inl ⟨by rfl, ?_⟩) ?_ ?_
      rotate_left
      · intro w'
        go_simp
        with_reducible rfl
      rotate_left
      · simp only [Act.put, sa_, sz_, ss_, i64_w, i32_w]
        rfl
      refine pure_ (i := 12) (N := some 97) (v := ?_) (a' := ?_) #[true, true, false, true, true, false, false, true, false, true, true, false, true, false, false, false, false, false, false, false] rfl rfl (by kernel_rfl) (fun _ _ _ h => h) (Or.inl ⟨by rfl, ?_⟩) ?_ ?_
      rotate_left
      · intro w'
        go_simp
        with_reducible rfl
      rotate_left
      · simp only [Act.put, sa_, sz_, ss_, i64_w, i32_w]
        rfl
      refine pure_ (i := 13) (N := some 98) (v := ?_) (a' := ?_) #[true, true, false, true, true, false, false, true, false, true, true, false, true, true, false, false, false, false, false, false] rfl rfl (by kernel_rfl) (fun _ _ _ h => h) (Or.inl ⟨by rfl, ?_⟩) ?_ ?_
      rotate_left
      · intro w'
        go_simp
        with_reducible rfl
      rotate_left
      · simp only [Act.put, sa_, sz_, ss_, i64_w, i32_w]
        rfl
      refine pure_ (i := 16) (N := some 101) (v := ?_) (a' := ?_) #[true, true, false, true, true, false, false, true, false, true, true, false, true, true, false, false, true, false, false, false] rfl rfl (by kernel_rfl) (fun _ _ _ h => h) (Or.inl ⟨by rfl, ?_⟩) ?_ ?_
      rotate_left
      · intro w'
        go_simp
        with_reducible rfl
      rotate_left
      · simp only [Act.put, sa_, sz_, ss_, i64_w, i32_w]
        rfl
      refine take_ (i := 2) (N := some 87) (v := ?_) (a' := ?_) #[true, true, true, true, true, false, false, true, false, true, true, false, true, true, false, false, true, false, false, false] rfl rfl (by kernel_rfl) (fun _ _ _ h => h) (Or.inl ⟨by rfl, ?_⟩) hHeld ?_ ?_
      rotate_left
      · rintro w' ⟨s0, s1, s2, s3⟩
        go_simp
        with_reducible rfl
      rotate_left
      · simp only [Act.put, sa_, sz_, ss_, i64_w, i32_w]
        rfl
      refine take_ (i := 5) (N := some 90) (v := ?_) (a' := ?_) #[true, true, true, true, true, true, false, true, false, true, true, false, true, true, false, false, true, false, false, false] rfl rfl (by kernel_rfl) (fun _ _ _ h => h) (Or.inl ⟨by rfl, ?_⟩) hHeld ?_ ?_
      rotate_left
      · rintro w' ⟨s0, s1, s2, s3⟩
        go_simp
        with_reducible rfl
      rotate_left
      · simp only [Act.put, sa_, sz_, ss_, i64_w, i32_w]
        rfl
      refine take_ (i := 8) (N := some 93) (v := ?_) (a' := ?_) #[true, true, true, true, true, true, false, true, true, true, true, false, true, true, false, false, true, false, false, false] rfl rfl (by kernel_rfl) (fun _ _ _ h => h) (Or.inl ⟨by rfl, ?_⟩) hHeld ?_ ?_
      rotate_left
      · rintro w' ⟨s0, s1, s2, s3⟩
        go_simp
        with_reducible rfl
      rotate_left
      · simp only [Act.put, sa_, sz_, ss_, i64_w, i32_w]
        rfl
      refine take_ (i := 11) (N := some 96) (v := ?_) (a' := ?_) #[true, true, true, true, true, true, false, true, true, true, true, true, true, true, false, false, true, false, false, false] rfl rfl (by kernel_rfl) (fun _ _ _ h => h) (Or.inl ⟨by rfl, ?_⟩) hHeld ?_ ?_
      rotate_left
      · rintro w' ⟨s0, s1, s2, s3⟩
        go_simp
        with_reducible rfl
      rotate_left
      · simp only [Act.put, sa_, sz_, ss_, i64_w, i32_w]
        rfl
      refine take_ (i := 14) (N := some 99) (v := ?_) (a' := ?_) #[true, true, true, true, true, true, false, true, true, true, true, true, true, true, true, false, true, false, false, false] rfl rfl (by kernel_rfl) (fun _ _ _ h => h) (Or.inl ⟨by rfl, ?_⟩) hHeld ?_ ?_
      rotate_left
      · rintro w' ⟨s0, s1, s2, s3⟩
        go_simp
        with_reducible rfl
      rotate_left
      · simp only [Act.put, sa_, sz_, ss_, i64_w, i32_w]
        rfl
      refine take_ (i := 17) (N := some 102) (v := ?_) (a' := ?_) #[true, true, true, true, true, true, false, true, true, true, true, true, true, true, true, false, true, true, false, false] rfl rfl (by kernel_rfl) (fun _ _ _ h => h) (Or.inl ⟨by rfl, ?_⟩) hHeld ?_ ?_
      rotate_left
      · rintro w' ⟨s0, s1, s2, s3⟩
        go_simp
        with_reducible rfl
      rotate_left
      · simp only [Act.put, sa_, sz_, ss_, i64_w, i32_w]
        rfl
      refine one_ (i := 6) (N := some 91) #[true, true, true, true, true, true, true, true, true, true, true, true, true, true, true, false, true, true, false, false] rfl rfl (by kernel_rfl) (by decide) (fun K hK => ?_)
      refine goes_ Try.func69 (by kernel_rfl) rfl #[.pointer (some ⟨gw, 0, none⟩), .int .i64 t0, .int .i64 (rd xs tk), .int .i64 t1] (by rfl) rfl rfl (by simp only [List.map_toArray, List.map_cons, List.map_nil]; rfl) ?_
      with_reducible refine (HB8.cellI XD.out H1.out).mono ?_
      rintro e w4 ⟨rfl, hX⟩
      refine ⟨_, rfl, ?_⟩
      have X4 := Aside0.mk hX
      clear hX
      refine hK.out _ _ ⟨(blk_cell X4.out.at1 0).trans rfl, (blk_cell X4.out.at1 1).trans rfl, (blk_cell X4.out.at1 2).trans rfl, (blk_cell X4.out.at1 3).trans rfl⟩ (fun hHeld => ?_)
      clear hK K
      refine norm_ (a' := ?_) ?_ ?_
      rotate_left
      · show Act.put _ (some 91) _ = _
        simp only [Act.put, sa_, sz_, ss_, i64_w, i32_w]
        rfl
      refine one_ (i := 15) (N := some 100) #[true, true, true, true, true, true, true, true, true, true, true, true, true, true, true, true, true, true, false, false] rfl rfl (by kernel_rfl) (by decide) (fun K hK => ?_)
      refine goes_ Try.func69 (by kernel_rfl) rfl #[.pointer (some ⟨gw, 0, none⟩), .int .i64 t2, .int .i64 (rd xs tk), .int .i64 t3] (by rfl) rfl rfl (by simp only [List.map_toArray, List.map_cons, List.map_nil]; rfl) ?_
      with_reducible refine (HB8.cellI X4.out H2.out).mono ?_
      rintro e w5 ⟨rfl, hX⟩
      refine ⟨_, rfl, ?_⟩
      have X5 := Aside0.mk hX
      clear hX
      refine hK.out _ _ ⟨(blk_cell X5.out.at1 0).trans rfl, (blk_cell X5.out.at1 1).trans rfl, (blk_cell X5.out.at1 2).trans rfl, (blk_cell X5.out.at1 3).trans rfl⟩ (fun hHeld => ?_)
      clear hK K
      refine norm_ (a' := ?_) ?_ ?_
      rotate_left
      · show Act.put _ (some 100) _ = _
        simp only [Act.put, sa_, sz_, ss_, i64_w, i32_w]
        rfl
      refine pure_ (i := 18) (N := some 103) (v := ?_) (a' := ?_) #[true, true, true, true, true, true, true, true, true, true, true, true, true, true, true, true, true, true, true, false] rfl rfl (by kernel_rfl) (fun _ _ _ h => h) (Or.inl ⟨by rfl, ?_⟩) ?_ ?_
      rotate_left
      · intro w'
        go_simp
        with_reducible rfl
      rotate_left
      · simp only [Act.put, sa_, sz_, ss_, i64_w, i32_w]
        rfl
      refine last_store_ (i := 19) (w1 := (World.setCell (World.setCell (World.setCell (World.setCell w5 ⟨(w.heap.size + 1), 0, none⟩ (.int .i64 x)) ⟨(w.heap.size + 1), 1, none⟩ (.int .i64 t0)) ⟨(w.heap.size + 1), 2, none⟩ (.int .i64 y)) ⟨(w.heap.size + 1), 3, none⟩ (.int .i64 t2))) #[true, true, true, true, true, true, true, true, true, true, true, true, true, true, true, true, true, true, true, true] rfl rfl (by kernel_rfl) (by decide) (by rfl) (run_put4_ rfl (show _ = Value.pointer (some ⟨(w.heap.size + 1), 0, none⟩) from by rfl) (show _ = Value.agg #[.int .i64 x, .int .i64 t0, .int .i64 y, .int .i64 t2] from by rfl) X5.out.at0 (by kernel_rfl) (by rfl)) ?_
      refine done_ (by kernel_rfl) ?_
      generalize hw6 : (World.setCell (World.setCell (World.setCell (World.setCell w5 ⟨(w.heap.size + 1), 0, none⟩ (.int .i64 x)) ⟨(w.heap.size + 1), 1, none⟩ (.int .i64 t0)) ⟨(w.heap.size + 1), 2, none⟩ (.int .i64 y)) ⟨(w.heap.size + 1), 3, none⟩ (.int .i64 t2)) = w6
      have X6 := Aside0.mk (X5.out.put4_0 (far2 FAR.out) hw6.symm)
      clear hw6
      go_wp2
      refine bodyPost_ret (results_cell_row rfl _ _ (w.heap.size + 1) 38 #[.int .i64 x, .int .i64 t0, .int .i64 y, .int .i64 t2] (0, 0) _ rfl X6.out.at0 Try.underlying38 rfl (by kernel_rfl)) rfl ?_
      exact ⟨rfl, X6.out.drop.drop⟩

end Go.Proofs.Ytgldplkbacfacaa.MFnEights
