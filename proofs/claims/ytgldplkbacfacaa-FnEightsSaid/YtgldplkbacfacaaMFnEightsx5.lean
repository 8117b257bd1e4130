/- Functions as Lean functions, with proofs. By a program of this session. -/
import Derived.Test.YtgldplkbacfacaaMFnEightsx0
import Derived.Test.YtgldplkbacfacaaMFnEightsx3
import Derived.Test.YtgldplkbacfacaaMFnEightsx4
namespace Go.Proofs.Ytgldplkbacfacaa.MFnEights
open Go.RowKit Go.Proofs.Ytgldplkbacfacaa.MOpen Go.Proofs.YtgldplkbacfacaaW.PrintWords Go.Proofs.YtgldplkbacfacaaW.PrintLast Go.Proofs.YtgldplkbacfacaaW.PrintMore
attribute [local go_sem] max2_int min2_int max_two min_two max_three min_three max_four min_four
set_option linter.unusedVariables false
set_option linter.unusedSimpArgs false
set_option maxHeartbeats 32000000
set_option maxRecDepth 100000

/-- One cell of block g is stored anew; nothing else turns. -/
def Up (w w' : World) (g j : Nat) (u : Value) : Prop := ∃ n, w' = (w.drewN n).setCell ⟨g, j, none⟩ u
theorem info52_ : (Try.prog.info? 52).map (fun i => (i.zero, i.size, i.bytes)) = some (some (.agg #[(.int .i8 0), (.int .i64 0)]), 2, 16) := by kernel_rfl
/-- A machine's notes at block g (type T): moves, terms, a flag; its rows are its own, from block b on. -/
def Mv (T b : Nat) (w : World) (g : Nat) (ms : List S52) (gs : List Int) (f : Bool) : Prop :=
  ∃ mv gv : Value, w.heap[g]? = some (.cells #[mv, gv, .bool f] T (0, 0)) ∧ b ≤ g ∧ k52.R 52 w b (fun _ => True) mv ms ∧ (Kd.int .i64).R 2 w b (fun _ => True) gv gs
/-- What is no row of moves or terms, and no such notes, stays. -/
def KeepT (T : Nat) (w w' : World) : Prop := w.heap.size ≤ w'.heap.size ∧ ∀ (i : Nat) (cs : Array Value) (t : TypeId), w.heap[i]? = some (Obj.cells cs t (0, 0)) → t ≠ 52 → t ≠ 2 → t ≠ T → w'.heap[i]? = some (Obj.cells cs t (0, 0))
theorem KeepT.refl (T : Nat) (w : World) : KeepT T w w := ⟨Nat.le_refl _, fun _ _ _ h _ _ _ => h⟩
theorem KeepT.trans {T : Nat} {a b c : World} (h : KeepT T a b) (k : KeepT T b c) : KeepT T a c := ⟨Nat.le_trans h.1 k.1, fun i cs t e h1 h2 h3 => k.2 i cs t (h.2 i cs t e h1 h2 h3) h1 h2 h3⟩
theorem KeepT.below {T : Nat} {a b c : World} (h : KeepT T a b) (k : Below b.heap.size b c) : KeepT T a c := ⟨Nat.le_trans h.1 k.size, fun i cs t e h1 h2 h3 => by have := h.2 i cs t e h1 h2 h3; exact (k.block i (blk_lt this)).trans this⟩
theorem KeepT.drewN {T : Nat} {a b : World} (h : KeepT T a b) (n : Nat) : KeepT T a (b.drewN n) := h
theorem KeepT.grown {T e : Nat} {a b c : World} (h : KeepT T a b) {α : Type} {d : Kd α} {base : Nat} {ok : Nat → Prop} {v : Value} {xs : List α} (ho : d.R e b base ok v xs) (he : e = 52 ∨ e = 2) (hg : b.grownBy c v.ownBlock) : KeepT T a c :=
  ⟨Nat.le_trans h.1 hg.size, fun i cs t e1 h1 h2 h3 => by
    have := h.2 i cs t e1 h1 h2 h3
    exact blk_grown this hg (Kd.R_ne ho this (by rcases he with rfl | rfl <;> exact fun e => by first | exact h1 e.symm | exact h2 e.symm))⟩
theorem KeepT.set {T : Nat} {a b : World} (h : KeepT T a b) {g : Nat} {cs : Array Value} (hb : b.heap[g]? = some (.cells cs T (0, 0))) (j : Nat) (u : Value) : KeepT T a (b.setCell ⟨g, j, none⟩ u) :=
  ⟨by simpa [World.setCell] using h.1, fun i cs2 t e h1 h2 h3 => by
    have h4 := h.2 i cs2 t e h1 h2 h3
    exact blk_far h4 (blk_ne h4 hb h3) u⟩
theorem R_set {α : Type} {d : Kd α} {e b g T : Nat} {w : World} {v : Value} {xs : List α} {cs : Array Value} (h : d.R e w b (fun _ => True) v xs) (hb : w.heap[g]? = some (.cells cs T (0, 0))) (ht : ∀ q, q ∈ e :: d.E → q ≠ T) (j : Nat) (u : Value) : d.R e (w.setCell ⟨g, j, none⟩ u) b (fun _ => True) v xs :=
  Kd.R_mono (Kd.R_far (p := ⟨g, j, none⟩) (Kd.R_types h hb ht) (fun k hk => hk.2) u) (fun _ _ => trivial)
theorem Mv.up {T b : Nat} {w w' : World} {g : Nat} {ms : List S52} {gs : List Int} {f f' : Bool} (hT : T ≠ 52 ∧ T ≠ 2) (h : Mv T b w g ms gs f) (hu : Up w w' g 2 (.bool f')) : Mv T b w' g ms gs f' := by
  obtain ⟨mv, gv, hb, hl, hm, hg⟩ := h
  obtain ⟨n, rfl⟩ := hu
  have hb2 : (w.drewN n).heap[g]? = some (.cells #[mv, gv, .bool f] T (0, 0)) := hb
  refine ⟨mv, gv, ?_, hl, R_set (Kd.R_drewN hm n) hb2 (by intro q hq; simp [k52, Kd.iso, Kd.pair, Kd.int, Kd.scalar] at hq; omega) 2 _, R_set (Kd.R_drewN hg n) hb2 (by intro q hq; simp [Kd.int, Kd.scalar] at hq; omega) 2 _⟩
  have := blk_set hb2 2 (.bool f')
  simpa using this
theorem Up.keep {T b : Nat} {w w' : World} {g : Nat} {ms : List S52} {gs : List Int} {f : Bool} {u : Value} (h : Mv T b w g ms gs f) (hu : Up w w' g 2 u) : KeepT T w w' := by
  obtain ⟨mv, gv, hb, hl, hm, hg⟩ := h
  obtain ⟨n, rfl⟩ := hu
  exact KeepT.set ((KeepT.refl T w).drewN n) (show (w.drewN n).heap[g]? = _ from hb) 2 _
theorem Up.below {T b : Nat} {w0 w w' : World} {g j : Nat} {u : Value} (hu : Up w w' g j u) (hB : Below b w0 w) (hg : b ≤ g) : Below b w0 w' := by
  obtain ⟨n, rfl⟩ := hu
  exact (pw_below_drewN hB n).setCell hg _
/-- A machine's notes while they turn: the cells of block g, the rows that stand. -/
structure Mw (T b : Nat) (w0 wi w : World) (g : Nat) (c0 c1 c2 mv gv : Value) (ms : List S52) (gs : List Int) : Prop where
  ty : T ≠ 52 ∧ T ≠ 2
  blk : w.heap[g]? = some (.cells #[c0, c1, c2] T (0, 0))
  lo : b ≤ g
  m : k52.R 52 w b (fun _ => True) mv ms
  t : (Kd.int .i64).R 2 w b (fun _ => True) gv gs
  bel : Below b w0 w
  keep : KeepT T wi w
  sz : b ≤ w.heap.size
section
variable {T b : Nat} {w0 wi w w1 : World} {g : Nat} {c0 c1 c2 mv gv : Value} {ms : List S52} {gs : List Int}
theorem Mw.x0 (h : Mw T b w0 wi w g c0 c1 c2 mv gv ms gs) : w.cell? ⟨g, 0, none⟩ = some c0 := (blk_cell h.blk 0).trans rfl
theorem Mw.x1 (h : Mw T b w0 wi w g c0 c1 c2 mv gv ms gs) : w.cell? ⟨g, 1, none⟩ = some c1 := (blk_cell h.blk 1).trans rfl
theorem Mw.x2 (h : Mw T b w0 wi w g c0 c1 c2 mv gv ms gs) : w.cell? ⟨g, 2, none⟩ = some c2 := (blk_cell h.blk 2).trans rfl
theorem Mw.fr (h : Mw T b w0 wi w g c0 c1 c2 mv gv ms gs) (j : Nat) : w.frozen? ⟨g, j, none⟩ = false := blk_frozen h.blk j
theorem k52_E (T : Nat) (h : T ≠ 52 ∧ T ≠ 2) : ∀ q, q ∈ 52 :: k52.E → q ≠ T := by
  intro q hq
  have : q = 52 := by simpa [k52, Kd.iso, Kd.pair, Kd.int, Kd.scalar] using hq
  omega
theorem int_E (T : Nat) (h : T ≠ 52 ∧ T ≠ 2) : ∀ q, q ∈ 2 :: (Kd.int .i64).E → q ≠ T := by
  intro q hq
  have : q = 2 := by simpa [Kd.int, Kd.scalar] using hq
  omega
theorem Mw.appM (h : Mw T b w0 wi w g c0 c1 c2 mv gv ms gs) {v1 : Value} {ms1 : List S52} (ho : k52.R 52 w1 b (fun _ => True) v1 ms1) (hb1 : Below b w0 w1) (hg1 : w.grownBy w1 mv.ownBlock) : Mw T b w0 wi w1 g c0 c1 c2 v1 gv ms1 gs :=
  ⟨h.ty, blk_grown h.blk hg1 (Kd.R_ne h.m h.blk (Ne.symm h.ty.1)), h.lo, ho, Kd.R_over h.t h.m (by decide) hg1, hb1, h.keep.grown h.m (Or.inl rfl) hg1, Nat.le_trans h.sz hg1.size⟩
theorem Mw.appT (h : Mw T b w0 wi w g c0 c1 c2 mv gv ms gs) {v1 : Value} {gs1 : List Int} (ho : (Kd.int .i64).R 2 w1 b (fun _ => True) v1 gs1) (hb1 : Below b w0 w1) (hg1 : w.grownBy w1 gv.ownBlock) : Mw T b w0 wi w1 g c0 c1 c2 mv v1 ms gs1 :=
  ⟨h.ty, blk_grown h.blk hg1 (Kd.R_ne h.t h.blk (Ne.symm h.ty.2)), h.lo, Kd.R_over h.m h.t (by decide) hg1, ho, hb1, h.keep.grown h.t (Or.inr rfl) hg1, Nat.le_trans h.sz hg1.size⟩
theorem setCell_size (W : World) (p : Addr) (u : Value) : (W.setCell p u).heap.size = W.heap.size := by simp [World.setCell]
theorem Mw.set (h : Mw T b w0 wi w g c0 c1 c2 mv gv ms gs) (j : Nat) (u : Value) {d0 d1 d2 : Value} (e : (#[c0, c1, c2] : Array Value).setIfInBounds j u = #[d0, d1, d2]) : Mw T b w0 wi (w.setCell ⟨g, j, none⟩ u) g d0 d1 d2 mv gv ms gs :=
  ⟨h.ty, by rw [← e]; exact blk_set h.blk j u, h.lo, R_set h.m h.blk (k52_E T h.ty) j u, R_set h.t h.blk (int_E T h.ty) j u, h.bel.setCell h.lo u, h.keep.set h.blk j u, by rw [setCell_size]; exact h.sz⟩
theorem Mw.set0 (h : Mw T b w0 wi w g c0 c1 c2 mv gv ms gs) {u : Value} (hw : w1 = w.setCell ⟨g, 0, none⟩ u) : Mw T b w0 wi w1 g u c1 c2 mv gv ms gs := hw ▸ h.set 0 u rfl
theorem Mw.set1 (h : Mw T b w0 wi w g c0 c1 c2 mv gv ms gs) {u : Value} (hw : w1 = w.setCell ⟨g, 1, none⟩ u) : Mw T b w0 wi w1 g c0 u c2 mv gv ms gs := hw ▸ h.set 1 u rfl
theorem Mw.set2 (h : Mw T b w0 wi w g c0 c1 c2 mv gv ms gs) {u : Value} (hw : w1 = w.setCell ⟨g, 2, none⟩ u) : Mw T b w0 wi w1 g c0 c1 u mv gv ms gs := hw ▸ h.set 2 u rfl
theorem Mw.drewN (h : Mw T b w0 wi w g c0 c1 c2 mv gv ms gs) (n : Nat) : Mw T b w0 wi (w.drewN n) g c0 c1 c2 mv gv ms gs :=
  ⟨h.ty, h.blk, h.lo, Kd.R_drewN h.m n, Kd.R_drewN h.t n, pw_below_drewN h.bel n, h.keep.drewN n, h.sz⟩
theorem Mw.up (h : Mw T b w0 wi w g c0 c1 c2 mv gv ms gs) {u : Value} (hu : Up w w1 g 2 u) : Mw T b w0 wi w1 g c0 c1 u mv gv ms gs := by
  obtain ⟨n, hw⟩ := hu
  exact (h.drewN n).set2 hw
theorem Mw.below (h : Mw T b w0 wi w g c0 c1 c2 mv gv ms gs) (hb : Below w.heap.size w w1) : Mw T b w0 wi w1 g c0 c1 c2 mv gv ms gs :=
  ⟨h.ty, blk_below h.blk hb, h.lo, Kd.R_below h.m hb, Kd.R_below h.t hb, below_then h.bel h.sz hb, h.keep.below hb, Nat.le_trans h.sz hb.size⟩
theorem Mw.alloc (h : Mw T b w0 wi w g c0 c1 c2 mv gv ms gs) (o : Obj) : Mw T b w0 wi (w.alloc o) g c0 c1 c2 mv gv ms gs := h.below (below_alloc (Below.refl _ _) o)
theorem Mw.start {f : Bool} (hT : T ≠ 52 ∧ T ≠ 2) (h : Mv T b w g ms gs f) (hB : Below b w0 w) (hs : b ≤ w.heap.size) : ∃ mv gv, Mw T b w0 w w g mv gv (.bool f) mv gv ms gs := by
  obtain ⟨mv, gv, h1, h2, h3, h4⟩ := h
  exact ⟨mv, gv, hT, h1, h2, h3, h4, hB, KeepT.refl T w, hs⟩
theorem Mw.done {f : Bool} (h : Mw T b w0 wi w g mv gv (.bool f) mv gv ms gs) : Mv T b w g ms gs f ∧ Below b w0 w ∧ KeepT T wi w := ⟨⟨mv, gv, h.blk, h.lo, h.m, h.t⟩, h.bel, h.keep⟩
end
theorem Mw.done' {T b : Nat} {w0 wi w : World} {g : Nat} {c0 c1 mv gv : Value} {ms : List S52} {gs : List Int} {f f' : Bool} (h : Mw T b w0 wi w g c0 c1 (.bool f) mv gv ms gs) (e0 : c0 = mv) (e1 : c1 = gv) (e2 : f = f') : Mv T b w g ms gs f' ∧ Below b w0 w ∧ KeepT T wi w := by
  subst e0 e1 e2; exact h.done
theorem C_two {W : World} {g : Nat} {x y : Int} (h : W.heap[g]? = some (Obj.cells #[.int .i64 x, .int .i64 y] 2 (0, 0))) : Kd.C (Kd.int .i64) W (some ⟨g, 0, none⟩) [x, y].length [x, y] := by
  refine Kd.C_of_reads (d := (0 : Int)) (h1 := fun _ => rfl) ⟨rfl, by simp, fun _ => ⟨_, rfl, fun j hj => ?_⟩⟩
  rw [add_plain]
  have : j = 0 ∨ j = 1 := by simp at hj; omega
  rcases this with rfl | rfl
  · exact (blk_cell h 0).trans rfl
  · exact (blk_cell h 1).trans rfl
theorem two_first (w : World) (n : Nat) (o1 o2 : Obj) : ((w.alloc o1).alloc o2).heap[w.heap.size]? = some o1 := blk_alloc (heap_alloc_new w o1) o2
theorem two_second (w : World) (o1 o2 : Obj) : ((w.alloc o1).alloc o2).heap[w.heap.size + 1]? = some o2 := by
  have h := heap_alloc_new (w.alloc o1) o2
  rwa [show (w.alloc o1).heap.size = w.heap.size + 1 by simp] at h
theorem C_two' {W : World} {g : Nat} {x y x' y' : Int} (h : W.heap[g]? = some (Obj.cells #[.int .i64 x', .int .i64 y'] 2 (0, 0))) (ex : x' = x) (ey : y' = y) : Kd.C (Kd.int .i64) W (some ⟨g, 0, none⟩) 2 [x, y] := by
  subst ex ey; exact C_two h
theorem i64_wrap (n : Int) : IntKind.i64.wrap n = wrap64 n := by unfold wrap64; rw [IntKind.wrap_i64]
section
variable {b : Nat} {w0 w w1 : World} {ms ms1 : List S52} {gs gs1 : List Int} {ov ov1 : Bool}
theorem Mv.below {T : Nat} {g : Nat} (h : Mv T b w g ms gs ov) (hb : Below w.heap.size w w1) : Mv T b w1 g ms gs ov := by
  obtain ⟨mv, gv, h1, h2, h3, h4⟩ := h
  exact ⟨mv, gv, blk_below h1 hb, h2, Kd.R_below h3 hb, Kd.R_below h4 hb⟩
/-- A store into another block. -/
theorem Mv.far {T T' g g' : Nat} {cs : Array Value} (h : Mv T b w g ms gs ov) (hb : w.heap[g']? = some (Obj.cells cs T' (0, 0))) (h1 : T' ≠ 52) (h2 : T' ≠ 2) (h3 : T' ≠ T) (j : Nat) (u : Value) : Mv T b (w.setCell ⟨g', j, none⟩ u) g ms gs ov := by
  obtain ⟨mv, gv, e1, e2, e3, e4⟩ := h
  exact ⟨mv, gv, blk_far e1 (blk_ne e1 hb (Ne.symm h3)) u, e2, R_set e3 hb (k52_E T' ⟨h1, h2⟩) j u, R_set e4 hb (int_E T' ⟨h1, h2⟩) j u⟩
end
/-- A machine with four numbers: numbers, how many terms were taken, moves, terms given, the flag. -/
structure PSt where
  A : Int
  B : Int
  C : Int
  D : Int
  tk : Int
  ms : List S52
  gs : List Int
  ov : Bool
def specC (ok : Bool) (a b c : Int) : Option (Int × Bool) := (spec_l04Cell.f a b c).bind fun t => some (t.1, ok && t.2)
theorem spec_cell (g : Nat) (mv gv : Value) (ok : Bool) (a b c r1 : Int) (r2 : Bool) (w : World) (hb : w.heap[g]? = some (.cells #[mv, gv, .bool ok] 89 (0, 0))) (h : specC ok a b c = some (r1, r2)) :
    Calls Try.prog 58 #[.pointer (some ⟨g, 0, none⟩), .int .i64 a, .int .i64 b, .int .i64 c] w fun e w' => e = .returned (.int .i64 r1) ∧ Up w w' g 2 (.bool r2) := by
  obtain ⟨⟨t1, t2⟩, A0, H⟩ := Option.bind_eq_some_iff.mp h
  have A := Aside0.mk A0
  clear A0 h
  simp only [Option.some.injEq, Prod.mk.injEq] at H
  obtain ⟨rfl, rfl⟩ := H
  have hc : w.cell? ⟨g, 2, none⟩ = some (.bool ok) := (blk_cell hb 2).trans rfl
  have hf := blk_frozen hb 2
  clear hb
  cases ok with
  | false =>
    go_enter Try.func58, Try.ntmps58
    go_wp2_with (first | (go_at_call 78; (with_reducible refine (spec_l04Cell.calls a b c t1 t2 _ A.out).mono ?_); rintro e w' ⟨rfl, ⟨nd, rfl⟩⟩))
    go_ret
    exact ⟨rfl, _, rfl⟩
  | true =>
    go_enter Try.func58, Try.ntmps58
    go_wp2_with (first | (go_at_call 78; (with_reducible refine (spec_l04Cell.calls a b c t1 t2 _ A.out).mono ?_); rintro e w' ⟨rfl, ⟨nd, rfl⟩⟩))
    go_ret
    exact ⟨rfl, _, rfl⟩
theorem spec_give (b g : Nat) (ms : List S52) (gs : List Int) (f : Bool) (q : Int) (w0 w : World) (hM : Mv 89 b w g ms gs f) (hB : Below b w0 w) (hbs : b ≤ w.heap.size) (hl : ms.length < 1000000) (hl2 : gs.length < 1000000) :
    Calls Try.prog 57 #[.pointer (some ⟨g, 0, none⟩), .int .i64 q] w fun e w' => e = .returned (.tuple #[]) ∧ Mv 89 b w' g (ms ++ [⟨1, q⟩]) (gs ++ [q]) f ∧ Below b w0 w' ∧ KeepT 89 w w' := by
  obtain ⟨mv, gv, h⟩ := Mw.start (by decide) hM hB hbs
  obtain ⟨A2, c2, rfl⟩ := Kd.R_slice h.t
  have X0 := Aside0.mk h
  clear h hM hB hbs
  have x0w := X0.out.x0
  go_enter Try.func57, Try.ntmps57
  go_wp2_with (first | ((with_reducible refine gate_builtin (b := .append) (xs := #[.tmp 8, .tmp 11]) rfl ?_); at_builtin; refine Kd.R_append k52 (w0 := w0) b rfl (.tmp 8) (.tmp 11) 33 52 (.agg #[(.int .i8 0), (.int .i64 0)]) 16 rfl Try.underlying33 info52_ rfl (by decide) (by omega) mv ms (⟨1, q⟩ : S52) [.int .i8 1, .int .i64 q] (fun _ => True) (fun _ => False) rfl rfl ?aP (fun _ hk => hk.elim) ?aF ?aO ?aB ?aS ?aL ?_; (case aP => exact k52_mkM _ _ _ (⟨1, q⟩ : S52)); (case aB => exact X0.out.bel); (case aF => exact (fun _ _ => trivial)); (case aO => exact X0.out.m); (case aS => exact X0.out.sz); (case aL => omega); intro v_ w1 ho hb1 hg1 hat; obtain ⟨Aw1, cw1, rfl⟩ := Kd.R_slice ho; have X1 := Aside0.mk (X0.out.appM ho hb1 hg1); clear ho hb1 hg1 hat X0; have x0w1 := X1.out.x0; have x1w1 := X1.out.x1; have x2w1 := X1.out.x2; have f0w1 := X1.out.fr 0; have f1w1 := X1.out.fr 1; have f2w1 := X1.out.fr 2) | ((with_reducible refine gate_store (t := 33) (p := 14) rfl ?_); refine store_event (t := 33) (p := 14) (v := ?vo_w2) (w1 := (w1.setCell ⟨g, 0, none⟩ (.slice Aw1 (ms.length + 1) cw1))) ?hg ?ho ?hn ?hr ?_; (case ho => rfl); (case hg => rfl); (case hn => rfl); (case hr => first | (go_simp; done) | (go_simp; rfl)); intro w2 hw; have X2 := Aside0.mk (X1.out.set0 hw); clear hw X1; have x0w2 := X2.out.x0; have x1w2 := X2.out.x1; have x2w2 := X2.out.x2; have f0w2 := X2.out.fr 0; have f1w2 := X2.out.fr 1; have f2w2 := X2.out.fr 2) | ((with_reducible refine gate_builtin (b := .append) (xs := #[.tmp 19, .tmp 21]) rfl ?_); at_builtin; refine Kd.R_append (Kd.int .i64) (w0 := w0) b rfl (.tmp 19) (.tmp 21) 24 2 (.int .i64 0) 8 rfl Try.underlying24 info2 rfl (by decide) (by omega) (.slice A2 gs.length c2) gs q [.int .i64 q] (fun _ => True) (fun _ => False) rfl rfl ?aP (fun _ hk => hk.elim) ?aF ?aO ?aB ?aS ?aL ?_; (case aP => exact rfl); (case aB => exact X2.out.bel); (case aF => exact (fun _ _ => trivial)); (case aO => exact X2.out.t); (case aS => exact X2.out.sz); (case aL => omega); intro v_ w3 ho hb1 hg1 hat; obtain ⟨Aw3, cw3, rfl⟩ := Kd.R_slice ho; have X3 := Aside0.mk (X2.out.appT ho hb1 hg1); clear ho hb1 hg1 hat X2; have x0w3 := X3.out.x0; have x1w3 := X3.out.x1; have x2w3 := X3.out.x2; have f0w3 := X3.out.fr 0; have f1w3 := X3.out.fr 1; have f2w3 := X3.out.fr 2) | ((with_reducible refine gate_store (t := 24) (p := 24) rfl ?_); refine store_event (t := 24) (p := 24) (v := ?vo_w4) (w1 := (w3.setCell ⟨g, 1, none⟩ (.slice Aw3 (gs.length + 1) cw3))) ?hg ?ho ?hn ?hr ?_; (case ho => rfl); (case hg => rfl); (case hn => rfl); (case hr => first | (go_simp; done) | (go_simp; rfl)); intro w4 hw; have X4 := Aside0.mk (X3.out.set1 hw); clear hw X3; have x0w4 := X4.out.x0; have x1w4 := X4.out.x1; have x2w4 := X4.out.x2; have f0w4 := X4.out.fr 0; have f1w4 := X4.out.fr 1; have f2w4 := X4.out.fr 2))
  go_end0
  exact ⟨rfl, X4.out.done' (by simp) (by simp) (by simp)⟩
theorem answer_calls (k b : Nat) (g : Nat) (ms : List S52) (gs : List Int) (ok : Bool) (c : Int) (w : World) (hM : Mv 89 b w g ms gs ok) (hbs : b ≤ w.heap.size) (hc : spec_l04Work_end.f k ms gs ok = some c) :
    Calls Try.prog 39 #[.pointer (some ⟨g, 0, none⟩)] w fun e w' => ∃ v0 v1, e = .returned (.tuple #[v0, v1, .int .i64 c]) ∧ k52.R 52 w' b (fun _ => True) v0 (if c = 0 then ms else []) ∧ (Kd.int .i64).R 2 w' b (fun _ => True) v1 (if c = 0 then gs else []) ∧ Below w.heap.size w w' := by
  obtain ⟨mv, gv, h1, h2, h3, h4⟩ := hM
  obtain ⟨A0, c0, rfl, l0, r0⟩ := Kd.R_reads h3
  obtain ⟨A1, c1, rfl, l1, r1⟩ := Kd.R_reads h4
  have HE := Aside0.mk (spec_l04Work_end.calls k g 0 A0 c0 ms A1 c1 gs ok c w r0 l0 r1 l1 ⟨(blk_cell h1 0).trans rfl, (blk_cell h1 1).trans rfl, (blk_cell h1 2).trans rfl⟩ hc)
  have x0 := (blk_cell h1 0).trans (show _ = some (Value.slice A0 ms.length c0) from rfl)
  have x1 := (blk_cell h1 1).trans (show _ = some (Value.slice A1 gs.length c1) from rfl)
  have HB := Aside0.mk hbs
  have HM := Aside0.mk h3
  have HG := Aside0.mk h4
  clear h1 h2 h3 h4 l0 r0 l1 r1 hc hbs
  by_cases c0_ : c = 0
  · subst c0_
    rw [if_pos rfl, if_pos rfl]
    go_enter Try.func39, Try.ntmps39
    go_wp2_with (first | (go_at_call 55; (with_reducible refine HE.out.mono ?_); rintro e w' ⟨rfl, ⟨nd, rfl⟩⟩))
    go_quiet (fail)
    go_wp2
    go_ret3
    exact ⟨_, _, rfl, Kd.R_drewN (Kd.R_drewN HM.out _) _, Kd.R_drewN (Kd.R_drewN HG.out _) _, pw_below_drewN (pw_below_drewN (Below.refl _ _) _) _⟩
  · rw [if_neg c0_, if_neg c0_]
    have hc0 : (c == 0) = false := beq_eq_false_iff_ne.mpr c0_
    have hc2 : (c != 0) = true := bne_iff_ne.mpr c0_
    clear c0_
    go_enter Try.func39, Try.ntmps39
    go_wp2_with (first | (go_at_call 55; (with_reducible refine HE.out.mono ?_); rintro e w' ⟨rfl, ⟨nd, rfl⟩⟩) | ((with_reducible refine gate_dst (N := 10) rfl ?_); refine Kd.R_lit (w0 := w) k52 w.heap.size 52 ?hg (N := 10) ?hd (xs := ([] : List S52)) (inner := []) (ok := fun _ => True) (okp := fun _ => True) ?hr ?hp (fun _ hk => hk) trivial ?hb ?hs (by simp) ?_; (case hd => rfl); (case hg => rfl); (case hr => first | (go_simp; done) | (go_simp; rfl)); (case hp => exact (Reps.none _ _)); (case hb => exact pw_below_drewN (Below.refl _ _) _); (case hs => exact Nat.le_refl _); intro v1 w1 ho hb hg_ hnew_; have HO := Aside0.mk ho; have HB1 := Aside0.mk hb; clear ho hb hg_ hnew_) | ((with_reducible refine gate_dst (N := 11) rfl ?_); refine Kd.R_lit (w0 := w) (Kd.int .i64) w.heap.size 2 ?hg2 (N := 11) ?hd2 (xs := ([] : List Int)) (inner := []) (ok := fun _ => True) (okp := fun _ => True) ?hr2 ?hp2 (fun _ hk => hk) trivial ?hb2 ?hs2 (by simp) ?_; (case hd2 => rfl); (case hg2 => rfl); (case hr2 => first | (go_simp; done) | (go_simp; rfl)); (case hp2 => exact (Reps.none _ _)); (case hb2 => exact HB1.out); (case hs2 => exact HB1.out.size); intro v2 w2 ho hb hg_ hnew_; have HO2 := Aside0.mk ho; have HB2 := Aside0.mk hb; have HG2 := Aside0.mk hg_; clear ho hb hg_ hnew_))
    go_ret3
    exact ⟨_, _, rfl, Kd.R_lower (Kd.R_grown HO.out HG2.out (fun _ _ => by simp)) HB.out, Kd.R_lower HO2.out HB.out, HB2.out⟩
theorem KeepT.new {T : Nat} {a b : World} (h : KeepT T a b) {g : Nat} (hg : a.heap.size ≤ g) (j : Nat) (u : Value) : KeepT T a (b.setCell ⟨g, j, none⟩ u) :=
  ⟨by simpa [World.setCell] using h.1, fun i cs2 t e h1 h2 h3 => blk_far (h.2 i cs2 t e h1 h2 h3) (by have := blk_lt e; simp only; omega) u⟩
/-- A machine's notes beside two variables of four numbers. -/
structure LW (T b : Nat) (w0 wi w : World) (gw g1 g2 : Nat) (t0 t1 t2 t3 r0 r1 r2 r3 : Int) (ms : List S52) (gs : List Int) (ok : Bool) : Prop where
  ty : T ≠ 52 ∧ T ≠ 2 ∧ T ≠ 38
  n : Mv T b w gw ms gs ok
  m1 : w.heap[g1]? = some (.cells #[.int .i64 t0, .int .i64 t1, .int .i64 t2, .int .i64 t3] 38 (0, 0))
  m2 : w.heap[g2]? = some (.cells #[.int .i64 r0, .int .i64 r1, .int .i64 r2, .int .i64 r3] 38 (0, 0))
  l1 : wi.heap.size ≤ g1
  l2 : wi.heap.size ≤ g2
  lb : b ≤ wi.heap.size
  ne : g1 ≠ g2
  bel : Below b w0 w
  keep : KeepT T wi w
section
variable {T b : Nat} {w0 wi w w1 : World} {gw g1 g2 : Nat} {t0 t1 t2 t3 r0 r1 r2 r3 : Int} {ms : List S52} {gs : List Int} {ok ok1 : Bool}
theorem LW.up (h : LW T b w0 wi w gw g1 g2 t0 t1 t2 t3 r0 r1 r2 r3 ms gs ok) (hu : Up w w1 gw 2 (.bool ok1)) : LW T b w0 wi w1 gw g1 g2 t0 t1 t2 t3 r0 r1 r2 r3 ms gs ok1 := by
  have hk := Up.keep h.n hu
  obtain ⟨mv, gv, h1, h2, h3, h4⟩ := h.n
  exact ⟨h.ty, h.n.up ⟨h.ty.1, h.ty.2.1⟩ hu, hk.2 _ _ _ h.m1 (by decide) (by decide) (Ne.symm h.ty.2.2), hk.2 _ _ _ h.m2 (by decide) (by decide) (Ne.symm h.ty.2.2), h.l1, h.l2, h.lb, h.ne, Up.below (T := T) hu h.bel h2, h.keep.trans hk⟩
theorem LW.below (h : LW T b w0 wi w gw g1 g2 t0 t1 t2 t3 r0 r1 r2 r3 ms gs ok) (hb : Below w.heap.size w w1) : LW T b w0 wi w1 gw g1 g2 t0 t1 t2 t3 r0 r1 r2 r3 ms gs ok :=
  ⟨h.ty, h.n.below hb, blk_below h.m1 hb, blk_below h.m2 hb, h.l1, h.l2, h.lb, h.ne, below_then h.bel (Nat.le_trans h.lb h.keep.1) hb, h.keep.below hb⟩
theorem LW.drew (h : LW T b w0 wi w gw g1 g2 t0 t1 t2 t3 r0 r1 r2 r3 ms gs ok) : LW T b w0 wi w.drew gw g1 g2 t0 t1 t2 t3 r0 r1 r2 r3 ms gs ok := h.below (below_drew (Below.refl _ _))
theorem LW.c0 (h : LW T b w0 wi w gw g1 g2 t0 t1 t2 t3 r0 r1 r2 r3 ms gs ok) : w.cell? ⟨g1, 0, none⟩ = some (.int .i64 t0) := (blk_cell h.m1 0).trans rfl
theorem LW.c1 (h : LW T b w0 wi w gw g1 g2 t0 t1 t2 t3 r0 r1 r2 r3 ms gs ok) : w.cell? ⟨g1, 1, none⟩ = some (.int .i64 t1) := (blk_cell h.m1 1).trans rfl
theorem LW.c2 (h : LW T b w0 wi w gw g1 g2 t0 t1 t2 t3 r0 r1 r2 r3 ms gs ok) : w.cell? ⟨g1, 2, none⟩ = some (.int .i64 t2) := (blk_cell h.m1 2).trans rfl
theorem LW.c3 (h : LW T b w0 wi w gw g1 g2 t0 t1 t2 t3 r0 r1 r2 r3 ms gs ok) : w.cell? ⟨g1, 3, none⟩ = some (.int .i64 t3) := (blk_cell h.m1 3).trans rfl
theorem LW.d0 (h : LW T b w0 wi w gw g1 g2 t0 t1 t2 t3 r0 r1 r2 r3 ms gs ok) : w.cell? ⟨g2, 0, none⟩ = some (.int .i64 r0) := (blk_cell h.m2 0).trans rfl
theorem LW.d1 (h : LW T b w0 wi w gw g1 g2 t0 t1 t2 t3 r0 r1 r2 r3 ms gs ok) : w.cell? ⟨g2, 1, none⟩ = some (.int .i64 r1) := (blk_cell h.m2 1).trans rfl
theorem LW.d2 (h : LW T b w0 wi w gw g1 g2 t0 t1 t2 t3 r0 r1 r2 r3 ms gs ok) : w.cell? ⟨g2, 2, none⟩ = some (.int .i64 r2) := (blk_cell h.m2 2).trans rfl
theorem LW.d3 (h : LW T b w0 wi w gw g1 g2 t0 t1 t2 t3 r0 r1 r2 r3 ms gs ok) : w.cell? ⟨g2, 3, none⟩ = some (.int .i64 r3) := (blk_cell h.m2 3).trans rfl
theorem LW.set1 (h : LW T b w0 wi w gw g1 g2 t0 t1 t2 t3 r0 r1 r2 r3 ms gs ok) {a : Int} (j : Nat) {q0 q1 q2 q3 : Int} (e : (#[.int .i64 r0, .int .i64 r1, .int .i64 r2, .int .i64 r3] : Array Value).setIfInBounds j (.int .i64 a) = #[.int .i64 q0, .int .i64 q1, .int .i64 q2, .int .i64 q3]) : LW T b w0 wi (w.setCell ⟨g2, j, none⟩ (.int .i64 a)) gw g1 g2 t0 t1 t2 t3 q0 q1 q2 q3 ms gs ok := by
  refine ⟨h.ty, h.n.far h.m2 (by decide) (by decide) (Ne.symm h.ty.2.2) j _, blk_far h.m1 h.ne _, ?_, h.l1, h.l2, h.lb, h.ne, h.bel.setCell (Nat.le_trans h.lb h.l2) _, h.keep.new h.l2 j _⟩
  rw [← e]
  exact blk_set h.m2 j _
theorem LW.set (h : LW T b w0 wi w gw g1 g2 t0 t1 t2 t3 r0 r1 r2 r3 ms gs ok) {q0 q1 q2 q3 : Int} (hw : w1 = (((w.setCell ⟨g2, 0, none⟩ (.int .i64 q0)).setCell ⟨g2, 1, none⟩ (.int .i64 q1)).setCell ⟨g2, 2, none⟩ (.int .i64 q2)).setCell ⟨g2, 3, none⟩ (.int .i64 q3)) : LW T b w0 wi w1 gw g1 g2 t0 t1 t2 t3 q0 q1 q2 q3 ms gs ok := by
  subst hw
  exact (((h.set1 0 rfl).set1 1 rfl).set1 2 rfl).set1 3 rfl
theorem LW.start (hT : T ≠ 52 ∧ T ≠ 2 ∧ T ≠ 38) (hM : Mv T b w gw ms gs ok) (hB : Below b w0 w) (hbs : b ≤ w.heap.size) : LW T b w0 w ((w.alloc (.cells #[.int .i64 t0, .int .i64 t1, .int .i64 t2, .int .i64 t3] 38)).alloc (.cells #[.int .i64 0, .int .i64 0, .int .i64 0, .int .i64 0] 38)) gw w.heap.size (w.heap.size + 1) t0 t1 t2 t3 0 0 0 0 ms gs ok :=
  ⟨hT, hM.below (below_alloc (below_alloc (Below.refl _ _) _) _), two_first w 0 _ _, two_second w _ _, Nat.le_refl _, by omega, hbs, by omega, below_then hB hbs (below_alloc (below_alloc (Below.refl _ _) _) _), (KeepT.refl T w).below (below_alloc (below_alloc (Below.refl _ _) _) _)⟩
theorem LW.cell {o : Bool} {a1 a2 a3 r : Int} (h : LW 89 b w0 wi w gw g1 g2 t0 t1 t2 t3 r0 r1 r2 r3 ms gs ok) (hc : specC ok a1 a2 a3 = some (r, o)) :
    Calls Try.prog 58 #[.pointer (some ⟨gw, 0, none⟩), .int .i64 a1, .int .i64 a2, .int .i64 a3] w fun e w' => e = .returned (.int .i64 r) ∧ LW 89 b w0 wi w' gw g1 g2 t0 t1 t2 t3 r0 r1 r2 r3 ms gs o := by
  obtain ⟨mv, gv, h1, h2, h3, h4⟩ := h.n
  refine (spec_cell gw mv gv ok a1 a2 a3 r o w h1 hc).mono ?_
  rintro e w' ⟨rfl, hu⟩
  exact ⟨rfl, h.up hu⟩
end
theorem spec_left (b gw : Nat) (ms : List S52) (gs : List Int) (ok o1 o2 : Bool) (t0 t1 t2 t3 a x y : Int) (w0 w : World) (hM : Mv 89 b w gw ms gs ok) (hB : Below b w0 w) (hbs : b ≤ w.heap.size) (h1 : specC ok t0 a t2 = some (x, o1)) (h2 : specC o1 t1 a t3 = some (y, o2)) :
    Calls Try.prog 64 #[.pointer (some ⟨gw, 0, none⟩), .agg #[.int .i64 t0, .int .i64 t1, .int .i64 t2, .int .i64 t3], .int .i64 a] w fun e w' => e = .returned (.agg #[.int .i64 x, .int .i64 y, .int .i64 t0, .int .i64 t1]) ∧ Mv 89 b w' gw ms gs o2 ∧ Below b w0 w' ∧ KeepT 89 w w' := by
  have X0 := Aside0.mk (LW.start (t0 := t0) (t1 := t1) (t2 := t2) (t3 := t3) (by decide) hM hB hbs)
  have H1 := Aside0.mk h1
  have H2 := Aside0.mk h2
  clear hM hB hbs h1 h2
  go_enter Try.func64, Try.ntmps64
  go_wp2
  have XD := Aside0.mk X0.out.drew
  refine start_ (n := 20) (S := fun w' => w'.cell? ⟨w.heap.size, 0, none⟩ = some (.int .i64 t0) ∧ w'.cell? ⟨w.heap.size, 1, none⟩ = some (.int .i64 t1) ∧ w'.cell? ⟨w.heap.size, 2, none⟩ = some (.int .i64 t2) ∧ w'.cell? ⟨w.heap.size, 3, none⟩ = some (.int .i64 t3)) (ds := [19]) #[false, false, false, false, false, false, false, false, false, false, false, false, false, false, false, false, false, false, false, false] (by kernel_rfl) rfl rfl ⟨XD.out.c0, XD.out.c1, XD.out.c2, XD.out.c3⟩ (fun hHeld => ?_)
  refine pure_ (i := 0) (N := some 7) (v := ?_) (a' := ?_) #[true, false, false, false, false, false, false, false, false, false, false, false, false, false, false, false, false, false, false, false] rfl rfl (by kernel_rfl) (fun _ _ _ h => h) (Or.inl ⟨by rfl, ?_⟩) ?_ ?_
  rotate_left
  · intro w'
    go_simp
    with_reducible rfl
  rotate_left
  · simp only [Act.put, sa_, sz_, ss_, i64_w, i32_w]
    rfl
  refine pure_ (i := 1) (N := some 8) (v := ?_) (a' := ?_) #[true, true, false, false, false, false, false, false, false, false, false, false, false, false, false, false, false, false, false, false] rfl rfl (by kernel_rfl) (fun _ _ _ h => h) (Or.inl ⟨by rfl, ?_⟩) ?_ ?_
  rotate_left
  · intro w'
    go_simp
    with_reducible rfl
  rotate_left
  · simp only [Act.put, sa_, sz_, ss_, i64_w, i32_w]
    rfl
  refine pure_ (i := 3) (N := some 10) (v := ?_) (a' := ?_) #[true, true, false, true, false, false, false, false, false, false, false, false, false, false, false, false, false, false, false, false] rfl rfl (by kernel_rfl) (fun _ _ _ h => h) (Or.inl ⟨by rfl, ?_⟩) ?_ ?_
  rotate_left
  · intro w'
    go_simp
    with_reducible rfl
  rotate_left
  · simp only [Act.put, sa_, sz_, ss_, i64_w, i32_w]
    rfl
  refine pure_ (i := 4) (N := some 11) (v := ?_) (a' := ?_) #[true, true, false, true, true, false, false, false, false, false, false, false, false, false, false, false, false, false, false, false] rfl rfl (by kernel_rfl) (fun _ _ _ h => h) (Or.inl ⟨by rfl, ?_⟩) ?_ ?_
  rotate_left
  · intro w'
    go_simp
    with_reducible rfl
  rotate_left
  · simp only [Act.put, sa_, sz_, ss_, i64_w, i32_w]
    rfl
  refine pure_ (i := 7) (N := some 14) (v := ?_) (a' := ?_) #[true, true, false, true, true, false, false, true, false, false, false, false, false, false, false, false, false, false, false, false] rfl rfl (by kernel_rfl) (fun _ _ _ h => h) (Or.inl ⟨by rfl, ?_⟩) ?_ ?_
  rotate_left
  · intro w'
    go_simp
    with_reducible rfl
  rotate_left
  · simp only [Act.put, sa_, sz_, ss_, i64_w, i32_w]
    rfl
  refine pure_ (i := 8) (N := some 15) (v := ?_) (a' := ?_) #[true, true, false, true, true, false, false, true, true, false, false, false, false, false, false, false, false, false, false, false] rfl rfl (by kernel_rfl) (fun _ _ _ h => h) (Or.inl ⟨by rfl, ?_⟩) ?_ ?_
  rotate_left
  · intro w'
    go_simp
    with_reducible rfl
  rotate_left
  · simp only [Act.put, sa_, sz_, ss_, i64_w, i32_w]
    rfl
  refine pure_ (i := 10) (N := some 17) (v := ?_) (a' := ?_) #[true, true, false, true, true, false, false, true, true, false, true, false, false, false, false, false, false, false, false, false] rfl rfl (by kernel_rfl) (fun _ _ _ h => h) (Or.inl ⟨by rfl, ?_⟩) ?_ ?_
  rotate_left
  · intro w'
    go_simp
    with_reducible rfl
  rotate_left
  · simp only [Act.put, sa_, sz_, ss_, i64_w, i32_w]
    rfl
  refine pure_ (i := 11) (N := some 18) (v := ?_) (a' := ?_) #[true, true, false, true, true, false, false, true, true, false, true, true, false, false, false, false, false, false, false, false] rfl rfl (by kernel_rfl) (fun _ _ _ h => h) (Or.inl ⟨by rfl, ?_⟩) ?_ ?_
  rotate_left
  · intro w'
    go_simp
    with_reducible rfl
  rotate_left
  · simp only [Act.put, sa_, sz_, ss_, i64_w, i32_w]
    rfl
  refine pure_ (i := 14) (N := some 21) (v := ?_) (a' := ?_) #[true, true, false, true, true, false, false, true, true, false, true, true, false, false, true, false, false, false, false, false] rfl rfl (by kernel_rfl) (fun _ _ _ h => h) (Or.inl ⟨by rfl, ?_⟩) ?_ ?_
  rotate_left
  · intro w'
    go_simp
    with_reducible rfl
  rotate_left
  · simp only [Act.put, sa_, sz_, ss_, i64_w, i32_w]
    rfl
  refine pure_ (i := 16) (N := some 23) (v := ?_) (a' := ?_) #[true, true, false, true, true, false, false, true, true, false, true, true, false, false, true, false, true, false, false, false] rfl rfl (by kernel_rfl) (fun _ _ _ h => h) (Or.inl ⟨by rfl, ?_⟩) ?_ ?_
  rotate_left
  · intro w'
    go_simp
    with_reducible rfl
  rotate_left
  · simp only [Act.put, sa_, sz_, ss_, i64_w, i32_w]
    rfl
  refine take_ (i := 2) (N := some 9) (v := ?_) (a' := ?_) #[true, true, true, true, true, false, false, true, true, false, true, true, false, false, true, false, true, false, false, false] rfl rfl (by kernel_rfl) (fun _ _ _ h => h) (Or.inl ⟨by rfl, ?_⟩) hHeld ?_ ?_
  rotate_left
  · rintro w' ⟨s0, s1, s2, s3⟩
    go_simp
    with_reducible rfl
  rotate_left
  · simp only [Act.put, sa_, sz_, ss_, i64_w, i32_w]
    rfl
  refine take_ (i := 5) (N := some 12) (v := ?_) (a' := ?_) #[true, true, true, true, true, true, false, true, true, false, true, true, false, false, true, false, true, false, false, false] rfl rfl (by kernel_rfl) (fun _ _ _ h => h) (Or.inl ⟨by rfl, ?_⟩) hHeld ?_ ?_
  rotate_left
  · rintro w' ⟨s0, s1, s2, s3⟩
    go_simp
    with_reducible rfl
  rotate_left
  · simp only [Act.put, sa_, sz_, ss_, i64_w, i32_w]
    rfl
  refine take_ (i := 9) (N := some 16) (v := ?_) (a' := ?_) #[true, true, true, true, true, true, false, true, true, true, true, true, false, false, true, false, true, false, false, false] rfl rfl (by kernel_rfl) (fun _ _ _ h => h) (Or.inl ⟨by rfl, ?_⟩) hHeld ?_ ?_
  rotate_left
  · rintro w' ⟨s0, s1, s2, s3⟩
    go_simp
    with_reducible rfl
  rotate_left
  · simp only [Act.put, sa_, sz_, ss_, i64_w, i32_w]
    rfl
  refine take_ (i := 12) (N := some 19) (v := ?_) (a' := ?_) #[true, true, true, true, true, true, false, true, true, true, true, true, true, false, true, false, true, false, false, false] rfl rfl (by kernel_rfl) (fun _ _ _ h => h) (Or.inl ⟨by rfl, ?_⟩) hHeld ?_ ?_
  rotate_left
  · rintro w' ⟨s0, s1, s2, s3⟩
    go_simp
    with_reducible rfl
  rotate_left
  · simp only [Act.put, sa_, sz_, ss_, i64_w, i32_w]
    rfl
  refine take_ (i := 15) (N := some 22) (v := ?_) (a' := ?_) #[true, true, true, true, true, true, false, true, true, true, true, true, true, false, true, true, true, false, false, false] rfl rfl (by kernel_rfl) (fun _ _ _ h => h) (Or.inl ⟨by rfl, ?_⟩) hHeld ?_ ?_
  rotate_left
  · rintro w' ⟨s0, s1, s2, s3⟩
    go_simp
    with_reducible rfl
  rotate_left
  · simp only [Act.put, sa_, sz_, ss_, i64_w, i32_w]
    rfl
  refine take_ (i := 17) (N := some 24) (v := ?_) (a' := ?_) #[true, true, true, true, true, true, false, true, true, true, true, true, true, false, true, true, true, true, false, false] rfl rfl (by kernel_rfl) (fun _ _ _ h => h) (Or.inl ⟨by rfl, ?_⟩) hHeld ?_ ?_
  rotate_left
  · rintro w' ⟨s0, s1, s2, s3⟩
    go_simp
    with_reducible rfl
  rotate_left
  · simp only [Act.put, sa_, sz_, ss_, i64_w, i32_w]
    rfl
  refine one_ (i := 6) (N := some 13) #[true, true, true, true, true, true, true, true, true, true, true, true, true, false, true, true, true, true, false, false] rfl rfl (by kernel_rfl) (by decide) (fun K hK => ?_)
  refine goes_ Try.func58 (by kernel_rfl) rfl #[.pointer (some ⟨gw, 0, none⟩), .int .i64 t0, .int .i64 a, .int .i64 t2] (by rfl) rfl rfl (by simp only [List.map_toArray, List.map_cons, List.map_nil]; rfl) ?_
  with_reducible refine (LW.cell XD.out H1.out).mono ?_
  rintro e w3 ⟨rfl, hX⟩
  refine ⟨_, rfl, ?_⟩
  have X3 := Aside0.mk hX
  clear hX
  refine hK.out _ _ ⟨X3.out.c0, X3.out.c1, X3.out.c2, X3.out.c3⟩ (fun hHeld => ?_)
  clear hK K
  refine norm_ (a' := ?_) ?_ ?_
  rotate_left
  · show Act.put _ (some 13) _ = _
    simp only [Act.put, sa_, sz_, ss_, i64_w, i32_w]
    rfl
  refine one_ (i := 13) (N := some 20) #[true, true, true, true, true, true, true, true, true, true, true, true, true, true, true, true, true, true, false, false] rfl rfl (by kernel_rfl) (by decide) (fun K hK => ?_)
  refine goes_ Try.func58 (by kernel_rfl) rfl #[.pointer (some ⟨gw, 0, none⟩), .int .i64 t1, .int .i64 a, .int .i64 t3] (by rfl) rfl rfl (by simp only [List.map_toArray, List.map_cons, List.map_nil]; rfl) ?_
  with_reducible refine (LW.cell X3.out H2.out).mono ?_
  rintro e w4 ⟨rfl, hX⟩
  refine ⟨_, rfl, ?_⟩
  have X4 := Aside0.mk hX
  clear hX
  refine hK.out _ _ ⟨X4.out.c0, X4.out.c1, X4.out.c2, X4.out.c3⟩ (fun hHeld => ?_)
  clear hK K
  refine norm_ (a' := ?_) ?_ ?_
  rotate_left
  · show Act.put _ (some 20) _ = _
    simp only [Act.put, sa_, sz_, ss_, i64_w, i32_w]
    rfl
  refine pure_ (i := 18) (N := some 25) (v := ?_) (a' := ?_) #[true, true, true, true, true, true, true, true, true, true, true, true, true, true, true, true, true, true, true, false] rfl rfl (by kernel_rfl) (fun _ _ _ h => h) (Or.inl ⟨by rfl, ?_⟩) ?_ ?_
  rotate_left
  · intro w'
    go_simp
    with_reducible rfl
  rotate_left
  · simp only [Act.put, sa_, sz_, ss_, i64_w, i32_w]
    rfl
  refine last_store_ (i := 19) (w1 := (World.setCell (World.setCell (World.setCell (World.setCell w4 ⟨(w.heap.size + 1), 0, none⟩ (.int .i64 x)) ⟨(w.heap.size + 1), 1, none⟩ (.int .i64 y)) ⟨(w.heap.size + 1), 2, none⟩ (.int .i64 t0)) ⟨(w.heap.size + 1), 3, none⟩ (.int .i64 t1))) #[true, true, true, true, true, true, true, true, true, true, true, true, true, true, true, true, true, true, true, true] rfl rfl (by kernel_rfl) (by decide) (by rfl) (run_put4_ rfl (show _ = Value.pointer (some ⟨(w.heap.size + 1), 0, none⟩) from by rfl) (show _ = Value.agg #[.int .i64 x, .int .i64 y, .int .i64 t0, .int .i64 t1] from by rfl) X4.out.m2 (by kernel_rfl) (by rfl)) ?_
  refine done_ (by kernel_rfl) ?_
  generalize hw5 : (World.setCell (World.setCell (World.setCell (World.setCell w4 ⟨(w.heap.size + 1), 0, none⟩ (.int .i64 x)) ⟨(w.heap.size + 1), 1, none⟩ (.int .i64 y)) ⟨(w.heap.size + 1), 2, none⟩ (.int .i64 t0)) ⟨(w.heap.size + 1), 3, none⟩ (.int .i64 t1)) = w5
  have X5 := Aside0.mk (X4.out.set hw5.symm)
  clear hw5
  have d0 := X5.out.d0
  have d1 := X5.out.d1
  have d2 := X5.out.d2
  have d3 := X5.out.d3
  go_wp2
  refine bodyPost_ret (results_cell_row rfl _ _ (w.heap.size + 1) 38 #[.int .i64 x, .int .i64 y, .int .i64 t0, .int .i64 t1] (0, 0) _ rfl X5.out.m2 Try.underlying38 rfl (by kernel_rfl)) rfl ?_
  exact ⟨rfl, X5.out.n, X5.out.bel, X5.out.keep⟩
theorem spec_right (b gw : Nat) (ms : List S52) (gs : List Int) (ok o1 o2 : Bool) (t0 t1 t2 t3 a x y : Int) (w0 w : World) (hM : Mv 89 b w gw ms gs ok) (hB : Below b w0 w) (hbs : b ≤ w.heap.size) (h1 : specC ok t0 a t1 = some (x, o1)) (h2 : specC o1 t2 a t3 = some (y, o2)) :
    Calls Try.prog 65 #[.pointer (some ⟨gw, 0, none⟩), .agg #[.int .i64 t0, .int .i64 t1, .int .i64 t2, .int .i64 t3], .int .i64 a] w fun e w' => e = .returned (.agg #[.int .i64 x, .int .i64 t0, .int .i64 y, .int .i64 t2]) ∧ Mv 89 b w' gw ms gs o2 ∧ Below b w0 w' ∧ KeepT 89 w w' := by
  have X0 := Aside0.mk (LW.start (t0 := t0) (t1 := t1) (t2 := t2) (t3 := t3) (by decide) hM hB hbs)
  have H1 := Aside0.mk h1
  have H2 := Aside0.mk h2
  clear hM hB hbs h1 h2
  go_enter Try.func65, Try.ntmps65
  go_wp2
  have XD := Aside0.mk X0.out.drew
  refine start_ (n := 20) (S := fun w' => w'.cell? ⟨w.heap.size, 0, none⟩ = some (.int .i64 t0) ∧ w'.cell? ⟨w.heap.size, 1, none⟩ = some (.int .i64 t1) ∧ w'.cell? ⟨w.heap.size, 2, none⟩ = some (.int .i64 t2) ∧ w'.cell? ⟨w.heap.size, 3, none⟩ = some (.int .i64 t3)) (ds := [19]) #[false, false, false, false, false, false, false, false, false, false, false, false, false, false, false, false, false, false, false, false] (by kernel_rfl) rfl rfl ⟨XD.out.c0, XD.out.c1, XD.out.c2, XD.out.c3⟩ (fun hHeld => ?_)
  refine pure_ (i := 0) (N := some 7) (v := ?_) (a' := ?_) #[true, false, false, false, false, false, false, false, false, false, false, false, false, false, false, false, false, false, false, false] rfl rfl (by kernel_rfl) (fun _ _ _ h => h) (Or.inl ⟨by rfl, ?_⟩) ?_ ?_
  rotate_left
  · intro w'
    go_simp
    with_reducible rfl
  rotate_left
  · simp only [Act.put, sa_, sz_, ss_, i64_w, i32_w]
    rfl
  refine pure_ (i := 1) (N := some 8) (v := ?_) (a' := ?_) #[true, true, false, false, false, false, false, false, false, false, false, false, false, false, false, false, false, false, false, false] rfl rfl (by kernel_rfl) (fun _ _ _ h => h) (Or.inl ⟨by rfl, ?_⟩) ?_ ?_
  rotate_left
  · intro w'
    go_simp
    with_reducible rfl
  rotate_left
  · simp only [Act.put, sa_, sz_, ss_, i64_w, i32_w]
    rfl
  refine pure_ (i := 3) (N := some 10) (v := ?_) (a' := ?_) #[true, true, false, true, false, false, false, false, false, false, false, false, false, false, false, false, false, false, false, false] rfl rfl (by kernel_rfl) (fun _ _ _ h => h) (Or.inl ⟨by rfl, ?_⟩) ?_ ?_
  rotate_left
  · intro w'
    go_simp
    with_reducible rfl
  rotate_left
  · simp only [Act.put, sa_, sz_, ss_, i64_w, i32_w]
    rfl
  refine pure_ (i := 4) (N := some 11) (v := ?_) (a' := ?_) #[true, true, false, true, true, false, false, false, false, false, false, false, false, false, false, false, false, false, false, false] rfl rfl (by kernel_rfl) (fun _ _ _ h => h) (Or.inl ⟨by rfl, ?_⟩) ?_ ?_
  rotate_left
  · intro w'
    go_simp
    with_reducible rfl
  rotate_left
  · simp only [Act.put, sa_, sz_, ss_, i64_w, i32_w]
    rfl
  refine pure_ (i := 7) (N := some 14) (v := ?_) (a' := ?_) #[true, true, false, true, true, false, false, true, false, false, false, false, false, false, false, false, false, false, false, false] rfl rfl (by kernel_rfl) (fun _ _ _ h => h) (Or.inl ⟨by rfl, ?_⟩) ?_ ?_
  rotate_left
  · intro w'
    go_simp
    with_reducible rfl
  rotate_left
  · simp only [Act.put, sa_, sz_, ss_, i64_w, i32_w]
    rfl
  refine pure_ (i := 9) (N := some 16) (v := ?_) (a' := ?_) #[true, true, false, true, true, false, false, true, false, true, false, false, false, false, false, false, false, false, false, false] rfl rfl (by kernel_rfl) (fun _ _ _ h => h) (Or.inl ⟨by rfl, ?_⟩) ?_ ?_
  rotate_left
  · intro w'
    go_simp
    with_reducible rfl
  rotate_left
  · simp only [Act.put, sa_, sz_, ss_, i64_w, i32_w]
    rfl
  refine pure_ (i := 10) (N := some 17) (v := ?_) (a' := ?_) #[true, true, false, true, true, false, false, true, false, true, true, false, false, false, false, false, false, false, false, false] rfl rfl (by kernel_rfl) (fun _ _ _ h => h) (Or.inl ⟨by rfl, ?_⟩) ?_ ?_
  rotate_left
  · intro w'
    go_simp
    with_reducible rfl
  rotate_left
  · simp only [Act.put, sa_, sz_, ss_, i64_w, i32_w]
    rfl
  refine pure_ (i := 12) (N := some 19) (v := ?_) (a' := ?_) #[true, true, false, true, true, false, false, true, false, true, true, false, true, false, false, false, false, false, false, false] rfl rfl (by kernel_rfl) (fun _ _ _ h => h) (Or.inl ⟨by rfl, ?_⟩) ?_ ?_
  rotate_left
  · intro w'
    go_simp
    with_reducible rfl
  rotate_left
  · simp only [Act.put, sa_, sz_, ss_, i64_w, i32_w]
    rfl
  refine pure_ (i := 13) (N := some 20) (v := ?_) (a' := ?_) #[true, true, false, true, true, false, false, true, false, true, true, false, true, true, false, false, false, false, false, false] rfl rfl (by kernel_rfl) (fun _ _ _ h => h) (Or.inl ⟨by rfl, ?_⟩) ?_ ?_
  rotate_left
  · intro w'
    go_simp
    with_reducible rfl
  rotate_left
  · simp only [Act.put, sa_, sz_, ss_, i64_w, i32_w]
    rfl
  refine pure_ (i := 16) (N := some 23) (v := ?_) (a' := ?_) #[true, true, false, true, true, false, false, true, false, true, true, false, true, true, false, false, true, false, false, false] rfl rfl (by kernel_rfl) (fun _ _ _ h => h) (Or.inl ⟨by rfl, ?_⟩) ?_ ?_
  rotate_left
  · intro w'
    go_simp
    with_reducible rfl
  rotate_left
  · simp only [Act.put, sa_, sz_, ss_, i64_w, i32_w]
    rfl
  refine take_ (i := 2) (N := some 9) (v := ?_) (a' := ?_) #[true, true, true, true, true, false, false, true, false, true, true, false, true, true, false, false, true, false, false, false] rfl rfl (by kernel_rfl) (fun _ _ _ h => h) (Or.inl ⟨by rfl, ?_⟩) hHeld ?_ ?_
  rotate_left
  · rintro w' ⟨s0, s1, s2, s3⟩
    go_simp
    with_reducible rfl
  rotate_left
  · simp only [Act.put, sa_, sz_, ss_, i64_w, i32_w]
    rfl
  refine take_ (i := 5) (N := some 12) (v := ?_) (a' := ?_) #[true, true, true, true, true, true, false, true, false, true, true, false, true, true, false, false, true, false, false, false] rfl rfl (by kernel_rfl) (fun _ _ _ h => h) (Or.inl ⟨by rfl, ?_⟩) hHeld ?_ ?_
  rotate_left
  · rintro w' ⟨s0, s1, s2, s3⟩
    go_simp
    with_reducible rfl
  rotate_left
  · simp only [Act.put, sa_, sz_, ss_, i64_w, i32_w]
    rfl
  refine take_ (i := 8) (N := some 15) (v := ?_) (a' := ?_) #[true, true, true, true, true, true, false, true, true, true, true, false, true, true, false, false, true, false, false, false] rfl rfl (by kernel_rfl) (fun _ _ _ h => h) (Or.inl ⟨by rfl, ?_⟩) hHeld ?_ ?_
  rotate_left
  · rintro w' ⟨s0, s1, s2, s3⟩
    go_simp
    with_reducible rfl
  rotate_left
  · simp only [Act.put, sa_, sz_, ss_, i64_w, i32_w]
    rfl
  refine take_ (i := 11) (N := some 18) (v := ?_) (a' := ?_) #[true, true, true, true, true, true, false, true, true, true, true, true, true, true, false, false, true, false, false, false] rfl rfl (by kernel_rfl) (fun _ _ _ h => h) (Or.inl ⟨by rfl, ?_⟩) hHeld ?_ ?_
  rotate_left
  · rintro w' ⟨s0, s1, s2, s3⟩
    go_simp
    with_reducible rfl
  rotate_left
  · simp only [Act.put, sa_, sz_, ss_, i64_w, i32_w]
    rfl
  refine take_ (i := 14) (N := some 21) (v := ?_) (a' := ?_) #[true, true, true, true, true, true, false, true, true, true, true, true, true, true, true, false, true, false, false, false] rfl rfl (by kernel_rfl) (fun _ _ _ h => h) (Or.inl ⟨by rfl, ?_⟩) hHeld ?_ ?_
  rotate_left
  · rintro w' ⟨s0, s1, s2, s3⟩
    go_simp
    with_reducible rfl
  rotate_left
  · simp only [Act.put, sa_, sz_, ss_, i64_w, i32_w]
    rfl
  refine take_ (i := 17) (N := some 24) (v := ?_) (a' := ?_) #[true, true, true, true, true, true, false, true, true, true, true, true, true, true, true, false, true, true, false, false] rfl rfl (by kernel_rfl) (fun _ _ _ h => h) (Or.inl ⟨by rfl, ?_⟩) hHeld ?_ ?_
  rotate_left
  · rintro w' ⟨s0, s1, s2, s3⟩
    go_simp
    with_reducible rfl
  rotate_left
  · simp only [Act.put, sa_, sz_, ss_, i64_w, i32_w]
    rfl
  refine one_ (i := 6) (N := some 13) #[true, true, true, true, true, true, true, true, true, true, true, true, true, true, true, false, true, true, false, false] rfl rfl (by kernel_rfl) (by decide) (fun K hK => ?_)
  refine goes_ Try.func58 (by kernel_rfl) rfl #[.pointer (some ⟨gw, 0, none⟩), .int .i64 t0, .int .i64 a, .int .i64 t1] (by rfl) rfl rfl (by simp only [List.map_toArray, List.map_cons, List.map_nil]; rfl) ?_
  with_reducible refine (LW.cell XD.out H1.out).mono ?_
  rintro e w3 ⟨rfl, hX⟩
  refine ⟨_, rfl, ?_⟩
  have X3 := Aside0.mk hX
  clear hX
  refine hK.out _ _ ⟨X3.out.c0, X3.out.c1, X3.out.c2, X3.out.c3⟩ (fun hHeld => ?_)
  clear hK K
  refine norm_ (a' := ?_) ?_ ?_
  rotate_left
  · show Act.put _ (some 13) _ = _
    simp only [Act.put, sa_, sz_, ss_, i64_w, i32_w]
    rfl
  refine one_ (i := 15) (N := some 22) #[true, true, true, true, true, true, true, true, true, true, true, true, true, true, true, true, true, true, false, false] rfl rfl (by kernel_rfl) (by decide) (fun K hK => ?_)
  refine goes_ Try.func58 (by kernel_rfl) rfl #[.pointer (some ⟨gw, 0, none⟩), .int .i64 t2, .int .i64 a, .int .i64 t3] (by rfl) rfl rfl (by simp only [List.map_toArray, List.map_cons, List.map_nil]; rfl) ?_
  with_reducible refine (LW.cell X3.out H2.out).mono ?_
  rintro e w4 ⟨rfl, hX⟩
  refine ⟨_, rfl, ?_⟩
  have X4 := Aside0.mk hX
  clear hX
  refine hK.out _ _ ⟨X4.out.c0, X4.out.c1, X4.out.c2, X4.out.c3⟩ (fun hHeld => ?_)
  clear hK K
  refine norm_ (a' := ?_) ?_ ?_
  rotate_left
  · show Act.put _ (some 22) _ = _
    simp only [Act.put, sa_, sz_, ss_, i64_w, i32_w]
    rfl
  refine pure_ (i := 18) (N := some 25) (v := ?_) (a' := ?_) #[true, true, true, true, true, true, true, true, true, true, true, true, true, true, true, true, true, true, true, false] rfl rfl (by kernel_rfl) (fun _ _ _ h => h) (Or.inl ⟨by rfl, ?_⟩) ?_ ?_
  rotate_left
  · intro w'
    go_simp
    with_reducible rfl
  rotate_left
  · simp only [Act.put, sa_, sz_, ss_, i64_w, i32_w]
    rfl
  refine last_store_ (i := 19) (w1 := (World.setCell (World.setCell (World.setCell (World.setCell w4 ⟨(w.heap.size + 1), 0, none⟩ (.int .i64 x)) ⟨(w.heap.size + 1), 1, none⟩ (.int .i64 t0)) ⟨(w.heap.size + 1), 2, none⟩ (.int .i64 y)) ⟨(w.heap.size + 1), 3, none⟩ (.int .i64 t2))) #[true, true, true, true, true, true, true, true, true, true, true, true, true, true, true, true, true, true, true, true] rfl rfl (by kernel_rfl) (by decide) (by rfl) (run_put4_ rfl (show _ = Value.pointer (some ⟨(w.heap.size + 1), 0, none⟩) from by rfl) (show _ = Value.agg #[.int .i64 x, .int .i64 t0, .int .i64 y, .int .i64 t2] from by rfl) X4.out.m2 (by kernel_rfl) (by rfl)) ?_
  refine done_ (by kernel_rfl) ?_
  generalize hw5 : (World.setCell (World.setCell (World.setCell (World.setCell w4 ⟨(w.heap.size + 1), 0, none⟩ (.int .i64 x)) ⟨(w.heap.size + 1), 1, none⟩ (.int .i64 t0)) ⟨(w.heap.size + 1), 2, none⟩ (.int .i64 y)) ⟨(w.heap.size + 1), 3, none⟩ (.int .i64 t2)) = w5
  have X5 := Aside0.mk (X4.out.set hw5.symm)
  clear hw5
  have d0 := X5.out.d0
  have d1 := X5.out.d1
  have d2 := X5.out.d2
  have d3 := X5.out.d3
  go_wp2
  refine bodyPost_ret (results_cell_row rfl _ _ (w.heap.size + 1) 38 #[.int .i64 x, .int .i64 t0, .int .i64 y, .int .i64 t2] (0, 0) _ rfl X5.out.m2 Try.underlying38 rfl (by kernel_rfl)) rfl ?_
  exact ⟨rfl, X5.out.n, X5.out.bel, X5.out.keep⟩

end Go.Proofs.Ytgldplkbacfacaa.MFnEights
