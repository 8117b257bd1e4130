/- Functions of the program as Lean functions, and the proof that the code comes to what they say. Written by a program of this session (myprint.py). -/
import Derived.Test.YtgldplkbacfacaaMFnPairsx0
import Derived.Test.YtgldplkbacfacaaMFnPairsx3
import Derived.Test.YtgldplkbacfacaaMFnPairsx4
namespace Go.Proofs.Ytgldplkbacfacaa.MFnPairs
open Go.RowKit Go.Proofs.Ytgldplkbacfacaa.MOpen Go.Proofs.YtgldplkbacfacaaW.PrintWords Go.Proofs.YtgldplkbacfacaaW.PrintLast Go.Proofs.YtgldplkbacfacaaW.PrintMore
attribute [local go_sem] max2_int min2_int max_two min_two max_three min_three max_four min_four   -- for this text's walks alone
set_option linter.unusedVariables false
set_option linter.unusedSimpArgs false

/-- One cell of block g is stored anew; nothing else turns. -/
def Up (w w' : World) (g j : Nat) (u : Value) : Prop := ∃ n, w' = (w.drewN n).setCell ⟨g, j, none⟩ u
theorem info52_ : (Try.prog.info? 52).map (fun i => (i.zero, i.size, i.bytes)) = some (some (.agg #[(.int .i8 0), (.int .i64 0)]), 2, 16) := by kernel_rfl
/-- A machine's notes at block g (type T): moves, terms, a flag; its rows are its own, from block b on. -/
def Mv (T b : Nat) (w : World) (g : Nat) (ms : List S52) (gs : List Int) (f : Bool) : Prop :=
  ∃ mv gv : Value, w.heap[g]? = some (.cells #[mv, gv, .bool f] T (0, 0)) ∧ b ≤ g ∧ k52.R 52 w b (fun _ => True) mv ms ∧ (Kd.int .i64).R 2 w b (fun _ => True) gv gs
/-- What is no row of moves or terms, and no such notes, stays. -/
def KeepT (T : Nat) (w w' : World) : Prop := w.heap.size ≤ w'.heap.size ∧ ∀ (i : Nat) (cs : Array Value) (t : TypeId), w.heap[i]? = some (Obj.cells cs t (0, 0)) → t ≠ 52 → t ≠ 2 → t ≠ T → w'.heap[i]? = some (Obj.cells cs t (0, 0))
theorem KeepT.refl (T : Nat) (w : World) : KeepT T w w := ⟨Nat.le_refl _, fun _ _ _ h _ _ _ => h⟩
theorem KeepT.trans {T : Nat} {a b c : World} (h : KeepT T a b) (k : KeepT T b c) : KeepT T a c := ⟨Nat.le_trans h.1 k.1, fun i cs t e h1 h2 h3 => k.2 i cs t (h.2 i cs t e h1 h2 h3) h1 h2 h3⟩
theorem KeepT.below {T : Nat} {a b c : World} (h : KeepT T a b) (k : Below b.heap.size b c) : KeepT T a c := ⟨Nat.le_trans h.1 k.size, fun i cs t e h1 h2 h3 => by have := h.2 i cs t e h1 h2 h3; exact (k.block i (blk_lt this)).trans this⟩
theorem KeepT.drewN {T : Nat} {a b : World} (h : KeepT T a b) (n : Nat) : KeepT T a (b.drewN n) := h
theorem KeepT.grown {T e : Nat} {a b c : World} (h : KeepT T a b) {α : Type} {d : Kd α} {base : Nat} {ok : Nat → Prop} {v : Value} {xs : List α} (ho : d.R e b base ok v xs) (he : e = 52 ∨ e = 2) (hg : b.grownBy c v.ownBlock) : KeepT T a c :=
  ⟨Nat.le_trans h.1 hg.size, fun i cs t e1 h1 h2 h3 => by
    have := h.2 i cs t e1 h1 h2 h3
    exact blk_grown this hg (Kd.R_ne ho this (by rcases he with rfl | rfl <;> exact fun e => by first | exact h1 e.symm | exact h2 e.symm))⟩
theorem KeepT.set {T : Nat} {a b : World} (h : KeepT T a b) {g : Nat} {cs : Array Value} (hb : b.heap[g]? = some (.cells cs T (0, 0))) (j : Nat) (u : Value) : KeepT T a (b.setCell ⟨g, j, none⟩ u) :=
  ⟨by simpa [World.setCell] using h.1, fun i cs2 t e h1 h2 h3 => by
    have h4 := h.2 i cs2 t e h1 h2 h3
    exact blk_far h4 (blk_ne h4 hb h3) u⟩
theorem R_set {α : Type} {d : Kd α} {e b g T : Nat} {w : World} {v : Value} {xs : List α} {cs : Array Value} (h : d.R e w b (fun _ => True) v xs) (hb : w.heap[g]? = some (.cells cs T (0, 0))) (ht : ∀ q, q ∈ e :: d.E → q ≠ T) (j : Nat) (u : Value) : d.R e (w.setCell ⟨g, j, none⟩ u) b (fun _ => True) v xs :=
  Kd.R_mono (Kd.R_far (p := ⟨g, j, none⟩) (Kd.R_types h hb ht) (fun k hk => hk.2) u) (fun _ _ => trivial)
theorem Mv.up {T b : Nat} {w w' : World} {g : Nat} {ms : List S52} {gs : List Int} {f f' : Bool} (hT : T ≠ 52 ∧ T ≠ 2) (h : Mv T b w g ms gs f) (hu : Up w w' g 2 (.bool f')) : Mv T b w' g ms gs f' := by
  obtain ⟨mv, gv, hb, hl, hm, hg⟩ := h
  obtain ⟨n, rfl⟩ := hu
  have hb2 : (w.drewN n).heap[g]? = some (.cells #[mv, gv, .bool f] T (0, 0)) := hb
  refine ⟨mv, gv, ?_, hl, R_set (Kd.R_drewN hm n) hb2 (by intro q hq; simp [k52, Kd.iso, Kd.pair, Kd.int, Kd.scalar] at hq; omega) 2 _, R_set (Kd.R_drewN hg n) hb2 (by intro q hq; simp [Kd.int, Kd.scalar] at hq; omega) 2 _⟩
  have := blk_set hb2 2 (.bool f')
  simpa using this
theorem Up.keep {T b : Nat} {w w' : World} {g : Nat} {ms : List S52} {gs : List Int} {f : Bool} {u : Value} (h : Mv T b w g ms gs f) (hu : Up w w' g 2 u) : KeepT T w w' := by
  obtain ⟨mv, gv, hb, hl, hm, hg⟩ := h
  obtain ⟨n, rfl⟩ := hu
  exact KeepT.set ((KeepT.refl T w).drewN n) (show (w.drewN n).heap[g]? = _ from hb) 2 _
theorem Up.below {T b : Nat} {w0 w w' : World} {g j : Nat} {u : Value} (hu : Up w w' g j u) (hB : Below b w0 w) (hg : b ≤ g) : Below b w0 w' := by
  obtain ⟨n, rfl⟩ := hu
  exact (pw_below_drewN hB n).setCell hg _
/-- A machine's notes while they turn: the cells of block g, the rows that stand. -/
structure Mw (T b : Nat) (w0 wi w : World) (g : Nat) (c0 c1 c2 mv gv : Value) (ms : List S52) (gs : List Int) : Prop where
  ty : T ≠ 52 ∧ T ≠ 2
  blk : w.heap[g]? = some (.cells #[c0, c1, c2] T (0, 0))
  lo : b ≤ g
  m : k52.R 52 w b (fun _ => True) mv ms
  t : (Kd.int .i64).R 2 w b (fun _ => True) gv gs
  bel : Below b w0 w
  keep : KeepT T wi w
  sz : b ≤ w.heap.size
section
variable {T b : Nat} {w0 wi w w1 : World} {g : Nat} {c0 c1 c2 mv gv : Value} {ms : List S52} {gs : List Int}
theorem Mw.x0 (h : Mw T b w0 wi w g c0 c1 c2 mv gv ms gs) : w.cell? ⟨g, 0, none⟩ = some c0 := (blk_cell h.blk 0).trans rfl
theorem Mw.x1 (h : Mw T b w0 wi w g c0 c1 c2 mv gv ms gs) : w.cell? ⟨g, 1, none⟩ = some c1 := (blk_cell h.blk 1).trans rfl
theorem Mw.x2 (h : Mw T b w0 wi w g c0 c1 c2 mv gv ms gs) : w.cell? ⟨g, 2, none⟩ = some c2 := (blk_cell h.blk 2).trans rfl
theorem Mw.fr (h : Mw T b w0 wi w g c0 c1 c2 mv gv ms gs) (j : Nat) : w.frozen? ⟨g, j, none⟩ = false := blk_frozen h.blk j
theorem k52_E (T : Nat) (h : T ≠ 52 ∧ T ≠ 2) : ∀ q, q ∈ 52 :: k52.E → q ≠ T := by
  intro q hq
  have : q = 52 := by simpa [k52, Kd.iso, Kd.pair, Kd.int, Kd.scalar] using hq
  omega
theorem int_E (T : Nat) (h : T ≠ 52 ∧ T ≠ 2) : ∀ q, q ∈ 2 :: (Kd.int .i64).E → q ≠ T := by
  intro q hq
  have : q = 2 := by simpa [Kd.int, Kd.scalar] using hq
  omega
theorem Mw.appM (h : Mw T b w0 wi w g c0 c1 c2 mv gv ms gs) {v1 : Value} {ms1 : List S52} (ho : k52.R 52 w1 b (fun _ => True) v1 ms1) (hb1 : Below b w0 w1) (hg1 : w.grownBy w1 mv.ownBlock) : Mw T b w0 wi w1 g c0 c1 c2 v1 gv ms1 gs :=
  ⟨h.ty, blk_grown h.blk hg1 (Kd.R_ne h.m h.blk (Ne.symm h.ty.1)), h.lo, ho, Kd.R_over h.t h.m (by decide) hg1, hb1, h.keep.grown h.m (Or.inl rfl) hg1, Nat.le_trans h.sz hg1.size⟩
theorem Mw.appT (h : Mw T b w0 wi w g c0 c1 c2 mv gv ms gs) {v1 : Value} {gs1 : List Int} (ho : (Kd.int .i64).R 2 w1 b (fun _ => True) v1 gs1) (hb1 : Below b w0 w1) (hg1 : w.grownBy w1 gv.ownBlock) : Mw T b w0 wi w1 g c0 c1 c2 mv v1 ms gs1 :=
  ⟨h.ty, blk_grown h.blk hg1 (Kd.R_ne h.t h.blk (Ne.symm h.ty.2)), h.lo, Kd.R_over h.m h.t (by decide) hg1, ho, hb1, h.keep.grown h.t (Or.inr rfl) hg1, Nat.le_trans h.sz hg1.size⟩
theorem setCell_size (W : World) (p : Addr) (u : Value) : (W.setCell p u).heap.size = W.heap.size := by simp [World.setCell]
theorem Mw.set (h : Mw T b w0 wi w g c0 c1 c2 mv gv ms gs) (j : Nat) (u : Value) {d0 d1 d2 : Value} (e : (#[c0, c1, c2] : Array Value).setIfInBounds j u = #[d0, d1, d2]) : Mw T b w0 wi (w.setCell ⟨g, j, none⟩ u) g d0 d1 d2 mv gv ms gs :=
  ⟨h.ty, by rw [← e]; exact blk_set h.blk j u, h.lo, R_set h.m h.blk (k52_E T h.ty) j u, R_set h.t h.blk (int_E T h.ty) j u, h.bel.setCell h.lo u, h.keep.set h.blk j u, by rw [setCell_size]; exact h.sz⟩
theorem Mw.set0 (h : Mw T b w0 wi w g c0 c1 c2 mv gv ms gs) {u : Value} (hw : w1 = w.setCell ⟨g, 0, none⟩ u) : Mw T b w0 wi w1 g u c1 c2 mv gv ms gs := hw ▸ h.set 0 u rfl
theorem Mw.set1 (h : Mw T b w0 wi w g c0 c1 c2 mv gv ms gs) {u : Value} (hw : w1 = w.setCell ⟨g, 1, none⟩ u) : Mw T b w0 wi w1 g c0 u c2 mv gv ms gs := hw ▸ h.set 1 u rfl
theorem Mw.set2 (h : Mw T b w0 wi w g c0 c1 c2 mv gv ms gs) {u : Value} (hw : w1 = w.setCell ⟨g, 2, none⟩ u) : Mw T b w0 wi w1 g c0 c1 u mv gv ms gs := hw ▸ h.set 2 u rfl
theorem Mw.drewN (h : Mw T b w0 wi w g c0 c1 c2 mv gv ms gs) (n : Nat) : Mw T b w0 wi (w.drewN n) g c0 c1 c2 mv gv ms gs :=
  ⟨h.ty, h.blk, h.lo, Kd.R_drewN h.m n, Kd.R_drewN h.t n, pw_below_drewN h.bel n, h.keep.drewN n, h.sz⟩
theorem Mw.up (h : Mw T b w0 wi w g c0 c1 c2 mv gv ms gs) {u : Value} (hu : Up w w1 g 2 u) : Mw T b w0 wi w1 g c0 c1 u mv gv ms gs := by
  obtain ⟨n, hw⟩ := hu
  exact (h.drewN n).set2 hw
theorem Mw.below (h : Mw T b w0 wi w g c0 c1 c2 mv gv ms gs) (hb : Below w.heap.size w w1) : Mw T b w0 wi w1 g c0 c1 c2 mv gv ms gs :=
  ⟨h.ty, blk_below h.blk hb, h.lo, Kd.R_below h.m hb, Kd.R_below h.t hb, below_then h.bel h.sz hb, h.keep.below hb, Nat.le_trans h.sz hb.size⟩
theorem Mw.alloc (h : Mw T b w0 wi w g c0 c1 c2 mv gv ms gs) (o : Obj) : Mw T b w0 wi (w.alloc o) g c0 c1 c2 mv gv ms gs := h.below (below_alloc (Below.refl _ _) o)
theorem Mw.start {f : Bool} (hT : T ≠ 52 ∧ T ≠ 2) (h : Mv T b w g ms gs f) (hB : Below b w0 w) (hs : b ≤ w.heap.size) : ∃ mv gv, Mw T b w0 w w g mv gv (.bool f) mv gv ms gs := by
  obtain ⟨mv, gv, h1, h2, h3, h4⟩ := h
  exact ⟨mv, gv, hT, h1, h2, h3, h4, hB, KeepT.refl T w, hs⟩
theorem Mw.done {f : Bool} (h : Mw T b w0 wi w g mv gv (.bool f) mv gv ms gs) : Mv T b w g ms gs f ∧ Below b w0 w ∧ KeepT T wi w := ⟨⟨mv, gv, h.blk, h.lo, h.m, h.t⟩, h.bel, h.keep⟩
end
theorem Mw.done' {T b : Nat} {w0 wi w : World} {g : Nat} {c0 c1 mv gv : Value} {ms : List S52} {gs : List Int} {f f' : Bool} (h : Mw T b w0 wi w g c0 c1 (.bool f) mv gv ms gs) (e0 : c0 = mv) (e1 : c1 = gv) (e2 : f = f') : Mv T b w g ms gs f' ∧ Below b w0 w ∧ KeepT T wi w := by
  subst e0 e1 e2; exact h.done
theorem C_two {W : World} {g : Nat} {x y : Int} (h : W.heap[g]? = some (Obj.cells #[.int .i64 x, .int .i64 y] 2 (0, 0))) : Kd.C (Kd.int .i64) W (some ⟨g, 0, none⟩) [x, y].length [x, y] := by
  refine Kd.C_of_reads (d := (0 : Int)) (h1 := fun _ => rfl) ⟨rfl, by simp, fun _ => ⟨_, rfl, fun j hj => ?_⟩⟩
  rw [add_plain]
  have : j = 0 ∨ j = 1 := by simp at hj; omega
  rcases this with rfl | rfl
  · exact (blk_cell h 0).trans rfl
  · exact (blk_cell h 1).trans rfl
theorem two_first (w : World) (n : Nat) (o1 o2 : Obj) : ((w.alloc o1).alloc o2).heap[w.heap.size]? = some o1 := blk_alloc (heap_alloc_new w o1) o2
theorem two_second (w : World) (o1 o2 : Obj) : ((w.alloc o1).alloc o2).heap[w.heap.size + 1]? = some o2 := by
  have h := heap_alloc_new (w.alloc o1) o2
  rwa [show (w.alloc o1).heap.size = w.heap.size + 1 by simp] at h
theorem C_two' {W : World} {g : Nat} {x y x' y' : Int} (h : W.heap[g]? = some (Obj.cells #[.int .i64 x', .int .i64 y'] 2 (0, 0))) (ex : x' = x) (ey : y' = y) : Kd.C (Kd.int .i64) W (some ⟨g, 0, none⟩) 2 [x, y] := by
  subst ex ey; exact C_two h
theorem i64_wrap (n : Int) : IntKind.i64.wrap n = wrap64 n := by unfold wrap64; rw [IntKind.wrap_i64]
section
variable {b : Nat} {w0 w w1 : World} {ms ms1 : List S52} {gs gs1 : List Int} {ov ov1 : Bool}
theorem Mv.below {T : Nat} {g : Nat} (h : Mv T b w g ms gs ov) (hb : Below w.heap.size w w1) : Mv T b w1 g ms gs ov := by
  obtain ⟨mv, gv, h1, h2, h3, h4⟩ := h
  exact ⟨mv, gv, blk_below h1 hb, h2, Kd.R_below h3 hb, Kd.R_below h4 hb⟩
/-- A store into another block. -/
theorem Mv.far {T T' g g' : Nat} {cs : Array Value} (h : Mv T b w g ms gs ov) (hb : w.heap[g']? = some (Obj.cells cs T' (0, 0))) (h1 : T' ≠ 52) (h2 : T' ≠ 2) (h3 : T' ≠ T) (j : Nat) (u : Value) : Mv T b (w.setCell ⟨g', j, none⟩ u) g ms gs ov := by
  obtain ⟨mv, gv, e1, e2, e3, e4⟩ := h
  exact ⟨mv, gv, blk_far e1 (blk_ne e1 hb (Ne.symm h3)) u, e2, R_set e3 hb (k52_E T' ⟨h1, h2⟩) j u, R_set e4 hb (int_E T' ⟨h1, h2⟩) j u⟩
end
/-- A machine with four numbers: numbers, how many terms were taken, moves, terms given, the flag. -/
structure PSt where
  A : Int
  B : Int
  C : Int
  D : Int
  tk : Int
  ms : List S52
  gs : List Int
  ov : Bool
def specC (ok : Bool) (a b c : Int) : Option (Int × Bool) := (spec_l04Cell.f a b c).bind fun t => some (t.1, ok && t.2)
set_option maxHeartbeats 8000000 in
set_option maxRecDepth 100000 in
theorem spec_cell (g : Nat) (mv gv : Value) (ok : Bool) (a b c r1 : Int) (r2 : Bool) (w : World) (hb : w.heap[g]? = some (.cells #[mv, gv, .bool ok] 89 (0, 0))) (h : specC ok a b c = some (r1, r2)) :
    Calls Try.prog 58 #[.pointer (some ⟨g, 0, none⟩), .int .i64 a, .int .i64 b, .int .i64 c] w fun e w' => e = .returned (.int .i64 r1) ∧ Up w w' g 2 (.bool r2) := by
  obtain ⟨⟨t1, t2⟩, A0, H⟩ := Option.bind_eq_some_iff.mp h
  have A := Aside0.mk A0
  clear A0 h
  simp only [Option.some.injEq, Prod.mk.injEq] at H
  obtain ⟨rfl, rfl⟩ := H
  have hc : w.cell? ⟨g, 2, none⟩ = some (.bool ok) := (blk_cell hb 2).trans rfl
  have hf := blk_frozen hb 2
  clear hb
  cases ok with
  | false =>
    go_enter Try.func58, Try.ntmps58
    go_wp2_with (first | (go_at_call 78; (with_reducible refine (spec_l04Cell.calls a b c t1 t2 _ A.out).mono ?_); rintro e w' ⟨rfl, ⟨nd, rfl⟩⟩))
    go_ret
    exact ⟨rfl, _, rfl⟩
  | true =>
    go_enter Try.func58, Try.ntmps58
    go_wp2_with (first | (go_at_call 78; (with_reducible refine (spec_l04Cell.calls a b c t1 t2 _ A.out).mono ?_); rintro e w' ⟨rfl, ⟨nd, rfl⟩⟩))
    go_ret
    exact ⟨rfl, _, rfl⟩
set_option maxHeartbeats 8000000 in
set_option maxRecDepth 100000 in
theorem spec_give (b g : Nat) (ms : List S52) (gs : List Int) (f : Bool) (q : Int) (w0 w : World) (hM : Mv 89 b w g ms gs f) (hB : Below b w0 w) (hbs : b ≤ w.heap.size) (hl : ms.length < 1000000) (hl2 : gs.length < 1000000) :
    Calls Try.prog 57 #[.pointer (some ⟨g, 0, none⟩), .int .i64 q] w fun e w' => e = .returned (.tuple #[]) ∧ Mv 89 b w' g (ms ++ [⟨1, q⟩]) (gs ++ [q]) f ∧ Below b w0 w' ∧ KeepT 89 w w' := by
  obtain ⟨mv, gv, h⟩ := Mw.start (by decide) hM hB hbs
  obtain ⟨A2, c2, rfl⟩ := Kd.R_slice h.t
  have X0 := Aside0.mk h
  clear h hM hB hbs
  have x0w := X0.out.x0
  go_enter Try.func57, Try.ntmps57
  go_wp2_with (first | ((with_reducible refine gate_builtin (b := .append) (xs := #[.tmp 8, .tmp 11]) rfl ?_); at_builtin; refine Kd.R_append k52 (w0 := w0) b rfl (.tmp 8) (.tmp 11) 33 52 (.agg #[(.int .i8 0), (.int .i64 0)]) 16 rfl Try.underlying33 info52_ rfl (by decide) (by omega) mv ms (⟨1, q⟩ : S52) [.int .i8 1, .int .i64 q] (fun _ => True) (fun _ => False) rfl rfl ?aP (fun _ hk => hk.elim) ?aF ?aO ?aB ?aS ?aL ?_; (case aP => exact k52_mkM _ _ _ (⟨1, q⟩ : S52)); (case aB => exact X0.out.bel); (case aF => exact (fun _ _ => trivial)); (case aO => exact X0.out.m); (case aS => exact X0.out.sz); (case aL => omega); intro v_ w1 ho hb1 hg1 hat; obtain ⟨Aw1, cw1, rfl⟩ := Kd.R_slice ho; have X1 := Aside0.mk (X0.out.appM ho hb1 hg1); clear ho hb1 hg1 hat X0; have x0w1 := X1.out.x0; have x1w1 := X1.out.x1; have x2w1 := X1.out.x2; have f0w1 := X1.out.fr 0; have f1w1 := X1.out.fr 1; have f2w1 := X1.out.fr 2) | ((with_reducible refine gate_store (t := 33) (p := 14) rfl ?_); refine store_event (t := 33) (p := 14) (v := ?vo_w2) (w1 := (w1.setCell ⟨g, 0, none⟩ (.slice Aw1 (ms.length + 1) cw1))) ?hg ?ho ?hn ?hr ?_; (case ho => rfl); (case hg => rfl); (case hn => rfl); (case hr => first | (go_simp; done) | (go_simp; rfl)); intro w2 hw; have X2 := Aside0.mk (X1.out.set0 hw); clear hw X1; have x0w2 := X2.out.x0; have x1w2 := X2.out.x1; have x2w2 := X2.out.x2; have f0w2 := X2.out.fr 0; have f1w2 := X2.out.fr 1; have f2w2 := X2.out.fr 2) | ((with_reducible refine gate_builtin (b := .append) (xs := #[.tmp 19, .tmp 21]) rfl ?_); at_builtin; refine Kd.R_append (Kd.int .i64) (w0 := w0) b rfl (.tmp 19) (.tmp 21) 24 2 (.int .i64 0) 8 rfl Try.underlying24 info2 rfl (by decide) (by omega) (.slice A2 gs.length c2) gs q [.int .i64 q] (fun _ => True) (fun _ => False) rfl rfl ?aP (fun _ hk => hk.elim) ?aF ?aO ?aB ?aS ?aL ?_; (case aP => exact rfl); (case aB => exact X2.out.bel); (case aF => exact (fun _ _ => trivial)); (case aO => exact X2.out.t); (case aS => exact X2.out.sz); (case aL => omega); intro v_ w3 ho hb1 hg1 hat; obtain ⟨Aw3, cw3, rfl⟩ := Kd.R_slice ho; have X3 := Aside0.mk (X2.out.appT ho hb1 hg1); clear ho hb1 hg1 hat X2; have x0w3 := X3.out.x0; have x1w3 := X3.out.x1; have x2w3 := X3.out.x2; have f0w3 := X3.out.fr 0; have f1w3 := X3.out.fr 1; have f2w3 := X3.out.fr 2) | ((with_reducible refine gate_store (t := 24) (p := 24) rfl ?_); refine store_event (t := 24) (p := 24) (v := ?vo_w4) (w1 := (w3.setCell ⟨g, 1, none⟩ (.slice Aw3 (gs.length + 1) cw3))) ?hg ?ho ?hn ?hr ?_; (case ho => rfl); (case hg => rfl); (case hn => rfl); (case hr => first | (go_simp; done) | (go_simp; rfl)); intro w4 hw; have X4 := Aside0.mk (X3.out.set1 hw); clear hw X3; have x0w4 := X4.out.x0; have x1w4 := X4.out.x1; have x2w4 := X4.out.x2; have f0w4 := X4.out.fr 0; have f1w4 := X4.out.fr 1; have f2w4 := X4.out.fr 2))
  go_end0
  exact ⟨rfl, X4.out.done' (by simp) (by simp) (by simp)⟩
/-- The reference's machine with four numbers while it moves. -/
structure QW (b : Nat) (w0 w : World) (gw gm : Nat) (A B C D : Int) (ms : List S52) (gs : List Int) (ok : Bool) : Prop where
  n : Mv 89 b w gw ms gs ok
  m : w.heap[gm]? = some (.cells #[.int .i64 A, .int .i64 B, .int .i64 C, .int .i64 D] 27 (0, 0))
  lm : b ≤ gm
  bel : Below b w0 w
  sz : b ≤ w.heap.size
section
variable {b : Nat} {w0 w w1 : World} {gw gm : Nat} {A B C D : Int} {ms ms1 : List S52} {gs gs1 : List Int} {ok ok1 : Bool}
theorem QW.below (h : QW b w0 w gw gm A B C D ms gs ok) (hb : Below w.heap.size w w1) : QW b w0 w1 gw gm A B C D ms gs ok :=
  ⟨h.n.below hb, blk_below h.m hb, h.lm, below_then h.bel h.sz hb, Nat.le_trans h.sz hb.size⟩
theorem QW.drew (h : QW b w0 w gw gm A B C D ms gs ok) : QW b w0 w.drew gw gm A B C D ms gs ok := h.below (below_drew (Below.refl _ _))
theorem QW.note (h : QW b w0 w gw gm A B C D ms gs ok) (hn : Mv 89 b w1 gw ms1 gs1 ok1) (hb : Below b w0 w1) (hk : KeepT 89 w w1) : QW b w0 w1 gw gm A B C D ms1 gs1 ok1 :=
  ⟨hn, hk.2 _ _ _ h.m (by decide) (by decide) (by decide), h.lm, hb, Nat.le_trans h.sz hk.1⟩
theorem QW.up (h : QW b w0 w gw gm A B C D ms gs ok) (hu : Up w w1 gw 2 (.bool ok1)) : QW b w0 w1 gw gm A B C D ms gs ok1 := by
  have hk := Up.keep h.n hu
  obtain ⟨mv, gv, h1, h2, h3, h4⟩ := h.n
  exact h.note (h.n.up (by decide) hu) (Up.below (T := 89) hu h.bel h2) hk
theorem QW.c0 (h : QW b w0 w gw gm A B C D ms gs ok) : w.cell? ⟨gm, 0, none⟩ = some (.int .i64 A) := (blk_cell h.m 0).trans rfl
theorem QW.c1 (h : QW b w0 w gw gm A B C D ms gs ok) : w.cell? ⟨gm, 1, none⟩ = some (.int .i64 B) := (blk_cell h.m 1).trans rfl
theorem QW.c2 (h : QW b w0 w gw gm A B C D ms gs ok) : w.cell? ⟨gm, 2, none⟩ = some (.int .i64 C) := (blk_cell h.m 2).trans rfl
theorem QW.c3 (h : QW b w0 w gw gm A B C D ms gs ok) : w.cell? ⟨gm, 3, none⟩ = some (.int .i64 D) := (blk_cell h.m 3).trans rfl
theorem QW.cw (h : QW b w0 w gw gm A B C D ms gs ok) : w.cell? ⟨gw, 2, none⟩ = some (.bool ok) := by
  obtain ⟨mv, gv, h1, _⟩ := h.n
  exact (blk_cell h1 2).trans rfl
theorem QW.mset1 (h : QW b w0 w gw gm A B C D ms gs ok) {a : Int} (j : Nat) {A' B' C' D' : Int} (e : (#[.int .i64 A, .int .i64 B, .int .i64 C, .int .i64 D] : Array Value).setIfInBounds j (.int .i64 a) = #[.int .i64 A', .int .i64 B', .int .i64 C', .int .i64 D']) : QW b w0 (w.setCell ⟨gm, j, none⟩ (.int .i64 a)) gw gm A' B' C' D' ms gs ok := by
  refine ⟨h.n.far h.m (by decide) (by decide) (by decide) j _, ?_, h.lm, h.bel.setCell h.lm _, by rw [setCell_size]; exact h.sz⟩
  rw [← e]
  exact blk_set h.m j _
theorem QW.mset (h : QW b w0 w gw gm A B C D ms gs ok) {A' B' C' D' : Int} (hw : w1 = (((w.setCell ⟨gm, 0, none⟩ (.int .i64 A')).setCell ⟨gm, 1, none⟩ (.int .i64 B')).setCell ⟨gm, 2, none⟩ (.int .i64 C')).setCell ⟨gm, 3, none⟩ (.int .i64 D')) : QW b w0 w1 gw gm A' B' C' D' ms gs ok := by
  subst hw
  exact (((h.mset1 0 rfl).mset1 1 rfl).mset1 2 rfl).mset1 3 rfl
theorem QW.cell {o : Bool} {a1 a2 a3 r : Int} (h : QW b w0 w gw gm A B C D ms gs ok) (hc : specC ok a1 a2 a3 = some (r, o)) :
    Calls Try.prog 58 #[.pointer (some ⟨gw, 0, none⟩), .int .i64 a1, .int .i64 a2, .int .i64 a3] w fun e w' => e = .returned (.int .i64 r) ∧ QW b w0 w' gw gm A B C D ms gs o := by
  obtain ⟨mv, gv, h1, h2, h3, h4⟩ := h.n
  refine (spec_cell gw mv gv ok a1 a2 a3 r o w h1 hc).mono ?_
  rintro e w' ⟨rfl, hu⟩
  exact ⟨rfl, h.up hu⟩
end
theorem alike_two (k : Nat) (Aa Ab : Option Addr) (x y u v q : Int) (ok : Bool) (W : World) (h1 : Kd.C (Kd.int .i64) W Aa 2 [x, y]) (h2 : Kd.C (Kd.int .i64) W Ab 2 [u, v]) (h : spec_l04Alike.f k [x, y] [u, v] = some (q, ok)) :
    Calls Try.prog 56 #[.slice Aa 2 2, .slice Ab 2 2] W fun e w' => e = .returned (.tuple #[.int .i64 q, .bool ok]) ∧ Drawn0 W w' := spec_l04Alike.calls k Aa 2 [x, y] Ab 2 [u, v] q ok W h1 (Nat.le_refl 2) h2 (Nat.le_refl 2) h
def stepS (k : Nat) (xs : List Int) (s : PSt) : Option (Bool × PSt) :=
  if (xs.length : Int) < s.tk ∧ s.C = 0 then some (false, s) else
  (spec_l04Alike.f k [s.A, wrap64 (s.A + s.B)] [s.C, wrap64 (s.C + s.D)]).bind fun t =>
    if t.2 = true ∧ 0 < s.tk then
      (specC s.ov (wrap64 (-t.1)) s.C s.A).bind fun c => (specC c.2 (wrap64 (-t.1)) s.D s.B).bind fun d => some (true, ⟨s.C, s.D, c.1, d.1, s.tk, s.ms ++ [⟨1, t.1⟩], s.gs ++ [t.1], d.2⟩)
    else if s.tk = (xs.length : Int) then some (true, ⟨s.A, s.A, s.C, s.C, s.tk + 1, s.ms ++ [⟨2, 0⟩], s.gs, s.ov⟩)
    else if s.tk < (xs.length : Int) then
      (specC s.ov s.A (rd xs s.tk) s.B).bind fun c => (specC c.2 s.C (rd xs s.tk) s.D).bind fun d => some (true, ⟨c.1, s.A, d.1, s.C, s.tk + 1, s.ms ++ [⟨2, rd xs s.tk⟩], s.gs, d.2⟩)
    else none
def runS (k : Nat) (xs : List Int) : Nat → PSt → Option PSt
  | 0, _ => none
  | n + 1, s => if s.ov = true then (if s.ms.length < 1000000 ∧ s.gs.length < 1000000 ∧ 0 ≤ s.tk ∧ s.tk < 1000000 ∧ xs.length < 1000000 then (stepS k xs s).bind fun r => (if r.1 = true then runS k xs n r.2 else some r.2) else none) else some s
theorem QW_start {A B C D : Int} {w : World} :
    QW w.heap.size w ((w.alloc (.cells #[.int .i64 A, .int .i64 B, .int .i64 C, .int .i64 D] 27)).alloc (.cells #[.slice none 0 0, .slice none 0 0, .bool true] 89)) (w.heap.size + 1) w.heap.size A B C D [] [] true :=
  ⟨⟨_, _, two_second w _ _, by omega, Kd.R_nil _ _ _ _ _, Kd.R_nil _ _ _ _ _⟩, two_first w 0 _ _, Nat.le_refl _, below_alloc (below_alloc (Below.refl _ _) _) _, by simp; omega⟩
set_option maxHeartbeats 16000000 in
set_option maxRecDepth 100000 in
theorem l04Pair_calls (k : Nat) (A B C D : Int) (xs : List Int) (A1 : Option Addr) (c1 : Nat) (s : PSt) (w : World) (hr : Kd.C (Kd.int .i64) w A1 xs.length xs) (hc : xs.length ≤ c1) (hs : runS k xs k ⟨A, B, C, D, 0, [], [], true⟩ = some s) :
    Calls Try.prog 40 #[.agg #[.int .i64 A, .int .i64 B, .int .i64 C, .int .i64 D], .slice A1 xs.length c1] w fun e w' => ∃ gw, e = .returned (.pointer (some ⟨gw, 0, none⟩)) ∧ Mv 89 w.heap.size w' gw s.ms s.gs s.ov ∧ Below w.heap.size w w' := by
  have HR := Aside0.mk hr
  have HC := Aside0.mk hc
  have HS := Aside0.mk hs
  clear hr hc hs
  go_enter Try.func40, Try.ntmps40
  go_wp2
  go_loopg [6] k (fun kq v6 w' => ∃ s1 : PSt, v6 = .int .i64 s1.tk ∧ Aside0 (runS k xs kq s1 = some s) ∧ Aside0 (kq ≤ k) ∧ Aside0 (QW w.heap.size w w' (w.heap.size + 1) w.heap.size s1.A s1.B s1.C s1.D s1.ms s1.gs s1.ov))
  case atStart => exact ⟨⟨A, B, C, D, 0, [], [], true⟩, rfl, HS, ⟨Nat.le_refl _⟩, ⟨QW_start⟩⟩
  case round =>
    obtain ⟨⟨E, F, G, H, tk, ms, gs, ov⟩, rfl, HR1, HK1, X0⟩ := hrel
    simp only at X0
    clear HS
    cases gk with
    | zero => exact absurd HR1.out (by simp [runS])
    | succ k1 =>
      have h := HR1.out
      rw [runS] at h
      simp only at h
      clear HR1
      cases ov with
      | false =>
        rw [if_neg (by decide)] at h
        obtain rfl := Option.some.inj h
        clear h
        have cw0 := X0.out.cw
        go_wp2
        go_ret
        exact ⟨_, rfl, X0.out.n, X0.out.bel⟩
      | true =>
        rw [if_pos rfl] at h
        by_cases cb : ms.length < 1000000 ∧ gs.length < 1000000 ∧ 0 ≤ tk ∧ tk < 1000000 ∧ xs.length < 1000000
        rotate_left
        · rw [if_neg cb] at h
          cases h
        · rw [if_pos cb] at h
          have htk0 := cb.2.2.1
          have htk2 := cb.2.2.2.1
          have CB := Aside0.mk cb
          clear cb
          have cw0 := X0.out.cw
          have c0w := X0.out.c0
          have c1w := X0.out.c1
          have c2w := X0.out.c2
          have c3w := X0.out.c3
          have al2 : ∀ o : Obj, (wr.alloc o).cell? ⟨w.heap.size, 2, none⟩ = some (.int .i64 G) := fun o => ((below_alloc (Below.refl wr.heap.size wr) o).cell (World.block_lt_of_cell? wr _ c2w)).trans c2w
          have al3 : ∀ o : Obj, (wr.alloc o).cell? ⟨w.heap.size, 3, none⟩ = some (.int .i64 H) := fun o => ((below_alloc (Below.refl wr.heap.size wr) o).cell (World.block_lt_of_cell? wr _ c3w)).trans c3w
          obtain ⟨⟨r, s2⟩, hst, h⟩ := Option.bind_eq_some_iff.mp h
          unfold stepS at hst
          simp only at hst h
          by_cases ce : (xs.length : Int) < tk ∧ G = 0
          · rw [if_pos ce] at hst
            simp only [Option.some.injEq, Prod.mk.injEq] at hst
            obtain ⟨rfl, rfl⟩ := hst
            rw [if_neg (by decide)] at h
            obtain rfl := Option.some.inj h
            clear h
            have f1 : decide ((xs.length : Int) < tk) = true := decide_eq_true ce.1
            have f2 : (G == 0) = true := beq_iff_eq.mpr ce.2
            clear ce
            go_wp2
            go_ret
            exact ⟨_, rfl, X0.out.n, X0.out.bel⟩
          · rw [if_neg ce] at hst
            obtain ⟨⟨q, yes⟩, hg, hst⟩ := Option.bind_eq_some_iff.mp hst
            simp only at hst
            have HG := Aside0.mk hg
            clear hg
            by_cases cg : yes = true ∧ 0 < tk
            · rw [if_pos cg] at hst
              obtain ⟨rfl, htp⟩ := cg
              obtain ⟨⟨x, o1⟩, e1, hst⟩ := Option.bind_eq_some_iff.mp hst
              obtain ⟨⟨y, o2⟩, e2, hst⟩ := Option.bind_eq_some_iff.mp hst
              simp only [Option.some.injEq, Prod.mk.injEq] at hst
              obtain ⟨rfl, rfl⟩ := hst
              rw [if_pos rfl] at h
              have HN := Aside0.mk h
              have H1 := Aside0.mk e1
              have H2 := Aside0.mk e2
              clear h e1 e2
              have ht0 : decide ((0 : Int) < tk) = true := decide_eq_true htp
              by_cases cl : (xs.length : Int) < tk
              · have f1 : decide ((xs.length : Int) < tk) = true := decide_eq_true cl
                have f2 : (G == 0) = false := beq_eq_false_iff_ne.mpr (fun z => ce ⟨cl, z⟩)
                clear cl ce
                go_wp2_with (first | (go_at_call 56; (with_reducible refine (alike_two k _ _ E (wrap64 (E + F)) G (wrap64 (G + H)) q true _ ?s1 ?s3 HG.out).mono ?_); (case s1 => exact C_two' (two_first wr 0 _ _) rfl rfl); (case s3 => exact C_two' (two_second wr _ _) rfl rfl); rintro e w1 ⟨rfl, hd⟩; have X1 := Aside0.mk (X0.out.below (below_step (below_alloc (below_alloc (Below.refl _ _) _) _) hd.below)); clear hd) | (go_at_call 57; (with_reducible refine (spec_give w.heap.size (w.heap.size + 1) ms gs true q w _ ?s1 ?s2 ?s3 CB.out.1 CB.out.2.1).mono ?_); (case s1 => exact X1.out.n); (case s2 => exact X1.out.bel); (case s3 => exact X1.out.sz); rintro e w2 ⟨rfl, hn, hb, hk⟩; have X2 := Aside0.mk (X1.out.note hn hb hk); clear hn hb hk))
                refine start_ (n := 22) (S := fun w' => w'.cell? ⟨w.heap.size, 0, none⟩ = some (.int .i64 E) ∧ w'.cell? ⟨w.heap.size, 1, none⟩ = some (.int .i64 F) ∧ w'.cell? ⟨w.heap.size, 2, none⟩ = some (.int .i64 G) ∧ w'.cell? ⟨w.heap.size, 3, none⟩ = some (.int .i64 H)) (ds := [21]) #[false, false, false, false, false, false, false, false, false, false, false, false, false, false, false, false, false, false, false, false, false, false] (by kernel_rfl) rfl rfl ⟨X2.out.drew.c0, X2.out.drew.c1, X2.out.drew.c2, X2.out.drew.c3⟩ (fun hHeld => ?_)
                refine pure_ (i := 0) (N := some 54) (v := ?_) (a' := ?_) #[true, false, false, false, false, false, false, false, false, false, false, false, false, false, false, false, false, false, false, false, false, false] rfl rfl (by kernel_rfl) (fun _ _ _ h => h) (Or.inl ⟨by rfl, ?_⟩) ?_ ?_
                rotate_left
                · intro w'
                  go_simp
                  with_reducible rfl
                rotate_left
                · simp only [Act.put, List.setIfInBounds_toArray, List.set_cons_zero, List.set_cons_succ, i64_w, i32_w]
                  rfl
                refine pure_ (i := 2) (N := some 56) (v := ?_) (a' := ?_) #[true, false, true, false, false, false, false, false, false, false, false, false, false, false, false, false, false, false, false, false, false, false] rfl rfl (by kernel_rfl) (fun _ _ _ h => h) (Or.inl ⟨by rfl, ?_⟩) ?_ ?_
                rotate_left
                · intro w'
                  go_simp
                  with_reducible rfl
                rotate_left
                · simp only [Act.put, List.setIfInBounds_toArray, List.set_cons_zero, List.set_cons_succ, i64_w, i32_w]
                  rfl
                refine pure_ (i := 4) (N := some 58) (v := ?_) (a' := ?_) #[true, false, true, false, true, false, false, false, false, false, false, false, false, false, false, false, false, false, false, false, false, false] rfl rfl (by kernel_rfl) (fun _ _ _ h => h) (Or.inl ⟨by rfl, ?_⟩) ?_ ?_
                rotate_left
                · intro w'
                  go_simp
                  with_reducible rfl
                rotate_left
                · simp only [Act.put, List.setIfInBounds_toArray, List.set_cons_zero, List.set_cons_succ, i64_w, i32_w]
                  rfl
                refine pure_ (i := 5) (N := some 59) (v := ?_) (a' := ?_) #[true, false, true, false, true, true, false, false, false, false, false, false, false, false, false, false, false, false, false, false, false, false] rfl rfl (by kernel_rfl) (fun _ _ _ h => h) (Or.inl ⟨by rfl, ?_⟩) ?_ ?_
                rotate_left
                · intro w'
                  go_simp
                  with_reducible rfl
                rotate_left
                · simp only [Act.put, List.setIfInBounds_toArray, List.set_cons_zero, List.set_cons_succ, i64_w, i32_w]
                  rfl
                refine pure_ (i := 6) (N := some 60) (v := ?_) (a' := ?_) #[true, false, true, false, true, true, true, false, false, false, false, false, false, false, false, false, false, false, false, false, false, false] rfl rfl (by kernel_rfl) (fun _ _ _ h => h) (Or.inl ⟨by rfl, ?_⟩) ?_ ?_
                rotate_left
                · intro w'
                  go_simp
                  with_reducible rfl
                rotate_left
                · simp only [Act.put, List.setIfInBounds_toArray, List.set_cons_zero, List.set_cons_succ, i64_w, i32_w]
                  rfl
                refine pure_ (i := 7) (N := some 61) (v := ?_) (a' := ?_) #[true, false, true, false, true, true, true, true, false, false, false, false, false, false, false, false, false, false, false, false, false, false] rfl rfl (by kernel_rfl) (fun _ _ _ h => h) (Or.inl ⟨by rfl, ?_⟩) ?_ ?_
                rotate_left
                · intro w'
                  go_simp
                  with_reducible rfl
                rotate_left
                · simp only [Act.put, List.setIfInBounds_toArray, List.set_cons_zero, List.set_cons_succ, i64_w, i32_w]
                  rfl
                refine pure_ (i := 9) (N := some 63) (v := ?_) (a' := ?_) #[true, false, true, false, true, true, true, true, false, true, false, false, false, false, false, false, false, false, false, false, false, false] rfl rfl (by kernel_rfl) (fun _ _ _ h => h) (Or.inl ⟨by rfl, ?_⟩) ?_ ?_
                rotate_left
                · intro w'
                  go_simp
                  with_reducible rfl
                rotate_left
                · simp only [Act.put, List.setIfInBounds_toArray, List.set_cons_zero, List.set_cons_succ, i64_w, i32_w]
                  rfl
                refine pure_ (i := 12) (N := some 66) (v := ?_) (a' := ?_) #[true, false, true, false, true, true, true, true, false, true, false, false, true, false, false, false, false, false, false, false, false, false] rfl rfl (by kernel_rfl) (fun _ _ _ h => h) (Or.inl ⟨by rfl, ?_⟩) ?_ ?_
                rotate_left
                · intro w'
                  go_simp
                  with_reducible rfl
                rotate_left
                · simp only [Act.put, List.setIfInBounds_toArray, List.set_cons_zero, List.set_cons_succ, i64_w, i32_w]
                  rfl
                refine pure_ (i := 13) (N := some 67) (v := ?_) (a' := ?_) #[true, false, true, false, true, true, true, true, false, true, false, false, true, true, false, false, false, false, false, false, false, false] rfl rfl (by kernel_rfl) (fun _ _ _ h => h) (Or.inl ⟨by rfl, ?_⟩) ?_ ?_
                rotate_left
                · intro w'
                  go_simp
                  with_reducible rfl
                rotate_left
                · simp only [Act.put, List.setIfInBounds_toArray, List.set_cons_zero, List.set_cons_succ, i64_w, i32_w]
                  rfl
                refine pure_ (i := 14) (N := some 68) (v := ?_) (a' := ?_) #[true, false, true, false, true, true, true, true, false, true, false, false, true, true, true, false, false, false, false, false, false, false] rfl rfl (by kernel_rfl) (fun _ _ _ h => h) (Or.inl ⟨by rfl, ?_⟩) ?_ ?_
                rotate_left
                · intro w'
                  go_simp
                  with_reducible rfl
                rotate_left
                · simp only [Act.put, List.setIfInBounds_toArray, List.set_cons_zero, List.set_cons_succ, i64_w, i32_w]
                  rfl
                refine pure_ (i := 15) (N := some 69) (v := ?_) (a' := ?_) #[true, false, true, false, true, true, true, true, false, true, false, false, true, true, true, true, false, false, false, false, false, false] rfl rfl (by kernel_rfl) (fun _ _ _ h => h) (Or.inl ⟨by rfl, ?_⟩) ?_ ?_
                rotate_left
                · intro w'
                  go_simp
                  with_reducible rfl
                rotate_left
                · simp only [Act.put, List.setIfInBounds_toArray, List.set_cons_zero, List.set_cons_succ, i64_w, i32_w]
                  rfl
                refine pure_ (i := 17) (N := some 71) (v := ?_) (a' := ?_) #[true, false, true, false, true, true, true, true, false, true, false, false, true, true, true, true, false, true, false, false, false, false] rfl rfl (by kernel_rfl) (fun _ _ _ h => h) (Or.inl ⟨by rfl, ?_⟩) ?_ ?_
                rotate_left
                · intro w'
                  go_simp
                  with_reducible rfl
                rotate_left
                · simp only [Act.put, List.setIfInBounds_toArray, List.set_cons_zero, List.set_cons_succ, i64_w, i32_w]
                  rfl
                refine take_ (i := 1) (N := some 55) (v := ?_) (a' := ?_) #[true, true, true, false, true, true, true, true, false, true, false, false, true, true, true, true, false, true, false, false, false, false] rfl rfl (by kernel_rfl) (fun _ _ _ h => h) (Or.inl ⟨by rfl, ?_⟩) hHeld ?_ ?_
                rotate_left
                · rintro w' ⟨s0, s1, s2, s3⟩
                  go_simp
                  with_reducible rfl
                rotate_left
                · simp only [Act.put, List.setIfInBounds_toArray, List.set_cons_zero, List.set_cons_succ, i64_w, i32_w]
                  rfl
                refine take_ (i := 3) (N := some 57) (v := ?_) (a' := ?_) #[true, true, true, true, true, true, true, true, false, true, false, false, true, true, true, true, false, true, false, false, false, false] rfl rfl (by kernel_rfl) (fun _ _ _ h => h) (Or.inl ⟨by rfl, ?_⟩) hHeld ?_ ?_
                rotate_left
                · rintro w' ⟨s0, s1, s2, s3⟩
                  go_simp
                  with_reducible rfl
                rotate_left
                · simp only [Act.put, List.setIfInBounds_toArray, List.set_cons_zero, List.set_cons_succ, i64_w, i32_w]
                  rfl
                refine take_ (i := 8) (N := some 62) (v := ?_) (a' := ?_) #[true, true, true, true, true, true, true, true, true, true, false, false, true, true, true, true, false, true, false, false, false, false] rfl rfl (by kernel_rfl) (fun _ _ _ h => h) (Or.inl ⟨by rfl, ?_⟩) hHeld ?_ ?_
                rotate_left
                · rintro w' ⟨s0, s1, s2, s3⟩
                  go_simp
                  with_reducible rfl
                rotate_left
                · simp only [Act.put, List.setIfInBounds_toArray, List.set_cons_zero, List.set_cons_succ, i64_w, i32_w]
                  rfl
                refine take_ (i := 10) (N := some 64) (v := ?_) (a' := ?_) #[true, true, true, true, true, true, true, true, true, true, true, false, true, true, true, true, false, true, false, false, false, false] rfl rfl (by kernel_rfl) (fun _ _ _ h => h) (Or.inl ⟨by rfl, ?_⟩) hHeld ?_ ?_
                rotate_left
                · rintro w' ⟨s0, s1, s2, s3⟩
                  go_simp
                  with_reducible rfl
                rotate_left
                · simp only [Act.put, List.setIfInBounds_toArray, List.set_cons_zero, List.set_cons_succ, i64_w, i32_w]
                  rfl
                refine take_ (i := 16) (N := some 70) (v := ?_) (a' := ?_) #[true, true, true, true, true, true, true, true, true, true, true, false, true, true, true, true, true, true, false, false, false, false] rfl rfl (by kernel_rfl) (fun _ _ _ h => h) (Or.inl ⟨by rfl, ?_⟩) hHeld ?_ ?_
                rotate_left
                · rintro w' ⟨s0, s1, s2, s3⟩
                  go_simp
                  with_reducible rfl
                rotate_left
                · simp only [Act.put, List.setIfInBounds_toArray, List.set_cons_zero, List.set_cons_succ, i64_w, i32_w]
                  rfl
                refine take_ (i := 18) (N := some 72) (v := ?_) (a' := ?_) #[true, true, true, true, true, true, true, true, true, true, true, false, true, true, true, true, true, true, true, false, false, false] rfl rfl (by kernel_rfl) (fun _ _ _ h => h) (Or.inl ⟨by rfl, ?_⟩) hHeld ?_ ?_
                rotate_left
                · rintro w' ⟨s0, s1, s2, s3⟩
                  go_simp
                  with_reducible rfl
                rotate_left
                · simp only [Act.put, List.setIfInBounds_toArray, List.set_cons_zero, List.set_cons_succ, i64_w, i32_w]
                  rfl
                refine one_ (i := 11) (N := some 65) #[true, true, true, true, true, true, true, true, true, true, true, true, true, true, true, true, true, true, true, false, false, false] rfl rfl (by kernel_rfl) (by decide) (fun K hK => ?_)
                refine goes_ Try.func58 (by kernel_rfl) rfl #[.pointer (some ⟨w.heap.size + 1, 0, none⟩), .int .i64 (wrap64 (-q)), .int .i64 G, .int .i64 E] (by rfl) rfl rfl (by simp only [List.map_toArray, List.map_cons, List.map_nil]; rfl) ?_
                with_reducible refine (QW.cell X2.out.drew H1.out).mono ?_
                rintro e w3 ⟨rfl, hX⟩
                refine ⟨_, rfl, ?_⟩
                have X3 := Aside0.mk hX
                clear hX
                refine hK.out _ _ ⟨X3.out.c0, X3.out.c1, X3.out.c2, X3.out.c3⟩ (fun hHeld => ?_)
                clear hK K
                refine norm_ (a' := ?_) ?_ ?_
                rotate_left
                · show Act.put _ (some 65) _ = _
                  simp only [Act.put, List.setIfInBounds_toArray, List.set_cons_zero, List.set_cons_succ, i64_w, i32_w]
                  rfl
                refine one_ (i := 19) (N := some 73) #[true, true, true, true, true, true, true, true, true, true, true, true, true, true, true, true, true, true, true, true, false, false] rfl rfl (by kernel_rfl) (by decide) (fun K hK => ?_)
                refine goes_ Try.func58 (by kernel_rfl) rfl #[.pointer (some ⟨w.heap.size + 1, 0, none⟩), .int .i64 (wrap64 (-q)), .int .i64 H, .int .i64 F] (by rfl) rfl rfl (by simp only [List.map_toArray, List.map_cons, List.map_nil]; rfl) ?_
                with_reducible refine (QW.cell X3.out H2.out).mono ?_
                rintro e w4 ⟨rfl, hX⟩
                refine ⟨_, rfl, ?_⟩
                have X4 := Aside0.mk hX
                clear hX
                refine hK.out _ _ ⟨X4.out.c0, X4.out.c1, X4.out.c2, X4.out.c3⟩ (fun hHeld => ?_)
                clear hK K
                refine norm_ (a' := ?_) ?_ ?_
                rotate_left
                · show Act.put _ (some 73) _ = _
                  simp only [Act.put, List.setIfInBounds_toArray, List.set_cons_zero, List.set_cons_succ, i64_w, i32_w]
                  rfl
                refine pure_ (i := 20) (N := some 74) (v := ?_) (a' := ?_) #[true, true, true, true, true, true, true, true, true, true, true, true, true, true, true, true, true, true, true, true, true, false] rfl rfl (by kernel_rfl) (fun _ _ _ h => h) (Or.inl ⟨by rfl, ?_⟩) ?_ ?_
                rotate_left
                · intro w'
                  go_simp
                  with_reducible rfl
                rotate_left
                · simp only [Act.put, List.setIfInBounds_toArray, List.set_cons_zero, List.set_cons_succ, i64_w, i32_w]
                  rfl
                refine last_store_ (i := 21) (w1 := (World.setCell (World.setCell (World.setCell (World.setCell w4 ⟨w.heap.size, 0, none⟩ (.int .i64 G)) ⟨w.heap.size, 1, none⟩ (.int .i64 H)) ⟨w.heap.size, 2, none⟩ (.int .i64 x)) ⟨w.heap.size, 3, none⟩ (.int .i64 y))) #[true, true, true, true, true, true, true, true, true, true, true, true, true, true, true, true, true, true, true, true, true, true] rfl rfl (by kernel_rfl) (by decide) (by rfl) (run_put4_ rfl (show _ = Value.pointer (some ⟨w.heap.size, 0, none⟩) from by rfl) (show _ = Value.agg #[.int .i64 G, .int .i64 H, .int .i64 x, .int .i64 y] from by rfl) X4.out.m (by kernel_rfl) (by rfl)) ?_
                refine done_ (by kernel_rfl) ?_
                generalize hw5 : (World.setCell (World.setCell (World.setCell (World.setCell w4 ⟨w.heap.size, 0, none⟩ (.int .i64 G)) ⟨w.heap.size, 1, none⟩ (.int .i64 H)) ⟨w.heap.size, 2, none⟩ (.int .i64 x)) ⟨w.heap.size, 3, none⟩ (.int .i64 y)) = w5
                have X5 := Aside0.mk (X4.out.mset hw5.symm)
                clear hw5
                go_wp2
                go_roundg k1
                case measure => omega
                case rel => exact ⟨⟨G, H, x, y, tk, ms ++ [⟨1, q⟩], gs ++ [q], o2⟩, rfl, HN, ⟨by have := HK1.out; omega⟩, X5⟩
              · have f1 : decide ((xs.length : Int) < tk) = false := decide_eq_false cl
                clear cl ce
                go_wp2_with (first | (go_at_call 56; (with_reducible refine (alike_two k _ _ E (wrap64 (E + F)) G (wrap64 (G + H)) q true _ ?s1 ?s3 HG.out).mono ?_); (case s1 => exact C_two' (two_first wr 0 _ _) rfl rfl); (case s3 => exact C_two' (two_second wr _ _) rfl rfl); rintro e w1 ⟨rfl, hd⟩; have X1 := Aside0.mk (X0.out.below (below_step (below_alloc (below_alloc (Below.refl _ _) _) _) hd.below)); clear hd) | (go_at_call 57; (with_reducible refine (spec_give w.heap.size (w.heap.size + 1) ms gs true q w _ ?s1 ?s2 ?s3 CB.out.1 CB.out.2.1).mono ?_); (case s1 => exact X1.out.n); (case s2 => exact X1.out.bel); (case s3 => exact X1.out.sz); rintro e w2 ⟨rfl, hn, hb, hk⟩; have X2 := Aside0.mk (X1.out.note hn hb hk); clear hn hb hk))
                refine start_ (n := 22) (S := fun w' => w'.cell? ⟨w.heap.size, 0, none⟩ = some (.int .i64 E) ∧ w'.cell? ⟨w.heap.size, 1, none⟩ = some (.int .i64 F) ∧ w'.cell? ⟨w.heap.size, 2, none⟩ = some (.int .i64 G) ∧ w'.cell? ⟨w.heap.size, 3, none⟩ = some (.int .i64 H)) (ds := [21]) #[false, false, false, false, false, false, false, false, false, false, false, false, false, false, false, false, false, false, false, false, false, false] (by kernel_rfl) rfl rfl ⟨X2.out.drew.c0, X2.out.drew.c1, X2.out.drew.c2, X2.out.drew.c3⟩ (fun hHeld => ?_)
                refine pure_ (i := 0) (N := some 54) (v := ?_) (a' := ?_) #[true, false, false, false, false, false, false, false, false, false, false, false, false, false, false, false, false, false, false, false, false, false] rfl rfl (by kernel_rfl) (fun _ _ _ h => h) (Or.inl ⟨by rfl, ?_⟩) ?_ ?_
                rotate_left
                · intro w'
                  go_simp
                  with_reducible rfl
                rotate_left
                · simp only [Act.put, List.setIfInBounds_toArray, List.set_cons_zero, List.set_cons_succ, i64_w, i32_w]
                  rfl
                refine pure_ (i := 2) (N := some 56) (v := ?_) (a' := ?_) #[true, false, true, false, false, false, false, false, false, false, false, false, false, false, false, false, false, false, false, false, false, false] rfl rfl (by kernel_rfl) (fun _ _ _ h => h) (Or.inl ⟨by rfl, ?_⟩) ?_ ?_
                rotate_left
                · intro w'
                  go_simp
                  with_reducible rfl
                rotate_left
                · simp only [Act.put, List.setIfInBounds_toArray, List.set_cons_zero, List.set_cons_succ, i64_w, i32_w]
                  rfl
                refine pure_ (i := 4) (N := some 58) (v := ?_) (a' := ?_) #[true, false, true, false, true, false, false, false, false, false, false, false, false, false, false, false, false, false, false, false, false, false] rfl rfl (by kernel_rfl) (fun _ _ _ h => h) (Or.inl ⟨by rfl, ?_⟩) ?_ ?_
                rotate_left
                · intro w'
                  go_simp
                  with_reducible rfl
                rotate_left
                · simp only [Act.put, List.setIfInBounds_toArray, List.set_cons_zero, List.set_cons_succ, i64_w, i32_w]
                  rfl
                refine pure_ (i := 5) (N := some 59) (v := ?_) (a' := ?_) #[true, false, true, false, true, true, false, false, false, false, false, false, false, false, false, false, false, false, false, false, false, false] rfl rfl (by kernel_rfl) (fun _ _ _ h => h) (Or.inl ⟨by rfl, ?_⟩) ?_ ?_
                rotate_left
                · intro w'
                  go_simp
                  with_reducible rfl
                rotate_left
                · simp only [Act.put, List.setIfInBounds_toArray, List.set_cons_zero, List.set_cons_succ, i64_w, i32_w]
                  rfl
                refine pure_ (i := 6) (N := some 60) (v := ?_) (a' := ?_) #[true, false, true, false, true, true, true, false, false, false, false, false, false, false, false, false, false, false, false, false, false, false] rfl rfl (by kernel_rfl) (fun _ _ _ h => h) (Or.inl ⟨by rfl, ?_⟩) ?_ ?_
                rotate_left
                · intro w'
                  go_simp
                  with_reducible rfl
                rotate_left
                · simp only [Act.put, List.setIfInBounds_toArray, List.set_cons_zero, List.set_cons_succ, i64_w, i32_w]
                  rfl
                refine pure_ (i := 7) (N := some 61) (v := ?_) (a' := ?_) #[true, false, true, false, true, true, true, true, false, false, false, false, false, false, false, false, false, false, false, false, false, false] rfl rfl (by kernel_rfl) (fun _ _ _ h => h) (Or.inl ⟨by rfl, ?_⟩) ?_ ?_
                rotate_left
                · intro w'
                  go_simp
                  with_reducible rfl
                rotate_left
                · simp only [Act.put, List.setIfInBounds_toArray, List.set_cons_zero, List.set_cons_succ, i64_w, i32_w]
                  rfl
                refine pure_ (i := 9) (N := some 63) (v := ?_) (a' := ?_) #[true, false, true, false, true, true, true, true, false, true, false, false, false, false, false, false, false, false, false, false, false, false] rfl rfl (by kernel_rfl) (fun _ _ _ h => h) (Or.inl ⟨by rfl, ?_⟩) ?_ ?_
                rotate_left
                · intro w'
                  go_simp
                  with_reducible rfl
                rotate_left
                · simp only [Act.put, List.setIfInBounds_toArray, List.set_cons_zero, List.set_cons_succ, i64_w, i32_w]
                  rfl
                refine pure_ (i := 12) (N := some 66) (v := ?_) (a' := ?_) #[true, false, true, false, true, true, true, true, false, true, false, false, true, false, false, false, false, false, false, false, false, false] rfl rfl (by kernel_rfl) (fun _ _ _ h => h) (Or.inl ⟨by rfl, ?_⟩) ?_ ?_
                rotate_left
                · intro w'
                  go_simp
                  with_reducible rfl
                rotate_left
                · simp only [Act.put, List.setIfInBounds_toArray, List.set_cons_zero, List.set_cons_succ, i64_w, i32_w]
                  rfl
                refine pure_ (i := 13) (N := some 67) (v := ?_) (a' := ?_) #[true, false, true, false, true, true, true, true, false, true, false, false, true, true, false, false, false, false, false, false, false, false] rfl rfl (by kernel_rfl) (fun _ _ _ h => h) (Or.inl ⟨by rfl, ?_⟩) ?_ ?_
                rotate_left
                · intro w'
                  go_simp
                  with_reducible rfl
                rotate_left
                · simp only [Act.put, List.setIfInBounds_toArray, List.set_cons_zero, List.set_cons_succ, i64_w, i32_w]
                  rfl
                refine pure_ (i := 14) (N := some 68) (v := ?_) (a' := ?_) #[true, false, true, false, true, true, true, true, false, true, false, false, true, true, true, false, false, false, false, false, false, false] rfl rfl (by kernel_rfl) (fun _ _ _ h => h) (Or.inl ⟨by rfl, ?_⟩) ?_ ?_
                rotate_left
                · intro w'
                  go_simp
                  with_reducible rfl
                rotate_left
                · simp only [Act.put, List.setIfInBounds_toArray, List.set_cons_zero, List.set_cons_succ, i64_w, i32_w]
                  rfl
                refine pure_ (i := 15) (N := some 69) (v := ?_) (a' := ?_) #[true, false, true, false, true, true, true, true, false, true, false, false, true, true, true, true, false, false, false, false, false, false] rfl rfl (by kernel_rfl) (fun _ _ _ h => h) (Or.inl ⟨by rfl, ?_⟩) ?_ ?_
                rotate_left
                · intro w'
                  go_simp
                  with_reducible rfl
                rotate_left
                · simp only [Act.put, List.setIfInBounds_toArray, List.set_cons_zero, List.set_cons_succ, i64_w, i32_w]
                  rfl
                refine pure_ (i := 17) (N := some 71) (v := ?_) (a' := ?_) #[true, false, true, false, true, true, true, true, false, true, false, false, true, true, true, true, false, true, false, false, false, false] rfl rfl (by kernel_rfl) (fun _ _ _ h => h) (Or.inl ⟨by rfl, ?_⟩) ?_ ?_
                rotate_left
                · intro w'
                  go_simp
                  with_reducible rfl
                rotate_left
                · simp only [Act.put, List.setIfInBounds_toArray, List.set_cons_zero, List.set_cons_succ, i64_w, i32_w]
                  rfl
                refine take_ (i := 1) (N := some 55) (v := ?_) (a' := ?_) #[true, true, true, false, true, true, true, true, false, true, false, false, true, true, true, true, false, true, false, false, false, false] rfl rfl (by kernel_rfl) (fun _ _ _ h => h) (Or.inl ⟨by rfl, ?_⟩) hHeld ?_ ?_
                rotate_left
                · rintro w' ⟨s0, s1, s2, s3⟩
                  go_simp
                  with_reducible rfl
                rotate_left
                · simp only [Act.put, List.setIfInBounds_toArray, List.set_cons_zero, List.set_cons_succ, i64_w, i32_w]
                  rfl
                refine take_ (i := 3) (N := some 57) (v := ?_) (a' := ?_) #[true, true, true, true, true, true, true, true, false, true, false, false, true, true, true, true, false, true, false, false, false, false] rfl rfl (by kernel_rfl) (fun _ _ _ h => h) (Or.inl ⟨by rfl, ?_⟩) hHeld ?_ ?_
                rotate_left
                · rintro w' ⟨s0, s1, s2, s3⟩
                  go_simp
                  with_reducible rfl
                rotate_left
                · simp only [Act.put, List.setIfInBounds_toArray, List.set_cons_zero, List.set_cons_succ, i64_w, i32_w]
                  rfl
                refine take_ (i := 8) (N := some 62) (v := ?_) (a' := ?_) #[true, true, true, true, true, true, true, true, true, true, false, false, true, true, true, true, false, true, false, false, false, false] rfl rfl (by kernel_rfl) (fun _ _ _ h => h) (Or.inl ⟨by rfl, ?_⟩) hHeld ?_ ?_
                rotate_left
                · rintro w' ⟨s0, s1, s2, s3⟩
                  go_simp
                  with_reducible rfl
                rotate_left
                · simp only [Act.put, List.setIfInBounds_toArray, List.set_cons_zero, List.set_cons_succ, i64_w, i32_w]
                  rfl
                refine take_ (i := 10) (N := some 64) (v := ?_) (a' := ?_) #[true, true, true, true, true, true, true, true, true, true, true, false, true, true, true, true, false, true, false, false, false, false] rfl rfl (by kernel_rfl) (fun _ _ _ h => h) (Or.inl ⟨by rfl, ?_⟩) hHeld ?_ ?_
                rotate_left
                · rintro w' ⟨s0, s1, s2, s3⟩
                  go_simp
                  with_reducible rfl
                rotate_left
                · simp only [Act.put, List.setIfInBounds_toArray, List.set_cons_zero, List.set_cons_succ, i64_w, i32_w]
                  rfl
                refine take_ (i := 16) (N := some 70) (v := ?_) (a' := ?_) #[true, true, true, true, true, true, true, true, true, true, true, false, true, true, true, true, true, true, false, false, false, false] rfl rfl (by kernel_rfl) (fun _ _ _ h => h) (Or.inl ⟨by rfl, ?_⟩) hHeld ?_ ?_
                rotate_left
                · rintro w' ⟨s0, s1, s2, s3⟩
                  go_simp
                  with_reducible rfl
                rotate_left
                · simp only [Act.put, List.setIfInBounds_toArray, List.set_cons_zero, List.set_cons_succ, i64_w, i32_w]
                  rfl
                refine take_ (i := 18) (N := some 72) (v := ?_) (a' := ?_) #[true, true, true, true, true, true, true, true, true, true, true, false, true, true, true, true, true, true, true, false, false, false] rfl rfl (by kernel_rfl) (fun _ _ _ h => h) (Or.inl ⟨by rfl, ?_⟩) hHeld ?_ ?_
                rotate_left
                · rintro w' ⟨s0, s1, s2, s3⟩
                  go_simp
                  with_reducible rfl
                rotate_left
                · simp only [Act.put, List.setIfInBounds_toArray, List.set_cons_zero, List.set_cons_succ, i64_w, i32_w]
                  rfl
                refine one_ (i := 11) (N := some 65) #[true, true, true, true, true, true, true, true, true, true, true, true, true, true, true, true, true, true, true, false, false, false] rfl rfl (by kernel_rfl) (by decide) (fun K hK => ?_)
                refine goes_ Try.func58 (by kernel_rfl) rfl #[.pointer (some ⟨w.heap.size + 1, 0, none⟩), .int .i64 (wrap64 (-q)), .int .i64 G, .int .i64 E] (by rfl) rfl rfl (by simp only [List.map_toArray, List.map_cons, List.map_nil]; rfl) ?_
                with_reducible refine (QW.cell X2.out.drew H1.out).mono ?_
                rintro e w3 ⟨rfl, hX⟩
                refine ⟨_, rfl, ?_⟩
                have X3 := Aside0.mk hX
                clear hX
                refine hK.out _ _ ⟨X3.out.c0, X3.out.c1, X3.out.c2, X3.out.c3⟩ (fun hHeld => ?_)
                clear hK K
                refine norm_ (a' := ?_) ?_ ?_
                rotate_left
                · show Act.put _ (some 65) _ = _
                  simp only [Act.put, List.setIfInBounds_toArray, List.set_cons_zero, List.set_cons_succ, i64_w, i32_w]
                  rfl
                refine one_ (i := 19) (N := some 73) #[true, true, true, true, true, true, true, true, true, true, true, true, true, true, true, true, true, true, true, true, false, false] rfl rfl (by kernel_rfl) (by decide) (fun K hK => ?_)
                refine goes_ Try.func58 (by kernel_rfl) rfl #[.pointer (some ⟨w.heap.size + 1, 0, none⟩), .int .i64 (wrap64 (-q)), .int .i64 H, .int .i64 F] (by rfl) rfl rfl (by simp only [List.map_toArray, List.map_cons, List.map_nil]; rfl) ?_
                with_reducible refine (QW.cell X3.out H2.out).mono ?_
                rintro e w4 ⟨rfl, hX⟩
                refine ⟨_, rfl, ?_⟩
                have X4 := Aside0.mk hX
                clear hX
                refine hK.out _ _ ⟨X4.out.c0, X4.out.c1, X4.out.c2, X4.out.c3⟩ (fun hHeld => ?_)
                clear hK K
                refine norm_ (a' := ?_) ?_ ?_
                rotate_left
                · show Act.put _ (some 73) _ = _
                  simp only [Act.put, List.setIfInBounds_toArray, List.set_cons_zero, List.set_cons_succ, i64_w, i32_w]
                  rfl
                refine pure_ (i := 20) (N := some 74) (v := ?_) (a' := ?_) #[true, true, true, true, true, true, true, true, true, true, true, true, true, true, true, true, true, true, true, true, true, false] rfl rfl (by kernel_rfl) (fun _ _ _ h => h) (Or.inl ⟨by rfl, ?_⟩) ?_ ?_
                rotate_left
                · intro w'
                  go_simp
                  with_reducible rfl
                rotate_left
                · simp only [Act.put, List.setIfInBounds_toArray, List.set_cons_zero, List.set_cons_succ, i64_w, i32_w]
                  rfl
                refine last_store_ (i := 21) (w1 := (World.setCell (World.setCell (World.setCell (World.setCell w4 ⟨w.heap.size, 0, none⟩ (.int .i64 G)) ⟨w.heap.size, 1, none⟩ (.int .i64 H)) ⟨w.heap.size, 2, none⟩ (.int .i64 x)) ⟨w.heap.size, 3, none⟩ (.int .i64 y))) #[true, true, true, true, true, true, true, true, true, true, true, true, true, true, true, true, true, true, true, true, true, true] rfl rfl (by kernel_rfl) (by decide) (by rfl) (run_put4_ rfl (show _ = Value.pointer (some ⟨w.heap.size, 0, none⟩) from by rfl) (show _ = Value.agg #[.int .i64 G, .int .i64 H, .int .i64 x, .int .i64 y] from by rfl) X4.out.m (by kernel_rfl) (by rfl)) ?_
                refine done_ (by kernel_rfl) ?_
                generalize hw5 : (World.setCell (World.setCell (World.setCell (World.setCell w4 ⟨w.heap.size, 0, none⟩ (.int .i64 G)) ⟨w.heap.size, 1, none⟩ (.int .i64 H)) ⟨w.heap.size, 2, none⟩ (.int .i64 x)) ⟨w.heap.size, 3, none⟩ (.int .i64 y)) = w5
                have X5 := Aside0.mk (X4.out.mset hw5.symm)
                clear hw5
                go_wp2
                go_roundg k1
                case measure => omega
                case rel => exact ⟨⟨G, H, x, y, tk, ms ++ [⟨1, q⟩], gs ++ [q], o2⟩, rfl, HN, ⟨by have := HK1.out; omega⟩, X5⟩
            · rw [if_neg cg] at hst
              by_cases ci : tk = (xs.length : Int)
              · rw [if_pos ci] at hst
                simp only [Option.some.injEq, Prod.mk.injEq] at hst
                obtain ⟨rfl, rfl⟩ := hst
                rw [if_pos rfl] at h
                have HN := Aside0.mk h
                clear h
                have f1 : decide ((xs.length : Int) < tk) = false := decide_eq_false (by omega)
                have f3 : (tk == (xs.length : Int)) = true := beq_iff_eq.mpr ci
                clear ce ci
                cases yes with
                | false =>
                  clear cg
                  go_wp2_with (first | (go_at_call 56; (with_reducible refine (alike_two k _ _ E (wrap64 (E + F)) G (wrap64 (G + H)) q false _ ?s1 ?s3 HG.out).mono ?_); (case s1 => exact C_two' (two_first wr 0 _ _) rfl rfl); (case s3 => exact C_two' (two_second wr _ _) rfl rfl); rintro e w1 ⟨rfl, hd⟩; have X1 := Aside0.mk (X0.out.below (below_step (below_alloc (below_alloc (Below.refl _ _) _) _) hd.below)); clear hd; obtain ⟨mv, gv, hMw⟩ := Mw.start (by decide) X1.out.n X1.out.bel X1.out.sz; have M0 := Aside0.mk hMw; clear hMw; have x0w1 := M0.out.x0) | ((with_reducible refine gate_builtin (b := .append) (xs := #[.tmp 83, .tmp 85]) rfl ?_); at_builtin; refine Kd.R_append k52 (w0 := w) w.heap.size rfl (.tmp 83) (.tmp 85) 33 52 (.agg #[(.int .i8 0), (.int .i64 0)]) 16 rfl Try.underlying33 info52_ rfl (by decide) (by omega) mv ms (⟨2, 0⟩ : S52) [.int .i8 2, .int .i64 0] (fun _ => True) (fun _ => False) rfl rfl ?aP (fun _ hk => hk.elim) ?aF ?aO ?aB ?aS ?aL ?_; (case aP => exact k52_mkM _ _ _ (⟨2, 0⟩ : S52)); (case aB => exact M0.out.bel); (case aF => exact (fun _ _ => trivial)); (case aO => exact M0.out.m); (case aS => exact M0.out.sz); (case aL => have := CB.out.1; omega); intro v_ w2 ho hb1 hg1 hat; obtain ⟨Aw2, cw2, rfl⟩ := Kd.R_slice ho; have M1 := Aside0.mk (M0.out.appM ho hb1 hg1); clear ho hb1 hg1 hat M0; have x0w2 := M1.out.x0; have x1w2 := M1.out.x1; have x2w2 := M1.out.x2; have f0w2 := M1.out.fr 0; have f1w2 := M1.out.fr 1; have f2w2 := M1.out.fr 2) | ((with_reducible refine gate_store (t := 33) (p := 88) rfl ?_); refine store_event (t := 33) (p := 88) (v := ?vo_w3_1) (w1 := (w2.setCell ⟨w.heap.size + 1, 0, none⟩ (.slice Aw2 (ms.length + 1) cw2))) ?hg ?ho ?hn ?hr ?_; (case ho => rfl); (case hg => rfl); (case hn => rfl); (case hr => first | (go_simp; done) | (go_simp; rfl)); intro w3 hw; have M2 := Aside0.mk (M1.out.set0 hw); clear hw M1; have x0w3 := M2.out.x0; have x1w3 := M2.out.x1; have x2w3 := M2.out.x2; have f0w3 := M2.out.fr 0; have f1w3 := M2.out.fr 1; have f2w3 := M2.out.fr 2; have X3 := Aside0.mk (X1.out.note (M2.out.done' (by simp) (by simp) rfl).1 (M2.out.done' (by simp) (by simp) rfl).2.1 (M2.out.done' (by simp) (by simp) rfl).2.2); clear M2; have d0w3 := X3.out.c0; have d1w3 := X3.out.c1; have d2w3 := X3.out.c2; have d3w3 := X3.out.c3; have g0w3 := blk_frozen X3.out.m 0; have g1w3 := blk_frozen X3.out.m 1; have g2w3 := blk_frozen X3.out.m 2; have g3w3 := blk_frozen X3.out.m 3))
                  go_roundg k1
                  case measure => omega
                  case rel => exact ⟨⟨E, E, G, G, tk + 1, ms ++ [⟨2, 0⟩], gs, true⟩, rfl, HN, ⟨by have := HK1.out; omega⟩, ⟨X3.out.mset rfl⟩⟩
                | true =>
                  have ht0 : decide ((0 : Int) < tk) = false := decide_eq_false (fun z => cg ⟨rfl, z⟩)
                  clear cg
                  go_wp2_with (first | (go_at_call 56; (with_reducible refine (alike_two k _ _ E (wrap64 (E + F)) G (wrap64 (G + H)) q true _ ?s1 ?s3 HG.out).mono ?_); (case s1 => exact C_two' (two_first wr 0 _ _) rfl rfl); (case s3 => exact C_two' (two_second wr _ _) rfl rfl); rintro e w1 ⟨rfl, hd⟩; have X1 := Aside0.mk (X0.out.below (below_step (below_alloc (below_alloc (Below.refl _ _) _) _) hd.below)); clear hd; obtain ⟨mv, gv, hMw⟩ := Mw.start (by decide) X1.out.n X1.out.bel X1.out.sz; have M0 := Aside0.mk hMw; clear hMw; have x0w1 := M0.out.x0) | ((with_reducible refine gate_builtin (b := .append) (xs := #[.tmp 83, .tmp 85]) rfl ?_); at_builtin; refine Kd.R_append k52 (w0 := w) w.heap.size rfl (.tmp 83) (.tmp 85) 33 52 (.agg #[(.int .i8 0), (.int .i64 0)]) 16 rfl Try.underlying33 info52_ rfl (by decide) (by omega) mv ms (⟨2, 0⟩ : S52) [.int .i8 2, .int .i64 0] (fun _ => True) (fun _ => False) rfl rfl ?aP (fun _ hk => hk.elim) ?aF ?aO ?aB ?aS ?aL ?_; (case aP => exact k52_mkM _ _ _ (⟨2, 0⟩ : S52)); (case aB => exact M0.out.bel); (case aF => exact (fun _ _ => trivial)); (case aO => exact M0.out.m); (case aS => exact M0.out.sz); (case aL => have := CB.out.1; omega); intro v_ w2 ho hb1 hg1 hat; obtain ⟨Aw2, cw2, rfl⟩ := Kd.R_slice ho; have M1 := Aside0.mk (M0.out.appM ho hb1 hg1); clear ho hb1 hg1 hat M0; have x0w2 := M1.out.x0; have x1w2 := M1.out.x1; have x2w2 := M1.out.x2; have f0w2 := M1.out.fr 0; have f1w2 := M1.out.fr 1; have f2w2 := M1.out.fr 2) | ((with_reducible refine gate_store (t := 33) (p := 88) rfl ?_); refine store_event (t := 33) (p := 88) (v := ?vo_w3_2) (w1 := (w2.setCell ⟨w.heap.size + 1, 0, none⟩ (.slice Aw2 (ms.length + 1) cw2))) ?hg ?ho ?hn ?hr ?_; (case ho => rfl); (case hg => rfl); (case hn => rfl); (case hr => first | (go_simp; done) | (go_simp; rfl)); intro w3 hw; have M2 := Aside0.mk (M1.out.set0 hw); clear hw M1; have x0w3 := M2.out.x0; have x1w3 := M2.out.x1; have x2w3 := M2.out.x2; have f0w3 := M2.out.fr 0; have f1w3 := M2.out.fr 1; have f2w3 := M2.out.fr 2; have X3 := Aside0.mk (X1.out.note (M2.out.done' (by simp) (by simp) rfl).1 (M2.out.done' (by simp) (by simp) rfl).2.1 (M2.out.done' (by simp) (by simp) rfl).2.2); clear M2; have d0w3 := X3.out.c0; have d1w3 := X3.out.c1; have d2w3 := X3.out.c2; have d3w3 := X3.out.c3; have g0w3 := blk_frozen X3.out.m 0; have g1w3 := blk_frozen X3.out.m 1; have g2w3 := blk_frozen X3.out.m 2; have g3w3 := blk_frozen X3.out.m 3))
                  go_roundg k1
                  case measure => omega
                  case rel => exact ⟨⟨E, E, G, G, tk + 1, ms ++ [⟨2, 0⟩], gs, true⟩, rfl, HN, ⟨by have := HK1.out; omega⟩, ⟨X3.out.mset rfl⟩⟩
              · rw [if_neg ci] at hst
                by_cases cl : tk < (xs.length : Int)
                rotate_left
                · rw [if_neg cl] at hst
                  cases hst
                rw [if_pos cl] at hst
                obtain ⟨⟨x, o1⟩, e1, hst⟩ := Option.bind_eq_some_iff.mp hst
                obtain ⟨⟨y, o2⟩, e2, hst⟩ := Option.bind_eq_some_iff.mp hst
                simp only [Option.some.injEq, Prod.mk.injEq] at hst
                obtain ⟨rfl, rfl⟩ := hst
                rw [if_pos rfl] at h
                have HN := Aside0.mk h
                have H1 := Aside0.mk e1
                have H2 := Aside0.mk e2
                clear h e1 e2
                have f1 : decide ((xs.length : Int) < tk) = false := decide_eq_false (by omega)
                have f3 : (tk == (xs.length : Int)) = false := beq_eq_false_iff_ne.mpr ci
                obtain ⟨ad, e0_, hx0⟩ := Kd.at_int HR.out tk (by omega) (by omega)
                cases e0_
                have HX0 := Aside0.mk hx0
                clear hx0
                have p0 := eq_true htk0
                have p1 := eq_true cl
                clear ce ci cl
                cases yes with
                | false =>
                  clear cg
                  go_wp2_with (first | (go_at_call 56; (with_reducible refine (alike_two k _ _ E (wrap64 (E + F)) G (wrap64 (G + H)) q false _ ?s1 ?s3 HG.out).mono ?_); (case s1 => exact C_two' (two_first wr 0 _ _) rfl rfl); (case s3 => exact C_two' (two_second wr _ _) rfl rfl); rintro e w1 ⟨rfl, hd⟩; have X1 := Aside0.mk (X0.out.below (below_step (below_alloc (below_alloc (Below.refl _ _) _) _) hd.below)); clear hd; obtain ⟨mv, gv, hMw⟩ := Mw.start (by decide) X1.out.n X1.out.bel X1.out.sz; have M0 := Aside0.mk hMw; clear hMw; have x0w1 := M0.out.x0; have hxi := (X1.out.bel.cell (World.block_lt_of_cell? w _ HX0.out)).trans HX0.out) | ((with_reducible refine gate_builtin (b := .append) (xs := #[.tmp 106, .tmp 109]) rfl ?_); at_builtin; refine Kd.R_append k52 (w0 := w) w.heap.size rfl (.tmp 106) (.tmp 109) 33 52 (.agg #[(.int .i8 0), (.int .i64 0)]) 16 rfl Try.underlying33 info52_ rfl (by decide) (by omega) mv ms (⟨2, (rd xs tk)⟩ : S52) [.int .i8 2, .int .i64 (rd xs tk)] (fun _ => True) (fun _ => False) rfl rfl ?aP (fun _ hk => hk.elim) ?aF ?aO ?aB ?aS ?aL ?_; (case aP => exact k52_mkM _ _ _ (⟨2, (rd xs tk)⟩ : S52)); (case aB => exact M0.out.bel); (case aF => exact (fun _ _ => trivial)); (case aO => exact M0.out.m); (case aS => exact M0.out.sz); (case aL => have := CB.out.1; omega); intro v_ w2 ho hb1 hg1 hat; obtain ⟨Aw2, cw2, rfl⟩ := Kd.R_slice ho; have M1 := Aside0.mk (M0.out.appM ho hb1 hg1); clear ho hb1 hg1 hat M0; have x0w2 := M1.out.x0; have x1w2 := M1.out.x1; have x2w2 := M1.out.x2; have f0w2 := M1.out.fr 0; have f1w2 := M1.out.fr 1; have f2w2 := M1.out.fr 2) | ((with_reducible refine gate_store (t := 33) (p := 112) rfl ?_); refine store_event (t := 33) (p := 112) (v := ?vo_w3_3) (w1 := (w2.setCell ⟨w.heap.size + 1, 0, none⟩ (.slice Aw2 (ms.length + 1) cw2))) ?hg ?ho ?hn ?hr ?_; (case ho => rfl); (case hg => rfl); (case hn => rfl); (case hr => first | (go_simp; done) | (go_simp; rfl)); intro w3 hw; have M2 := Aside0.mk (M1.out.set0 hw); clear hw M1; have x0w3 := M2.out.x0; have x1w3 := M2.out.x1; have x2w3 := M2.out.x2; have f0w3 := M2.out.fr 0; have f1w3 := M2.out.fr 1; have f2w3 := M2.out.fr 2; have X3 := Aside0.mk (X1.out.note (M2.out.done' (by simp) (by simp) rfl).1 (M2.out.done' (by simp) (by simp) rfl).2.1 (M2.out.done' (by simp) (by simp) rfl).2.2); clear M2; have d0w3 := X3.out.c0; have d1w3 := X3.out.c1; have d2w3 := X3.out.c2; have d3w3 := X3.out.c3; have g0w3 := blk_frozen X3.out.m 0; have g1w3 := blk_frozen X3.out.m 1; have g2w3 := blk_frozen X3.out.m 2; have g3w3 := blk_frozen X3.out.m 3))
                  refine start_ (n := 20) (S := fun w' => w'.cell? ⟨w.heap.size, 0, none⟩ = some (.int .i64 E) ∧ w'.cell? ⟨w.heap.size, 1, none⟩ = some (.int .i64 F) ∧ w'.cell? ⟨w.heap.size, 2, none⟩ = some (.int .i64 G) ∧ w'.cell? ⟨w.heap.size, 3, none⟩ = some (.int .i64 H)) (ds := [19]) #[false, false, false, false, false, false, false, false, false, false, false, false, false, false, false, false, false, false, false, false] (by kernel_rfl) rfl rfl ⟨X3.out.drew.c0, X3.out.drew.c1, X3.out.drew.c2, X3.out.drew.c3⟩ (fun hHeld => ?_)
                  refine pure_ (i := 0) (N := some 113) (v := ?_) (a' := ?_) #[true, false, false, false, false, false, false, false, false, false, false, false, false, false, false, false, false, false, false, false] rfl rfl (by kernel_rfl) (fun _ _ _ h => h) (Or.inl ⟨by rfl, ?_⟩) ?_ ?_
                  rotate_left
                  · intro w'
                    go_simp
                    with_reducible rfl
                  rotate_left
                  · simp only [Act.put, List.setIfInBounds_toArray, List.set_cons_zero, List.set_cons_succ, i64_w, i32_w]
                    rfl
                  refine pure_ (i := 1) (N := some 114) (v := ?_) (a' := ?_) #[true, true, false, false, false, false, false, false, false, false, false, false, false, false, false, false, false, false, false, false] rfl rfl (by kernel_rfl) (fun _ _ _ h => h) (Or.inl ⟨by rfl, ?_⟩) ?_ ?_
                  rotate_left
                  · intro w'
                    go_simp
                    with_reducible rfl
                  rotate_left
                  · simp only [Act.put, List.setIfInBounds_toArray, List.set_cons_zero, List.set_cons_succ, i64_w, i32_w]
                    rfl
                  refine pure_ (i := 3) (N := some 116) (v := ?_) (a' := ?_) #[true, true, false, true, false, false, false, false, false, false, false, false, false, false, false, false, false, false, false, false] rfl rfl (by kernel_rfl) (fun _ _ _ h => h) (Or.inl ⟨by rfl, ?_⟩) ?_ ?_
                  rotate_left
                  · intro w'
                    go_simp
                    with_reducible rfl
                  rotate_left
                  · simp only [Act.put, List.setIfInBounds_toArray, List.set_cons_zero, List.set_cons_succ, i64_w, i32_w]
                    rfl
                  refine pure_ (i := 4) (N := some 117) (v := ?_) (a' := ?_) #[true, true, false, true, true, false, false, false, false, false, false, false, false, false, false, false, false, false, false, false] rfl rfl (by kernel_rfl) (fun _ _ _ h => h) (Or.inl ⟨by rfl, ?_⟩) ?_ ?_
                  rotate_left
                  · intro w'
                    go_simp
                    with_reducible rfl
                  rotate_left
                  · simp only [Act.put, List.setIfInBounds_toArray, List.set_cons_zero, List.set_cons_succ, i64_w, i32_w]
                    rfl
                  refine pure_ (i := 7) (N := some 120) (v := ?_) (a' := ?_) #[true, true, false, true, true, false, false, true, false, false, false, false, false, false, false, false, false, false, false, false] rfl rfl (by kernel_rfl) (fun _ _ _ h => h) (Or.inl ⟨by rfl, ?_⟩) ?_ ?_
                  rotate_left
                  · intro w'
                    go_simp
                    with_reducible rfl
                  rotate_left
                  · simp only [Act.put, List.setIfInBounds_toArray, List.set_cons_zero, List.set_cons_succ, i64_w, i32_w]
                    rfl
                  refine pure_ (i := 9) (N := some 122) (v := ?_) (a' := ?_) #[true, true, false, true, true, false, false, true, false, true, false, false, false, false, false, false, false, false, false, false] rfl rfl (by kernel_rfl) (fun _ _ _ h => h) (Or.inl ⟨by rfl, ?_⟩) ?_ ?_
                  rotate_left
                  · intro w'
                    go_simp
                    with_reducible rfl
                  rotate_left
                  · simp only [Act.put, List.setIfInBounds_toArray, List.set_cons_zero, List.set_cons_succ, i64_w, i32_w]
                    rfl
                  refine pure_ (i := 10) (N := some 123) (v := ?_) (a' := ?_) #[true, true, false, true, true, false, false, true, false, true, true, false, false, false, false, false, false, false, false, false] rfl rfl (by kernel_rfl) (fun _ _ _ h => h) (Or.inl ⟨by rfl, ?_⟩) ?_ ?_
                  rotate_left
                  · intro w'
                    go_simp
                    with_reducible rfl
                  rotate_left
                  · simp only [Act.put, List.setIfInBounds_toArray, List.set_cons_zero, List.set_cons_succ, i64_w, i32_w]
                    rfl
                  refine pure_ (i := 12) (N := some 125) (v := ?_) (a' := ?_) #[true, true, false, true, true, false, false, true, false, true, true, false, true, false, false, false, false, false, false, false] rfl rfl (by kernel_rfl) (fun _ _ _ h => h) (Or.inl ⟨by rfl, ?_⟩) ?_ ?_
                  rotate_left
                  · intro w'
                    go_simp
                    with_reducible rfl
                  rotate_left
                  · simp only [Act.put, List.setIfInBounds_toArray, List.set_cons_zero, List.set_cons_succ, i64_w, i32_w]
                    rfl
                  refine pure_ (i := 13) (N := some 126) (v := ?_) (a' := ?_) #[true, true, false, true, true, false, false, true, false, true, true, false, true, true, false, false, false, false, false, false] rfl rfl (by kernel_rfl) (fun _ _ _ h => h) (Or.inl ⟨by rfl, ?_⟩) ?_ ?_
                  rotate_left
                  · intro w'
                    go_simp
                    with_reducible rfl
                  rotate_left
                  · simp only [Act.put, List.setIfInBounds_toArray, List.set_cons_zero, List.set_cons_succ, i64_w, i32_w]
                    rfl
                  refine pure_ (i := 16) (N := some 129) (v := ?_) (a' := ?_) #[true, true, false, true, true, false, false, true, false, true, true, false, true, true, false, false, true, false, false, false] rfl rfl (by kernel_rfl) (fun _ _ _ h => h) (Or.inl ⟨by rfl, ?_⟩) ?_ ?_
                  rotate_left
                  · intro w'
                    go_simp
                    with_reducible rfl
                  rotate_left
                  · simp only [Act.put, List.setIfInBounds_toArray, List.set_cons_zero, List.set_cons_succ, i64_w, i32_w]
                    rfl
                  refine take_ (i := 2) (N := some 115) (v := ?_) (a' := ?_) #[true, true, true, true, true, false, false, true, false, true, true, false, true, true, false, false, true, false, false, false] rfl rfl (by kernel_rfl) (fun _ _ _ h => h) (Or.inl ⟨by rfl, ?_⟩) hHeld ?_ ?_
                  rotate_left
                  · rintro w' ⟨s0, s1, s2, s3⟩
                    go_simp
                    with_reducible rfl
                  rotate_left
                  · simp only [Act.put, List.setIfInBounds_toArray, List.set_cons_zero, List.set_cons_succ, i64_w, i32_w]
                    rfl
                  refine take_ (i := 5) (N := some 118) (v := ?_) (a' := ?_) #[true, true, true, true, true, true, false, true, false, true, true, false, true, true, false, false, true, false, false, false] rfl rfl (by kernel_rfl) (fun _ _ _ h => h) (Or.inl ⟨by rfl, ?_⟩) hHeld ?_ ?_
                  rotate_left
                  · rintro w' ⟨s0, s1, s2, s3⟩
                    go_simp
                    with_reducible rfl
                  rotate_left
                  · simp only [Act.put, List.setIfInBounds_toArray, List.set_cons_zero, List.set_cons_succ, i64_w, i32_w]
                    rfl
                  refine take_ (i := 8) (N := some 121) (v := ?_) (a' := ?_) #[true, true, true, true, true, true, false, true, true, true, true, false, true, true, false, false, true, false, false, false] rfl rfl (by kernel_rfl) (fun _ _ _ h => h) (Or.inl ⟨by rfl, ?_⟩) hHeld ?_ ?_
                  rotate_left
                  · rintro w' ⟨s0, s1, s2, s3⟩
                    go_simp
                    with_reducible rfl
                  rotate_left
                  · simp only [Act.put, List.setIfInBounds_toArray, List.set_cons_zero, List.set_cons_succ, i64_w, i32_w]
                    rfl
                  refine take_ (i := 11) (N := some 124) (v := ?_) (a' := ?_) #[true, true, true, true, true, true, false, true, true, true, true, true, true, true, false, false, true, false, false, false] rfl rfl (by kernel_rfl) (fun _ _ _ h => h) (Or.inl ⟨by rfl, ?_⟩) hHeld ?_ ?_
                  rotate_left
                  · rintro w' ⟨s0, s1, s2, s3⟩
                    go_simp
                    with_reducible rfl
                  rotate_left
                  · simp only [Act.put, List.setIfInBounds_toArray, List.set_cons_zero, List.set_cons_succ, i64_w, i32_w]
                    rfl
                  refine take_ (i := 14) (N := some 127) (v := ?_) (a' := ?_) #[true, true, true, true, true, true, false, true, true, true, true, true, true, true, true, false, true, false, false, false] rfl rfl (by kernel_rfl) (fun _ _ _ h => h) (Or.inl ⟨by rfl, ?_⟩) hHeld ?_ ?_
                  rotate_left
                  · rintro w' ⟨s0, s1, s2, s3⟩
                    go_simp
                    with_reducible rfl
                  rotate_left
                  · simp only [Act.put, List.setIfInBounds_toArray, List.set_cons_zero, List.set_cons_succ, i64_w, i32_w]
                    rfl
                  refine take_ (i := 17) (N := some 130) (v := ?_) (a' := ?_) #[true, true, true, true, true, true, false, true, true, true, true, true, true, true, true, false, true, true, false, false] rfl rfl (by kernel_rfl) (fun _ _ _ h => h) (Or.inl ⟨by rfl, ?_⟩) hHeld ?_ ?_
                  rotate_left
                  · rintro w' ⟨s0, s1, s2, s3⟩
                    go_simp
                    with_reducible rfl
                  rotate_left
                  · simp only [Act.put, List.setIfInBounds_toArray, List.set_cons_zero, List.set_cons_succ, i64_w, i32_w]
                    rfl
                  refine one_ (i := 6) (N := some 119) #[true, true, true, true, true, true, true, true, true, true, true, true, true, true, true, false, true, true, false, false] rfl rfl (by kernel_rfl) (by decide) (fun K hK => ?_)
                  refine goes_ Try.func58 (by kernel_rfl) rfl #[.pointer (some ⟨w.heap.size + 1, 0, none⟩), .int .i64 E, .int .i64 (rd xs tk), .int .i64 F] (by rfl) rfl rfl (by simp only [List.map_toArray, List.map_cons, List.map_nil]; rfl) ?_
                  with_reducible refine (QW.cell X3.out.drew H1.out).mono ?_
                  rintro e w4 ⟨rfl, hX⟩
                  refine ⟨_, rfl, ?_⟩
                  have X4 := Aside0.mk hX
                  clear hX
                  refine hK.out _ _ ⟨X4.out.c0, X4.out.c1, X4.out.c2, X4.out.c3⟩ (fun hHeld => ?_)
                  clear hK K
                  refine norm_ (a' := ?_) ?_ ?_
                  rotate_left
                  · show Act.put _ (some 119) _ = _
                    simp only [Act.put, List.setIfInBounds_toArray, List.set_cons_zero, List.set_cons_succ, i64_w, i32_w]
                    rfl
                  refine one_ (i := 15) (N := some 128) #[true, true, true, true, true, true, true, true, true, true, true, true, true, true, true, true, true, true, false, false] rfl rfl (by kernel_rfl) (by decide) (fun K hK => ?_)
                  refine goes_ Try.func58 (by kernel_rfl) rfl #[.pointer (some ⟨w.heap.size + 1, 0, none⟩), .int .i64 G, .int .i64 (rd xs tk), .int .i64 H] (by rfl) rfl rfl (by simp only [List.map_toArray, List.map_cons, List.map_nil]; rfl) ?_
                  with_reducible refine (QW.cell X4.out H2.out).mono ?_
                  rintro e w5 ⟨rfl, hX⟩
                  refine ⟨_, rfl, ?_⟩
                  have X5 := Aside0.mk hX
                  clear hX
                  refine hK.out _ _ ⟨X5.out.c0, X5.out.c1, X5.out.c2, X5.out.c3⟩ (fun hHeld => ?_)
                  clear hK K
                  refine norm_ (a' := ?_) ?_ ?_
                  rotate_left
                  · show Act.put _ (some 128) _ = _
                    simp only [Act.put, List.setIfInBounds_toArray, List.set_cons_zero, List.set_cons_succ, i64_w, i32_w]
                    rfl
                  refine pure_ (i := 18) (N := some 131) (v := ?_) (a' := ?_) #[true, true, true, true, true, true, true, true, true, true, true, true, true, true, true, true, true, true, true, false] rfl rfl (by kernel_rfl) (fun _ _ _ h => h) (Or.inl ⟨by rfl, ?_⟩) ?_ ?_
                  rotate_left
                  · intro w'
                    go_simp
                    with_reducible rfl
                  rotate_left
                  · simp only [Act.put, List.setIfInBounds_toArray, List.set_cons_zero, List.set_cons_succ, i64_w, i32_w]
                    rfl
                  refine last_store_ (i := 19) (w1 := (World.setCell (World.setCell (World.setCell (World.setCell w5 ⟨w.heap.size, 0, none⟩ (.int .i64 x)) ⟨w.heap.size, 1, none⟩ (.int .i64 E)) ⟨w.heap.size, 2, none⟩ (.int .i64 y)) ⟨w.heap.size, 3, none⟩ (.int .i64 G))) #[true, true, true, true, true, true, true, true, true, true, true, true, true, true, true, true, true, true, true, true] rfl rfl (by kernel_rfl) (by decide) (by rfl) (run_put4_ rfl (show _ = Value.pointer (some ⟨w.heap.size, 0, none⟩) from by rfl) (show _ = Value.agg #[.int .i64 x, .int .i64 E, .int .i64 y, .int .i64 G] from by rfl) X5.out.m (by kernel_rfl) (by rfl)) ?_
                  refine done_ (by kernel_rfl) ?_
                  generalize hw6 : (World.setCell (World.setCell (World.setCell (World.setCell w5 ⟨w.heap.size, 0, none⟩ (.int .i64 x)) ⟨w.heap.size, 1, none⟩ (.int .i64 E)) ⟨w.heap.size, 2, none⟩ (.int .i64 y)) ⟨w.heap.size, 3, none⟩ (.int .i64 G)) = w6
                  have X6 := Aside0.mk (X5.out.mset hw6.symm)
                  clear hw6
                  go_wp2
                  go_roundg k1
                  case measure => omega
                  case rel => exact ⟨⟨x, E, y, G, tk + 1, ms ++ [⟨2, rd xs tk⟩], gs, o2⟩, rfl, HN, ⟨by have := HK1.out; omega⟩, X6⟩
                | true =>
                  have ht0 : decide ((0 : Int) < tk) = false := decide_eq_false (fun z => cg ⟨rfl, z⟩)
                  clear cg
                  go_wp2_with (first | (go_at_call 56; (with_reducible refine (alike_two k _ _ E (wrap64 (E + F)) G (wrap64 (G + H)) q true _ ?s1 ?s3 HG.out).mono ?_); (case s1 => exact C_two' (two_first wr 0 _ _) rfl rfl); (case s3 => exact C_two' (two_second wr _ _) rfl rfl); rintro e w1 ⟨rfl, hd⟩; have X1 := Aside0.mk (X0.out.below (below_step (below_alloc (below_alloc (Below.refl _ _) _) _) hd.below)); clear hd; obtain ⟨mv, gv, hMw⟩ := Mw.start (by decide) X1.out.n X1.out.bel X1.out.sz; have M0 := Aside0.mk hMw; clear hMw; have x0w1 := M0.out.x0; have hxi := (X1.out.bel.cell (World.block_lt_of_cell? w _ HX0.out)).trans HX0.out) | ((with_reducible refine gate_builtin (b := .append) (xs := #[.tmp 106, .tmp 109]) rfl ?_); at_builtin; refine Kd.R_append k52 (w0 := w) w.heap.size rfl (.tmp 106) (.tmp 109) 33 52 (.agg #[(.int .i8 0), (.int .i64 0)]) 16 rfl Try.underlying33 info52_ rfl (by decide) (by omega) mv ms (⟨2, (rd xs tk)⟩ : S52) [.int .i8 2, .int .i64 (rd xs tk)] (fun _ => True) (fun _ => False) rfl rfl ?aP (fun _ hk => hk.elim) ?aF ?aO ?aB ?aS ?aL ?_; (case aP => exact k52_mkM _ _ _ (⟨2, (rd xs tk)⟩ : S52)); (case aB => exact M0.out.bel); (case aF => exact (fun _ _ => trivial)); (case aO => exact M0.out.m); (case aS => exact M0.out.sz); (case aL => have := CB.out.1; omega); intro v_ w2 ho hb1 hg1 hat; obtain ⟨Aw2, cw2, rfl⟩ := Kd.R_slice ho; have M1 := Aside0.mk (M0.out.appM ho hb1 hg1); clear ho hb1 hg1 hat M0; have x0w2 := M1.out.x0; have x1w2 := M1.out.x1; have x2w2 := M1.out.x2; have f0w2 := M1.out.fr 0; have f1w2 := M1.out.fr 1; have f2w2 := M1.out.fr 2) | ((with_reducible refine gate_store (t := 33) (p := 112) rfl ?_); refine store_event (t := 33) (p := 112) (v := ?vo_w3_4) (w1 := (w2.setCell ⟨w.heap.size + 1, 0, none⟩ (.slice Aw2 (ms.length + 1) cw2))) ?hg ?ho ?hn ?hr ?_; (case ho => rfl); (case hg => rfl); (case hn => rfl); (case hr => first | (go_simp; done) | (go_simp; rfl)); intro w3 hw; have M2 := Aside0.mk (M1.out.set0 hw); clear hw M1; have x0w3 := M2.out.x0; have x1w3 := M2.out.x1; have x2w3 := M2.out.x2; have f0w3 := M2.out.fr 0; have f1w3 := M2.out.fr 1; have f2w3 := M2.out.fr 2; have X3 := Aside0.mk (X1.out.note (M2.out.done' (by simp) (by simp) rfl).1 (M2.out.done' (by simp) (by simp) rfl).2.1 (M2.out.done' (by simp) (by simp) rfl).2.2); clear M2; have d0w3 := X3.out.c0; have d1w3 := X3.out.c1; have d2w3 := X3.out.c2; have d3w3 := X3.out.c3; have g0w3 := blk_frozen X3.out.m 0; have g1w3 := blk_frozen X3.out.m 1; have g2w3 := blk_frozen X3.out.m 2; have g3w3 := blk_frozen X3.out.m 3))
                  refine start_ (n := 20) (S := fun w' => w'.cell? ⟨w.heap.size, 0, none⟩ = some (.int .i64 E) ∧ w'.cell? ⟨w.heap.size, 1, none⟩ = some (.int .i64 F) ∧ w'.cell? ⟨w.heap.size, 2, none⟩ = some (.int .i64 G) ∧ w'.cell? ⟨w.heap.size, 3, none⟩ = some (.int .i64 H)) (ds := [19]) #[false, false, false, false, false, false, false, false, false, false, false, false, false, false, false, false, false, false, false, false] (by kernel_rfl) rfl rfl ⟨X3.out.drew.c0, X3.out.drew.c1, X3.out.drew.c2, X3.out.drew.c3⟩ (fun hHeld => ?_)
                  refine pure_ (i := 0) (N := some 113) (v := ?_) (a' := ?_) #[true, false, false, false, false, false, false, false, false, false, false, false, false, false, false, false, false, false, false, false] rfl rfl (by kernel_rfl) (fun _ _ _ h => h) (Or.inl ⟨by rfl, ?_⟩) ?_ ?_
                  rotate_left
                  · intro w'
                    go_simp
                    with_reducible rfl
                  rotate_left
                  · simp only [Act.put, List.setIfInBounds_toArray, List.set_cons_zero, List.set_cons_succ, i64_w, i32_w]
                    rfl
                  refine pure_ (i := 1) (N := some 114) (v := ?_) (a' := ?_) #[true, true, false, false, false, false, false, false, false, false, false, false, false, false, false, false, false, false, false, false] rfl rfl (by kernel_rfl) (fun _ _ _ h => h) (Or.inl ⟨by rfl, ?_⟩) ?_ ?_
                  rotate_left
                  · intro w'
                    go_simp
                    with_reducible rfl
                  rotate_left
                  · simp only [Act.put, List.setIfInBounds_toArray, List.set_cons_zero, List.set_cons_succ, i64_w, i32_w]
                    rfl
                  refine pure_ (i := 3) (N := some 116) (v := ?_) (a' := ?_) #[true, true, false, true, false, false, false, false, false, false, false, false, false, false, false, false, false, false, false, false] rfl rfl (by kernel_rfl) (fun _ _ _ h => h) (Or.inl ⟨by rfl, ?_⟩) ?_ ?_
                  rotate_left
                  · intro w'
                    go_simp
                    with_reducible rfl
                  rotate_left
                  · simp only [Act.put, List.setIfInBounds_toArray, List.set_cons_zero, List.set_cons_succ, i64_w, i32_w]
                    rfl
                  refine pure_ (i := 4) (N := some 117) (v := ?_) (a' := ?_) #[true, true, false, true, true, false, false, false, false, false, false, false, false, false, false, false, false, false, false, false] rfl rfl (by kernel_rfl) (fun _ _ _ h => h) (Or.inl ⟨by rfl, ?_⟩) ?_ ?_
                  rotate_left
                  · intro w'
                    go_simp
                    with_reducible rfl
                  rotate_left
                  · simp only [Act.put, List.setIfInBounds_toArray, List.set_cons_zero, List.set_cons_succ, i64_w, i32_w]
                    rfl
                  refine pure_ (i := 7) (N := some 120) (v := ?_) (a' := ?_) #[true, true, false, true, true, false, false, true, false, false, false, false, false, false, false, false, false, false, false, false] rfl rfl (by kernel_rfl) (fun _ _ _ h => h) (Or.inl ⟨by rfl, ?_⟩) ?_ ?_
                  rotate_left
                  · intro w'
                    go_simp
                    with_reducible rfl
                  rotate_left
                  · simp only [Act.put, List.setIfInBounds_toArray, List.set_cons_zero, List.set_cons_succ, i64_w, i32_w]
                    rfl
                  refine pure_ (i := 9) (N := some 122) (v := ?_) (a' := ?_) #[true, true, false, true, true, false, false, true, false, true, false, false, false, false, false, false, false, false, false, false] rfl rfl (by kernel_rfl) (fun _ _ _ h => h) (Or.inl ⟨by rfl, ?_⟩) ?_ ?_
                  rotate_left
                  · intro w'
                    go_simp
                    with_reducible rfl
                  rotate_left
                  · simp only [Act.put, List.setIfInBounds_toArray, List.set_cons_zero, List.set_cons_succ, i64_w, i32_w]
                    rfl
                  refine pure_ (i := 10) (N := some 123) (v := ?_) (a' := ?_) #[true, true, false, true, true, false, false, true, false, true, true, false, false, false, false, false, false, false, false, false] rfl rfl (by kernel_rfl) (fun _ _ _ h => h) (Or.inl ⟨by rfl, ?_⟩) ?_ ?_
                  rotate_left
                  · intro w'
                    go_simp
                    with_reducible rfl
                  rotate_left
                  · simp only [Act.put, List.setIfInBounds_toArray, List.set_cons_zero, List.set_cons_succ, i64_w, i32_w]
                    rfl
                  refine pure_ (i := 12) (N := some 125) (v := ?_) (a' := ?_) #[true, true, false, true, true, false, false, true, false, true, true, false, true, false, false, false, false, false, false, false] rfl rfl (by kernel_rfl) (fun _ _ _ h => h) (Or.inl ⟨by rfl, ?_⟩) ?_ ?_
                  rotate_left
                  · intro w'
                    go_simp
                    with_reducible rfl
                  rotate_left
                  · simp only [Act.put, List.setIfInBounds_toArray, List.set_cons_zero, List.set_cons_succ, i64_w, i32_w]
                    rfl
                  refine pure_ (i := 13) (N := some 126) (v := ?_) (a' := ?_) #[true, true, false, true, true, false, false, true, false, true, true, false, true, true, false, false, false, false, false, false] rfl rfl (by kernel_rfl) (fun _ _ _ h => h) (Or.inl ⟨by rfl, ?_⟩) ?_ ?_
                  rotate_left
                  · intro w'
                    go_simp
                    with_reducible rfl
                  rotate_left
                  · simp only [Act.put, List.setIfInBounds_toArray, List.set_cons_zero, List.set_cons_succ, i64_w, i32_w]
                    rfl
                  refine pure_ (i := 16) (N := some 129) (v := ?_) (a' := ?_) #[true, true, false, true, true, false, false, true, false, true, true, false, true, true, false, false, true, false, false, false] rfl rfl (by kernel_rfl) (fun _ _ _ h => h) (Or.inl ⟨by rfl, ?_⟩) ?_ ?_
                  rotate_left
                  · intro w'
                    go_simp
                    with_reducible rfl
                  rotate_left
                  · simp only [Act.put, List.setIfInBounds_toArray, List.set_cons_zero, List.set_cons_succ, i64_w, i32_w]
                    rfl
                  refine take_ (i := 2) (N := some 115) (v := ?_) (a' := ?_) #[true, true, true, true, true, false, false, true, false, true, true, false, true, true, false, false, true, false, false, false] rfl rfl (by kernel_rfl) (fun _ _ _ h => h) (Or.inl ⟨by rfl, ?_⟩) hHeld ?_ ?_
                  rotate_left
                  · rintro w' ⟨s0, s1, s2, s3⟩
                    go_simp
                    with_reducible rfl
                  rotate_left
                  · simp only [Act.put, List.setIfInBounds_toArray, List.set_cons_zero, List.set_cons_succ, i64_w, i32_w]
                    rfl
                  refine take_ (i := 5) (N := some 118) (v := ?_) (a' := ?_) #[true, true, true, true, true, true, false, true, false, true, true, false, true, true, false, false, true, false, false, false] rfl rfl (by kernel_rfl) (fun _ _ _ h => h) (Or.inl ⟨by rfl, ?_⟩) hHeld ?_ ?_
                  rotate_left
                  · rintro w' ⟨s0, s1, s2, s3⟩
                    go_simp
                    with_reducible rfl
                  rotate_left
                  · simp only [Act.put, List.setIfInBounds_toArray, List.set_cons_zero, List.set_cons_succ, i64_w, i32_w]
                    rfl
                  refine take_ (i := 8) (N := some 121) (v := ?_) (a' := ?_) #[true, true, true, true, true, true, false, true, true, true, true, false, true, true, false, false, true, false, false, false] rfl rfl (by kernel_rfl) (fun _ _ _ h => h) (Or.inl ⟨by rfl, ?_⟩) hHeld ?_ ?_
                  rotate_left
                  · rintro w' ⟨s0, s1, s2, s3⟩
                    go_simp
                    with_reducible rfl
                  rotate_left
                  · simp only [Act.put, List.setIfInBounds_toArray, List.set_cons_zero, List.set_cons_succ, i64_w, i32_w]
                    rfl
                  refine take_ (i := 11) (N := some 124) (v := ?_) (a' := ?_) #[true, true, true, true, true, true, false, true, true, true, true, true, true, true, false, false, true, false, false, false] rfl rfl (by kernel_rfl) (fun _ _ _ h => h) (Or.inl ⟨by rfl, ?_⟩) hHeld ?_ ?_
                  rotate_left
                  · rintro w' ⟨s0, s1, s2, s3⟩
                    go_simp
                    with_reducible rfl
                  rotate_left
                  · simp only [Act.put, List.setIfInBounds_toArray, List.set_cons_zero, List.set_cons_succ, i64_w, i32_w]
                    rfl
                  refine take_ (i := 14) (N := some 127) (v := ?_) (a' := ?_) #[true, true, true, true, true, true, false, true, true, true, true, true, true, true, true, false, true, false, false, false] rfl rfl (by kernel_rfl) (fun _ _ _ h => h) (Or.inl ⟨by rfl, ?_⟩) hHeld ?_ ?_
                  rotate_left
                  · rintro w' ⟨s0, s1, s2, s3⟩
                    go_simp
                    with_reducible rfl
                  rotate_left
                  · simp only [Act.put, List.setIfInBounds_toArray, List.set_cons_zero, List.set_cons_succ, i64_w, i32_w]
                    rfl
                  refine take_ (i := 17) (N := some 130) (v := ?_) (a' := ?_) #[true, true, true, true, true, true, false, true, true, true, true, true, true, true, true, false, true, true, false, false] rfl rfl (by kernel_rfl) (fun _ _ _ h => h) (Or.inl ⟨by rfl, ?_⟩) hHeld ?_ ?_
                  rotate_left
                  · rintro w' ⟨s0, s1, s2, s3⟩
                    go_simp
                    with_reducible rfl
                  rotate_left
                  · simp only [Act.put, List.setIfInBounds_toArray, List.set_cons_zero, List.set_cons_succ, i64_w, i32_w]
                    rfl
                  refine one_ (i := 6) (N := some 119) #[true, true, true, true, true, true, true, true, true, true, true, true, true, true, true, false, true, true, false, false] rfl rfl (by kernel_rfl) (by decide) (fun K hK => ?_)
                  refine goes_ Try.func58 (by kernel_rfl) rfl #[.pointer (some ⟨w.heap.size + 1, 0, none⟩), .int .i64 E, .int .i64 (rd xs tk), .int .i64 F] (by rfl) rfl rfl (by simp only [List.map_toArray, List.map_cons, List.map_nil]; rfl) ?_
                  with_reducible refine (QW.cell X3.out.drew H1.out).mono ?_
                  rintro e w4 ⟨rfl, hX⟩
                  refine ⟨_, rfl, ?_⟩
                  have X4 := Aside0.mk hX
                  clear hX
                  refine hK.out _ _ ⟨X4.out.c0, X4.out.c1, X4.out.c2, X4.out.c3⟩ (fun hHeld => ?_)
                  clear hK K
                  refine norm_ (a' := ?_) ?_ ?_
                  rotate_left
                  · show Act.put _ (some 119) _ = _
                    simp only [Act.put, List.setIfInBounds_toArray, List.set_cons_zero, List.set_cons_succ, i64_w, i32_w]
                    rfl
                  refine one_ (i := 15) (N := some 128) #[true, true, true, true, true, true, true, true, true, true, true, true, true, true, true, true, true, true, false, false] rfl rfl (by kernel_rfl) (by decide) (fun K hK => ?_)
                  refine goes_ Try.func58 (by kernel_rfl) rfl #[.pointer (some ⟨w.heap.size + 1, 0, none⟩), .int .i64 G, .int .i64 (rd xs tk), .int .i64 H] (by rfl) rfl rfl (by simp only [List.map_toArray, List.map_cons, List.map_nil]; rfl) ?_
                  with_reducible refine (QW.cell X4.out H2.out).mono ?_
                  rintro e w5 ⟨rfl, hX⟩
                  refine ⟨_, rfl, ?_⟩
                  have X5 := Aside0.mk hX
                  clear hX
                  refine hK.out _ _ ⟨X5.out.c0, X5.out.c1, X5.out.c2, X5.out.c3⟩ (fun hHeld => ?_)
                  clear hK K
                  refine norm_ (a' := ?_) ?_ ?_
                  rotate_left
                  · show Act.put _ (some 128) _ = _
                    simp only [Act.put, List.setIfInBounds_toArray, List.set_cons_zero, List.set_cons_succ, i64_w, i32_w]
                    rfl
                  refine pure_ (i := 18) (N := some 131) (v := ?_) (a' := ?_) #[true, true, true, true, true, true, true, true, true, true, true, true, true, true, true, true, true, true, true, false] rfl rfl (by kernel_rfl) (fun _ _ _ h => h) (Or.inl ⟨by rfl, ?_⟩) ?_ ?_
                  rotate_left
                  · intro w'
                    go_simp
                    with_reducible rfl
                  rotate_left
                  · simp only [Act.put, List.setIfInBounds_toArray, List.set_cons_zero, List.set_cons_succ, i64_w, i32_w]
                    rfl
                  refine last_store_ (i := 19) (w1 := (World.setCell (World.setCell (World.setCell (World.setCell w5 ⟨w.heap.size, 0, none⟩ (.int .i64 x)) ⟨w.heap.size, 1, none⟩ (.int .i64 E)) ⟨w.heap.size, 2, none⟩ (.int .i64 y)) ⟨w.heap.size, 3, none⟩ (.int .i64 G))) #[true, true, true, true, true, true, true, true, true, true, true, true, true, true, true, true, true, true, true, true] rfl rfl (by kernel_rfl) (by decide) (by rfl) (run_put4_ rfl (show _ = Value.pointer (some ⟨w.heap.size, 0, none⟩) from by rfl) (show _ = Value.agg #[.int .i64 x, .int .i64 E, .int .i64 y, .int .i64 G] from by rfl) X5.out.m (by kernel_rfl) (by rfl)) ?_
                  refine done_ (by kernel_rfl) ?_
                  generalize hw6 : (World.setCell (World.setCell (World.setCell (World.setCell w5 ⟨w.heap.size, 0, none⟩ (.int .i64 x)) ⟨w.heap.size, 1, none⟩ (.int .i64 E)) ⟨w.heap.size, 2, none⟩ (.int .i64 y)) ⟨w.heap.size, 3, none⟩ (.int .i64 G)) = w6
                  have X6 := Aside0.mk (X5.out.mset hw6.symm)
                  clear hw6
                  go_wp2
                  go_roundg k1
                  case measure => omega
                  case rel => exact ⟨⟨x, E, y, G, tk + 1, ms ++ [⟨2, rd xs tk⟩], gs, o2⟩, rfl, HN, ⟨by have := HK1.out; omega⟩, X6⟩
set_option maxHeartbeats 8000000 in
set_option maxRecDepth 100000 in
theorem answer_calls (k b : Nat) (g : Nat) (ms : List S52) (gs : List Int) (ok : Bool) (c : Int) (w : World) (hM : Mv 89 b w g ms gs ok) (hbs : b ≤ w.heap.size) (hc : spec_l04Work_end.f k ms gs ok = some c) :
    Calls Try.prog 39 #[.pointer (some ⟨g, 0, none⟩)] w fun e w' => ∃ v0 v1, e = .returned (.tuple #[v0, v1, .int .i64 c]) ∧ k52.R 52 w' b (fun _ => True) v0 (if c = 0 then ms else []) ∧ (Kd.int .i64).R 2 w' b (fun _ => True) v1 (if c = 0 then gs else []) ∧ Below w.heap.size w w' := by
  obtain ⟨mv, gv, h1, h2, h3, h4⟩ := hM
  obtain ⟨A0, c0, rfl, l0, r0⟩ := Kd.R_reads h3
  obtain ⟨A1, c1, rfl, l1, r1⟩ := Kd.R_reads h4
  have HE := Aside0.mk (spec_l04Work_end.calls k g 0 A0 c0 ms A1 c1 gs ok c w r0 l0 r1 l1 ⟨(blk_cell h1 0).trans rfl, (blk_cell h1 1).trans rfl, (blk_cell h1 2).trans rfl⟩ hc)
  have x0 := (blk_cell h1 0).trans (show _ = some (Value.slice A0 ms.length c0) from rfl)
  have x1 := (blk_cell h1 1).trans (show _ = some (Value.slice A1 gs.length c1) from rfl)
  have HB := Aside0.mk hbs
  have HM := Aside0.mk h3
  have HG := Aside0.mk h4
  clear h1 h2 h3 h4 l0 r0 l1 r1 hc hbs
  by_cases c0_ : c = 0
  · subst c0_
    rw [if_pos rfl, if_pos rfl]
    go_enter Try.func39, Try.ntmps39
    go_wp2_with (first | (go_at_call 55; (with_reducible refine HE.out.mono ?_); rintro e w' ⟨rfl, ⟨nd, rfl⟩⟩))
    go_quiet (fail)
    go_wp2
    go_ret3
    exact ⟨_, _, rfl, Kd.R_drewN (Kd.R_drewN HM.out _) _, Kd.R_drewN (Kd.R_drewN HG.out _) _, pw_below_drewN (pw_below_drewN (Below.refl _ _) _) _⟩
  · rw [if_neg c0_, if_neg c0_]
    have hc0 : (c == 0) = false := beq_eq_false_iff_ne.mpr c0_
    have hc2 : (c != 0) = true := bne_iff_ne.mpr c0_
    clear c0_
    go_enter Try.func39, Try.ntmps39
    go_wp2_with (first | (go_at_call 55; (with_reducible refine HE.out.mono ?_); rintro e w' ⟨rfl, ⟨nd, rfl⟩⟩) | ((with_reducible refine gate_dst (N := 10) rfl ?_); refine Kd.R_lit (w0 := w) k52 w.heap.size 52 ?hg (N := 10) ?hd (xs := ([] : List S52)) (inner := []) (ok := fun _ => True) (okp := fun _ => True) ?hr ?hp (fun _ hk => hk) trivial ?hb ?hs (by simp) ?_; (case hd => rfl); (case hg => rfl); (case hr => first | (go_simp; done) | (go_simp; rfl)); (case hp => exact (Reps.none _ _)); (case hb => exact pw_below_drewN (Below.refl _ _) _); (case hs => exact Nat.le_refl _); intro v1 w1 ho hb hg_ hnew_; have HO := Aside0.mk ho; have HB1 := Aside0.mk hb; clear ho hb hg_ hnew_) | ((with_reducible refine gate_dst (N := 11) rfl ?_); refine Kd.R_lit (w0 := w) (Kd.int .i64) w.heap.size 2 ?hg2 (N := 11) ?hd2 (xs := ([] : List Int)) (inner := []) (ok := fun _ => True) (okp := fun _ => True) ?hr2 ?hp2 (fun _ hk => hk) trivial ?hb2 ?hs2 (by simp) ?_; (case hd2 => rfl); (case hg2 => rfl); (case hr2 => first | (go_simp; done) | (go_simp; rfl)); (case hp2 => exact (Reps.none _ _)); (case hb2 => exact HB1.out); (case hs2 => exact HB1.out.size); intro v2 w2 ho hb hg_ hnew_; have HO2 := Aside0.mk ho; have HB2 := Aside0.mk hb; have HG2 := Aside0.mk hg_; clear ho hb hg_ hnew_))
    go_ret3
    exact ⟨_, _, rfl, Kd.R_lower (Kd.R_grown HO.out HG2.out (fun _ _ => by simp)) HB.out, Kd.R_lower HO2.out HB.out, HB2.out⟩
theorem stepS_mono (xs : List Int) (s : PSt) (k : Nat) : LeO (stepS k xs s) (stepS (k + 1) xs s) := by
  unfold stepS
  exact LeO.ite (LeO.refl _) (LeO.bind (spec_l04Alike.mono _ _ _) (fun _ => LeO.refl _))
theorem runS_mono (xs : List Int) (k : Nat) : ∀ (n : Nat) (s : PSt), LeO (runS k xs n s) (runS (k + 1) xs (n + 1) s)
  | 0, s => by intro r h; simp [runS] at h
  | n + 1, s => by
    rw [runS]
    conv => rhs; rw [runS]
    refine LeO.ite (LeO.ite ?_ (LeO.none _)) (LeO.refl _)
    refine LeO.bind (stepS_mono xs s k) (fun r => ?_)
    exact LeO.ite (runS_mono xs k n r.2) (LeO.refl _)

end Go.Proofs.Ytgldplkbacfacaa.MFnPairs
