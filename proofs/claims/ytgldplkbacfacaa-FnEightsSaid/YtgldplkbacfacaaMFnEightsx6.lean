/- Functions as Lean functions, with proofs. By a program of this session. -/
import Derived.Test.YtgldplkbacfacaaMFnEightsx0
import Derived.Test.YtgldplkbacfacaaMFnEightsx4
import Derived.Test.YtgldplkbacfacaaMFnEightsx5
namespace Go.Proofs.Ytgldplkbacfacaa.MFnEights
open Go.RowKit Go.Proofs.Ytgldplkbacfacaa.MOpen Go.Proofs.YtgldplkbacfacaaW.PrintWords Go.Proofs.YtgldplkbacfacaaW.PrintLast Go.Proofs.YtgldplkbacfacaaW.PrintMore
attribute [local go_sem] max2_int min2_int max_two min_two max_three min_three max_four min_four
set_option linter.unusedVariables false
set_option linter.unusedSimpArgs false
set_option maxHeartbeats 32000000
set_option maxRecDepth 100000

/-- A machine's notes beside blocks of its own: (block, its cells, its type). -/
structure HB8 (T b : Nat) (w0 w : World) (gw : Nat) (ms : List S52) (gs : List Int) (ok : Bool) (bl : List (Nat × Array Value × Nat)) : Prop where
  n : Mv T b w gw ms gs ok
  m : ∀ p ∈ bl, w.heap[p.1]? = some (.cells p.2.1 p.2.2 (0, 0)) ∧ b ≤ p.1 ∧ p.2.2 ≠ 52 ∧ p.2.2 ≠ 2 ∧ p.2.2 ≠ T
  ty : T ≠ 52 ∧ T ≠ 2
  bel : Below b w0 w
  sz : b ≤ w.heap.size
section
variable {T b : Nat} {w0 w w1 : World} {gw g : Nat} {cs : Array Value} {U : Nat} {ms ms1 : List S52} {gs gs1 : List Int} {ok ok1 : Bool} {bl : List (Nat × Array Value × Nat)} {p0 p1 p2 : Nat × Array Value × Nat}
theorem HB8.below (h : HB8 T b w0 w gw ms gs ok bl) (hb : Below w.heap.size w w1) : HB8 T b w0 w1 gw ms gs ok bl :=
  ⟨h.n.below hb, fun p hp => ⟨blk_below (h.m p hp).1 hb, (h.m p hp).2⟩, h.ty, below_then h.bel h.sz hb, Nat.le_trans h.sz hb.size⟩
theorem HB8.drew (h : HB8 T b w0 w gw ms gs ok bl) : HB8 T b w0 w.drew gw ms gs ok bl := h.below (below_drew (Below.refl _ _))
theorem HB8.note (h : HB8 T b w0 w gw ms gs ok bl) (hn : Mv T b w1 gw ms1 gs1 ok1) (hb : Below b w0 w1) (hk : KeepT T w w1) : HB8 T b w0 w1 gw ms1 gs1 ok1 bl :=
  ⟨hn, fun p hp => ⟨hk.2 _ _ _ (h.m p hp).1 (h.m p hp).2.2.1 (h.m p hp).2.2.2.1 (h.m p hp).2.2.2.2, (h.m p hp).2⟩, h.ty, hb, Nat.le_trans h.sz hk.1⟩
theorem HB8.up (h : HB8 T b w0 w gw ms gs ok bl) (hu : Up w w1 gw 2 (.bool ok1)) : HB8 T b w0 w1 gw ms gs ok1 bl := by
  have hk := Up.keep h.n hu
  obtain ⟨mv, gv, h1, h2, h3, h4⟩ := h.n
  exact h.note (h.n.up h.ty hu) (Up.below (T := T) hu h.bel h2) hk
theorem HB8.new (h : HB8 T b w0 w gw ms gs ok bl) (hU : U ≠ 52 ∧ U ≠ 2 ∧ U ≠ T) (cs : Array Value) : HB8 T b w0 (w.alloc (.cells cs U)) gw ms gs ok ((w.heap.size, cs, U) :: bl) := by
  have h' := h.below (below_alloc (Below.refl w.heap.size w) (.cells cs U))
  refine ⟨h'.n, fun p hp => ?_, h.ty, h'.bel, h'.sz⟩
  rcases List.mem_cons.1 hp with rfl | hp
  · exact ⟨heap_alloc_new w _, h.sz, hU.1, hU.2.1, hU.2.2⟩
  · exact h'.m p hp
theorem HB8.drop (h : HB8 T b w0 w gw ms gs ok (p0 :: bl)) : HB8 T b w0 w gw ms gs ok bl := ⟨h.n, fun p hp => h.m p (List.mem_cons_of_mem _ hp), h.ty, h.bel, h.sz⟩
theorem HB8.cw (h : HB8 T b w0 w gw ms gs ok bl) : w.cell? ⟨gw, 2, none⟩ = some (.bool ok) := by
  obtain ⟨mv, gv, h1, _⟩ := h.n
  exact (blk_cell h1 2).trans rfl
theorem HB8.set (h : HB8 T b w0 w gw ms gs ok bl) (hp : (g, cs, U) ∈ bl) (j : Nat) (u : Value) {bl' : List (Nat × Array Value × Nat)} (hb : ∀ p ∈ bl', p = (g, cs.setIfInBounds j u, U) ∨ (p ∈ bl ∧ p.1 ≠ g)) : HB8 T b w0 (w.setCell ⟨g, j, none⟩ u) gw ms gs ok bl' := by
  obtain ⟨a1, a2, a3, a4, a5⟩ := h.m _ hp
  refine ⟨h.n.far a1 a3 a4 a5 j u, fun p hq => ?_, h.ty, h.bel.setCell a2 u, by rw [setCell_size]; exact h.sz⟩
  rcases hb p hq with rfl | ⟨h1, h2⟩
  · exact ⟨blk_set a1 j u, a2, a3, a4, a5⟩
  · exact ⟨blk_far (h.m p h1).1 h2 u, (h.m p h1).2⟩
theorem HB8.at0 (h : HB8 T b w0 w gw ms gs ok ((g, cs, U) :: bl)) : w.heap[g]? = some (.cells cs U (0, 0)) := (h.m _ (List.mem_cons_self)).1
theorem HB8.set0 (h : HB8 T b w0 w gw ms gs ok ((g, cs, U) :: bl)) (hn : (∀ p ∈ bl, p.1 ≠ g)) (j : Nat) (u : Value) : HB8 T b w0 (w.setCell ⟨g, j, none⟩ u) gw ms gs ok ((g, cs.setIfInBounds j u, U) :: bl) := by
  refine h.set (cs := cs) (U := U) (List.mem_cons_self) j u (fun p hp => ?_)
  rcases List.mem_cons.1 hp with rfl | hp
  · exact Or.inl rfl
  · exact Or.inr ⟨List.mem_cons_of_mem _ hp, hn _ hp⟩
theorem HB8.at1 (h : HB8 T b w0 w gw ms gs ok (p0 :: (g, cs, U) :: bl)) : w.heap[g]? = some (.cells cs U (0, 0)) := (h.m _ (List.mem_cons_of_mem _ List.mem_cons_self)).1
theorem HB8.set1 (h : HB8 T b w0 w gw ms gs ok (p0 :: (g, cs, U) :: bl)) (hn : p0.1 ≠ g ∧ (∀ p ∈ bl, p.1 ≠ g)) (j : Nat) (u : Value) : HB8 T b w0 (w.setCell ⟨g, j, none⟩ u) gw ms gs ok (p0 :: (g, cs.setIfInBounds j u, U) :: bl) := by
  refine h.set (cs := cs) (U := U) (List.mem_cons_of_mem _ List.mem_cons_self) j u (fun p hp => ?_)
  rcases List.mem_cons.1 hp with rfl | hp
  · exact Or.inr ⟨List.mem_cons_self, hn.1⟩
  rcases List.mem_cons.1 hp with rfl | hp
  · exact Or.inl rfl
  · exact Or.inr ⟨List.mem_cons_of_mem _ (List.mem_cons_of_mem _ hp), hn.2 _ hp⟩
theorem HB8.at2 (h : HB8 T b w0 w gw ms gs ok (p0 :: p1 :: (g, cs, U) :: bl)) : w.heap[g]? = some (.cells cs U (0, 0)) := (h.m _ (List.mem_cons_of_mem _ (List.mem_cons_of_mem _ List.mem_cons_self))).1
theorem HB8.set2 (h : HB8 T b w0 w gw ms gs ok (p0 :: p1 :: (g, cs, U) :: bl)) (hn : p0.1 ≠ g ∧ p1.1 ≠ g ∧ (∀ p ∈ bl, p.1 ≠ g)) (j : Nat) (u : Value) : HB8 T b w0 (w.setCell ⟨g, j, none⟩ u) gw ms gs ok (p0 :: p1 :: (g, cs.setIfInBounds j u, U) :: bl) := by
  refine h.set (cs := cs) (U := U) (List.mem_cons_of_mem _ (List.mem_cons_of_mem _ List.mem_cons_self)) j u (fun p hp => ?_)
  rcases List.mem_cons.1 hp with rfl | hp
  · exact Or.inr ⟨List.mem_cons_self, hn.1⟩
  rcases List.mem_cons.1 hp with rfl | hp
  · exact Or.inr ⟨List.mem_cons_of_mem _ List.mem_cons_self, hn.2.1⟩
  rcases List.mem_cons.1 hp with rfl | hp
  · exact Or.inl rfl
  · exact Or.inr ⟨List.mem_cons_of_mem _ (List.mem_cons_of_mem _ (List.mem_cons_of_mem _ hp)), hn.2.2 _ hp⟩
theorem HB8.at3 (h : HB8 T b w0 w gw ms gs ok (p0 :: p1 :: p2 :: (g, cs, U) :: bl)) : w.heap[g]? = some (.cells cs U (0, 0)) := (h.m _ (List.mem_cons_of_mem _ (List.mem_cons_of_mem _ (List.mem_cons_of_mem _ List.mem_cons_self)))).1
theorem HB8.set3 (h : HB8 T b w0 w gw ms gs ok (p0 :: p1 :: p2 :: (g, cs, U) :: bl)) (hn : p0.1 ≠ g ∧ p1.1 ≠ g ∧ p2.1 ≠ g ∧ (∀ p ∈ bl, p.1 ≠ g)) (j : Nat) (u : Value) : HB8 T b w0 (w.setCell ⟨g, j, none⟩ u) gw ms gs ok (p0 :: p1 :: p2 :: (g, cs.setIfInBounds j u, U) :: bl) := by
  refine h.set (cs := cs) (U := U) (List.mem_cons_of_mem _ (List.mem_cons_of_mem _ (List.mem_cons_of_mem _ List.mem_cons_self))) j u (fun p hp => ?_)
  rcases List.mem_cons.1 hp with rfl | hp
  · exact Or.inr ⟨List.mem_cons_self, hn.1⟩
  rcases List.mem_cons.1 hp with rfl | hp
  · exact Or.inr ⟨List.mem_cons_of_mem _ List.mem_cons_self, hn.2.1⟩
  rcases List.mem_cons.1 hp with rfl | hp
  · exact Or.inr ⟨List.mem_cons_of_mem _ (List.mem_cons_of_mem _ List.mem_cons_self), hn.2.2.1⟩
  rcases List.mem_cons.1 hp with rfl | hp
  · exact Or.inl rfl
  · exact Or.inr ⟨List.mem_cons_of_mem _ (List.mem_cons_of_mem _ (List.mem_cons_of_mem _ (List.mem_cons_of_mem _ hp))), hn.2.2.2 _ hp⟩
theorem HB8.cellS {o : Bool} {a1 a2 a3 r : Int} (h : HB8 89 b w0 w gw ms gs ok bl) (hc : specC ok a1 a2 a3 = some (r, o)) :
    Calls Try.prog 58 #[.pointer (some ⟨gw, 0, none⟩), .int .i64 a1, .int .i64 a2, .int .i64 a3] w fun e w' => e = .returned (.int .i64 r) ∧ HB8 89 b w0 w' gw ms gs o bl := by
  obtain ⟨mv, gv, h1, h2, h3, h4⟩ := h.n
  refine (spec_cell gw mv gv ok a1 a2 a3 r o w h1 hc).mono ?_
  rintro e w' ⟨rfl, hu⟩
  exact ⟨rfl, h.up hu⟩
theorem HB8.left {o1 o2 : Bool} {t0 t1 t2 t3 a x y : Int} (h : HB8 89 b w0 w gw ms gs ok bl) (h1 : specC ok t0 a t2 = some (x, o1)) (h2 : specC o1 t1 a t3 = some (y, o2)) :
    Calls Try.prog 64 #[.pointer (some ⟨gw, 0, none⟩), .agg #[.int .i64 t0, .int .i64 t1, .int .i64 t2, .int .i64 t3], .int .i64 a] w fun e w' => e = .returned (.agg #[.int .i64 x, .int .i64 y, .int .i64 t0, .int .i64 t1]) ∧ HB8 89 b w0 w' gw ms gs o2 bl := by
  refine (spec_left b gw ms gs ok o1 o2 t0 t1 t2 t3 a x y w0 w h.n h.bel h.sz h1 h2).mono ?_
  rintro e w' ⟨rfl, hn, hb, hk⟩
  exact ⟨rfl, h.note hn hb hk⟩
theorem HB8.right {o1 o2 : Bool} {t0 t1 t2 t3 a x y : Int} (h : HB8 89 b w0 w gw ms gs ok bl) (h1 : specC ok t0 a t1 = some (x, o1)) (h2 : specC o1 t2 a t3 = some (y, o2)) :
    Calls Try.prog 65 #[.pointer (some ⟨gw, 0, none⟩), .agg #[.int .i64 t0, .int .i64 t1, .int .i64 t2, .int .i64 t3], .int .i64 a] w fun e w' => e = .returned (.agg #[.int .i64 x, .int .i64 t0, .int .i64 y, .int .i64 t2]) ∧ HB8 89 b w0 w' gw ms gs o2 bl := by
  refine (spec_right b gw ms gs ok o1 o2 t0 t1 t2 t3 a x y w0 w h.n h.bel h.sz h1 h2).mono ?_
  rintro e w' ⟨rfl, hn, hb, hk⟩
  exact ⟨rfl, h.note hn hb hk⟩
end
def e8 (t0 t1 t2 t3 l0 l1 l2 l3 : Int) : Array Value := #[.int .i64 t0, .int .i64 t1, .int .i64 t2, .int .i64 t3, .int .i64 l0, .int .i64 l1, .int .i64 l2, .int .i64 l3]
theorem HB8.box {T b : Nat} {w0 w w1 : World} {gw g : Nat} {cs : Array Value} {U : Nat} {ms : List S52} {gs : List Int} {ok : Bool} {bl : List (Nat × Array Value × Nat)} (h : HB8 T b w0 w gw ms gs ok bl) (hg : g = w.heap.size) (hbox : w1.heap[g]? = some (.cells cs U (0, 0))) (hb : Below w.heap.size w w1) (hU : U ≠ 52 ∧ U ≠ 2 ∧ U ≠ T) : HB8 T b w0 w1 gw ms gs ok ((g, cs, U) :: bl) := by
  have h' := h.below hb
  refine ⟨h'.n, fun p hp => ?_, h.ty, h'.bel, h'.sz⟩
  rcases List.mem_cons.1 hp with rfl | hp
  · exact ⟨hbox, by show b ≤ g; rw [hg]; exact h.sz, hU.1, hU.2.1, hU.2.2⟩
  · exact h'.m p hp
theorem cells8 {w : World} {g U : Nat} {v0 v1 v2 v3 v4 v5 v6 v7 : Value} (h : w.heap[g]? = some (.cells #[v0, v1, v2, v3, v4, v5, v6, v7] U (0, 0))) :
    (w.cell? ⟨g, 0, none⟩ = some v0 ∧ w.cell? ⟨g, 1, none⟩ = some v1 ∧ w.cell? ⟨g, 2, none⟩ = some v2 ∧ w.cell? ⟨g, 3, none⟩ = some v3 ∧ w.cell? ⟨g, 4, none⟩ = some v4 ∧ w.cell? ⟨g, 5, none⟩ = some v5 ∧ w.cell? ⟨g, 6, none⟩ = some v6 ∧ w.cell? ⟨g, 7, none⟩ = some v7) ∧
    w.frozen? ⟨g, 0, none⟩ = false ∧ w.frozen? ⟨g, 1, none⟩ = false ∧ w.frozen? ⟨g, 2, none⟩ = false ∧ w.frozen? ⟨g, 3, none⟩ = false ∧ w.frozen? ⟨g, 4, none⟩ = false ∧ w.frozen? ⟨g, 5, none⟩ = false ∧ w.frozen? ⟨g, 6, none⟩ = false ∧ w.frozen? ⟨g, 7, none⟩ = false :=
  ⟨⟨(blk_cell h 0).trans rfl, (blk_cell h 1).trans rfl, (blk_cell h 2).trans rfl, (blk_cell h 3).trans rfl, (blk_cell h 4).trans rfl, (blk_cell h 5).trans rfl, (blk_cell h 6).trans rfl, (blk_cell h 7).trans rfl⟩, blk_frozen h 0, blk_frozen h 1, blk_frozen h 2, blk_frozen h 3, blk_frozen h 4, blk_frozen h 5, blk_frozen h 6, blk_frozen h 7⟩
theorem R_four {w : World} {bb : Nat} {ok : Nat → Prop} {v : Value} {x0 x1 x2 x3 : Int} (h : (Kd.int .i64).R 2 w bb ok v [x0, x1, x2, x3]) : ∃ A c, v = .slice A 4 c ∧ 4 ≤ c ∧ Kd.C (Kd.int .i64) w A 4 [x0, x1, x2, x3] := Kd.R_reads h
theorem alike_four (k : Nat) (Aa Ab : Option Addr) (ca cb : Nat) (x0 x1 x2 x3 y0 y1 y2 y3 q : Int) (ok : Bool) (W : World) (h1 : Kd.C (Kd.int .i64) W Aa 4 [x0, x1, x2, x3]) (l1 : 4 ≤ ca) (h2 : Kd.C (Kd.int .i64) W Ab 4 [y0, y1, y2, y3]) (l2 : 4 ≤ cb) (h : spec_l04Alike.f k [x0, x1, x2, x3] [y0, y1, y2, y3] = some (q, ok)) :
    Calls Try.prog 56 #[.slice Aa 4 ca, .slice Ab 4 cb] W fun e w' => e = .returned (.tuple #[.int .i64 q, .bool ok]) ∧ Drawn0 W w' := spec_l04Alike.calls k Aa ca [x0, x1, x2, x3] Ab cb [y0, y1, y2, y3] q ok W h1 l1 h2 l2 h
theorem HB8.set0' {T b : Nat} {w0 w : World} {gw g : Nat} {U : Nat} {ms : List S52} {gs : List Int} {ok : Bool} {bl : List (Nat × Array Value × Nat)} {cs cs' : Array Value} (h : HB8 T b w0 w gw ms gs ok ((g, cs, U) :: bl)) (hn : ∀ p ∈ bl, p.1 ≠ g) (j : Nat) (u : Value) (e : cs.setIfInBounds j u = cs') : HB8 T b w0 (w.setCell ⟨g, j, none⟩ u) gw ms gs ok ((g, cs', U) :: bl) := e ▸ h.set0 hn j u
theorem HB8.set1' {T b : Nat} {w0 w : World} {gw g : Nat} {U : Nat} {ms : List S52} {gs : List Int} {ok : Bool} {bl : List (Nat × Array Value × Nat)} {p0 : Nat × Array Value × Nat} {cs cs' : Array Value} (h : HB8 T b w0 w gw ms gs ok (p0 :: (g, cs, U) :: bl)) (hn : p0.1 ≠ g ∧ (∀ p ∈ bl, p.1 ≠ g)) (j : Nat) (u : Value) (e : cs.setIfInBounds j u = cs') : HB8 T b w0 (w.setCell ⟨g, j, none⟩ u) gw ms gs ok (p0 :: (g, cs', U) :: bl) := e ▸ h.set1 hn j u
theorem HB8.put8_0 {T b : Nat} {w0 w w1 : World} {gw g : Nat} {U : Nat} {ms : List S52} {gs : List Int} {ok : Bool} {bl : List (Nat × Array Value × Nat)} {a0 a1 a2 a3 a4 a5 a6 a7 b0 b1 b2 b3 b4 b5 b6 b7 : Value} (h : HB8 T b w0 w gw ms gs ok ((g, #[a0, a1, a2, a3, a4, a5, a6, a7], U) :: bl)) (hn : ∀ p ∈ bl, p.1 ≠ g) (hw : w1 = (World.setCell (World.setCell (World.setCell (World.setCell (World.setCell (World.setCell (World.setCell (World.setCell w ⟨g, 0, none⟩ b0) ⟨g, 1, none⟩ b1) ⟨g, 2, none⟩ b2) ⟨g, 3, none⟩ b3) ⟨g, 4, none⟩ b4) ⟨g, 5, none⟩ b5) ⟨g, 6, none⟩ b6) ⟨g, 7, none⟩ b7)) : HB8 T b w0 w1 gw ms gs ok ((g, #[b0, b1, b2, b3, b4, b5, b6, b7], U) :: bl) := by
  subst hw
  exact (HB8.set0' (cs' := #[b0, b1, b2, b3, b4, b5, b6, b7]) (HB8.set0' (cs' := #[b0, b1, b2, b3, b4, b5, b6, a7]) (HB8.set0' (cs' := #[b0, b1, b2, b3, b4, b5, a6, a7]) (HB8.set0' (cs' := #[b0, b1, b2, b3, b4, a5, a6, a7]) (HB8.set0' (cs' := #[b0, b1, b2, b3, a4, a5, a6, a7]) (HB8.set0' (cs' := #[b0, b1, b2, a3, a4, a5, a6, a7]) (HB8.set0' (cs' := #[b0, b1, a2, a3, a4, a5, a6, a7]) (HB8.set0' (cs' := #[b0, a1, a2, a3, a4, a5, a6, a7]) h hn 0 b0 rfl) hn 1 b1 rfl) hn 2 b2 rfl) hn 3 b3 rfl) hn 4 b4 rfl) hn 5 b5 rfl) hn 6 b6 rfl) hn 7 b7 rfl)
theorem HB8.put8_1 {T b : Nat} {w0 w w1 : World} {gw g : Nat} {U : Nat} {ms : List S52} {gs : List Int} {ok : Bool} {bl : List (Nat × Array Value × Nat)} {p0 : Nat × Array Value × Nat} {a0 a1 a2 a3 a4 a5 a6 a7 b0 b1 b2 b3 b4 b5 b6 b7 : Value} (h : HB8 T b w0 w gw ms gs ok (p0 :: (g, #[a0, a1, a2, a3, a4, a5, a6, a7], U) :: bl)) (hn : p0.1 ≠ g ∧ (∀ p ∈ bl, p.1 ≠ g)) (hw : w1 = (World.setCell (World.setCell (World.setCell (World.setCell (World.setCell (World.setCell (World.setCell (World.setCell w ⟨g, 0, none⟩ b0) ⟨g, 1, none⟩ b1) ⟨g, 2, none⟩ b2) ⟨g, 3, none⟩ b3) ⟨g, 4, none⟩ b4) ⟨g, 5, none⟩ b5) ⟨g, 6, none⟩ b6) ⟨g, 7, none⟩ b7)) : HB8 T b w0 w1 gw ms gs ok (p0 :: (g, #[b0, b1, b2, b3, b4, b5, b6, b7], U) :: bl) := by
  subst hw
  exact (HB8.set1' (cs' := #[b0, b1, b2, b3, b4, b5, b6, b7]) (HB8.set1' (cs' := #[b0, b1, b2, b3, b4, b5, b6, a7]) (HB8.set1' (cs' := #[b0, b1, b2, b3, b4, b5, a6, a7]) (HB8.set1' (cs' := #[b0, b1, b2, b3, b4, a5, a6, a7]) (HB8.set1' (cs' := #[b0, b1, b2, b3, a4, a5, a6, a7]) (HB8.set1' (cs' := #[b0, b1, b2, a3, a4, a5, a6, a7]) (HB8.set1' (cs' := #[b0, b1, a2, a3, a4, a5, a6, a7]) (HB8.set1' (cs' := #[b0, a1, a2, a3, a4, a5, a6, a7]) h hn 0 b0 rfl) hn 1 b1 rfl) hn 2 b2 rfl) hn 3 b3 rfl) hn 4 b4 rfl) hn 5 b5 rfl) hn 6 b6 rfl) hn 7 b7 rfl)
theorem HB8.put4_0 {T b : Nat} {w0 w w1 : World} {gw g : Nat} {U : Nat} {ms : List S52} {gs : List Int} {ok : Bool} {bl : List (Nat × Array Value × Nat)} {a0 a1 a2 a3 b0 b1 b2 b3 : Value} (h : HB8 T b w0 w gw ms gs ok ((g, #[a0, a1, a2, a3], U) :: bl)) (hn : ∀ p ∈ bl, p.1 ≠ g) (hw : w1 = (World.setCell (World.setCell (World.setCell (World.setCell w ⟨g, 0, none⟩ b0) ⟨g, 1, none⟩ b1) ⟨g, 2, none⟩ b2) ⟨g, 3, none⟩ b3)) : HB8 T b w0 w1 gw ms gs ok ((g, #[b0, b1, b2, b3], U) :: bl) := by
  subst hw
  exact (HB8.set0' (cs' := #[b0, b1, b2, b3]) (HB8.set0' (cs' := #[b0, b1, b2, a3]) (HB8.set0' (cs' := #[b0, b1, a2, a3]) (HB8.set0' (cs' := #[b0, a1, a2, a3]) h hn 0 b0 rfl) hn 1 b1 rfl) hn 2 b2 rfl) hn 3 b3 rfl)
theorem HB8.putlo_0 {T b : Nat} {w0 w w1 : World} {gw g : Nat} {U : Nat} {ms : List S52} {gs : List Int} {ok : Bool} {bl : List (Nat × Array Value × Nat)} {a0 a1 a2 a3 a4 a5 a6 a7 b0 b1 b2 b3 : Value} (h : HB8 T b w0 w gw ms gs ok ((g, #[a0, a1, a2, a3, a4, a5, a6, a7], U) :: bl)) (hn : ∀ p ∈ bl, p.1 ≠ g) (hw : w1 = (World.setCell (World.setCell (World.setCell (World.setCell w ⟨g, 0, none⟩ b0) ⟨g, 1, none⟩ b1) ⟨g, 2, none⟩ b2) ⟨g, 3, none⟩ b3)) : HB8 T b w0 w1 gw ms gs ok ((g, #[b0, b1, b2, b3, a4, a5, a6, a7], U) :: bl) := by
  subst hw
  exact (HB8.set0' (cs' := #[b0, b1, b2, b3, a4, a5, a6, a7]) (HB8.set0' (cs' := #[b0, b1, b2, a3, a4, a5, a6, a7]) (HB8.set0' (cs' := #[b0, b1, a2, a3, a4, a5, a6, a7]) (HB8.set0' (cs' := #[b0, a1, a2, a3, a4, a5, a6, a7]) h hn 0 b0 rfl) hn 1 b1 rfl) hn 2 b2 rfl) hn 3 b3 rfl)
theorem HB8.puthi_0 {T b : Nat} {w0 w w1 : World} {gw g : Nat} {U : Nat} {ms : List S52} {gs : List Int} {ok : Bool} {bl : List (Nat × Array Value × Nat)} {a0 a1 a2 a3 a4 a5 a6 a7 b0 b1 b2 b3 : Value} (h : HB8 T b w0 w gw ms gs ok ((g, #[a0, a1, a2, a3, a4, a5, a6, a7], U) :: bl)) (hn : ∀ p ∈ bl, p.1 ≠ g) (hw : w1 = (World.setCell (World.setCell (World.setCell (World.setCell w ⟨g, 4, none⟩ b0) ⟨g, 5, none⟩ b1) ⟨g, 6, none⟩ b2) ⟨g, 7, none⟩ b3)) : HB8 T b w0 w1 gw ms gs ok ((g, #[a0, a1, a2, a3, b0, b1, b2, b3], U) :: bl) := by
  subst hw
  exact (HB8.set0' (cs' := #[a0, a1, a2, a3, b0, b1, b2, b3]) (HB8.set0' (cs' := #[a0, a1, a2, a3, b0, b1, b2, a7]) (HB8.set0' (cs' := #[a0, a1, a2, a3, b0, b1, a6, a7]) (HB8.set0' (cs' := #[a0, a1, a2, a3, b0, a5, a6, a7]) h hn 4 b0 rfl) hn 5 b1 rfl) hn 6 b2 rfl) hn 7 b3 rfl)
structure ESt where
  T0 : Int
  T1 : Int
  T2 : Int
  T3 : Int
  L0 : Int
  L1 : Int
  L2 : Int
  L3 : Int
  i : Int
  j : Int
  lf : Bool
  ms : List S52
  gs : List Int
  ov : Bool
def corn (a b c d : Int) : List Int := [a, wrap64 (a + b), wrap64 (a + c), wrap64 ((wrap64 ((wrap64 (a + b)) + c)) + d)]
/-- One move of the reference's machine with eight numbers. -/
def stepE (k : Nat) (xs ys : List Int) (s : ESt) : Option (Bool × ESt) :=
  if ((xs.length : Int) < s.i ∧ (ys.length : Int) < s.j) ∧ s.L0 = 0 then some (false, s) else
  (spec_l04Alike.f k (corn s.T0 s.T1 s.T2 s.T3) (corn s.L0 s.L1 s.L2 s.L3)).bind fun t =>
    if t.2 = true ∧ 0 < s.i ∧ 0 < s.j then
      (specC s.ov (wrap64 (-t.1)) s.L0 s.T0).bind fun c0 => (specC c0.2 (wrap64 (-t.1)) s.L1 s.T1).bind fun c1 => (specC c1.2 (wrap64 (-t.1)) s.L2 s.T2).bind fun c2 => (specC c2.2 (wrap64 (-t.1)) s.L3 s.T3).bind fun c3 =>
        some (true, ⟨s.L0, s.L1, s.L2, s.L3, c0.1, c1.1, c2.1, c3.1, s.i, s.j, s.lf, s.ms ++ [⟨1, t.1⟩], s.gs ++ [t.1], c3.2⟩)
    else if (xs.length : Int) < s.i ∧ (ys.length : Int) < s.j then none
    else if (s.lf = true ∨ (ys.length : Int) < s.j) ∧ ¬ (xs.length : Int) < s.i then
      if s.i < (xs.length : Int) then
        (specC s.ov s.T0 (rd xs s.i) s.T2).bind fun c0 => (specC c0.2 s.T1 (rd xs s.i) s.T3).bind fun c1 => (specC c1.2 s.L0 (rd xs s.i) s.L2).bind fun c2 => (specC c2.2 s.L1 (rd xs s.i) s.L3).bind fun c3 =>
          some (true, ⟨c0.1, c1.1, s.T0, s.T1, c2.1, c3.1, s.L0, s.L1, s.i + 1, s.j, !s.lf, s.ms ++ [⟨2, rd xs s.i⟩], s.gs, c3.2⟩)
      else some (true, ⟨s.T0, s.T1, s.T0, s.T1, s.L0, s.L1, s.L0, s.L1, s.i + 1, s.j, !s.lf, s.ms ++ [⟨2, 0⟩], s.gs, s.ov⟩)
    else if s.j < (ys.length : Int) then
      (specC s.ov s.T0 (rd ys s.j) s.T1).bind fun c0 => (specC c0.2 s.T2 (rd ys s.j) s.T3).bind fun c1 => (specC c1.2 s.L0 (rd ys s.j) s.L1).bind fun c2 => (specC c2.2 s.L2 (rd ys s.j) s.L3).bind fun c3 =>
        some (true, ⟨c0.1, s.T0, c1.1, s.T2, c2.1, s.L0, c3.1, s.L2, s.i, s.j + 1, !s.lf, s.ms ++ [⟨3, rd ys s.j⟩], s.gs, c3.2⟩)
    else some (true, ⟨s.T0, s.T0, s.T2, s.T2, s.L0, s.L0, s.L2, s.L2, s.i, s.j + 1, !s.lf, s.ms ++ [⟨3, 0⟩], s.gs, s.ov⟩)
def runE (k : Nat) (xs ys : List Int) : Nat → ESt → Option ESt
  | 0, _ => none
  | n + 1, s => if s.ov = true then (if ((s.ms.length < 1000000 ∧ s.gs.length < 1000000) ∧ 0 ≤ s.i ∧ s.i < 1000000 ∧ 0 ≤ s.j ∧ s.j < 1000000) ∧ xs.length < 1000000 ∧ ys.length < 1000000 then (stepE k xs ys s).bind fun r => (if r.1 = true then runE k xs ys n r.2 else some r.2) else none) else some s
theorem HB_startS {w : World} {vs : Array Value} :
    HB8 89 w.heap.size w ((w.alloc (.cells vs 42)).alloc (.cells #[.slice none 0 0, .slice none 0 0, .bool true] 89)) (w.heap.size + 1) [] [] true [(w.heap.size, vs, 42)] := by
  refine ⟨⟨_, _, two_second w _ _, by omega, Kd.R_nil _ _ _ _ _, Kd.R_nil _ _ _ _ _⟩, fun p hp => ?_, by decide, below_alloc (below_alloc (Below.refl _ _) _) _, by simp; omega⟩
  rw [List.mem_singleton.1 hp]
  exact ⟨two_first w 0 _ _, Nat.le_refl _, by show (42 : Nat) ≠ 52; decide, by show (42 : Nat) ≠ 2; decide, by show (42 : Nat) ≠ 89; decide⟩
/-- Twenty slots of a frame. -/
def q20 (a b c d e f g h i j k l m n o p q r s t : Value) (z : List Value) : List Value := a :: b :: c :: d :: e :: f :: g :: h :: i :: j :: k :: l :: m :: n :: o :: p :: q :: r :: s :: t :: z
/-- The first region of a piece of code. -/
def hdR : Code → Nat
  | .region n _ _ => n
  | .seq a _ => hdR a
  | .block _ c => hdR c
  | .scope c => hdR c
  | .loop c => hdR c
  | _ => 1000000
/-- What is left of a piece of code from its region n on. -/
def tailAt (n : Nat) : Code → Option Code
  | .seq a b => match Nat.beq (hdR a) n with
    | true => some (.seq a b)
    | false => match tailAt n a with
      | some c => some c
      | none => tailAt n b
  | .block _ c => tailAt n c
  | .scope c => tailAt n c
  | .loop c => tailAt n c
  | .cond _ a b => match tailAt n a with
    | some c => some c
    | none => tailAt n b
  | _ => none
/-- The body of the loop that begins with region n. -/
def loopAt (n : Nat) : Code → Option Code
  | .seq a b => match loopAt n a with
    | some c => some c
    | none => loopAt n b
  | .block _ c => loopAt n c
  | .scope c => loopAt n c
  | .loop c => match Nat.beq (hdR c) n with
    | true => some c
    | false => loopAt n c
  | .cond _ a b => match loopAt n a with
    | some c => some c
    | none => loopAt n b
  | _ => none
noncomputable def body44 : Code := ((Try.f44.body.bind (loopAt 5))).getD .skip
noncomputable def inner44 : Code := ((Try.f44.body.bind (loopAt 13))).getD .skip
noncomputable def tl44 (n : Nat) : Code := ((Try.f44.body.bind (tailAt n))).getD .skip
def HJ44 (k : Nat) (xs ys : List Int) (A1_ A2_ : Option Addr) (c1_ c2_ : Nat) (s : ESt) (w : World) (J : Nat → Act → World → Prop) (c0 c4 c5 c18 c19 c214 : Value) : Prop := ∀ (kq : Nat) (a' : Act) (w' : World), (∃ u6 u8 u9 u10 u11 u12 u13 u14 u15 u16 u17 u20 u21 u22 u23 u24 u25 u26 u27 u28 u29 u30 u31 u32 u33 u34 u35 u36 u37 u38 u39 u40 u41 u42 u43 u44 u45 u46 u47 u48 u49 u50 u51 u52 u53 u54 u55 u56 u57 u58 u59 u60 u61 u62 u63 u64 u65 u66 u67 u68 u69 u70 u71 u72 u73 u74 u75 u76 u77 u78 u79 u80 u81 u82 u83 u84 u85 u86 u87 u88 u89 u90 u91 u92 u93 u94 u95 u96 u97 u98 u99 u100 u101 u102 u103 u104 u105 u106 u107 u108 u109 u110 u111 u112 u113 u114 u115 u116 u117 u118 u119 u120 u121 u122 u123 u124 u125 u126 u127 u128 u129 u130 u131 u132 u133 u134 u135 u136 u137 u138 u139 u140 u141 u142 u143 u144 u145 u146 u147 u148 u149 u150 u151 u152 u153 u154 u155 u156 u157 u158 u159 u160 u161 u162 u163 u164 u165 u166 u167 u168 u169 u170 u171 u172 u173 u174 u175 u176 u177 u178 u179 u180 u181 u182 u183 u184 u185 u186 u187 u188 u189 u190 u191 u192 u193 u194 u195 u196 u197 u198 u199 u200 u201 u202 u203 u204 u205 u206 u207 u208 u209 u210 u211 u212 u213 : Value, (∃ s1 : ESt, u8 = .int .i64 s1.i ∧ u9 = .int .i64 s1.j ∧ u10 = .bool s1.lf ∧ Aside0 (runE k xs ys kq s1 = some s) ∧ Aside0 (kq ≤ k) ∧ Aside0 (HB8 89 w.heap.size w w' (w.heap.size + 1) s1.ms s1.gs s1.ov [(w.heap.size, #[.int .i64 s1.T0, .int .i64 s1.T1, .int .i64 s1.T2, .int .i64 s1.T3, .int .i64 s1.L0, .int .i64 s1.L1, .int .i64 s1.L2, .int .i64 s1.L3], 42)])) ∧ a' = ⟨List.toArray (q20 c0 (.slice A1_ xs.length c1_) (.slice A2_ ys.length c2_) (.pointer (some ⟨w.heap.size, 0, none⟩)) c4 c5 u6 (.pointer (some ⟨w.heap.size + 1, 0, none⟩)) u8 u9 u10 u11 u12 u13 u14 u15 u16 u17 c18 c19 (q20 u20 u21 u22 u23 u24 u25 u26 u27 u28 u29 u30 u31 u32 u33 u34 u35 u36 u37 u38 u39 (q20 u40 u41 u42 u43 u44 u45 u46 u47 u48 u49 u50 u51 u52 u53 u54 u55 u56 u57 u58 u59 (q20 u60 u61 u62 u63 u64 u65 u66 u67 u68 u69 u70 u71 u72 u73 u74 u75 u76 u77 u78 u79 (q20 u80 u81 u82 u83 u84 u85 u86 u87 u88 u89 u90 u91 u92 u93 u94 u95 u96 u97 u98 u99 (q20 u100 u101 u102 u103 u104 u105 u106 u107 u108 u109 u110 u111 u112 u113 u114 u115 u116 u117 u118 u119 (q20 u120 u121 u122 u123 u124 u125 u126 u127 u128 u129 u130 u131 u132 u133 u134 u135 u136 u137 u138 u139 (q20 u140 u141 u142 u143 u144 u145 u146 u147 u148 u149 u150 u151 u152 u153 u154 u155 u156 u157 u158 u159 (q20 u160 u161 u162 u163 u164 u165 u166 u167 u168 u169 u170 u171 u172 u173 u174 u175 u176 u177 u178 u179 (q20 u180 u181 u182 u183 u184 u185 u186 u187 u188 u189 u190 u191 u192 u193 u194 u195 u196 u197 u198 u199 (u200 :: u201 :: u202 :: u203 :: u204 :: u205 :: u206 :: u207 :: u208 :: u209 :: u210 :: u211 :: u212 :: u213 :: c214 :: []))))))))))), []⟩) → J kq a' w'
def HJi44 (w : World) (gb : Nat) (T0 T1 T2 T3 L0 L1 L2 L3 q x0 x1 x2 x3 : Int) (o0 o1 o2 o3 : Bool) (ms : List S52) (gs : List Int) (Ji : Nat → Act → World → Prop) (c0 c1 c2 c4 c5 c6 c8 c9 c10 c12 c15 c16 c17 c18 c19 c20 c21 c22 c23 c24 c25 c26 c27 c28 c29 c30 c31 c32 c33 c34 c35 c36 c37 c38 c39 c40 c41 c42 c43 c44 c45 c46 c47 c48 c49 c50 c51 c52 c53 c54 c55 c56 c57 c58 c59 c60 c61 c62 c63 c83 c84 c85 c86 c87 c88 c89 c90 c91 c92 c93 c94 c95 c96 c97 c98 c99 c100 c101 c102 c103 c104 c105 c106 c107 c108 c109 c110 c111 c112 c113 c114 c115 c116 c117 c118 c119 c120 c121 c122 c123 c124 c125 c126 c127 c128 c129 c130 c131 c132 c133 c134 c135 c136 c137 c138 c139 c140 c141 c142 c143 c144 c145 c146 c147 c148 c149 c150 c151 c152 c153 c154 c155 c156 c157 c158 c159 c160 c161 c162 c163 c164 c165 c166 c167 c168 c169 c170 c171 c172 c173 c174 c175 c176 c177 c178 c179 c180 c181 c182 c183 c184 c185 c186 c187 c188 c189 c190 c191 c192 c193 c194 c195 c196 c197 c198 c199 c200 c201 c202 c203 c204 c205 c206 c207 c208 c209 c210 c211 c212 c213 c214 : Value) : Prop := ∀ (kq : Nat) (a' : Act) (w' : World), (∃ u14 u64 u65 u66 u67 u68 u69 u70 u71 u72 u73 u74 u75 u76 u77 u78 u79 u80 u81 u82 : Value, ((u14 = .int .i64 0 ∧ Aside0 (kq + 0 = 5) ∧ Aside0 (HB8 89 w.heap.size w w' (w.heap.size + 1) (ms ++ [⟨1, q⟩]) (gs ++ [q]) true [(gb, #[.int .i64 L0, .int .i64 L1, .int .i64 L2, .int .i64 L3, .int .i64 0, .int .i64 0, .int .i64 0, .int .i64 0], 42), (w.heap.size, #[.int .i64 T0, .int .i64 T1, .int .i64 T2, .int .i64 T3, .int .i64 L0, .int .i64 L1, .int .i64 L2, .int .i64 L3], 42)])) ∨ (u14 = .int .i64 1 ∧ Aside0 (kq + 1 = 5) ∧ Aside0 (HB8 89 w.heap.size w w' (w.heap.size + 1) (ms ++ [⟨1, q⟩]) (gs ++ [q]) o0 [(gb, #[.int .i64 L0, .int .i64 L1, .int .i64 L2, .int .i64 L3, .int .i64 x0, .int .i64 0, .int .i64 0, .int .i64 0], 42), (w.heap.size, #[.int .i64 T0, .int .i64 T1, .int .i64 T2, .int .i64 T3, .int .i64 L0, .int .i64 L1, .int .i64 L2, .int .i64 L3], 42)])) ∨ (u14 = .int .i64 2 ∧ Aside0 (kq + 2 = 5) ∧ Aside0 (HB8 89 w.heap.size w w' (w.heap.size + 1) (ms ++ [⟨1, q⟩]) (gs ++ [q]) o1 [(gb, #[.int .i64 L0, .int .i64 L1, .int .i64 L2, .int .i64 L3, .int .i64 x0, .int .i64 x1, .int .i64 0, .int .i64 0], 42), (w.heap.size, #[.int .i64 T0, .int .i64 T1, .int .i64 T2, .int .i64 T3, .int .i64 L0, .int .i64 L1, .int .i64 L2, .int .i64 L3], 42)])) ∨ (u14 = .int .i64 3 ∧ Aside0 (kq + 3 = 5) ∧ Aside0 (HB8 89 w.heap.size w w' (w.heap.size + 1) (ms ++ [⟨1, q⟩]) (gs ++ [q]) o2 [(gb, #[.int .i64 L0, .int .i64 L1, .int .i64 L2, .int .i64 L3, .int .i64 x0, .int .i64 x1, .int .i64 x2, .int .i64 0], 42), (w.heap.size, #[.int .i64 T0, .int .i64 T1, .int .i64 T2, .int .i64 T3, .int .i64 L0, .int .i64 L1, .int .i64 L2, .int .i64 L3], 42)])) ∨ (u14 = .int .i64 4 ∧ Aside0 (kq + 4 = 5) ∧ Aside0 (HB8 89 w.heap.size w w' (w.heap.size + 1) (ms ++ [⟨1, q⟩]) (gs ++ [q]) o3 [(gb, #[.int .i64 L0, .int .i64 L1, .int .i64 L2, .int .i64 L3, .int .i64 x0, .int .i64 x1, .int .i64 x2, .int .i64 x3], 42), (w.heap.size, #[.int .i64 T0, .int .i64 T1, .int .i64 T2, .int .i64 T3, .int .i64 L0, .int .i64 L1, .int .i64 L2, .int .i64 L3], 42)]))) ∧ a' = ⟨List.toArray (q20 c0 c1 c2 (.pointer (some ⟨w.heap.size, 0, none⟩)) c4 c5 c6 (.pointer (some ⟨w.heap.size + 1, 0, none⟩)) c8 c9 c10 (.int .i64 q) c12 (.pointer (some ⟨gb, 0, none⟩)) u14 c15 c16 c17 c18 c19 (q20 c20 c21 c22 c23 c24 c25 c26 c27 c28 c29 c30 c31 c32 c33 c34 c35 c36 c37 c38 c39 (q20 c40 c41 c42 c43 c44 c45 c46 c47 c48 c49 c50 c51 c52 c53 c54 c55 c56 c57 c58 c59 (q20 c60 c61 c62 c63 u64 u65 u66 u67 u68 u69 u70 u71 u72 u73 u74 u75 u76 u77 u78 u79 (q20 u80 u81 u82 c83 c84 c85 c86 c87 c88 c89 c90 c91 c92 c93 c94 c95 c96 c97 c98 c99 (q20 c100 c101 c102 c103 c104 c105 c106 c107 c108 c109 c110 c111 c112 c113 c114 c115 c116 c117 c118 c119 (q20 c120 c121 c122 c123 c124 c125 c126 c127 c128 c129 c130 c131 c132 c133 c134 c135 c136 c137 c138 c139 (q20 c140 c141 c142 c143 c144 c145 c146 c147 c148 c149 c150 c151 c152 c153 c154 c155 c156 c157 c158 c159 (q20 c160 c161 c162 c163 c164 c165 c166 c167 c168 c169 c170 c171 c172 c173 c174 c175 c176 c177 c178 c179 (q20 c180 c181 c182 c183 c184 c185 c186 c187 c188 c189 c190 c191 c192 c193 c194 c195 c196 c197 c198 c199 (c200 :: c201 :: c202 :: c203 :: c204 :: c205 :: c206 :: c207 :: c208 :: c209 :: c210 :: c211 :: c212 :: c213 :: c214 :: []))))))))))), []⟩) → Ji kq a' w'
theorem E8_P1 {k : Nat} {xs ys : List Int} {A1_ A2_ : Option Addr} {c1_ c2_ : Nat} {w wc : World} {T0 T1 T2 T3 L0 L1 L2 L3 i j : Int} {lf : Bool} {ms : List S52} {gs : List Int} {R : Ending → World → Prop} {K2 K3 : Act → World → Prop} {c0 c4 c5 c18 c19 c214 : Value} {q : Int} {yes : Bool} {u6 u11 u12 u13 u14 u15 u16 u17 u20 u21 u22 u23 u24 u25 u26 u27 u28 u29 u30 u31 u32 u33 u34 u35 u36 u37 u38 u39 u40 u41 u42 u43 u44 u45 u46 u47 u48 u49 u50 u51 u52 u53 u54 u55 u56 u57 u58 u59 u60 u61 u62 u63 u64 u65 u66 u67 u68 u69 u70 u71 u72 u73 u74 u75 u76 u77 u78 u79 u80 u81 u82 u83 u84 u85 u86 u87 u88 u89 u90 u91 u92 u93 u94 u95 u96 u97 u98 u99 u100 u101 u102 u103 u104 u105 u106 u107 u108 u109 u110 u111 u112 u113 u114 u115 u116 u117 u118 u119 u120 u121 u122 u123 u124 u125 u126 u127 u128 u129 u130 u131 u132 u133 u134 u135 u136 u137 u138 u139 u140 u141 u142 u143 u144 u145 u146 u147 u148 u149 u150 u151 u152 u153 u154 u155 u156 u157 u158 u159 u160 u161 u162 u163 u164 u165 u166 u167 u168 u169 u170 u171 u172 u173 u174 u175 u176 u177 u178 u179 u180 u181 u182 u183 u184 u185 u186 u187 u188 u189 u190 u191 u192 u193 u194 u195 u196 u197 u198 u199 u200 u201 u202 u203 u204 u205 u206 u207 u208 u209 u210 u211 u212 u213 : Value} (HR : Aside0 ((Kd.int .i64).C w A1_ xs.length xs)) (HR2 : Aside0 ((Kd.int .i64).C w A2_ ys.length ys)) (HC : Aside0 (xs.length ≤ c1_)) (HC2 : Aside0 (ys.length ≤ c2_)) (CB : Aside0 (((ms.length < 1000000 ∧ gs.length < 1000000) ∧ 0 ≤ i ∧ i < 1000000 ∧ 0 ≤ j ∧ j < 1000000) ∧ xs.length < 1000000 ∧ ys.length < 1000000)) (hti0 : 0 ≤ i) (hti2 : i < 1000000) (htj0 : 0 ≤ j) (htj2 : j < 1000000) (X0 : Aside0 (HB8 89 w.heap.size w wc (w.heap.size + 1) ms gs true [(w.heap.size, #[.int .i64 T0, .int .i64 T1, .int .i64 T2, .int .i64 T3, .int .i64 L0, .int .i64 L1, .int .i64 L2, .int .i64 L3], 42)])) (ce : ¬ (((xs.length : Int) < i ∧ (ys.length : Int) < j) ∧ L0 = 0)) (HG : Aside0 (spec_l04Alike.f k [T0, wrap64 (T0 + T1), wrap64 (T0 + T2), wrap64 (wrap64 (wrap64 (T0 + T1) + T2) + T3)] [L0, wrap64 (L0 + L1), wrap64 (L0 + L2), wrap64 (wrap64 (wrap64 (L0 + L1) + L2) + L3)] = some (q, yes)))
    (hnext : Aside0 (∀ (u6 u13 u14 u15 u16 u17 u20 u21 u22 u23 u24 u25 u26 u27 u28 u29 u30 u31 u32 u33 u34 u35 u36 u37 u38 u39 u40 u41 u42 u43 u44 u45 u46 u47 u48 u49 u50 u51 u52 u53 u54 u55 u56 u57 u58 u59 u60 u61 u62 u63 u64 u65 u66 u67 u68 u69 u70 u71 u72 u73 u74 u75 u76 u77 u78 u79 u80 u81 u82 u83 u84 u85 u86 u87 u88 u89 u90 u91 u92 u93 u94 u95 u96 u97 u98 u99 u100 u101 u102 u103 u104 u105 u106 u107 u108 u109 u110 u111 u112 u113 u114 u115 u116 u117 u118 u119 u120 u121 u122 u123 u124 u125 u126 u127 u128 u129 u130 u131 u132 u133 u134 u135 u136 u137 u138 u139 u140 u141 u142 u143 u144 u145 u146 u147 u148 u149 u150 u151 u152 u153 u154 u155 u156 u157 u158 u159 u160 u161 u162 u163 u164 u165 u166 u167 u168 u169 u170 u171 u172 u173 u174 u175 u176 u177 u178 u179 u180 u181 u182 u183 u184 u185 u186 u187 u188 u189 u190 u191 u192 u193 u194 u195 u196 u197 u198 u199 u200 u201 u202 u203 u204 u205 u206 u207 u208 u209 u210 u211 u212 u213 : Value) (wc : World), Aside0 (HB8 89 w.heap.size w wc (w.heap.size + 1) ms gs true [(w.heap.size, #[.int .i64 T0, .int .i64 T1, .int .i64 T2, .int .i64 T3, .int .i64 L0, .int .i64 L1, .int .i64 L2, .int .i64 L3], 42)]) → Code.wp Try.prog (tl44 9) (Exit.inBlock 1 (Exit.then K2 (Exit.inBlock 0 (Exit.then K3 (bodyPost Try.prog Try.f44 R))))) ⟨List.toArray (q20 c0 (.slice A1_ xs.length c1_) (.slice A2_ ys.length c2_) (.pointer (some ⟨w.heap.size, 0, none⟩)) c4 c5 u6 (.pointer (some ⟨w.heap.size + 1, 0, none⟩)) (.int .i64 i) (.int .i64 j) (.bool lf) (.int .i64 q) (.bool yes) u13 u14 u15 u16 u17 c18 c19 (q20 u20 u21 u22 u23 u24 u25 u26 u27 u28 u29 u30 u31 u32 u33 u34 u35 u36 u37 u38 u39 (q20 u40 u41 u42 u43 u44 u45 u46 u47 u48 u49 u50 u51 u52 u53 u54 u55 u56 u57 u58 u59 (q20 u60 u61 u62 u63 u64 u65 u66 u67 u68 u69 u70 u71 u72 u73 u74 u75 u76 u77 u78 u79 (q20 u80 u81 u82 u83 u84 u85 u86 u87 u88 u89 u90 u91 u92 u93 u94 u95 u96 u97 u98 u99 (q20 u100 u101 u102 u103 u104 u105 u106 u107 u108 u109 u110 u111 u112 u113 u114 u115 u116 u117 u118 u119 (q20 u120 u121 u122 u123 u124 u125 u126 u127 u128 u129 u130 u131 u132 u133 u134 u135 u136 u137 u138 u139 (q20 u140 u141 u142 u143 u144 u145 u146 u147 u148 u149 u150 u151 u152 u153 u154 u155 u156 u157 u158 u159 (q20 u160 u161 u162 u163 u164 u165 u166 u167 u168 u169 u170 u171 u172 u173 u174 u175 u176 u177 u178 u179 (q20 u180 u181 u182 u183 u184 u185 u186 u187 u188 u189 u190 u191 u192 u193 u194 u195 u196 u197 u198 u199 (u200 :: u201 :: u202 :: u203 :: u204 :: u205 :: u206 :: u207 :: u208 :: u209 :: u210 :: u211 :: u212 :: u213 :: c214 :: []))))))))))), []⟩ wc)) :
    Code.wp Try.prog body44 (Exit.then K2 (Exit.inBlock 0 (Exit.then K3 (bodyPost Try.prog Try.f44 R)))) ⟨List.toArray (q20 c0 (.slice A1_ xs.length c1_) (.slice A2_ ys.length c2_) (.pointer (some ⟨w.heap.size, 0, none⟩)) c4 c5 u6 (.pointer (some ⟨w.heap.size + 1, 0, none⟩)) (.int .i64 i) (.int .i64 j) (.bool lf) u11 u12 u13 u14 u15 u16 u17 c18 c19 (q20 u20 u21 u22 u23 u24 u25 u26 u27 u28 u29 u30 u31 u32 u33 u34 u35 u36 u37 u38 u39 (q20 u40 u41 u42 u43 u44 u45 u46 u47 u48 u49 u50 u51 u52 u53 u54 u55 u56 u57 u58 u59 (q20 u60 u61 u62 u63 u64 u65 u66 u67 u68 u69 u70 u71 u72 u73 u74 u75 u76 u77 u78 u79 (q20 u80 u81 u82 u83 u84 u85 u86 u87 u88 u89 u90 u91 u92 u93 u94 u95 u96 u97 u98 u99 (q20 u100 u101 u102 u103 u104 u105 u106 u107 u108 u109 u110 u111 u112 u113 u114 u115 u116 u117 u118 u119 (q20 u120 u121 u122 u123 u124 u125 u126 u127 u128 u129 u130 u131 u132 u133 u134 u135 u136 u137 u138 u139 (q20 u140 u141 u142 u143 u144 u145 u146 u147 u148 u149 u150 u151 u152 u153 u154 u155 u156 u157 u158 u159 (q20 u160 u161 u162 u163 u164 u165 u166 u167 u168 u169 u170 u171 u172 u173 u174 u175 u176 u177 u178 u179 (q20 u180 u181 u182 u183 u184 u185 u186 u187 u188 u189 u190 u191 u192 u193 u194 u195 u196 u197 u198 u199 (u200 :: u201 :: u202 :: u203 :: u204 :: u205 :: u206 :: u207 :: u208 :: u209 :: u210 :: u211 :: u212 :: u213 :: c214 :: []))))))))))), []⟩ wc := by
  have hu42 := Try.underlying42
  have hu38 := Try.underlying38
  conv => arg 2; whnf
  unfold q20
  have cw0 := X0.out.cw
  obtain ⟨⟨q0w0, q1w0, q2w0, q3w0, q4w0, q5w0, q6w0, q7w0⟩, z0w0, z1w0, z2w0, z3w0, z4w0, z5w0, z6w0, z7w0⟩ := cells8 X0.out.at0
  go_upto_region 6 with (fail)
  go_cut [39] (fun v39 wc => v39 = .bool false ∧ Aside0 (HB8 89 w.heap.size w wc (w.heap.size + 1) ms gs true [(w.heap.size, #[.int .i64 T0, .int .i64 T1, .int .i64 T2, .int .i64 T3, .int .i64 L0, .int .i64 L1, .int .i64 L2, .int .i64 L3], 42)]))
  case first =>
    by_cases c1 : (xs.length : Int) < i
    · have f1 : decide ((xs.length : Int) < i) = true := decide_eq_true c1
      by_cases c2 : (ys.length : Int) < j
      · have f2 : decide ((ys.length : Int) < j) = true := decide_eq_true c2
        have f3 : (L0 == 0) = false := beq_eq_false_iff_ne.mpr (fun z => ce ⟨⟨c1, c2⟩, z⟩)
        clear ce
        go_wp2
        go_meet
        exact ⟨rfl, X0⟩
      · have f2 : decide ((ys.length : Int) < j) = false := decide_eq_false c2
        clear ce
        go_wp2
        go_meet
        exact ⟨rfl, X0⟩
    · have f1 : decide ((xs.length : Int) < i) = false := decide_eq_false c1
      clear ce
      go_wp2
      go_meet
      exact ⟨rfl, X0⟩
  case rest =>
    clear ce q0w0 q1w0 q2w0 q3w0 q4w0 q5w0 q6w0 q7w0 z0w0 z1w0 z2w0 z3w0 z4w0 z5w0 z6w0 z7w0 X0 cw0
    obtain ⟨rfl, X0⟩ := hcut
    obtain ⟨⟨q0wc, q1wc, q2wc, q3wc, q4wc, q5wc, q6wc, q7wc⟩, z0wc, z1wc, z2wc, z3wc, z4wc, z5wc, z6wc, z7wc⟩ := cells8 X0.out.at0
    go_upto_region 8 with (fail)
    go_cut [11, 12] (fun v11 v12 wc => v11 = .int .i64 q ∧ v12 = .bool yes ∧ Aside0 (HB8 89 w.heap.size w wc (w.heap.size + 1) ms gs true [(w.heap.size, #[.int .i64 T0, .int .i64 T1, .int .i64 T2, .int .i64 T3, .int .i64 L0, .int .i64 L1, .int .i64 L2, .int .i64 L3], 42)]))
    case first =>
      go_wp2_with (first | (go_at_call 63; (with_reducible refine (spec_l04Corners.calls w.heap.size 0 T0 T1 T2 T3 _ _ ?sqw1 rfl).mono ?_); (case sqw1 => exact ⟨(blk_cell X0.out.at0 0).trans rfl, (blk_cell X0.out.at0 1).trans rfl, (blk_cell X0.out.at0 2).trans rfl, (blk_cell X0.out.at0 3).trans rfl⟩); rintro e w1 ⟨vw1, rfl, hR, hb⟩; obtain ⟨Aw1, cw1, rfl, hlw1, hC⟩ := R_four hR; have C1 := Aside0.mk hC; have hlw1_ := Aside0.mk hlw1; have Bw1 := Aside0.mk hb; have X1 := Aside0.mk (X0.out.below hb); clear hR hb hC hlw1; obtain ⟨⟨q0w1, q1w1, q2w1, q3w1, q4w1, q5w1, q6w1, q7w1⟩, z0w1, z1w1, z2w1, z3w1, z4w1, z5w1, z6w1, z7w1⟩ := cells8 X1.out.at0) | (go_at_call 63; (with_reducible refine (spec_l04Corners.calls w.heap.size 4 L0 L1 L2 L3 _ _ ?sqw2 rfl).mono ?_); (case sqw2 => exact ⟨(blk_cell X1.out.at0 4).trans rfl, (blk_cell X1.out.at0 5).trans rfl, (blk_cell X1.out.at0 6).trans rfl, (blk_cell X1.out.at0 7).trans rfl⟩); rintro e w2 ⟨vw2, rfl, hR, hb⟩; obtain ⟨Aw2, cw2, rfl, hlw2, hC⟩ := R_four hR; have C2 := Aside0.mk hC; have hlw2_ := Aside0.mk hlw2; have Bw2 := Aside0.mk hb; have X2 := Aside0.mk (X1.out.below hb); clear hR hb hC hlw2; obtain ⟨⟨q0w2, q1w2, q2w2, q3w2, q4w2, q5w2, q6w2, q7w2⟩, z0w2, z1w2, z2w2, z3w2, z4w2, z5w2, z6w2, z7w2⟩ := cells8 X2.out.at0) | (go_at_call 56; (with_reducible refine (alike_four k _ _ _ _ T0 (wrap64 (T0 + T1)) (wrap64 (T0 + T2)) (wrap64 ((wrap64 ((wrap64 (T0 + T1)) + T2)) + T3)) L0 (wrap64 (L0 + L1)) (wrap64 (L0 + L2)) (wrap64 ((wrap64 ((wrap64 (L0 + L1)) + L2)) + L3)) q yes _ ?t1 ?t2 ?t3 ?t4 HG.out).mono ?_); (case t1 => exact Kd.C_below C1.out Bw2.out); (case t2 => exact hlw1_.out); (case t3 => exact C2.out); (case t4 => exact hlw2_.out); rintro e w3 ⟨rfl, hd⟩; have X3 := Aside0.mk (X2.out.below hd.below); clear hd; obtain ⟨⟨q0w3, q1w3, q2w3, q3w3, q4w3, q5w3, q6w3, q7w3⟩, z0w3, z1w3, z2w3, z3w3, z4w3, z5w3, z6w3, z7w3⟩ := cells8 X3.out.at0))
      go_meet
      exact ⟨rfl, rfl, X3⟩
    case rest =>
      obtain ⟨rfl, rfl, X4⟩ := hcut
      go_step
      exact hnext.out _ _ _ _ _ _ _ _ _ _ _ _ _ _ _ _ _ _ _ _ _ _ _ _ _ _ _ _ _ _ _ _ _ _ _ _ _ _ _ _ _ _ _ _ _ _ _ _ _ _ _ _ _ _ _ _ _ _ _ _ _ _ _ _ _ _ _ _ _ _ _ _ _ _ _ _ _ _ _ _ _ _ _ _ _ _ _ _ _ _ _ _ _ _ _ _ _ _ _ _ _ _ _ _ _ _ _ _ _ _ _ _ _ _ _ _ _ _ _ _ _ _ _ _ _ _ _ _ _ _ _ _ _ _ _ _ _ _ _ _ _ _ _ _ _ _ _ _ _ _ _ _ _ _ _ _ _ _ _ _ _ _ _ _ _ _ _ _ _ _ _ _ _ _ _ _ _ _ _ _ _ _ _ _ _ _ _ _ _ _ _ _ _ _ _ _ _ _ _ _ _ X4
theorem E8_P2 {xs ys : List Int} {A1_ A2_ : Option Addr} {c1_ c2_ : Nat} {w wc : World} {T0 T1 T2 T3 L0 L1 L2 L3 i j : Int} {lf : Bool} {ms : List S52} {gs : List Int} {R : Ending → World → Prop} {K2 K3 : Act → World → Prop} {c0 c4 c5 c18 c19 c214 : Value} {q : Int} {yes : Bool} {u6 u13 u14 u15 u16 u17 u20 u21 u22 u23 u24 u25 u26 u27 u28 u29 u30 u31 u32 u33 u34 u35 u36 u37 u38 u39 u40 u41 u42 u43 u44 u45 u46 u47 u48 u49 u50 u51 u52 u53 u54 u55 u56 u57 u58 u59 u60 u61 u62 u63 u64 u65 u66 u67 u68 u69 u70 u71 u72 u73 u74 u75 u76 u77 u78 u79 u80 u81 u82 u83 u84 u85 u86 u87 u88 u89 u90 u91 u92 u93 u94 u95 u96 u97 u98 u99 u100 u101 u102 u103 u104 u105 u106 u107 u108 u109 u110 u111 u112 u113 u114 u115 u116 u117 u118 u119 u120 u121 u122 u123 u124 u125 u126 u127 u128 u129 u130 u131 u132 u133 u134 u135 u136 u137 u138 u139 u140 u141 u142 u143 u144 u145 u146 u147 u148 u149 u150 u151 u152 u153 u154 u155 u156 u157 u158 u159 u160 u161 u162 u163 u164 u165 u166 u167 u168 u169 u170 u171 u172 u173 u174 u175 u176 u177 u178 u179 u180 u181 u182 u183 u184 u185 u186 u187 u188 u189 u190 u191 u192 u193 u194 u195 u196 u197 u198 u199 u200 u201 u202 u203 u204 u205 u206 u207 u208 u209 u210 u211 u212 u213 : Value} (HR : Aside0 ((Kd.int .i64).C w A1_ xs.length xs)) (HR2 : Aside0 ((Kd.int .i64).C w A2_ ys.length ys)) (HC : Aside0 (xs.length ≤ c1_)) (HC2 : Aside0 (ys.length ≤ c2_)) (CB : Aside0 (((ms.length < 1000000 ∧ gs.length < 1000000) ∧ 0 ≤ i ∧ i < 1000000 ∧ 0 ≤ j ∧ j < 1000000) ∧ xs.length < 1000000 ∧ ys.length < 1000000)) (hti0 : 0 ≤ i) (hti2 : i < 1000000) (htj0 : 0 ≤ j) (htj2 : j < 1000000) (X0 : Aside0 (HB8 89 w.heap.size w wc (w.heap.size + 1) ms gs true [(w.heap.size, #[.int .i64 T0, .int .i64 T1, .int .i64 T2, .int .i64 T3, .int .i64 L0, .int .i64 L1, .int .i64 L2, .int .i64 L3], 42)])) (cg : ¬ (yes = true ∧ 0 < i ∧ 0 < j))
    (hnext : Aside0 (∀ (u6 u11 u12 u13 u14 u16 u17 u20 u21 u22 u23 u24 u25 u26 u27 u28 u29 u30 u31 u32 u33 u34 u35 u36 u37 u38 u39 u40 u41 u42 u43 u44 u45 u46 u47 u48 u49 u50 u51 u52 u53 u54 u55 u56 u57 u58 u59 u60 u61 u62 u63 u64 u65 u66 u67 u68 u69 u70 u71 u72 u73 u74 u75 u76 u77 u78 u79 u80 u81 u82 u83 u84 u85 u86 u87 u88 u89 u90 u91 u92 u93 u94 u95 u96 u97 u98 u99 u100 u101 u102 u103 u104 u105 u106 u107 u108 u109 u110 u111 u112 u113 u114 u115 u116 u117 u118 u119 u120 u121 u122 u123 u124 u125 u126 u127 u128 u129 u130 u131 u132 u133 u134 u135 u136 u137 u138 u139 u140 u141 u142 u143 u144 u145 u146 u147 u148 u149 u150 u151 u152 u153 u154 u155 u156 u157 u158 u159 u160 u161 u162 u163 u164 u165 u166 u167 u168 u169 u170 u171 u172 u173 u174 u175 u176 u177 u178 u179 u180 u181 u182 u183 u184 u185 u186 u187 u188 u189 u190 u191 u192 u193 u194 u195 u196 u197 u198 u199 u200 u201 u202 u203 u204 u205 u206 u207 u208 u209 u210 u211 u212 u213 : Value) (wc : World), Aside0 (HB8 89 w.heap.size w wc (w.heap.size + 1) ms gs true [(w.heap.size, #[.int .i64 T0, .int .i64 T1, .int .i64 T2, .int .i64 T3, .int .i64 L0, .int .i64 L1, .int .i64 L2, .int .i64 L3], 42)]) → Code.wp Try.prog (tl44 18) (Exit.inBlock 1 (Exit.then K2 (Exit.inBlock 0 (Exit.then K3 (bodyPost Try.prog Try.f44 R))))) ⟨List.toArray (q20 c0 (.slice A1_ xs.length c1_) (.slice A2_ ys.length c2_) (.pointer (some ⟨w.heap.size, 0, none⟩)) c4 c5 u6 (.pointer (some ⟨w.heap.size + 1, 0, none⟩)) (.int .i64 i) (.int .i64 j) (.bool lf) u11 u12 u13 u14 (.bool lf) u16 u17 c18 c19 (q20 u20 u21 u22 u23 u24 u25 u26 u27 u28 u29 u30 u31 u32 u33 u34 u35 u36 u37 u38 u39 (q20 u40 u41 u42 u43 u44 u45 u46 u47 u48 u49 u50 u51 u52 u53 u54 u55 u56 u57 u58 u59 (q20 u60 u61 u62 u63 u64 u65 u66 u67 u68 u69 u70 u71 u72 u73 u74 u75 u76 u77 u78 u79 (q20 u80 u81 u82 u83 u84 u85 u86 u87 u88 u89 u90 u91 u92 u93 u94 u95 u96 u97 u98 u99 (q20 u100 u101 u102 u103 u104 u105 u106 u107 u108 u109 u110 u111 u112 u113 u114 u115 u116 u117 u118 u119 (q20 u120 u121 u122 u123 u124 u125 u126 u127 u128 u129 u130 u131 u132 u133 u134 u135 u136 u137 u138 u139 (q20 u140 u141 u142 u143 u144 u145 u146 u147 u148 u149 u150 u151 u152 u153 u154 u155 u156 u157 u158 u159 (q20 u160 u161 u162 u163 u164 u165 u166 u167 u168 u169 u170 u171 u172 u173 u174 u175 u176 u177 u178 u179 (q20 u180 u181 u182 u183 u184 u185 u186 u187 u188 u189 u190 u191 u192 u193 u194 u195 u196 u197 u198 u199 (u200 :: u201 :: u202 :: u203 :: u204 :: u205 :: u206 :: u207 :: u208 :: u209 :: u210 :: u211 :: u212 :: u213 :: c214 :: []))))))))))), []⟩ wc)) :
    Code.wp Try.prog (tl44 9) (Exit.inBlock 1 (Exit.then K2 (Exit.inBlock 0 (Exit.then K3 (bodyPost Try.prog Try.f44 R))))) ⟨List.toArray (q20 c0 (.slice A1_ xs.length c1_) (.slice A2_ ys.length c2_) (.pointer (some ⟨w.heap.size, 0, none⟩)) c4 c5 u6 (.pointer (some ⟨w.heap.size + 1, 0, none⟩)) (.int .i64 i) (.int .i64 j) (.bool lf) (.int .i64 q) (.bool yes) u13 u14 u15 u16 u17 c18 c19 (q20 u20 u21 u22 u23 u24 u25 u26 u27 u28 u29 u30 u31 u32 u33 u34 u35 u36 u37 u38 u39 (q20 u40 u41 u42 u43 u44 u45 u46 u47 u48 u49 u50 u51 u52 u53 u54 u55 u56 u57 u58 u59 (q20 u60 u61 u62 u63 u64 u65 u66 u67 u68 u69 u70 u71 u72 u73 u74 u75 u76 u77 u78 u79 (q20 u80 u81 u82 u83 u84 u85 u86 u87 u88 u89 u90 u91 u92 u93 u94 u95 u96 u97 u98 u99 (q20 u100 u101 u102 u103 u104 u105 u106 u107 u108 u109 u110 u111 u112 u113 u114 u115 u116 u117 u118 u119 (q20 u120 u121 u122 u123 u124 u125 u126 u127 u128 u129 u130 u131 u132 u133 u134 u135 u136 u137 u138 u139 (q20 u140 u141 u142 u143 u144 u145 u146 u147 u148 u149 u150 u151 u152 u153 u154 u155 u156 u157 u158 u159 (q20 u160 u161 u162 u163 u164 u165 u166 u167 u168 u169 u170 u171 u172 u173 u174 u175 u176 u177 u178 u179 (q20 u180 u181 u182 u183 u184 u185 u186 u187 u188 u189 u190 u191 u192 u193 u194 u195 u196 u197 u198 u199 (u200 :: u201 :: u202 :: u203 :: u204 :: u205 :: u206 :: u207 :: u208 :: u209 :: u210 :: u211 :: u212 :: u213 :: c214 :: []))))))))))), []⟩ wc := by
  have hu42 := Try.underlying42
  have hu38 := Try.underlying38
  conv => arg 2; whnf
  unfold q20
  obtain ⟨⟨q0w0, q1w0, q2w0, q3w0, q4w0, q5w0, q6w0, q7w0⟩, z0w0, z1w0, z2w0, z3w0, z4w0, z5w0, z6w0, z7w0⟩ := cells8 X0.out.at0
  go_upto_region 9 with (fail)
  go_cut [57] (fun v57 wc => v57 = .bool false ∧ Aside0 (HB8 89 w.heap.size w wc (w.heap.size + 1) ms gs true [(w.heap.size, #[.int .i64 T0, .int .i64 T1, .int .i64 T2, .int .i64 T3, .int .i64 L0, .int .i64 L1, .int .i64 L2, .int .i64 L3], 42)]))
  case first =>
    cases yes with
    | false =>
      go_wp2
      go_meet
      exact ⟨rfl, X0⟩
    | true =>
      by_cases ci0 : 0 < i
      · have hi0 : decide ((0 : Int) < i) = true := decide_eq_true ci0
        have hj0 : decide ((0 : Int) < j) = false := decide_eq_false (fun z => cg ⟨rfl, ci0, z⟩)
        go_wp2
        go_meet
        exact ⟨rfl, X0⟩
      · have hi0 : decide ((0 : Int) < i) = false := decide_eq_false ci0
        go_wp2
        go_meet
        exact ⟨rfl, X0⟩
  case rest =>
    obtain ⟨rfl, X4⟩ := hcut
    clear cg
    go_upto_region 17 with (fail)
    go_cut [15] (fun v15 wc => v15 = .bool lf ∧ Aside0 (HB8 89 w.heap.size w wc (w.heap.size + 1) ms gs true [(w.heap.size, #[.int .i64 T0, .int .i64 T1, .int .i64 T2, .int .i64 T3, .int .i64 L0, .int .i64 L1, .int .i64 L2, .int .i64 L3], 42)]))
    case first =>
      go_wp2
      go_meet
      exact ⟨rfl, X4⟩
    case rest =>
      obtain ⟨rfl, X5⟩ := hcut
      go_step
      exact hnext.out _ _ _ _ _ _ _ _ _ _ _ _ _ _ _ _ _ _ _ _ _ _ _ _ _ _ _ _ _ _ _ _ _ _ _ _ _ _ _ _ _ _ _ _ _ _ _ _ _ _ _ _ _ _ _ _ _ _ _ _ _ _ _ _ _ _ _ _ _ _ _ _ _ _ _ _ _ _ _ _ _ _ _ _ _ _ _ _ _ _ _ _ _ _ _ _ _ _ _ _ _ _ _ _ _ _ _ _ _ _ _ _ _ _ _ _ _ _ _ _ _ _ _ _ _ _ _ _ _ _ _ _ _ _ _ _ _ _ _ _ _ _ _ _ _ _ _ _ _ _ _ _ _ _ _ _ _ _ _ _ _ _ _ _ _ _ _ _ _ _ _ _ _ _ _ _ _ _ _ _ _ _ _ _ _ _ _ _ _ _ _ _ _ _ _ _ _ _ _ _ _ _ X5
theorem E8_P3 {xs ys : List Int} {A1_ A2_ : Option Addr} {c1_ c2_ : Nat} {w wc : World} {T0 T1 T2 T3 L0 L1 L2 L3 i j : Int} {lf : Bool} {ms : List S52} {gs : List Int} {R : Ending → World → Prop} {K2 K3 : Act → World → Prop} {c0 c4 c5 c18 c19 c214 : Value} {turn : Bool} {u6 u11 u12 u13 u14 u16 u17 u20 u21 u22 u23 u24 u25 u26 u27 u28 u29 u30 u31 u32 u33 u34 u35 u36 u37 u38 u39 u40 u41 u42 u43 u44 u45 u46 u47 u48 u49 u50 u51 u52 u53 u54 u55 u56 u57 u58 u59 u60 u61 u62 u63 u64 u65 u66 u67 u68 u69 u70 u71 u72 u73 u74 u75 u76 u77 u78 u79 u80 u81 u82 u83 u84 u85 u86 u87 u88 u89 u90 u91 u92 u93 u94 u95 u96 u97 u98 u99 u100 u101 u102 u103 u104 u105 u106 u107 u108 u109 u110 u111 u112 u113 u114 u115 u116 u117 u118 u119 u120 u121 u122 u123 u124 u125 u126 u127 u128 u129 u130 u131 u132 u133 u134 u135 u136 u137 u138 u139 u140 u141 u142 u143 u144 u145 u146 u147 u148 u149 u150 u151 u152 u153 u154 u155 u156 u157 u158 u159 u160 u161 u162 u163 u164 u165 u166 u167 u168 u169 u170 u171 u172 u173 u174 u175 u176 u177 u178 u179 u180 u181 u182 u183 u184 u185 u186 u187 u188 u189 u190 u191 u192 u193 u194 u195 u196 u197 u198 u199 u200 u201 u202 u203 u204 u205 u206 u207 u208 u209 u210 u211 u212 u213 : Value} (HR : Aside0 ((Kd.int .i64).C w A1_ xs.length xs)) (HR2 : Aside0 ((Kd.int .i64).C w A2_ ys.length ys)) (HC : Aside0 (xs.length ≤ c1_)) (HC2 : Aside0 (ys.length ≤ c2_)) (CB : Aside0 (((ms.length < 1000000 ∧ gs.length < 1000000) ∧ 0 ≤ i ∧ i < 1000000 ∧ 0 ≤ j ∧ j < 1000000) ∧ xs.length < 1000000 ∧ ys.length < 1000000)) (hti0 : 0 ≤ i) (hti2 : i < 1000000) (htj0 : 0 ≤ j) (htj2 : j < 1000000) (X0 : Aside0 (HB8 89 w.heap.size w wc (w.heap.size + 1) ms gs true [(w.heap.size, #[.int .i64 T0, .int .i64 T1, .int .i64 T2, .int .i64 T3, .int .i64 L0, .int .i64 L1, .int .i64 L2, .int .i64 L3], 42)])) (ht : turn = if (ys.length : Int) < j then true else if (xs.length : Int) < i then false else lf)
    (hnext : Aside0 (∀ (u6 u11 u12 u13 u14 u16 u17 u20 u21 u22 u23 u24 u25 u26 u27 u28 u29 u30 u31 u32 u33 u34 u35 u36 u37 u38 u39 u40 u41 u42 u43 u44 u45 u46 u47 u48 u49 u50 u51 u52 u53 u54 u55 u56 u57 u58 u59 u60 u61 u62 u63 u64 u65 u66 u67 u68 u69 u70 u71 u72 u73 u74 u75 u76 u77 u78 u79 u80 u81 u82 u83 u84 u85 u86 u87 u88 u89 u90 u91 u92 u93 u94 u95 u96 u97 u98 u99 u100 u101 u102 u103 u104 u105 u106 u107 u108 u109 u110 u111 u112 u113 u114 u115 u116 u117 u118 u119 u120 u121 u122 u123 u124 u125 u126 u127 u128 u129 u130 u131 u132 u133 u134 u135 u136 u137 u138 u139 u140 u141 u142 u143 u144 u145 u146 u147 u148 u149 u150 u151 u152 u153 u154 u155 u156 u157 u158 u159 u160 u161 u162 u163 u164 u165 u166 u167 u168 u169 u170 u171 u172 u173 u174 u175 u176 u177 u178 u179 u180 u181 u182 u183 u184 u185 u186 u187 u188 u189 u190 u191 u192 u193 u194 u195 u196 u197 u198 u199 u200 u201 u202 u203 u204 u205 u206 u207 u208 u209 u210 u211 u212 u213 : Value) (wc : World), Aside0 (HB8 89 w.heap.size w wc (w.heap.size + 1) ms gs true [(w.heap.size, #[.int .i64 T0, .int .i64 T1, .int .i64 T2, .int .i64 T3, .int .i64 L0, .int .i64 L1, .int .i64 L2, .int .i64 L3], 42)]) → Code.wp Try.prog (tl44 23) (Exit.inBlock 1 (Exit.then K2 (Exit.inBlock 0 (Exit.then K3 (bodyPost Try.prog Try.f44 R))))) ⟨List.toArray (q20 c0 (.slice A1_ xs.length c1_) (.slice A2_ ys.length c2_) (.pointer (some ⟨w.heap.size, 0, none⟩)) c4 c5 u6 (.pointer (some ⟨w.heap.size + 1, 0, none⟩)) (.int .i64 i) (.int .i64 j) (.bool (!lf)) u11 u12 u13 u14 (.bool turn) u16 u17 c18 c19 (q20 u20 u21 u22 u23 u24 u25 u26 u27 u28 u29 u30 u31 u32 u33 u34 u35 u36 u37 u38 u39 (q20 u40 u41 u42 u43 u44 u45 u46 u47 u48 u49 u50 u51 u52 u53 u54 u55 u56 u57 u58 u59 (q20 u60 u61 u62 u63 u64 u65 u66 u67 u68 u69 u70 u71 u72 u73 u74 u75 u76 u77 u78 u79 (q20 u80 u81 u82 u83 u84 u85 u86 u87 u88 u89 u90 u91 u92 u93 u94 u95 u96 u97 u98 u99 (q20 u100 u101 u102 u103 u104 u105 u106 u107 u108 u109 u110 u111 u112 u113 u114 u115 u116 u117 u118 u119 (q20 u120 u121 u122 u123 u124 u125 u126 u127 u128 u129 u130 u131 u132 u133 u134 u135 u136 u137 u138 u139 (q20 u140 u141 u142 u143 u144 u145 u146 u147 u148 u149 u150 u151 u152 u153 u154 u155 u156 u157 u158 u159 (q20 u160 u161 u162 u163 u164 u165 u166 u167 u168 u169 u170 u171 u172 u173 u174 u175 u176 u177 u178 u179 (q20 u180 u181 u182 u183 u184 u185 u186 u187 u188 u189 u190 u191 u192 u193 u194 u195 u196 u197 u198 u199 (u200 :: u201 :: u202 :: u203 :: u204 :: u205 :: u206 :: u207 :: u208 :: u209 :: u210 :: u211 :: u212 :: u213 :: c214 :: []))))))))))), []⟩ wc)) :
    Code.wp Try.prog (tl44 18) (Exit.inBlock 1 (Exit.then K2 (Exit.inBlock 0 (Exit.then K3 (bodyPost Try.prog Try.f44 R))))) ⟨List.toArray (q20 c0 (.slice A1_ xs.length c1_) (.slice A2_ ys.length c2_) (.pointer (some ⟨w.heap.size, 0, none⟩)) c4 c5 u6 (.pointer (some ⟨w.heap.size + 1, 0, none⟩)) (.int .i64 i) (.int .i64 j) (.bool lf) u11 u12 u13 u14 (.bool lf) u16 u17 c18 c19 (q20 u20 u21 u22 u23 u24 u25 u26 u27 u28 u29 u30 u31 u32 u33 u34 u35 u36 u37 u38 u39 (q20 u40 u41 u42 u43 u44 u45 u46 u47 u48 u49 u50 u51 u52 u53 u54 u55 u56 u57 u58 u59 (q20 u60 u61 u62 u63 u64 u65 u66 u67 u68 u69 u70 u71 u72 u73 u74 u75 u76 u77 u78 u79 (q20 u80 u81 u82 u83 u84 u85 u86 u87 u88 u89 u90 u91 u92 u93 u94 u95 u96 u97 u98 u99 (q20 u100 u101 u102 u103 u104 u105 u106 u107 u108 u109 u110 u111 u112 u113 u114 u115 u116 u117 u118 u119 (q20 u120 u121 u122 u123 u124 u125 u126 u127 u128 u129 u130 u131 u132 u133 u134 u135 u136 u137 u138 u139 (q20 u140 u141 u142 u143 u144 u145 u146 u147 u148 u149 u150 u151 u152 u153 u154 u155 u156 u157 u158 u159 (q20 u160 u161 u162 u163 u164 u165 u166 u167 u168 u169 u170 u171 u172 u173 u174 u175 u176 u177 u178 u179 (q20 u180 u181 u182 u183 u184 u185 u186 u187 u188 u189 u190 u191 u192 u193 u194 u195 u196 u197 u198 u199 (u200 :: u201 :: u202 :: u203 :: u204 :: u205 :: u206 :: u207 :: u208 :: u209 :: u210 :: u211 :: u212 :: u213 :: c214 :: []))))))))))), []⟩ wc := by
  have hu42 := Try.underlying42
  have hu38 := Try.underlying38
  conv => arg 2; whnf
  unfold q20
  by_cases c2 : (ys.length : Int) < j
  · have f2 : decide ((ys.length : Int) < j) = true := decide_eq_true c2
    rw [if_pos c2] at ht
    subst ht
    by_cases c1 : (xs.length : Int) < i
    · have f1 : decide ((xs.length : Int) < i) = true := decide_eq_true c1
      clear c1 c2
      go_upto_region 22 with (fail)
      go_cut [10, 15] (fun v10 v15 wc => v10 = .bool (!lf) ∧ v15 = .bool true ∧ Aside0 (HB8 89 w.heap.size w wc (w.heap.size + 1) ms gs true [(w.heap.size, #[.int .i64 T0, .int .i64 T1, .int .i64 T2, .int .i64 T3, .int .i64 L0, .int .i64 L1, .int .i64 L2, .int .i64 L3], 42)]))
      case first =>
        go_wp2
        go_meet
        exact ⟨rfl, rfl, X0⟩
      case rest =>
        obtain ⟨rfl, rfl, X5⟩ := hcut
        go_step
        exact hnext.out _ _ _ _ _ _ _ _ _ _ _ _ _ _ _ _ _ _ _ _ _ _ _ _ _ _ _ _ _ _ _ _ _ _ _ _ _ _ _ _ _ _ _ _ _ _ _ _ _ _ _ _ _ _ _ _ _ _ _ _ _ _ _ _ _ _ _ _ _ _ _ _ _ _ _ _ _ _ _ _ _ _ _ _ _ _ _ _ _ _ _ _ _ _ _ _ _ _ _ _ _ _ _ _ _ _ _ _ _ _ _ _ _ _ _ _ _ _ _ _ _ _ _ _ _ _ _ _ _ _ _ _ _ _ _ _ _ _ _ _ _ _ _ _ _ _ _ _ _ _ _ _ _ _ _ _ _ _ _ _ _ _ _ _ _ _ _ _ _ _ _ _ _ _ _ _ _ _ _ _ _ _ _ _ _ _ _ _ _ _ _ _ _ _ _ _ _ _ _ _ _ _ X5
    · have f1 : decide ((xs.length : Int) < i) = false := decide_eq_false c1
      clear c1 c2
      go_upto_region 22 with (fail)
      go_cut [10, 15] (fun v10 v15 wc => v10 = .bool (!lf) ∧ v15 = .bool true ∧ Aside0 (HB8 89 w.heap.size w wc (w.heap.size + 1) ms gs true [(w.heap.size, #[.int .i64 T0, .int .i64 T1, .int .i64 T2, .int .i64 T3, .int .i64 L0, .int .i64 L1, .int .i64 L2, .int .i64 L3], 42)]))
      case first =>
        go_wp2
        go_meet
        exact ⟨rfl, rfl, X0⟩
      case rest =>
        obtain ⟨rfl, rfl, X5⟩ := hcut
        go_step
        exact hnext.out _ _ _ _ _ _ _ _ _ _ _ _ _ _ _ _ _ _ _ _ _ _ _ _ _ _ _ _ _ _ _ _ _ _ _ _ _ _ _ _ _ _ _ _ _ _ _ _ _ _ _ _ _ _ _ _ _ _ _ _ _ _ _ _ _ _ _ _ _ _ _ _ _ _ _ _ _ _ _ _ _ _ _ _ _ _ _ _ _ _ _ _ _ _ _ _ _ _ _ _ _ _ _ _ _ _ _ _ _ _ _ _ _ _ _ _ _ _ _ _ _ _ _ _ _ _ _ _ _ _ _ _ _ _ _ _ _ _ _ _ _ _ _ _ _ _ _ _ _ _ _ _ _ _ _ _ _ _ _ _ _ _ _ _ _ _ _ _ _ _ _ _ _ _ _ _ _ _ _ _ _ _ _ _ _ _ _ _ _ _ _ _ _ _ _ _ _ _ _ _ _ _ X5
  · have f2 : decide ((ys.length : Int) < j) = false := decide_eq_false c2
    rw [if_neg c2] at ht
    by_cases c1 : (xs.length : Int) < i
    · have f1 : decide ((xs.length : Int) < i) = true := decide_eq_true c1
      rw [if_pos c1] at ht
      subst ht
      clear c1 c2
      go_upto_region 22 with (fail)
      go_cut [10, 15] (fun v10 v15 wc => v10 = .bool (!lf) ∧ v15 = .bool false ∧ Aside0 (HB8 89 w.heap.size w wc (w.heap.size + 1) ms gs true [(w.heap.size, #[.int .i64 T0, .int .i64 T1, .int .i64 T2, .int .i64 T3, .int .i64 L0, .int .i64 L1, .int .i64 L2, .int .i64 L3], 42)]))
      case first =>
        go_wp2
        go_meet
        exact ⟨rfl, rfl, X0⟩
      case rest =>
        obtain ⟨rfl, rfl, X5⟩ := hcut
        go_step
        exact hnext.out _ _ _ _ _ _ _ _ _ _ _ _ _ _ _ _ _ _ _ _ _ _ _ _ _ _ _ _ _ _ _ _ _ _ _ _ _ _ _ _ _ _ _ _ _ _ _ _ _ _ _ _ _ _ _ _ _ _ _ _ _ _ _ _ _ _ _ _ _ _ _ _ _ _ _ _ _ _ _ _ _ _ _ _ _ _ _ _ _ _ _ _ _ _ _ _ _ _ _ _ _ _ _ _ _ _ _ _ _ _ _ _ _ _ _ _ _ _ _ _ _ _ _ _ _ _ _ _ _ _ _ _ _ _ _ _ _ _ _ _ _ _ _ _ _ _ _ _ _ _ _ _ _ _ _ _ _ _ _ _ _ _ _ _ _ _ _ _ _ _ _ _ _ _ _ _ _ _ _ _ _ _ _ _ _ _ _ _ _ _ _ _ _ _ _ _ _ _ _ _ _ _ X5
    · have f1 : decide ((xs.length : Int) < i) = false := decide_eq_false c1
      rw [if_neg c1] at ht
      subst ht
      clear c1 c2
      go_upto_region 22 with (fail)
      go_cut [10, 15] (fun v10 v15 wc => v10 = .bool (!turn) ∧ v15 = .bool turn ∧ Aside0 (HB8 89 w.heap.size w wc (w.heap.size + 1) ms gs true [(w.heap.size, #[.int .i64 T0, .int .i64 T1, .int .i64 T2, .int .i64 T3, .int .i64 L0, .int .i64 L1, .int .i64 L2, .int .i64 L3], 42)]))
      case first =>
        go_wp2
        go_meet
        exact ⟨rfl, rfl, X0⟩
      case rest =>
        obtain ⟨rfl, rfl, X5⟩ := hcut
        go_step
        exact hnext.out _ _ _ _ _ _ _ _ _ _ _ _ _ _ _ _ _ _ _ _ _ _ _ _ _ _ _ _ _ _ _ _ _ _ _ _ _ _ _ _ _ _ _ _ _ _ _ _ _ _ _ _ _ _ _ _ _ _ _ _ _ _ _ _ _ _ _ _ _ _ _ _ _ _ _ _ _ _ _ _ _ _ _ _ _ _ _ _ _ _ _ _ _ _ _ _ _ _ _ _ _ _ _ _ _ _ _ _ _ _ _ _ _ _ _ _ _ _ _ _ _ _ _ _ _ _ _ _ _ _ _ _ _ _ _ _ _ _ _ _ _ _ _ _ _ _ _ _ _ _ _ _ _ _ _ _ _ _ _ _ _ _ _ _ _ _ _ _ _ _ _ _ _ _ _ _ _ _ _ _ _ _ _ _ _ _ _ _ _ _ _ _ _ _ _ _ _ _ _ _ _ _ X5
theorem E8_I0 {k2 : Nat} {w wc : World} {T0 T1 T2 T3 L0 L1 L2 L3 q x0 x1 x2 x3 : Int} {o0 o1 o2 o3 : Bool} {gb : Nat} {ms : List S52} {gs : List Int} {Ji : Nat → Act → World → Prop} {Ki : Act → World → Prop} {K2 K3 K5 K6 : Act → World → Prop} {R : Ending → World → Prop} {c0 c1 c2 c4 c5 c6 c8 c9 c10 c12 c15 c16 c17 c18 c19 c20 c21 c22 c23 c24 c25 c26 c27 c28 c29 c30 c31 c32 c33 c34 c35 c36 c37 c38 c39 c40 c41 c42 c43 c44 c45 c46 c47 c48 c49 c50 c51 c52 c53 c54 c55 c56 c57 c58 c59 c60 c61 c62 c63 c83 c84 c85 c86 c87 c88 c89 c90 c91 c92 c93 c94 c95 c96 c97 c98 c99 c100 c101 c102 c103 c104 c105 c106 c107 c108 c109 c110 c111 c112 c113 c114 c115 c116 c117 c118 c119 c120 c121 c122 c123 c124 c125 c126 c127 c128 c129 c130 c131 c132 c133 c134 c135 c136 c137 c138 c139 c140 c141 c142 c143 c144 c145 c146 c147 c148 c149 c150 c151 c152 c153 c154 c155 c156 c157 c158 c159 c160 c161 c162 c163 c164 c165 c166 c167 c168 c169 c170 c171 c172 c173 c174 c175 c176 c177 c178 c179 c180 c181 c182 c183 c184 c185 c186 c187 c188 c189 c190 c191 c192 c193 c194 c195 c196 c197 c198 c199 c200 c201 c202 c203 c204 c205 c206 c207 c208 c209 c210 c211 c212 c213 c214 : Value} {u64 u65 u66 u67 u68 u69 u70 u71 u72 u73 u74 u75 u76 u77 u78 u79 u80 u81 u82 : Value} (hJi : HJi44 w gb T0 T1 T2 T3 L0 L1 L2 L3 q x0 x1 x2 x3 o0 o1 o2 o3 ms gs Ji c0 c1 c2 c4 c5 c6 c8 c9 c10 c12 c15 c16 c17 c18 c19 c20 c21 c22 c23 c24 c25 c26 c27 c28 c29 c30 c31 c32 c33 c34 c35 c36 c37 c38 c39 c40 c41 c42 c43 c44 c45 c46 c47 c48 c49 c50 c51 c52 c53 c54 c55 c56 c57 c58 c59 c60 c61 c62 c63 c83 c84 c85 c86 c87 c88 c89 c90 c91 c92 c93 c94 c95 c96 c97 c98 c99 c100 c101 c102 c103 c104 c105 c106 c107 c108 c109 c110 c111 c112 c113 c114 c115 c116 c117 c118 c119 c120 c121 c122 c123 c124 c125 c126 c127 c128 c129 c130 c131 c132 c133 c134 c135 c136 c137 c138 c139 c140 c141 c142 c143 c144 c145 c146 c147 c148 c149 c150 c151 c152 c153 c154 c155 c156 c157 c158 c159 c160 c161 c162 c163 c164 c165 c166 c167 c168 c169 c170 c171 c172 c173 c174 c175 c176 c177 c178 c179 c180 c181 c182 c183 c184 c185 c186 c187 c188 c189 c190 c191 c192 c193 c194 c195 c196 c197 c198 c199 c200 c201 c202 c203 c204 c205 c206 c207 c208 c209 c210 c211 c212 c213 c214) (hKi : ∀ (a' : Act) (w' : World), Handed Ji (k2 + 1) a' w' → Ki a' w')
    (NE : Aside0 (w.heap.size ≠ gb)) (H0 : Aside0 (specC true (wrap64 (-q)) L0 T0 = some (x0, o0))) (HK2 : Aside0 (k2 + 1 + 0 = 5)) (X7 : Aside0 (HB8 89 w.heap.size w wc (w.heap.size + 1) (ms ++ [⟨1, q⟩]) (gs ++ [q]) true [(gb, #[.int .i64 L0, .int .i64 L1, .int .i64 L2, .int .i64 L3, .int .i64 0, .int .i64 0, .int .i64 0, .int .i64 0], 42), (w.heap.size, #[.int .i64 T0, .int .i64 T1, .int .i64 T2, .int .i64 T3, .int .i64 L0, .int .i64 L1, .int .i64 L2, .int .i64 L3], 42)])) :
    Code.wp Try.prog inner44 (Exit.then Ki (Exit.inBlock 2 (Exit.then K6 (Exit.then K5 (Exit.inBlock 1 (Exit.then K2 (Exit.inBlock 0 (Exit.then K3 (bodyPost Try.prog Try.f44 R))))))))) ⟨List.toArray (q20 c0 c1 c2 (.pointer (some ⟨w.heap.size, 0, none⟩)) c4 c5 c6 (.pointer (some ⟨w.heap.size + 1, 0, none⟩)) c8 c9 c10 (.int .i64 q) c12 (.pointer (some ⟨gb, 0, none⟩)) (.int .i64 0) c15 c16 c17 c18 c19 (q20 c20 c21 c22 c23 c24 c25 c26 c27 c28 c29 c30 c31 c32 c33 c34 c35 c36 c37 c38 c39 (q20 c40 c41 c42 c43 c44 c45 c46 c47 c48 c49 c50 c51 c52 c53 c54 c55 c56 c57 c58 c59 (q20 c60 c61 c62 c63 u64 u65 u66 u67 u68 u69 u70 u71 u72 u73 u74 u75 u76 u77 u78 u79 (q20 u80 u81 u82 c83 c84 c85 c86 c87 c88 c89 c90 c91 c92 c93 c94 c95 c96 c97 c98 c99 (q20 c100 c101 c102 c103 c104 c105 c106 c107 c108 c109 c110 c111 c112 c113 c114 c115 c116 c117 c118 c119 (q20 c120 c121 c122 c123 c124 c125 c126 c127 c128 c129 c130 c131 c132 c133 c134 c135 c136 c137 c138 c139 (q20 c140 c141 c142 c143 c144 c145 c146 c147 c148 c149 c150 c151 c152 c153 c154 c155 c156 c157 c158 c159 (q20 c160 c161 c162 c163 c164 c165 c166 c167 c168 c169 c170 c171 c172 c173 c174 c175 c176 c177 c178 c179 (q20 c180 c181 c182 c183 c184 c185 c186 c187 c188 c189 c190 c191 c192 c193 c194 c195 c196 c197 c198 c199 (c200 :: c201 :: c202 :: c203 :: c204 :: c205 :: c206 :: c207 :: c208 :: c209 :: c210 :: c211 :: c212 :: c213 :: c214 :: []))))))))))), []⟩ wc := by
  have hu42 := Try.underlying42
  have hu38 := Try.underlying38
  conv => arg 2; whnf
  unfold q20
  unfold HJi44 at hJi
  obtain ⟨⟨q0x7, q1x7, q2x7, q3x7, q4x7, q5x7, q6x7, q7x7⟩, z0x7, z1x7, z2x7, z3x7, z4x7, z5x7, z6x7, z7x7⟩ := cells8 X7.out.at0
  obtain ⟨⟨q0y7, q1y7, q2y7, q3y7, q4y7, q5y7, q6y7, q7y7⟩, z0y7, z1y7, z2y7, z3y7, z4y7, z5y7, z6y7, z7y7⟩ := cells8 X7.out.at1
  go_wp2
  have XD := Aside0.mk X7.out.drew
  refine start_ (n := 16) (S := fun w' => w'.cell? ⟨w.heap.size, 0, none⟩ = some (.int .i64 T0) ∧ w'.cell? ⟨w.heap.size, 1, none⟩ = some (.int .i64 T1) ∧ w'.cell? ⟨w.heap.size, 2, none⟩ = some (.int .i64 T2) ∧ w'.cell? ⟨w.heap.size, 3, none⟩ = some (.int .i64 T3) ∧ w'.cell? ⟨w.heap.size, 4, none⟩ = some (.int .i64 L0) ∧ w'.cell? ⟨w.heap.size, 5, none⟩ = some (.int .i64 L1) ∧ w'.cell? ⟨w.heap.size, 6, none⟩ = some (.int .i64 L2) ∧ w'.cell? ⟨w.heap.size, 7, none⟩ = some (.int .i64 L3)) (ds := [15]) #[false, false, false, false, false, false, false, false, false, false, false, false, false, false, false, false] (by kernel_rfl) rfl rfl ⟨(blk_cell XD.out.at1 0).trans rfl, (blk_cell XD.out.at1 1).trans rfl, (blk_cell XD.out.at1 2).trans rfl, (blk_cell XD.out.at1 3).trans rfl, (blk_cell XD.out.at1 4).trans rfl, (blk_cell XD.out.at1 5).trans rfl, (blk_cell XD.out.at1 6).trans rfl, (blk_cell XD.out.at1 7).trans rfl⟩ (fun hHeld => ?_)
  refine pure_ (i := 0) (N := some 68) (v := ?_) (a' := ?_) #[true, false, false, false, false, false, false, false, false, false, false, false, false, false, false, false] rfl rfl (by kernel_rfl) (fun _ _ _ h => h) (Or.inl ⟨by rfl, ?_⟩) ?_ ?_
  rotate_left
  · intro w'
    go_simp
    with_reducible rfl
  rotate_left
  · simp only [Act.put, sa_, sz_, ss_, i64_w, i32_w]
    rfl
  refine pure_ (i := 1) (N := some 69) (v := ?_) (a' := ?_) #[true, true, false, false, false, false, false, false, false, false, false, false, false, false, false, false] rfl rfl (by kernel_rfl) (fun _ _ _ h => h) (Or.inl ⟨by rfl, ?_⟩) ?_ ?_
  rotate_left
  · intro w'
    go_simp
    with_reducible rfl
  rotate_left
  · simp only [Act.put, sa_, sz_, ss_, i64_w, i32_w]
    rfl
  refine pure_ (i := 2) (N := some 70) (v := ?_) (a' := ?_) #[true, true, true, false, false, false, false, false, false, false, false, false, false, false, false, false] rfl rfl (by kernel_rfl) (fun _ _ _ h => h) (Or.inl ⟨by rfl, ?_⟩) ?_ ?_
  rotate_left
  · intro w'
    go_simp
    with_reducible rfl
  rotate_left
  · simp only [Act.put, sa_, sz_, ss_, i64_w, i32_w]
    rfl
  refine pure_ (i := 3) (N := some 71) (v := ?_) (a' := ?_) #[true, true, true, true, false, false, false, false, false, false, false, false, false, false, false, false] rfl rfl (by kernel_rfl) (fun _ _ _ h => h) (Or.inl ⟨by rfl, ?_⟩) ?_ ?_
  rotate_left
  · intro w'
    go_simp
    with_reducible rfl
  rotate_left
  · simp only [Act.put, sa_, sz_, ss_, i64_w, i32_w]
    rfl
  refine pure_ (i := 4) (N := some 72) (v := ?_) (a' := ?_) #[true, true, true, true, true, false, false, false, false, false, false, false, false, false, false, false] rfl rfl (by kernel_rfl) (fun _ _ _ h => h) (Or.inl ⟨by rfl, ?_⟩) ?_ ?_
  rotate_left
  · intro w'
    go_simp
    with_reducible rfl
  rotate_left
  · simp only [Act.put, sa_, sz_, ss_, i64_w, i32_w]
    rfl
  refine pure_ (i := 5) (N := some 73) (v := ?_) (a' := ?_) #[true, true, true, true, true, true, false, false, false, false, false, false, false, false, false, false] rfl rfl (by kernel_rfl) (fun _ _ _ h => h) (Or.inl ⟨by rfl, ?_⟩) ?_ ?_
  rotate_left
  · intro w'
    go_simp
    with_reducible rfl
  rotate_left
  · simp only [Act.put, sa_, sz_, ss_, i64_w, i32_w]
    rfl
  refine pure_ (i := 6) (N := some 74) (v := ?_) (a' := ?_) #[true, true, true, true, true, true, true, false, false, false, false, false, false, false, false, false] rfl rfl (by kernel_rfl) (fun _ _ _ h => h) (Or.inl ⟨by rfl, ?_⟩) ?_ ?_
  rotate_left
  · intro w'
    go_simp
    with_reducible rfl
  rotate_left
  · simp only [Act.put, sa_, sz_, ss_, i64_w, i32_w]
    rfl
  refine pure_ (i := 8) (N := some 76) (v := ?_) (a' := ?_) #[true, true, true, true, true, true, true, false, true, false, false, false, false, false, false, false] rfl rfl (by kernel_rfl) (fun _ _ _ h => h) (Or.inl ⟨by rfl, ?_⟩) ?_ ?_
  rotate_left
  · intro w'
    go_simp
    with_reducible rfl
  rotate_left
  · simp only [Act.put, sa_, sz_, ss_, i64_w, i32_w]
    rfl
  refine pure_ (i := 9) (N := some 77) (v := ?_) (a' := ?_) #[true, true, true, true, true, true, true, false, true, true, false, false, false, false, false, false] rfl rfl (by kernel_rfl) (fun _ _ _ h => h) (Or.inl ⟨by rfl, ?_⟩) ?_ ?_
  rotate_left
  · intro w'
    go_simp
    with_reducible rfl
  rotate_left
  · simp only [Act.put, sa_, sz_, ss_, i64_w, i32_w]
    rfl
  refine pure_ (i := 10) (N := some 78) (v := ?_) (a' := ?_) #[true, true, true, true, true, true, true, false, true, true, true, false, false, false, false, false] rfl rfl (by kernel_rfl) (fun _ _ _ h => h) (Or.inl ⟨by rfl, ?_⟩) ?_ ?_
  rotate_left
  · intro w'
    go_simp
    with_reducible rfl
  rotate_left
  · simp only [Act.put, sa_, sz_, ss_, i64_w, i32_w]
    rfl
  refine pure_ (i := 13) (N := some 81) (v := ?_) (a' := ?_) #[true, true, true, true, true, true, true, false, true, true, true, false, false, true, false, false] rfl rfl (by kernel_rfl) (fun _ _ _ h => h) (Or.inl ⟨by rfl, ?_⟩) ?_ ?_
  rotate_left
  · intro w'
    go_simp
    with_reducible rfl
  rotate_left
  · simp only [Act.put, sa_, sz_, ss_, i64_w, i32_w]
    rfl
  refine take_ (i := 7) (N := some 75) (v := ?_) (a' := ?_) #[true, true, true, true, true, true, true, true, true, true, true, false, false, true, false, false] rfl rfl (by kernel_rfl) (fun _ _ _ h => h) (Or.inl ⟨by rfl, ?_⟩) hHeld ?_ ?_
  rotate_left
  · rintro w' ⟨s0, s1, s2, s3, s4, s5, s6, s7⟩
    go_simp
    with_reducible rfl
  rotate_left
  · simp only [Act.put, sa_, sz_, ss_, i64_w, i32_w]
    rfl
  refine take_ (i := 11) (N := some 79) (v := ?_) (a' := ?_) #[true, true, true, true, true, true, true, true, true, true, true, true, false, true, false, false] rfl rfl (by kernel_rfl) (fun _ _ _ h => h) (Or.inl ⟨by rfl, ?_⟩) hHeld ?_ ?_
  rotate_left
  · rintro w' ⟨s0, s1, s2, s3, s4, s5, s6, s7⟩
    go_simp
    with_reducible rfl
  rotate_left
  · simp only [Act.put, sa_, sz_, ss_, i64_w, i32_w]
    rfl
  refine one_ (i := 12) (N := some 80) #[true, true, true, true, true, true, true, true, true, true, true, true, true, true, false, false] rfl rfl (by kernel_rfl) (by decide) (fun K hK => ?_)
  refine goes_ Try.func58 (by kernel_rfl) rfl #[.pointer (some ⟨w.heap.size + 1, 0, none⟩), .int .i64 (wrap64 (-q)), .int .i64 L0, .int .i64 T0] (by rfl) rfl rfl (by simp only [List.map_toArray, List.map_cons, List.map_nil]; rfl) ?_
  with_reducible refine (HB8.cellS XD.out H0.out).mono ?_
  rintro e w8 ⟨rfl, hX⟩
  refine ⟨_, rfl, ?_⟩
  have X8 := Aside0.mk hX
  clear hX
  refine hK.out _ _ ⟨(blk_cell X8.out.at1 0).trans rfl, (blk_cell X8.out.at1 1).trans rfl, (blk_cell X8.out.at1 2).trans rfl, (blk_cell X8.out.at1 3).trans rfl, (blk_cell X8.out.at1 4).trans rfl, (blk_cell X8.out.at1 5).trans rfl, (blk_cell X8.out.at1 6).trans rfl, (blk_cell X8.out.at1 7).trans rfl⟩ (fun hHeld => ?_)
  clear hK K
  refine norm_ (a' := ?_) ?_ ?_
  rotate_left
  · show Act.put _ (some 80) _ = _
    simp only [Act.put, sa_, sz_, ss_, i64_w, i32_w]
    rfl
  refine pure_ (i := 14) (N := some 82) (v := ?_) (a' := ?_) #[true, true, true, true, true, true, true, true, true, true, true, true, true, true, true, false] rfl rfl (by kernel_rfl) (fun _ _ _ h => h) (Or.inl ⟨by rfl, ?_⟩) ?_ ?_
  rotate_left
  · intro w'
    go_simp
    with_reducible rfl
  rotate_left
  · simp only [Act.put, sa_, sz_, ss_, i64_w, i32_w]
    rfl
  refine last_ (i := 15) (N := none) #[true, true, true, true, true, true, true, true, true, true, true, true, true, true, true, true] rfl rfl (by kernel_rfl) (by decide) (fun K hK => ?_)
  obtain ⟨⟨q0x8, q1x8, q2x8, q3x8, q4x8, q5x8, q6x8, q7x8⟩, z0x8, z1x8, z2x8, z3x8, z4x8, z5x8, z6x8, z7x8⟩ := cells8 X8.out.at0
  refine skip_ (w1 := ?_) (by rfl) rfl ?_ ?_
  rotate_left
  · go_simp
    rfl
  refine hK.out _ _ ?_
  clear hK K
  refine done_ (by kernel_rfl) ?_
  generalize hw9 : (World.setCell w8 ⟨gb, 4, none⟩ (.int .i64 x0)) = w9
  have X9 := Aside0.mk (show HB8 89 w.heap.size w w9 (w.heap.size + 1) (ms ++ [⟨1, q⟩]) (gs ++ [q]) o0 [(gb, #[.int .i64 L0, .int .i64 L1, .int .i64 L2, .int .i64 L3, .int .i64 x0, .int .i64 0, .int .i64 0, .int .i64 0], 42), (w.heap.size, #[.int .i64 T0, .int .i64 T1, .int .i64 T2, .int .i64 T3, .int .i64 L0, .int .i64 L1, .int .i64 L2, .int .i64 L3], 42)] from hw9 ▸ HB8.set0' X8.out (by intro p hp; rw [List.mem_singleton.1 hp]; exact NE.out) 4 (.int .i64 x0) rfl)
  clear hw9
  go_wp2
  go_roundg k2
  case measure => omega
  case rel => exact Or.inr (Or.inl ⟨rfl, ⟨by have := HK2.out; omega⟩, X9⟩)
theorem E8_I1 {k2 : Nat} {w wc : World} {T0 T1 T2 T3 L0 L1 L2 L3 q x0 x1 x2 x3 : Int} {o0 o1 o2 o3 : Bool} {gb : Nat} {ms : List S52} {gs : List Int} {Ji : Nat → Act → World → Prop} {Ki : Act → World → Prop} {K2 K3 K5 K6 : Act → World → Prop} {R : Ending → World → Prop} {c0 c1 c2 c4 c5 c6 c8 c9 c10 c12 c15 c16 c17 c18 c19 c20 c21 c22 c23 c24 c25 c26 c27 c28 c29 c30 c31 c32 c33 c34 c35 c36 c37 c38 c39 c40 c41 c42 c43 c44 c45 c46 c47 c48 c49 c50 c51 c52 c53 c54 c55 c56 c57 c58 c59 c60 c61 c62 c63 c83 c84 c85 c86 c87 c88 c89 c90 c91 c92 c93 c94 c95 c96 c97 c98 c99 c100 c101 c102 c103 c104 c105 c106 c107 c108 c109 c110 c111 c112 c113 c114 c115 c116 c117 c118 c119 c120 c121 c122 c123 c124 c125 c126 c127 c128 c129 c130 c131 c132 c133 c134 c135 c136 c137 c138 c139 c140 c141 c142 c143 c144 c145 c146 c147 c148 c149 c150 c151 c152 c153 c154 c155 c156 c157 c158 c159 c160 c161 c162 c163 c164 c165 c166 c167 c168 c169 c170 c171 c172 c173 c174 c175 c176 c177 c178 c179 c180 c181 c182 c183 c184 c185 c186 c187 c188 c189 c190 c191 c192 c193 c194 c195 c196 c197 c198 c199 c200 c201 c202 c203 c204 c205 c206 c207 c208 c209 c210 c211 c212 c213 c214 : Value} {u64 u65 u66 u67 u68 u69 u70 u71 u72 u73 u74 u75 u76 u77 u78 u79 u80 u81 u82 : Value} (hJi : HJi44 w gb T0 T1 T2 T3 L0 L1 L2 L3 q x0 x1 x2 x3 o0 o1 o2 o3 ms gs Ji c0 c1 c2 c4 c5 c6 c8 c9 c10 c12 c15 c16 c17 c18 c19 c20 c21 c22 c23 c24 c25 c26 c27 c28 c29 c30 c31 c32 c33 c34 c35 c36 c37 c38 c39 c40 c41 c42 c43 c44 c45 c46 c47 c48 c49 c50 c51 c52 c53 c54 c55 c56 c57 c58 c59 c60 c61 c62 c63 c83 c84 c85 c86 c87 c88 c89 c90 c91 c92 c93 c94 c95 c96 c97 c98 c99 c100 c101 c102 c103 c104 c105 c106 c107 c108 c109 c110 c111 c112 c113 c114 c115 c116 c117 c118 c119 c120 c121 c122 c123 c124 c125 c126 c127 c128 c129 c130 c131 c132 c133 c134 c135 c136 c137 c138 c139 c140 c141 c142 c143 c144 c145 c146 c147 c148 c149 c150 c151 c152 c153 c154 c155 c156 c157 c158 c159 c160 c161 c162 c163 c164 c165 c166 c167 c168 c169 c170 c171 c172 c173 c174 c175 c176 c177 c178 c179 c180 c181 c182 c183 c184 c185 c186 c187 c188 c189 c190 c191 c192 c193 c194 c195 c196 c197 c198 c199 c200 c201 c202 c203 c204 c205 c206 c207 c208 c209 c210 c211 c212 c213 c214) (hKi : ∀ (a' : Act) (w' : World), Handed Ji (k2 + 1) a' w' → Ki a' w')
    (NE : Aside0 (w.heap.size ≠ gb)) (H1 : Aside0 (specC o0 (wrap64 (-q)) L1 T1 = some (x1, o1))) (HK2 : Aside0 (k2 + 1 + 1 = 5)) (X7 : Aside0 (HB8 89 w.heap.size w wc (w.heap.size + 1) (ms ++ [⟨1, q⟩]) (gs ++ [q]) o0 [(gb, #[.int .i64 L0, .int .i64 L1, .int .i64 L2, .int .i64 L3, .int .i64 x0, .int .i64 0, .int .i64 0, .int .i64 0], 42), (w.heap.size, #[.int .i64 T0, .int .i64 T1, .int .i64 T2, .int .i64 T3, .int .i64 L0, .int .i64 L1, .int .i64 L2, .int .i64 L3], 42)])) :
    Code.wp Try.prog inner44 (Exit.then Ki (Exit.inBlock 2 (Exit.then K6 (Exit.then K5 (Exit.inBlock 1 (Exit.then K2 (Exit.inBlock 0 (Exit.then K3 (bodyPost Try.prog Try.f44 R))))))))) ⟨List.toArray (q20 c0 c1 c2 (.pointer (some ⟨w.heap.size, 0, none⟩)) c4 c5 c6 (.pointer (some ⟨w.heap.size + 1, 0, none⟩)) c8 c9 c10 (.int .i64 q) c12 (.pointer (some ⟨gb, 0, none⟩)) (.int .i64 1) c15 c16 c17 c18 c19 (q20 c20 c21 c22 c23 c24 c25 c26 c27 c28 c29 c30 c31 c32 c33 c34 c35 c36 c37 c38 c39 (q20 c40 c41 c42 c43 c44 c45 c46 c47 c48 c49 c50 c51 c52 c53 c54 c55 c56 c57 c58 c59 (q20 c60 c61 c62 c63 u64 u65 u66 u67 u68 u69 u70 u71 u72 u73 u74 u75 u76 u77 u78 u79 (q20 u80 u81 u82 c83 c84 c85 c86 c87 c88 c89 c90 c91 c92 c93 c94 c95 c96 c97 c98 c99 (q20 c100 c101 c102 c103 c104 c105 c106 c107 c108 c109 c110 c111 c112 c113 c114 c115 c116 c117 c118 c119 (q20 c120 c121 c122 c123 c124 c125 c126 c127 c128 c129 c130 c131 c132 c133 c134 c135 c136 c137 c138 c139 (q20 c140 c141 c142 c143 c144 c145 c146 c147 c148 c149 c150 c151 c152 c153 c154 c155 c156 c157 c158 c159 (q20 c160 c161 c162 c163 c164 c165 c166 c167 c168 c169 c170 c171 c172 c173 c174 c175 c176 c177 c178 c179 (q20 c180 c181 c182 c183 c184 c185 c186 c187 c188 c189 c190 c191 c192 c193 c194 c195 c196 c197 c198 c199 (c200 :: c201 :: c202 :: c203 :: c204 :: c205 :: c206 :: c207 :: c208 :: c209 :: c210 :: c211 :: c212 :: c213 :: c214 :: []))))))))))), []⟩ wc := by
  have hu42 := Try.underlying42
  have hu38 := Try.underlying38
  conv => arg 2; whnf
  unfold q20
  unfold HJi44 at hJi
  obtain ⟨⟨q0x7, q1x7, q2x7, q3x7, q4x7, q5x7, q6x7, q7x7⟩, z0x7, z1x7, z2x7, z3x7, z4x7, z5x7, z6x7, z7x7⟩ := cells8 X7.out.at0
  obtain ⟨⟨q0y7, q1y7, q2y7, q3y7, q4y7, q5y7, q6y7, q7y7⟩, z0y7, z1y7, z2y7, z3y7, z4y7, z5y7, z6y7, z7y7⟩ := cells8 X7.out.at1
  go_wp2
  have XD := Aside0.mk X7.out.drew
  refine start_ (n := 16) (S := fun w' => w'.cell? ⟨w.heap.size, 0, none⟩ = some (.int .i64 T0) ∧ w'.cell? ⟨w.heap.size, 1, none⟩ = some (.int .i64 T1) ∧ w'.cell? ⟨w.heap.size, 2, none⟩ = some (.int .i64 T2) ∧ w'.cell? ⟨w.heap.size, 3, none⟩ = some (.int .i64 T3) ∧ w'.cell? ⟨w.heap.size, 4, none⟩ = some (.int .i64 L0) ∧ w'.cell? ⟨w.heap.size, 5, none⟩ = some (.int .i64 L1) ∧ w'.cell? ⟨w.heap.size, 6, none⟩ = some (.int .i64 L2) ∧ w'.cell? ⟨w.heap.size, 7, none⟩ = some (.int .i64 L3)) (ds := [15]) #[false, false, false, false, false, false, false, false, false, false, false, false, false, false, false, false] (by kernel_rfl) rfl rfl ⟨(blk_cell XD.out.at1 0).trans rfl, (blk_cell XD.out.at1 1).trans rfl, (blk_cell XD.out.at1 2).trans rfl, (blk_cell XD.out.at1 3).trans rfl, (blk_cell XD.out.at1 4).trans rfl, (blk_cell XD.out.at1 5).trans rfl, (blk_cell XD.out.at1 6).trans rfl, (blk_cell XD.out.at1 7).trans rfl⟩ (fun hHeld => ?_)
  refine pure_ (i := 0) (N := some 68) (v := ?_) (a' := ?_) #[true, false, false, false, false, false, false, false, false, false, false, false, false, false, false, false] rfl rfl (by kernel_rfl) (fun _ _ _ h => h) (Or.inl ⟨by rfl, ?_⟩) ?_ ?_
  rotate_left
  · intro w'
    go_simp
    with_reducible rfl
  rotate_left
  · simp only [Act.put, sa_, sz_, ss_, i64_w, i32_w]
    rfl
  refine pure_ (i := 1) (N := some 69) (v := ?_) (a' := ?_) #[true, true, false, false, false, false, false, false, false, false, false, false, false, false, false, false] rfl rfl (by kernel_rfl) (fun _ _ _ h => h) (Or.inl ⟨by rfl, ?_⟩) ?_ ?_
  rotate_left
  · intro w'
    go_simp
    with_reducible rfl
  rotate_left
  · simp only [Act.put, sa_, sz_, ss_, i64_w, i32_w]
    rfl
  refine pure_ (i := 2) (N := some 70) (v := ?_) (a' := ?_) #[true, true, true, false, false, false, false, false, false, false, false, false, false, false, false, false] rfl rfl (by kernel_rfl) (fun _ _ _ h => h) (Or.inl ⟨by rfl, ?_⟩) ?_ ?_
  rotate_left
  · intro w'
    go_simp
    with_reducible rfl
  rotate_left
  · simp only [Act.put, sa_, sz_, ss_, i64_w, i32_w]
    rfl
  refine pure_ (i := 3) (N := some 71) (v := ?_) (a' := ?_) #[true, true, true, true, false, false, false, false, false, false, false, false, false, false, false, false] rfl rfl (by kernel_rfl) (fun _ _ _ h => h) (Or.inl ⟨by rfl, ?_⟩) ?_ ?_
  rotate_left
  · intro w'
    go_simp
    with_reducible rfl
  rotate_left
  · simp only [Act.put, sa_, sz_, ss_, i64_w, i32_w]
    rfl
  refine pure_ (i := 4) (N := some 72) (v := ?_) (a' := ?_) #[true, true, true, true, true, false, false, false, false, false, false, false, false, false, false, false] rfl rfl (by kernel_rfl) (fun _ _ _ h => h) (Or.inl ⟨by rfl, ?_⟩) ?_ ?_
  rotate_left
  · intro w'
    go_simp
    with_reducible rfl
  rotate_left
  · simp only [Act.put, sa_, sz_, ss_, i64_w, i32_w]
    rfl
  refine pure_ (i := 5) (N := some 73) (v := ?_) (a' := ?_) #[true, true, true, true, true, true, false, false, false, false, false, false, false, false, false, false] rfl rfl (by kernel_rfl) (fun _ _ _ h => h) (Or.inl ⟨by rfl, ?_⟩) ?_ ?_
  rotate_left
  · intro w'
    go_simp
    with_reducible rfl
  rotate_left
  · simp only [Act.put, sa_, sz_, ss_, i64_w, i32_w]
    rfl
  refine pure_ (i := 6) (N := some 74) (v := ?_) (a' := ?_) #[true, true, true, true, true, true, true, false, false, false, false, false, false, false, false, false] rfl rfl (by kernel_rfl) (fun _ _ _ h => h) (Or.inl ⟨by rfl, ?_⟩) ?_ ?_
  rotate_left
  · intro w'
    go_simp
    with_reducible rfl
  rotate_left
  · simp only [Act.put, sa_, sz_, ss_, i64_w, i32_w]
    rfl
  refine pure_ (i := 8) (N := some 76) (v := ?_) (a' := ?_) #[true, true, true, true, true, true, true, false, true, false, false, false, false, false, false, false] rfl rfl (by kernel_rfl) (fun _ _ _ h => h) (Or.inl ⟨by rfl, ?_⟩) ?_ ?_
  rotate_left
  · intro w'
    go_simp
    with_reducible rfl
  rotate_left
  · simp only [Act.put, sa_, sz_, ss_, i64_w, i32_w]
    rfl
  refine pure_ (i := 9) (N := some 77) (v := ?_) (a' := ?_) #[true, true, true, true, true, true, true, false, true, true, false, false, false, false, false, false] rfl rfl (by kernel_rfl) (fun _ _ _ h => h) (Or.inl ⟨by rfl, ?_⟩) ?_ ?_
  rotate_left
  · intro w'
    go_simp
    with_reducible rfl
  rotate_left
  · simp only [Act.put, sa_, sz_, ss_, i64_w, i32_w]
    rfl
  refine pure_ (i := 10) (N := some 78) (v := ?_) (a' := ?_) #[true, true, true, true, true, true, true, false, true, true, true, false, false, false, false, false] rfl rfl (by kernel_rfl) (fun _ _ _ h => h) (Or.inl ⟨by rfl, ?_⟩) ?_ ?_
  rotate_left
  · intro w'
    go_simp
    with_reducible rfl
  rotate_left
  · simp only [Act.put, sa_, sz_, ss_, i64_w, i32_w]
    rfl
  refine pure_ (i := 13) (N := some 81) (v := ?_) (a' := ?_) #[true, true, true, true, true, true, true, false, true, true, true, false, false, true, false, false] rfl rfl (by kernel_rfl) (fun _ _ _ h => h) (Or.inl ⟨by rfl, ?_⟩) ?_ ?_
  rotate_left
  · intro w'
    go_simp
    with_reducible rfl
  rotate_left
  · simp only [Act.put, sa_, sz_, ss_, i64_w, i32_w]
    rfl
  refine take_ (i := 7) (N := some 75) (v := ?_) (a' := ?_) #[true, true, true, true, true, true, true, true, true, true, true, false, false, true, false, false] rfl rfl (by kernel_rfl) (fun _ _ _ h => h) (Or.inl ⟨by rfl, ?_⟩) hHeld ?_ ?_
  rotate_left
  · rintro w' ⟨s0, s1, s2, s3, s4, s5, s6, s7⟩
    go_simp
    with_reducible rfl
  rotate_left
  · simp only [Act.put, sa_, sz_, ss_, i64_w, i32_w]
    rfl
  refine take_ (i := 11) (N := some 79) (v := ?_) (a' := ?_) #[true, true, true, true, true, true, true, true, true, true, true, true, false, true, false, false] rfl rfl (by kernel_rfl) (fun _ _ _ h => h) (Or.inl ⟨by rfl, ?_⟩) hHeld ?_ ?_
  rotate_left
  · rintro w' ⟨s0, s1, s2, s3, s4, s5, s6, s7⟩
    go_simp
    with_reducible rfl
  rotate_left
  · simp only [Act.put, sa_, sz_, ss_, i64_w, i32_w]
    rfl
  refine one_ (i := 12) (N := some 80) #[true, true, true, true, true, true, true, true, true, true, true, true, true, true, false, false] rfl rfl (by kernel_rfl) (by decide) (fun K hK => ?_)
  refine goes_ Try.func58 (by kernel_rfl) rfl #[.pointer (some ⟨w.heap.size + 1, 0, none⟩), .int .i64 (wrap64 (-q)), .int .i64 L1, .int .i64 T1] (by rfl) rfl rfl (by simp only [List.map_toArray, List.map_cons, List.map_nil]; rfl) ?_
  with_reducible refine (HB8.cellS XD.out H1.out).mono ?_
  rintro e w8 ⟨rfl, hX⟩
  refine ⟨_, rfl, ?_⟩
  have X8 := Aside0.mk hX
  clear hX
  refine hK.out _ _ ⟨(blk_cell X8.out.at1 0).trans rfl, (blk_cell X8.out.at1 1).trans rfl, (blk_cell X8.out.at1 2).trans rfl, (blk_cell X8.out.at1 3).trans rfl, (blk_cell X8.out.at1 4).trans rfl, (blk_cell X8.out.at1 5).trans rfl, (blk_cell X8.out.at1 6).trans rfl, (blk_cell X8.out.at1 7).trans rfl⟩ (fun hHeld => ?_)
  clear hK K
  refine norm_ (a' := ?_) ?_ ?_
  rotate_left
  · show Act.put _ (some 80) _ = _
    simp only [Act.put, sa_, sz_, ss_, i64_w, i32_w]
    rfl
  refine pure_ (i := 14) (N := some 82) (v := ?_) (a' := ?_) #[true, true, true, true, true, true, true, true, true, true, true, true, true, true, true, false] rfl rfl (by kernel_rfl) (fun _ _ _ h => h) (Or.inl ⟨by rfl, ?_⟩) ?_ ?_
  rotate_left
  · intro w'
    go_simp
    with_reducible rfl
  rotate_left
  · simp only [Act.put, sa_, sz_, ss_, i64_w, i32_w]
    rfl
  refine last_ (i := 15) (N := none) #[true, true, true, true, true, true, true, true, true, true, true, true, true, true, true, true] rfl rfl (by kernel_rfl) (by decide) (fun K hK => ?_)
  obtain ⟨⟨q0x8, q1x8, q2x8, q3x8, q4x8, q5x8, q6x8, q7x8⟩, z0x8, z1x8, z2x8, z3x8, z4x8, z5x8, z6x8, z7x8⟩ := cells8 X8.out.at0
  refine skip_ (w1 := ?_) (by rfl) rfl ?_ ?_
  rotate_left
  · go_simp
    rfl
  refine hK.out _ _ ?_
  clear hK K
  refine done_ (by kernel_rfl) ?_
  generalize hw9 : (World.setCell w8 ⟨gb, 5, none⟩ (.int .i64 x1)) = w9
  have X9 := Aside0.mk (show HB8 89 w.heap.size w w9 (w.heap.size + 1) (ms ++ [⟨1, q⟩]) (gs ++ [q]) o1 [(gb, #[.int .i64 L0, .int .i64 L1, .int .i64 L2, .int .i64 L3, .int .i64 x0, .int .i64 x1, .int .i64 0, .int .i64 0], 42), (w.heap.size, #[.int .i64 T0, .int .i64 T1, .int .i64 T2, .int .i64 T3, .int .i64 L0, .int .i64 L1, .int .i64 L2, .int .i64 L3], 42)] from hw9 ▸ HB8.set0' X8.out (by intro p hp; rw [List.mem_singleton.1 hp]; exact NE.out) 5 (.int .i64 x1) rfl)
  clear hw9
  go_wp2
  go_roundg k2
  case measure => omega
  case rel => exact Or.inr (Or.inr (Or.inl ⟨rfl, ⟨by have := HK2.out; omega⟩, X9⟩))
theorem E8_I2 {k2 : Nat} {w wc : World} {T0 T1 T2 T3 L0 L1 L2 L3 q x0 x1 x2 x3 : Int} {o0 o1 o2 o3 : Bool} {gb : Nat} {ms : List S52} {gs : List Int} {Ji : Nat → Act → World → Prop} {Ki : Act → World → Prop} {K2 K3 K5 K6 : Act → World → Prop} {R : Ending → World → Prop} {c0 c1 c2 c4 c5 c6 c8 c9 c10 c12 c15 c16 c17 c18 c19 c20 c21 c22 c23 c24 c25 c26 c27 c28 c29 c30 c31 c32 c33 c34 c35 c36 c37 c38 c39 c40 c41 c42 c43 c44 c45 c46 c47 c48 c49 c50 c51 c52 c53 c54 c55 c56 c57 c58 c59 c60 c61 c62 c63 c83 c84 c85 c86 c87 c88 c89 c90 c91 c92 c93 c94 c95 c96 c97 c98 c99 c100 c101 c102 c103 c104 c105 c106 c107 c108 c109 c110 c111 c112 c113 c114 c115 c116 c117 c118 c119 c120 c121 c122 c123 c124 c125 c126 c127 c128 c129 c130 c131 c132 c133 c134 c135 c136 c137 c138 c139 c140 c141 c142 c143 c144 c145 c146 c147 c148 c149 c150 c151 c152 c153 c154 c155 c156 c157 c158 c159 c160 c161 c162 c163 c164 c165 c166 c167 c168 c169 c170 c171 c172 c173 c174 c175 c176 c177 c178 c179 c180 c181 c182 c183 c184 c185 c186 c187 c188 c189 c190 c191 c192 c193 c194 c195 c196 c197 c198 c199 c200 c201 c202 c203 c204 c205 c206 c207 c208 c209 c210 c211 c212 c213 c214 : Value} {u64 u65 u66 u67 u68 u69 u70 u71 u72 u73 u74 u75 u76 u77 u78 u79 u80 u81 u82 : Value} (hJi : HJi44 w gb T0 T1 T2 T3 L0 L1 L2 L3 q x0 x1 x2 x3 o0 o1 o2 o3 ms gs Ji c0 c1 c2 c4 c5 c6 c8 c9 c10 c12 c15 c16 c17 c18 c19 c20 c21 c22 c23 c24 c25 c26 c27 c28 c29 c30 c31 c32 c33 c34 c35 c36 c37 c38 c39 c40 c41 c42 c43 c44 c45 c46 c47 c48 c49 c50 c51 c52 c53 c54 c55 c56 c57 c58 c59 c60 c61 c62 c63 c83 c84 c85 c86 c87 c88 c89 c90 c91 c92 c93 c94 c95 c96 c97 c98 c99 c100 c101 c102 c103 c104 c105 c106 c107 c108 c109 c110 c111 c112 c113 c114 c115 c116 c117 c118 c119 c120 c121 c122 c123 c124 c125 c126 c127 c128 c129 c130 c131 c132 c133 c134 c135 c136 c137 c138 c139 c140 c141 c142 c143 c144 c145 c146 c147 c148 c149 c150 c151 c152 c153 c154 c155 c156 c157 c158 c159 c160 c161 c162 c163 c164 c165 c166 c167 c168 c169 c170 c171 c172 c173 c174 c175 c176 c177 c178 c179 c180 c181 c182 c183 c184 c185 c186 c187 c188 c189 c190 c191 c192 c193 c194 c195 c196 c197 c198 c199 c200 c201 c202 c203 c204 c205 c206 c207 c208 c209 c210 c211 c212 c213 c214) (hKi : ∀ (a' : Act) (w' : World), Handed Ji (k2 + 1) a' w' → Ki a' w')
    (NE : Aside0 (w.heap.size ≠ gb)) (H2 : Aside0 (specC o1 (wrap64 (-q)) L2 T2 = some (x2, o2))) (HK2 : Aside0 (k2 + 1 + 2 = 5)) (X7 : Aside0 (HB8 89 w.heap.size w wc (w.heap.size + 1) (ms ++ [⟨1, q⟩]) (gs ++ [q]) o1 [(gb, #[.int .i64 L0, .int .i64 L1, .int .i64 L2, .int .i64 L3, .int .i64 x0, .int .i64 x1, .int .i64 0, .int .i64 0], 42), (w.heap.size, #[.int .i64 T0, .int .i64 T1, .int .i64 T2, .int .i64 T3, .int .i64 L0, .int .i64 L1, .int .i64 L2, .int .i64 L3], 42)])) :
    Code.wp Try.prog inner44 (Exit.then Ki (Exit.inBlock 2 (Exit.then K6 (Exit.then K5 (Exit.inBlock 1 (Exit.then K2 (Exit.inBlock 0 (Exit.then K3 (bodyPost Try.prog Try.f44 R))))))))) ⟨List.toArray (q20 c0 c1 c2 (.pointer (some ⟨w.heap.size, 0, none⟩)) c4 c5 c6 (.pointer (some ⟨w.heap.size + 1, 0, none⟩)) c8 c9 c10 (.int .i64 q) c12 (.pointer (some ⟨gb, 0, none⟩)) (.int .i64 2) c15 c16 c17 c18 c19 (q20 c20 c21 c22 c23 c24 c25 c26 c27 c28 c29 c30 c31 c32 c33 c34 c35 c36 c37 c38 c39 (q20 c40 c41 c42 c43 c44 c45 c46 c47 c48 c49 c50 c51 c52 c53 c54 c55 c56 c57 c58 c59 (q20 c60 c61 c62 c63 u64 u65 u66 u67 u68 u69 u70 u71 u72 u73 u74 u75 u76 u77 u78 u79 (q20 u80 u81 u82 c83 c84 c85 c86 c87 c88 c89 c90 c91 c92 c93 c94 c95 c96 c97 c98 c99 (q20 c100 c101 c102 c103 c104 c105 c106 c107 c108 c109 c110 c111 c112 c113 c114 c115 c116 c117 c118 c119 (q20 c120 c121 c122 c123 c124 c125 c126 c127 c128 c129 c130 c131 c132 c133 c134 c135 c136 c137 c138 c139 (q20 c140 c141 c142 c143 c144 c145 c146 c147 c148 c149 c150 c151 c152 c153 c154 c155 c156 c157 c158 c159 (q20 c160 c161 c162 c163 c164 c165 c166 c167 c168 c169 c170 c171 c172 c173 c174 c175 c176 c177 c178 c179 (q20 c180 c181 c182 c183 c184 c185 c186 c187 c188 c189 c190 c191 c192 c193 c194 c195 c196 c197 c198 c199 (c200 :: c201 :: c202 :: c203 :: c204 :: c205 :: c206 :: c207 :: c208 :: c209 :: c210 :: c211 :: c212 :: c213 :: c214 :: []))))))))))), []⟩ wc := by
  have hu42 := Try.underlying42
  have hu38 := Try.underlying38
  conv => arg 2; whnf
  unfold q20
  unfold HJi44 at hJi
  obtain ⟨⟨q0x7, q1x7, q2x7, q3x7, q4x7, q5x7, q6x7, q7x7⟩, z0x7, z1x7, z2x7, z3x7, z4x7, z5x7, z6x7, z7x7⟩ := cells8 X7.out.at0
  obtain ⟨⟨q0y7, q1y7, q2y7, q3y7, q4y7, q5y7, q6y7, q7y7⟩, z0y7, z1y7, z2y7, z3y7, z4y7, z5y7, z6y7, z7y7⟩ := cells8 X7.out.at1
  go_wp2
  have XD := Aside0.mk X7.out.drew
  refine start_ (n := 16) (S := fun w' => w'.cell? ⟨w.heap.size, 0, none⟩ = some (.int .i64 T0) ∧ w'.cell? ⟨w.heap.size, 1, none⟩ = some (.int .i64 T1) ∧ w'.cell? ⟨w.heap.size, 2, none⟩ = some (.int .i64 T2) ∧ w'.cell? ⟨w.heap.size, 3, none⟩ = some (.int .i64 T3) ∧ w'.cell? ⟨w.heap.size, 4, none⟩ = some (.int .i64 L0) ∧ w'.cell? ⟨w.heap.size, 5, none⟩ = some (.int .i64 L1) ∧ w'.cell? ⟨w.heap.size, 6, none⟩ = some (.int .i64 L2) ∧ w'.cell? ⟨w.heap.size, 7, none⟩ = some (.int .i64 L3)) (ds := [15]) #[false, false, false, false, false, false, false, false, false, false, false, false, false, false, false, false] (by kernel_rfl) rfl rfl ⟨(blk_cell XD.out.at1 0).trans rfl, (blk_cell XD.out.at1 1).trans rfl, (blk_cell XD.out.at1 2).trans rfl, (blk_cell XD.out.at1 3).trans rfl, (blk_cell XD.out.at1 4).trans rfl, (blk_cell XD.out.at1 5).trans rfl, (blk_cell XD.out.at1 6).trans rfl, (blk_cell XD.out.at1 7).trans rfl⟩ (fun hHeld => ?_)
  refine pure_ (i := 0) (N := some 68) (v := ?_) (a' := ?_) #[true, false, false, false, false, false, false, false, false, false, false, false, false, false, false, false] rfl rfl (by kernel_rfl) (fun _ _ _ h => h) (Or.inl ⟨by rfl, ?_⟩) ?_ ?_
  rotate_left
  · intro w'
    go_simp
    with_reducible rfl
  rotate_left
  · simp only [Act.put, sa_, sz_, ss_, i64_w, i32_w]
    rfl
  refine pure_ (i := 1) (N := some 69) (v := ?_) (a' := ?_) #[true, true, false, false, false, false, false, false, false, false, false, false, false, false, false, false] rfl rfl (by kernel_rfl) (fun _ _ _ h => h) (Or.inl ⟨by rfl, ?_⟩) ?_ ?_
  rotate_left
  · intro w'
    go_simp
    with_reducible rfl
  rotate_left
  · simp only [Act.put, sa_, sz_, ss_, i64_w, i32_w]
    rfl
  refine pure_ (i := 2) (N := some 70) (v := ?_) (a' := ?_) #[true, true, true, false, false, false, false, false, false, false, false, false, false, false, false, false] rfl rfl (by kernel_rfl) (fun _ _ _ h => h) (Or.inl ⟨by rfl, ?_⟩) ?_ ?_
  rotate_left
  · intro w'
    go_simp
    with_reducible rfl
  rotate_left
  · simp only [Act.put, sa_, sz_, ss_, i64_w, i32_w]
    rfl
  refine pure_ (i := 3) (N := some 71) (v := ?_) (a' := ?_) #[true, true, true, true, false, false, false, false, false, false, false, false, false, false, false, false] rfl rfl (by kernel_rfl) (fun _ _ _ h => h) (Or.inl ⟨by rfl, ?_⟩) ?_ ?_
  rotate_left
  · intro w'
    go_simp
    with_reducible rfl
  rotate_left
  · simp only [Act.put, sa_, sz_, ss_, i64_w, i32_w]
    rfl
  refine pure_ (i := 4) (N := some 72) (v := ?_) (a' := ?_) #[true, true, true, true, true, false, false, false, false, false, false, false, false, false, false, false] rfl rfl (by kernel_rfl) (fun _ _ _ h => h) (Or.inl ⟨by rfl, ?_⟩) ?_ ?_
  rotate_left
  · intro w'
    go_simp
    with_reducible rfl
  rotate_left
  · simp only [Act.put, sa_, sz_, ss_, i64_w, i32_w]
    rfl
  refine pure_ (i := 5) (N := some 73) (v := ?_) (a' := ?_) #[true, true, true, true, true, true, false, false, false, false, false, false, false, false, false, false] rfl rfl (by kernel_rfl) (fun _ _ _ h => h) (Or.inl ⟨by rfl, ?_⟩) ?_ ?_
  rotate_left
  · intro w'
    go_simp
    with_reducible rfl
  rotate_left
  · simp only [Act.put, sa_, sz_, ss_, i64_w, i32_w]
    rfl
  refine pure_ (i := 6) (N := some 74) (v := ?_) (a' := ?_) #[true, true, true, true, true, true, true, false, false, false, false, false, false, false, false, false] rfl rfl (by kernel_rfl) (fun _ _ _ h => h) (Or.inl ⟨by rfl, ?_⟩) ?_ ?_
  rotate_left
  · intro w'
    go_simp
    with_reducible rfl
  rotate_left
  · simp only [Act.put, sa_, sz_, ss_, i64_w, i32_w]
    rfl
  refine pure_ (i := 8) (N := some 76) (v := ?_) (a' := ?_) #[true, true, true, true, true, true, true, false, true, false, false, false, false, false, false, false] rfl rfl (by kernel_rfl) (fun _ _ _ h => h) (Or.inl ⟨by rfl, ?_⟩) ?_ ?_
  rotate_left
  · intro w'
    go_simp
    with_reducible rfl
  rotate_left
  · simp only [Act.put, sa_, sz_, ss_, i64_w, i32_w]
    rfl
  refine pure_ (i := 9) (N := some 77) (v := ?_) (a' := ?_) #[true, true, true, true, true, true, true, false, true, true, false, false, false, false, false, false] rfl rfl (by kernel_rfl) (fun _ _ _ h => h) (Or.inl ⟨by rfl, ?_⟩) ?_ ?_
  rotate_left
  · intro w'
    go_simp
    with_reducible rfl
  rotate_left
  · simp only [Act.put, sa_, sz_, ss_, i64_w, i32_w]
    rfl
  refine pure_ (i := 10) (N := some 78) (v := ?_) (a' := ?_) #[true, true, true, true, true, true, true, false, true, true, true, false, false, false, false, false] rfl rfl (by kernel_rfl) (fun _ _ _ h => h) (Or.inl ⟨by rfl, ?_⟩) ?_ ?_
  rotate_left
  · intro w'
    go_simp
    with_reducible rfl
  rotate_left
  · simp only [Act.put, sa_, sz_, ss_, i64_w, i32_w]
    rfl
  refine pure_ (i := 13) (N := some 81) (v := ?_) (a' := ?_) #[true, true, true, true, true, true, true, false, true, true, true, false, false, true, false, false] rfl rfl (by kernel_rfl) (fun _ _ _ h => h) (Or.inl ⟨by rfl, ?_⟩) ?_ ?_
  rotate_left
  · intro w'
    go_simp
    with_reducible rfl
  rotate_left
  · simp only [Act.put, sa_, sz_, ss_, i64_w, i32_w]
    rfl
  refine take_ (i := 7) (N := some 75) (v := ?_) (a' := ?_) #[true, true, true, true, true, true, true, true, true, true, true, false, false, true, false, false] rfl rfl (by kernel_rfl) (fun _ _ _ h => h) (Or.inl ⟨by rfl, ?_⟩) hHeld ?_ ?_
  rotate_left
  · rintro w' ⟨s0, s1, s2, s3, s4, s5, s6, s7⟩
    go_simp
    with_reducible rfl
  rotate_left
  · simp only [Act.put, sa_, sz_, ss_, i64_w, i32_w]
    rfl
  refine take_ (i := 11) (N := some 79) (v := ?_) (a' := ?_) #[true, true, true, true, true, true, true, true, true, true, true, true, false, true, false, false] rfl rfl (by kernel_rfl) (fun _ _ _ h => h) (Or.inl ⟨by rfl, ?_⟩) hHeld ?_ ?_
  rotate_left
  · rintro w' ⟨s0, s1, s2, s3, s4, s5, s6, s7⟩
    go_simp
    with_reducible rfl
  rotate_left
  · simp only [Act.put, sa_, sz_, ss_, i64_w, i32_w]
    rfl
  refine one_ (i := 12) (N := some 80) #[true, true, true, true, true, true, true, true, true, true, true, true, true, true, false, false] rfl rfl (by kernel_rfl) (by decide) (fun K hK => ?_)
  refine goes_ Try.func58 (by kernel_rfl) rfl #[.pointer (some ⟨w.heap.size + 1, 0, none⟩), .int .i64 (wrap64 (-q)), .int .i64 L2, .int .i64 T2] (by rfl) rfl rfl (by simp only [List.map_toArray, List.map_cons, List.map_nil]; rfl) ?_
  with_reducible refine (HB8.cellS XD.out H2.out).mono ?_
  rintro e w8 ⟨rfl, hX⟩
  refine ⟨_, rfl, ?_⟩
  have X8 := Aside0.mk hX
  clear hX
  refine hK.out _ _ ⟨(blk_cell X8.out.at1 0).trans rfl, (blk_cell X8.out.at1 1).trans rfl, (blk_cell X8.out.at1 2).trans rfl, (blk_cell X8.out.at1 3).trans rfl, (blk_cell X8.out.at1 4).trans rfl, (blk_cell X8.out.at1 5).trans rfl, (blk_cell X8.out.at1 6).trans rfl, (blk_cell X8.out.at1 7).trans rfl⟩ (fun hHeld => ?_)
  clear hK K
  refine norm_ (a' := ?_) ?_ ?_
  rotate_left
  · show Act.put _ (some 80) _ = _
    simp only [Act.put, sa_, sz_, ss_, i64_w, i32_w]
    rfl
  refine pure_ (i := 14) (N := some 82) (v := ?_) (a' := ?_) #[true, true, true, true, true, true, true, true, true, true, true, true, true, true, true, false] rfl rfl (by kernel_rfl) (fun _ _ _ h => h) (Or.inl ⟨by rfl, ?_⟩) ?_ ?_
  rotate_left
  · intro w'
    go_simp
    with_reducible rfl
  rotate_left
  · simp only [Act.put, sa_, sz_, ss_, i64_w, i32_w]
    rfl
  refine last_ (i := 15) (N := none) #[true, true, true, true, true, true, true, true, true, true, true, true, true, true, true, true] rfl rfl (by kernel_rfl) (by decide) (fun K hK => ?_)
  obtain ⟨⟨q0x8, q1x8, q2x8, q3x8, q4x8, q5x8, q6x8, q7x8⟩, z0x8, z1x8, z2x8, z3x8, z4x8, z5x8, z6x8, z7x8⟩ := cells8 X8.out.at0
  refine skip_ (w1 := ?_) (by rfl) rfl ?_ ?_
  rotate_left
  · go_simp
    rfl
  refine hK.out _ _ ?_
  clear hK K
  refine done_ (by kernel_rfl) ?_
  generalize hw9 : (World.setCell w8 ⟨gb, 6, none⟩ (.int .i64 x2)) = w9
  have X9 := Aside0.mk (show HB8 89 w.heap.size w w9 (w.heap.size + 1) (ms ++ [⟨1, q⟩]) (gs ++ [q]) o2 [(gb, #[.int .i64 L0, .int .i64 L1, .int .i64 L2, .int .i64 L3, .int .i64 x0, .int .i64 x1, .int .i64 x2, .int .i64 0], 42), (w.heap.size, #[.int .i64 T0, .int .i64 T1, .int .i64 T2, .int .i64 T3, .int .i64 L0, .int .i64 L1, .int .i64 L2, .int .i64 L3], 42)] from hw9 ▸ HB8.set0' X8.out (by intro p hp; rw [List.mem_singleton.1 hp]; exact NE.out) 6 (.int .i64 x2) rfl)
  clear hw9
  go_wp2
  go_roundg k2
  case measure => omega
  case rel => exact Or.inr (Or.inr (Or.inr (Or.inl ⟨rfl, ⟨by have := HK2.out; omega⟩, X9⟩)))
theorem E8_I3 {k2 : Nat} {w wc : World} {T0 T1 T2 T3 L0 L1 L2 L3 q x0 x1 x2 x3 : Int} {o0 o1 o2 o3 : Bool} {gb : Nat} {ms : List S52} {gs : List Int} {Ji : Nat → Act → World → Prop} {Ki : Act → World → Prop} {K2 K3 K5 K6 : Act → World → Prop} {R : Ending → World → Prop} {c0 c1 c2 c4 c5 c6 c8 c9 c10 c12 c15 c16 c17 c18 c19 c20 c21 c22 c23 c24 c25 c26 c27 c28 c29 c30 c31 c32 c33 c34 c35 c36 c37 c38 c39 c40 c41 c42 c43 c44 c45 c46 c47 c48 c49 c50 c51 c52 c53 c54 c55 c56 c57 c58 c59 c60 c61 c62 c63 c83 c84 c85 c86 c87 c88 c89 c90 c91 c92 c93 c94 c95 c96 c97 c98 c99 c100 c101 c102 c103 c104 c105 c106 c107 c108 c109 c110 c111 c112 c113 c114 c115 c116 c117 c118 c119 c120 c121 c122 c123 c124 c125 c126 c127 c128 c129 c130 c131 c132 c133 c134 c135 c136 c137 c138 c139 c140 c141 c142 c143 c144 c145 c146 c147 c148 c149 c150 c151 c152 c153 c154 c155 c156 c157 c158 c159 c160 c161 c162 c163 c164 c165 c166 c167 c168 c169 c170 c171 c172 c173 c174 c175 c176 c177 c178 c179 c180 c181 c182 c183 c184 c185 c186 c187 c188 c189 c190 c191 c192 c193 c194 c195 c196 c197 c198 c199 c200 c201 c202 c203 c204 c205 c206 c207 c208 c209 c210 c211 c212 c213 c214 : Value} {u64 u65 u66 u67 u68 u69 u70 u71 u72 u73 u74 u75 u76 u77 u78 u79 u80 u81 u82 : Value} (hJi : HJi44 w gb T0 T1 T2 T3 L0 L1 L2 L3 q x0 x1 x2 x3 o0 o1 o2 o3 ms gs Ji c0 c1 c2 c4 c5 c6 c8 c9 c10 c12 c15 c16 c17 c18 c19 c20 c21 c22 c23 c24 c25 c26 c27 c28 c29 c30 c31 c32 c33 c34 c35 c36 c37 c38 c39 c40 c41 c42 c43 c44 c45 c46 c47 c48 c49 c50 c51 c52 c53 c54 c55 c56 c57 c58 c59 c60 c61 c62 c63 c83 c84 c85 c86 c87 c88 c89 c90 c91 c92 c93 c94 c95 c96 c97 c98 c99 c100 c101 c102 c103 c104 c105 c106 c107 c108 c109 c110 c111 c112 c113 c114 c115 c116 c117 c118 c119 c120 c121 c122 c123 c124 c125 c126 c127 c128 c129 c130 c131 c132 c133 c134 c135 c136 c137 c138 c139 c140 c141 c142 c143 c144 c145 c146 c147 c148 c149 c150 c151 c152 c153 c154 c155 c156 c157 c158 c159 c160 c161 c162 c163 c164 c165 c166 c167 c168 c169 c170 c171 c172 c173 c174 c175 c176 c177 c178 c179 c180 c181 c182 c183 c184 c185 c186 c187 c188 c189 c190 c191 c192 c193 c194 c195 c196 c197 c198 c199 c200 c201 c202 c203 c204 c205 c206 c207 c208 c209 c210 c211 c212 c213 c214) (hKi : ∀ (a' : Act) (w' : World), Handed Ji (k2 + 1) a' w' → Ki a' w')
    (NE : Aside0 (w.heap.size ≠ gb)) (H3 : Aside0 (specC o2 (wrap64 (-q)) L3 T3 = some (x3, o3))) (HK2 : Aside0 (k2 + 1 + 3 = 5)) (X7 : Aside0 (HB8 89 w.heap.size w wc (w.heap.size + 1) (ms ++ [⟨1, q⟩]) (gs ++ [q]) o2 [(gb, #[.int .i64 L0, .int .i64 L1, .int .i64 L2, .int .i64 L3, .int .i64 x0, .int .i64 x1, .int .i64 x2, .int .i64 0], 42), (w.heap.size, #[.int .i64 T0, .int .i64 T1, .int .i64 T2, .int .i64 T3, .int .i64 L0, .int .i64 L1, .int .i64 L2, .int .i64 L3], 42)])) :
    Code.wp Try.prog inner44 (Exit.then Ki (Exit.inBlock 2 (Exit.then K6 (Exit.then K5 (Exit.inBlock 1 (Exit.then K2 (Exit.inBlock 0 (Exit.then K3 (bodyPost Try.prog Try.f44 R))))))))) ⟨List.toArray (q20 c0 c1 c2 (.pointer (some ⟨w.heap.size, 0, none⟩)) c4 c5 c6 (.pointer (some ⟨w.heap.size + 1, 0, none⟩)) c8 c9 c10 (.int .i64 q) c12 (.pointer (some ⟨gb, 0, none⟩)) (.int .i64 3) c15 c16 c17 c18 c19 (q20 c20 c21 c22 c23 c24 c25 c26 c27 c28 c29 c30 c31 c32 c33 c34 c35 c36 c37 c38 c39 (q20 c40 c41 c42 c43 c44 c45 c46 c47 c48 c49 c50 c51 c52 c53 c54 c55 c56 c57 c58 c59 (q20 c60 c61 c62 c63 u64 u65 u66 u67 u68 u69 u70 u71 u72 u73 u74 u75 u76 u77 u78 u79 (q20 u80 u81 u82 c83 c84 c85 c86 c87 c88 c89 c90 c91 c92 c93 c94 c95 c96 c97 c98 c99 (q20 c100 c101 c102 c103 c104 c105 c106 c107 c108 c109 c110 c111 c112 c113 c114 c115 c116 c117 c118 c119 (q20 c120 c121 c122 c123 c124 c125 c126 c127 c128 c129 c130 c131 c132 c133 c134 c135 c136 c137 c138 c139 (q20 c140 c141 c142 c143 c144 c145 c146 c147 c148 c149 c150 c151 c152 c153 c154 c155 c156 c157 c158 c159 (q20 c160 c161 c162 c163 c164 c165 c166 c167 c168 c169 c170 c171 c172 c173 c174 c175 c176 c177 c178 c179 (q20 c180 c181 c182 c183 c184 c185 c186 c187 c188 c189 c190 c191 c192 c193 c194 c195 c196 c197 c198 c199 (c200 :: c201 :: c202 :: c203 :: c204 :: c205 :: c206 :: c207 :: c208 :: c209 :: c210 :: c211 :: c212 :: c213 :: c214 :: []))))))))))), []⟩ wc := by
  have hu42 := Try.underlying42
  have hu38 := Try.underlying38
  conv => arg 2; whnf
  unfold q20
  unfold HJi44 at hJi
  obtain ⟨⟨q0x7, q1x7, q2x7, q3x7, q4x7, q5x7, q6x7, q7x7⟩, z0x7, z1x7, z2x7, z3x7, z4x7, z5x7, z6x7, z7x7⟩ := cells8 X7.out.at0
  obtain ⟨⟨q0y7, q1y7, q2y7, q3y7, q4y7, q5y7, q6y7, q7y7⟩, z0y7, z1y7, z2y7, z3y7, z4y7, z5y7, z6y7, z7y7⟩ := cells8 X7.out.at1
  go_wp2
  have XD := Aside0.mk X7.out.drew
  refine start_ (n := 16) (S := fun w' => w'.cell? ⟨w.heap.size, 0, none⟩ = some (.int .i64 T0) ∧ w'.cell? ⟨w.heap.size, 1, none⟩ = some (.int .i64 T1) ∧ w'.cell? ⟨w.heap.size, 2, none⟩ = some (.int .i64 T2) ∧ w'.cell? ⟨w.heap.size, 3, none⟩ = some (.int .i64 T3) ∧ w'.cell? ⟨w.heap.size, 4, none⟩ = some (.int .i64 L0) ∧ w'.cell? ⟨w.heap.size, 5, none⟩ = some (.int .i64 L1) ∧ w'.cell? ⟨w.heap.size, 6, none⟩ = some (.int .i64 L2) ∧ w'.cell? ⟨w.heap.size, 7, none⟩ = some (.int .i64 L3)) (ds := [15]) #[false, false, false, false, false, false, false, false, false, false, false, false, false, false, false, false] (by kernel_rfl) rfl rfl ⟨(blk_cell XD.out.at1 0).trans rfl, (blk_cell XD.out.at1 1).trans rfl, (blk_cell XD.out.at1 2).trans rfl, (blk_cell XD.out.at1 3).trans rfl, (blk_cell XD.out.at1 4).trans rfl, (blk_cell XD.out.at1 5).trans rfl, (blk_cell XD.out.at1 6).trans rfl, (blk_cell XD.out.at1 7).trans rfl⟩ (fun hHeld => ?_)
  refine pure_ (i := 0) (N := some 68) (v := ?_) (a' := ?_) #[true, false, false, false, false, false, false, false, false, false, false, false, false, false, false, false] rfl rfl (by kernel_rfl) (fun _ _ _ h => h) (Or.inl ⟨by rfl, ?_⟩) ?_ ?_
  rotate_left
  · intro w'
    go_simp
    with_reducible rfl
  rotate_left
  · simp only [Act.put, sa_, sz_, ss_, i64_w, i32_w]
    rfl
  refine pure_ (i := 1) (N := some 69) (v := ?_) (a' := ?_) #[true, true, false, false, false, false, false, false, false, false, false, false, false, false, false, false] rfl rfl (by kernel_rfl) (fun _ _ _ h => h) (Or.inl ⟨by rfl, ?_⟩) ?_ ?_
  rotate_left
  · intro w'
    go_simp
    with_reducible rfl
  rotate_left
  · simp only [Act.put, sa_, sz_, ss_, i64_w, i32_w]
    rfl
  refine pure_ (i := 2) (N := some 70) (v := ?_) (a' := ?_) #[true, true, true, false, false, false, false, false, false, false, false, false, false, false, false, false] rfl rfl (by kernel_rfl) (fun _ _ _ h => h) (Or.inl ⟨by rfl, ?_⟩) ?_ ?_
  rotate_left
  · intro w'
    go_simp
    with_reducible rfl
  rotate_left
  · simp only [Act.put, sa_, sz_, ss_, i64_w, i32_w]
    rfl
  refine pure_ (i := 3) (N := some 71) (v := ?_) (a' := ?_) #[true, true, true, true, false, false, false, false, false, false, false, false, false, false, false, false] rfl rfl (by kernel_rfl) (fun _ _ _ h => h) (Or.inl ⟨by rfl, ?_⟩) ?_ ?_
  rotate_left
  · intro w'
    go_simp
    with_reducible rfl
  rotate_left
  · simp only [Act.put, sa_, sz_, ss_, i64_w, i32_w]
    rfl
  refine pure_ (i := 4) (N := some 72) (v := ?_) (a' := ?_) #[true, true, true, true, true, false, false, false, false, false, false, false, false, false, false, false] rfl rfl (by kernel_rfl) (fun _ _ _ h => h) (Or.inl ⟨by rfl, ?_⟩) ?_ ?_
  rotate_left
  · intro w'
    go_simp
    with_reducible rfl
  rotate_left
  · simp only [Act.put, sa_, sz_, ss_, i64_w, i32_w]
    rfl
  refine pure_ (i := 5) (N := some 73) (v := ?_) (a' := ?_) #[true, true, true, true, true, true, false, false, false, false, false, false, false, false, false, false] rfl rfl (by kernel_rfl) (fun _ _ _ h => h) (Or.inl ⟨by rfl, ?_⟩) ?_ ?_
  rotate_left
  · intro w'
    go_simp
    with_reducible rfl
  rotate_left
  · simp only [Act.put, sa_, sz_, ss_, i64_w, i32_w]
    rfl
  refine pure_ (i := 6) (N := some 74) (v := ?_) (a' := ?_) #[true, true, true, true, true, true, true, false, false, false, false, false, false, false, false, false] rfl rfl (by kernel_rfl) (fun _ _ _ h => h) (Or.inl ⟨by rfl, ?_⟩) ?_ ?_
  rotate_left
  · intro w'
    go_simp
    with_reducible rfl
  rotate_left
  · simp only [Act.put, sa_, sz_, ss_, i64_w, i32_w]
    rfl
  refine pure_ (i := 8) (N := some 76) (v := ?_) (a' := ?_) #[true, true, true, true, true, true, true, false, true, false, false, false, false, false, false, false] rfl rfl (by kernel_rfl) (fun _ _ _ h => h) (Or.inl ⟨by rfl, ?_⟩) ?_ ?_
  rotate_left
  · intro w'
    go_simp
    with_reducible rfl
  rotate_left
  · simp only [Act.put, sa_, sz_, ss_, i64_w, i32_w]
    rfl
  refine pure_ (i := 9) (N := some 77) (v := ?_) (a' := ?_) #[true, true, true, true, true, true, true, false, true, true, false, false, false, false, false, false] rfl rfl (by kernel_rfl) (fun _ _ _ h => h) (Or.inl ⟨by rfl, ?_⟩) ?_ ?_
  rotate_left
  · intro w'
    go_simp
    with_reducible rfl
  rotate_left
  · simp only [Act.put, sa_, sz_, ss_, i64_w, i32_w]
    rfl
  refine pure_ (i := 10) (N := some 78) (v := ?_) (a' := ?_) #[true, true, true, true, true, true, true, false, true, true, true, false, false, false, false, false] rfl rfl (by kernel_rfl) (fun _ _ _ h => h) (Or.inl ⟨by rfl, ?_⟩) ?_ ?_
  rotate_left
  · intro w'
    go_simp
    with_reducible rfl
  rotate_left
  · simp only [Act.put, sa_, sz_, ss_, i64_w, i32_w]
    rfl
  refine pure_ (i := 13) (N := some 81) (v := ?_) (a' := ?_) #[true, true, true, true, true, true, true, false, true, true, true, false, false, true, false, false] rfl rfl (by kernel_rfl) (fun _ _ _ h => h) (Or.inl ⟨by rfl, ?_⟩) ?_ ?_
  rotate_left
  · intro w'
    go_simp
    with_reducible rfl
  rotate_left
  · simp only [Act.put, sa_, sz_, ss_, i64_w, i32_w]
    rfl
  refine take_ (i := 7) (N := some 75) (v := ?_) (a' := ?_) #[true, true, true, true, true, true, true, true, true, true, true, false, false, true, false, false] rfl rfl (by kernel_rfl) (fun _ _ _ h => h) (Or.inl ⟨by rfl, ?_⟩) hHeld ?_ ?_
  rotate_left
  · rintro w' ⟨s0, s1, s2, s3, s4, s5, s6, s7⟩
    go_simp
    with_reducible rfl
  rotate_left
  · simp only [Act.put, sa_, sz_, ss_, i64_w, i32_w]
    rfl
  refine take_ (i := 11) (N := some 79) (v := ?_) (a' := ?_) #[true, true, true, true, true, true, true, true, true, true, true, true, false, true, false, false] rfl rfl (by kernel_rfl) (fun _ _ _ h => h) (Or.inl ⟨by rfl, ?_⟩) hHeld ?_ ?_
  rotate_left
  · rintro w' ⟨s0, s1, s2, s3, s4, s5, s6, s7⟩
    go_simp
    with_reducible rfl
  rotate_left
  · simp only [Act.put, sa_, sz_, ss_, i64_w, i32_w]
    rfl
  refine one_ (i := 12) (N := some 80) #[true, true, true, true, true, true, true, true, true, true, true, true, true, true, false, false] rfl rfl (by kernel_rfl) (by decide) (fun K hK => ?_)
  refine goes_ Try.func58 (by kernel_rfl) rfl #[.pointer (some ⟨w.heap.size + 1, 0, none⟩), .int .i64 (wrap64 (-q)), .int .i64 L3, .int .i64 T3] (by rfl) rfl rfl (by simp only [List.map_toArray, List.map_cons, List.map_nil]; rfl) ?_
  with_reducible refine (HB8.cellS XD.out H3.out).mono ?_
  rintro e w8 ⟨rfl, hX⟩
  refine ⟨_, rfl, ?_⟩
  have X8 := Aside0.mk hX
  clear hX
  refine hK.out _ _ ⟨(blk_cell X8.out.at1 0).trans rfl, (blk_cell X8.out.at1 1).trans rfl, (blk_cell X8.out.at1 2).trans rfl, (blk_cell X8.out.at1 3).trans rfl, (blk_cell X8.out.at1 4).trans rfl, (blk_cell X8.out.at1 5).trans rfl, (blk_cell X8.out.at1 6).trans rfl, (blk_cell X8.out.at1 7).trans rfl⟩ (fun hHeld => ?_)
  clear hK K
  refine norm_ (a' := ?_) ?_ ?_
  rotate_left
  · show Act.put _ (some 80) _ = _
    simp only [Act.put, sa_, sz_, ss_, i64_w, i32_w]
    rfl
  refine pure_ (i := 14) (N := some 82) (v := ?_) (a' := ?_) #[true, true, true, true, true, true, true, true, true, true, true, true, true, true, true, false] rfl rfl (by kernel_rfl) (fun _ _ _ h => h) (Or.inl ⟨by rfl, ?_⟩) ?_ ?_
  rotate_left
  · intro w'
    go_simp
    with_reducible rfl
  rotate_left
  · simp only [Act.put, sa_, sz_, ss_, i64_w, i32_w]
    rfl
  refine last_ (i := 15) (N := none) #[true, true, true, true, true, true, true, true, true, true, true, true, true, true, true, true] rfl rfl (by kernel_rfl) (by decide) (fun K hK => ?_)
  obtain ⟨⟨q0x8, q1x8, q2x8, q3x8, q4x8, q5x8, q6x8, q7x8⟩, z0x8, z1x8, z2x8, z3x8, z4x8, z5x8, z6x8, z7x8⟩ := cells8 X8.out.at0
  refine skip_ (w1 := ?_) (by rfl) rfl ?_ ?_
  rotate_left
  · go_simp
    rfl
  refine hK.out _ _ ?_
  clear hK K
  refine done_ (by kernel_rfl) ?_
  generalize hw9 : (World.setCell w8 ⟨gb, 7, none⟩ (.int .i64 x3)) = w9
  have X9 := Aside0.mk (show HB8 89 w.heap.size w w9 (w.heap.size + 1) (ms ++ [⟨1, q⟩]) (gs ++ [q]) o3 [(gb, #[.int .i64 L0, .int .i64 L1, .int .i64 L2, .int .i64 L3, .int .i64 x0, .int .i64 x1, .int .i64 x2, .int .i64 x3], 42), (w.heap.size, #[.int .i64 T0, .int .i64 T1, .int .i64 T2, .int .i64 T3, .int .i64 L0, .int .i64 L1, .int .i64 L2, .int .i64 L3], 42)] from hw9 ▸ HB8.set0' X8.out (by intro p hp; rw [List.mem_singleton.1 hp]; exact NE.out) 7 (.int .i64 x3) rfl)
  clear hw9
  go_wp2
  go_roundg k2
  case measure => omega
  case rel => exact Or.inr (Or.inr (Or.inr (Or.inr (⟨rfl, ⟨by have := HK2.out; omega⟩, X9⟩))))
theorem E8_G {k k1 : Nat} {xs ys : List Int} {A1_ A2_ : Option Addr} {c1_ c2_ : Nat} {s : ESt} {w wc : World} {T0 T1 T2 T3 L0 L1 L2 L3 i j : Int} {lf : Bool} {ms : List S52} {gs : List Int} {R : Ending → World → Prop} {J : Nat → Act → World → Prop} {K2 K3 : Act → World → Prop} {c0 c4 c5 c18 c19 c214 : Value} {q x0 x1 x2 x3 : Int} {o0 o1 o2 o3 : Bool} {u6 u13 u14 u15 u16 u17 u20 u21 u22 u23 u24 u25 u26 u27 u28 u29 u30 u31 u32 u33 u34 u35 u36 u37 u38 u39 u40 u41 u42 u43 u44 u45 u46 u47 u48 u49 u50 u51 u52 u53 u54 u55 u56 u57 u58 u59 u60 u61 u62 u63 u64 u65 u66 u67 u68 u69 u70 u71 u72 u73 u74 u75 u76 u77 u78 u79 u80 u81 u82 u83 u84 u85 u86 u87 u88 u89 u90 u91 u92 u93 u94 u95 u96 u97 u98 u99 u100 u101 u102 u103 u104 u105 u106 u107 u108 u109 u110 u111 u112 u113 u114 u115 u116 u117 u118 u119 u120 u121 u122 u123 u124 u125 u126 u127 u128 u129 u130 u131 u132 u133 u134 u135 u136 u137 u138 u139 u140 u141 u142 u143 u144 u145 u146 u147 u148 u149 u150 u151 u152 u153 u154 u155 u156 u157 u158 u159 u160 u161 u162 u163 u164 u165 u166 u167 u168 u169 u170 u171 u172 u173 u174 u175 u176 u177 u178 u179 u180 u181 u182 u183 u184 u185 u186 u187 u188 u189 u190 u191 u192 u193 u194 u195 u196 u197 u198 u199 u200 u201 u202 u203 u204 u205 u206 u207 u208 u209 u210 u211 u212 u213 : Value} (hJ : HJ44 k xs ys A1_ A2_ c1_ c2_ s w J c0 c4 c5 c18 c19 c214) (hK : ∀ (a' : Act) (w' : World), Handed J (k1 + 1) a' w' → K2 a' w') (HR : Aside0 ((Kd.int .i64).C w A1_ xs.length xs)) (HR2 : Aside0 ((Kd.int .i64).C w A2_ ys.length ys)) (HC : Aside0 (xs.length ≤ c1_)) (HC2 : Aside0 (ys.length ≤ c2_)) (CB : Aside0 (((ms.length < 1000000 ∧ gs.length < 1000000) ∧ 0 ≤ i ∧ i < 1000000 ∧ 0 ≤ j ∧ j < 1000000) ∧ xs.length < 1000000 ∧ ys.length < 1000000)) (hti0 : 0 ≤ i) (hti2 : i < 1000000) (htj0 : 0 ≤ j) (htj2 : j < 1000000) (X0 : Aside0 (HB8 89 w.heap.size w wc (w.heap.size + 1) ms gs true [(w.heap.size, #[.int .i64 T0, .int .i64 T1, .int .i64 T2, .int .i64 T3, .int .i64 L0, .int .i64 L1, .int .i64 L2, .int .i64 L3], 42)])) (hip : 0 < i) (hjp : 0 < j) (H0 : Aside0 (specC true (wrap64 (-q)) L0 T0 = some (x0, o0))) (H1 : Aside0 (specC o0 (wrap64 (-q)) L1 T1 = some (x1, o1))) (H2 : Aside0 (specC o1 (wrap64 (-q)) L2 T2 = some (x2, o2))) (H3 : Aside0 (specC o2 (wrap64 (-q)) L3 T3 = some (x3, o3))) (HN : Aside0 (runE k xs ys k1 ⟨L0, L1, L2, L3, x0, x1, x2, x3, i, j, lf, ms ++ [⟨1, q⟩], gs ++ [q], o3⟩ = some s)) (HK1 : Aside0 (k1 + 1 ≤ k)) :
    Code.wp Try.prog (tl44 9) (Exit.inBlock 1 (Exit.then K2 (Exit.inBlock 0 (Exit.then K3 (bodyPost Try.prog Try.f44 R))))) ⟨List.toArray (q20 c0 (.slice A1_ xs.length c1_) (.slice A2_ ys.length c2_) (.pointer (some ⟨w.heap.size, 0, none⟩)) c4 c5 u6 (.pointer (some ⟨w.heap.size + 1, 0, none⟩)) (.int .i64 i) (.int .i64 j) (.bool lf) (.int .i64 q) (.bool true) u13 u14 u15 u16 u17 c18 c19 (q20 u20 u21 u22 u23 u24 u25 u26 u27 u28 u29 u30 u31 u32 u33 u34 u35 u36 u37 u38 u39 (q20 u40 u41 u42 u43 u44 u45 u46 u47 u48 u49 u50 u51 u52 u53 u54 u55 u56 u57 u58 u59 (q20 u60 u61 u62 u63 u64 u65 u66 u67 u68 u69 u70 u71 u72 u73 u74 u75 u76 u77 u78 u79 (q20 u80 u81 u82 u83 u84 u85 u86 u87 u88 u89 u90 u91 u92 u93 u94 u95 u96 u97 u98 u99 (q20 u100 u101 u102 u103 u104 u105 u106 u107 u108 u109 u110 u111 u112 u113 u114 u115 u116 u117 u118 u119 (q20 u120 u121 u122 u123 u124 u125 u126 u127 u128 u129 u130 u131 u132 u133 u134 u135 u136 u137 u138 u139 (q20 u140 u141 u142 u143 u144 u145 u146 u147 u148 u149 u150 u151 u152 u153 u154 u155 u156 u157 u158 u159 (q20 u160 u161 u162 u163 u164 u165 u166 u167 u168 u169 u170 u171 u172 u173 u174 u175 u176 u177 u178 u179 (q20 u180 u181 u182 u183 u184 u185 u186 u187 u188 u189 u190 u191 u192 u193 u194 u195 u196 u197 u198 u199 (u200 :: u201 :: u202 :: u203 :: u204 :: u205 :: u206 :: u207 :: u208 :: u209 :: u210 :: u211 :: u212 :: u213 :: c214 :: []))))))))))), []⟩ wc := by
  have hu42 := Try.underlying42
  have hu38 := Try.underlying38
  conv => arg 2; whnf
  unfold q20
  unfold HJ44 at hJ
  have hi0 : decide ((0 : Int) < i) = true := decide_eq_true hip
  have hj0 : decide ((0 : Int) < j) = true := decide_eq_true hjp
  clear hip hjp
  obtain ⟨⟨q0w0, q1w0, q2w0, q3w0, q4w0, q5w0, q6w0, q7w0⟩, z0w0, z1w0, z2w0, z3w0, z4w0, z5w0, z6w0, z7w0⟩ := cells8 X0.out.at0
  go_wp2_with (first | (go_at_call 57; (with_reducible refine (spec_give w.heap.size (w.heap.size + 1) ms gs true q w _ ?u1 ?u2 ?u3 CB.out.1.1.1 CB.out.1.1.2).mono ?_); (case u1 => exact X0.out.n); (case u2 => exact X0.out.bel); (case u3 => exact X0.out.sz); rintro e w4 ⟨rfl, hn, hb, hk⟩; have X4 := Aside0.mk (X0.out.note hn hb hk); clear hn hb hk; obtain ⟨⟨q0x4, q1x4, q2x4, q3x4, q4x4, q5x4, q6x4, q7x4⟩, z0x4, z1x4, z2x4, z3x4, z4x4, z5x4, z6x4, z7x4⟩ := cells8 X4.out.at0) | ((with_reducible refine gate_dst (N := 13) rfl ?_); refine box_event ?hg (N := 13) ?hd (cs := #[.int .i64 0, .int .i64 0, .int .i64 0, .int .i64 0, .int .i64 0, .int .i64 0, .int .i64 0, .int .i64 0]) (t := 42) ?hr ?_; (case hd => rfl); (case hg => rfl); (case hr => first | (go_simp; done) | (go_simp; rfl)); intro gb hgb w5 hbox hb; have X5 := Aside0.mk (X4.out.box (U := 42) hgb hbox hb (by decide)); have NE := Aside0.mk (show w.heap.size ≠ gb by rw [hgb]; exact Nat.ne_of_lt (blk_lt X4.out.at0)); clear hgb hbox hb; obtain ⟨⟨q0x5, q1x5, q2x5, q3x5, q4x5, q5x5, q6x5, q7x5⟩, z0x5, z1x5, z2x5, z3x5, z4x5, z5x5, z6x5, z7x5⟩ := cells8 X5.out.at0; obtain ⟨⟨q0y5, q1y5, q2y5, q3y5, q4y5, q5y5, q6y5, q7y5⟩, z0y5, z1y5, z2y5, z3y5, z4y5, z5y5, z6y5, z7y5⟩ := cells8 X5.out.at1) | ((with_reducible refine gate_store (t := 42) (p := 13) rfl ?_); refine store_event (t := 42) (p := 13) (v := ?vo_w6_7) (w1 := (World.setCell (World.setCell (World.setCell (World.setCell (World.setCell (World.setCell (World.setCell (World.setCell w5 ⟨gb, 0, none⟩ (.int .i64 L0)) ⟨gb, 1, none⟩ (.int .i64 L1)) ⟨gb, 2, none⟩ (.int .i64 L2)) ⟨gb, 3, none⟩ (.int .i64 L3)) ⟨gb, 4, none⟩ (.int .i64 0)) ⟨gb, 5, none⟩ (.int .i64 0)) ⟨gb, 6, none⟩ (.int .i64 0)) ⟨gb, 7, none⟩ (.int .i64 0))) ?hg ?ho ?hn ?hr ?_; (case ho => rfl); (case hg => rfl); (case hn => rfl); (case hr => first | (go_simp; done) | (go_simp; rfl)); intro w6 hw; have X6 := Aside0.mk (X5.out.put8_0 (by intro p hp; rw [List.mem_singleton.1 hp]; exact NE.out) hw); clear hw))
  clear q0w0 q1w0 q2w0 q3w0 q4w0 q5w0 q6w0 q7w0 z0w0 z1w0 z2w0 z3w0 z4w0 z5w0 z6w0 z7w0 q0x4 q1x4 q2x4 q3x4 q4x4 q5x4 q6x4 q7x4 z0x4 z1x4 z2x4 z3x4 z4x4 z5x4 z6x4 z7x4 q0x5 q1x5 q2x5 q3x5 q4x5 q5x5 q6x5 q7x5 z0x5 z1x5 z2x5 z3x5 z4x5 z5x5 z6x5 z7x5 q0y5 q1y5 q2y5 q3y5 q4y5 q5y5 q6y5 q7y5 z0y5 z1y5 z2y5 z3y5 z4y5 z5y5 z6y5 z7y5 X0 X4 X5 hi0 hj0
  go_loopg [14] 5 (fun kq v14 w' => (v14 = .int .i64 0 ∧ Aside0 (kq + 0 = 5) ∧ Aside0 (HB8 89 w.heap.size w w' (w.heap.size + 1) (ms ++ [⟨1, q⟩]) (gs ++ [q]) true [(gb, #[.int .i64 L0, .int .i64 L1, .int .i64 L2, .int .i64 L3, .int .i64 0, .int .i64 0, .int .i64 0, .int .i64 0], 42), (w.heap.size, #[.int .i64 T0, .int .i64 T1, .int .i64 T2, .int .i64 T3, .int .i64 L0, .int .i64 L1, .int .i64 L2, .int .i64 L3], 42)])) ∨ (v14 = .int .i64 1 ∧ Aside0 (kq + 1 = 5) ∧ Aside0 (HB8 89 w.heap.size w w' (w.heap.size + 1) (ms ++ [⟨1, q⟩]) (gs ++ [q]) o0 [(gb, #[.int .i64 L0, .int .i64 L1, .int .i64 L2, .int .i64 L3, .int .i64 x0, .int .i64 0, .int .i64 0, .int .i64 0], 42), (w.heap.size, #[.int .i64 T0, .int .i64 T1, .int .i64 T2, .int .i64 T3, .int .i64 L0, .int .i64 L1, .int .i64 L2, .int .i64 L3], 42)])) ∨ (v14 = .int .i64 2 ∧ Aside0 (kq + 2 = 5) ∧ Aside0 (HB8 89 w.heap.size w w' (w.heap.size + 1) (ms ++ [⟨1, q⟩]) (gs ++ [q]) o1 [(gb, #[.int .i64 L0, .int .i64 L1, .int .i64 L2, .int .i64 L3, .int .i64 x0, .int .i64 x1, .int .i64 0, .int .i64 0], 42), (w.heap.size, #[.int .i64 T0, .int .i64 T1, .int .i64 T2, .int .i64 T3, .int .i64 L0, .int .i64 L1, .int .i64 L2, .int .i64 L3], 42)])) ∨ (v14 = .int .i64 3 ∧ Aside0 (kq + 3 = 5) ∧ Aside0 (HB8 89 w.heap.size w w' (w.heap.size + 1) (ms ++ [⟨1, q⟩]) (gs ++ [q]) o2 [(gb, #[.int .i64 L0, .int .i64 L1, .int .i64 L2, .int .i64 L3, .int .i64 x0, .int .i64 x1, .int .i64 x2, .int .i64 0], 42), (w.heap.size, #[.int .i64 T0, .int .i64 T1, .int .i64 T2, .int .i64 T3, .int .i64 L0, .int .i64 L1, .int .i64 L2, .int .i64 L3], 42)])) ∨ (v14 = .int .i64 4 ∧ Aside0 (kq + 4 = 5) ∧ Aside0 (HB8 89 w.heap.size w w' (w.heap.size + 1) (ms ++ [⟨1, q⟩]) (gs ++ [q]) o3 [(gb, #[.int .i64 L0, .int .i64 L1, .int .i64 L2, .int .i64 L3, .int .i64 x0, .int .i64 x1, .int .i64 x2, .int .i64 x3], 42), (w.heap.size, #[.int .i64 T0, .int .i64 T1, .int .i64 T2, .int .i64 T3, .int .i64 L0, .int .i64 L1, .int .i64 L2, .int .i64 L3], 42)])))
  case atStart => exact Or.inl ⟨rfl, ⟨rfl⟩, X6⟩
  case round =>
    rename_i Ji Ki hJi hKi
    rcases hrel with ⟨rfl, HK2, X7⟩ | ⟨rfl, HK2, X7⟩ | ⟨rfl, HK2, X7⟩ | ⟨rfl, HK2, X7⟩ | ⟨rfl, HK2, X7⟩
    · cases gk with
      | zero => exact absurd HK2.out (by omega)
      | succ k2 => exact E8_I0 hJi hKi NE H0 HK2 X7
    · cases gk with
      | zero => exact absurd HK2.out (by omega)
      | succ k2 => exact E8_I1 hJi hKi NE H1 HK2 X7
    · cases gk with
      | zero => exact absurd HK2.out (by omega)
      | succ k2 => exact E8_I2 hJi hKi NE H2 HK2 X7
    · cases gk with
      | zero => exact absurd HK2.out (by omega)
      | succ k2 => exact E8_I3 hJi hKi NE H3 HK2 X7
    · cases gk with
      | zero => exact absurd HK2.out (by omega)
      | succ k2 =>
        obtain ⟨⟨q0x7, q1x7, q2x7, q3x7, q4x7, q5x7, q6x7, q7x7⟩, z0x7, z1x7, z2x7, z3x7, z4x7, z5x7, z6x7, z7x7⟩ := cells8 X7.out.at0
        obtain ⟨⟨q0y7, q1y7, q2y7, q3y7, q4y7, q5y7, q6y7, q7y7⟩, z0y7, z1y7, z2y7, z3y7, z4y7, z5y7, z6y7, z7y7⟩ := cells8 X7.out.at1
        go_wp2_with (first | ((with_reducible refine gate_store (t := 42) (p := 3) rfl ?_); refine store_event (t := 42) (p := 3) (v := ?vo_w9_8) (w1 := (World.setCell (World.setCell (World.setCell (World.setCell (World.setCell (World.setCell (World.setCell (World.setCell wr ⟨w.heap.size, 0, none⟩ (.int .i64 L0)) ⟨w.heap.size, 1, none⟩ (.int .i64 L1)) ⟨w.heap.size, 2, none⟩ (.int .i64 L2)) ⟨w.heap.size, 3, none⟩ (.int .i64 L3)) ⟨w.heap.size, 4, none⟩ (.int .i64 x0)) ⟨w.heap.size, 5, none⟩ (.int .i64 x1)) ⟨w.heap.size, 6, none⟩ (.int .i64 x2)) ⟨w.heap.size, 7, none⟩ (.int .i64 x3))) ?hg ?ho ?hn ?hr ?_; (case ho => rfl); (case hg => rfl); (case hn => rfl); (case hr => first | (go_simp; done) | (go_simp; rfl)); intro w9 hw; have X9 := Aside0.mk (X7.out.put8_1 ⟨Ne.symm NE.out, by intro p hp; cases hp⟩ hw); clear hw))
        go_roundg k1
        case measure => omega
        case rel => exact ⟨⟨L0, L1, L2, L3, x0, x1, x2, x3, i, j, lf, ms ++ [⟨1, q⟩], gs ++ [q], o3⟩, rfl, rfl, rfl, HN, ⟨by have := HK1.out; omega⟩, ⟨X9.out.drop⟩⟩

end Go.Proofs.Ytgldplkbacfacaa.MFnEights
