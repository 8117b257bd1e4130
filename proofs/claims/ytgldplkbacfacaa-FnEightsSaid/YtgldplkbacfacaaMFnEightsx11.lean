/- Functions as Lean functions, with proofs. By a program of this session. -/
import Derived.Test.YtgldplkbacfacaaMFnEightsx0
import Derived.Test.YtgldplkbacfacaaMFnEightsx5
import Derived.Test.YtgldplkbacfacaaMFnEightsx6
import Derived.Test.YtgldplkbacfacaaMFnEightsx7
import Derived.Test.YtgldplkbacfacaaMFnEightsx8
import Derived.Test.YtgldplkbacfacaaMFnEightsx9
import Derived.Test.YtgldplkbacfacaaMFnEightsx10
namespace Go.Proofs.Ytgldplkbacfacaa.MFnEights
open Go.RowKit Go.Proofs.Ytgldplkbacfacaa.MOpen Go.Proofs.YtgldplkbacfacaaW.PrintWords Go.Proofs.YtgldplkbacfacaaW.PrintLast Go.Proofs.YtgldplkbacfacaaW.PrintMore
attribute [local go_sem] max2_int min2_int max_two min_two max_three min_three max_four min_four
set_option linter.unusedVariables false
set_option linter.unusedSimpArgs false
set_option maxHeartbeats 32000000
set_option maxRecDepth 100000

/-- One move of the program's machine with eight numbers; lf: whether x is the next source. -/
def stepX (k : Nat) (xs ys : List Int) (s : ESt) : Option (Bool × ESt) :=
  (impl_gives.f k (corn s.T0 s.T1 s.T2 s.T3) (corn s.L0 s.L1 s.L2 s.L3)).bind fun t =>
    if t.2 = true ∧ 0 < s.i ∧ 0 < s.j then
      (implC (s.ov || decide (40 < (s.gs.length : Int) + 1)) s.L0 (wrap64 (-t.1)) s.T0).bind fun c0 => (implC c0.2 s.L1 (wrap64 (-t.1)) s.T1).bind fun c1 => (implC c1.2 s.L2 (wrap64 (-t.1)) s.T2).bind fun c2 => (implC c2.2 s.L3 (wrap64 (-t.1)) s.T3).bind fun c3 =>
        some (true, ⟨s.L0, s.L1, s.L2, s.L3, c0.1, c1.1, c2.1, c3.1, s.i, s.j, s.lf, s.ms ++ [⟨1, t.1⟩], s.gs ++ [t.1], c3.2⟩)
    else if (s.lf = true ∧ s.i ≤ (xs.length : Int)) ∨ (s.lf = false ∧ ¬ s.j ≤ (ys.length : Int) ∧ s.i ≤ (xs.length : Int)) then
      (rowF s.ov 2 xs s.i s.T0 s.T1 s.T2 s.T3).bind fun a => (rowF a.2 2 xs s.i s.L0 s.L1 s.L2 s.L3).bind fun b =>
        some (true, ⟨a.1.1, a.1.2.1, a.1.2.2.1, a.1.2.2.2, b.1.1, b.1.2.1, b.1.2.2.1, b.1.2.2.2, s.i + 1, s.j, false, s.ms ++ [⟨2, if s.i < (xs.length : Int) then rd xs s.i else 0⟩], s.gs, b.2⟩)
    else if s.j ≤ (ys.length : Int) then
      (rowF s.ov 3 ys s.j s.T0 s.T1 s.T2 s.T3).bind fun a => (rowF a.2 3 ys s.j s.L0 s.L1 s.L2 s.L3).bind fun b =>
        some (true, ⟨a.1.1, a.1.2.1, a.1.2.2.1, a.1.2.2.2, b.1.1, b.1.2.1, b.1.2.2.1, b.1.2.2.2, s.i, s.j + 1, true, s.ms ++ [⟨3, if s.j < (ys.length : Int) then rd ys s.j else 0⟩], s.gs, b.2⟩)
    else some (false, s)
def runX (k : Nat) (xs ys : List Int) : Nat → ESt → Option ESt
  | 0, _ => none
  | n + 1, s => if s.ov = true then some s else (if ((s.ms.length < 1000000 ∧ s.gs.length < 1000000) ∧ 0 ≤ s.i ∧ s.i < 1000000 ∧ 0 ≤ s.j ∧ s.j < 1000000) ∧ xs.length < 1000000 ∧ ys.length < 1000000 then (stepX k xs ys s).bind fun r => (if r.1 = true then runX k xs ys n r.2 else some r.2) else none)
theorem stepX_mono (xs ys : List Int) (s : ESt) (k : Nat) : LeO (stepX k xs ys s) (stepX (k + 1) xs ys s) := by
  unfold stepX
  exact LeO.bind (impl_gives.mono _ _ _) (fun _ => LeO.refl _)
theorem runX_mono (xs ys : List Int) (k : Nat) : ∀ (n : Nat) (s : ESt), LeO (runX k xs ys n s) (runX (k + 1) xs ys (n + 1) s)
  | 0, s => by intro r h; simp [runX] at h
  | n + 1, s => by
    rw [runX]
    conv => rhs; rw [runX]
    refine LeO.ite (LeO.refl _) (LeO.ite ?_ (LeO.none _))
    refine LeO.bind (stepX_mono xs ys s k) (fun r => ?_)
    exact LeO.ite (runX_mono xs ys k n r.2) (LeO.refl _)
/-- What the program's Eight.run computes. -/
def eightX (k : Nat) (T0 T1 T2 T3 L0 L1 L2 L3 : Int) (xs ys : List Int) : Option (ESt × Int) :=
  (impl_ValidTerms.f k xs).bind fun v => if v = true then (impl_ValidTerms.f k ys).bind fun v2 => (if v2 = true then
    (if (inP T0 = true ∧ inP T1 = true ∧ inP T2 = true ∧ inP T3 = true) ∧ inP L0 = true ∧ inP L1 = true ∧ inP L2 = true ∧ inP L3 = true then ((runX k xs ys k ⟨T0, T1, T2, T3, L0, L1, L2, L3, 0, 0, true, [], [], false⟩).bind fun s => (impl_mover_code.f k s.ms s.gs s.ov).bind fun c => some (s, c)) else some (⟨T0, T1, T2, T3, L0, L1, L2, L3, 0, 0, true, [], [], false⟩, 2))
    else some (⟨T0, T1, T2, T3, L0, L1, L2, L3, 0, 0, true, [], [], false⟩, 1)) else some (⟨T0, T1, T2, T3, L0, L1, L2, L3, 0, 0, true, [], [], false⟩, 1)
theorem eightX_mono (T0 T1 T2 T3 L0 L1 L2 L3 : Int) (xs ys : List Int) (k : Nat) : LeO (eightX k T0 T1 T2 T3 L0 L1 L2 L3 xs ys) (eightX (k + 1) T0 T1 T2 T3 L0 L1 L2 L3 xs ys) := by
  unfold eightX
  exact LeO.bind (impl_ValidTerms.mono _ _) (fun _ => LeO.ite (LeO.bind (impl_ValidTerms.mono _ _) (fun _ => LeO.ite (LeO.ite (LeO.bind (runX_mono _ _ k k _) (fun _ => LeO.bind (impl_mover_code.mono _ _ _ _) (fun _ => LeO.refl _))) (LeO.refl _)) (LeO.refl _))) (LeO.refl _))
theorem HB8.swap12 {T b : Nat} {w0 w : World} {gw : Nat} {ms : List S52} {gs : List Int} {ok : Bool} {bl : List (Nat × Array Value × Nat)} {p0 p1 p2 : Nat × Array Value × Nat} (h : HB8 T b w0 w gw ms gs ok (p0 :: p1 :: p2 :: bl)) : HB8 T b w0 w gw ms gs ok (p0 :: p2 :: p1 :: bl) :=
  ⟨h.n, fun p hp => h.m p (by simp only [List.mem_cons] at hp ⊢; rcases hp with h | h | h | h <;> simp [h]), h.ty, h.bel, h.sz⟩
noncomputable def body46 : Code := ((Try.f46.body.bind (loopAt 11))).getD .skip
noncomputable def inner46 : Code := ((Try.f46.body.bind (loopAt 18))).getD .skip
noncomputable def range46 : Code := ((Try.f46.body.bind (loopAt 4))).getD .skip
noncomputable def tl46 (n : Nat) : Code := ((Try.f46.body.bind (tailAt n))).getD .skip
theorem HB8.sub {T b : Nat} {w0 w : World} {gw : Nat} {ms : List S52} {gs : List Int} {ok : Bool} {bl bl' : List (Nat × Array Value × Nat)} (h : HB8 T b w0 w gw ms gs ok bl) (hs : ∀ p, p ∈ bl' → p ∈ bl) : HB8 T b w0 w gw ms gs ok bl' :=
  ⟨h.n, fun p hp => h.m p (hs p hp), h.ty, h.bel, h.sz⟩
theorem ne2 {gm : Nat} {p1 p2 : Nat × Array Value × Nat} (h1 : p1.1 ≠ gm) (h2 : p2.1 ≠ gm) : ∀ p ∈ [p1, p2], p.1 ≠ gm := by
  intro p hp
  rcases List.mem_cons.1 hp with rfl | hp
  · exact h1
  · rw [List.mem_singleton.1 hp]
    exact h2
theorem ne1 {gm : Nat} {p1 : Nat × Array Value × Nat} (h1 : p1.1 ≠ gm) : ∀ p ∈ [p1], p.1 ≠ gm := by
  intro p hp
  rw [List.mem_singleton.1 hp]
  exact h1
theorem ne3 {gm : Nat} {p0 p1 p2 : Nat × Array Value × Nat} (h0 : p0.1 ≠ gm) (h1 : p1.1 ≠ gm) (h2 : p2.1 ≠ gm) : ∀ p ∈ [p0, p1, p2], p.1 ≠ gm := by
  intro p hp
  rcases List.mem_cons.1 hp with rfl | hp
  · exact h0
  · exact ne2 h1 h2 p hp
theorem HB8.srcX {T b : Nat} {w0 w : World} {gw g : Nat} {ms : List S52} {gs : List Int} {ok : Bool} {p0 : Nat × Array Value × Nat} {bl : List (Nat × Array Value × Nat)} {a0 a1 a2 : Value} {U : Nat} (h : HB8 T b w0 w gw ms gs ok (p0 :: (g, #[a0, a1, a2], U) :: bl)) : w.cell? ⟨g, 0, none⟩ = some a0 ∧ w.cell? ⟨g, 1, none⟩ = some a1 ∧ w.cell? ⟨g, 2, none⟩ = some a2 :=
  ⟨(blk_cell h.at1 0).trans rfl, (blk_cell h.at1 1).trans rfl, (blk_cell h.at1 2).trans rfl⟩
theorem HB8.srcY {T b : Nat} {w0 w : World} {gw g : Nat} {ms : List S52} {gs : List Int} {ok : Bool} {p0 p1 : Nat × Array Value × Nat} {bl : List (Nat × Array Value × Nat)} {a0 a1 a2 : Value} {U : Nat} (h : HB8 T b w0 w gw ms gs ok (p0 :: p1 :: (g, #[a0, a1, a2], U) :: bl)) : w.cell? ⟨g, 0, none⟩ = some a0 ∧ w.cell? ⟨g, 1, none⟩ = some a1 ∧ w.cell? ⟨g, 2, none⟩ = some a2 :=
  ⟨(blk_cell h.at2 0).trans rfl, (blk_cell h.at2 1).trans rfl, (blk_cell h.at2 2).trans rfl⟩
theorem HB_code {b : Nat} {w0 w : World} {gw : Nat} {ms : List S52} {gs : List Int} {ok : Bool} {bl : List (Nat × Array Value × Nat)} {k : Nat} {c : Int} (h : HB8 71 b w0 w gw ms gs ok bl) (hc : impl_mover_code.f k ms gs ok = some c) :
    Calls Try.prog 62 #[.pointer (some ⟨gw, 0, none⟩)] w fun e w' => e = .returned (.int .i64 c) ∧ HB8 71 b w0 w' gw ms gs ok bl := by
  obtain ⟨mv, gv, h1, h2, h3, h4⟩ := h.n
  obtain ⟨A0, c0, rfl, l0, r0⟩ := Kd.R_reads h3
  obtain ⟨A1, c1, rfl, l1, r1⟩ := Kd.R_reads h4
  refine (impl_mover_code.calls k gw 0 A0 c0 ms A1 c1 gs ok c w r0 l0 r1 l1 ⟨(blk_cell h1 0).trans rfl, (blk_cell h1 1).trans rfl, (blk_cell h1 2).trans rfl⟩ hc).mono ?_
  rintro e w' ⟨rfl, hd⟩
  exact ⟨rfl, h.below hd.below⟩
theorem HBX_start {w wr : World} {gm : Nat} {cs c1 c2 : Array Value} (hB : Below w.heap.size w wr) (hm : wr.heap[gm]? = some (.cells cs 42 (0, 0))) (hg : w.heap.size ≤ gm) :
    HB8 71 w.heap.size w (((wr.alloc (.cells #[.slice none 0 0, .slice none 0 0, .bool false] 71)).alloc (.cells c1 101)).alloc (.cells c2 101)) wr.heap.size [] [] false [(gm, cs, 42), (wr.heap.size + 1, c1, 101), (wr.heap.size + 2, c2, 101)] := by
  have h0 : HB8 71 w.heap.size w (wr.alloc (.cells #[.slice none 0 0, .slice none 0 0, .bool false] 71)) wr.heap.size [] [] false [(gm, cs, 42)] := by
    refine ⟨⟨_, _, heap_alloc_new wr _, hB.size, Kd.R_nil _ _ _ _ _, Kd.R_nil _ _ _ _ _⟩, fun p hp => ?_, by decide, below_alloc hB _, by have := hB.size; simp; omega⟩
    rw [List.mem_singleton.1 hp]
    exact ⟨blk_alloc hm _, hg, by show (42 : Nat) ≠ 52; decide, by show (42 : Nat) ≠ 2; decide, by show (42 : Nat) ≠ 71; decide⟩
  have h1 := h0.new (U := 101) ⟨by decide, by decide, by decide⟩ c1
  have h2 := h1.new (U := 101) ⟨by decide, by decide, by decide⟩ c2
  rw [show ((wr.alloc (.cells #[.slice none 0 0, .slice none 0 0, .bool false] 71)).alloc (.cells c1 101)).heap.size = wr.heap.size + 2 by simp, show (wr.alloc (.cells #[.slice none 0 0, .slice none 0 0, .bool false] 71)).heap.size = wr.heap.size + 1 by simp] at h2
  exact h2.sub (fun p hp => by simp only [List.mem_cons] at hp ⊢; rcases hp with h | h | h | h <;> simp [h])
def HJ46 (k : Nat) (xs ys : List Int) (A1_ A2_ : Option Addr) (c1_ c2_ : Nat) (s : ESt) (w : World) (gm gw gx gy : Nat) (J : Nat → Act → World → Prop) (c0 c4 c5 c8 c16 c17 c18 c19 c20 c21 c22 c23 c24 c25 c26 c27 c28 c29 c30 c31 c32 c33 c34 c35 c36 c37 c38 c39 c40 c41 c42 c43 c44 c45 c46 c47 c48 c49 c123 c124 c125 : Value) : Prop := ∀ (kq : Nat) (a' : Act) (w' : World), (∃ u6 u7 u10 u11 u12 u13 u14 u15 u50 u51 u52 u53 u54 u55 u56 u57 u58 u59 u60 u61 u62 u63 u64 u65 u66 u67 u68 u69 u70 u71 u72 u73 u74 u75 u76 u77 u78 u79 u80 u81 u82 u83 u84 u85 u86 u87 u88 u89 u90 u91 u92 u93 u94 u95 u96 u97 u98 u99 u100 u101 u102 u103 u104 u105 u106 u107 u108 u109 u110 u111 u112 u113 u114 u115 u116 u117 u118 u119 u120 u121 u122 : Value, (∃ s1 : ESt, u10 = .pointer (some ⟨cond s1.lf gx gy, 0, none⟩) ∧ u11 = .pointer (some ⟨cond s1.lf gy gx, 0, none⟩) ∧ Aside0 (runX k xs ys kq s1 = some s) ∧ Aside0 (kq ≤ k) ∧ Aside0 (HB8 71 w.heap.size w w' gw s1.ms s1.gs s1.ov [(gm, #[.int .i64 s1.T0, .int .i64 s1.T1, .int .i64 s1.T2, .int .i64 s1.T3, .int .i64 s1.L0, .int .i64 s1.L1, .int .i64 s1.L2, .int .i64 s1.L3], 42), (gx, #[.int .i8 2, .slice A1_ xs.length c1_, .int .i64 s1.i], 101), (gy, #[.int .i8 3, .slice A2_ ys.length c2_, .int .i64 s1.j], 101)])) ∧ a' = ⟨List.toArray (q20 c0 (.slice A1_ xs.length c1_) (.slice A2_ ys.length c2_) (.pointer (some ⟨gm, 0, none⟩)) c4 c5 u6 u7 c8 (.pointer (some ⟨gw, 0, none⟩)) u10 u11 u12 u13 u14 u15 c16 c17 c18 c19 (q20 c20 c21 c22 c23 c24 c25 c26 c27 c28 c29 c30 c31 c32 c33 c34 c35 c36 c37 c38 c39 (q20 c40 c41 c42 c43 c44 c45 c46 c47 c48 c49 u50 u51 u52 u53 u54 u55 u56 u57 u58 u59 (q20 u60 u61 u62 u63 u64 u65 u66 u67 u68 u69 u70 u71 u72 u73 u74 u75 u76 u77 u78 u79 (q20 u80 u81 u82 u83 u84 u85 u86 u87 u88 u89 u90 u91 u92 u93 u94 u95 u96 u97 u98 u99 (q20 u100 u101 u102 u103 u104 u105 u106 u107 u108 u109 u110 u111 u112 u113 u114 u115 u116 u117 u118 u119 (u120 :: u121 :: u122 :: c123 :: c124 :: c125 :: []))))))), []⟩) → J kq a' w'
def HJi46 (xs ys : List Int) (A1_ A2_ : Option Addr) (c1_ c2_ : Nat) (w : World) (gm gw gx gy gb : Nat) (T0 T1 T2 T3 L0 L1 L2 L3 i j q x0 x1 x2 x3 : Int) (o0 o1 o2 o3 : Bool) (ms : List S52) (gs : List Int) (Ji : Nat → Act → World → Prop) (c0 c1 c2 c4 c5 c6 c7 c8 c10 c11 c13 c16 c17 c18 c19 c20 c21 c22 c23 c24 c25 c26 c27 c28 c29 c30 c31 c32 c33 c34 c35 c36 c37 c38 c39 c40 c41 c42 c43 c44 c45 c46 c47 c48 c49 c50 c51 c52 c53 c54 c55 c56 c57 c58 c59 c60 c61 c62 c63 c64 c65 c66 c67 c68 c69 c70 c71 c72 c73 c74 c75 c76 c77 c78 c79 c80 c81 c82 c83 c84 c85 c86 c87 c88 c107 c108 c109 c110 c111 c112 c113 c114 c115 c116 c117 c118 c119 c120 c121 c122 c123 c124 c125 : Value) : Prop := ∀ (kq : Nat) (a' : Act) (w' : World), (∃ u15 u89 u90 u91 u92 u93 u94 u95 u96 u97 u98 u99 u100 u101 u102 u103 u104 u105 u106 : Value, ((u89 = .int .i64 0 ∧ Aside0 (kq + 0 = 5) ∧ Aside0 (HB8 71 w.heap.size w w' gw (ms ++ [⟨1, q⟩]) (gs ++ [q]) (false || decide (40 < (gs.length : Int) + 1)) [(gb, #[.int .i64 L0, .int .i64 L1, .int .i64 L2, .int .i64 L3], 38), (gm, #[.int .i64 T0, .int .i64 T1, .int .i64 T2, .int .i64 T3, .int .i64 L0, .int .i64 L1, .int .i64 L2, .int .i64 L3], 42), (gx, #[.int .i8 2, .slice A1_ xs.length c1_, .int .i64 i], 101), (gy, #[.int .i8 3, .slice A2_ ys.length c2_, .int .i64 j], 101)])) ∨ (u89 = .int .i64 1 ∧ Aside0 (kq + 1 = 5) ∧ Aside0 (HB8 71 w.heap.size w w' gw (ms ++ [⟨1, q⟩]) (gs ++ [q]) o0 [(gb, #[.int .i64 L0, .int .i64 L1, .int .i64 L2, .int .i64 L3], 38), (gm, #[.int .i64 T0, .int .i64 T1, .int .i64 T2, .int .i64 T3, .int .i64 x0, .int .i64 L1, .int .i64 L2, .int .i64 L3], 42), (gx, #[.int .i8 2, .slice A1_ xs.length c1_, .int .i64 i], 101), (gy, #[.int .i8 3, .slice A2_ ys.length c2_, .int .i64 j], 101)])) ∨ (u89 = .int .i64 2 ∧ Aside0 (kq + 2 = 5) ∧ Aside0 (HB8 71 w.heap.size w w' gw (ms ++ [⟨1, q⟩]) (gs ++ [q]) o1 [(gb, #[.int .i64 L0, .int .i64 L1, .int .i64 L2, .int .i64 L3], 38), (gm, #[.int .i64 T0, .int .i64 T1, .int .i64 T2, .int .i64 T3, .int .i64 x0, .int .i64 x1, .int .i64 L2, .int .i64 L3], 42), (gx, #[.int .i8 2, .slice A1_ xs.length c1_, .int .i64 i], 101), (gy, #[.int .i8 3, .slice A2_ ys.length c2_, .int .i64 j], 101)])) ∨ (u89 = .int .i64 3 ∧ Aside0 (kq + 3 = 5) ∧ Aside0 (HB8 71 w.heap.size w w' gw (ms ++ [⟨1, q⟩]) (gs ++ [q]) o2 [(gb, #[.int .i64 L0, .int .i64 L1, .int .i64 L2, .int .i64 L3], 38), (gm, #[.int .i64 T0, .int .i64 T1, .int .i64 T2, .int .i64 T3, .int .i64 x0, .int .i64 x1, .int .i64 x2, .int .i64 L3], 42), (gx, #[.int .i8 2, .slice A1_ xs.length c1_, .int .i64 i], 101), (gy, #[.int .i8 3, .slice A2_ ys.length c2_, .int .i64 j], 101)])) ∨ (u89 = .int .i64 4 ∧ Aside0 (kq + 4 = 5) ∧ Aside0 (HB8 71 w.heap.size w w' gw (ms ++ [⟨1, q⟩]) (gs ++ [q]) o3 [(gb, #[.int .i64 L0, .int .i64 L1, .int .i64 L2, .int .i64 L3], 38), (gm, #[.int .i64 T0, .int .i64 T1, .int .i64 T2, .int .i64 T3, .int .i64 x0, .int .i64 x1, .int .i64 x2, .int .i64 x3], 42), (gx, #[.int .i8 2, .slice A1_ xs.length c1_, .int .i64 i], 101), (gy, #[.int .i8 3, .slice A2_ ys.length c2_, .int .i64 j], 101)]))) ∧ a' = ⟨List.toArray (q20 c0 c1 c2 (.pointer (some ⟨gm, 0, none⟩)) c4 c5 c6 c7 c8 (.pointer (some ⟨gw, 0, none⟩)) c10 c11 (.int .i64 q) c13 (.pointer (some ⟨gb, 0, none⟩)) u15 c16 c17 c18 c19 (q20 c20 c21 c22 c23 c24 c25 c26 c27 c28 c29 c30 c31 c32 c33 c34 c35 c36 c37 c38 c39 (q20 c40 c41 c42 c43 c44 c45 c46 c47 c48 c49 c50 c51 c52 c53 c54 c55 c56 c57 c58 c59 (q20 c60 c61 c62 c63 c64 c65 c66 c67 c68 c69 c70 c71 c72 c73 c74 c75 c76 c77 c78 c79 (q20 c80 c81 c82 c83 c84 c85 c86 c87 c88 u89 u90 u91 u92 u93 u94 u95 u96 u97 u98 u99 (q20 u100 u101 u102 u103 u104 u105 u106 c107 c108 c109 c110 c111 c112 c113 c114 c115 c116 c117 c118 c119 (c120 :: c121 :: c122 :: c123 :: c124 :: c125 :: []))))))), []⟩) → Ji kq a' w'
theorem X8_V0 {k2 : Nat} {xs ys : List Int} {A1_ A2_ : Option Addr} {c1_ c2_ : Nat} {w wc : World} {T0 T1 T2 T3 L0 L1 L2 L3 : Int} {Kr K3 : Act → World → Prop} {c0 c4 c5 c9 c10 c11 c12 c13 c14 c15 c16 c17 c18 c19 c20 c21 c22 c23 c42 c43 c44 c45 c46 c47 c48 c49 c50 c51 c52 c53 c54 c55 c56 c57 c58 c59 c60 c61 c62 c63 c64 c65 c66 c67 c68 c69 c70 c71 c72 c73 c74 c75 c76 c77 c78 c79 c80 c81 c82 c83 c84 c85 c86 c87 c88 c89 c90 c91 c92 c93 c94 c95 c96 c97 c98 c99 c100 c101 c102 c103 c104 c105 c106 c107 c108 c109 c110 c111 c112 c113 c114 c115 c116 c117 c118 c119 c120 c121 c122 c123 c124 c125 : Value} {P : Nat → Prop} {Jr : Nat → Act → World → Prop} {R : Ending → World → Prop} {u6 u7 u8 u25 u26 u27 u28 u29 u30 u31 u32 u33 u34 u35 u36 u37 u38 u39 u40 u41 : Value} (hJr : ∀ (kq : Nat) (a' : Act) (w' : World), (∃ u6 u7 u8 u24 u25 u26 u27 u28 u29 u30 u31 u32 u33 u34 u35 u36 u37 u38 u39 u40 u41 : Value, ((u24 = .int .i64 0 ∧ Aside0 (kq + 0 = 5) ∧ Aside0 (P 0) ∧ Aside0 (w'.heap[w.heap.size]? = some (.cells #[.int .i64 T0, .int .i64 T1, .int .i64 T2, .int .i64 T3, .int .i64 L0, .int .i64 L1, .int .i64 L2, .int .i64 L3] 42 (0, 0))) ∧ Aside0 (Below w.heap.size w w')) ∨ (u24 = .int .i64 1 ∧ Aside0 (kq + 1 = 5) ∧ Aside0 (P 1) ∧ Aside0 (w'.heap[w.heap.size]? = some (.cells #[.int .i64 T0, .int .i64 T1, .int .i64 T2, .int .i64 T3, .int .i64 L0, .int .i64 L1, .int .i64 L2, .int .i64 L3] 42 (0, 0))) ∧ Aside0 (Below w.heap.size w w')) ∨ (u24 = .int .i64 2 ∧ Aside0 (kq + 2 = 5) ∧ Aside0 (P 2) ∧ Aside0 (w'.heap[w.heap.size]? = some (.cells #[.int .i64 T0, .int .i64 T1, .int .i64 T2, .int .i64 T3, .int .i64 L0, .int .i64 L1, .int .i64 L2, .int .i64 L3] 42 (0, 0))) ∧ Aside0 (Below w.heap.size w w')) ∨ (u24 = .int .i64 3 ∧ Aside0 (kq + 3 = 5) ∧ Aside0 (P 3) ∧ Aside0 (w'.heap[w.heap.size]? = some (.cells #[.int .i64 T0, .int .i64 T1, .int .i64 T2, .int .i64 T3, .int .i64 L0, .int .i64 L1, .int .i64 L2, .int .i64 L3] 42 (0, 0))) ∧ Aside0 (Below w.heap.size w w')) ∨ (u24 = .int .i64 4 ∧ Aside0 (kq + 4 = 5) ∧ Aside0 (P 4) ∧ Aside0 (w'.heap[w.heap.size]? = some (.cells #[.int .i64 T0, .int .i64 T1, .int .i64 T2, .int .i64 T3, .int .i64 L0, .int .i64 L1, .int .i64 L2, .int .i64 L3] 42 (0, 0))) ∧ Aside0 (Below w.heap.size w w'))) ∧ a' = ⟨List.toArray (q20 c0 (.slice A1_ xs.length c1_) (.slice A2_ ys.length c2_) (.pointer (some ⟨w.heap.size, 0, none⟩)) c4 c5 u6 u7 u8 c9 c10 c11 c12 c13 c14 c15 c16 c17 c18 c19 (q20 c20 c21 c22 c23 u24 u25 u26 u27 u28 u29 u30 u31 u32 u33 u34 u35 u36 u37 u38 u39 (q20 u40 u41 c42 c43 c44 c45 c46 c47 c48 c49 c50 c51 c52 c53 c54 c55 c56 c57 c58 c59 (q20 c60 c61 c62 c63 c64 c65 c66 c67 c68 c69 c70 c71 c72 c73 c74 c75 c76 c77 c78 c79 (q20 c80 c81 c82 c83 c84 c85 c86 c87 c88 c89 c90 c91 c92 c93 c94 c95 c96 c97 c98 c99 (q20 c100 c101 c102 c103 c104 c105 c106 c107 c108 c109 c110 c111 c112 c113 c114 c115 c116 c117 c118 c119 (c120 :: c121 :: c122 :: c123 :: c124 :: c125 :: []))))))), []⟩) → Jr kq a' w') (hKr : ∀ (a' : Act) (w' : World), Handed Jr (k2 + 1) a' w' → Kr a' w')
    (HA : Aside0 (impl_within.f T0 (-1000000000) 1000000000 = some true)) (HB_ : Aside0 (impl_within.f L0 (-1000000000) 1000000000 = some true)) (HP : Aside0 (P 1)) (HK2 : Aside0 (k2 + 1 + 0 = 5)) (HM : Aside0 (wc.heap[w.heap.size]? = some (.cells #[.int .i64 T0, .int .i64 T1, .int .i64 T2, .int .i64 T3, .int .i64 L0, .int .i64 L1, .int .i64 L2, .int .i64 L3] 42 (0, 0)))) (HBl : Aside0 (Below w.heap.size w wc)) :
    Code.wp Try.prog range46 (Exit.then Kr (Exit.inBlock 0 (Exit.then K3 (bodyPost Try.prog Try.f46 R)))) ⟨List.toArray (q20 c0 (.slice A1_ xs.length c1_) (.slice A2_ ys.length c2_) (.pointer (some ⟨w.heap.size, 0, none⟩)) c4 c5 u6 u7 u8 c9 c10 c11 c12 c13 c14 c15 c16 c17 c18 c19 (q20 c20 c21 c22 c23 (.int .i64 0) u25 u26 u27 u28 u29 u30 u31 u32 u33 u34 u35 u36 u37 u38 u39 (q20 u40 u41 c42 c43 c44 c45 c46 c47 c48 c49 c50 c51 c52 c53 c54 c55 c56 c57 c58 c59 (q20 c60 c61 c62 c63 c64 c65 c66 c67 c68 c69 c70 c71 c72 c73 c74 c75 c76 c77 c78 c79 (q20 c80 c81 c82 c83 c84 c85 c86 c87 c88 c89 c90 c91 c92 c93 c94 c95 c96 c97 c98 c99 (q20 c100 c101 c102 c103 c104 c105 c106 c107 c108 c109 c110 c111 c112 c113 c114 c115 c116 c117 c118 c119 (c120 :: c121 :: c122 :: c123 :: c124 :: c125 :: []))))))), []⟩ wc := by
  have hu42 := Try.underlying42
  have hu38 := Try.underlying38
  conv => arg 2; whnf
  unfold q20
  obtain ⟨⟨q0, q1, q2, q3, q4, q5, q6, q7⟩, z0, z1, z2, z3, z4, z5, z6, z7⟩ := cells8 HM.out
  go_wp2_with (first | (go_at_call 60; (with_reducible refine (impl_within.calls T0 (-1000000000) 1000000000 true _ HA.out).mono ?_); rintro e w' ⟨rfl, ⟨nd, rfl⟩⟩) | (go_at_call 60; (with_reducible refine (impl_within.calls L0 (-1000000000) 1000000000 true _ HB_.out).mono ?_); rintro e w' ⟨rfl, ⟨nd, rfl⟩⟩))
  go_roundg k2
  case measure => omega
  case rel => exact Or.inr (Or.inl ⟨rfl, ⟨by have := HK2.out; omega⟩, HP, ⟨HM.out⟩, ⟨pw_below_drewN HBl.out _⟩⟩)
theorem X8_V0a {xs ys : List Int} {A1_ A2_ : Option Addr} {c1_ c2_ : Nat} {w wc : World} {T0 T1 T2 T3 L0 L1 L2 L3 : Int} {Kr K3 : Act → World → Prop} {c0 c4 c5 c9 c10 c11 c12 c13 c14 c15 c16 c17 c18 c19 c20 c21 c22 c23 c42 c43 c44 c45 c46 c47 c48 c49 c50 c51 c52 c53 c54 c55 c56 c57 c58 c59 c60 c61 c62 c63 c64 c65 c66 c67 c68 c69 c70 c71 c72 c73 c74 c75 c76 c77 c78 c79 c80 c81 c82 c83 c84 c85 c86 c87 c88 c89 c90 c91 c92 c93 c94 c95 c96 c97 c98 c99 c100 c101 c102 c103 c104 c105 c106 c107 c108 c109 c110 c111 c112 c113 c114 c115 c116 c117 c118 c119 c120 c121 c122 c123 c124 c125 : Value} {u6 u7 u8 u25 u26 u27 u28 u29 u30 u31 u32 u33 u34 u35 u36 u37 u38 u39 u40 u41 : Value} (HA : Aside0 (impl_within.f T0 (-1000000000) 1000000000 = some false)) (HM : Aside0 (wc.heap[w.heap.size]? = some (.cells #[.int .i64 T0, .int .i64 T1, .int .i64 T2, .int .i64 T3, .int .i64 L0, .int .i64 L1, .int .i64 L2, .int .i64 L3] 42 (0, 0)))) (HBl : Aside0 (Below w.heap.size w wc)) :
    Code.wp Try.prog range46 (Exit.then Kr (Exit.inBlock 0 (Exit.then K3 (bodyPost Try.prog Try.f46 (fun e w' => e = .returned (.tuple #[.pointer none, .int .i64 2]) ∧ Below w.heap.size w w'))))) ⟨List.toArray (q20 c0 (.slice A1_ xs.length c1_) (.slice A2_ ys.length c2_) (.pointer (some ⟨w.heap.size, 0, none⟩)) c4 c5 u6 u7 u8 c9 c10 c11 c12 c13 c14 c15 c16 c17 c18 c19 (q20 c20 c21 c22 c23 (.int .i64 0) u25 u26 u27 u28 u29 u30 u31 u32 u33 u34 u35 u36 u37 u38 u39 (q20 u40 u41 c42 c43 c44 c45 c46 c47 c48 c49 c50 c51 c52 c53 c54 c55 c56 c57 c58 c59 (q20 c60 c61 c62 c63 c64 c65 c66 c67 c68 c69 c70 c71 c72 c73 c74 c75 c76 c77 c78 c79 (q20 c80 c81 c82 c83 c84 c85 c86 c87 c88 c89 c90 c91 c92 c93 c94 c95 c96 c97 c98 c99 (q20 c100 c101 c102 c103 c104 c105 c106 c107 c108 c109 c110 c111 c112 c113 c114 c115 c116 c117 c118 c119 (c120 :: c121 :: c122 :: c123 :: c124 :: c125 :: []))))))), []⟩ wc := by
  have hu42 := Try.underlying42
  have hu38 := Try.underlying38
  conv => arg 2; whnf
  unfold q20
  obtain ⟨⟨q0, q1, q2, q3, q4, q5, q6, q7⟩, z0, z1, z2, z3, z4, z5, z6, z7⟩ := cells8 HM.out
  go_wp2_with (first | (go_at_call 60; (with_reducible refine (impl_within.calls T0 (-1000000000) 1000000000 false _ HA.out).mono ?_); rintro e w' ⟨rfl, ⟨nd, rfl⟩⟩))
  go_ret2
  exact ⟨rfl, pw_below_drewN HBl.out _⟩
theorem X8_V0b {xs ys : List Int} {A1_ A2_ : Option Addr} {c1_ c2_ : Nat} {w wc : World} {T0 T1 T2 T3 L0 L1 L2 L3 : Int} {Kr K3 : Act → World → Prop} {c0 c4 c5 c9 c10 c11 c12 c13 c14 c15 c16 c17 c18 c19 c20 c21 c22 c23 c42 c43 c44 c45 c46 c47 c48 c49 c50 c51 c52 c53 c54 c55 c56 c57 c58 c59 c60 c61 c62 c63 c64 c65 c66 c67 c68 c69 c70 c71 c72 c73 c74 c75 c76 c77 c78 c79 c80 c81 c82 c83 c84 c85 c86 c87 c88 c89 c90 c91 c92 c93 c94 c95 c96 c97 c98 c99 c100 c101 c102 c103 c104 c105 c106 c107 c108 c109 c110 c111 c112 c113 c114 c115 c116 c117 c118 c119 c120 c121 c122 c123 c124 c125 : Value} {u6 u7 u8 u25 u26 u27 u28 u29 u30 u31 u32 u33 u34 u35 u36 u37 u38 u39 u40 u41 : Value} (HA : Aside0 (impl_within.f T0 (-1000000000) 1000000000 = some true)) (HB_ : Aside0 (impl_within.f L0 (-1000000000) 1000000000 = some false)) (HM : Aside0 (wc.heap[w.heap.size]? = some (.cells #[.int .i64 T0, .int .i64 T1, .int .i64 T2, .int .i64 T3, .int .i64 L0, .int .i64 L1, .int .i64 L2, .int .i64 L3] 42 (0, 0)))) (HBl : Aside0 (Below w.heap.size w wc)) :
    Code.wp Try.prog range46 (Exit.then Kr (Exit.inBlock 0 (Exit.then K3 (bodyPost Try.prog Try.f46 (fun e w' => e = .returned (.tuple #[.pointer none, .int .i64 2]) ∧ Below w.heap.size w w'))))) ⟨List.toArray (q20 c0 (.slice A1_ xs.length c1_) (.slice A2_ ys.length c2_) (.pointer (some ⟨w.heap.size, 0, none⟩)) c4 c5 u6 u7 u8 c9 c10 c11 c12 c13 c14 c15 c16 c17 c18 c19 (q20 c20 c21 c22 c23 (.int .i64 0) u25 u26 u27 u28 u29 u30 u31 u32 u33 u34 u35 u36 u37 u38 u39 (q20 u40 u41 c42 c43 c44 c45 c46 c47 c48 c49 c50 c51 c52 c53 c54 c55 c56 c57 c58 c59 (q20 c60 c61 c62 c63 c64 c65 c66 c67 c68 c69 c70 c71 c72 c73 c74 c75 c76 c77 c78 c79 (q20 c80 c81 c82 c83 c84 c85 c86 c87 c88 c89 c90 c91 c92 c93 c94 c95 c96 c97 c98 c99 (q20 c100 c101 c102 c103 c104 c105 c106 c107 c108 c109 c110 c111 c112 c113 c114 c115 c116 c117 c118 c119 (c120 :: c121 :: c122 :: c123 :: c124 :: c125 :: []))))))), []⟩ wc := by
  have hu42 := Try.underlying42
  have hu38 := Try.underlying38
  conv => arg 2; whnf
  unfold q20
  obtain ⟨⟨q0, q1, q2, q3, q4, q5, q6, q7⟩, z0, z1, z2, z3, z4, z5, z6, z7⟩ := cells8 HM.out
  go_wp2_with (first | (go_at_call 60; (with_reducible refine (impl_within.calls T0 (-1000000000) 1000000000 true _ HA.out).mono ?_); rintro e w' ⟨rfl, ⟨nd, rfl⟩⟩) | (go_at_call 60; (with_reducible refine (impl_within.calls L0 (-1000000000) 1000000000 false _ HB_.out).mono ?_); rintro e w' ⟨rfl, ⟨nd, rfl⟩⟩))
  go_ret2
  exact ⟨rfl, pw_below_drewN HBl.out _⟩
theorem X8_V1 {k2 : Nat} {xs ys : List Int} {A1_ A2_ : Option Addr} {c1_ c2_ : Nat} {w wc : World} {T0 T1 T2 T3 L0 L1 L2 L3 : Int} {Kr K3 : Act → World → Prop} {c0 c4 c5 c9 c10 c11 c12 c13 c14 c15 c16 c17 c18 c19 c20 c21 c22 c23 c42 c43 c44 c45 c46 c47 c48 c49 c50 c51 c52 c53 c54 c55 c56 c57 c58 c59 c60 c61 c62 c63 c64 c65 c66 c67 c68 c69 c70 c71 c72 c73 c74 c75 c76 c77 c78 c79 c80 c81 c82 c83 c84 c85 c86 c87 c88 c89 c90 c91 c92 c93 c94 c95 c96 c97 c98 c99 c100 c101 c102 c103 c104 c105 c106 c107 c108 c109 c110 c111 c112 c113 c114 c115 c116 c117 c118 c119 c120 c121 c122 c123 c124 c125 : Value} {P : Nat → Prop} {Jr : Nat → Act → World → Prop} {R : Ending → World → Prop} {u6 u7 u8 u25 u26 u27 u28 u29 u30 u31 u32 u33 u34 u35 u36 u37 u38 u39 u40 u41 : Value} (hJr : ∀ (kq : Nat) (a' : Act) (w' : World), (∃ u6 u7 u8 u24 u25 u26 u27 u28 u29 u30 u31 u32 u33 u34 u35 u36 u37 u38 u39 u40 u41 : Value, ((u24 = .int .i64 0 ∧ Aside0 (kq + 0 = 5) ∧ Aside0 (P 0) ∧ Aside0 (w'.heap[w.heap.size]? = some (.cells #[.int .i64 T0, .int .i64 T1, .int .i64 T2, .int .i64 T3, .int .i64 L0, .int .i64 L1, .int .i64 L2, .int .i64 L3] 42 (0, 0))) ∧ Aside0 (Below w.heap.size w w')) ∨ (u24 = .int .i64 1 ∧ Aside0 (kq + 1 = 5) ∧ Aside0 (P 1) ∧ Aside0 (w'.heap[w.heap.size]? = some (.cells #[.int .i64 T0, .int .i64 T1, .int .i64 T2, .int .i64 T3, .int .i64 L0, .int .i64 L1, .int .i64 L2, .int .i64 L3] 42 (0, 0))) ∧ Aside0 (Below w.heap.size w w')) ∨ (u24 = .int .i64 2 ∧ Aside0 (kq + 2 = 5) ∧ Aside0 (P 2) ∧ Aside0 (w'.heap[w.heap.size]? = some (.cells #[.int .i64 T0, .int .i64 T1, .int .i64 T2, .int .i64 T3, .int .i64 L0, .int .i64 L1, .int .i64 L2, .int .i64 L3] 42 (0, 0))) ∧ Aside0 (Below w.heap.size w w')) ∨ (u24 = .int .i64 3 ∧ Aside0 (kq + 3 = 5) ∧ Aside0 (P 3) ∧ Aside0 (w'.heap[w.heap.size]? = some (.cells #[.int .i64 T0, .int .i64 T1, .int .i64 T2, .int .i64 T3, .int .i64 L0, .int .i64 L1, .int .i64 L2, .int .i64 L3] 42 (0, 0))) ∧ Aside0 (Below w.heap.size w w')) ∨ (u24 = .int .i64 4 ∧ Aside0 (kq + 4 = 5) ∧ Aside0 (P 4) ∧ Aside0 (w'.heap[w.heap.size]? = some (.cells #[.int .i64 T0, .int .i64 T1, .int .i64 T2, .int .i64 T3, .int .i64 L0, .int .i64 L1, .int .i64 L2, .int .i64 L3] 42 (0, 0))) ∧ Aside0 (Below w.heap.size w w'))) ∧ a' = ⟨List.toArray (q20 c0 (.slice A1_ xs.length c1_) (.slice A2_ ys.length c2_) (.pointer (some ⟨w.heap.size, 0, none⟩)) c4 c5 u6 u7 u8 c9 c10 c11 c12 c13 c14 c15 c16 c17 c18 c19 (q20 c20 c21 c22 c23 u24 u25 u26 u27 u28 u29 u30 u31 u32 u33 u34 u35 u36 u37 u38 u39 (q20 u40 u41 c42 c43 c44 c45 c46 c47 c48 c49 c50 c51 c52 c53 c54 c55 c56 c57 c58 c59 (q20 c60 c61 c62 c63 c64 c65 c66 c67 c68 c69 c70 c71 c72 c73 c74 c75 c76 c77 c78 c79 (q20 c80 c81 c82 c83 c84 c85 c86 c87 c88 c89 c90 c91 c92 c93 c94 c95 c96 c97 c98 c99 (q20 c100 c101 c102 c103 c104 c105 c106 c107 c108 c109 c110 c111 c112 c113 c114 c115 c116 c117 c118 c119 (c120 :: c121 :: c122 :: c123 :: c124 :: c125 :: []))))))), []⟩) → Jr kq a' w') (hKr : ∀ (a' : Act) (w' : World), Handed Jr (k2 + 1) a' w' → Kr a' w')
    (HA : Aside0 (impl_within.f T1 (-1000000000) 1000000000 = some true)) (HB_ : Aside0 (impl_within.f L1 (-1000000000) 1000000000 = some true)) (HP : Aside0 (P 2)) (HK2 : Aside0 (k2 + 1 + 1 = 5)) (HM : Aside0 (wc.heap[w.heap.size]? = some (.cells #[.int .i64 T0, .int .i64 T1, .int .i64 T2, .int .i64 T3, .int .i64 L0, .int .i64 L1, .int .i64 L2, .int .i64 L3] 42 (0, 0)))) (HBl : Aside0 (Below w.heap.size w wc)) :
    Code.wp Try.prog range46 (Exit.then Kr (Exit.inBlock 0 (Exit.then K3 (bodyPost Try.prog Try.f46 R)))) ⟨List.toArray (q20 c0 (.slice A1_ xs.length c1_) (.slice A2_ ys.length c2_) (.pointer (some ⟨w.heap.size, 0, none⟩)) c4 c5 u6 u7 u8 c9 c10 c11 c12 c13 c14 c15 c16 c17 c18 c19 (q20 c20 c21 c22 c23 (.int .i64 1) u25 u26 u27 u28 u29 u30 u31 u32 u33 u34 u35 u36 u37 u38 u39 (q20 u40 u41 c42 c43 c44 c45 c46 c47 c48 c49 c50 c51 c52 c53 c54 c55 c56 c57 c58 c59 (q20 c60 c61 c62 c63 c64 c65 c66 c67 c68 c69 c70 c71 c72 c73 c74 c75 c76 c77 c78 c79 (q20 c80 c81 c82 c83 c84 c85 c86 c87 c88 c89 c90 c91 c92 c93 c94 c95 c96 c97 c98 c99 (q20 c100 c101 c102 c103 c104 c105 c106 c107 c108 c109 c110 c111 c112 c113 c114 c115 c116 c117 c118 c119 (c120 :: c121 :: c122 :: c123 :: c124 :: c125 :: []))))))), []⟩ wc := by
  have hu42 := Try.underlying42
  have hu38 := Try.underlying38
  conv => arg 2; whnf
  unfold q20
  obtain ⟨⟨q0, q1, q2, q3, q4, q5, q6, q7⟩, z0, z1, z2, z3, z4, z5, z6, z7⟩ := cells8 HM.out
  go_wp2_with (first | (go_at_call 60; (with_reducible refine (impl_within.calls T1 (-1000000000) 1000000000 true _ HA.out).mono ?_); rintro e w' ⟨rfl, ⟨nd, rfl⟩⟩) | (go_at_call 60; (with_reducible refine (impl_within.calls L1 (-1000000000) 1000000000 true _ HB_.out).mono ?_); rintro e w' ⟨rfl, ⟨nd, rfl⟩⟩))
  go_roundg k2
  case measure => omega
  case rel => exact Or.inr (Or.inr (Or.inl ⟨rfl, ⟨by have := HK2.out; omega⟩, HP, ⟨HM.out⟩, ⟨pw_below_drewN HBl.out _⟩⟩))
theorem X8_V1a {xs ys : List Int} {A1_ A2_ : Option Addr} {c1_ c2_ : Nat} {w wc : World} {T0 T1 T2 T3 L0 L1 L2 L3 : Int} {Kr K3 : Act → World → Prop} {c0 c4 c5 c9 c10 c11 c12 c13 c14 c15 c16 c17 c18 c19 c20 c21 c22 c23 c42 c43 c44 c45 c46 c47 c48 c49 c50 c51 c52 c53 c54 c55 c56 c57 c58 c59 c60 c61 c62 c63 c64 c65 c66 c67 c68 c69 c70 c71 c72 c73 c74 c75 c76 c77 c78 c79 c80 c81 c82 c83 c84 c85 c86 c87 c88 c89 c90 c91 c92 c93 c94 c95 c96 c97 c98 c99 c100 c101 c102 c103 c104 c105 c106 c107 c108 c109 c110 c111 c112 c113 c114 c115 c116 c117 c118 c119 c120 c121 c122 c123 c124 c125 : Value} {u6 u7 u8 u25 u26 u27 u28 u29 u30 u31 u32 u33 u34 u35 u36 u37 u38 u39 u40 u41 : Value} (HA : Aside0 (impl_within.f T1 (-1000000000) 1000000000 = some false)) (HM : Aside0 (wc.heap[w.heap.size]? = some (.cells #[.int .i64 T0, .int .i64 T1, .int .i64 T2, .int .i64 T3, .int .i64 L0, .int .i64 L1, .int .i64 L2, .int .i64 L3] 42 (0, 0)))) (HBl : Aside0 (Below w.heap.size w wc)) :
    Code.wp Try.prog range46 (Exit.then Kr (Exit.inBlock 0 (Exit.then K3 (bodyPost Try.prog Try.f46 (fun e w' => e = .returned (.tuple #[.pointer none, .int .i64 2]) ∧ Below w.heap.size w w'))))) ⟨List.toArray (q20 c0 (.slice A1_ xs.length c1_) (.slice A2_ ys.length c2_) (.pointer (some ⟨w.heap.size, 0, none⟩)) c4 c5 u6 u7 u8 c9 c10 c11 c12 c13 c14 c15 c16 c17 c18 c19 (q20 c20 c21 c22 c23 (.int .i64 1) u25 u26 u27 u28 u29 u30 u31 u32 u33 u34 u35 u36 u37 u38 u39 (q20 u40 u41 c42 c43 c44 c45 c46 c47 c48 c49 c50 c51 c52 c53 c54 c55 c56 c57 c58 c59 (q20 c60 c61 c62 c63 c64 c65 c66 c67 c68 c69 c70 c71 c72 c73 c74 c75 c76 c77 c78 c79 (q20 c80 c81 c82 c83 c84 c85 c86 c87 c88 c89 c90 c91 c92 c93 c94 c95 c96 c97 c98 c99 (q20 c100 c101 c102 c103 c104 c105 c106 c107 c108 c109 c110 c111 c112 c113 c114 c115 c116 c117 c118 c119 (c120 :: c121 :: c122 :: c123 :: c124 :: c125 :: []))))))), []⟩ wc := by
  have hu42 := Try.underlying42
  have hu38 := Try.underlying38
  conv => arg 2; whnf
  unfold q20
  obtain ⟨⟨q0, q1, q2, q3, q4, q5, q6, q7⟩, z0, z1, z2, z3, z4, z5, z6, z7⟩ := cells8 HM.out
  go_wp2_with (first | (go_at_call 60; (with_reducible refine (impl_within.calls T1 (-1000000000) 1000000000 false _ HA.out).mono ?_); rintro e w' ⟨rfl, ⟨nd, rfl⟩⟩))
  go_ret2
  exact ⟨rfl, pw_below_drewN HBl.out _⟩
theorem X8_V1b {xs ys : List Int} {A1_ A2_ : Option Addr} {c1_ c2_ : Nat} {w wc : World} {T0 T1 T2 T3 L0 L1 L2 L3 : Int} {Kr K3 : Act → World → Prop} {c0 c4 c5 c9 c10 c11 c12 c13 c14 c15 c16 c17 c18 c19 c20 c21 c22 c23 c42 c43 c44 c45 c46 c47 c48 c49 c50 c51 c52 c53 c54 c55 c56 c57 c58 c59 c60 c61 c62 c63 c64 c65 c66 c67 c68 c69 c70 c71 c72 c73 c74 c75 c76 c77 c78 c79 c80 c81 c82 c83 c84 c85 c86 c87 c88 c89 c90 c91 c92 c93 c94 c95 c96 c97 c98 c99 c100 c101 c102 c103 c104 c105 c106 c107 c108 c109 c110 c111 c112 c113 c114 c115 c116 c117 c118 c119 c120 c121 c122 c123 c124 c125 : Value} {u6 u7 u8 u25 u26 u27 u28 u29 u30 u31 u32 u33 u34 u35 u36 u37 u38 u39 u40 u41 : Value} (HA : Aside0 (impl_within.f T1 (-1000000000) 1000000000 = some true)) (HB_ : Aside0 (impl_within.f L1 (-1000000000) 1000000000 = some false)) (HM : Aside0 (wc.heap[w.heap.size]? = some (.cells #[.int .i64 T0, .int .i64 T1, .int .i64 T2, .int .i64 T3, .int .i64 L0, .int .i64 L1, .int .i64 L2, .int .i64 L3] 42 (0, 0)))) (HBl : Aside0 (Below w.heap.size w wc)) :
    Code.wp Try.prog range46 (Exit.then Kr (Exit.inBlock 0 (Exit.then K3 (bodyPost Try.prog Try.f46 (fun e w' => e = .returned (.tuple #[.pointer none, .int .i64 2]) ∧ Below w.heap.size w w'))))) ⟨List.toArray (q20 c0 (.slice A1_ xs.length c1_) (.slice A2_ ys.length c2_) (.pointer (some ⟨w.heap.size, 0, none⟩)) c4 c5 u6 u7 u8 c9 c10 c11 c12 c13 c14 c15 c16 c17 c18 c19 (q20 c20 c21 c22 c23 (.int .i64 1) u25 u26 u27 u28 u29 u30 u31 u32 u33 u34 u35 u36 u37 u38 u39 (q20 u40 u41 c42 c43 c44 c45 c46 c47 c48 c49 c50 c51 c52 c53 c54 c55 c56 c57 c58 c59 (q20 c60 c61 c62 c63 c64 c65 c66 c67 c68 c69 c70 c71 c72 c73 c74 c75 c76 c77 c78 c79 (q20 c80 c81 c82 c83 c84 c85 c86 c87 c88 c89 c90 c91 c92 c93 c94 c95 c96 c97 c98 c99 (q20 c100 c101 c102 c103 c104 c105 c106 c107 c108 c109 c110 c111 c112 c113 c114 c115 c116 c117 c118 c119 (c120 :: c121 :: c122 :: c123 :: c124 :: c125 :: []))))))), []⟩ wc := by
  have hu42 := Try.underlying42
  have hu38 := Try.underlying38
  conv => arg 2; whnf
  unfold q20
  obtain ⟨⟨q0, q1, q2, q3, q4, q5, q6, q7⟩, z0, z1, z2, z3, z4, z5, z6, z7⟩ := cells8 HM.out
  go_wp2_with (first | (go_at_call 60; (with_reducible refine (impl_within.calls T1 (-1000000000) 1000000000 true _ HA.out).mono ?_); rintro e w' ⟨rfl, ⟨nd, rfl⟩⟩) | (go_at_call 60; (with_reducible refine (impl_within.calls L1 (-1000000000) 1000000000 false _ HB_.out).mono ?_); rintro e w' ⟨rfl, ⟨nd, rfl⟩⟩))
  go_ret2
  exact ⟨rfl, pw_below_drewN HBl.out _⟩
theorem X8_V2 {k2 : Nat} {xs ys : List Int} {A1_ A2_ : Option Addr} {c1_ c2_ : Nat} {w wc : World} {T0 T1 T2 T3 L0 L1 L2 L3 : Int} {Kr K3 : Act → World → Prop} {c0 c4 c5 c9 c10 c11 c12 c13 c14 c15 c16 c17 c18 c19 c20 c21 c22 c23 c42 c43 c44 c45 c46 c47 c48 c49 c50 c51 c52 c53 c54 c55 c56 c57 c58 c59 c60 c61 c62 c63 c64 c65 c66 c67 c68 c69 c70 c71 c72 c73 c74 c75 c76 c77 c78 c79 c80 c81 c82 c83 c84 c85 c86 c87 c88 c89 c90 c91 c92 c93 c94 c95 c96 c97 c98 c99 c100 c101 c102 c103 c104 c105 c106 c107 c108 c109 c110 c111 c112 c113 c114 c115 c116 c117 c118 c119 c120 c121 c122 c123 c124 c125 : Value} {P : Nat → Prop} {Jr : Nat → Act → World → Prop} {R : Ending → World → Prop} {u6 u7 u8 u25 u26 u27 u28 u29 u30 u31 u32 u33 u34 u35 u36 u37 u38 u39 u40 u41 : Value} (hJr : ∀ (kq : Nat) (a' : Act) (w' : World), (∃ u6 u7 u8 u24 u25 u26 u27 u28 u29 u30 u31 u32 u33 u34 u35 u36 u37 u38 u39 u40 u41 : Value, ((u24 = .int .i64 0 ∧ Aside0 (kq + 0 = 5) ∧ Aside0 (P 0) ∧ Aside0 (w'.heap[w.heap.size]? = some (.cells #[.int .i64 T0, .int .i64 T1, .int .i64 T2, .int .i64 T3, .int .i64 L0, .int .i64 L1, .int .i64 L2, .int .i64 L3] 42 (0, 0))) ∧ Aside0 (Below w.heap.size w w')) ∨ (u24 = .int .i64 1 ∧ Aside0 (kq + 1 = 5) ∧ Aside0 (P 1) ∧ Aside0 (w'.heap[w.heap.size]? = some (.cells #[.int .i64 T0, .int .i64 T1, .int .i64 T2, .int .i64 T3, .int .i64 L0, .int .i64 L1, .int .i64 L2, .int .i64 L3] 42 (0, 0))) ∧ Aside0 (Below w.heap.size w w')) ∨ (u24 = .int .i64 2 ∧ Aside0 (kq + 2 = 5) ∧ Aside0 (P 2) ∧ Aside0 (w'.heap[w.heap.size]? = some (.cells #[.int .i64 T0, .int .i64 T1, .int .i64 T2, .int .i64 T3, .int .i64 L0, .int .i64 L1, .int .i64 L2, .int .i64 L3] 42 (0, 0))) ∧ Aside0 (Below w.heap.size w w')) ∨ (u24 = .int .i64 3 ∧ Aside0 (kq + 3 = 5) ∧ Aside0 (P 3) ∧ Aside0 (w'.heap[w.heap.size]? = some (.cells #[.int .i64 T0, .int .i64 T1, .int .i64 T2, .int .i64 T3, .int .i64 L0, .int .i64 L1, .int .i64 L2, .int .i64 L3] 42 (0, 0))) ∧ Aside0 (Below w.heap.size w w')) ∨ (u24 = .int .i64 4 ∧ Aside0 (kq + 4 = 5) ∧ Aside0 (P 4) ∧ Aside0 (w'.heap[w.heap.size]? = some (.cells #[.int .i64 T0, .int .i64 T1, .int .i64 T2, .int .i64 T3, .int .i64 L0, .int .i64 L1, .int .i64 L2, .int .i64 L3] 42 (0, 0))) ∧ Aside0 (Below w.heap.size w w'))) ∧ a' = ⟨List.toArray (q20 c0 (.slice A1_ xs.length c1_) (.slice A2_ ys.length c2_) (.pointer (some ⟨w.heap.size, 0, none⟩)) c4 c5 u6 u7 u8 c9 c10 c11 c12 c13 c14 c15 c16 c17 c18 c19 (q20 c20 c21 c22 c23 u24 u25 u26 u27 u28 u29 u30 u31 u32 u33 u34 u35 u36 u37 u38 u39 (q20 u40 u41 c42 c43 c44 c45 c46 c47 c48 c49 c50 c51 c52 c53 c54 c55 c56 c57 c58 c59 (q20 c60 c61 c62 c63 c64 c65 c66 c67 c68 c69 c70 c71 c72 c73 c74 c75 c76 c77 c78 c79 (q20 c80 c81 c82 c83 c84 c85 c86 c87 c88 c89 c90 c91 c92 c93 c94 c95 c96 c97 c98 c99 (q20 c100 c101 c102 c103 c104 c105 c106 c107 c108 c109 c110 c111 c112 c113 c114 c115 c116 c117 c118 c119 (c120 :: c121 :: c122 :: c123 :: c124 :: c125 :: []))))))), []⟩) → Jr kq a' w') (hKr : ∀ (a' : Act) (w' : World), Handed Jr (k2 + 1) a' w' → Kr a' w')
    (HA : Aside0 (impl_within.f T2 (-1000000000) 1000000000 = some true)) (HB_ : Aside0 (impl_within.f L2 (-1000000000) 1000000000 = some true)) (HP : Aside0 (P 3)) (HK2 : Aside0 (k2 + 1 + 2 = 5)) (HM : Aside0 (wc.heap[w.heap.size]? = some (.cells #[.int .i64 T0, .int .i64 T1, .int .i64 T2, .int .i64 T3, .int .i64 L0, .int .i64 L1, .int .i64 L2, .int .i64 L3] 42 (0, 0)))) (HBl : Aside0 (Below w.heap.size w wc)) :
    Code.wp Try.prog range46 (Exit.then Kr (Exit.inBlock 0 (Exit.then K3 (bodyPost Try.prog Try.f46 R)))) ⟨List.toArray (q20 c0 (.slice A1_ xs.length c1_) (.slice A2_ ys.length c2_) (.pointer (some ⟨w.heap.size, 0, none⟩)) c4 c5 u6 u7 u8 c9 c10 c11 c12 c13 c14 c15 c16 c17 c18 c19 (q20 c20 c21 c22 c23 (.int .i64 2) u25 u26 u27 u28 u29 u30 u31 u32 u33 u34 u35 u36 u37 u38 u39 (q20 u40 u41 c42 c43 c44 c45 c46 c47 c48 c49 c50 c51 c52 c53 c54 c55 c56 c57 c58 c59 (q20 c60 c61 c62 c63 c64 c65 c66 c67 c68 c69 c70 c71 c72 c73 c74 c75 c76 c77 c78 c79 (q20 c80 c81 c82 c83 c84 c85 c86 c87 c88 c89 c90 c91 c92 c93 c94 c95 c96 c97 c98 c99 (q20 c100 c101 c102 c103 c104 c105 c106 c107 c108 c109 c110 c111 c112 c113 c114 c115 c116 c117 c118 c119 (c120 :: c121 :: c122 :: c123 :: c124 :: c125 :: []))))))), []⟩ wc := by
  have hu42 := Try.underlying42
  have hu38 := Try.underlying38
  conv => arg 2; whnf
  unfold q20
  obtain ⟨⟨q0, q1, q2, q3, q4, q5, q6, q7⟩, z0, z1, z2, z3, z4, z5, z6, z7⟩ := cells8 HM.out
  go_wp2_with (first | (go_at_call 60; (with_reducible refine (impl_within.calls T2 (-1000000000) 1000000000 true _ HA.out).mono ?_); rintro e w' ⟨rfl, ⟨nd, rfl⟩⟩) | (go_at_call 60; (with_reducible refine (impl_within.calls L2 (-1000000000) 1000000000 true _ HB_.out).mono ?_); rintro e w' ⟨rfl, ⟨nd, rfl⟩⟩))
  go_roundg k2
  case measure => omega
  case rel => exact Or.inr (Or.inr (Or.inr (Or.inl ⟨rfl, ⟨by have := HK2.out; omega⟩, HP, ⟨HM.out⟩, ⟨pw_below_drewN HBl.out _⟩⟩)))
theorem X8_V2a {xs ys : List Int} {A1_ A2_ : Option Addr} {c1_ c2_ : Nat} {w wc : World} {T0 T1 T2 T3 L0 L1 L2 L3 : Int} {Kr K3 : Act → World → Prop} {c0 c4 c5 c9 c10 c11 c12 c13 c14 c15 c16 c17 c18 c19 c20 c21 c22 c23 c42 c43 c44 c45 c46 c47 c48 c49 c50 c51 c52 c53 c54 c55 c56 c57 c58 c59 c60 c61 c62 c63 c64 c65 c66 c67 c68 c69 c70 c71 c72 c73 c74 c75 c76 c77 c78 c79 c80 c81 c82 c83 c84 c85 c86 c87 c88 c89 c90 c91 c92 c93 c94 c95 c96 c97 c98 c99 c100 c101 c102 c103 c104 c105 c106 c107 c108 c109 c110 c111 c112 c113 c114 c115 c116 c117 c118 c119 c120 c121 c122 c123 c124 c125 : Value} {u6 u7 u8 u25 u26 u27 u28 u29 u30 u31 u32 u33 u34 u35 u36 u37 u38 u39 u40 u41 : Value} (HA : Aside0 (impl_within.f T2 (-1000000000) 1000000000 = some false)) (HM : Aside0 (wc.heap[w.heap.size]? = some (.cells #[.int .i64 T0, .int .i64 T1, .int .i64 T2, .int .i64 T3, .int .i64 L0, .int .i64 L1, .int .i64 L2, .int .i64 L3] 42 (0, 0)))) (HBl : Aside0 (Below w.heap.size w wc)) :
    Code.wp Try.prog range46 (Exit.then Kr (Exit.inBlock 0 (Exit.then K3 (bodyPost Try.prog Try.f46 (fun e w' => e = .returned (.tuple #[.pointer none, .int .i64 2]) ∧ Below w.heap.size w w'))))) ⟨List.toArray (q20 c0 (.slice A1_ xs.length c1_) (.slice A2_ ys.length c2_) (.pointer (some ⟨w.heap.size, 0, none⟩)) c4 c5 u6 u7 u8 c9 c10 c11 c12 c13 c14 c15 c16 c17 c18 c19 (q20 c20 c21 c22 c23 (.int .i64 2) u25 u26 u27 u28 u29 u30 u31 u32 u33 u34 u35 u36 u37 u38 u39 (q20 u40 u41 c42 c43 c44 c45 c46 c47 c48 c49 c50 c51 c52 c53 c54 c55 c56 c57 c58 c59 (q20 c60 c61 c62 c63 c64 c65 c66 c67 c68 c69 c70 c71 c72 c73 c74 c75 c76 c77 c78 c79 (q20 c80 c81 c82 c83 c84 c85 c86 c87 c88 c89 c90 c91 c92 c93 c94 c95 c96 c97 c98 c99 (q20 c100 c101 c102 c103 c104 c105 c106 c107 c108 c109 c110 c111 c112 c113 c114 c115 c116 c117 c118 c119 (c120 :: c121 :: c122 :: c123 :: c124 :: c125 :: []))))))), []⟩ wc := by
  have hu42 := Try.underlying42
  have hu38 := Try.underlying38
  conv => arg 2; whnf
  unfold q20
  obtain ⟨⟨q0, q1, q2, q3, q4, q5, q6, q7⟩, z0, z1, z2, z3, z4, z5, z6, z7⟩ := cells8 HM.out
  go_wp2_with (first | (go_at_call 60; (with_reducible refine (impl_within.calls T2 (-1000000000) 1000000000 false _ HA.out).mono ?_); rintro e w' ⟨rfl, ⟨nd, rfl⟩⟩))
  go_ret2
  exact ⟨rfl, pw_below_drewN HBl.out _⟩
theorem X8_V2b {xs ys : List Int} {A1_ A2_ : Option Addr} {c1_ c2_ : Nat} {w wc : World} {T0 T1 T2 T3 L0 L1 L2 L3 : Int} {Kr K3 : Act → World → Prop} {c0 c4 c5 c9 c10 c11 c12 c13 c14 c15 c16 c17 c18 c19 c20 c21 c22 c23 c42 c43 c44 c45 c46 c47 c48 c49 c50 c51 c52 c53 c54 c55 c56 c57 c58 c59 c60 c61 c62 c63 c64 c65 c66 c67 c68 c69 c70 c71 c72 c73 c74 c75 c76 c77 c78 c79 c80 c81 c82 c83 c84 c85 c86 c87 c88 c89 c90 c91 c92 c93 c94 c95 c96 c97 c98 c99 c100 c101 c102 c103 c104 c105 c106 c107 c108 c109 c110 c111 c112 c113 c114 c115 c116 c117 c118 c119 c120 c121 c122 c123 c124 c125 : Value} {u6 u7 u8 u25 u26 u27 u28 u29 u30 u31 u32 u33 u34 u35 u36 u37 u38 u39 u40 u41 : Value} (HA : Aside0 (impl_within.f T2 (-1000000000) 1000000000 = some true)) (HB_ : Aside0 (impl_within.f L2 (-1000000000) 1000000000 = some false)) (HM : Aside0 (wc.heap[w.heap.size]? = some (.cells #[.int .i64 T0, .int .i64 T1, .int .i64 T2, .int .i64 T3, .int .i64 L0, .int .i64 L1, .int .i64 L2, .int .i64 L3] 42 (0, 0)))) (HBl : Aside0 (Below w.heap.size w wc)) :
    Code.wp Try.prog range46 (Exit.then Kr (Exit.inBlock 0 (Exit.then K3 (bodyPost Try.prog Try.f46 (fun e w' => e = .returned (.tuple #[.pointer none, .int .i64 2]) ∧ Below w.heap.size w w'))))) ⟨List.toArray (q20 c0 (.slice A1_ xs.length c1_) (.slice A2_ ys.length c2_) (.pointer (some ⟨w.heap.size, 0, none⟩)) c4 c5 u6 u7 u8 c9 c10 c11 c12 c13 c14 c15 c16 c17 c18 c19 (q20 c20 c21 c22 c23 (.int .i64 2) u25 u26 u27 u28 u29 u30 u31 u32 u33 u34 u35 u36 u37 u38 u39 (q20 u40 u41 c42 c43 c44 c45 c46 c47 c48 c49 c50 c51 c52 c53 c54 c55 c56 c57 c58 c59 (q20 c60 c61 c62 c63 c64 c65 c66 c67 c68 c69 c70 c71 c72 c73 c74 c75 c76 c77 c78 c79 (q20 c80 c81 c82 c83 c84 c85 c86 c87 c88 c89 c90 c91 c92 c93 c94 c95 c96 c97 c98 c99 (q20 c100 c101 c102 c103 c104 c105 c106 c107 c108 c109 c110 c111 c112 c113 c114 c115 c116 c117 c118 c119 (c120 :: c121 :: c122 :: c123 :: c124 :: c125 :: []))))))), []⟩ wc := by
  have hu42 := Try.underlying42
  have hu38 := Try.underlying38
  conv => arg 2; whnf
  unfold q20
  obtain ⟨⟨q0, q1, q2, q3, q4, q5, q6, q7⟩, z0, z1, z2, z3, z4, z5, z6, z7⟩ := cells8 HM.out
  go_wp2_with (first | (go_at_call 60; (with_reducible refine (impl_within.calls T2 (-1000000000) 1000000000 true _ HA.out).mono ?_); rintro e w' ⟨rfl, ⟨nd, rfl⟩⟩) | (go_at_call 60; (with_reducible refine (impl_within.calls L2 (-1000000000) 1000000000 false _ HB_.out).mono ?_); rintro e w' ⟨rfl, ⟨nd, rfl⟩⟩))
  go_ret2
  exact ⟨rfl, pw_below_drewN HBl.out _⟩
theorem X8_V3 {k2 : Nat} {xs ys : List Int} {A1_ A2_ : Option Addr} {c1_ c2_ : Nat} {w wc : World} {T0 T1 T2 T3 L0 L1 L2 L3 : Int} {Kr K3 : Act → World → Prop} {c0 c4 c5 c9 c10 c11 c12 c13 c14 c15 c16 c17 c18 c19 c20 c21 c22 c23 c42 c43 c44 c45 c46 c47 c48 c49 c50 c51 c52 c53 c54 c55 c56 c57 c58 c59 c60 c61 c62 c63 c64 c65 c66 c67 c68 c69 c70 c71 c72 c73 c74 c75 c76 c77 c78 c79 c80 c81 c82 c83 c84 c85 c86 c87 c88 c89 c90 c91 c92 c93 c94 c95 c96 c97 c98 c99 c100 c101 c102 c103 c104 c105 c106 c107 c108 c109 c110 c111 c112 c113 c114 c115 c116 c117 c118 c119 c120 c121 c122 c123 c124 c125 : Value} {P : Nat → Prop} {Jr : Nat → Act → World → Prop} {R : Ending → World → Prop} {u6 u7 u8 u25 u26 u27 u28 u29 u30 u31 u32 u33 u34 u35 u36 u37 u38 u39 u40 u41 : Value} (hJr : ∀ (kq : Nat) (a' : Act) (w' : World), (∃ u6 u7 u8 u24 u25 u26 u27 u28 u29 u30 u31 u32 u33 u34 u35 u36 u37 u38 u39 u40 u41 : Value, ((u24 = .int .i64 0 ∧ Aside0 (kq + 0 = 5) ∧ Aside0 (P 0) ∧ Aside0 (w'.heap[w.heap.size]? = some (.cells #[.int .i64 T0, .int .i64 T1, .int .i64 T2, .int .i64 T3, .int .i64 L0, .int .i64 L1, .int .i64 L2, .int .i64 L3] 42 (0, 0))) ∧ Aside0 (Below w.heap.size w w')) ∨ (u24 = .int .i64 1 ∧ Aside0 (kq + 1 = 5) ∧ Aside0 (P 1) ∧ Aside0 (w'.heap[w.heap.size]? = some (.cells #[.int .i64 T0, .int .i64 T1, .int .i64 T2, .int .i64 T3, .int .i64 L0, .int .i64 L1, .int .i64 L2, .int .i64 L3] 42 (0, 0))) ∧ Aside0 (Below w.heap.size w w')) ∨ (u24 = .int .i64 2 ∧ Aside0 (kq + 2 = 5) ∧ Aside0 (P 2) ∧ Aside0 (w'.heap[w.heap.size]? = some (.cells #[.int .i64 T0, .int .i64 T1, .int .i64 T2, .int .i64 T3, .int .i64 L0, .int .i64 L1, .int .i64 L2, .int .i64 L3] 42 (0, 0))) ∧ Aside0 (Below w.heap.size w w')) ∨ (u24 = .int .i64 3 ∧ Aside0 (kq + 3 = 5) ∧ Aside0 (P 3) ∧ Aside0 (w'.heap[w.heap.size]? = some (.cells #[.int .i64 T0, .int .i64 T1, .int .i64 T2, .int .i64 T3, .int .i64 L0, .int .i64 L1, .int .i64 L2, .int .i64 L3] 42 (0, 0))) ∧ Aside0 (Below w.heap.size w w')) ∨ (u24 = .int .i64 4 ∧ Aside0 (kq + 4 = 5) ∧ Aside0 (P 4) ∧ Aside0 (w'.heap[w.heap.size]? = some (.cells #[.int .i64 T0, .int .i64 T1, .int .i64 T2, .int .i64 T3, .int .i64 L0, .int .i64 L1, .int .i64 L2, .int .i64 L3] 42 (0, 0))) ∧ Aside0 (Below w.heap.size w w'))) ∧ a' = ⟨List.toArray (q20 c0 (.slice A1_ xs.length c1_) (.slice A2_ ys.length c2_) (.pointer (some ⟨w.heap.size, 0, none⟩)) c4 c5 u6 u7 u8 c9 c10 c11 c12 c13 c14 c15 c16 c17 c18 c19 (q20 c20 c21 c22 c23 u24 u25 u26 u27 u28 u29 u30 u31 u32 u33 u34 u35 u36 u37 u38 u39 (q20 u40 u41 c42 c43 c44 c45 c46 c47 c48 c49 c50 c51 c52 c53 c54 c55 c56 c57 c58 c59 (q20 c60 c61 c62 c63 c64 c65 c66 c67 c68 c69 c70 c71 c72 c73 c74 c75 c76 c77 c78 c79 (q20 c80 c81 c82 c83 c84 c85 c86 c87 c88 c89 c90 c91 c92 c93 c94 c95 c96 c97 c98 c99 (q20 c100 c101 c102 c103 c104 c105 c106 c107 c108 c109 c110 c111 c112 c113 c114 c115 c116 c117 c118 c119 (c120 :: c121 :: c122 :: c123 :: c124 :: c125 :: []))))))), []⟩) → Jr kq a' w') (hKr : ∀ (a' : Act) (w' : World), Handed Jr (k2 + 1) a' w' → Kr a' w')
    (HA : Aside0 (impl_within.f T3 (-1000000000) 1000000000 = some true)) (HB_ : Aside0 (impl_within.f L3 (-1000000000) 1000000000 = some true)) (HP : Aside0 (P 4)) (HK2 : Aside0 (k2 + 1 + 3 = 5)) (HM : Aside0 (wc.heap[w.heap.size]? = some (.cells #[.int .i64 T0, .int .i64 T1, .int .i64 T2, .int .i64 T3, .int .i64 L0, .int .i64 L1, .int .i64 L2, .int .i64 L3] 42 (0, 0)))) (HBl : Aside0 (Below w.heap.size w wc)) :
    Code.wp Try.prog range46 (Exit.then Kr (Exit.inBlock 0 (Exit.then K3 (bodyPost Try.prog Try.f46 R)))) ⟨List.toArray (q20 c0 (.slice A1_ xs.length c1_) (.slice A2_ ys.length c2_) (.pointer (some ⟨w.heap.size, 0, none⟩)) c4 c5 u6 u7 u8 c9 c10 c11 c12 c13 c14 c15 c16 c17 c18 c19 (q20 c20 c21 c22 c23 (.int .i64 3) u25 u26 u27 u28 u29 u30 u31 u32 u33 u34 u35 u36 u37 u38 u39 (q20 u40 u41 c42 c43 c44 c45 c46 c47 c48 c49 c50 c51 c52 c53 c54 c55 c56 c57 c58 c59 (q20 c60 c61 c62 c63 c64 c65 c66 c67 c68 c69 c70 c71 c72 c73 c74 c75 c76 c77 c78 c79 (q20 c80 c81 c82 c83 c84 c85 c86 c87 c88 c89 c90 c91 c92 c93 c94 c95 c96 c97 c98 c99 (q20 c100 c101 c102 c103 c104 c105 c106 c107 c108 c109 c110 c111 c112 c113 c114 c115 c116 c117 c118 c119 (c120 :: c121 :: c122 :: c123 :: c124 :: c125 :: []))))))), []⟩ wc := by
  have hu42 := Try.underlying42
  have hu38 := Try.underlying38
  conv => arg 2; whnf
  unfold q20
  obtain ⟨⟨q0, q1, q2, q3, q4, q5, q6, q7⟩, z0, z1, z2, z3, z4, z5, z6, z7⟩ := cells8 HM.out
  go_wp2_with (first | (go_at_call 60; (with_reducible refine (impl_within.calls T3 (-1000000000) 1000000000 true _ HA.out).mono ?_); rintro e w' ⟨rfl, ⟨nd, rfl⟩⟩) | (go_at_call 60; (with_reducible refine (impl_within.calls L3 (-1000000000) 1000000000 true _ HB_.out).mono ?_); rintro e w' ⟨rfl, ⟨nd, rfl⟩⟩))
  go_roundg k2
  case measure => omega
  case rel => exact Or.inr (Or.inr (Or.inr (Or.inr (⟨rfl, ⟨by have := HK2.out; omega⟩, HP, ⟨HM.out⟩, ⟨pw_below_drewN HBl.out _⟩⟩))))
theorem X8_V3a {xs ys : List Int} {A1_ A2_ : Option Addr} {c1_ c2_ : Nat} {w wc : World} {T0 T1 T2 T3 L0 L1 L2 L3 : Int} {Kr K3 : Act → World → Prop} {c0 c4 c5 c9 c10 c11 c12 c13 c14 c15 c16 c17 c18 c19 c20 c21 c22 c23 c42 c43 c44 c45 c46 c47 c48 c49 c50 c51 c52 c53 c54 c55 c56 c57 c58 c59 c60 c61 c62 c63 c64 c65 c66 c67 c68 c69 c70 c71 c72 c73 c74 c75 c76 c77 c78 c79 c80 c81 c82 c83 c84 c85 c86 c87 c88 c89 c90 c91 c92 c93 c94 c95 c96 c97 c98 c99 c100 c101 c102 c103 c104 c105 c106 c107 c108 c109 c110 c111 c112 c113 c114 c115 c116 c117 c118 c119 c120 c121 c122 c123 c124 c125 : Value} {u6 u7 u8 u25 u26 u27 u28 u29 u30 u31 u32 u33 u34 u35 u36 u37 u38 u39 u40 u41 : Value} (HA : Aside0 (impl_within.f T3 (-1000000000) 1000000000 = some false)) (HM : Aside0 (wc.heap[w.heap.size]? = some (.cells #[.int .i64 T0, .int .i64 T1, .int .i64 T2, .int .i64 T3, .int .i64 L0, .int .i64 L1, .int .i64 L2, .int .i64 L3] 42 (0, 0)))) (HBl : Aside0 (Below w.heap.size w wc)) :
    Code.wp Try.prog range46 (Exit.then Kr (Exit.inBlock 0 (Exit.then K3 (bodyPost Try.prog Try.f46 (fun e w' => e = .returned (.tuple #[.pointer none, .int .i64 2]) ∧ Below w.heap.size w w'))))) ⟨List.toArray (q20 c0 (.slice A1_ xs.length c1_) (.slice A2_ ys.length c2_) (.pointer (some ⟨w.heap.size, 0, none⟩)) c4 c5 u6 u7 u8 c9 c10 c11 c12 c13 c14 c15 c16 c17 c18 c19 (q20 c20 c21 c22 c23 (.int .i64 3) u25 u26 u27 u28 u29 u30 u31 u32 u33 u34 u35 u36 u37 u38 u39 (q20 u40 u41 c42 c43 c44 c45 c46 c47 c48 c49 c50 c51 c52 c53 c54 c55 c56 c57 c58 c59 (q20 c60 c61 c62 c63 c64 c65 c66 c67 c68 c69 c70 c71 c72 c73 c74 c75 c76 c77 c78 c79 (q20 c80 c81 c82 c83 c84 c85 c86 c87 c88 c89 c90 c91 c92 c93 c94 c95 c96 c97 c98 c99 (q20 c100 c101 c102 c103 c104 c105 c106 c107 c108 c109 c110 c111 c112 c113 c114 c115 c116 c117 c118 c119 (c120 :: c121 :: c122 :: c123 :: c124 :: c125 :: []))))))), []⟩ wc := by
  have hu42 := Try.underlying42
  have hu38 := Try.underlying38
  conv => arg 2; whnf
  unfold q20
  obtain ⟨⟨q0, q1, q2, q3, q4, q5, q6, q7⟩, z0, z1, z2, z3, z4, z5, z6, z7⟩ := cells8 HM.out
  go_wp2_with (first | (go_at_call 60; (with_reducible refine (impl_within.calls T3 (-1000000000) 1000000000 false _ HA.out).mono ?_); rintro e w' ⟨rfl, ⟨nd, rfl⟩⟩))
  go_ret2
  exact ⟨rfl, pw_below_drewN HBl.out _⟩
theorem X8_V3b {xs ys : List Int} {A1_ A2_ : Option Addr} {c1_ c2_ : Nat} {w wc : World} {T0 T1 T2 T3 L0 L1 L2 L3 : Int} {Kr K3 : Act → World → Prop} {c0 c4 c5 c9 c10 c11 c12 c13 c14 c15 c16 c17 c18 c19 c20 c21 c22 c23 c42 c43 c44 c45 c46 c47 c48 c49 c50 c51 c52 c53 c54 c55 c56 c57 c58 c59 c60 c61 c62 c63 c64 c65 c66 c67 c68 c69 c70 c71 c72 c73 c74 c75 c76 c77 c78 c79 c80 c81 c82 c83 c84 c85 c86 c87 c88 c89 c90 c91 c92 c93 c94 c95 c96 c97 c98 c99 c100 c101 c102 c103 c104 c105 c106 c107 c108 c109 c110 c111 c112 c113 c114 c115 c116 c117 c118 c119 c120 c121 c122 c123 c124 c125 : Value} {u6 u7 u8 u25 u26 u27 u28 u29 u30 u31 u32 u33 u34 u35 u36 u37 u38 u39 u40 u41 : Value} (HA : Aside0 (impl_within.f T3 (-1000000000) 1000000000 = some true)) (HB_ : Aside0 (impl_within.f L3 (-1000000000) 1000000000 = some false)) (HM : Aside0 (wc.heap[w.heap.size]? = some (.cells #[.int .i64 T0, .int .i64 T1, .int .i64 T2, .int .i64 T3, .int .i64 L0, .int .i64 L1, .int .i64 L2, .int .i64 L3] 42 (0, 0)))) (HBl : Aside0 (Below w.heap.size w wc)) :
    Code.wp Try.prog range46 (Exit.then Kr (Exit.inBlock 0 (Exit.then K3 (bodyPost Try.prog Try.f46 (fun e w' => e = .returned (.tuple #[.pointer none, .int .i64 2]) ∧ Below w.heap.size w w'))))) ⟨List.toArray (q20 c0 (.slice A1_ xs.length c1_) (.slice A2_ ys.length c2_) (.pointer (some ⟨w.heap.size, 0, none⟩)) c4 c5 u6 u7 u8 c9 c10 c11 c12 c13 c14 c15 c16 c17 c18 c19 (q20 c20 c21 c22 c23 (.int .i64 3) u25 u26 u27 u28 u29 u30 u31 u32 u33 u34 u35 u36 u37 u38 u39 (q20 u40 u41 c42 c43 c44 c45 c46 c47 c48 c49 c50 c51 c52 c53 c54 c55 c56 c57 c58 c59 (q20 c60 c61 c62 c63 c64 c65 c66 c67 c68 c69 c70 c71 c72 c73 c74 c75 c76 c77 c78 c79 (q20 c80 c81 c82 c83 c84 c85 c86 c87 c88 c89 c90 c91 c92 c93 c94 c95 c96 c97 c98 c99 (q20 c100 c101 c102 c103 c104 c105 c106 c107 c108 c109 c110 c111 c112 c113 c114 c115 c116 c117 c118 c119 (c120 :: c121 :: c122 :: c123 :: c124 :: c125 :: []))))))), []⟩ wc := by
  have hu42 := Try.underlying42
  have hu38 := Try.underlying38
  conv => arg 2; whnf
  unfold q20
  obtain ⟨⟨q0, q1, q2, q3, q4, q5, q6, q7⟩, z0, z1, z2, z3, z4, z5, z6, z7⟩ := cells8 HM.out
  go_wp2_with (first | (go_at_call 60; (with_reducible refine (impl_within.calls T3 (-1000000000) 1000000000 true _ HA.out).mono ?_); rintro e w' ⟨rfl, ⟨nd, rfl⟩⟩) | (go_at_call 60; (with_reducible refine (impl_within.calls L3 (-1000000000) 1000000000 false _ HB_.out).mono ?_); rintro e w' ⟨rfl, ⟨nd, rfl⟩⟩))
  go_ret2
  exact ⟨rfl, pw_below_drewN HBl.out _⟩
theorem X8_Q1 {xs ys : List Int} {A1_ A2_ : Option Addr} {c1_ c2_ : Nat} {w wc : World} {gm gw gx gy : Nat} {T0 T1 T2 T3 L0 L1 L2 L3 i j : Int} {ms : List S52} {gs : List Int} {R : Ending → World → Prop} {K2 K3 : Act → World → Prop} {c0 c4 c5 c8 c16 c17 c18 c19 c20 c21 c22 c23 c24 c25 c26 c27 c28 c29 c30 c31 c32 c33 c34 c35 c36 c37 c38 c39 c40 c41 c42 c43 c44 c45 c46 c47 c48 c49 c123 c124 c125 : Value} {lf : Bool} {q : Int} {yes : Bool} {u6 u7 u12 u13 u14 u15 u50 u51 u52 u53 u54 u55 u56 u57 u58 u59 u60 u61 u62 u63 u64 u65 u66 u67 u68 u69 u70 u71 u72 u73 u74 u75 u76 u77 u78 u79 u80 u81 u82 u83 u84 u85 u86 u87 u88 u89 u90 u91 u92 u93 u94 u95 u96 u97 u98 u99 u100 u101 u102 u103 u104 u105 u106 u107 u108 u109 u110 u111 u112 u113 u114 u115 u116 u117 u118 u119 u120 u121 u122 : Value} (HR : Aside0 ((Kd.int .i64).C w A1_ xs.length xs)) (HR2 : Aside0 ((Kd.int .i64).C w A2_ ys.length ys)) (HC : Aside0 (xs.length ≤ c1_)) (HC2 : Aside0 (ys.length ≤ c2_)) (CB : Aside0 (((ms.length < 1000000 ∧ gs.length < 1000000) ∧ 0 ≤ i ∧ i < 1000000 ∧ 0 ≤ j ∧ j < 1000000) ∧ xs.length < 1000000 ∧ ys.length < 1000000)) (NE : Aside0 (gx ≠ gm ∧ gy ≠ gm ∧ gx ≠ gy)) (X0 : Aside0 (HB8 71 w.heap.size w wc gw ms gs false [(gm, #[.int .i64 T0, .int .i64 T1, .int .i64 T2, .int .i64 T3, .int .i64 L0, .int .i64 L1, .int .i64 L2, .int .i64 L3], 42), (gx, #[.int .i8 2, .slice A1_ xs.length c1_, .int .i64 i], 101), (gy, #[.int .i8 3, .slice A2_ ys.length c2_, .int .i64 j], 101)])) {k : Nat} (HG : Aside0 (impl_gives.f k [T0, wrap64 (T0 + T1), wrap64 (T0 + T2), wrap64 (wrap64 (wrap64 (T0 + T1) + T2) + T3)] [L0, wrap64 (L0 + L1), wrap64 (L0 + L2), wrap64 (wrap64 (wrap64 (L0 + L1) + L2) + L3)] = some (q, yes)))
    (hnext : Aside0 (∀ (u6 u7 u14 u15 u50 u51 u52 u53 u54 u55 u56 u57 u58 u59 u60 u61 u62 u63 u64 u65 u66 u67 u68 u69 u70 u71 u72 u73 u74 u75 u76 u77 u78 u79 u80 u81 u82 u83 u84 u85 u86 u87 u88 u89 u90 u91 u92 u93 u94 u95 u96 u97 u98 u99 u100 u101 u102 u103 u104 u105 u106 u107 u108 u109 u110 u111 u112 u113 u114 u115 u116 u117 u118 u119 u120 u121 u122 : Value) (wc : World), Aside0 (HB8 71 w.heap.size w wc gw ms gs false [(gm, #[.int .i64 T0, .int .i64 T1, .int .i64 T2, .int .i64 T3, .int .i64 L0, .int .i64 L1, .int .i64 L2, .int .i64 L3], 42), (gx, #[.int .i8 2, .slice A1_ xs.length c1_, .int .i64 i], 101), (gy, #[.int .i8 3, .slice A2_ ys.length c2_, .int .i64 j], 101)]) → Code.wp Try.prog (tl46 14) (Exit.inBlock 4 (Exit.inBlock 3 (Exit.then K2 (Exit.inBlock 2 (Exit.then K3 (bodyPost Try.prog Try.f46 R)))))) ⟨List.toArray (q20 c0 (.slice A1_ xs.length c1_) (.slice A2_ ys.length c2_) (.pointer (some ⟨gm, 0, none⟩)) c4 c5 u6 u7 c8 (.pointer (some ⟨gw, 0, none⟩)) (.pointer (some ⟨cond lf gx gy, 0, none⟩)) (.pointer (some ⟨cond lf gy gx, 0, none⟩)) (.int .i64 q) (.bool yes) u14 u15 c16 c17 c18 c19 (q20 c20 c21 c22 c23 c24 c25 c26 c27 c28 c29 c30 c31 c32 c33 c34 c35 c36 c37 c38 c39 (q20 c40 c41 c42 c43 c44 c45 c46 c47 c48 c49 u50 u51 u52 u53 u54 u55 u56 u57 u58 u59 (q20 u60 u61 u62 u63 u64 u65 u66 u67 u68 u69 u70 u71 u72 u73 u74 u75 u76 u77 u78 u79 (q20 u80 u81 u82 u83 u84 u85 u86 u87 u88 u89 u90 u91 u92 u93 u94 u95 u96 u97 u98 u99 (q20 u100 u101 u102 u103 u104 u105 u106 u107 u108 u109 u110 u111 u112 u113 u114 u115 u116 u117 u118 u119 (u120 :: u121 :: u122 :: c123 :: c124 :: c125 :: []))))))), []⟩ wc)) :
    Code.wp Try.prog body46 (Exit.then K2 (Exit.inBlock 2 (Exit.then K3 (bodyPost Try.prog Try.f46 R)))) ⟨List.toArray (q20 c0 (.slice A1_ xs.length c1_) (.slice A2_ ys.length c2_) (.pointer (some ⟨gm, 0, none⟩)) c4 c5 u6 u7 c8 (.pointer (some ⟨gw, 0, none⟩)) (.pointer (some ⟨cond lf gx gy, 0, none⟩)) (.pointer (some ⟨cond lf gy gx, 0, none⟩)) u12 u13 u14 u15 c16 c17 c18 c19 (q20 c20 c21 c22 c23 c24 c25 c26 c27 c28 c29 c30 c31 c32 c33 c34 c35 c36 c37 c38 c39 (q20 c40 c41 c42 c43 c44 c45 c46 c47 c48 c49 u50 u51 u52 u53 u54 u55 u56 u57 u58 u59 (q20 u60 u61 u62 u63 u64 u65 u66 u67 u68 u69 u70 u71 u72 u73 u74 u75 u76 u77 u78 u79 (q20 u80 u81 u82 u83 u84 u85 u86 u87 u88 u89 u90 u91 u92 u93 u94 u95 u96 u97 u98 u99 (q20 u100 u101 u102 u103 u104 u105 u106 u107 u108 u109 u110 u111 u112 u113 u114 u115 u116 u117 u118 u119 (u120 :: u121 :: u122 :: c123 :: c124 :: c125 :: []))))))), []⟩ wc := by
  have hu42 := Try.underlying42
  have hu38 := Try.underlying38
  conv => arg 2; whnf
  unfold q20
  have cw0 := X0.out.cw
  obtain ⟨⟨q0w0, q1w0, q2w0, q3w0, q4w0, q5w0, q6w0, q7w0⟩, z0w0, z1w0, z2w0, z3w0, z4w0, z5w0, z6w0, z7w0⟩ := cells8 X0.out.at0
  go_wp2
  have XD := Aside0.mk X0.out.drew
  refine start_ (n := 12) (S := fun w' => w'.cell? ⟨gm, 0, none⟩ = some (.int .i64 T0) ∧ w'.cell? ⟨gm, 1, none⟩ = some (.int .i64 T1) ∧ w'.cell? ⟨gm, 2, none⟩ = some (.int .i64 T2) ∧ w'.cell? ⟨gm, 3, none⟩ = some (.int .i64 T3) ∧ w'.cell? ⟨gm, 4, none⟩ = some (.int .i64 L0) ∧ w'.cell? ⟨gm, 5, none⟩ = some (.int .i64 L1) ∧ w'.cell? ⟨gm, 6, none⟩ = some (.int .i64 L2) ∧ w'.cell? ⟨gm, 7, none⟩ = some (.int .i64 L3)) (ds := []) #[false, false, false, false, false, false, false, false, false, false, false, false] (by kernel_rfl) rfl rfl ⟨(blk_cell XD.out.at0 0).trans rfl, (blk_cell XD.out.at0 1).trans rfl, (blk_cell XD.out.at0 2).trans rfl, (blk_cell XD.out.at0 3).trans rfl, (blk_cell XD.out.at0 4).trans rfl, (blk_cell XD.out.at0 5).trans rfl, (blk_cell XD.out.at0 6).trans rfl, (blk_cell XD.out.at0 7).trans rfl⟩ (fun hHeld => ?_)
  refine pure_ (i := 0) (N := some 56) (v := ?_) (a' := ?_) #[true, false, false, false, false, false, false, false, false, false, false, false] rfl rfl (by kernel_rfl) (fun _ _ _ h => h) (Or.inl ⟨by rfl, ?_⟩) ?_ ?_
  rotate_left
  · intro w'
    go_simp
    with_reducible rfl
  rotate_left
  · simp only [Act.put, sa_, sz_, ss_, i64_w, i32_w]
    rfl
  refine pure_ (i := 3) (N := some 59) (v := ?_) (a' := ?_) #[true, false, false, true, false, false, false, false, false, false, false, false] rfl rfl (by kernel_rfl) (fun _ _ _ h => h) (Or.inl ⟨by rfl, ?_⟩) ?_ ?_
  rotate_left
  · intro w'
    go_simp
    with_reducible rfl
  rotate_left
  · simp only [Act.put, sa_, sz_, ss_, i64_w, i32_w]
    rfl
  refine take_ (i := 1) (N := some 57) (v := ?_) (a' := ?_) #[true, true, false, true, false, false, false, false, false, false, false, false] rfl rfl (by kernel_rfl) (fun _ _ _ h => h) (Or.inl ⟨by rfl, ?_⟩) hHeld ?_ ?_
  rotate_left
  · rintro w' ⟨s0, s1, s2, s3, s4, s5, s6, s7⟩
    go_simp
    with_reducible rfl
  rotate_left
  · simp only [Act.put, sa_, sz_, ss_, i64_w, i32_w]
    rfl
  refine take_ (i := 4) (N := some 60) (v := ?_) (a' := ?_) #[true, true, false, true, true, false, false, false, false, false, false, false] rfl rfl (by kernel_rfl) (fun _ _ _ h => h) (Or.inl ⟨by rfl, ?_⟩) hHeld ?_ ?_
  rotate_left
  · rintro w' ⟨s0, s1, s2, s3, s4, s5, s6, s7⟩
    go_simp
    with_reducible rfl
  rotate_left
  · simp only [Act.put, sa_, sz_, ss_, i64_w, i32_w]
    rfl
  refine one_ (i := 2) (N := some 58) #[true, true, true, true, true, false, false, false, false, false, false, false] rfl rfl (by kernel_rfl) (by decide) (fun K hK => ?_)
  refine goes_ Try.func67 (by kernel_rfl) rfl #[.agg #[.int .i64 T0, .int .i64 T1, .int .i64 T2, .int .i64 T3]] (by rfl) rfl rfl (by simp only [List.map_toArray, List.map_cons, List.map_nil]; rfl) ?_
  with_reducible refine (impl_corners.calls T0 T1 T2 T3 _ _ rfl).mono ?_
  rintro e w1 ⟨vw1, rfl, hR, hb⟩
  refine ⟨_, rfl, ?_⟩
  obtain ⟨Aw1, cw1, rfl, hlw1, hC⟩ := R_four hR
  have C1 := Aside0.mk hC
  have hlw1_ := Aside0.mk hlw1
  have Bw1 := Aside0.mk hb
  have X1 := Aside0.mk (XD.out.below hb)
  clear hR hb hC hlw1
  refine hK.out _ _ ⟨(blk_cell X1.out.at0 0).trans rfl, (blk_cell X1.out.at0 1).trans rfl, (blk_cell X1.out.at0 2).trans rfl, (blk_cell X1.out.at0 3).trans rfl, (blk_cell X1.out.at0 4).trans rfl, (blk_cell X1.out.at0 5).trans rfl, (blk_cell X1.out.at0 6).trans rfl, (blk_cell X1.out.at0 7).trans rfl⟩ (fun hHeld => ?_)
  clear hK K
  refine norm_ (a' := ?_) ?_ ?_
  rotate_left
  · show Act.put _ (some 58) _ = _
    simp only [Act.put, sa_, sz_, ss_, i64_w, i32_w]
    rfl
  refine one_ (i := 5) (N := some 61) #[true, true, true, true, true, true, false, false, false, false, false, false] rfl rfl (by kernel_rfl) (by decide) (fun K hK => ?_)
  refine goes_ Try.func67 (by kernel_rfl) rfl #[.agg #[.int .i64 L0, .int .i64 L1, .int .i64 L2, .int .i64 L3]] (by rfl) rfl rfl (by simp only [List.map_toArray, List.map_cons, List.map_nil]; rfl) ?_
  with_reducible refine (impl_corners.calls L0 L1 L2 L3 _ _ rfl).mono ?_
  rintro e w2 ⟨vw2, rfl, hR, hb⟩
  refine ⟨_, rfl, ?_⟩
  obtain ⟨Aw2, cw2, rfl, hlw2, hC⟩ := R_four hR
  have C2 := Aside0.mk hC
  have hlw2_ := Aside0.mk hlw2
  have Bw2 := Aside0.mk hb
  have X2 := Aside0.mk (X1.out.below hb)
  clear hR hb hC hlw2
  refine hK.out _ _ ⟨(blk_cell X2.out.at0 0).trans rfl, (blk_cell X2.out.at0 1).trans rfl, (blk_cell X2.out.at0 2).trans rfl, (blk_cell X2.out.at0 3).trans rfl, (blk_cell X2.out.at0 4).trans rfl, (blk_cell X2.out.at0 5).trans rfl, (blk_cell X2.out.at0 6).trans rfl, (blk_cell X2.out.at0 7).trans rfl⟩ (fun hHeld => ?_)
  clear hK K
  refine norm_ (a' := ?_) ?_ ?_
  rotate_left
  · show Act.put _ (some 61) _ = _
    simp only [Act.put, sa_, sz_, ss_, i64_w, i32_w]
    rfl
  refine one_ (i := 6) (N := some 62) #[true, true, true, true, true, true, true, false, false, false, false, false] rfl rfl (by kernel_rfl) (by decide) (fun K hK => ?_)
  refine goes_ Try.func66 (by kernel_rfl) rfl #[.slice Aw1 4 cw1, .slice Aw2 4 cw2] (by rfl) rfl rfl (by simp only [List.map_toArray, List.map_cons, List.map_nil]; rfl) ?_
  with_reducible refine (gives_four k _ _ _ _ T0 (wrap64 (T0 + T1)) (wrap64 (T0 + T2)) (wrap64 ((wrap64 ((wrap64 (T0 + T1)) + T2)) + T3)) L0 (wrap64 (L0 + L1)) (wrap64 (L0 + L2)) (wrap64 ((wrap64 ((wrap64 (L0 + L1)) + L2)) + L3)) q yes _ (Kd.C_below C1.out Bw2.out) hlw1_.out C2.out hlw2_.out HG.out).mono ?_
  rintro e w3 ⟨rfl, hd⟩
  refine ⟨_, rfl, ?_⟩
  have X3 := Aside0.mk (X2.out.below hd.below)
  clear hd
  refine hK.out _ _ ⟨(blk_cell X3.out.at0 0).trans rfl, (blk_cell X3.out.at0 1).trans rfl, (blk_cell X3.out.at0 2).trans rfl, (blk_cell X3.out.at0 3).trans rfl, (blk_cell X3.out.at0 4).trans rfl, (blk_cell X3.out.at0 5).trans rfl, (blk_cell X3.out.at0 6).trans rfl, (blk_cell X3.out.at0 7).trans rfl⟩ (fun hHeld => ?_)
  clear hK K
  refine norm_ (a' := ?_) ?_ ?_
  rotate_left
  · show Act.put _ (some 62) _ = _
    simp only [Act.put, sa_, sz_, ss_, i64_w, i32_w]
    rfl
  refine pure_ (i := 7) (N := some 55) (v := ?_) (a' := ?_) #[true, true, true, true, true, true, true, true, false, false, false, false] rfl rfl (by kernel_rfl) (fun _ _ _ h => h) (Or.inl ⟨by rfl, ?_⟩) ?_ ?_
  rotate_left
  · intro w'
    go_simp
    with_reducible rfl
  rotate_left
  · simp only [Act.put, sa_, sz_, ss_, i64_w, i32_w]
    rfl
  refine pure_ (i := 8) (N := some 63) (v := ?_) (a' := ?_) #[true, true, true, true, true, true, true, true, true, false, false, false] rfl rfl (by kernel_rfl) (fun _ _ _ h => h) (Or.inl ⟨by rfl, ?_⟩) ?_ ?_
  rotate_left
  · intro w'
    go_simp
    with_reducible rfl
  rotate_left
  · simp only [Act.put, sa_, sz_, ss_, i64_w, i32_w]
    rfl
  refine pure_ (i := 9) (N := some 64) (v := ?_) (a' := ?_) #[true, true, true, true, true, true, true, true, true, true, false, false] rfl rfl (by kernel_rfl) (fun _ _ _ h => h) (Or.inl ⟨by rfl, ?_⟩) ?_ ?_
  rotate_left
  · intro w'
    go_simp
    with_reducible rfl
  rotate_left
  · simp only [Act.put, sa_, sz_, ss_, i64_w, i32_w]
    rfl
  refine pure_ (i := 10) (N := some 12) (v := ?_) (a' := ?_) #[true, true, true, true, true, true, true, true, true, true, true, false] rfl rfl (by kernel_rfl) (fun _ _ _ h => h) (Or.inl ⟨by rfl, ?_⟩) ?_ ?_
  rotate_left
  · intro w'
    go_simp
    with_reducible rfl
  rotate_left
  · simp only [Act.put, sa_, sz_, ss_, i64_w, i32_w]
    rfl
  refine pure_ (i := 11) (N := some 13) (v := ?_) (a' := ?_) #[true, true, true, true, true, true, true, true, true, true, true, true] rfl rfl (by kernel_rfl) (fun _ _ _ h => h) (Or.inl ⟨by rfl, ?_⟩) ?_ ?_
  rotate_left
  · intro w'
    go_simp
    with_reducible rfl
  rotate_left
  · simp only [Act.put, sa_, sz_, ss_, i64_w, i32_w]
    rfl
  refine done_ (by kernel_rfl) ?_
  repeat (first | (exact hnext.out _ _ _ _ _ _ _ _ _ _ _ _ _ _ _ _ _ _ _ _ _ _ _ _ _ _ _ _ _ _ _ _ _ _ _ _ _ _ _ _ _ _ _ _ _ _ _ _ _ _ _ _ _ _ _ _ _ _ _ _ _ _ _ _ _ _ _ _ _ _ _ _ _ _ _ _ _ _ X3) | go_step)
theorem X8_I0 {k2 : Nat} {xs ys : List Int} {A1_ A2_ : Option Addr} {c1_ c2_ : Nat} {w wc : World} {gm gw gx gy gb : Nat} {T0 T1 T2 T3 L0 L1 L2 L3 i j q x0 x1 x2 x3 : Int} {o0 o1 o2 o3 : Bool} {ms : List S52} {gs : List Int} {R : Ending → World → Prop} {Ji : Nat → Act → World → Prop} {Ki K2 K3 K6 : Act → World → Prop} {c0 c1 c2 c4 c5 c6 c7 c8 c10 c11 c13 c16 c17 c18 c19 c20 c21 c22 c23 c24 c25 c26 c27 c28 c29 c30 c31 c32 c33 c34 c35 c36 c37 c38 c39 c40 c41 c42 c43 c44 c45 c46 c47 c48 c49 c50 c51 c52 c53 c54 c55 c56 c57 c58 c59 c60 c61 c62 c63 c64 c65 c66 c67 c68 c69 c70 c71 c72 c73 c74 c75 c76 c77 c78 c79 c80 c81 c82 c83 c84 c85 c86 c87 c88 c107 c108 c109 c110 c111 c112 c113 c114 c115 c116 c117 c118 c119 c120 c121 c122 c123 c124 c125 : Value} {u15 u90 u91 u92 u93 u94 u95 u96 u97 u98 u99 u100 u101 u102 u103 u104 u105 u106 : Value} (hJi : HJi46 xs ys A1_ A2_ c1_ c2_ w gm gw gx gy gb T0 T1 T2 T3 L0 L1 L2 L3 i j q x0 x1 x2 x3 o0 o1 o2 o3 ms gs Ji c0 c1 c2 c4 c5 c6 c7 c8 c10 c11 c13 c16 c17 c18 c19 c20 c21 c22 c23 c24 c25 c26 c27 c28 c29 c30 c31 c32 c33 c34 c35 c36 c37 c38 c39 c40 c41 c42 c43 c44 c45 c46 c47 c48 c49 c50 c51 c52 c53 c54 c55 c56 c57 c58 c59 c60 c61 c62 c63 c64 c65 c66 c67 c68 c69 c70 c71 c72 c73 c74 c75 c76 c77 c78 c79 c80 c81 c82 c83 c84 c85 c86 c87 c88 c107 c108 c109 c110 c111 c112 c113 c114 c115 c116 c117 c118 c119 c120 c121 c122 c123 c124 c125) (hKi : ∀ (a' : Act) (w' : World), Handed Ji (k2 + 1) a' w' → Ki a' w')
    (NB : Aside0 (gb ≠ gm ∧ gx ≠ gm ∧ gy ≠ gm)) (H0 : Aside0 (implC (false || decide (40 < (gs.length : Int) + 1)) L0 (wrap64 (-q)) T0 = some (x0, o0))) (HK2 : Aside0 (k2 + 1 + 0 = 5)) (X7 : Aside0 (HB8 71 w.heap.size w wc gw (ms ++ [⟨1, q⟩]) (gs ++ [q]) (false || decide (40 < (gs.length : Int) + 1)) [(gb, #[.int .i64 L0, .int .i64 L1, .int .i64 L2, .int .i64 L3], 38), (gm, #[.int .i64 T0, .int .i64 T1, .int .i64 T2, .int .i64 T3, .int .i64 L0, .int .i64 L1, .int .i64 L2, .int .i64 L3], 42), (gx, #[.int .i8 2, .slice A1_ xs.length c1_, .int .i64 i], 101), (gy, #[.int .i8 3, .slice A2_ ys.length c2_, .int .i64 j], 101)])) :
    Code.wp Try.prog inner46 (Exit.then Ki (Exit.inBlock 5 (Exit.then K6 (Exit.inBlock 4 (Exit.inBlock 3 (Exit.then K2 (Exit.inBlock 2 (Exit.then K3 (bodyPost Try.prog Try.f46 R))))))))) ⟨List.toArray (q20 c0 c1 c2 (.pointer (some ⟨gm, 0, none⟩)) c4 c5 c6 c7 c8 (.pointer (some ⟨gw, 0, none⟩)) c10 c11 (.int .i64 q) c13 (.pointer (some ⟨gb, 0, none⟩)) u15 c16 c17 c18 c19 (q20 c20 c21 c22 c23 c24 c25 c26 c27 c28 c29 c30 c31 c32 c33 c34 c35 c36 c37 c38 c39 (q20 c40 c41 c42 c43 c44 c45 c46 c47 c48 c49 c50 c51 c52 c53 c54 c55 c56 c57 c58 c59 (q20 c60 c61 c62 c63 c64 c65 c66 c67 c68 c69 c70 c71 c72 c73 c74 c75 c76 c77 c78 c79 (q20 c80 c81 c82 c83 c84 c85 c86 c87 c88 (.int .i64 0) u90 u91 u92 u93 u94 u95 u96 u97 u98 u99 (q20 u100 u101 u102 u103 u104 u105 u106 c107 c108 c109 c110 c111 c112 c113 c114 c115 c116 c117 c118 c119 (c120 :: c121 :: c122 :: c123 :: c124 :: c125 :: []))))))), []⟩ wc := by
  have hu42 := Try.underlying42
  have hu38 := Try.underlying38
  conv => arg 2; whnf
  unfold q20
  unfold HJi46 at hJi
  go_wp2
  have XD := Aside0.mk X7.out.drew
  refine start_ (n := 15) (S := fun w' => w'.cell? ⟨gm, 0, none⟩ = some (.int .i64 T0) ∧ w'.cell? ⟨gm, 1, none⟩ = some (.int .i64 T1) ∧ w'.cell? ⟨gm, 2, none⟩ = some (.int .i64 T2) ∧ w'.cell? ⟨gm, 3, none⟩ = some (.int .i64 T3) ∧ w'.cell? ⟨gb, 0, none⟩ = some (.int .i64 L0) ∧ w'.cell? ⟨gb, 1, none⟩ = some (.int .i64 L1) ∧ w'.cell? ⟨gb, 2, none⟩ = some (.int .i64 L2) ∧ w'.cell? ⟨gb, 3, none⟩ = some (.int .i64 L3)) (ds := [14]) #[false, false, false, false, false, false, false, false, false, false, false, false, false, false, false] (by kernel_rfl) rfl rfl ⟨(blk_cell XD.out.at1 0).trans rfl, (blk_cell XD.out.at1 1).trans rfl, (blk_cell XD.out.at1 2).trans rfl, (blk_cell XD.out.at1 3).trans rfl, (blk_cell XD.out.at0 0).trans rfl, (blk_cell XD.out.at0 1).trans rfl, (blk_cell XD.out.at0 2).trans rfl, (blk_cell XD.out.at0 3).trans rfl⟩ (fun hHeld => ?_)
  refine pure_ (i := 0) (N := some 92) (v := ?_) (a' := ?_) #[true, false, false, false, false, false, false, false, false, false, false, false, false, false, false] rfl rfl (by kernel_rfl) (fun _ _ _ h => h) (Or.inl ⟨by rfl, ?_⟩) ?_ ?_
  rotate_left
  · intro w'
    go_simp
    with_reducible rfl
  rotate_left
  · simp only [Act.put, sa_, sz_, ss_, i64_w, i32_w]
    rfl
  refine pure_ (i := 1) (N := some 93) (v := ?_) (a' := ?_) #[true, true, false, false, false, false, false, false, false, false, false, false, false, false, false] rfl rfl (by kernel_rfl) (fun _ _ _ h => h) (Or.inl ⟨by rfl, ?_⟩) ?_ ?_
  rotate_left
  · intro w'
    go_simp
    with_reducible rfl
  rotate_left
  · simp only [Act.put, sa_, sz_, ss_, i64_w, i32_w]
    rfl
  refine pure_ (i := 2) (N := some 94) (v := ?_) (a' := ?_) #[true, true, true, false, false, false, false, false, false, false, false, false, false, false, false] rfl rfl (by kernel_rfl) (fun _ _ _ h => h) (Or.inl ⟨by rfl, ?_⟩) ?_ ?_
  rotate_left
  · intro w'
    go_simp
    with_reducible rfl
  rotate_left
  · simp only [Act.put, sa_, sz_, ss_, i64_w, i32_w]
    rfl
  refine pure_ (i := 3) (N := some 95) (v := ?_) (a' := ?_) #[true, true, true, true, false, false, false, false, false, false, false, false, false, false, false] rfl rfl (by kernel_rfl) (fun _ _ _ h => h) (Or.inl ⟨by rfl, ?_⟩) ?_ ?_
  rotate_left
  · intro w'
    go_simp
    with_reducible rfl
  rotate_left
  · simp only [Act.put, sa_, sz_, ss_, i64_w, i32_w]
    rfl
  refine pure_ (i := 5) (N := some 97) (v := ?_) (a' := ?_) #[true, true, true, true, false, true, false, false, false, false, false, false, false, false, false] rfl rfl (by kernel_rfl) (fun _ _ _ h => h) (Or.inl ⟨by rfl, ?_⟩) ?_ ?_
  rotate_left
  · intro w'
    go_simp
    with_reducible rfl
  rotate_left
  · simp only [Act.put, sa_, sz_, ss_, i64_w, i32_w]
    rfl
  refine pure_ (i := 6) (N := some 98) (v := ?_) (a' := ?_) #[true, true, true, true, false, true, true, false, false, false, false, false, false, false, false] rfl rfl (by kernel_rfl) (fun _ _ _ h => h) (Or.inl ⟨by rfl, ?_⟩) ?_ ?_
  rotate_left
  · intro w'
    go_simp
    with_reducible rfl
  rotate_left
  · simp only [Act.put, sa_, sz_, ss_, i64_w, i32_w]
    rfl
  refine pure_ (i := 7) (N := some 99) (v := ?_) (a' := ?_) #[true, true, true, true, false, true, true, true, false, false, false, false, false, false, false] rfl rfl (by kernel_rfl) (fun _ _ _ h => h) (Or.inl ⟨by rfl, ?_⟩) ?_ ?_
  rotate_left
  · intro w'
    go_simp
    with_reducible rfl
  rotate_left
  · simp only [Act.put, sa_, sz_, ss_, i64_w, i32_w]
    rfl
  refine pure_ (i := 8) (N := some 100) (v := ?_) (a' := ?_) #[true, true, true, true, false, true, true, true, true, false, false, false, false, false, false] rfl rfl (by kernel_rfl) (fun _ _ _ h => h) (Or.inl ⟨by rfl, ?_⟩) ?_ ?_
  rotate_left
  · intro w'
    go_simp
    with_reducible rfl
  rotate_left
  · simp only [Act.put, sa_, sz_, ss_, i64_w, i32_w]
    rfl
  refine pure_ (i := 9) (N := some 101) (v := ?_) (a' := ?_) #[true, true, true, true, false, true, true, true, true, true, false, false, false, false, false] rfl rfl (by kernel_rfl) (fun _ _ _ h => h) (Or.inl ⟨by rfl, ?_⟩) ?_ ?_
  rotate_left
  · intro w'
    go_simp
    with_reducible rfl
  rotate_left
  · simp only [Act.put, sa_, sz_, ss_, i64_w, i32_w]
    rfl
  refine pure_ (i := 12) (N := some 104) (v := ?_) (a' := ?_) #[true, true, true, true, false, true, true, true, true, true, false, false, true, false, false] rfl rfl (by kernel_rfl) (fun _ _ _ h => h) (Or.inl ⟨by rfl, ?_⟩) ?_ ?_
  rotate_left
  · intro w'
    go_simp
    with_reducible rfl
  rotate_left
  · simp only [Act.put, sa_, sz_, ss_, i64_w, i32_w]
    rfl
  refine take_ (i := 4) (N := some 96) (v := ?_) (a' := ?_) #[true, true, true, true, true, true, true, true, true, true, false, false, true, false, false] rfl rfl (by kernel_rfl) (fun _ _ _ h => h) (Or.inl ⟨by rfl, ?_⟩) hHeld ?_ ?_
  rotate_left
  · rintro w' ⟨s0, s1, s2, s3, s4, s5, s6, s7⟩
    go_simp
    with_reducible rfl
  rotate_left
  · simp only [Act.put, sa_, sz_, ss_, i64_w, i32_w]
    rfl
  refine take_ (i := 10) (N := some 102) (v := ?_) (a' := ?_) #[true, true, true, true, true, true, true, true, true, true, true, false, true, false, false] rfl rfl (by kernel_rfl) (fun _ _ _ h => h) (Or.inl ⟨by rfl, ?_⟩) hHeld ?_ ?_
  rotate_left
  · rintro w' ⟨s0, s1, s2, s3, s4, s5, s6, s7⟩
    go_simp
    with_reducible rfl
  rotate_left
  · simp only [Act.put, sa_, sz_, ss_, i64_w, i32_w]
    rfl
  refine one_ (i := 11) (N := some 103) #[true, true, true, true, true, true, true, true, true, true, true, true, true, false, false] rfl rfl (by kernel_rfl) (by decide) (fun K hK => ?_)
  refine goes_ Try.func69 (by kernel_rfl) rfl #[.pointer (some ⟨gw, 0, none⟩), .int .i64 L0, .int .i64 (wrap64 (-q)), .int .i64 T0] (by rfl) rfl rfl (by simp only [List.map_toArray, List.map_cons, List.map_nil]; rfl) ?_
  with_reducible refine (HB8.cellI XD.out H0.out).mono ?_
  rintro e w8 ⟨rfl, hX⟩
  refine ⟨_, rfl, ?_⟩
  have X8 := Aside0.mk hX
  clear hX
  refine hK.out _ _ ⟨(blk_cell X8.out.at1 0).trans rfl, (blk_cell X8.out.at1 1).trans rfl, (blk_cell X8.out.at1 2).trans rfl, (blk_cell X8.out.at1 3).trans rfl, (blk_cell X8.out.at0 0).trans rfl, (blk_cell X8.out.at0 1).trans rfl, (blk_cell X8.out.at0 2).trans rfl, (blk_cell X8.out.at0 3).trans rfl⟩ (fun hHeld => ?_)
  clear hK K
  refine norm_ (a' := ?_) ?_ ?_
  rotate_left
  · show Act.put _ (some 103) _ = _
    simp only [Act.put, sa_, sz_, ss_, i64_w, i32_w]
    rfl
  refine pure_ (i := 13) (N := some 105) (v := ?_) (a' := ?_) #[true, true, true, true, true, true, true, true, true, true, true, true, true, true, false] rfl rfl (by kernel_rfl) (fun _ _ _ h => h) (Or.inl ⟨by rfl, ?_⟩) ?_ ?_
  rotate_left
  · intro w'
    go_simp
    with_reducible rfl
  rotate_left
  · simp only [Act.put, sa_, sz_, ss_, i64_w, i32_w]
    rfl
  refine last_ (i := 14) (N := none) #[true, true, true, true, true, true, true, true, true, true, true, true, true, true, true] rfl rfl (by kernel_rfl) (by decide) (fun K hK => ?_)
  obtain ⟨⟨q0x8, q1x8, q2x8, q3x8, q4x8, q5x8, q6x8, q7x8⟩, z0x8, z1x8, z2x8, z3x8, z4x8, z5x8, z6x8, z7x8⟩ := cells8 X8.out.at1
  refine skip_ (w1 := ?_) (by rfl) rfl ?_ ?_
  rotate_left
  · go_simp
    rfl
  refine hK.out _ _ ?_
  clear hK K
  refine done_ (by kernel_rfl) ?_
  generalize hw9 : (World.setCell w8 ⟨gm, 4, none⟩ (.int .i64 x0)) = w9
  have X9 := Aside0.mk (show (HB8 71 w.heap.size w w9 gw (ms ++ [⟨1, q⟩]) (gs ++ [q]) o0 [(gb, #[.int .i64 L0, .int .i64 L1, .int .i64 L2, .int .i64 L3], 38), (gm, #[.int .i64 T0, .int .i64 T1, .int .i64 T2, .int .i64 T3, .int .i64 x0, .int .i64 L1, .int .i64 L2, .int .i64 L3], 42), (gx, #[.int .i8 2, .slice A1_ xs.length c1_, .int .i64 i], 101), (gy, #[.int .i8 3, .slice A2_ ys.length c2_, .int .i64 j], 101)]) from hw9 ▸ HB8.set1' X8.out ⟨NB.out.1, ne2 NB.out.2.1 NB.out.2.2⟩ 4 (.int .i64 x0) rfl)
  clear hw9
  go_wp2
  go_roundg k2
  case measure => omega
  case rel => exact Or.inr (Or.inl ⟨rfl, ⟨by have := HK2.out; omega⟩, X9⟩)
theorem X8_I1 {k2 : Nat} {xs ys : List Int} {A1_ A2_ : Option Addr} {c1_ c2_ : Nat} {w wc : World} {gm gw gx gy gb : Nat} {T0 T1 T2 T3 L0 L1 L2 L3 i j q x0 x1 x2 x3 : Int} {o0 o1 o2 o3 : Bool} {ms : List S52} {gs : List Int} {R : Ending → World → Prop} {Ji : Nat → Act → World → Prop} {Ki K2 K3 K6 : Act → World → Prop} {c0 c1 c2 c4 c5 c6 c7 c8 c10 c11 c13 c16 c17 c18 c19 c20 c21 c22 c23 c24 c25 c26 c27 c28 c29 c30 c31 c32 c33 c34 c35 c36 c37 c38 c39 c40 c41 c42 c43 c44 c45 c46 c47 c48 c49 c50 c51 c52 c53 c54 c55 c56 c57 c58 c59 c60 c61 c62 c63 c64 c65 c66 c67 c68 c69 c70 c71 c72 c73 c74 c75 c76 c77 c78 c79 c80 c81 c82 c83 c84 c85 c86 c87 c88 c107 c108 c109 c110 c111 c112 c113 c114 c115 c116 c117 c118 c119 c120 c121 c122 c123 c124 c125 : Value} {u15 u90 u91 u92 u93 u94 u95 u96 u97 u98 u99 u100 u101 u102 u103 u104 u105 u106 : Value} (hJi : HJi46 xs ys A1_ A2_ c1_ c2_ w gm gw gx gy gb T0 T1 T2 T3 L0 L1 L2 L3 i j q x0 x1 x2 x3 o0 o1 o2 o3 ms gs Ji c0 c1 c2 c4 c5 c6 c7 c8 c10 c11 c13 c16 c17 c18 c19 c20 c21 c22 c23 c24 c25 c26 c27 c28 c29 c30 c31 c32 c33 c34 c35 c36 c37 c38 c39 c40 c41 c42 c43 c44 c45 c46 c47 c48 c49 c50 c51 c52 c53 c54 c55 c56 c57 c58 c59 c60 c61 c62 c63 c64 c65 c66 c67 c68 c69 c70 c71 c72 c73 c74 c75 c76 c77 c78 c79 c80 c81 c82 c83 c84 c85 c86 c87 c88 c107 c108 c109 c110 c111 c112 c113 c114 c115 c116 c117 c118 c119 c120 c121 c122 c123 c124 c125) (hKi : ∀ (a' : Act) (w' : World), Handed Ji (k2 + 1) a' w' → Ki a' w')
    (NB : Aside0 (gb ≠ gm ∧ gx ≠ gm ∧ gy ≠ gm)) (H1 : Aside0 (implC o0 L1 (wrap64 (-q)) T1 = some (x1, o1))) (HK2 : Aside0 (k2 + 1 + 1 = 5)) (X7 : Aside0 (HB8 71 w.heap.size w wc gw (ms ++ [⟨1, q⟩]) (gs ++ [q]) o0 [(gb, #[.int .i64 L0, .int .i64 L1, .int .i64 L2, .int .i64 L3], 38), (gm, #[.int .i64 T0, .int .i64 T1, .int .i64 T2, .int .i64 T3, .int .i64 x0, .int .i64 L1, .int .i64 L2, .int .i64 L3], 42), (gx, #[.int .i8 2, .slice A1_ xs.length c1_, .int .i64 i], 101), (gy, #[.int .i8 3, .slice A2_ ys.length c2_, .int .i64 j], 101)])) :
    Code.wp Try.prog inner46 (Exit.then Ki (Exit.inBlock 5 (Exit.then K6 (Exit.inBlock 4 (Exit.inBlock 3 (Exit.then K2 (Exit.inBlock 2 (Exit.then K3 (bodyPost Try.prog Try.f46 R))))))))) ⟨List.toArray (q20 c0 c1 c2 (.pointer (some ⟨gm, 0, none⟩)) c4 c5 c6 c7 c8 (.pointer (some ⟨gw, 0, none⟩)) c10 c11 (.int .i64 q) c13 (.pointer (some ⟨gb, 0, none⟩)) u15 c16 c17 c18 c19 (q20 c20 c21 c22 c23 c24 c25 c26 c27 c28 c29 c30 c31 c32 c33 c34 c35 c36 c37 c38 c39 (q20 c40 c41 c42 c43 c44 c45 c46 c47 c48 c49 c50 c51 c52 c53 c54 c55 c56 c57 c58 c59 (q20 c60 c61 c62 c63 c64 c65 c66 c67 c68 c69 c70 c71 c72 c73 c74 c75 c76 c77 c78 c79 (q20 c80 c81 c82 c83 c84 c85 c86 c87 c88 (.int .i64 1) u90 u91 u92 u93 u94 u95 u96 u97 u98 u99 (q20 u100 u101 u102 u103 u104 u105 u106 c107 c108 c109 c110 c111 c112 c113 c114 c115 c116 c117 c118 c119 (c120 :: c121 :: c122 :: c123 :: c124 :: c125 :: []))))))), []⟩ wc := by
  have hu42 := Try.underlying42
  have hu38 := Try.underlying38
  conv => arg 2; whnf
  unfold q20
  unfold HJi46 at hJi
  go_wp2
  have XD := Aside0.mk X7.out.drew
  refine start_ (n := 15) (S := fun w' => w'.cell? ⟨gm, 0, none⟩ = some (.int .i64 T0) ∧ w'.cell? ⟨gm, 1, none⟩ = some (.int .i64 T1) ∧ w'.cell? ⟨gm, 2, none⟩ = some (.int .i64 T2) ∧ w'.cell? ⟨gm, 3, none⟩ = some (.int .i64 T3) ∧ w'.cell? ⟨gb, 0, none⟩ = some (.int .i64 L0) ∧ w'.cell? ⟨gb, 1, none⟩ = some (.int .i64 L1) ∧ w'.cell? ⟨gb, 2, none⟩ = some (.int .i64 L2) ∧ w'.cell? ⟨gb, 3, none⟩ = some (.int .i64 L3)) (ds := [14]) #[false, false, false, false, false, false, false, false, false, false, false, false, false, false, false] (by kernel_rfl) rfl rfl ⟨(blk_cell XD.out.at1 0).trans rfl, (blk_cell XD.out.at1 1).trans rfl, (blk_cell XD.out.at1 2).trans rfl, (blk_cell XD.out.at1 3).trans rfl, (blk_cell XD.out.at0 0).trans rfl, (blk_cell XD.out.at0 1).trans rfl, (blk_cell XD.out.at0 2).trans rfl, (blk_cell XD.out.at0 3).trans rfl⟩ (fun hHeld => ?_)
  refine pure_ (i := 0) (N := some 92) (v := ?_) (a' := ?_) #[true, false, false, false, false, false, false, false, false, false, false, false, false, false, false] rfl rfl (by kernel_rfl) (fun _ _ _ h => h) (Or.inl ⟨by rfl, ?_⟩) ?_ ?_
  rotate_left
  · intro w'
    go_simp
    with_reducible rfl
  rotate_left
  · simp only [Act.put, sa_, sz_, ss_, i64_w, i32_w]
    rfl
  refine pure_ (i := 1) (N := some 93) (v := ?_) (a' := ?_) #[true, true, false, false, false, false, false, false, false, false, false, false, false, false, false] rfl rfl (by kernel_rfl) (fun _ _ _ h => h) (Or.inl ⟨by rfl, ?_⟩) ?_ ?_
  rotate_left
  · intro w'
    go_simp
    with_reducible rfl
  rotate_left
  · simp only [Act.put, sa_, sz_, ss_, i64_w, i32_w]
    rfl
  refine pure_ (i := 2) (N := some 94) (v := ?_) (a' := ?_) #[true, true, true, false, false, false, false, false, false, false, false, false, false, false, false] rfl rfl (by kernel_rfl) (fun _ _ _ h => h) (Or.inl ⟨by rfl, ?_⟩) ?_ ?_
  rotate_left
  · intro w'
    go_simp
    with_reducible rfl
  rotate_left
  · simp only [Act.put, sa_, sz_, ss_, i64_w, i32_w]
    rfl
  refine pure_ (i := 3) (N := some 95) (v := ?_) (a' := ?_) #[true, true, true, true, false, false, false, false, false, false, false, false, false, false, false] rfl rfl (by kernel_rfl) (fun _ _ _ h => h) (Or.inl ⟨by rfl, ?_⟩) ?_ ?_
  rotate_left
  · intro w'
    go_simp
    with_reducible rfl
  rotate_left
  · simp only [Act.put, sa_, sz_, ss_, i64_w, i32_w]
    rfl
  refine pure_ (i := 5) (N := some 97) (v := ?_) (a' := ?_) #[true, true, true, true, false, true, false, false, false, false, false, false, false, false, false] rfl rfl (by kernel_rfl) (fun _ _ _ h => h) (Or.inl ⟨by rfl, ?_⟩) ?_ ?_
  rotate_left
  · intro w'
    go_simp
    with_reducible rfl
  rotate_left
  · simp only [Act.put, sa_, sz_, ss_, i64_w, i32_w]
    rfl
  refine pure_ (i := 6) (N := some 98) (v := ?_) (a' := ?_) #[true, true, true, true, false, true, true, false, false, false, false, false, false, false, false] rfl rfl (by kernel_rfl) (fun _ _ _ h => h) (Or.inl ⟨by rfl, ?_⟩) ?_ ?_
  rotate_left
  · intro w'
    go_simp
    with_reducible rfl
  rotate_left
  · simp only [Act.put, sa_, sz_, ss_, i64_w, i32_w]
    rfl
  refine pure_ (i := 7) (N := some 99) (v := ?_) (a' := ?_) #[true, true, true, true, false, true, true, true, false, false, false, false, false, false, false] rfl rfl (by kernel_rfl) (fun _ _ _ h => h) (Or.inl ⟨by rfl, ?_⟩) ?_ ?_
  rotate_left
  · intro w'
    go_simp
    with_reducible rfl
  rotate_left
  · simp only [Act.put, sa_, sz_, ss_, i64_w, i32_w]
    rfl
  refine pure_ (i := 8) (N := some 100) (v := ?_) (a' := ?_) #[true, true, true, true, false, true, true, true, true, false, false, false, false, false, false] rfl rfl (by kernel_rfl) (fun _ _ _ h => h) (Or.inl ⟨by rfl, ?_⟩) ?_ ?_
  rotate_left
  · intro w'
    go_simp
    with_reducible rfl
  rotate_left
  · simp only [Act.put, sa_, sz_, ss_, i64_w, i32_w]
    rfl
  refine pure_ (i := 9) (N := some 101) (v := ?_) (a' := ?_) #[true, true, true, true, false, true, true, true, true, true, false, false, false, false, false] rfl rfl (by kernel_rfl) (fun _ _ _ h => h) (Or.inl ⟨by rfl, ?_⟩) ?_ ?_
  rotate_left
  · intro w'
    go_simp
    with_reducible rfl
  rotate_left
  · simp only [Act.put, sa_, sz_, ss_, i64_w, i32_w]
    rfl
  refine pure_ (i := 12) (N := some 104) (v := ?_) (a' := ?_) #[true, true, true, true, false, true, true, true, true, true, false, false, true, false, false] rfl rfl (by kernel_rfl) (fun _ _ _ h => h) (Or.inl ⟨by rfl, ?_⟩) ?_ ?_
  rotate_left
  · intro w'
    go_simp
    with_reducible rfl
  rotate_left
  · simp only [Act.put, sa_, sz_, ss_, i64_w, i32_w]
    rfl
  refine take_ (i := 4) (N := some 96) (v := ?_) (a' := ?_) #[true, true, true, true, true, true, true, true, true, true, false, false, true, false, false] rfl rfl (by kernel_rfl) (fun _ _ _ h => h) (Or.inl ⟨by rfl, ?_⟩) hHeld ?_ ?_
  rotate_left
  · rintro w' ⟨s0, s1, s2, s3, s4, s5, s6, s7⟩
    go_simp
    with_reducible rfl
  rotate_left
  · simp only [Act.put, sa_, sz_, ss_, i64_w, i32_w]
    rfl
  refine take_ (i := 10) (N := some 102) (v := ?_) (a' := ?_) #[true, true, true, true, true, true, true, true, true, true, true, false, true, false, false] rfl rfl (by kernel_rfl) (fun _ _ _ h => h) (Or.inl ⟨by rfl, ?_⟩) hHeld ?_ ?_
  rotate_left
  · rintro w' ⟨s0, s1, s2, s3, s4, s5, s6, s7⟩
    go_simp
    with_reducible rfl
  rotate_left
  · simp only [Act.put, sa_, sz_, ss_, i64_w, i32_w]
    rfl
  refine one_ (i := 11) (N := some 103) #[true, true, true, true, true, true, true, true, true, true, true, true, true, false, false] rfl rfl (by kernel_rfl) (by decide) (fun K hK => ?_)
  refine goes_ Try.func69 (by kernel_rfl) rfl #[.pointer (some ⟨gw, 0, none⟩), .int .i64 L1, .int .i64 (wrap64 (-q)), .int .i64 T1] (by rfl) rfl rfl (by simp only [List.map_toArray, List.map_cons, List.map_nil]; rfl) ?_
  with_reducible refine (HB8.cellI XD.out H1.out).mono ?_
  rintro e w8 ⟨rfl, hX⟩
  refine ⟨_, rfl, ?_⟩
  have X8 := Aside0.mk hX
  clear hX
  refine hK.out _ _ ⟨(blk_cell X8.out.at1 0).trans rfl, (blk_cell X8.out.at1 1).trans rfl, (blk_cell X8.out.at1 2).trans rfl, (blk_cell X8.out.at1 3).trans rfl, (blk_cell X8.out.at0 0).trans rfl, (blk_cell X8.out.at0 1).trans rfl, (blk_cell X8.out.at0 2).trans rfl, (blk_cell X8.out.at0 3).trans rfl⟩ (fun hHeld => ?_)
  clear hK K
  refine norm_ (a' := ?_) ?_ ?_
  rotate_left
  · show Act.put _ (some 103) _ = _
    simp only [Act.put, sa_, sz_, ss_, i64_w, i32_w]
    rfl
  refine pure_ (i := 13) (N := some 105) (v := ?_) (a' := ?_) #[true, true, true, true, true, true, true, true, true, true, true, true, true, true, false] rfl rfl (by kernel_rfl) (fun _ _ _ h => h) (Or.inl ⟨by rfl, ?_⟩) ?_ ?_
  rotate_left
  · intro w'
    go_simp
    with_reducible rfl
  rotate_left
  · simp only [Act.put, sa_, sz_, ss_, i64_w, i32_w]
    rfl
  refine last_ (i := 14) (N := none) #[true, true, true, true, true, true, true, true, true, true, true, true, true, true, true] rfl rfl (by kernel_rfl) (by decide) (fun K hK => ?_)
  obtain ⟨⟨q0x8, q1x8, q2x8, q3x8, q4x8, q5x8, q6x8, q7x8⟩, z0x8, z1x8, z2x8, z3x8, z4x8, z5x8, z6x8, z7x8⟩ := cells8 X8.out.at1
  refine skip_ (w1 := ?_) (by rfl) rfl ?_ ?_
  rotate_left
  · go_simp
    rfl
  refine hK.out _ _ ?_
  clear hK K
  refine done_ (by kernel_rfl) ?_
  generalize hw9 : (World.setCell w8 ⟨gm, 5, none⟩ (.int .i64 x1)) = w9
  have X9 := Aside0.mk (show (HB8 71 w.heap.size w w9 gw (ms ++ [⟨1, q⟩]) (gs ++ [q]) o1 [(gb, #[.int .i64 L0, .int .i64 L1, .int .i64 L2, .int .i64 L3], 38), (gm, #[.int .i64 T0, .int .i64 T1, .int .i64 T2, .int .i64 T3, .int .i64 x0, .int .i64 x1, .int .i64 L2, .int .i64 L3], 42), (gx, #[.int .i8 2, .slice A1_ xs.length c1_, .int .i64 i], 101), (gy, #[.int .i8 3, .slice A2_ ys.length c2_, .int .i64 j], 101)]) from hw9 ▸ HB8.set1' X8.out ⟨NB.out.1, ne2 NB.out.2.1 NB.out.2.2⟩ 5 (.int .i64 x1) rfl)
  clear hw9
  go_wp2
  go_roundg k2
  case measure => omega
  case rel => exact Or.inr (Or.inr (Or.inl ⟨rfl, ⟨by have := HK2.out; omega⟩, X9⟩))
theorem X8_I2 {k2 : Nat} {xs ys : List Int} {A1_ A2_ : Option Addr} {c1_ c2_ : Nat} {w wc : World} {gm gw gx gy gb : Nat} {T0 T1 T2 T3 L0 L1 L2 L3 i j q x0 x1 x2 x3 : Int} {o0 o1 o2 o3 : Bool} {ms : List S52} {gs : List Int} {R : Ending → World → Prop} {Ji : Nat → Act → World → Prop} {Ki K2 K3 K6 : Act → World → Prop} {c0 c1 c2 c4 c5 c6 c7 c8 c10 c11 c13 c16 c17 c18 c19 c20 c21 c22 c23 c24 c25 c26 c27 c28 c29 c30 c31 c32 c33 c34 c35 c36 c37 c38 c39 c40 c41 c42 c43 c44 c45 c46 c47 c48 c49 c50 c51 c52 c53 c54 c55 c56 c57 c58 c59 c60 c61 c62 c63 c64 c65 c66 c67 c68 c69 c70 c71 c72 c73 c74 c75 c76 c77 c78 c79 c80 c81 c82 c83 c84 c85 c86 c87 c88 c107 c108 c109 c110 c111 c112 c113 c114 c115 c116 c117 c118 c119 c120 c121 c122 c123 c124 c125 : Value} {u15 u90 u91 u92 u93 u94 u95 u96 u97 u98 u99 u100 u101 u102 u103 u104 u105 u106 : Value} (hJi : HJi46 xs ys A1_ A2_ c1_ c2_ w gm gw gx gy gb T0 T1 T2 T3 L0 L1 L2 L3 i j q x0 x1 x2 x3 o0 o1 o2 o3 ms gs Ji c0 c1 c2 c4 c5 c6 c7 c8 c10 c11 c13 c16 c17 c18 c19 c20 c21 c22 c23 c24 c25 c26 c27 c28 c29 c30 c31 c32 c33 c34 c35 c36 c37 c38 c39 c40 c41 c42 c43 c44 c45 c46 c47 c48 c49 c50 c51 c52 c53 c54 c55 c56 c57 c58 c59 c60 c61 c62 c63 c64 c65 c66 c67 c68 c69 c70 c71 c72 c73 c74 c75 c76 c77 c78 c79 c80 c81 c82 c83 c84 c85 c86 c87 c88 c107 c108 c109 c110 c111 c112 c113 c114 c115 c116 c117 c118 c119 c120 c121 c122 c123 c124 c125) (hKi : ∀ (a' : Act) (w' : World), Handed Ji (k2 + 1) a' w' → Ki a' w')
    (NB : Aside0 (gb ≠ gm ∧ gx ≠ gm ∧ gy ≠ gm)) (H2 : Aside0 (implC o1 L2 (wrap64 (-q)) T2 = some (x2, o2))) (HK2 : Aside0 (k2 + 1 + 2 = 5)) (X7 : Aside0 (HB8 71 w.heap.size w wc gw (ms ++ [⟨1, q⟩]) (gs ++ [q]) o1 [(gb, #[.int .i64 L0, .int .i64 L1, .int .i64 L2, .int .i64 L3], 38), (gm, #[.int .i64 T0, .int .i64 T1, .int .i64 T2, .int .i64 T3, .int .i64 x0, .int .i64 x1, .int .i64 L2, .int .i64 L3], 42), (gx, #[.int .i8 2, .slice A1_ xs.length c1_, .int .i64 i], 101), (gy, #[.int .i8 3, .slice A2_ ys.length c2_, .int .i64 j], 101)])) :
    Code.wp Try.prog inner46 (Exit.then Ki (Exit.inBlock 5 (Exit.then K6 (Exit.inBlock 4 (Exit.inBlock 3 (Exit.then K2 (Exit.inBlock 2 (Exit.then K3 (bodyPost Try.prog Try.f46 R))))))))) ⟨List.toArray (q20 c0 c1 c2 (.pointer (some ⟨gm, 0, none⟩)) c4 c5 c6 c7 c8 (.pointer (some ⟨gw, 0, none⟩)) c10 c11 (.int .i64 q) c13 (.pointer (some ⟨gb, 0, none⟩)) u15 c16 c17 c18 c19 (q20 c20 c21 c22 c23 c24 c25 c26 c27 c28 c29 c30 c31 c32 c33 c34 c35 c36 c37 c38 c39 (q20 c40 c41 c42 c43 c44 c45 c46 c47 c48 c49 c50 c51 c52 c53 c54 c55 c56 c57 c58 c59 (q20 c60 c61 c62 c63 c64 c65 c66 c67 c68 c69 c70 c71 c72 c73 c74 c75 c76 c77 c78 c79 (q20 c80 c81 c82 c83 c84 c85 c86 c87 c88 (.int .i64 2) u90 u91 u92 u93 u94 u95 u96 u97 u98 u99 (q20 u100 u101 u102 u103 u104 u105 u106 c107 c108 c109 c110 c111 c112 c113 c114 c115 c116 c117 c118 c119 (c120 :: c121 :: c122 :: c123 :: c124 :: c125 :: []))))))), []⟩ wc := by
  have hu42 := Try.underlying42
  have hu38 := Try.underlying38
  conv => arg 2; whnf
  unfold q20
  unfold HJi46 at hJi
  go_wp2
  have XD := Aside0.mk X7.out.drew
  refine start_ (n := 15) (S := fun w' => w'.cell? ⟨gm, 0, none⟩ = some (.int .i64 T0) ∧ w'.cell? ⟨gm, 1, none⟩ = some (.int .i64 T1) ∧ w'.cell? ⟨gm, 2, none⟩ = some (.int .i64 T2) ∧ w'.cell? ⟨gm, 3, none⟩ = some (.int .i64 T3) ∧ w'.cell? ⟨gb, 0, none⟩ = some (.int .i64 L0) ∧ w'.cell? ⟨gb, 1, none⟩ = some (.int .i64 L1) ∧ w'.cell? ⟨gb, 2, none⟩ = some (.int .i64 L2) ∧ w'.cell? ⟨gb, 3, none⟩ = some (.int .i64 L3)) (ds := [14]) #[false, false, false, false, false, false, false, false, false, false, false, false, false, false, false] (by kernel_rfl) rfl rfl ⟨(blk_cell XD.out.at1 0).trans rfl, (blk_cell XD.out.at1 1).trans rfl, (blk_cell XD.out.at1 2).trans rfl, (blk_cell XD.out.at1 3).trans rfl, (blk_cell XD.out.at0 0).trans rfl, (blk_cell XD.out.at0 1).trans rfl, (blk_cell XD.out.at0 2).trans rfl, (blk_cell XD.out.at0 3).trans rfl⟩ (fun hHeld => ?_)
  refine pure_ (i := 0) (N := some 92) (v := ?_) (a' := ?_) #[true, false, false, false, false, false, false, false, false, false, false, false, false, false, false] rfl rfl (by kernel_rfl) (fun _ _ _ h => h) (Or.inl ⟨by rfl, ?_⟩) ?_ ?_
  rotate_left
  · intro w'
    go_simp
    with_reducible rfl
  rotate_left
  · simp only [Act.put, sa_, sz_, ss_, i64_w, i32_w]
    rfl
  refine pure_ (i := 1) (N := some 93) (v := ?_) (a' := ?_) #[true, true, false, false, false, false, false, false, false, false, false, false, false, false, false] rfl rfl (by kernel_rfl) (fun _ _ _ h => h) (Or.inl ⟨by rfl, ?_⟩) ?_ ?_
  rotate_left
  · intro w'
    go_simp
    with_reducible rfl
  rotate_left
  · simp only [Act.put, sa_, sz_, ss_, i64_w, i32_w]
    rfl
  refine pure_ (i := 2) (N := some 94) (v := ?_) (a' := ?_) #[true, true, true, false, false, false, false, false, false, false, false, false, false, false, false] rfl rfl (by kernel_rfl) (fun _ _ _ h => h) (Or.inl ⟨by rfl, ?_⟩) ?_ ?_
  rotate_left
  · intro w'
    go_simp
    with_reducible rfl
  rotate_left
  · simp only [Act.put, sa_, sz_, ss_, i64_w, i32_w]
    rfl
  refine pure_ (i := 3) (N := some 95) (v := ?_) (a' := ?_) #[true, true, true, true, false, false, false, false, false, false, false, false, false, false, false] rfl rfl (by kernel_rfl) (fun _ _ _ h => h) (Or.inl ⟨by rfl, ?_⟩) ?_ ?_
  rotate_left
  · intro w'
    go_simp
    with_reducible rfl
  rotate_left
  · simp only [Act.put, sa_, sz_, ss_, i64_w, i32_w]
    rfl
  refine pure_ (i := 5) (N := some 97) (v := ?_) (a' := ?_) #[true, true, true, true, false, true, false, false, false, false, false, false, false, false, false] rfl rfl (by kernel_rfl) (fun _ _ _ h => h) (Or.inl ⟨by rfl, ?_⟩) ?_ ?_
  rotate_left
  · intro w'
    go_simp
    with_reducible rfl
  rotate_left
  · simp only [Act.put, sa_, sz_, ss_, i64_w, i32_w]
    rfl
  refine pure_ (i := 6) (N := some 98) (v := ?_) (a' := ?_) #[true, true, true, true, false, true, true, false, false, false, false, false, false, false, false] rfl rfl (by kernel_rfl) (fun _ _ _ h => h) (Or.inl ⟨by rfl, ?_⟩) ?_ ?_
  rotate_left
  · intro w'
    go_simp
    with_reducible rfl
  rotate_left
  · simp only [Act.put, sa_, sz_, ss_, i64_w, i32_w]
    rfl
  refine pure_ (i := 7) (N := some 99) (v := ?_) (a' := ?_) #[true, true, true, true, false, true, true, true, false, false, false, false, false, false, false] rfl rfl (by kernel_rfl) (fun _ _ _ h => h) (Or.inl ⟨by rfl, ?_⟩) ?_ ?_
  rotate_left
  · intro w'
    go_simp
    with_reducible rfl
  rotate_left
  · simp only [Act.put, sa_, sz_, ss_, i64_w, i32_w]
    rfl
  refine pure_ (i := 8) (N := some 100) (v := ?_) (a' := ?_) #[true, true, true, true, false, true, true, true, true, false, false, false, false, false, false] rfl rfl (by kernel_rfl) (fun _ _ _ h => h) (Or.inl ⟨by rfl, ?_⟩) ?_ ?_
  rotate_left
  · intro w'
    go_simp
    with_reducible rfl
  rotate_left
  · simp only [Act.put, sa_, sz_, ss_, i64_w, i32_w]
    rfl
  refine pure_ (i := 9) (N := some 101) (v := ?_) (a' := ?_) #[true, true, true, true, false, true, true, true, true, true, false, false, false, false, false] rfl rfl (by kernel_rfl) (fun _ _ _ h => h) (Or.inl ⟨by rfl, ?_⟩) ?_ ?_
  rotate_left
  · intro w'
    go_simp
    with_reducible rfl
  rotate_left
  · simp only [Act.put, sa_, sz_, ss_, i64_w, i32_w]
    rfl
  refine pure_ (i := 12) (N := some 104) (v := ?_) (a' := ?_) #[true, true, true, true, false, true, true, true, true, true, false, false, true, false, false] rfl rfl (by kernel_rfl) (fun _ _ _ h => h) (Or.inl ⟨by rfl, ?_⟩) ?_ ?_
  rotate_left
  · intro w'
    go_simp
    with_reducible rfl
  rotate_left
  · simp only [Act.put, sa_, sz_, ss_, i64_w, i32_w]
    rfl
  refine take_ (i := 4) (N := some 96) (v := ?_) (a' := ?_) #[true, true, true, true, true, true, true, true, true, true, false, false, true, false, false] rfl rfl (by kernel_rfl) (fun _ _ _ h => h) (Or.inl ⟨by rfl, ?_⟩) hHeld ?_ ?_
  rotate_left
  · rintro w' ⟨s0, s1, s2, s3, s4, s5, s6, s7⟩
    go_simp
    with_reducible rfl
  rotate_left
  · simp only [Act.put, sa_, sz_, ss_, i64_w, i32_w]
    rfl
  refine take_ (i := 10) (N := some 102) (v := ?_) (a' := ?_) #[true, true, true, true, true, true, true, true, true, true, true, false, true, false, false] rfl rfl (by kernel_rfl) (fun _ _ _ h => h) (Or.inl ⟨by rfl, ?_⟩) hHeld ?_ ?_
  rotate_left
  · rintro w' ⟨s0, s1, s2, s3, s4, s5, s6, s7⟩
    go_simp
    with_reducible rfl
  rotate_left
  · simp only [Act.put, sa_, sz_, ss_, i64_w, i32_w]
    rfl
  refine one_ (i := 11) (N := some 103) #[true, true, true, true, true, true, true, true, true, true, true, true, true, false, false] rfl rfl (by kernel_rfl) (by decide) (fun K hK => ?_)
  refine goes_ Try.func69 (by kernel_rfl) rfl #[.pointer (some ⟨gw, 0, none⟩), .int .i64 L2, .int .i64 (wrap64 (-q)), .int .i64 T2] (by rfl) rfl rfl (by simp only [List.map_toArray, List.map_cons, List.map_nil]; rfl) ?_
  with_reducible refine (HB8.cellI XD.out H2.out).mono ?_
  rintro e w8 ⟨rfl, hX⟩
  refine ⟨_, rfl, ?_⟩
  have X8 := Aside0.mk hX
  clear hX
  refine hK.out _ _ ⟨(blk_cell X8.out.at1 0).trans rfl, (blk_cell X8.out.at1 1).trans rfl, (blk_cell X8.out.at1 2).trans rfl, (blk_cell X8.out.at1 3).trans rfl, (blk_cell X8.out.at0 0).trans rfl, (blk_cell X8.out.at0 1).trans rfl, (blk_cell X8.out.at0 2).trans rfl, (blk_cell X8.out.at0 3).trans rfl⟩ (fun hHeld => ?_)
  clear hK K
  refine norm_ (a' := ?_) ?_ ?_
  rotate_left
  · show Act.put _ (some 103) _ = _
    simp only [Act.put, sa_, sz_, ss_, i64_w, i32_w]
    rfl
  refine pure_ (i := 13) (N := some 105) (v := ?_) (a' := ?_) #[true, true, true, true, true, true, true, true, true, true, true, true, true, true, false] rfl rfl (by kernel_rfl) (fun _ _ _ h => h) (Or.inl ⟨by rfl, ?_⟩) ?_ ?_
  rotate_left
  · intro w'
    go_simp
    with_reducible rfl
  rotate_left
  · simp only [Act.put, sa_, sz_, ss_, i64_w, i32_w]
    rfl
  refine last_ (i := 14) (N := none) #[true, true, true, true, true, true, true, true, true, true, true, true, true, true, true] rfl rfl (by kernel_rfl) (by decide) (fun K hK => ?_)
  obtain ⟨⟨q0x8, q1x8, q2x8, q3x8, q4x8, q5x8, q6x8, q7x8⟩, z0x8, z1x8, z2x8, z3x8, z4x8, z5x8, z6x8, z7x8⟩ := cells8 X8.out.at1
  refine skip_ (w1 := ?_) (by rfl) rfl ?_ ?_
  rotate_left
  · go_simp
    rfl
  refine hK.out _ _ ?_
  clear hK K
  refine done_ (by kernel_rfl) ?_
  generalize hw9 : (World.setCell w8 ⟨gm, 6, none⟩ (.int .i64 x2)) = w9
  have X9 := Aside0.mk (show (HB8 71 w.heap.size w w9 gw (ms ++ [⟨1, q⟩]) (gs ++ [q]) o2 [(gb, #[.int .i64 L0, .int .i64 L1, .int .i64 L2, .int .i64 L3], 38), (gm, #[.int .i64 T0, .int .i64 T1, .int .i64 T2, .int .i64 T3, .int .i64 x0, .int .i64 x1, .int .i64 x2, .int .i64 L3], 42), (gx, #[.int .i8 2, .slice A1_ xs.length c1_, .int .i64 i], 101), (gy, #[.int .i8 3, .slice A2_ ys.length c2_, .int .i64 j], 101)]) from hw9 ▸ HB8.set1' X8.out ⟨NB.out.1, ne2 NB.out.2.1 NB.out.2.2⟩ 6 (.int .i64 x2) rfl)
  clear hw9
  go_wp2
  go_roundg k2
  case measure => omega
  case rel => exact Or.inr (Or.inr (Or.inr (Or.inl ⟨rfl, ⟨by have := HK2.out; omega⟩, X9⟩)))
theorem X8_I3 {k2 : Nat} {xs ys : List Int} {A1_ A2_ : Option Addr} {c1_ c2_ : Nat} {w wc : World} {gm gw gx gy gb : Nat} {T0 T1 T2 T3 L0 L1 L2 L3 i j q x0 x1 x2 x3 : Int} {o0 o1 o2 o3 : Bool} {ms : List S52} {gs : List Int} {R : Ending → World → Prop} {Ji : Nat → Act → World → Prop} {Ki K2 K3 K6 : Act → World → Prop} {c0 c1 c2 c4 c5 c6 c7 c8 c10 c11 c13 c16 c17 c18 c19 c20 c21 c22 c23 c24 c25 c26 c27 c28 c29 c30 c31 c32 c33 c34 c35 c36 c37 c38 c39 c40 c41 c42 c43 c44 c45 c46 c47 c48 c49 c50 c51 c52 c53 c54 c55 c56 c57 c58 c59 c60 c61 c62 c63 c64 c65 c66 c67 c68 c69 c70 c71 c72 c73 c74 c75 c76 c77 c78 c79 c80 c81 c82 c83 c84 c85 c86 c87 c88 c107 c108 c109 c110 c111 c112 c113 c114 c115 c116 c117 c118 c119 c120 c121 c122 c123 c124 c125 : Value} {u15 u90 u91 u92 u93 u94 u95 u96 u97 u98 u99 u100 u101 u102 u103 u104 u105 u106 : Value} (hJi : HJi46 xs ys A1_ A2_ c1_ c2_ w gm gw gx gy gb T0 T1 T2 T3 L0 L1 L2 L3 i j q x0 x1 x2 x3 o0 o1 o2 o3 ms gs Ji c0 c1 c2 c4 c5 c6 c7 c8 c10 c11 c13 c16 c17 c18 c19 c20 c21 c22 c23 c24 c25 c26 c27 c28 c29 c30 c31 c32 c33 c34 c35 c36 c37 c38 c39 c40 c41 c42 c43 c44 c45 c46 c47 c48 c49 c50 c51 c52 c53 c54 c55 c56 c57 c58 c59 c60 c61 c62 c63 c64 c65 c66 c67 c68 c69 c70 c71 c72 c73 c74 c75 c76 c77 c78 c79 c80 c81 c82 c83 c84 c85 c86 c87 c88 c107 c108 c109 c110 c111 c112 c113 c114 c115 c116 c117 c118 c119 c120 c121 c122 c123 c124 c125) (hKi : ∀ (a' : Act) (w' : World), Handed Ji (k2 + 1) a' w' → Ki a' w')
    (NB : Aside0 (gb ≠ gm ∧ gx ≠ gm ∧ gy ≠ gm)) (H3 : Aside0 (implC o2 L3 (wrap64 (-q)) T3 = some (x3, o3))) (HK2 : Aside0 (k2 + 1 + 3 = 5)) (X7 : Aside0 (HB8 71 w.heap.size w wc gw (ms ++ [⟨1, q⟩]) (gs ++ [q]) o2 [(gb, #[.int .i64 L0, .int .i64 L1, .int .i64 L2, .int .i64 L3], 38), (gm, #[.int .i64 T0, .int .i64 T1, .int .i64 T2, .int .i64 T3, .int .i64 x0, .int .i64 x1, .int .i64 x2, .int .i64 L3], 42), (gx, #[.int .i8 2, .slice A1_ xs.length c1_, .int .i64 i], 101), (gy, #[.int .i8 3, .slice A2_ ys.length c2_, .int .i64 j], 101)])) :
    Code.wp Try.prog inner46 (Exit.then Ki (Exit.inBlock 5 (Exit.then K6 (Exit.inBlock 4 (Exit.inBlock 3 (Exit.then K2 (Exit.inBlock 2 (Exit.then K3 (bodyPost Try.prog Try.f46 R))))))))) ⟨List.toArray (q20 c0 c1 c2 (.pointer (some ⟨gm, 0, none⟩)) c4 c5 c6 c7 c8 (.pointer (some ⟨gw, 0, none⟩)) c10 c11 (.int .i64 q) c13 (.pointer (some ⟨gb, 0, none⟩)) u15 c16 c17 c18 c19 (q20 c20 c21 c22 c23 c24 c25 c26 c27 c28 c29 c30 c31 c32 c33 c34 c35 c36 c37 c38 c39 (q20 c40 c41 c42 c43 c44 c45 c46 c47 c48 c49 c50 c51 c52 c53 c54 c55 c56 c57 c58 c59 (q20 c60 c61 c62 c63 c64 c65 c66 c67 c68 c69 c70 c71 c72 c73 c74 c75 c76 c77 c78 c79 (q20 c80 c81 c82 c83 c84 c85 c86 c87 c88 (.int .i64 3) u90 u91 u92 u93 u94 u95 u96 u97 u98 u99 (q20 u100 u101 u102 u103 u104 u105 u106 c107 c108 c109 c110 c111 c112 c113 c114 c115 c116 c117 c118 c119 (c120 :: c121 :: c122 :: c123 :: c124 :: c125 :: []))))))), []⟩ wc := by
  have hu42 := Try.underlying42
  have hu38 := Try.underlying38
  conv => arg 2; whnf
  unfold q20
  unfold HJi46 at hJi
  go_wp2
  have XD := Aside0.mk X7.out.drew
  refine start_ (n := 15) (S := fun w' => w'.cell? ⟨gm, 0, none⟩ = some (.int .i64 T0) ∧ w'.cell? ⟨gm, 1, none⟩ = some (.int .i64 T1) ∧ w'.cell? ⟨gm, 2, none⟩ = some (.int .i64 T2) ∧ w'.cell? ⟨gm, 3, none⟩ = some (.int .i64 T3) ∧ w'.cell? ⟨gb, 0, none⟩ = some (.int .i64 L0) ∧ w'.cell? ⟨gb, 1, none⟩ = some (.int .i64 L1) ∧ w'.cell? ⟨gb, 2, none⟩ = some (.int .i64 L2) ∧ w'.cell? ⟨gb, 3, none⟩ = some (.int .i64 L3)) (ds := [14]) #[false, false, false, false, false, false, false, false, false, false, false, false, false, false, false] (by kernel_rfl) rfl rfl ⟨(blk_cell XD.out.at1 0).trans rfl, (blk_cell XD.out.at1 1).trans rfl, (blk_cell XD.out.at1 2).trans rfl, (blk_cell XD.out.at1 3).trans rfl, (blk_cell XD.out.at0 0).trans rfl, (blk_cell XD.out.at0 1).trans rfl, (blk_cell XD.out.at0 2).trans rfl, (blk_cell XD.out.at0 3).trans rfl⟩ (fun hHeld => ?_)
  refine pure_ (i := 0) (N := some 92) (v := ?_) (a' := ?_) #[true, false, false, false, false, false, false, false, false, false, false, false, false, false, false] rfl rfl (by kernel_rfl) (fun _ _ _ h => h) (Or.inl ⟨by rfl, ?_⟩) ?_ ?_
  rotate_left
  · intro w'
    go_simp
    with_reducible rfl
  rotate_left
  · simp only [Act.put, sa_, sz_, ss_, i64_w, i32_w]
    rfl
  refine pure_ (i := 1) (N := some 93) (v := ?_) (a' := ?_) #[true, true, false, false, false, false, false, false, false, false, false, false, false, false, false] rfl rfl (by kernel_rfl) (fun _ _ _ h => h) (Or.inl ⟨by rfl, ?_⟩) ?_ ?_
  rotate_left
  · intro w'
    go_simp
    with_reducible rfl
  rotate_left
  · simp only [Act.put, sa_, sz_, ss_, i64_w, i32_w]
    rfl
  refine pure_ (i := 2) (N := some 94) (v := ?_) (a' := ?_) #[true, true, true, false, false, false, false, false, false, false, false, false, false, false, false] rfl rfl (by kernel_rfl) (fun _ _ _ h => h) (Or.inl ⟨by rfl, ?_⟩) ?_ ?_
  rotate_left
  · intro w'
    go_simp
    with_reducible rfl
  rotate_left
  · simp only [Act.put, sa_, sz_, ss_, i64_w, i32_w]
    rfl
  refine pure_ (i := 3) (N := some 95) (v := ?_) (a' := ?_) #[true, true, true, true, false, false, false, false, false, false, false, false, false, false, false] rfl rfl (by kernel_rfl) (fun _ _ _ h => h) (Or.inl ⟨by rfl, ?_⟩) ?_ ?_
  rotate_left
  · intro w'
    go_simp
    with_reducible rfl
  rotate_left
  · simp only [Act.put, sa_, sz_, ss_, i64_w, i32_w]
    rfl
  refine pure_ (i := 5) (N := some 97) (v := ?_) (a' := ?_) #[true, true, true, true, false, true, false, false, false, false, false, false, false, false, false] rfl rfl (by kernel_rfl) (fun _ _ _ h => h) (Or.inl ⟨by rfl, ?_⟩) ?_ ?_
  rotate_left
  · intro w'
    go_simp
    with_reducible rfl
  rotate_left
  · simp only [Act.put, sa_, sz_, ss_, i64_w, i32_w]
    rfl
  refine pure_ (i := 6) (N := some 98) (v := ?_) (a' := ?_) #[true, true, true, true, false, true, true, false, false, false, false, false, false, false, false] rfl rfl (by kernel_rfl) (fun _ _ _ h => h) (Or.inl ⟨by rfl, ?_⟩) ?_ ?_
  rotate_left
  · intro w'
    go_simp
    with_reducible rfl
  rotate_left
  · simp only [Act.put, sa_, sz_, ss_, i64_w, i32_w]
    rfl
  refine pure_ (i := 7) (N := some 99) (v := ?_) (a' := ?_) #[true, true, true, true, false, true, true, true, false, false, false, false, false, false, false] rfl rfl (by kernel_rfl) (fun _ _ _ h => h) (Or.inl ⟨by rfl, ?_⟩) ?_ ?_
  rotate_left
  · intro w'
    go_simp
    with_reducible rfl
  rotate_left
  · simp only [Act.put, sa_, sz_, ss_, i64_w, i32_w]
    rfl
  refine pure_ (i := 8) (N := some 100) (v := ?_) (a' := ?_) #[true, true, true, true, false, true, true, true, true, false, false, false, false, false, false] rfl rfl (by kernel_rfl) (fun _ _ _ h => h) (Or.inl ⟨by rfl, ?_⟩) ?_ ?_
  rotate_left
  · intro w'
    go_simp
    with_reducible rfl
  rotate_left
  · simp only [Act.put, sa_, sz_, ss_, i64_w, i32_w]
    rfl
  refine pure_ (i := 9) (N := some 101) (v := ?_) (a' := ?_) #[true, true, true, true, false, true, true, true, true, true, false, false, false, false, false] rfl rfl (by kernel_rfl) (fun _ _ _ h => h) (Or.inl ⟨by rfl, ?_⟩) ?_ ?_
  rotate_left
  · intro w'
    go_simp
    with_reducible rfl
  rotate_left
  · simp only [Act.put, sa_, sz_, ss_, i64_w, i32_w]
    rfl
  refine pure_ (i := 12) (N := some 104) (v := ?_) (a' := ?_) #[true, true, true, true, false, true, true, true, true, true, false, false, true, false, false] rfl rfl (by kernel_rfl) (fun _ _ _ h => h) (Or.inl ⟨by rfl, ?_⟩) ?_ ?_
  rotate_left
  · intro w'
    go_simp
    with_reducible rfl
  rotate_left
  · simp only [Act.put, sa_, sz_, ss_, i64_w, i32_w]
    rfl
  refine take_ (i := 4) (N := some 96) (v := ?_) (a' := ?_) #[true, true, true, true, true, true, true, true, true, true, false, false, true, false, false] rfl rfl (by kernel_rfl) (fun _ _ _ h => h) (Or.inl ⟨by rfl, ?_⟩) hHeld ?_ ?_
  rotate_left
  · rintro w' ⟨s0, s1, s2, s3, s4, s5, s6, s7⟩
    go_simp
    with_reducible rfl
  rotate_left
  · simp only [Act.put, sa_, sz_, ss_, i64_w, i32_w]
    rfl
  refine take_ (i := 10) (N := some 102) (v := ?_) (a' := ?_) #[true, true, true, true, true, true, true, true, true, true, true, false, true, false, false] rfl rfl (by kernel_rfl) (fun _ _ _ h => h) (Or.inl ⟨by rfl, ?_⟩) hHeld ?_ ?_
  rotate_left
  · rintro w' ⟨s0, s1, s2, s3, s4, s5, s6, s7⟩
    go_simp
    with_reducible rfl
  rotate_left
  · simp only [Act.put, sa_, sz_, ss_, i64_w, i32_w]
    rfl
  refine one_ (i := 11) (N := some 103) #[true, true, true, true, true, true, true, true, true, true, true, true, true, false, false] rfl rfl (by kernel_rfl) (by decide) (fun K hK => ?_)
  refine goes_ Try.func69 (by kernel_rfl) rfl #[.pointer (some ⟨gw, 0, none⟩), .int .i64 L3, .int .i64 (wrap64 (-q)), .int .i64 T3] (by rfl) rfl rfl (by simp only [List.map_toArray, List.map_cons, List.map_nil]; rfl) ?_
  with_reducible refine (HB8.cellI XD.out H3.out).mono ?_
  rintro e w8 ⟨rfl, hX⟩
  refine ⟨_, rfl, ?_⟩
  have X8 := Aside0.mk hX
  clear hX
  refine hK.out _ _ ⟨(blk_cell X8.out.at1 0).trans rfl, (blk_cell X8.out.at1 1).trans rfl, (blk_cell X8.out.at1 2).trans rfl, (blk_cell X8.out.at1 3).trans rfl, (blk_cell X8.out.at0 0).trans rfl, (blk_cell X8.out.at0 1).trans rfl, (blk_cell X8.out.at0 2).trans rfl, (blk_cell X8.out.at0 3).trans rfl⟩ (fun hHeld => ?_)
  clear hK K
  refine norm_ (a' := ?_) ?_ ?_
  rotate_left
  · show Act.put _ (some 103) _ = _
    simp only [Act.put, sa_, sz_, ss_, i64_w, i32_w]
    rfl
  refine pure_ (i := 13) (N := some 105) (v := ?_) (a' := ?_) #[true, true, true, true, true, true, true, true, true, true, true, true, true, true, false] rfl rfl (by kernel_rfl) (fun _ _ _ h => h) (Or.inl ⟨by rfl, ?_⟩) ?_ ?_
  rotate_left
  · intro w'
    go_simp
    with_reducible rfl
  rotate_left
  · simp only [Act.put, sa_, sz_, ss_, i64_w, i32_w]
    rfl
  refine last_ (i := 14) (N := none) #[true, true, true, true, true, true, true, true, true, true, true, true, true, true, true] rfl rfl (by kernel_rfl) (by decide) (fun K hK => ?_)
  obtain ⟨⟨q0x8, q1x8, q2x8, q3x8, q4x8, q5x8, q6x8, q7x8⟩, z0x8, z1x8, z2x8, z3x8, z4x8, z5x8, z6x8, z7x8⟩ := cells8 X8.out.at1
  refine skip_ (w1 := ?_) (by rfl) rfl ?_ ?_
  rotate_left
  · go_simp
    rfl
  refine hK.out _ _ ?_
  clear hK K
  refine done_ (by kernel_rfl) ?_
  generalize hw9 : (World.setCell w8 ⟨gm, 7, none⟩ (.int .i64 x3)) = w9
  have X9 := Aside0.mk (show (HB8 71 w.heap.size w w9 gw (ms ++ [⟨1, q⟩]) (gs ++ [q]) o3 [(gb, #[.int .i64 L0, .int .i64 L1, .int .i64 L2, .int .i64 L3], 38), (gm, #[.int .i64 T0, .int .i64 T1, .int .i64 T2, .int .i64 T3, .int .i64 x0, .int .i64 x1, .int .i64 x2, .int .i64 x3], 42), (gx, #[.int .i8 2, .slice A1_ xs.length c1_, .int .i64 i], 101), (gy, #[.int .i8 3, .slice A2_ ys.length c2_, .int .i64 j], 101)]) from hw9 ▸ HB8.set1' X8.out ⟨NB.out.1, ne2 NB.out.2.1 NB.out.2.2⟩ 7 (.int .i64 x3) rfl)
  clear hw9
  go_wp2
  go_roundg k2
  case measure => omega
  case rel => exact Or.inr (Or.inr (Or.inr (Or.inr (⟨rfl, ⟨by have := HK2.out; omega⟩, X9⟩))))
theorem X8_G {xs ys : List Int} {A1_ A2_ : Option Addr} {c1_ c2_ : Nat} {w wc : World} {gm gw gx gy : Nat} {T0 T1 T2 T3 L0 L1 L2 L3 i j : Int} {ms : List S52} {gs : List Int} {R : Ending → World → Prop} {K2 K3 : Act → World → Prop} {c0 c4 c5 c8 c16 c17 c18 c19 c20 c21 c22 c23 c24 c25 c26 c27 c28 c29 c30 c31 c32 c33 c34 c35 c36 c37 c38 c39 c40 c41 c42 c43 c44 c45 c46 c47 c48 c49 c123 c124 c125 : Value}  {k k1 : Nat} {s : ESt} {J : Nat → Act → World → Prop} {lf : Bool} {q x0 x1 x2 x3 : Int} {o0 o1 o2 o3 : Bool} {u6 u7 u14 u15 u50 u51 u52 u53 u54 u55 u56 u57 u58 u59 u60 u61 u62 u63 u64 u65 u66 u67 u68 u69 u70 u71 u72 u73 u74 u75 u76 u77 u78 u79 u80 u81 u82 u83 u84 u85 u86 u87 u88 u89 u90 u91 u92 u93 u94 u95 u96 u97 u98 u99 u100 u101 u102 u103 u104 u105 u106 u107 u108 u109 u110 u111 u112 u113 u114 u115 u116 u117 u118 u119 u120 u121 u122 : Value} (hJ : HJ46 k xs ys A1_ A2_ c1_ c2_ s w gm gw gx gy J c0 c4 c5 c8 c16 c17 c18 c19 c20 c21 c22 c23 c24 c25 c26 c27 c28 c29 c30 c31 c32 c33 c34 c35 c36 c37 c38 c39 c40 c41 c42 c43 c44 c45 c46 c47 c48 c49 c123 c124 c125) (hK : ∀ (a' : Act) (w' : World), Handed J (k1 + 1) a' w' → K2 a' w') (HR : Aside0 ((Kd.int .i64).C w A1_ xs.length xs)) (HR2 : Aside0 ((Kd.int .i64).C w A2_ ys.length ys)) (HC : Aside0 (xs.length ≤ c1_)) (HC2 : Aside0 (ys.length ≤ c2_)) (CB : Aside0 (((ms.length < 1000000 ∧ gs.length < 1000000) ∧ 0 ≤ i ∧ i < 1000000 ∧ 0 ≤ j ∧ j < 1000000) ∧ xs.length < 1000000 ∧ ys.length < 1000000)) (NE : Aside0 (gx ≠ gm ∧ gy ≠ gm ∧ gx ≠ gy)) (X0 : Aside0 (HB8 71 w.heap.size w wc gw ms gs false [(gm, #[.int .i64 T0, .int .i64 T1, .int .i64 T2, .int .i64 T3, .int .i64 L0, .int .i64 L1, .int .i64 L2, .int .i64 L3], 42), (gx, #[.int .i8 2, .slice A1_ xs.length c1_, .int .i64 i], 101), (gy, #[.int .i8 3, .slice A2_ ys.length c2_, .int .i64 j], 101)])) (hip : 0 < i) (hjp : 0 < j) (H0 : Aside0 (implC (false || decide (40 < (gs.length : Int) + 1)) L0 (wrap64 (-q)) T0 = some (x0, o0))) (H1 : Aside0 (implC o0 L1 (wrap64 (-q)) T1 = some (x1, o1))) (H2 : Aside0 (implC o1 L2 (wrap64 (-q)) T2 = some (x2, o2))) (H3 : Aside0 (implC o2 L3 (wrap64 (-q)) T3 = some (x3, o3))) (HN : Aside0 (runX k xs ys k1 ⟨L0, L1, L2, L3, x0, x1, x2, x3, i, j, lf, ms ++ [⟨1, q⟩], gs ++ [q], o3⟩ = some s)) (HK1 : Aside0 (k1 + 1 ≤ k)) :
    Code.wp Try.prog (tl46 14) (Exit.inBlock 4 (Exit.inBlock 3 (Exit.then K2 (Exit.inBlock 2 (Exit.then K3 (bodyPost Try.prog Try.f46 R)))))) ⟨List.toArray (q20 c0 (.slice A1_ xs.length c1_) (.slice A2_ ys.length c2_) (.pointer (some ⟨gm, 0, none⟩)) c4 c5 u6 u7 c8 (.pointer (some ⟨gw, 0, none⟩)) (.pointer (some ⟨cond lf gx gy, 0, none⟩)) (.pointer (some ⟨cond lf gy gx, 0, none⟩)) (.int .i64 q) (.bool true) u14 u15 c16 c17 c18 c19 (q20 c20 c21 c22 c23 c24 c25 c26 c27 c28 c29 c30 c31 c32 c33 c34 c35 c36 c37 c38 c39 (q20 c40 c41 c42 c43 c44 c45 c46 c47 c48 c49 u50 u51 u52 u53 u54 u55 u56 u57 u58 u59 (q20 u60 u61 u62 u63 u64 u65 u66 u67 u68 u69 u70 u71 u72 u73 u74 u75 u76 u77 u78 u79 (q20 u80 u81 u82 u83 u84 u85 u86 u87 u88 u89 u90 u91 u92 u93 u94 u95 u96 u97 u98 u99 (q20 u100 u101 u102 u103 u104 u105 u106 u107 u108 u109 u110 u111 u112 u113 u114 u115 u116 u117 u118 u119 (u120 :: u121 :: u122 :: c123 :: c124 :: c125 :: []))))))), []⟩ wc := by
  have hu42 := Try.underlying42
  have hu38 := Try.underlying38
  conv => arg 2; whnf
  unfold q20
  unfold HJ46 at hJ
  have hi0 : decide ((0 : Int) < i) = true := decide_eq_true hip
  have hj0 : decide ((0 : Int) < j) = true := decide_eq_true hjp
  clear hip hjp
  go_upto_region 14 with (fail)
  go_cut [68] (fun v68 wc => v68 = .bool true ∧ Aside0 (HB8 71 w.heap.size w wc gw ms gs false [(gm, #[.int .i64 T0, .int .i64 T1, .int .i64 T2, .int .i64 T3, .int .i64 L0, .int .i64 L1, .int .i64 L2, .int .i64 L3], 42), (gx, #[.int .i8 2, .slice A1_ xs.length c1_, .int .i64 i], 101), (gy, #[.int .i8 3, .slice A2_ ys.length c2_, .int .i64 j], 101)]))
  case first =>
    obtain ⟨sx0, sx1, sx2⟩ := X0.out.srcX
    obtain ⟨sy0, sy1, sy2⟩ := X0.out.srcY
    cases lf with
    | true =>
      simp only [cond_true]
      go_wp2
      go_meet
      exact ⟨rfl, X0⟩
    | false =>
      simp only [cond_false]
      go_wp2
      go_meet
      exact ⟨rfl, X0⟩
  case rest =>
  obtain ⟨rfl, X1⟩ := hcut
  clear X0 hi0 hj0
  obtain ⟨⟨q0x1, q1x1, q2x1, q3x1, q4x1, q5x1, q6x1, q7x1⟩, z0x1, z1x1, z2x1, z3x1, z4x1, z5x1, z6x1, z7x1⟩ := cells8 X1.out.at0
  go_wp2_with (first | (go_at_call 68; (with_reducible refine (impl_give w.heap.size gw ms gs false q w _ ?u1 ?u2 ?u3 CB.out.1.1.1 CB.out.1.1.2).mono ?_); (case u1 => exact X1.out.n); (case u2 => exact X1.out.bel); (case u3 => exact X1.out.sz); rintro e w4 ⟨rfl, hn, hb, hk⟩; have X4 := Aside0.mk (X1.out.note hn hb hk); clear hn hb hk; obtain ⟨⟨q0x4, q1x4, q2x4, q3x4, q4x4, q5x4, q6x4, q7x4⟩, z0x4, z1x4, z2x4, z3x4, z4x4, z5x4, z6x4, z7x4⟩ := cells8 X4.out.at0) | ((with_reducible refine gate_dst (N := 14) rfl ?_); refine box_event ?hg (N := 14) ?hd (cs := #[.int .i64 0, .int .i64 0, .int .i64 0, .int .i64 0]) (t := 38) ?hr ?_; (case hd => rfl); (case hg => rfl); (case hr => first | (go_simp; done) | (go_simp; rfl)); intro gb hgb w5 hbox hb; have X5 := Aside0.mk (X4.out.box (U := 38) hgb hbox hb (by decide)); have NB := Aside0.mk (show gb ≠ gm ∧ gx ≠ gm ∧ gy ≠ gm from ⟨by rw [hgb]; exact Nat.ne_of_gt (blk_lt X4.out.at0), NE.out.1, NE.out.2.1⟩); have NB2 := Aside0.mk (show gx ≠ gb ∧ gy ≠ gb from ⟨by rw [hgb]; exact Nat.ne_of_lt (blk_lt X4.out.at1), by rw [hgb]; exact Nat.ne_of_lt (blk_lt X4.out.at2)⟩); clear hgb hbox hb; have p0x5 := (blk_cell X5.out.at0 0).trans (show _ = some (Value.int .i64 _) from rfl); have r0x5 := blk_frozen X5.out.at0 0; have p1x5 := (blk_cell X5.out.at0 1).trans (show _ = some (Value.int .i64 _) from rfl); have r1x5 := blk_frozen X5.out.at0 1; have p2x5 := (blk_cell X5.out.at0 2).trans (show _ = some (Value.int .i64 _) from rfl); have r2x5 := blk_frozen X5.out.at0 2; have p3x5 := (blk_cell X5.out.at0 3).trans (show _ = some (Value.int .i64 _) from rfl); have r3x5 := blk_frozen X5.out.at0 3; obtain ⟨⟨q0y5, q1y5, q2y5, q3y5, q4y5, q5y5, q6y5, q7y5⟩, z0y5, z1y5, z2y5, z3y5, z4y5, z5y5, z6y5, z7y5⟩ := cells8 X5.out.at1) | ((with_reducible refine gate_store (t := 38) (p := 14) rfl ?_); refine store_event (t := 38) (p := 14) (v := ?vo_w6_7) (w1 := (World.setCell (World.setCell (World.setCell (World.setCell w5 ⟨gb, 0, none⟩ (.int .i64 L0)) ⟨gb, 1, none⟩ (.int .i64 L1)) ⟨gb, 2, none⟩ (.int .i64 L2)) ⟨gb, 3, none⟩ (.int .i64 L3))) ?hg ?ho ?hn ?hr ?_; (case ho => rfl); (case hg => rfl); (case hn => rfl); (case hr => first | (go_simp; done) | (go_simp; rfl)); intro w6 hw; have X6 := Aside0.mk (X5.out.put4_0 (ne3 (Ne.symm NB.out.1) NB2.out.1 NB2.out.2) hw); clear hw))
  clear X1 X4 X5
  go_loopg [89] 5 (fun kq v89 w' => (v89 = .int .i64 0 ∧ Aside0 (kq + 0 = 5) ∧ Aside0 (HB8 71 w.heap.size w w' gw (ms ++ [⟨1, q⟩]) (gs ++ [q]) (false || decide (40 < (gs.length : Int) + 1)) [(gb, #[.int .i64 L0, .int .i64 L1, .int .i64 L2, .int .i64 L3], 38), (gm, #[.int .i64 T0, .int .i64 T1, .int .i64 T2, .int .i64 T3, .int .i64 L0, .int .i64 L1, .int .i64 L2, .int .i64 L3], 42), (gx, #[.int .i8 2, .slice A1_ xs.length c1_, .int .i64 i], 101), (gy, #[.int .i8 3, .slice A2_ ys.length c2_, .int .i64 j], 101)])) ∨ (v89 = .int .i64 1 ∧ Aside0 (kq + 1 = 5) ∧ Aside0 (HB8 71 w.heap.size w w' gw (ms ++ [⟨1, q⟩]) (gs ++ [q]) o0 [(gb, #[.int .i64 L0, .int .i64 L1, .int .i64 L2, .int .i64 L3], 38), (gm, #[.int .i64 T0, .int .i64 T1, .int .i64 T2, .int .i64 T3, .int .i64 x0, .int .i64 L1, .int .i64 L2, .int .i64 L3], 42), (gx, #[.int .i8 2, .slice A1_ xs.length c1_, .int .i64 i], 101), (gy, #[.int .i8 3, .slice A2_ ys.length c2_, .int .i64 j], 101)])) ∨ (v89 = .int .i64 2 ∧ Aside0 (kq + 2 = 5) ∧ Aside0 (HB8 71 w.heap.size w w' gw (ms ++ [⟨1, q⟩]) (gs ++ [q]) o1 [(gb, #[.int .i64 L0, .int .i64 L1, .int .i64 L2, .int .i64 L3], 38), (gm, #[.int .i64 T0, .int .i64 T1, .int .i64 T2, .int .i64 T3, .int .i64 x0, .int .i64 x1, .int .i64 L2, .int .i64 L3], 42), (gx, #[.int .i8 2, .slice A1_ xs.length c1_, .int .i64 i], 101), (gy, #[.int .i8 3, .slice A2_ ys.length c2_, .int .i64 j], 101)])) ∨ (v89 = .int .i64 3 ∧ Aside0 (kq + 3 = 5) ∧ Aside0 (HB8 71 w.heap.size w w' gw (ms ++ [⟨1, q⟩]) (gs ++ [q]) o2 [(gb, #[.int .i64 L0, .int .i64 L1, .int .i64 L2, .int .i64 L3], 38), (gm, #[.int .i64 T0, .int .i64 T1, .int .i64 T2, .int .i64 T3, .int .i64 x0, .int .i64 x1, .int .i64 x2, .int .i64 L3], 42), (gx, #[.int .i8 2, .slice A1_ xs.length c1_, .int .i64 i], 101), (gy, #[.int .i8 3, .slice A2_ ys.length c2_, .int .i64 j], 101)])) ∨ (v89 = .int .i64 4 ∧ Aside0 (kq + 4 = 5) ∧ Aside0 (HB8 71 w.heap.size w w' gw (ms ++ [⟨1, q⟩]) (gs ++ [q]) o3 [(gb, #[.int .i64 L0, .int .i64 L1, .int .i64 L2, .int .i64 L3], 38), (gm, #[.int .i64 T0, .int .i64 T1, .int .i64 T2, .int .i64 T3, .int .i64 x0, .int .i64 x1, .int .i64 x2, .int .i64 x3], 42), (gx, #[.int .i8 2, .slice A1_ xs.length c1_, .int .i64 i], 101), (gy, #[.int .i8 3, .slice A2_ ys.length c2_, .int .i64 j], 101)])))
  case atStart => exact Or.inl ⟨rfl, ⟨rfl⟩, X6⟩
  case round =>
    rename_i Ji Ki hJi hKi
    rcases hrel with ⟨rfl, HK2, X7⟩ | ⟨rfl, HK2, X7⟩ | ⟨rfl, HK2, X7⟩ | ⟨rfl, HK2, X7⟩ | ⟨rfl, HK2, X7⟩
    · cases gk with
      | zero => exact absurd HK2.out (by omega)
      | succ k2 => exact X8_I0 hJi hKi NB H0 HK2 X7
    · cases gk with
      | zero => exact absurd HK2.out (by omega)
      | succ k2 => exact X8_I1 hJi hKi NB H1 HK2 X7
    · cases gk with
      | zero => exact absurd HK2.out (by omega)
      | succ k2 => exact X8_I2 hJi hKi NB H2 HK2 X7
    · cases gk with
      | zero => exact absurd HK2.out (by omega)
      | succ k2 => exact X8_I3 hJi hKi NB H3 HK2 X7
    · cases gk with
      | zero => exact absurd HK2.out (by omega)
      | succ k2 =>
        have p0x7 := (blk_cell X7.out.at0 0).trans (show _ = some (Value.int .i64 _) from rfl)
        have r0x7 := blk_frozen X7.out.at0 0
        have p1x7 := (blk_cell X7.out.at0 1).trans (show _ = some (Value.int .i64 _) from rfl)
        have r1x7 := blk_frozen X7.out.at0 1
        have p2x7 := (blk_cell X7.out.at0 2).trans (show _ = some (Value.int .i64 _) from rfl)
        have r2x7 := blk_frozen X7.out.at0 2
        have p3x7 := (blk_cell X7.out.at0 3).trans (show _ = some (Value.int .i64 _) from rfl)
        have r3x7 := blk_frozen X7.out.at0 3
        obtain ⟨⟨q0y7, q1y7, q2y7, q3y7, q4y7, q5y7, q6y7, q7y7⟩, z0y7, z1y7, z2y7, z3y7, z4y7, z5y7, z6y7, z7y7⟩ := cells8 X7.out.at1
        go_wp2_with (first | ((with_reducible refine gate_store (t := 38) (p := 108) rfl ?_); refine store_event (t := 38) (p := 108) (v := ?vo_w9_8) (w1 := (World.setCell (World.setCell (World.setCell (World.setCell wr ⟨gm, 0, none⟩ (.int .i64 L0)) ⟨gm, 1, none⟩ (.int .i64 L1)) ⟨gm, 2, none⟩ (.int .i64 L2)) ⟨gm, 3, none⟩ (.int .i64 L3))) ?hg ?ho ?hn ?hr ?_; (case ho => rfl); (case hg => rfl); (case hn => rfl); (case hr => first | (go_simp; done) | (go_simp; rfl)); intro w9 hw; have X9 := Aside0.mk (HB8.putlo_0 (HB8.drop X7.out) (ne2 NE.out.1 NE.out.2.1) hw); clear hw))
        go_roundg k1
        case measure => omega
        case rel => exact ⟨⟨L0, L1, L2, L3, x0, x1, x2, x3, i, j, lf, ms ++ [⟨1, q⟩], gs ++ [q], o3⟩, rfl, rfl, HN, ⟨by have := HK1.out; omega⟩, X9⟩
theorem X8_Q3 {xs ys : List Int} {A1_ A2_ : Option Addr} {c1_ c2_ : Nat} {w wc : World} {gm gw gx gy : Nat} {T0 T1 T2 T3 L0 L1 L2 L3 i j : Int} {ms : List S52} {gs : List Int} {R : Ending → World → Prop} {K2 K3 : Act → World → Prop} {c0 c4 c5 c8 c16 c17 c18 c19 c20 c21 c22 c23 c24 c25 c26 c27 c28 c29 c30 c31 c32 c33 c34 c35 c36 c37 c38 c39 c40 c41 c42 c43 c44 c45 c46 c47 c48 c49 c123 c124 c125 : Value} {lf : Bool} {q : Int} {yes : Bool} {u6 u7 u14 u15 u50 u51 u52 u53 u54 u55 u56 u57 u58 u59 u60 u61 u62 u63 u64 u65 u66 u67 u68 u69 u70 u71 u72 u73 u74 u75 u76 u77 u78 u79 u80 u81 u82 u83 u84 u85 u86 u87 u88 u89 u90 u91 u92 u93 u94 u95 u96 u97 u98 u99 u100 u101 u102 u103 u104 u105 u106 u107 u108 u109 u110 u111 u112 u113 u114 u115 u116 u117 u118 u119 u120 u121 u122 : Value} (HR : Aside0 ((Kd.int .i64).C w A1_ xs.length xs)) (HR2 : Aside0 ((Kd.int .i64).C w A2_ ys.length ys)) (HC : Aside0 (xs.length ≤ c1_)) (HC2 : Aside0 (ys.length ≤ c2_)) (CB : Aside0 (((ms.length < 1000000 ∧ gs.length < 1000000) ∧ 0 ≤ i ∧ i < 1000000 ∧ 0 ≤ j ∧ j < 1000000) ∧ xs.length < 1000000 ∧ ys.length < 1000000)) (NE : Aside0 (gx ≠ gm ∧ gy ≠ gm ∧ gx ≠ gy)) (X0 : Aside0 (HB8 71 w.heap.size w wc gw ms gs false [(gm, #[.int .i64 T0, .int .i64 T1, .int .i64 T2, .int .i64 T3, .int .i64 L0, .int .i64 L1, .int .i64 L2, .int .i64 L3], 42), (gx, #[.int .i8 2, .slice A1_ xs.length c1_, .int .i64 i], 101), (gy, #[.int .i8 3, .slice A2_ ys.length c2_, .int .i64 j], 101)])) (cg : ¬ (yes = true ∧ 0 < i ∧ 0 < j))
    (hnext : Aside0 (∀ (u6 u7 u12 u13 u14 u15 u50 u51 u52 u53 u54 u55 u56 u57 u58 u59 u60 u61 u62 u63 u64 u65 u66 u67 u68 u69 u70 u71 u72 u73 u74 u75 u76 u77 u78 u79 u80 u81 u82 u83 u84 u85 u86 u87 u88 u89 u90 u91 u92 u93 u94 u95 u96 u97 u98 u99 u100 u101 u102 u103 u104 u105 u106 u107 u108 u109 u110 u111 u112 u113 u114 u115 u116 u117 u118 u119 u120 u121 u122 : Value) (wc : World), Aside0 (HB8 71 w.heap.size w wc gw ms gs false [(gm, #[.int .i64 T0, .int .i64 T1, .int .i64 T2, .int .i64 T3, .int .i64 L0, .int .i64 L1, .int .i64 L2, .int .i64 L3], 42), (gx, #[.int .i8 2, .slice A1_ xs.length c1_, .int .i64 i], 101), (gy, #[.int .i8 3, .slice A2_ ys.length c2_, .int .i64 j], 101)]) → Code.wp Try.prog (tl46 23) (Exit.inBlock 4 (Exit.inBlock 3 (Exit.then K2 (Exit.inBlock 2 (Exit.then K3 (bodyPost Try.prog Try.f46 R)))))) ⟨List.toArray (q20 c0 (.slice A1_ xs.length c1_) (.slice A2_ ys.length c2_) (.pointer (some ⟨gm, 0, none⟩)) c4 c5 u6 u7 c8 (.pointer (some ⟨gw, 0, none⟩)) (.pointer (some ⟨cond lf gx gy, 0, none⟩)) (.pointer (some ⟨cond lf gy gx, 0, none⟩)) u12 u13 u14 u15 c16 c17 c18 c19 (q20 c20 c21 c22 c23 c24 c25 c26 c27 c28 c29 c30 c31 c32 c33 c34 c35 c36 c37 c38 c39 (q20 c40 c41 c42 c43 c44 c45 c46 c47 c48 c49 u50 u51 u52 u53 u54 u55 u56 u57 u58 u59 (q20 u60 u61 u62 u63 u64 u65 u66 u67 u68 u69 u70 u71 u72 u73 u74 u75 u76 u77 u78 u79 (q20 u80 u81 u82 u83 u84 u85 u86 u87 u88 u89 u90 u91 u92 u93 u94 u95 u96 u97 u98 u99 (q20 u100 u101 u102 u103 u104 u105 u106 u107 u108 u109 u110 u111 u112 u113 u114 u115 u116 u117 u118 u119 (u120 :: u121 :: u122 :: c123 :: c124 :: c125 :: []))))))), []⟩ wc)) :
    Code.wp Try.prog (tl46 14) (Exit.inBlock 4 (Exit.inBlock 3 (Exit.then K2 (Exit.inBlock 2 (Exit.then K3 (bodyPost Try.prog Try.f46 R)))))) ⟨List.toArray (q20 c0 (.slice A1_ xs.length c1_) (.slice A2_ ys.length c2_) (.pointer (some ⟨gm, 0, none⟩)) c4 c5 u6 u7 c8 (.pointer (some ⟨gw, 0, none⟩)) (.pointer (some ⟨cond lf gx gy, 0, none⟩)) (.pointer (some ⟨cond lf gy gx, 0, none⟩)) (.int .i64 q) (.bool yes) u14 u15 c16 c17 c18 c19 (q20 c20 c21 c22 c23 c24 c25 c26 c27 c28 c29 c30 c31 c32 c33 c34 c35 c36 c37 c38 c39 (q20 c40 c41 c42 c43 c44 c45 c46 c47 c48 c49 u50 u51 u52 u53 u54 u55 u56 u57 u58 u59 (q20 u60 u61 u62 u63 u64 u65 u66 u67 u68 u69 u70 u71 u72 u73 u74 u75 u76 u77 u78 u79 (q20 u80 u81 u82 u83 u84 u85 u86 u87 u88 u89 u90 u91 u92 u93 u94 u95 u96 u97 u98 u99 (q20 u100 u101 u102 u103 u104 u105 u106 u107 u108 u109 u110 u111 u112 u113 u114 u115 u116 u117 u118 u119 (u120 :: u121 :: u122 :: c123 :: c124 :: c125 :: []))))))), []⟩ wc := by
  have hu42 := Try.underlying42
  have hu38 := Try.underlying38
  conv => arg 2; whnf
  unfold q20
  go_upto_region 14 with (fail)
  go_cut [68] (fun v68 wc => v68 = .bool false ∧ Aside0 (HB8 71 w.heap.size w wc gw ms gs false [(gm, #[.int .i64 T0, .int .i64 T1, .int .i64 T2, .int .i64 T3, .int .i64 L0, .int .i64 L1, .int .i64 L2, .int .i64 L3], 42), (gx, #[.int .i8 2, .slice A1_ xs.length c1_, .int .i64 i], 101), (gy, #[.int .i8 3, .slice A2_ ys.length c2_, .int .i64 j], 101)]))
  case first =>
    obtain ⟨sx0, sx1, sx2⟩ := X0.out.srcX
    obtain ⟨sy0, sy1, sy2⟩ := X0.out.srcY
    cases yes with
    | false =>
      go_wp2
      go_meet
      exact ⟨rfl, X0⟩
    | true =>
      cases lf with
      | true =>
        simp only [cond_true]
        by_cases ci0 : 0 < i
        · have hi0 : decide ((0 : Int) < i) = true := decide_eq_true ci0
          have hj0 : decide ((0 : Int) < j) = false := decide_eq_false (fun z => cg ⟨rfl, ci0, z⟩)
          go_wp2
          go_meet
          exact ⟨rfl, X0⟩
        · have hi0 : decide ((0 : Int) < i) = false := decide_eq_false ci0
          go_wp2
          go_meet
          exact ⟨rfl, X0⟩
      | false =>
        simp only [cond_false]
        by_cases cj0 : 0 < j
        · have hj0 : decide ((0 : Int) < j) = true := decide_eq_true cj0
          have hi0 : decide ((0 : Int) < i) = false := decide_eq_false (fun z => cg ⟨rfl, z, cj0⟩)
          go_wp2
          go_meet
          exact ⟨rfl, X0⟩
        · have hj0 : decide ((0 : Int) < j) = false := decide_eq_false cj0
          go_wp2
          go_meet
          exact ⟨rfl, X0⟩
  case rest =>
    obtain ⟨rfl, X4⟩ := hcut
    clear cg X0
    repeat (first | (exact hnext.out _ _ _ _ _ _ _ _ _ _ _ _ _ _ _ _ _ _ _ _ _ _ _ _ _ _ _ _ _ _ _ _ _ _ _ _ _ _ _ _ _ _ _ _ _ _ _ _ _ _ _ _ _ _ _ _ _ _ _ _ _ _ _ _ _ _ _ _ _ _ _ _ _ _ _ _ _ _ _ _ X4) | go_step)
theorem X8_Xt {xs ys : List Int} {A1_ A2_ : Option Addr} {c1_ c2_ : Nat} {w wc : World} {gm gw gx gy : Nat} {T0 T1 T2 T3 L0 L1 L2 L3 i j : Int} {ms : List S52} {gs : List Int} {R : Ending → World → Prop} {K2 K3 : Act → World → Prop} {c0 c4 c5 c8 c16 c17 c18 c19 c20 c21 c22 c23 c24 c25 c26 c27 c28 c29 c30 c31 c32 c33 c34 c35 c36 c37 c38 c39 c40 c41 c42 c43 c44 c45 c46 c47 c48 c49 c123 c124 c125 : Value}  {k k1 : Nat} {s : ESt} {J : Nat → Act → World → Prop} {a0 a1 a2 a3 b0 b1 b2 b3 : Int} {o1 o2 : Bool} {u6 u7 u12 u13 u14 u15 u50 u51 u52 u53 u54 u55 u56 u57 u58 u59 u60 u61 u62 u63 u64 u65 u66 u67 u68 u69 u70 u71 u72 u73 u74 u75 u76 u77 u78 u79 u80 u81 u82 u83 u84 u85 u86 u87 u88 u89 u90 u91 u92 u93 u94 u95 u96 u97 u98 u99 u100 u101 u102 u103 u104 u105 u106 u107 u108 u109 u110 u111 u112 u113 u114 u115 u116 u117 u118 u119 u120 u121 u122 : Value} (hJ : HJ46 k xs ys A1_ A2_ c1_ c2_ s w gm gw gx gy J c0 c4 c5 c8 c16 c17 c18 c19 c20 c21 c22 c23 c24 c25 c26 c27 c28 c29 c30 c31 c32 c33 c34 c35 c36 c37 c38 c39 c40 c41 c42 c43 c44 c45 c46 c47 c48 c49 c123 c124 c125) (hK : ∀ (a' : Act) (w' : World), Handed J (k1 + 1) a' w' → K2 a' w') (HR : Aside0 ((Kd.int .i64).C w A1_ xs.length xs)) (HR2 : Aside0 ((Kd.int .i64).C w A2_ ys.length ys)) (HC : Aside0 (xs.length ≤ c1_)) (HC2 : Aside0 (ys.length ≤ c2_)) (CB : Aside0 (((ms.length < 1000000 ∧ gs.length < 1000000) ∧ 0 ≤ i ∧ i < 1000000 ∧ 0 ≤ j ∧ j < 1000000) ∧ xs.length < 1000000 ∧ ys.length < 1000000)) (NE : Aside0 (gx ≠ gm ∧ gy ≠ gm ∧ gx ≠ gy)) (X0 : Aside0 (HB8 71 w.heap.size w wc gw ms gs false [(gm, #[.int .i64 T0, .int .i64 T1, .int .i64 T2, .int .i64 T3, .int .i64 L0, .int .i64 L1, .int .i64 L2, .int .i64 L3], 42), (gx, #[.int .i8 2, .slice A1_ xs.length c1_, .int .i64 i], 101), (gy, #[.int .i8 3, .slice A2_ ys.length c2_, .int .i64 j], 101)])) (HL : Aside0 (impl_source_left.f 2 xs i = some true)) (h1 : i ≤ (xs.length : Int)) (HF : Aside0 (rowF false 2 xs i T0 T1 T2 T3 = some ((a0, a1, a2, a3), o1))) (HG : Aside0 (rowF o1 2 xs i L0 L1 L2 L3 = some ((b0, b1, b2, b3), o2))) (HN : Aside0 (runX k xs ys k1 ⟨a0, a1, a2, a3, b0, b1, b2, b3, i + 1, j, false, ms ++ [⟨2, if i < (xs.length : Int) then rd xs i else 0⟩], gs, o2⟩ = some s)) (HK1 : Aside0 (k1 + 1 ≤ k)) :
    Code.wp Try.prog (tl46 23) (Exit.inBlock 4 (Exit.inBlock 3 (Exit.then K2 (Exit.inBlock 2 (Exit.then K3 (bodyPost Try.prog Try.f46 R)))))) ⟨List.toArray (q20 c0 (.slice A1_ xs.length c1_) (.slice A2_ ys.length c2_) (.pointer (some ⟨gm, 0, none⟩)) c4 c5 u6 u7 c8 (.pointer (some ⟨gw, 0, none⟩)) (.pointer (some ⟨cond true gx gy, 0, none⟩)) (.pointer (some ⟨cond true gy gx, 0, none⟩)) u12 u13 u14 u15 c16 c17 c18 c19 (q20 c20 c21 c22 c23 c24 c25 c26 c27 c28 c29 c30 c31 c32 c33 c34 c35 c36 c37 c38 c39 (q20 c40 c41 c42 c43 c44 c45 c46 c47 c48 c49 u50 u51 u52 u53 u54 u55 u56 u57 u58 u59 (q20 u60 u61 u62 u63 u64 u65 u66 u67 u68 u69 u70 u71 u72 u73 u74 u75 u76 u77 u78 u79 (q20 u80 u81 u82 u83 u84 u85 u86 u87 u88 u89 u90 u91 u92 u93 u94 u95 u96 u97 u98 u99 (q20 u100 u101 u102 u103 u104 u105 u106 u107 u108 u109 u110 u111 u112 u113 u114 u115 u116 u117 u118 u119 (u120 :: u121 :: u122 :: c123 :: c124 :: c125 :: []))))))), []⟩ wc := by
  have hu42 := Try.underlying42
  have hu38 := Try.underlying38
  conv => arg 2; whnf
  unfold q20
  unfold HJ46 at hJ
  simp only [cond_true, cond_false]
  go_wp2_with (first | (go_at_call 70; (with_reducible refine (impl_source_left.calls gx 0 2 A1_ c1_ xs i true _ ?l1w1 ?l2w1 ?l3w1 HL.out).mono ?_); (case l1w1 => exact Kd.C_below HR.out X0.out.bel); (case l2w1 => exact HC.out); (case l3w1 => exact X0.out.srcX); rintro e w1 ⟨rfl, hd⟩; have X1 := Aside0.mk (X0.out.below hd.below); clear hd) | (go_at_call 71; (with_reducible refine (impl_eight_take w.heap.size gw gm gx ms gs false o1 o2 [(gy, #[.int .i8 3, .slice A2_ ys.length c2_, .int .i64 j], 101)] 2 xs A1_ c1_ i T0 T1 T2 T3 L0 L1 L2 L3 a0 a1 a2 a3 b0 b1 b2 b3 w _ ?t1 ?t2 HR.out rfl HC.out (by decide) CB.out.1.2.1 h1 CB.out.2.1 CB.out.1.1.1 HF.out HG.out).mono ?_); (case t1 => exact X1.out); (case t2 => exact ⟨NE.out.1, ne1 NE.out.2.1, ne1 (Ne.symm NE.out.2.2)⟩); rintro e w5 ⟨rfl, hX⟩; have X5 := Aside0.mk (hX); clear hX))
  go_roundg k1
  case measure => omega
  case rel => exact ⟨⟨a0, a1, a2, a3, b0, b1, b2, b3, i + 1, j, false, ms ++ [⟨2, if i < (xs.length : Int) then rd xs i else 0⟩], gs, o2⟩, rfl, rfl, HN, ⟨by have := HK1.out; omega⟩, X5⟩
theorem X8_Xf {xs ys : List Int} {A1_ A2_ : Option Addr} {c1_ c2_ : Nat} {w wc : World} {gm gw gx gy : Nat} {T0 T1 T2 T3 L0 L1 L2 L3 i j : Int} {ms : List S52} {gs : List Int} {R : Ending → World → Prop} {K2 K3 : Act → World → Prop} {c0 c4 c5 c8 c16 c17 c18 c19 c20 c21 c22 c23 c24 c25 c26 c27 c28 c29 c30 c31 c32 c33 c34 c35 c36 c37 c38 c39 c40 c41 c42 c43 c44 c45 c46 c47 c48 c49 c123 c124 c125 : Value}  {k k1 : Nat} {s : ESt} {J : Nat → Act → World → Prop} {a0 a1 a2 a3 b0 b1 b2 b3 : Int} {o1 o2 : Bool} {u6 u7 u12 u13 u14 u15 u50 u51 u52 u53 u54 u55 u56 u57 u58 u59 u60 u61 u62 u63 u64 u65 u66 u67 u68 u69 u70 u71 u72 u73 u74 u75 u76 u77 u78 u79 u80 u81 u82 u83 u84 u85 u86 u87 u88 u89 u90 u91 u92 u93 u94 u95 u96 u97 u98 u99 u100 u101 u102 u103 u104 u105 u106 u107 u108 u109 u110 u111 u112 u113 u114 u115 u116 u117 u118 u119 u120 u121 u122 : Value} (hJ : HJ46 k xs ys A1_ A2_ c1_ c2_ s w gm gw gx gy J c0 c4 c5 c8 c16 c17 c18 c19 c20 c21 c22 c23 c24 c25 c26 c27 c28 c29 c30 c31 c32 c33 c34 c35 c36 c37 c38 c39 c40 c41 c42 c43 c44 c45 c46 c47 c48 c49 c123 c124 c125) (hK : ∀ (a' : Act) (w' : World), Handed J (k1 + 1) a' w' → K2 a' w') (HR : Aside0 ((Kd.int .i64).C w A1_ xs.length xs)) (HR2 : Aside0 ((Kd.int .i64).C w A2_ ys.length ys)) (HC : Aside0 (xs.length ≤ c1_)) (HC2 : Aside0 (ys.length ≤ c2_)) (CB : Aside0 (((ms.length < 1000000 ∧ gs.length < 1000000) ∧ 0 ≤ i ∧ i < 1000000 ∧ 0 ≤ j ∧ j < 1000000) ∧ xs.length < 1000000 ∧ ys.length < 1000000)) (NE : Aside0 (gx ≠ gm ∧ gy ≠ gm ∧ gx ≠ gy)) (X0 : Aside0 (HB8 71 w.heap.size w wc gw ms gs false [(gm, #[.int .i64 T0, .int .i64 T1, .int .i64 T2, .int .i64 T3, .int .i64 L0, .int .i64 L1, .int .i64 L2, .int .i64 L3], 42), (gx, #[.int .i8 2, .slice A1_ xs.length c1_, .int .i64 i], 101), (gy, #[.int .i8 3, .slice A2_ ys.length c2_, .int .i64 j], 101)])) (HL : Aside0 (impl_source_left.f 3 ys j = some false)) (HL2 : Aside0 (impl_source_left.f 2 xs i = some true)) (h1 : i ≤ (xs.length : Int)) (HF : Aside0 (rowF false 2 xs i T0 T1 T2 T3 = some ((a0, a1, a2, a3), o1))) (HG : Aside0 (rowF o1 2 xs i L0 L1 L2 L3 = some ((b0, b1, b2, b3), o2))) (HN : Aside0 (runX k xs ys k1 ⟨a0, a1, a2, a3, b0, b1, b2, b3, i + 1, j, false, ms ++ [⟨2, if i < (xs.length : Int) then rd xs i else 0⟩], gs, o2⟩ = some s)) (HK1 : Aside0 (k1 + 1 ≤ k)) :
    Code.wp Try.prog (tl46 23) (Exit.inBlock 4 (Exit.inBlock 3 (Exit.then K2 (Exit.inBlock 2 (Exit.then K3 (bodyPost Try.prog Try.f46 R)))))) ⟨List.toArray (q20 c0 (.slice A1_ xs.length c1_) (.slice A2_ ys.length c2_) (.pointer (some ⟨gm, 0, none⟩)) c4 c5 u6 u7 c8 (.pointer (some ⟨gw, 0, none⟩)) (.pointer (some ⟨cond false gx gy, 0, none⟩)) (.pointer (some ⟨cond false gy gx, 0, none⟩)) u12 u13 u14 u15 c16 c17 c18 c19 (q20 c20 c21 c22 c23 c24 c25 c26 c27 c28 c29 c30 c31 c32 c33 c34 c35 c36 c37 c38 c39 (q20 c40 c41 c42 c43 c44 c45 c46 c47 c48 c49 u50 u51 u52 u53 u54 u55 u56 u57 u58 u59 (q20 u60 u61 u62 u63 u64 u65 u66 u67 u68 u69 u70 u71 u72 u73 u74 u75 u76 u77 u78 u79 (q20 u80 u81 u82 u83 u84 u85 u86 u87 u88 u89 u90 u91 u92 u93 u94 u95 u96 u97 u98 u99 (q20 u100 u101 u102 u103 u104 u105 u106 u107 u108 u109 u110 u111 u112 u113 u114 u115 u116 u117 u118 u119 (u120 :: u121 :: u122 :: c123 :: c124 :: c125 :: []))))))), []⟩ wc := by
  have hu42 := Try.underlying42
  have hu38 := Try.underlying38
  conv => arg 2; whnf
  unfold q20
  unfold HJ46 at hJ
  simp only [cond_true, cond_false]
  go_wp2_with (first | (go_at_call 70; (with_reducible refine (impl_source_left.calls gy 0 3 A2_ c2_ ys j false _ ?l1w1 ?l2w1 ?l3w1 HL.out).mono ?_); (case l1w1 => exact Kd.C_below HR2.out X0.out.bel); (case l2w1 => exact HC2.out); (case l3w1 => exact X0.out.srcY); rintro e w1 ⟨rfl, hd⟩; have X1 := Aside0.mk (X0.out.below hd.below); clear hd) | (go_at_call 70; (with_reducible refine (impl_source_left.calls gx 0 2 A1_ c1_ xs i true _ ?l1w2 ?l2w2 ?l3w2 HL2.out).mono ?_); (case l1w2 => exact Kd.C_below HR.out X1.out.bel); (case l2w2 => exact HC.out); (case l3w2 => exact X1.out.srcX); rintro e w2 ⟨rfl, hd⟩; have X2 := Aside0.mk (X1.out.below hd.below); clear hd) | (go_at_call 71; (with_reducible refine (impl_eight_take w.heap.size gw gm gx ms gs false o1 o2 [(gy, #[.int .i8 3, .slice A2_ ys.length c2_, .int .i64 j], 101)] 2 xs A1_ c1_ i T0 T1 T2 T3 L0 L1 L2 L3 a0 a1 a2 a3 b0 b1 b2 b3 w _ ?t1 ?t2 HR.out rfl HC.out (by decide) CB.out.1.2.1 h1 CB.out.2.1 CB.out.1.1.1 HF.out HG.out).mono ?_); (case t1 => exact X2.out); (case t2 => exact ⟨NE.out.1, ne1 NE.out.2.1, ne1 (Ne.symm NE.out.2.2)⟩); rintro e w5 ⟨rfl, hX⟩; have X5 := Aside0.mk (hX); clear hX))
  go_roundg k1
  case measure => omega
  case rel => exact ⟨⟨a0, a1, a2, a3, b0, b1, b2, b3, i + 1, j, false, ms ++ [⟨2, if i < (xs.length : Int) then rd xs i else 0⟩], gs, o2⟩, rfl, rfl, HN, ⟨by have := HK1.out; omega⟩, X5⟩
theorem X8_Yf {xs ys : List Int} {A1_ A2_ : Option Addr} {c1_ c2_ : Nat} {w wc : World} {gm gw gx gy : Nat} {T0 T1 T2 T3 L0 L1 L2 L3 i j : Int} {ms : List S52} {gs : List Int} {R : Ending → World → Prop} {K2 K3 : Act → World → Prop} {c0 c4 c5 c8 c16 c17 c18 c19 c20 c21 c22 c23 c24 c25 c26 c27 c28 c29 c30 c31 c32 c33 c34 c35 c36 c37 c38 c39 c40 c41 c42 c43 c44 c45 c46 c47 c48 c49 c123 c124 c125 : Value}  {k k1 : Nat} {s : ESt} {J : Nat → Act → World → Prop} {a0 a1 a2 a3 b0 b1 b2 b3 : Int} {o1 o2 : Bool} {u6 u7 u12 u13 u14 u15 u50 u51 u52 u53 u54 u55 u56 u57 u58 u59 u60 u61 u62 u63 u64 u65 u66 u67 u68 u69 u70 u71 u72 u73 u74 u75 u76 u77 u78 u79 u80 u81 u82 u83 u84 u85 u86 u87 u88 u89 u90 u91 u92 u93 u94 u95 u96 u97 u98 u99 u100 u101 u102 u103 u104 u105 u106 u107 u108 u109 u110 u111 u112 u113 u114 u115 u116 u117 u118 u119 u120 u121 u122 : Value} (hJ : HJ46 k xs ys A1_ A2_ c1_ c2_ s w gm gw gx gy J c0 c4 c5 c8 c16 c17 c18 c19 c20 c21 c22 c23 c24 c25 c26 c27 c28 c29 c30 c31 c32 c33 c34 c35 c36 c37 c38 c39 c40 c41 c42 c43 c44 c45 c46 c47 c48 c49 c123 c124 c125) (hK : ∀ (a' : Act) (w' : World), Handed J (k1 + 1) a' w' → K2 a' w') (HR : Aside0 ((Kd.int .i64).C w A1_ xs.length xs)) (HR2 : Aside0 ((Kd.int .i64).C w A2_ ys.length ys)) (HC : Aside0 (xs.length ≤ c1_)) (HC2 : Aside0 (ys.length ≤ c2_)) (CB : Aside0 (((ms.length < 1000000 ∧ gs.length < 1000000) ∧ 0 ≤ i ∧ i < 1000000 ∧ 0 ≤ j ∧ j < 1000000) ∧ xs.length < 1000000 ∧ ys.length < 1000000)) (NE : Aside0 (gx ≠ gm ∧ gy ≠ gm ∧ gx ≠ gy)) (X0 : Aside0 (HB8 71 w.heap.size w wc gw ms gs false [(gm, #[.int .i64 T0, .int .i64 T1, .int .i64 T2, .int .i64 T3, .int .i64 L0, .int .i64 L1, .int .i64 L2, .int .i64 L3], 42), (gx, #[.int .i8 2, .slice A1_ xs.length c1_, .int .i64 i], 101), (gy, #[.int .i8 3, .slice A2_ ys.length c2_, .int .i64 j], 101)])) (HL : Aside0 (impl_source_left.f 3 ys j = some true)) (h1 : j ≤ (ys.length : Int)) (HF : Aside0 (rowF false 3 ys j T0 T1 T2 T3 = some ((a0, a1, a2, a3), o1))) (HG : Aside0 (rowF o1 3 ys j L0 L1 L2 L3 = some ((b0, b1, b2, b3), o2))) (HN : Aside0 (runX k xs ys k1 ⟨a0, a1, a2, a3, b0, b1, b2, b3, i, j + 1, true, ms ++ [⟨3, if j < (ys.length : Int) then rd ys j else 0⟩], gs, o2⟩ = some s)) (HK1 : Aside0 (k1 + 1 ≤ k)) :
    Code.wp Try.prog (tl46 23) (Exit.inBlock 4 (Exit.inBlock 3 (Exit.then K2 (Exit.inBlock 2 (Exit.then K3 (bodyPost Try.prog Try.f46 R)))))) ⟨List.toArray (q20 c0 (.slice A1_ xs.length c1_) (.slice A2_ ys.length c2_) (.pointer (some ⟨gm, 0, none⟩)) c4 c5 u6 u7 c8 (.pointer (some ⟨gw, 0, none⟩)) (.pointer (some ⟨cond false gx gy, 0, none⟩)) (.pointer (some ⟨cond false gy gx, 0, none⟩)) u12 u13 u14 u15 c16 c17 c18 c19 (q20 c20 c21 c22 c23 c24 c25 c26 c27 c28 c29 c30 c31 c32 c33 c34 c35 c36 c37 c38 c39 (q20 c40 c41 c42 c43 c44 c45 c46 c47 c48 c49 u50 u51 u52 u53 u54 u55 u56 u57 u58 u59 (q20 u60 u61 u62 u63 u64 u65 u66 u67 u68 u69 u70 u71 u72 u73 u74 u75 u76 u77 u78 u79 (q20 u80 u81 u82 u83 u84 u85 u86 u87 u88 u89 u90 u91 u92 u93 u94 u95 u96 u97 u98 u99 (q20 u100 u101 u102 u103 u104 u105 u106 u107 u108 u109 u110 u111 u112 u113 u114 u115 u116 u117 u118 u119 (u120 :: u121 :: u122 :: c123 :: c124 :: c125 :: []))))))), []⟩ wc := by
  have hu42 := Try.underlying42
  have hu38 := Try.underlying38
  conv => arg 2; whnf
  unfold q20
  unfold HJ46 at hJ
  simp only [cond_true, cond_false]
  go_wp2_with (first | (go_at_call 70; (with_reducible refine (impl_source_left.calls gy 0 3 A2_ c2_ ys j true _ ?l1w1 ?l2w1 ?l3w1 HL.out).mono ?_); (case l1w1 => exact Kd.C_below HR2.out X0.out.bel); (case l2w1 => exact HC2.out); (case l3w1 => exact X0.out.srcY); rintro e w1 ⟨rfl, hd⟩; have X1 := Aside0.mk (X0.out.below hd.below); clear hd) | (go_at_call 71; (with_reducible refine (impl_eight_take w.heap.size gw gm gy ms gs false o1 o2 [(gx, #[.int .i8 2, .slice A1_ xs.length c1_, .int .i64 i], 101)] 3 ys A2_ c2_ j T0 T1 T2 T3 L0 L1 L2 L3 a0 a1 a2 a3 b0 b1 b2 b3 w _ ?t1 ?t2 HR2.out rfl HC2.out (by decide) CB.out.1.2.2.2.1 h1 CB.out.2.2 CB.out.1.1.1 HF.out HG.out).mono ?_); (case t1 => exact HB8.swap12 X1.out); (case t2 => exact ⟨NE.out.2.1, ne1 NE.out.1, ne1 NE.out.2.2⟩); rintro e w5 ⟨rfl, hX⟩; have X5 := Aside0.mk (HB8.swap12 hX); clear hX))
  go_roundg k1
  case measure => omega
  case rel => exact ⟨⟨a0, a1, a2, a3, b0, b1, b2, b3, i, j + 1, true, ms ++ [⟨3, if j < (ys.length : Int) then rd ys j else 0⟩], gs, o2⟩, rfl, rfl, HN, ⟨by have := HK1.out; omega⟩, X5⟩
theorem X8_Yt {xs ys : List Int} {A1_ A2_ : Option Addr} {c1_ c2_ : Nat} {w wc : World} {gm gw gx gy : Nat} {T0 T1 T2 T3 L0 L1 L2 L3 i j : Int} {ms : List S52} {gs : List Int} {R : Ending → World → Prop} {K2 K3 : Act → World → Prop} {c0 c4 c5 c8 c16 c17 c18 c19 c20 c21 c22 c23 c24 c25 c26 c27 c28 c29 c30 c31 c32 c33 c34 c35 c36 c37 c38 c39 c40 c41 c42 c43 c44 c45 c46 c47 c48 c49 c123 c124 c125 : Value}  {k k1 : Nat} {s : ESt} {J : Nat → Act → World → Prop} {a0 a1 a2 a3 b0 b1 b2 b3 : Int} {o1 o2 : Bool} {u6 u7 u12 u13 u14 u15 u50 u51 u52 u53 u54 u55 u56 u57 u58 u59 u60 u61 u62 u63 u64 u65 u66 u67 u68 u69 u70 u71 u72 u73 u74 u75 u76 u77 u78 u79 u80 u81 u82 u83 u84 u85 u86 u87 u88 u89 u90 u91 u92 u93 u94 u95 u96 u97 u98 u99 u100 u101 u102 u103 u104 u105 u106 u107 u108 u109 u110 u111 u112 u113 u114 u115 u116 u117 u118 u119 u120 u121 u122 : Value} (hJ : HJ46 k xs ys A1_ A2_ c1_ c2_ s w gm gw gx gy J c0 c4 c5 c8 c16 c17 c18 c19 c20 c21 c22 c23 c24 c25 c26 c27 c28 c29 c30 c31 c32 c33 c34 c35 c36 c37 c38 c39 c40 c41 c42 c43 c44 c45 c46 c47 c48 c49 c123 c124 c125) (hK : ∀ (a' : Act) (w' : World), Handed J (k1 + 1) a' w' → K2 a' w') (HR : Aside0 ((Kd.int .i64).C w A1_ xs.length xs)) (HR2 : Aside0 ((Kd.int .i64).C w A2_ ys.length ys)) (HC : Aside0 (xs.length ≤ c1_)) (HC2 : Aside0 (ys.length ≤ c2_)) (CB : Aside0 (((ms.length < 1000000 ∧ gs.length < 1000000) ∧ 0 ≤ i ∧ i < 1000000 ∧ 0 ≤ j ∧ j < 1000000) ∧ xs.length < 1000000 ∧ ys.length < 1000000)) (NE : Aside0 (gx ≠ gm ∧ gy ≠ gm ∧ gx ≠ gy)) (X0 : Aside0 (HB8 71 w.heap.size w wc gw ms gs false [(gm, #[.int .i64 T0, .int .i64 T1, .int .i64 T2, .int .i64 T3, .int .i64 L0, .int .i64 L1, .int .i64 L2, .int .i64 L3], 42), (gx, #[.int .i8 2, .slice A1_ xs.length c1_, .int .i64 i], 101), (gy, #[.int .i8 3, .slice A2_ ys.length c2_, .int .i64 j], 101)])) (HL : Aside0 (impl_source_left.f 2 xs i = some false)) (HL2 : Aside0 (impl_source_left.f 3 ys j = some true)) (h1 : j ≤ (ys.length : Int)) (HF : Aside0 (rowF false 3 ys j T0 T1 T2 T3 = some ((a0, a1, a2, a3), o1))) (HG : Aside0 (rowF o1 3 ys j L0 L1 L2 L3 = some ((b0, b1, b2, b3), o2))) (HN : Aside0 (runX k xs ys k1 ⟨a0, a1, a2, a3, b0, b1, b2, b3, i, j + 1, true, ms ++ [⟨3, if j < (ys.length : Int) then rd ys j else 0⟩], gs, o2⟩ = some s)) (HK1 : Aside0 (k1 + 1 ≤ k)) :
    Code.wp Try.prog (tl46 23) (Exit.inBlock 4 (Exit.inBlock 3 (Exit.then K2 (Exit.inBlock 2 (Exit.then K3 (bodyPost Try.prog Try.f46 R)))))) ⟨List.toArray (q20 c0 (.slice A1_ xs.length c1_) (.slice A2_ ys.length c2_) (.pointer (some ⟨gm, 0, none⟩)) c4 c5 u6 u7 c8 (.pointer (some ⟨gw, 0, none⟩)) (.pointer (some ⟨cond true gx gy, 0, none⟩)) (.pointer (some ⟨cond true gy gx, 0, none⟩)) u12 u13 u14 u15 c16 c17 c18 c19 (q20 c20 c21 c22 c23 c24 c25 c26 c27 c28 c29 c30 c31 c32 c33 c34 c35 c36 c37 c38 c39 (q20 c40 c41 c42 c43 c44 c45 c46 c47 c48 c49 u50 u51 u52 u53 u54 u55 u56 u57 u58 u59 (q20 u60 u61 u62 u63 u64 u65 u66 u67 u68 u69 u70 u71 u72 u73 u74 u75 u76 u77 u78 u79 (q20 u80 u81 u82 u83 u84 u85 u86 u87 u88 u89 u90 u91 u92 u93 u94 u95 u96 u97 u98 u99 (q20 u100 u101 u102 u103 u104 u105 u106 u107 u108 u109 u110 u111 u112 u113 u114 u115 u116 u117 u118 u119 (u120 :: u121 :: u122 :: c123 :: c124 :: c125 :: []))))))), []⟩ wc := by
  have hu42 := Try.underlying42
  have hu38 := Try.underlying38
  conv => arg 2; whnf
  unfold q20
  unfold HJ46 at hJ
  simp only [cond_true, cond_false]
  go_wp2_with (first | (go_at_call 70; (with_reducible refine (impl_source_left.calls gx 0 2 A1_ c1_ xs i false _ ?l1w1 ?l2w1 ?l3w1 HL.out).mono ?_); (case l1w1 => exact Kd.C_below HR.out X0.out.bel); (case l2w1 => exact HC.out); (case l3w1 => exact X0.out.srcX); rintro e w1 ⟨rfl, hd⟩; have X1 := Aside0.mk (X0.out.below hd.below); clear hd) | (go_at_call 70; (with_reducible refine (impl_source_left.calls gy 0 3 A2_ c2_ ys j true _ ?l1w2 ?l2w2 ?l3w2 HL2.out).mono ?_); (case l1w2 => exact Kd.C_below HR2.out X1.out.bel); (case l2w2 => exact HC2.out); (case l3w2 => exact X1.out.srcY); rintro e w2 ⟨rfl, hd⟩; have X2 := Aside0.mk (X1.out.below hd.below); clear hd) | (go_at_call 71; (with_reducible refine (impl_eight_take w.heap.size gw gm gy ms gs false o1 o2 [(gx, #[.int .i8 2, .slice A1_ xs.length c1_, .int .i64 i], 101)] 3 ys A2_ c2_ j T0 T1 T2 T3 L0 L1 L2 L3 a0 a1 a2 a3 b0 b1 b2 b3 w _ ?t1 ?t2 HR2.out rfl HC2.out (by decide) CB.out.1.2.2.2.1 h1 CB.out.2.2 CB.out.1.1.1 HF.out HG.out).mono ?_); (case t1 => exact HB8.swap12 X2.out); (case t2 => exact ⟨NE.out.2.1, ne1 NE.out.1, ne1 NE.out.2.2⟩); rintro e w5 ⟨rfl, hX⟩; have X5 := Aside0.mk (HB8.swap12 hX); clear hX))
  go_roundg k1
  case measure => omega
  case rel => exact ⟨⟨a0, a1, a2, a3, b0, b1, b2, b3, i, j + 1, true, ms ++ [⟨3, if j < (ys.length : Int) then rd ys j else 0⟩], gs, o2⟩, rfl, rfl, HN, ⟨by have := HK1.out; omega⟩, X5⟩
theorem X8_Et {xs ys : List Int} {A1_ A2_ : Option Addr} {c1_ c2_ : Nat} {w wc : World} {gm gw gx gy : Nat} {T0 T1 T2 T3 L0 L1 L2 L3 i j : Int} {ms : List S52} {gs : List Int} {K2 K3 : Act → World → Prop} {c0 c4 c5 c8 c16 c17 c18 c19 c20 c21 c22 c23 c24 c25 c26 c27 c28 c29 c30 c31 c32 c33 c34 c35 c36 c37 c38 c39 c40 c41 c42 c43 c44 c45 c46 c47 c48 c49 c123 c124 c125 : Value} {k : Nat} {c : Int} {u6 u7 u12 u13 u14 u15 u50 u51 u52 u53 u54 u55 u56 u57 u58 u59 u60 u61 u62 u63 u64 u65 u66 u67 u68 u69 u70 u71 u72 u73 u74 u75 u76 u77 u78 u79 u80 u81 u82 u83 u84 u85 u86 u87 u88 u89 u90 u91 u92 u93 u94 u95 u96 u97 u98 u99 u100 u101 u102 u103 u104 u105 u106 u107 u108 u109 u110 u111 u112 u113 u114 u115 u116 u117 u118 u119 u120 u121 u122 : Value} (HR : Aside0 ((Kd.int .i64).C w A1_ xs.length xs)) (HR2 : Aside0 ((Kd.int .i64).C w A2_ ys.length ys)) (HC : Aside0 (xs.length ≤ c1_)) (HC2 : Aside0 (ys.length ≤ c2_)) (CB : Aside0 (((ms.length < 1000000 ∧ gs.length < 1000000) ∧ 0 ≤ i ∧ i < 1000000 ∧ 0 ≤ j ∧ j < 1000000) ∧ xs.length < 1000000 ∧ ys.length < 1000000)) (NE : Aside0 (gx ≠ gm ∧ gy ≠ gm ∧ gx ≠ gy)) (X0 : Aside0 (HB8 71 w.heap.size w wc gw ms gs false [(gm, #[.int .i64 T0, .int .i64 T1, .int .i64 T2, .int .i64 T3, .int .i64 L0, .int .i64 L1, .int .i64 L2, .int .i64 L3], 42), (gx, #[.int .i8 2, .slice A1_ xs.length c1_, .int .i64 i], 101), (gy, #[.int .i8 3, .slice A2_ ys.length c2_, .int .i64 j], 101)])) (HL : Aside0 (impl_source_left.f 2 xs i = some false)) (HL2 : Aside0 (impl_source_left.f 3 ys j = some false)) (HE : Aside0 (impl_mover_code.f k ms gs false = some c)) :
    Code.wp Try.prog (tl46 23) (Exit.inBlock 4 (Exit.inBlock 3 (Exit.then K2 (Exit.inBlock 2 (Exit.then K3 (bodyPost Try.prog Try.f46 (fun e w' => ∃ p, e = .returned (.tuple #[.pointer p, .int .i64 c]) ∧ (c = 0 → ∃ gw, p = some ⟨gw, 0, none⟩ ∧ Mv 71 w.heap.size w' gw ms gs false) ∧ Below w.heap.size w w'))))))) ⟨List.toArray (q20 c0 (.slice A1_ xs.length c1_) (.slice A2_ ys.length c2_) (.pointer (some ⟨gm, 0, none⟩)) c4 c5 u6 u7 c8 (.pointer (some ⟨gw, 0, none⟩)) (.pointer (some ⟨cond true gx gy, 0, none⟩)) (.pointer (some ⟨cond true gy gx, 0, none⟩)) u12 u13 u14 u15 c16 c17 c18 c19 (q20 c20 c21 c22 c23 c24 c25 c26 c27 c28 c29 c30 c31 c32 c33 c34 c35 c36 c37 c38 c39 (q20 c40 c41 c42 c43 c44 c45 c46 c47 c48 c49 u50 u51 u52 u53 u54 u55 u56 u57 u58 u59 (q20 u60 u61 u62 u63 u64 u65 u66 u67 u68 u69 u70 u71 u72 u73 u74 u75 u76 u77 u78 u79 (q20 u80 u81 u82 u83 u84 u85 u86 u87 u88 u89 u90 u91 u92 u93 u94 u95 u96 u97 u98 u99 (q20 u100 u101 u102 u103 u104 u105 u106 u107 u108 u109 u110 u111 u112 u113 u114 u115 u116 u117 u118 u119 (u120 :: u121 :: u122 :: c123 :: c124 :: c125 :: []))))))), []⟩ wc := by
  have hu42 := Try.underlying42
  have hu38 := Try.underlying38
  conv => arg 2; whnf
  unfold q20
  simp only [cond_true, cond_false]
  go_wp2_with (first | (go_at_call 70; (with_reducible refine (impl_source_left.calls gx 0 2 A1_ c1_ xs i false _ ?l1w1 ?l2w1 ?l3w1 HL.out).mono ?_); (case l1w1 => exact Kd.C_below HR.out X0.out.bel); (case l2w1 => exact HC.out); (case l3w1 => exact X0.out.srcX); rintro e w1 ⟨rfl, hd⟩; have X1 := Aside0.mk (X0.out.below hd.below); clear hd) | (go_at_call 70; (with_reducible refine (impl_source_left.calls gy 0 3 A2_ c2_ ys j false _ ?l1w2 ?l2w2 ?l3w2 HL2.out).mono ?_); (case l1w2 => exact Kd.C_below HR2.out X1.out.bel); (case l2w2 => exact HC2.out); (case l3w2 => exact X1.out.srcY); rintro e w2 ⟨rfl, hd⟩; have X2 := Aside0.mk (X1.out.below hd.below); clear hd) | (go_at_call 62; (with_reducible refine (HB_code X2.out HE.out).mono ?_); rintro e w3 ⟨rfl, hX⟩; have X3 := Aside0.mk hX; clear hX))
  go_ret2
  exact ⟨_, rfl, fun _ => ⟨gw, rfl, X3.out.n⟩, X3.out.bel⟩
theorem X8_Ef {xs ys : List Int} {A1_ A2_ : Option Addr} {c1_ c2_ : Nat} {w wc : World} {gm gw gx gy : Nat} {T0 T1 T2 T3 L0 L1 L2 L3 i j : Int} {ms : List S52} {gs : List Int} {K2 K3 : Act → World → Prop} {c0 c4 c5 c8 c16 c17 c18 c19 c20 c21 c22 c23 c24 c25 c26 c27 c28 c29 c30 c31 c32 c33 c34 c35 c36 c37 c38 c39 c40 c41 c42 c43 c44 c45 c46 c47 c48 c49 c123 c124 c125 : Value} {k : Nat} {c : Int} {u6 u7 u12 u13 u14 u15 u50 u51 u52 u53 u54 u55 u56 u57 u58 u59 u60 u61 u62 u63 u64 u65 u66 u67 u68 u69 u70 u71 u72 u73 u74 u75 u76 u77 u78 u79 u80 u81 u82 u83 u84 u85 u86 u87 u88 u89 u90 u91 u92 u93 u94 u95 u96 u97 u98 u99 u100 u101 u102 u103 u104 u105 u106 u107 u108 u109 u110 u111 u112 u113 u114 u115 u116 u117 u118 u119 u120 u121 u122 : Value} (HR : Aside0 ((Kd.int .i64).C w A1_ xs.length xs)) (HR2 : Aside0 ((Kd.int .i64).C w A2_ ys.length ys)) (HC : Aside0 (xs.length ≤ c1_)) (HC2 : Aside0 (ys.length ≤ c2_)) (CB : Aside0 (((ms.length < 1000000 ∧ gs.length < 1000000) ∧ 0 ≤ i ∧ i < 1000000 ∧ 0 ≤ j ∧ j < 1000000) ∧ xs.length < 1000000 ∧ ys.length < 1000000)) (NE : Aside0 (gx ≠ gm ∧ gy ≠ gm ∧ gx ≠ gy)) (X0 : Aside0 (HB8 71 w.heap.size w wc gw ms gs false [(gm, #[.int .i64 T0, .int .i64 T1, .int .i64 T2, .int .i64 T3, .int .i64 L0, .int .i64 L1, .int .i64 L2, .int .i64 L3], 42), (gx, #[.int .i8 2, .slice A1_ xs.length c1_, .int .i64 i], 101), (gy, #[.int .i8 3, .slice A2_ ys.length c2_, .int .i64 j], 101)])) (HL : Aside0 (impl_source_left.f 3 ys j = some false)) (HL2 : Aside0 (impl_source_left.f 2 xs i = some false)) (HE : Aside0 (impl_mover_code.f k ms gs false = some c)) :
    Code.wp Try.prog (tl46 23) (Exit.inBlock 4 (Exit.inBlock 3 (Exit.then K2 (Exit.inBlock 2 (Exit.then K3 (bodyPost Try.prog Try.f46 (fun e w' => ∃ p, e = .returned (.tuple #[.pointer p, .int .i64 c]) ∧ (c = 0 → ∃ gw, p = some ⟨gw, 0, none⟩ ∧ Mv 71 w.heap.size w' gw ms gs false) ∧ Below w.heap.size w w'))))))) ⟨List.toArray (q20 c0 (.slice A1_ xs.length c1_) (.slice A2_ ys.length c2_) (.pointer (some ⟨gm, 0, none⟩)) c4 c5 u6 u7 c8 (.pointer (some ⟨gw, 0, none⟩)) (.pointer (some ⟨cond false gx gy, 0, none⟩)) (.pointer (some ⟨cond false gy gx, 0, none⟩)) u12 u13 u14 u15 c16 c17 c18 c19 (q20 c20 c21 c22 c23 c24 c25 c26 c27 c28 c29 c30 c31 c32 c33 c34 c35 c36 c37 c38 c39 (q20 c40 c41 c42 c43 c44 c45 c46 c47 c48 c49 u50 u51 u52 u53 u54 u55 u56 u57 u58 u59 (q20 u60 u61 u62 u63 u64 u65 u66 u67 u68 u69 u70 u71 u72 u73 u74 u75 u76 u77 u78 u79 (q20 u80 u81 u82 u83 u84 u85 u86 u87 u88 u89 u90 u91 u92 u93 u94 u95 u96 u97 u98 u99 (q20 u100 u101 u102 u103 u104 u105 u106 u107 u108 u109 u110 u111 u112 u113 u114 u115 u116 u117 u118 u119 (u120 :: u121 :: u122 :: c123 :: c124 :: c125 :: []))))))), []⟩ wc := by
  have hu42 := Try.underlying42
  have hu38 := Try.underlying38
  conv => arg 2; whnf
  unfold q20
  simp only [cond_true, cond_false]
  go_wp2_with (first | (go_at_call 70; (with_reducible refine (impl_source_left.calls gy 0 3 A2_ c2_ ys j false _ ?l1w1 ?l2w1 ?l3w1 HL.out).mono ?_); (case l1w1 => exact Kd.C_below HR2.out X0.out.bel); (case l2w1 => exact HC2.out); (case l3w1 => exact X0.out.srcY); rintro e w1 ⟨rfl, hd⟩; have X1 := Aside0.mk (X0.out.below hd.below); clear hd) | (go_at_call 70; (with_reducible refine (impl_source_left.calls gx 0 2 A1_ c1_ xs i false _ ?l1w2 ?l2w2 ?l3w2 HL2.out).mono ?_); (case l1w2 => exact Kd.C_below HR.out X1.out.bel); (case l2w2 => exact HC.out); (case l3w2 => exact X1.out.srcX); rintro e w2 ⟨rfl, hd⟩; have X2 := Aside0.mk (X1.out.below hd.below); clear hd) | (go_at_call 62; (with_reducible refine (HB_code X2.out HE.out).mono ?_); rintro e w3 ⟨rfl, hX⟩; have X3 := Aside0.mk hX; clear hX))
  go_ret2
  exact ⟨_, rfl, fun _ => ⟨gw, rfl, X3.out.n⟩, X3.out.bel⟩
theorem eight_bad1 (k : Nat) (T0 T1 T2 T3 L0 L1 L2 L3 : Int) (xs ys : List Int) (A1_ A2_ : Option Addr) (c1_ c2_ : Nat) (w : World) (hr : Kd.C (Kd.int .i64) w A1_ xs.length xs) (hc : xs.length ≤ c1_) (hr2 : Kd.C (Kd.int .i64) w A2_ ys.length ys) (hc2 : ys.length ≤ c2_) (hv : impl_ValidTerms.f k xs = some false) :
    Calls Try.prog 46 #[.agg #[.int .i64 T0, .int .i64 T1, .int .i64 T2, .int .i64 T3, .int .i64 L0, .int .i64 L1, .int .i64 L2, .int .i64 L3], .slice A1_ xs.length c1_, .slice A2_ ys.length c2_] w fun e w' => e = .returned (.tuple #[.pointer none, .int .i64 1]) ∧ Below w.heap.size w w' := by
  have HR := Aside0.mk hr
  have HC := Aside0.mk hc
  have HR2 := Aside0.mk hr2
  have HC2 := Aside0.mk hc2
  have HV := Aside0.mk hv
  clear hr hc hr2 hc2 hv
  go_enter Try.func46, Try.ntmps46
  go_wp2_with (first | (go_at_call 59; (with_reducible refine (impl_ValidTerms.calls k A1_ c1_ xs false _ ?s1 ?s2 HV.out).mono ?_); (case s1 => first | exact HR.out | exact Kd.C_alloc HR.out _); (case s2 => exact HC.out); rintro e w' ⟨rfl, ⟨nd, rfl⟩⟩))
  go_ret2
  exact ⟨rfl, pw_below_drewN (below_alloc (Below.refl _ _) _) _⟩
theorem eight_bad2 (k : Nat) (T0 T1 T2 T3 L0 L1 L2 L3 : Int) (xs ys : List Int) (A1_ A2_ : Option Addr) (c1_ c2_ : Nat) (w : World) (hr : Kd.C (Kd.int .i64) w A1_ xs.length xs) (hc : xs.length ≤ c1_) (hr2 : Kd.C (Kd.int .i64) w A2_ ys.length ys) (hc2 : ys.length ≤ c2_) (hv : impl_ValidTerms.f k xs = some true) (hv2 : impl_ValidTerms.f k ys = some false) :
    Calls Try.prog 46 #[.agg #[.int .i64 T0, .int .i64 T1, .int .i64 T2, .int .i64 T3, .int .i64 L0, .int .i64 L1, .int .i64 L2, .int .i64 L3], .slice A1_ xs.length c1_, .slice A2_ ys.length c2_] w fun e w' => e = .returned (.tuple #[.pointer none, .int .i64 1]) ∧ Below w.heap.size w w' := by
  have HR := Aside0.mk hr
  have HC := Aside0.mk hc
  have HR2 := Aside0.mk hr2
  have HC2 := Aside0.mk hc2
  have HV := Aside0.mk hv
  have HV2 := Aside0.mk hv2
  clear hr hc hr2 hc2 hv hv2
  go_enter Try.func46, Try.ntmps46
  go_wp2_with (first | (go_at_call 59; (with_reducible refine (impl_ValidTerms.calls k A1_ c1_ xs true _ ?s1 ?s2 HV.out).mono ?_); (case s1 => first | exact HR.out | exact Kd.C_alloc HR.out _); (case s2 => exact HC.out); rintro e w' ⟨rfl, ⟨nd, rfl⟩⟩) | (go_at_call 59; (with_reducible refine (impl_ValidTerms.calls k A2_ c2_ ys false _ ?r1 ?r2 HV2.out).mono ?_); (case r1 => first | exact HR2.out | exact Kd.C_drewN (Kd.C_alloc HR2.out _) _); (case r2 => exact HC2.out); rintro e w' ⟨rfl, ⟨nd2, rfl⟩⟩))
  go_ret2
  exact ⟨rfl, pw_below_drewN (below_alloc (Below.refl _ _) _) _⟩
theorem eight_bad3 (k : Nat) (T0 T1 T2 T3 L0 L1 L2 L3 : Int) (xs ys : List Int) (A1_ A2_ : Option Addr) (c1_ c2_ : Nat) (w : World) (hr : Kd.C (Kd.int .i64) w A1_ xs.length xs) (hc : xs.length ≤ c1_) (hr2 : Kd.C (Kd.int .i64) w A2_ ys.length ys) (hc2 : ys.length ≤ c2_) (hv : impl_ValidTerms.f k xs = some true) (hv2 : impl_ValidTerms.f k ys = some true) (hno : ¬ ((inP T0 = true ∧ inP T1 = true ∧ inP T2 = true ∧ inP T3 = true) ∧ inP L0 = true ∧ inP L1 = true ∧ inP L2 = true ∧ inP L3 = true)) :
    Calls Try.prog 46 #[.agg #[.int .i64 T0, .int .i64 T1, .int .i64 T2, .int .i64 T3, .int .i64 L0, .int .i64 L1, .int .i64 L2, .int .i64 L3], .slice A1_ xs.length c1_, .slice A2_ ys.length c2_] w fun e w' => e = .returned (.tuple #[.pointer none, .int .i64 2]) ∧ Below w.heap.size w w' := by
  have HR := Aside0.mk hr
  have HC := Aside0.mk hc
  have HR2 := Aside0.mk hr2
  have HC2 := Aside0.mk hc2
  have HV := Aside0.mk hv
  have HV2 := Aside0.mk hv2
  have HN := Aside0.mk hno
  clear hr hc hr2 hc2 hv hv2 hno
  go_enter Try.func46, Try.ntmps46
  go_wp2_with (first | (go_at_call 59; (with_reducible refine (impl_ValidTerms.calls k A1_ c1_ xs true _ ?s1 ?s2 HV.out).mono ?_); (case s1 => first | exact HR.out | exact Kd.C_alloc HR.out _); (case s2 => exact HC.out); rintro e w' ⟨rfl, ⟨nd, rfl⟩⟩) | (go_at_call 59; (with_reducible refine (impl_ValidTerms.calls k A2_ c2_ ys true _ ?r1 ?r2 HV2.out).mono ?_); (case r1 => first | exact HR2.out | exact Kd.C_drewN (Kd.C_alloc HR2.out _) _); (case r2 => exact HC2.out); rintro e w' ⟨rfl, ⟨nd2, rfl⟩⟩))
  go_loopg [24] 5 (fun kq v24 w' => (v24 = .int .i64 0 ∧ Aside0 (kq + 0 = 5) ∧ Aside0 ((fun n => (0 < n → inP T0 = true ∧ inP L0 = true) ∧ (1 < n → inP T1 = true ∧ inP L1 = true) ∧ (2 < n → inP T2 = true ∧ inP L2 = true) ∧ (3 < n → inP T3 = true ∧ inP L3 = true)) 0) ∧ Aside0 (w'.heap[w.heap.size]? = some (.cells #[.int .i64 T0, .int .i64 T1, .int .i64 T2, .int .i64 T3, .int .i64 L0, .int .i64 L1, .int .i64 L2, .int .i64 L3] 42 (0, 0))) ∧ Aside0 (Below w.heap.size w w')) ∨ (v24 = .int .i64 1 ∧ Aside0 (kq + 1 = 5) ∧ Aside0 ((fun n => (0 < n → inP T0 = true ∧ inP L0 = true) ∧ (1 < n → inP T1 = true ∧ inP L1 = true) ∧ (2 < n → inP T2 = true ∧ inP L2 = true) ∧ (3 < n → inP T3 = true ∧ inP L3 = true)) 1) ∧ Aside0 (w'.heap[w.heap.size]? = some (.cells #[.int .i64 T0, .int .i64 T1, .int .i64 T2, .int .i64 T3, .int .i64 L0, .int .i64 L1, .int .i64 L2, .int .i64 L3] 42 (0, 0))) ∧ Aside0 (Below w.heap.size w w')) ∨ (v24 = .int .i64 2 ∧ Aside0 (kq + 2 = 5) ∧ Aside0 ((fun n => (0 < n → inP T0 = true ∧ inP L0 = true) ∧ (1 < n → inP T1 = true ∧ inP L1 = true) ∧ (2 < n → inP T2 = true ∧ inP L2 = true) ∧ (3 < n → inP T3 = true ∧ inP L3 = true)) 2) ∧ Aside0 (w'.heap[w.heap.size]? = some (.cells #[.int .i64 T0, .int .i64 T1, .int .i64 T2, .int .i64 T3, .int .i64 L0, .int .i64 L1, .int .i64 L2, .int .i64 L3] 42 (0, 0))) ∧ Aside0 (Below w.heap.size w w')) ∨ (v24 = .int .i64 3 ∧ Aside0 (kq + 3 = 5) ∧ Aside0 ((fun n => (0 < n → inP T0 = true ∧ inP L0 = true) ∧ (1 < n → inP T1 = true ∧ inP L1 = true) ∧ (2 < n → inP T2 = true ∧ inP L2 = true) ∧ (3 < n → inP T3 = true ∧ inP L3 = true)) 3) ∧ Aside0 (w'.heap[w.heap.size]? = some (.cells #[.int .i64 T0, .int .i64 T1, .int .i64 T2, .int .i64 T3, .int .i64 L0, .int .i64 L1, .int .i64 L2, .int .i64 L3] 42 (0, 0))) ∧ Aside0 (Below w.heap.size w w')) ∨ (v24 = .int .i64 4 ∧ Aside0 (kq + 4 = 5) ∧ Aside0 ((fun n => (0 < n → inP T0 = true ∧ inP L0 = true) ∧ (1 < n → inP T1 = true ∧ inP L1 = true) ∧ (2 < n → inP T2 = true ∧ inP L2 = true) ∧ (3 < n → inP T3 = true ∧ inP L3 = true)) 4) ∧ Aside0 (w'.heap[w.heap.size]? = some (.cells #[.int .i64 T0, .int .i64 T1, .int .i64 T2, .int .i64 T3, .int .i64 L0, .int .i64 L1, .int .i64 L2, .int .i64 L3] 42 (0, 0))) ∧ Aside0 (Below w.heap.size w w')))
  case atStart =>
    refine Or.inl ⟨rfl, ⟨rfl⟩, ⟨⟨fun z => absurd z (by decide), fun z => absurd z (by decide), fun z => absurd z (by decide), fun z => absurd z (by decide)⟩⟩, ⟨show (World.drewN (w.alloc _) _).heap[w.heap.size]? = _ from heap_alloc_new w _⟩, ⟨pw_below_drewN (below_alloc (Below.refl _ _) _) _⟩⟩
  case round =>
    rename_i Jr Kr hJr hKr
    rcases hrel with ⟨rfl, HK2, HP, HM, HBl⟩ | ⟨rfl, HK2, HP, HM, HBl⟩ | ⟨rfl, HK2, HP, HM, HBl⟩ | ⟨rfl, HK2, HP, HM, HBl⟩ | ⟨rfl, HK2, HP, HM, HBl⟩
    · cases gk with
      | zero => exact absurd HK2.out (by omega)
      | succ k2 =>
        cases hA : inP T0 with
        | false => exact X8_V0a ⟨(within_inP _).trans (by rw [hA])⟩ HM HBl
        | true =>
          cases hB : inP L0 with
          | false => exact X8_V0b ⟨(within_inP _).trans (by rw [hA])⟩ ⟨(within_inP _).trans (by rw [hB])⟩ HM HBl
          | true => exact X8_V0 (P := (fun n => (0 < n → inP T0 = true ∧ inP L0 = true) ∧ (1 < n → inP T1 = true ∧ inP L1 = true) ∧ (2 < n → inP T2 = true ∧ inP L2 = true) ∧ (3 < n → inP T3 = true ∧ inP L3 = true))) hJr hKr ⟨(within_inP _).trans (by rw [hA])⟩ ⟨(within_inP _).trans (by rw [hB])⟩ ⟨⟨fun _ => ⟨hA, hB⟩, fun z => absurd z (by decide), fun z => absurd z (by decide), fun z => absurd z (by decide)⟩⟩ HK2 HM HBl
    · cases gk with
      | zero => exact absurd HK2.out (by omega)
      | succ k2 =>
        cases hA : inP T1 with
        | false => exact X8_V1a ⟨(within_inP _).trans (by rw [hA])⟩ HM HBl
        | true =>
          cases hB : inP L1 with
          | false => exact X8_V1b ⟨(within_inP _).trans (by rw [hA])⟩ ⟨(within_inP _).trans (by rw [hB])⟩ HM HBl
          | true => exact X8_V1 (P := (fun n => (0 < n → inP T0 = true ∧ inP L0 = true) ∧ (1 < n → inP T1 = true ∧ inP L1 = true) ∧ (2 < n → inP T2 = true ∧ inP L2 = true) ∧ (3 < n → inP T3 = true ∧ inP L3 = true))) hJr hKr ⟨(within_inP _).trans (by rw [hA])⟩ ⟨(within_inP _).trans (by rw [hB])⟩ ⟨⟨fun _ => HP.out.1 (by decide), fun _ => ⟨hA, hB⟩, fun z => absurd z (by decide), fun z => absurd z (by decide)⟩⟩ HK2 HM HBl
    · cases gk with
      | zero => exact absurd HK2.out (by omega)
      | succ k2 =>
        cases hA : inP T2 with
        | false => exact X8_V2a ⟨(within_inP _).trans (by rw [hA])⟩ HM HBl
        | true =>
          cases hB : inP L2 with
          | false => exact X8_V2b ⟨(within_inP _).trans (by rw [hA])⟩ ⟨(within_inP _).trans (by rw [hB])⟩ HM HBl
          | true => exact X8_V2 (P := (fun n => (0 < n → inP T0 = true ∧ inP L0 = true) ∧ (1 < n → inP T1 = true ∧ inP L1 = true) ∧ (2 < n → inP T2 = true ∧ inP L2 = true) ∧ (3 < n → inP T3 = true ∧ inP L3 = true))) hJr hKr ⟨(within_inP _).trans (by rw [hA])⟩ ⟨(within_inP _).trans (by rw [hB])⟩ ⟨⟨fun _ => HP.out.1 (by decide), fun _ => HP.out.2.1 (by decide), fun _ => ⟨hA, hB⟩, fun z => absurd z (by decide)⟩⟩ HK2 HM HBl
    · cases gk with
      | zero => exact absurd HK2.out (by omega)
      | succ k2 =>
        cases hA : inP T3 with
        | false => exact X8_V3a ⟨(within_inP _).trans (by rw [hA])⟩ HM HBl
        | true =>
          cases hB : inP L3 with
          | false => exact X8_V3b ⟨(within_inP _).trans (by rw [hA])⟩ ⟨(within_inP _).trans (by rw [hB])⟩ HM HBl
          | true => exact X8_V3 (P := (fun n => (0 < n → inP T0 = true ∧ inP L0 = true) ∧ (1 < n → inP T1 = true ∧ inP L1 = true) ∧ (2 < n → inP T2 = true ∧ inP L2 = true) ∧ (3 < n → inP T3 = true ∧ inP L3 = true))) hJr hKr ⟨(within_inP _).trans (by rw [hA])⟩ ⟨(within_inP _).trans (by rw [hB])⟩ ⟨⟨fun _ => HP.out.1 (by decide), fun _ => HP.out.2.1 (by decide), fun _ => HP.out.2.2.1 (by decide), fun _ => ⟨hA, hB⟩⟩⟩ HK2 HM HBl
    · exact absurd ⟨⟨(HP.out.1 (by decide)).1, (HP.out.2.1 (by decide)).1, (HP.out.2.2.1 (by decide)).1, (HP.out.2.2.2 (by decide)).1⟩, (HP.out.1 (by decide)).2, (HP.out.2.1 (by decide)).2, (HP.out.2.2.1 (by decide)).2, (HP.out.2.2.2 (by decide)).2⟩ HN.out
theorem eight_ok (k : Nat) (T0 T1 T2 T3 L0 L1 L2 L3 : Int) (xs ys : List Int) (A1_ A2_ : Option Addr) (c1_ c2_ : Nat) (s : ESt) (c : Int) (w : World) (hr : Kd.C (Kd.int .i64) w A1_ xs.length xs) (hc : xs.length ≤ c1_) (hr2 : Kd.C (Kd.int .i64) w A2_ ys.length ys) (hc2 : ys.length ≤ c2_) (hv : impl_ValidTerms.f k xs = some true) (hv2 : impl_ValidTerms.f k ys = some true) (hin : (inP T0 = true ∧ inP T1 = true ∧ inP T2 = true ∧ inP T3 = true) ∧ inP L0 = true ∧ inP L1 = true ∧ inP L2 = true ∧ inP L3 = true) (hs : runX k xs ys k ⟨T0, T1, T2, T3, L0, L1, L2, L3, 0, 0, true, [], [], false⟩ = some s) (hcode : impl_mover_code.f k s.ms s.gs s.ov = some c) :
    Calls Try.prog 46 #[.agg #[.int .i64 T0, .int .i64 T1, .int .i64 T2, .int .i64 T3, .int .i64 L0, .int .i64 L1, .int .i64 L2, .int .i64 L3], .slice A1_ xs.length c1_, .slice A2_ ys.length c2_] w fun e w' => ∃ p, e = .returned (.tuple #[.pointer p, .int .i64 c]) ∧ (c = 0 → ∃ gw, p = some ⟨gw, 0, none⟩ ∧ Mv 71 w.heap.size w' gw s.ms s.gs s.ov) ∧ Below w.heap.size w w' := by
  have HR := Aside0.mk hr
  have HC := Aside0.mk hc
  have HR2 := Aside0.mk hr2
  have HC2 := Aside0.mk hc2
  have HV := Aside0.mk hv
  have HV2 := Aside0.mk hv2
  have HIN := Aside0.mk hin
  have HS := Aside0.mk hs
  have HCo := Aside0.mk hcode
  clear hr hc hr2 hc2 hv hv2 hin hs hcode
  go_enter Try.func46, Try.ntmps46
  go_wp2_with (first | (go_at_call 59; (with_reducible refine (impl_ValidTerms.calls k A1_ c1_ xs true _ ?s1 ?s2 HV.out).mono ?_); (case s1 => first | exact HR.out | exact Kd.C_alloc HR.out _); (case s2 => exact HC.out); rintro e w' ⟨rfl, ⟨nd, rfl⟩⟩) | (go_at_call 59; (with_reducible refine (impl_ValidTerms.calls k A2_ c2_ ys true _ ?r1 ?r2 HV2.out).mono ?_); (case r1 => first | exact HR2.out | exact Kd.C_drewN (Kd.C_alloc HR2.out _) _); (case r2 => exact HC2.out); rintro e w' ⟨rfl, ⟨nd2, rfl⟩⟩))
  go_loopg [24] 5 (fun kq v24 w' => (v24 = .int .i64 0 ∧ Aside0 (kq + 0 = 5) ∧ Aside0 ((fun _ => True) 0) ∧ Aside0 (w'.heap[w.heap.size]? = some (.cells #[.int .i64 T0, .int .i64 T1, .int .i64 T2, .int .i64 T3, .int .i64 L0, .int .i64 L1, .int .i64 L2, .int .i64 L3] 42 (0, 0))) ∧ Aside0 (Below w.heap.size w w')) ∨ (v24 = .int .i64 1 ∧ Aside0 (kq + 1 = 5) ∧ Aside0 ((fun _ => True) 1) ∧ Aside0 (w'.heap[w.heap.size]? = some (.cells #[.int .i64 T0, .int .i64 T1, .int .i64 T2, .int .i64 T3, .int .i64 L0, .int .i64 L1, .int .i64 L2, .int .i64 L3] 42 (0, 0))) ∧ Aside0 (Below w.heap.size w w')) ∨ (v24 = .int .i64 2 ∧ Aside0 (kq + 2 = 5) ∧ Aside0 ((fun _ => True) 2) ∧ Aside0 (w'.heap[w.heap.size]? = some (.cells #[.int .i64 T0, .int .i64 T1, .int .i64 T2, .int .i64 T3, .int .i64 L0, .int .i64 L1, .int .i64 L2, .int .i64 L3] 42 (0, 0))) ∧ Aside0 (Below w.heap.size w w')) ∨ (v24 = .int .i64 3 ∧ Aside0 (kq + 3 = 5) ∧ Aside0 ((fun _ => True) 3) ∧ Aside0 (w'.heap[w.heap.size]? = some (.cells #[.int .i64 T0, .int .i64 T1, .int .i64 T2, .int .i64 T3, .int .i64 L0, .int .i64 L1, .int .i64 L2, .int .i64 L3] 42 (0, 0))) ∧ Aside0 (Below w.heap.size w w')) ∨ (v24 = .int .i64 4 ∧ Aside0 (kq + 4 = 5) ∧ Aside0 ((fun _ => True) 4) ∧ Aside0 (w'.heap[w.heap.size]? = some (.cells #[.int .i64 T0, .int .i64 T1, .int .i64 T2, .int .i64 T3, .int .i64 L0, .int .i64 L1, .int .i64 L2, .int .i64 L3] 42 (0, 0))) ∧ Aside0 (Below w.heap.size w w')))
  case atStart =>
    refine Or.inl ⟨rfl, ⟨rfl⟩, ⟨trivial⟩, ⟨show (World.drewN (w.alloc _) _).heap[w.heap.size]? = _ from heap_alloc_new w _⟩, ⟨pw_below_drewN (below_alloc (Below.refl _ _) _) _⟩⟩
  case round =>
    rename_i Jr Kr hJr hKr
    rcases hrel with ⟨rfl, HK2, HP, HM, HBl⟩ | ⟨rfl, HK2, HP, HM, HBl⟩ | ⟨rfl, HK2, HP, HM, HBl⟩ | ⟨rfl, HK2, HP, HM, HBl⟩ | ⟨rfl, HK2, HP, HM, HBl⟩
    · cases gk with
      | zero => exact absurd HK2.out (by omega)
      | succ k2 => exact X8_V0 (P := fun _ => True) hJr hKr ⟨(within_inP _).trans (by rw [HIN.out.1.1])⟩ ⟨(within_inP _).trans (by rw [HIN.out.2.1])⟩ ⟨trivial⟩ HK2 HM HBl
    · cases gk with
      | zero => exact absurd HK2.out (by omega)
      | succ k2 => exact X8_V1 (P := fun _ => True) hJr hKr ⟨(within_inP _).trans (by rw [HIN.out.1.2.1])⟩ ⟨(within_inP _).trans (by rw [HIN.out.2.2.1])⟩ ⟨trivial⟩ HK2 HM HBl
    · cases gk with
      | zero => exact absurd HK2.out (by omega)
      | succ k2 => exact X8_V2 (P := fun _ => True) hJr hKr ⟨(within_inP _).trans (by rw [HIN.out.1.2.2.1])⟩ ⟨(within_inP _).trans (by rw [HIN.out.2.2.2.1])⟩ ⟨trivial⟩ HK2 HM HBl
    · cases gk with
      | zero => exact absurd HK2.out (by omega)
      | succ k2 => exact X8_V3 (P := fun _ => True) hJr hKr ⟨(within_inP _).trans (by rw [HIN.out.1.2.2.2])⟩ ⟨(within_inP _).trans (by rw [HIN.out.2.2.2.2])⟩ ⟨trivial⟩ HK2 HM HBl
    · go_wp2
      have hlt := blk_lt HM.out
      have Xs := Aside0.mk (HBX_start (c1 := #[.int .i8 2, .slice A1_ xs.length c1_, .int .i64 0]) (c2 := #[.int .i8 3, .slice A2_ ys.length c2_, .int .i64 0]) HBl.out HM.out (Nat.le_refl _))
      clear HK2 HP HIN HM hJr hKr
      obtain ⟨wo, rfl⟩ : ∃ wo : World, wo = wr := ⟨_, rfl⟩
      have NE := Aside0.mk (show wo.heap.size + 1 ≠ w.heap.size ∧ wo.heap.size + 2 ≠ w.heap.size ∧ wo.heap.size + 1 ≠ wo.heap.size + 2 from ⟨by omega, by omega, by omega⟩)
      clear hlt HBl
      go_loopg [10, 11] k (fun kq v10 v11 w' => (∃ s1 : ESt, v10 = .pointer (some ⟨cond s1.lf (wo.heap.size + 1) (wo.heap.size + 2), 0, none⟩) ∧ v11 = .pointer (some ⟨cond s1.lf (wo.heap.size + 2) (wo.heap.size + 1), 0, none⟩) ∧ Aside0 (runX k xs ys kq s1 = some s) ∧ Aside0 (kq ≤ k) ∧ Aside0 (HB8 71 w.heap.size w w' wo.heap.size s1.ms s1.gs s1.ov [(w.heap.size, #[.int .i64 s1.T0, .int .i64 s1.T1, .int .i64 s1.T2, .int .i64 s1.T3, .int .i64 s1.L0, .int .i64 s1.L1, .int .i64 s1.L2, .int .i64 s1.L3], 42), ((wo.heap.size + 1), #[.int .i8 2, .slice A1_ xs.length c1_, .int .i64 s1.i], 101), ((wo.heap.size + 2), #[.int .i8 3, .slice A2_ ys.length c2_, .int .i64 s1.j], 101)])))
      case atStart => exact ⟨⟨T0, T1, T2, T3, L0, L1, L2, L3, 0, 0, true, [], [], false⟩, by simp, by simp, HS, ⟨Nat.le_refl _⟩, Xs⟩
      case round =>
        rename_i J K2 hJ hK
        clear Xs HS HV HV2
        obtain ⟨⟨T0, T1, T2, T3, L0, L1, L2, L3, i, j, lf, ms, gs, ov⟩, rfl, rfl, HR1, HK1, X0⟩ := hrel
        simp only at X0
        cases gk with
        | zero => exact absurd HR1.out (by simp [runX])
        | succ k1 =>
          have h := HR1.out
          rw [runX] at h
          simp only at h
          clear HR1
          cases ov with
          | true =>
            rw [if_pos rfl] at h
            obtain rfl := Option.some.inj h
            clear h
            have cw0 := X0.out.cw
            go_wp2_with (first | (go_at_call 62; (with_reducible refine (HB_code X0.out HCo.out).mono ?_); rintro e w3 ⟨rfl, hX⟩; have X3 := Aside0.mk hX; clear hX))
            go_ret2
            exact ⟨_, rfl, fun _ => ⟨_, rfl, X3.out.n⟩, X3.out.bel⟩
          | false =>
            rw [if_neg (by decide)] at h
            by_cases cb : ((ms.length < 1000000 ∧ gs.length < 1000000) ∧ 0 ≤ i ∧ i < 1000000 ∧ 0 ≤ j ∧ j < 1000000) ∧ xs.length < 1000000 ∧ ys.length < 1000000
            rotate_left
            · rw [if_neg cb] at h
              cases h
            rw [if_pos cb] at h
            have CB := Aside0.mk cb
            clear cb
            obtain ⟨⟨r, s2⟩, hst, h⟩ := Option.bind_eq_some_iff.mp h
            unfold stepX corn at hst
            simp only at hst h
            obtain ⟨⟨q, yes⟩, hg, hst⟩ := Option.bind_eq_some_iff.mp hst
            simp only at hst
            have HG := Aside0.mk hg
            refine X8_Q1 HR HR2 HC HC2 CB NE X0 HG ⟨?_⟩
            intro _ _ _ _ _ _ _ _ _ _ _ _ _ _ _ _ _ _ _ _ _ _ _ _ _ _ _ _ _ _ _ _ _ _ _ _ _ _ _ _ _ _ _ _ _ _ _ _ _ _ _ _ _ _ _ _ _ _ _ _ _ _ _ _ _ _ _ _ _ _ _ _ _ _ _ _ _ wc X4
            by_cases cg : yes = true ∧ 0 < i ∧ 0 < j
            · rw [if_pos cg] at hst
              obtain ⟨rfl, hip, hjp⟩ := cg
              obtain ⟨⟨x0, o0⟩, e0, hst⟩ := Option.bind_eq_some_iff.mp hst
              obtain ⟨⟨x1, o1⟩, e1, hst⟩ := Option.bind_eq_some_iff.mp hst
              obtain ⟨⟨x2, o2⟩, e2, hst⟩ := Option.bind_eq_some_iff.mp hst
              obtain ⟨⟨x3, o3⟩, e3, hst⟩ := Option.bind_eq_some_iff.mp hst
              simp only [Option.some.injEq, Prod.mk.injEq] at hst
              obtain ⟨rfl, rfl⟩ := hst
              rw [if_pos rfl] at h
              have HN := Aside0.mk h
              have H0 := Aside0.mk e0
              have H1 := Aside0.mk e1
              have H2 := Aside0.mk e2
              have H3 := Aside0.mk e3
              clear h e0 e1 e2 e3
              exact X8_G hJ hK HR HR2 HC HC2 CB NE X4 hip hjp H0 H1 H2 H3 HN HK1
            · rw [if_neg cg] at hst
              refine X8_Q3 HR HR2 HC HC2 CB NE X4 cg ⟨?_⟩
              intro _ _ _ _ _ _ _ _ _ _ _ _ _ _ _ _ _ _ _ _ _ _ _ _ _ _ _ _ _ _ _ _ _ _ _ _ _ _ _ _ _ _ _ _ _ _ _ _ _ _ _ _ _ _ _ _ _ _ _ _ _ _ _ _ _ _ _ _ _ _ _ _ _ _ _ _ _ _ _ wd X5
              by_cases cx : (lf = true ∧ i ≤ (xs.length : Int)) ∨ (lf = false ∧ ¬ j ≤ (ys.length : Int) ∧ i ≤ (xs.length : Int))
              · rw [if_pos cx] at hst
                obtain ⟨⟨⟨a0, a1, a2, a3⟩, o1⟩, hf, hst⟩ := Option.bind_eq_some_iff.mp hst
                obtain ⟨⟨⟨b0, b1, b2, b3⟩, o2⟩, hf2, hst⟩ := Option.bind_eq_some_iff.mp hst
                simp only [Option.some.injEq, Prod.mk.injEq] at hst
                obtain ⟨rfl, rfl⟩ := hst
                rw [if_pos rfl] at h
                have HN := Aside0.mk h
                clear h
                rcases cx with ⟨rfl, h1⟩ | ⟨rfl, h2, h1⟩
                · exact X8_Xt hJ hK HR HR2 HC HC2 CB NE X5 ⟨by unfold impl_source_left.f; rw [decide_eq_true h1]⟩ h1 ⟨hf⟩ ⟨hf2⟩ HN HK1
                · exact X8_Xf hJ hK HR HR2 HC HC2 CB NE X5 ⟨by unfold impl_source_left.f; rw [decide_eq_false h2]⟩ ⟨by unfold impl_source_left.f; rw [decide_eq_true h1]⟩ h1 ⟨hf⟩ ⟨hf2⟩ HN HK1
              · rw [if_neg cx] at hst
                by_cases cy : j ≤ (ys.length : Int)
                · rw [if_pos cy] at hst
                  obtain ⟨⟨⟨a0, a1, a2, a3⟩, o1⟩, hf, hst⟩ := Option.bind_eq_some_iff.mp hst
                  obtain ⟨⟨⟨b0, b1, b2, b3⟩, o2⟩, hf2, hst⟩ := Option.bind_eq_some_iff.mp hst
                  simp only [Option.some.injEq, Prod.mk.injEq] at hst
                  obtain ⟨rfl, rfl⟩ := hst
                  rw [if_pos rfl] at h
                  have HN := Aside0.mk h
                  clear h
                  cases lf with
                  | false => exact X8_Yf hJ hK HR HR2 HC HC2 CB NE X5 ⟨by unfold impl_source_left.f; rw [decide_eq_true cy]⟩ cy ⟨hf⟩ ⟨hf2⟩ HN HK1
                  | true => exact X8_Yt hJ hK HR HR2 HC HC2 CB NE X5 ⟨by unfold impl_source_left.f; rw [decide_eq_false (fun z => cx (Or.inl ⟨rfl, z⟩))]⟩ ⟨by unfold impl_source_left.f; rw [decide_eq_true cy]⟩ cy ⟨hf⟩ ⟨hf2⟩ HN HK1
                · rw [if_neg cy] at hst
                  simp only [Option.some.injEq, Prod.mk.injEq] at hst
                  obtain ⟨rfl, rfl⟩ := hst
                  rw [if_neg (by decide)] at h
                  obtain rfl := Option.some.inj h
                  cases lf with
                  | true => exact X8_Et HR HR2 HC HC2 CB NE X5 ⟨by unfold impl_source_left.f; rw [decide_eq_false (fun z => cx (Or.inl ⟨rfl, z⟩))]⟩ ⟨by unfold impl_source_left.f; rw [decide_eq_false cy]⟩ HCo
                  | false => exact X8_Ef HR HR2 HC HC2 CB NE X5 ⟨by unfold impl_source_left.f; rw [decide_eq_false cy]⟩ ⟨by unfold impl_source_left.f; rw [decide_eq_false (fun z => cx (Or.inr ⟨rfl, cy, z⟩))]⟩ HCo
/-- The machine's run: a pointer to its notes, or none with a code that isn't 0. -/
theorem eight_run_calls (k : Nat) (T0 T1 T2 T3 L0 L1 L2 L3 : Int) (xs ys : List Int) (A1_ A2_ : Option Addr) (c1_ c2_ : Nat) (s : ESt) (c : Int) (w : World) (hr : Kd.C (Kd.int .i64) w A1_ xs.length xs) (hc : xs.length ≤ c1_) (hr2 : Kd.C (Kd.int .i64) w A2_ ys.length ys) (hc2 : ys.length ≤ c2_) (h : eightX k T0 T1 T2 T3 L0 L1 L2 L3 xs ys = some (s, c)) :
    Calls Try.prog 46 #[.agg #[.int .i64 T0, .int .i64 T1, .int .i64 T2, .int .i64 T3, .int .i64 L0, .int .i64 L1, .int .i64 L2, .int .i64 L3], .slice A1_ xs.length c1_, .slice A2_ ys.length c2_] w fun e w' => ∃ p, e = .returned (.tuple #[.pointer p, .int .i64 c]) ∧ (c = 0 → ∃ gw, p = some ⟨gw, 0, none⟩ ∧ Mv 71 w.heap.size w' gw s.ms s.gs s.ov) ∧ Below w.heap.size w w' := by
  unfold eightX at h
  obtain ⟨v, hv, h⟩ := Option.bind_eq_some_iff.mp h
  cases v with
  | false =>
    rw [if_neg (by decide)] at h
    simp only [Option.some.injEq, Prod.mk.injEq] at h
    obtain ⟨rfl, rfl⟩ := h
    refine (eight_bad1 k T0 T1 T2 T3 L0 L1 L2 L3 xs ys A1_ A2_ c1_ c2_ w hr hc hr2 hc2 hv).mono ?_
    rintro e w' ⟨rfl, hb⟩
    exact ⟨_, rfl, fun z => absurd z (by decide), hb⟩
  | true =>
    rw [if_pos rfl] at h
    obtain ⟨v2, hv2, h⟩ := Option.bind_eq_some_iff.mp h
    cases v2 with
    | false =>
      rw [if_neg (by decide)] at h
      simp only [Option.some.injEq, Prod.mk.injEq] at h
      obtain ⟨rfl, rfl⟩ := h
      refine (eight_bad2 k T0 T1 T2 T3 L0 L1 L2 L3 xs ys A1_ A2_ c1_ c2_ w hr hc hr2 hc2 hv hv2).mono ?_
      rintro e w' ⟨rfl, hb⟩
      exact ⟨_, rfl, fun z => absurd z (by decide), hb⟩
    | true =>
      rw [if_pos rfl] at h
      by_cases hin : (inP T0 = true ∧ inP T1 = true ∧ inP T2 = true ∧ inP T3 = true) ∧ inP L0 = true ∧ inP L1 = true ∧ inP L2 = true ∧ inP L3 = true
      · rw [if_pos hin] at h
        obtain ⟨s', hs, h⟩ := Option.bind_eq_some_iff.mp h
        obtain ⟨c', hcode, h⟩ := Option.bind_eq_some_iff.mp h
        simp only [Option.some.injEq, Prod.mk.injEq] at h
        obtain ⟨rfl, rfl⟩ := h
        exact eight_ok k T0 T1 T2 T3 L0 L1 L2 L3 xs ys A1_ A2_ c1_ c2_ s' c' w hr hc hr2 hc2 hv hv2 hin hs hcode
      · rw [if_neg hin] at h
        simp only [Option.some.injEq, Prod.mk.injEq] at h
        obtain ⟨rfl, rfl⟩ := h
        refine (eight_bad3 k T0 T1 T2 T3 L0 L1 L2 L3 xs ys A1_ A2_ c1_ c2_ w hr hc hr2 hc2 hv hv2 hin).mono ?_
        rintro e w' ⟨rfl, hb⟩
        exact ⟨_, rfl, fun z => absurd z (by decide), hb⟩

end Go.Proofs.Ytgldplkbacfacaa.MFnEights
