/-
  What the library's variables hold (a table, two sentinels, a number), carried through a call; strconv.FormatInt and ParseInt over it.
-/
import Derived.Test.YtcldnanpdpfhlaaDoorShelfR
import Derived.Test.YtcldnanpdpfhlaaDoorRows
import Derived.Below
import Derived.KernelRfl
import Derived.MakeChecks
import Derived.Stop.LaidErr
import Derived.Lib.LaidTab
import Derived.Lib.AppendIntMem
import Derived.Lib.ItoaLen
import Derived.Lib.AtoiErrMem
import Derived.Handed
import Derived.LaidLaws
import Derived.Shelf.Vars
import Derived.SizedLaws
namespace Go.Proofs.YtcldnanpdpfhlaaDoor.MOpen
open Go.RowKit Go.Stop

/-- The block of the powers of ten. -/
def TabOnly (w : World) : Prop := ∃ t fr, w.heap[1]? = some (.cells (Go.Lib.pow10Tab.map fun z => Value.int .u64 z).toArray t fr)
/-- A variable that holds an error or nil. -/
def ErrAt (g : Nat) (w : World) : Prop := ∃ ev, w.cell? ⟨g, 0, none⟩ = some ev ∧ (ev = .nilIface ∨ ∃ te pe, ev = .iface te pe)
/-- What the library's variables hold. -/
def TabAt (w : World) : Prop := TabOnly w ∧ ErrAt 4 w ∧ ErrAt 5 w ∧ ∃ m, w.cell? ⟨0, 0, none⟩ = some (.int .i64 m)
theorem TabOnly.below {w w' : World} (h : TabOnly w) (hb : Below w.heap.size w w') : TabOnly w' := by
  obtain ⟨t, fr, e⟩ := h
  have hlt : 1 < w.heap.size := by
    rcases Nat.lt_or_ge 1 w.heap.size with h0 | h0
    · exact h0
    · rw [Array.getElem?_eq_none (by omega)] at e; cases e
  exact ⟨t, fr, (hb.block 1 hlt).trans e⟩
theorem ErrAt.below {g : Nat} {w w' : World} (h : ErrAt g w) (hb : Below w.heap.size w w') : ErrAt g w' := by
  obtain ⟨ev, e, h2⟩ := h
  exact ⟨ev, (hb.cell (World.block_lt_of_cell? w _ e)).trans e, h2⟩
theorem TabAt.below {w w' : World} (h : TabAt w) (hb : Below w.heap.size w w') : TabAt w' := by
  obtain ⟨h1, h2, h3, m, e⟩ := h
  exact ⟨h1.below hb, h2.below hb, h3.below hb, m, (hb.cell (World.block_lt_of_cell? w _ e)).trans e⟩
theorem formatInt (n : Int) (h0 : -9223372036854775808 ≤ n) (h1 : n ≤ 9223372036854775807) (w : World) (hT : TabAt w) :
    Calls Tryd.prog 54 #[.int .i64 n, .int .i64 10] w fun e w' => e = .returned (.string ⟨(Lib.itoa n).toArray⟩) ∧ Below w.heap.size w w' := by
  refine (Go.Proofs.Any.strconv_FormatInt_10 Tryd.lays173 n h0 h1 w (by
    obtain ⟨⟨t, fr, e⟩, _⟩ := hT
    exact Option.bind_eq_some_iff.2 ⟨1, by kernel_rfl, by rw [e]⟩)).mono ?_
  rintro e w' ⟨rfl, k, os, rfl⟩
  exact ⟨rfl, Go.Lib.below_grow w.heap.size w (Nat.le_refl _) k os⟩
theorem parse_ok (s : ByteArray) (hs : s.size ≤ 281474976710656) (v : Int) (h : Lib.parseIntB 64 s.data.toList = .ok v) (w : World) :
    Calls Tryd.prog 78 #[.string s, .int .i64 10, .int .i64 64] w fun e w' => e = .returned (.tuple #[.int .i64 v, .nilIface]) ∧ Below w.heap.size w w' := by
  refine (Go.Proofs.Any.strconv_ParseInt_10_at64_ok Tryd.lays174 s (by omega) v h w).mono ?_
  rintro e w' ⟨rfl, rfl | ⟨t, rfl⟩⟩
  · exact ⟨rfl, Below.refl _ _⟩
  · exact ⟨rfl, Go.Lib.bytesWorld_below _ _ _⟩
theorem parse_bad (s : ByteArray) (hs : s.size ≤ 281474976710656) (h : ∀ v, Lib.parseIntB 64 s.data.toList ≠ .ok v) (w : World) (hT : TabAt w) :
    Calls Tryd.prog 78 #[.string s, .int .i64 10, .int .i64 64] w fun e w' => (∃ v t p, e = .returned (.tuple #[.int .i64 v, .iface t (.pointer p)]) ∧ v = (match Lib.parseIntB 64 s.data.toList with | .range => Lib.intSat 64 s.data.toList | _ => 0)) ∧ Below w.heap.size w w' := by
  obtain ⟨_, ⟨e1, c1, d1⟩, ⟨e2, c2, d2⟩, _⟩ := hT
  cases hp : Lib.parseIntB 64 s.data.toList with
  | ok v => exact absurd hp (h v)
  | «syntax» =>
    refine (Go.Proofs.Any.strconv_ParseInt_10_at64_syntax Tryd.lays174 s hs hp e1 w c1 d1).mono ?_
    rintro e w' ⟨N, rfl, _, _, hb⟩
    exact ⟨⟨_, _, _, rfl, rfl⟩, hb⟩
  | range =>
    refine (Go.Proofs.Any.strconv_ParseInt_10_at64_range Tryd.lays174 s hs hp e2 w c2 d2).mono ?_
    rintro e w' ⟨N, rfl, _, _, hb⟩
    exact ⟨⟨_, _, _, rfl, rfl⟩, hb⟩
/-- A listed variable that holds an error. -/
theorem err_of_laid {n nm : String} {d : DataW Unit} {r : List (String × DataW Unit)} {W : World} {g : Nat} {ti : TypeId} {ms : Array (String × TypeId)} (h : laidMet Tryd.prog ((n, .iface nm d) :: r) W)
    (hg : Tryd.prog.globalNamed n = some g) (ht : (Tryd.prog.globals[g]?).map (·.type) = some ti) (hi : Tryd.prog.underlying ti = some (.interface ms)) : ErrAt g W := by
  obtain ⟨ps, ⟨g0, t0, cs0, f0, p0, q0, hg0, ht0, hv0, hd0, _, e0⟩, _⟩ := h
  obtain rfl := Option.some.inj (hg.symm.trans hg0)
  obtain rfl := Option.some.inj (ht.symm.trans ht0)
  obtain ⟨_, u, v, e, _⟩ := iface_of_trod hi hd0
  refine ⟨.iface u v, ?_, Or.inr ⟨u, v, rfl⟩⟩
  rw [World.var?_cell hg hv0 0]
  have h1 : cs0.toList[0]? = some (.iface u v) := by rw [e]; rfl
  simpa using h1
/-- The row's condition and the world's shape give what the library's variables hold. -/
theorem tab_of {W : World} {l : List (String × DataW Unit)} (h : laidMet Tryd.prog l W) (hs : W.ShapedOpen Tryd.prog)
    (hl : ∃ a b n1 n2 n3 n4 x y z u v r, l = a :: b :: (n1, x) :: n4 :: (n2, .iface y z) :: (n3, .iface u v) :: r ∧ x = Go.Lib.tabData .u64 Go.Lib.pow10Tab ∧ Tryd.prog.globalNamed n1 = some 1 ∧ Tryd.prog.globalNamed n2 = some 5 ∧ Tryd.prog.globalNamed n3 = some 4) : TabAt W := by
  obtain ⟨a, b, n1, n2, n3, n4, x, y, z, u, v, r, rfl, rfl, e1, e2, e3⟩ := hl
  have h3 := laidMet.tail (laidMet.tail h)
  have hT := Go.Lib.tabIs_of_head (g := 1) (t := 140) (e := 87) (n := 20) e1 (by kernel_rfl) (by kernel_rfl) (by kernel_rfl) (by kernel_rfl) (by kernel_rfl) h3
  have h5 := laidMet.tail (laidMet.tail h3)
  have h6 := laidMet.tail h5
  refine ⟨?_, err_of_laid h6 e3 (by kernel_rfl) Tryd.underlying70, err_of_laid h5 e2 (by kernel_rfl) Tryd.underlying70, cell_of_shapedOpen_int (t := 3) (zero := #[.int .i64 0]) hs (of_decide_eq_true (by kernel_rfl)) (by kernel_rfl) rfl (by kernel_rfl) (by kernel_rfl) (by kernel_rfl)⟩
  obtain ⟨g, hg, e⟩ := Option.bind_eq_some_iff.1 hT
  obtain rfl : 1 = g := Option.some.inj (e1.symm.trans hg)
  split at e
  · rename_i cs t fr he
    obtain rfl := Option.some.inj e
    exact ⟨t, fr, he⟩
  · cases e
theorem tab_of_laid {W : World} (h : laidMetH Tryd.prog Rows.fnTermsRow.laid W) (hs : W.ShapedOpen Tryd.prog) : TabAt W := by
  rw [MakeChecks.laidMetH_plain _ _ _ (by kernel_rfl)] at h
  exact tab_of h hs ⟨_, _, _, _, _, _, _, _, _, _, _, _, rfl, by kernel_rfl, by kernel_rfl, by kernel_rfl, by kernel_rfl⟩
/-- The wrap with the row's condition and the world's shape. -/
theorem returns_both {H : Type} {enc : TypeId × Value → H} {a : Assume} {C : Checked} {os : Os} {f : FuncId} {fn : Func} {s : ChangeSpec} {conds : List PathCond} {apart fresh handsOn again : Bool} {X : World → Array Value → Prop}
    (hX : ∀ (w w' : World) (args : Array Value), w.heap = w'.heap → X w args → X w' args)
    (own : ownKnob C.prog.godebug = none) (started : os.Started) (noInit : C.prog.inits.idxOf? f = none) (hfn : C.prog.funcs[f]? = some fn)
    (witness : ∃ (w : World) (tape : Tape) (i : Input), w.os = os ∧ (w.forCall tape i).Shaped C.prog ∧ i.vars = [] ∧ Input.okWide C.prog (w.forCall tape i) .any w.heap.size f i ∧
      ((s.pre enc C.prog fn conds apart (w.forCall tape i).memory i.args ∧ X (w.forCall tape i).memory i.args) ∧ sizedMet enc C.prog fn (OpenSpec.ofChange s) apart (w.forCall tape i).memory i.args) ∧ a.holds C.prog (lone (Frame.enter C.prog f i.args .normal) [] (w.forCall tape i)))
    (contract : ∀ (W : World) (base : Nat) (args : Array Value) (ds gs : List (DataW H)) (before : List MemPlace),
      (∀ (j : Nat) t v, fn.params[j]? = some t → args[j]? = some v → Value.okWide C.prog W .any base t v) →
      DataW.Whole enc C.prog fn.params.toList s.vars apart W args.toList ds gs before →
      conds.all (PathCond.test C.prog ⟨fn.params.toList, ds, s.plain.varTypes C.prog, gs⟩) = true →
      (DataW.weightsEach C.prog (fn.params.toList ++ s.plain.varTypes C.prog) (ds ++ gs)).all (· ≤ reachBytes) = true → X W args → W.ShapedOpen C.prog →
      Calls C.prog f args W fun e W' => ∃ v, e = .returned v ∧ s.post enc C.prog fn apart fresh handsOn again W args v W') :
    ReturnsInHanded a C os f .any (fun w args => (s.pre enc C.prog fn conds apart w args ∧ X w args) ∧ sizedMet enc C.prog fn (OpenSpec.ofChange s) apart w args) (s.post enc C.prog fn apart fresh handsOn again) := by
  refine returnsInHanded_of_calls own started noInit witness ?_
  intro w tape i _ hsh _ hok hpre hholds
  obtain ⟨_, _, _, fn', hfn', _, _, _, _, hval⟩ := hok
  have e : fn' = fn := Option.some.inj (hfn'.symm.trans hfn)
  subst e
  obtain ⟨⟨⟨ds, gs, before, hw, hc⟩, hx⟩, hz⟩ := hpre
  have hw' := DataW.Whole.of_heap (w' := w.forCall tape i) (by rfl) hw
  refine (contract (w.forCall tape i) w.heap.size i.args ds gs before hval hw' hc (hz.weights hw) (hX _ _ _ (by rfl) hx) hsh).mono fun e W' ⟨v, he, hp⟩ => ?_
  subst he
  exact ChangeSpec.post_blind hp
end Go.Proofs.YtcldnanpdpfhlaaDoor.MOpen
