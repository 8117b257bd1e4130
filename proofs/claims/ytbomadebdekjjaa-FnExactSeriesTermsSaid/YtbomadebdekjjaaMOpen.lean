/- Own words of this session: reading a law's arguments as Lean values (structs, arrays, slices), '==' of arrays, an array behind a store. -/
import Derived.Test.YtbomadebdekjjaaWWords
import Derived.Test.YtbomadebdekjjaaWLast
import Derived.Test.YtbomadebdekjjaaWMore
import Derived.ChangeKeysEq
import Derived.OpenShut
import Derived.SizedLaws
import Derived.ChangeSlices
namespace Go.Proofs.Ytbomadebdekjjaa.MOpen
open Go.RowKit Go.ChangeShapes Go.WideShapes Go.Proofs.YtbomadebdekjjaaW.PrintWords Go.Proofs.YtbomadebdekjjaaW.PrintLast
set_option linter.unusedVariables false
theorem add_off (g o j : Nat) : (⟨g, o, none⟩ : Addr).add j = ⟨g, o + j, none⟩ := by
  unfold Addr.add
  split <;> simp_all
section
variable {P : Program} {d : Nat} {xs ys : Array Value} {e : TypeId} {c i : Nat} {is : List Nat} {a b : Value} {r s : Bool} {w : World}
theorem eqi_last (ha : (part e xs (i * c)).run P w = .ok a w) (hb : (part e ys (i * c)).run P w = .ok b w) (he : (Op.equalIn d e a b).run P w = .ok r w) : (Op.eqItems d e c xs ys [i]).run P w = .ok r w := by
  simp only [Op.eqItems, Sem.run_bind, ha, hb, he, Result.andThen_ok]
  cases r <;> simp
theorem eqi_cons (ha : (part e xs (i * c)).run P w = .ok a w) (hb : (part e ys (i * c)).run P w = .ok b w) (he : (Op.equalIn d e a b).run P w = .ok r w) (hr : (Op.eqItems d e c xs ys is).run P w = .ok s w) : (Op.eqItems d e c xs ys (i :: is)).run P w = .ok (r && s) w := by
  rw [Op.eqItems]
  simp only [Sem.run_bind, ha, hb, he, Result.andThen_ok]
  cases r
  · simp
  · simpa using hr
theorem eqAr_of {t : TypeId} {n : Nat} (hu : P.underlying t = some (.array n e)) (hi : (P.info? e).isSome = true) (hc : P.cellsOf e = c) (h : (Op.eqItems d e c xs ys (List.range n)).run P w = .ok r w) : (Op.equalIn (d + 1) t (.agg xs) (.agg ys)).run P w = .ok r w := by
  obtain ⟨inf, hinf⟩ := Option.isSome_iff_exists.mp hi
  rw [run_equalIn_array w d xs ys hu hinf, hc]
  exact h
end
theorem wfB_i64 {x : Int} (h : (Lit.int .i64 x).wf = true) : -9223372036854775808 ≤ x ∧ x ≤ 9223372036854775807 := by
  simp [Lit.wf, IntKind.min, IntKind.max, IntKind.signed, IntKind.bits] at h
  omega
section
variable {H : Type} {enc : TypeId × Value → H} {P : Program} {w : World}
def Opens {α : Type} (enc : TypeId × Value → H) (P : Program) (w : World) (t : TypeId) (k : Kd α) (WF : α → Prop) : Prop :=
  ∀ (fuel : Nat) (cs : List Value) (x : DataW H × List MemPlace), DataW.trod enc P w 0 (fun _ => true) true fuel t cs = some x → (∀ n ∈ x.1.weights P t, n ≤ reachBytes) → ∃ a, k.K w a cs ∧ WF a
theorem opens_int {k : IntKind} {t : TypeId} {WF : Int → Prop} (ht : P.underlying t = some (.int k)) (hw : ∀ {n}, (Lit.int k n).wf = true → WF n) : Opens enc P w t (Kd.int k) WF := by
  intro fuel cs x h _
  obtain ⟨n, rfl, _, hn⟩ := DataW.trod_int ht h
  exact ⟨n, rfl, hw hn⟩
theorem opens_bool {t : TypeId} (ht : P.underlying t = some .bool) : Opens enc P w t Kd.bool (fun _ => True) := by
  intro fuel cs x h _
  obtain ⟨n, rfl, _⟩ := DataW.trod_bool ht h
  exact ⟨n, rfl, trivial⟩
theorem cons_of {n : Nat} {cs : List Value} (h : cs.length = n + 1) : ∃ c cs', cs = c :: cs' ∧ cs'.length = n := by
  cases cs with
  | nil => simp at h
  | cons c cs' => exact ⟨c, cs', rfl, by simpa using h⟩
theorem consX_of {α : Type} {n : Nat} {cs : List α} (h : cs.length = n + 1) : ∃ c cs', cs = c :: cs' ∧ cs'.length = n := by
  cases cs with
  | nil => simp at h
  | cons c cs' => exact ⟨c, cs', rfl, by simpa using h⟩
theorem weight_of {ts : List TypeId} {ds : List (DataW H)} {j : Nat} {t : TypeId} {d : DataW H} (hsz : (DataW.weightsEach P ts ds).all (· ≤ reachBytes) = true) (ht : ts[j]? = some t) (hd : ds[j]? = some d) : ∀ n ∈ d.weights P t, n ≤ reachBytes := by
  intro n hn
  have := List.all_eq_true.1 hsz _ (DataW.weights_mem_each ht hd n hn)
  simpa using this
theorem weight_struct {t : TypeId} {fs : Array Field} {ps : List (DataW H)} (ht : P.underlying t = some (.struct fs)) (hz : ∀ n ∈ (DataW.agg ps).weights P t, n ≤ reachBytes) {j : Nat} {e : TypeId} {d : DataW H} (he : (fs.toList.map (·.type))[j]? = some e) (hd : ps[j]? = some d) : ∀ n ∈ d.weights P e, n ≤ reachBytes := by
  intro n hn
  refine hz n ?_
  simp only [DataW.weights, ht]
  exact DataW.weights_mem_each he hd n hn
end
theorem cells5_ {W : World} {g : Nat} {t : TypeId} {a0 a1 a2 a3 a4 : Value} (h : W.heap[g]? = some (.cells #[a0, a1, a2, a3, a4] t (0, 0))) : W.cell? ⟨g, 0, none⟩ = some a0 ∧ W.cell? ⟨g, 1, none⟩ = some a1 ∧ W.cell? ⟨g, 2, none⟩ = some a2 ∧ W.cell? ⟨g, 3, none⟩ = some a3 ∧ W.cell? ⟨g, 4, none⟩ = some a4 := ⟨(blk_cell h 0).trans rfl, (blk_cell h 1).trans rfl, (blk_cell h 2).trans rfl, (blk_cell h 3).trans rfl, (blk_cell h 4).trans rfl⟩
theorem frozen5_ {W : World} {g : Nat} {t : TypeId} {a0 a1 a2 a3 a4 : Value} (h : W.heap[g]? = some (.cells #[a0, a1, a2, a3, a4] t (0, 0))) : W.frozen? ⟨g, 0, none⟩ = false ∧ W.frozen? ⟨g, 1, none⟩ = false ∧ W.frozen? ⟨g, 2, none⟩ = false ∧ W.frozen? ⟨g, 3, none⟩ = false ∧ W.frozen? ⟨g, 4, none⟩ = false := ⟨blk_frozen h 0, blk_frozen h 1, blk_frozen h 2, blk_frozen h 3, blk_frozen h 4⟩
theorem puts5_ {W : World} {g : Nat} {t : TypeId} (a0 a1 a2 a3 a4 : Value) {b0 b1 b2 b3 b4 : Value} (h : W.heap[g]? = some (.cells #[a0, a1, a2, a3, a4] t (0, 0))) : (((((W.setCell ⟨g, 0, none⟩ b0).setCell ⟨g, 1, none⟩ b1).setCell ⟨g, 2, none⟩ b2).setCell ⟨g, 3, none⟩ b3).setCell ⟨g, 4, none⟩ b4).heap[g]? = some (.cells #[b0, b1, b2, b3, b4] t (0, 0)) := (blk_put (cs := #[b0, b1, b2, b3, a4]) (blk_put (cs := #[b0, b1, b2, a3, a4]) (blk_put (cs := #[b0, b1, a2, a3, a4]) (blk_put (cs := #[b0, a1, a2, a3, a4]) (blk_put (cs := #[a0, a1, a2, a3, a4]) h 0 b0 rfl) 1 b1 rfl) 2 b2 rfl) 3 b3 rfl) 4 b4 rfl)
theorem cells6_ {W : World} {g : Nat} {t : TypeId} {a0 a1 a2 a3 a4 a5 : Value} (h : W.heap[g]? = some (.cells #[a0, a1, a2, a3, a4, a5] t (0, 0))) : W.cell? ⟨g, 0, none⟩ = some a0 ∧ W.cell? ⟨g, 1, none⟩ = some a1 ∧ W.cell? ⟨g, 2, none⟩ = some a2 ∧ W.cell? ⟨g, 3, none⟩ = some a3 ∧ W.cell? ⟨g, 4, none⟩ = some a4 ∧ W.cell? ⟨g, 5, none⟩ = some a5 := ⟨(blk_cell h 0).trans rfl, (blk_cell h 1).trans rfl, (blk_cell h 2).trans rfl, (blk_cell h 3).trans rfl, (blk_cell h 4).trans rfl, (blk_cell h 5).trans rfl⟩
theorem frozen6_ {W : World} {g : Nat} {t : TypeId} {a0 a1 a2 a3 a4 a5 : Value} (h : W.heap[g]? = some (.cells #[a0, a1, a2, a3, a4, a5] t (0, 0))) : W.frozen? ⟨g, 0, none⟩ = false ∧ W.frozen? ⟨g, 1, none⟩ = false ∧ W.frozen? ⟨g, 2, none⟩ = false ∧ W.frozen? ⟨g, 3, none⟩ = false ∧ W.frozen? ⟨g, 4, none⟩ = false ∧ W.frozen? ⟨g, 5, none⟩ = false := ⟨blk_frozen h 0, blk_frozen h 1, blk_frozen h 2, blk_frozen h 3, blk_frozen h 4, blk_frozen h 5⟩
theorem puts6_ {W : World} {g : Nat} {t : TypeId} (a0 a1 a2 a3 a4 a5 : Value) {b0 b1 b2 b3 b4 b5 : Value} (h : W.heap[g]? = some (.cells #[a0, a1, a2, a3, a4, a5] t (0, 0))) : ((((((W.setCell ⟨g, 0, none⟩ b0).setCell ⟨g, 1, none⟩ b1).setCell ⟨g, 2, none⟩ b2).setCell ⟨g, 3, none⟩ b3).setCell ⟨g, 4, none⟩ b4).setCell ⟨g, 5, none⟩ b5).heap[g]? = some (.cells #[b0, b1, b2, b3, b4, b5] t (0, 0)) := (blk_put (cs := #[b0, b1, b2, b3, b4, a5]) (blk_put (cs := #[b0, b1, b2, b3, a4, a5]) (blk_put (cs := #[b0, b1, b2, a3, a4, a5]) (blk_put (cs := #[b0, b1, a2, a3, a4, a5]) (blk_put (cs := #[b0, a1, a2, a3, a4, a5]) (blk_put (cs := #[a0, a1, a2, a3, a4, a5]) h 0 b0 rfl) 1 b1 rfl) 2 b2 rfl) 3 b3 rfl) 4 b4 rfl) 5 b5 rfl)
theorem cells7_ {W : World} {g : Nat} {t : TypeId} {a0 a1 a2 a3 a4 a5 a6 : Value} (h : W.heap[g]? = some (.cells #[a0, a1, a2, a3, a4, a5, a6] t (0, 0))) : W.cell? ⟨g, 0, none⟩ = some a0 ∧ W.cell? ⟨g, 1, none⟩ = some a1 ∧ W.cell? ⟨g, 2, none⟩ = some a2 ∧ W.cell? ⟨g, 3, none⟩ = some a3 ∧ W.cell? ⟨g, 4, none⟩ = some a4 ∧ W.cell? ⟨g, 5, none⟩ = some a5 ∧ W.cell? ⟨g, 6, none⟩ = some a6 := ⟨(blk_cell h 0).trans rfl, (blk_cell h 1).trans rfl, (blk_cell h 2).trans rfl, (blk_cell h 3).trans rfl, (blk_cell h 4).trans rfl, (blk_cell h 5).trans rfl, (blk_cell h 6).trans rfl⟩
theorem frozen7_ {W : World} {g : Nat} {t : TypeId} {a0 a1 a2 a3 a4 a5 a6 : Value} (h : W.heap[g]? = some (.cells #[a0, a1, a2, a3, a4, a5, a6] t (0, 0))) : W.frozen? ⟨g, 0, none⟩ = false ∧ W.frozen? ⟨g, 1, none⟩ = false ∧ W.frozen? ⟨g, 2, none⟩ = false ∧ W.frozen? ⟨g, 3, none⟩ = false ∧ W.frozen? ⟨g, 4, none⟩ = false ∧ W.frozen? ⟨g, 5, none⟩ = false ∧ W.frozen? ⟨g, 6, none⟩ = false := ⟨blk_frozen h 0, blk_frozen h 1, blk_frozen h 2, blk_frozen h 3, blk_frozen h 4, blk_frozen h 5, blk_frozen h 6⟩
theorem puts7_ {W : World} {g : Nat} {t : TypeId} (a0 a1 a2 a3 a4 a5 a6 : Value) {b0 b1 b2 b3 b4 b5 b6 : Value} (h : W.heap[g]? = some (.cells #[a0, a1, a2, a3, a4, a5, a6] t (0, 0))) : (((((((W.setCell ⟨g, 0, none⟩ b0).setCell ⟨g, 1, none⟩ b1).setCell ⟨g, 2, none⟩ b2).setCell ⟨g, 3, none⟩ b3).setCell ⟨g, 4, none⟩ b4).setCell ⟨g, 5, none⟩ b5).setCell ⟨g, 6, none⟩ b6).heap[g]? = some (.cells #[b0, b1, b2, b3, b4, b5, b6] t (0, 0)) := (blk_put (cs := #[b0, b1, b2, b3, b4, b5, a6]) (blk_put (cs := #[b0, b1, b2, b3, b4, a5, a6]) (blk_put (cs := #[b0, b1, b2, b3, a4, a5, a6]) (blk_put (cs := #[b0, b1, b2, a3, a4, a5, a6]) (blk_put (cs := #[b0, b1, a2, a3, a4, a5, a6]) (blk_put (cs := #[b0, a1, a2, a3, a4, a5, a6]) (blk_put (cs := #[a0, a1, a2, a3, a4, a5, a6]) h 0 b0 rfl) 1 b1 rfl) 2 b2 rfl) 3 b3 rfl) 4 b4 rfl) 5 b5 rfl) 6 b6 rfl)
theorem run_row_ {P : Program} {o : Oper} {a : Act} {W : World} {ty : TypeId} {x y : Operand} (ho : o.op = .store ty x y) {g : Nat} {t : TypeId} {old cells : Array Value}
    (hx : a.eval x = .pointer (some ⟨g, 0, none⟩)) (hy : a.eval y = .agg cells) (hg : W.heap[g]? = some (.cells old t (0, 0))) (hi : (P.info? ty).map (·.size) = some cells.size)
    (hold : old.size = cells.size) (h1 : cells.all (·.oneCell') = true) : (execOp a.eval o).run P W = .ok .skip (W.setRow g cells) := by
  unfold execOp
  simp only [ho, hx, hy, Instr.storeAt, Instr.sureAddr, Sem.run_bind, Sem.run_pure, Result.andThen_ok, run_storeVar_row W g t ty old cells hg hi hold h1]
theorem chain5_ {W : World} {g : Nat} {t : TypeId} {a0 a1 a2 a3 a4 : Value} (b0 b1 b2 b3 b4 : Value) (h : W.heap[g]? = some (.cells #[a0, a1, a2, a3, a4] t (0, 0))) : W.setRow g #[b0, b1, b2, b3, b4] = (((((W.setCell ⟨g, 0, none⟩ b0).setCell ⟨g, 1, none⟩ b1).setCell ⟨g, 2, none⟩ b2).setCell ⟨g, 3, none⟩ b3).setCell ⟨g, 4, none⟩ b4) := by
  rw [setCell_eq_setRow _ g 0 #[a0, a1, a2, a3, a4] t (0, 0) b0 (h), show (#[a0, a1, a2, a3, a4] : Array Value).setIfInBounds 0 b0 = #[b0, a1, a2, a3, a4] from rfl]
  rw [setCell_eq_setRow _ g 1 #[b0, a1, a2, a3, a4] t (0, 0) b1 (setRow_heap _ g _ _ t (0, 0) h), show (#[b0, a1, a2, a3, a4] : Array Value).setIfInBounds 1 b1 = #[b0, b1, a2, a3, a4] from rfl, setRow_setRow]
  rw [setCell_eq_setRow _ g 2 #[b0, b1, a2, a3, a4] t (0, 0) b2 (setRow_heap _ g _ _ t (0, 0) h), show (#[b0, b1, a2, a3, a4] : Array Value).setIfInBounds 2 b2 = #[b0, b1, b2, a3, a4] from rfl, setRow_setRow]
  rw [setCell_eq_setRow _ g 3 #[b0, b1, b2, a3, a4] t (0, 0) b3 (setRow_heap _ g _ _ t (0, 0) h), show (#[b0, b1, b2, a3, a4] : Array Value).setIfInBounds 3 b3 = #[b0, b1, b2, b3, a4] from rfl, setRow_setRow]
  rw [setCell_eq_setRow _ g 4 #[b0, b1, b2, b3, a4] t (0, 0) b4 (setRow_heap _ g _ _ t (0, 0) h), show (#[b0, b1, b2, b3, a4] : Array Value).setIfInBounds 4 b4 = #[b0, b1, b2, b3, b4] from rfl, setRow_setRow]
theorem run_put5_ {P : Program} {o : Oper} {a : Act} {W : World} {ty : TypeId} {x y : Operand} (ho : o.op = .store ty x y) {g : Nat} {t : TypeId} {a0 a1 a2 a3 a4 b0 b1 b2 b3 b4 : Value} (hx : a.eval x = .pointer (some ⟨g, 0, none⟩)) (hy : a.eval y = .agg #[b0, b1, b2, b3, b4]) (hg : W.heap[g]? = some (.cells #[a0, a1, a2, a3, a4] t (0, 0))) (hi : (P.info? ty).map (·.size) = some 5) (h1 : [b0, b1, b2, b3, b4].all (·.oneCell') = true) : (execOp a.eval o).run P W = .ok .skip (((((W.setCell ⟨g, 0, none⟩ b0).setCell ⟨g, 1, none⟩ b1).setCell ⟨g, 2, none⟩ b2).setCell ⟨g, 3, none⟩ b3).setCell ⟨g, 4, none⟩ b4) := by
  rw [← chain5_ b0 b1 b2 b3 b4 hg]
  exact run_row_ ho hx hy hg hi rfl (by simpa using h1)
theorem chain6_ {W : World} {g : Nat} {t : TypeId} {a0 a1 a2 a3 a4 a5 : Value} (b0 b1 b2 b3 b4 b5 : Value) (h : W.heap[g]? = some (.cells #[a0, a1, a2, a3, a4, a5] t (0, 0))) : W.setRow g #[b0, b1, b2, b3, b4, b5] = ((((((W.setCell ⟨g, 0, none⟩ b0).setCell ⟨g, 1, none⟩ b1).setCell ⟨g, 2, none⟩ b2).setCell ⟨g, 3, none⟩ b3).setCell ⟨g, 4, none⟩ b4).setCell ⟨g, 5, none⟩ b5) := by
  rw [setCell_eq_setRow _ g 0 #[a0, a1, a2, a3, a4, a5] t (0, 0) b0 (h), show (#[a0, a1, a2, a3, a4, a5] : Array Value).setIfInBounds 0 b0 = #[b0, a1, a2, a3, a4, a5] from rfl]
  rw [setCell_eq_setRow _ g 1 #[b0, a1, a2, a3, a4, a5] t (0, 0) b1 (setRow_heap _ g _ _ t (0, 0) h), show (#[b0, a1, a2, a3, a4, a5] : Array Value).setIfInBounds 1 b1 = #[b0, b1, a2, a3, a4, a5] from rfl, setRow_setRow]
  rw [setCell_eq_setRow _ g 2 #[b0, b1, a2, a3, a4, a5] t (0, 0) b2 (setRow_heap _ g _ _ t (0, 0) h), show (#[b0, b1, a2, a3, a4, a5] : Array Value).setIfInBounds 2 b2 = #[b0, b1, b2, a3, a4, a5] from rfl, setRow_setRow]
  rw [setCell_eq_setRow _ g 3 #[b0, b1, b2, a3, a4, a5] t (0, 0) b3 (setRow_heap _ g _ _ t (0, 0) h), show (#[b0, b1, b2, a3, a4, a5] : Array Value).setIfInBounds 3 b3 = #[b0, b1, b2, b3, a4, a5] from rfl, setRow_setRow]
  rw [setCell_eq_setRow _ g 4 #[b0, b1, b2, b3, a4, a5] t (0, 0) b4 (setRow_heap _ g _ _ t (0, 0) h), show (#[b0, b1, b2, b3, a4, a5] : Array Value).setIfInBounds 4 b4 = #[b0, b1, b2, b3, b4, a5] from rfl, setRow_setRow]
  rw [setCell_eq_setRow _ g 5 #[b0, b1, b2, b3, b4, a5] t (0, 0) b5 (setRow_heap _ g _ _ t (0, 0) h), show (#[b0, b1, b2, b3, b4, a5] : Array Value).setIfInBounds 5 b5 = #[b0, b1, b2, b3, b4, b5] from rfl, setRow_setRow]
theorem run_put6_ {P : Program} {o : Oper} {a : Act} {W : World} {ty : TypeId} {x y : Operand} (ho : o.op = .store ty x y) {g : Nat} {t : TypeId} {a0 a1 a2 a3 a4 a5 b0 b1 b2 b3 b4 b5 : Value} (hx : a.eval x = .pointer (some ⟨g, 0, none⟩)) (hy : a.eval y = .agg #[b0, b1, b2, b3, b4, b5]) (hg : W.heap[g]? = some (.cells #[a0, a1, a2, a3, a4, a5] t (0, 0))) (hi : (P.info? ty).map (·.size) = some 6) (h1 : [b0, b1, b2, b3, b4, b5].all (·.oneCell') = true) : (execOp a.eval o).run P W = .ok .skip ((((((W.setCell ⟨g, 0, none⟩ b0).setCell ⟨g, 1, none⟩ b1).setCell ⟨g, 2, none⟩ b2).setCell ⟨g, 3, none⟩ b3).setCell ⟨g, 4, none⟩ b4).setCell ⟨g, 5, none⟩ b5) := by
  rw [← chain6_ b0 b1 b2 b3 b4 b5 hg]
  exact run_row_ ho hx hy hg hi rfl (by simpa using h1)
theorem chain7_ {W : World} {g : Nat} {t : TypeId} {a0 a1 a2 a3 a4 a5 a6 : Value} (b0 b1 b2 b3 b4 b5 b6 : Value) (h : W.heap[g]? = some (.cells #[a0, a1, a2, a3, a4, a5, a6] t (0, 0))) : W.setRow g #[b0, b1, b2, b3, b4, b5, b6] = (((((((W.setCell ⟨g, 0, none⟩ b0).setCell ⟨g, 1, none⟩ b1).setCell ⟨g, 2, none⟩ b2).setCell ⟨g, 3, none⟩ b3).setCell ⟨g, 4, none⟩ b4).setCell ⟨g, 5, none⟩ b5).setCell ⟨g, 6, none⟩ b6) := by
  rw [setCell_eq_setRow _ g 0 #[a0, a1, a2, a3, a4, a5, a6] t (0, 0) b0 (h), show (#[a0, a1, a2, a3, a4, a5, a6] : Array Value).setIfInBounds 0 b0 = #[b0, a1, a2, a3, a4, a5, a6] from rfl]
  rw [setCell_eq_setRow _ g 1 #[b0, a1, a2, a3, a4, a5, a6] t (0, 0) b1 (setRow_heap _ g _ _ t (0, 0) h), show (#[b0, a1, a2, a3, a4, a5, a6] : Array Value).setIfInBounds 1 b1 = #[b0, b1, a2, a3, a4, a5, a6] from rfl, setRow_setRow]
  rw [setCell_eq_setRow _ g 2 #[b0, b1, a2, a3, a4, a5, a6] t (0, 0) b2 (setRow_heap _ g _ _ t (0, 0) h), show (#[b0, b1, a2, a3, a4, a5, a6] : Array Value).setIfInBounds 2 b2 = #[b0, b1, b2, a3, a4, a5, a6] from rfl, setRow_setRow]
  rw [setCell_eq_setRow _ g 3 #[b0, b1, b2, a3, a4, a5, a6] t (0, 0) b3 (setRow_heap _ g _ _ t (0, 0) h), show (#[b0, b1, b2, a3, a4, a5, a6] : Array Value).setIfInBounds 3 b3 = #[b0, b1, b2, b3, a4, a5, a6] from rfl, setRow_setRow]
  rw [setCell_eq_setRow _ g 4 #[b0, b1, b2, b3, a4, a5, a6] t (0, 0) b4 (setRow_heap _ g _ _ t (0, 0) h), show (#[b0, b1, b2, b3, a4, a5, a6] : Array Value).setIfInBounds 4 b4 = #[b0, b1, b2, b3, b4, a5, a6] from rfl, setRow_setRow]
  rw [setCell_eq_setRow _ g 5 #[b0, b1, b2, b3, b4, a5, a6] t (0, 0) b5 (setRow_heap _ g _ _ t (0, 0) h), show (#[b0, b1, b2, b3, b4, a5, a6] : Array Value).setIfInBounds 5 b5 = #[b0, b1, b2, b3, b4, b5, a6] from rfl, setRow_setRow]
  rw [setCell_eq_setRow _ g 6 #[b0, b1, b2, b3, b4, b5, a6] t (0, 0) b6 (setRow_heap _ g _ _ t (0, 0) h), show (#[b0, b1, b2, b3, b4, b5, a6] : Array Value).setIfInBounds 6 b6 = #[b0, b1, b2, b3, b4, b5, b6] from rfl, setRow_setRow]
theorem run_put7_ {P : Program} {o : Oper} {a : Act} {W : World} {ty : TypeId} {x y : Operand} (ho : o.op = .store ty x y) {g : Nat} {t : TypeId} {a0 a1 a2 a3 a4 a5 a6 b0 b1 b2 b3 b4 b5 b6 : Value} (hx : a.eval x = .pointer (some ⟨g, 0, none⟩)) (hy : a.eval y = .agg #[b0, b1, b2, b3, b4, b5, b6]) (hg : W.heap[g]? = some (.cells #[a0, a1, a2, a3, a4, a5, a6] t (0, 0))) (hi : (P.info? ty).map (·.size) = some 7) (h1 : [b0, b1, b2, b3, b4, b5, b6].all (·.oneCell') = true) : (execOp a.eval o).run P W = .ok .skip (((((((W.setCell ⟨g, 0, none⟩ b0).setCell ⟨g, 1, none⟩ b1).setCell ⟨g, 2, none⟩ b2).setCell ⟨g, 3, none⟩ b3).setCell ⟨g, 4, none⟩ b4).setCell ⟨g, 5, none⟩ b5).setCell ⟨g, 6, none⟩ b6) := by
  rw [← chain7_ b0 b1 b2 b3 b4 b5 b6 hg]
  exact run_row_ ho hx hy hg hi rfl (by simpa using h1)
theorem chain12_ {W : World} {g : Nat} {t : TypeId} {a0 a1 a2 a3 a4 a5 a6 a7 a8 a9 a10 a11 : Value} (b0 b1 b2 b3 b4 b5 b6 b7 b8 b9 b10 b11 : Value) (h : W.heap[g]? = some (.cells #[a0, a1, a2, a3, a4, a5, a6, a7, a8, a9, a10, a11] t (0, 0))) : W.setRow g #[b0, b1, b2, b3, b4, b5, b6, b7, b8, b9, b10, b11] = ((((((((((((W.setCell ⟨g, 0, none⟩ b0).setCell ⟨g, 1, none⟩ b1).setCell ⟨g, 2, none⟩ b2).setCell ⟨g, 3, none⟩ b3).setCell ⟨g, 4, none⟩ b4).setCell ⟨g, 5, none⟩ b5).setCell ⟨g, 6, none⟩ b6).setCell ⟨g, 7, none⟩ b7).setCell ⟨g, 8, none⟩ b8).setCell ⟨g, 9, none⟩ b9).setCell ⟨g, 10, none⟩ b10).setCell ⟨g, 11, none⟩ b11) := by
  rw [setCell_eq_setRow _ g 0 #[a0, a1, a2, a3, a4, a5, a6, a7, a8, a9, a10, a11] t (0, 0) b0 (h), show (#[a0, a1, a2, a3, a4, a5, a6, a7, a8, a9, a10, a11] : Array Value).setIfInBounds 0 b0 = #[b0, a1, a2, a3, a4, a5, a6, a7, a8, a9, a10, a11] from rfl]
  rw [setCell_eq_setRow _ g 1 #[b0, a1, a2, a3, a4, a5, a6, a7, a8, a9, a10, a11] t (0, 0) b1 (setRow_heap _ g _ _ t (0, 0) h), show (#[b0, a1, a2, a3, a4, a5, a6, a7, a8, a9, a10, a11] : Array Value).setIfInBounds 1 b1 = #[b0, b1, a2, a3, a4, a5, a6, a7, a8, a9, a10, a11] from rfl, setRow_setRow]
  rw [setCell_eq_setRow _ g 2 #[b0, b1, a2, a3, a4, a5, a6, a7, a8, a9, a10, a11] t (0, 0) b2 (setRow_heap _ g _ _ t (0, 0) h), show (#[b0, b1, a2, a3, a4, a5, a6, a7, a8, a9, a10, a11] : Array Value).setIfInBounds 2 b2 = #[b0, b1, b2, a3, a4, a5, a6, a7, a8, a9, a10, a11] from rfl, setRow_setRow]
  rw [setCell_eq_setRow _ g 3 #[b0, b1, b2, a3, a4, a5, a6, a7, a8, a9, a10, a11] t (0, 0) b3 (setRow_heap _ g _ _ t (0, 0) h), show (#[b0, b1, b2, a3, a4, a5, a6, a7, a8, a9, a10, a11] : Array Value).setIfInBounds 3 b3 = #[b0, b1, b2, b3, a4, a5, a6, a7, a8, a9, a10, a11] from rfl, setRow_setRow]
  rw [setCell_eq_setRow _ g 4 #[b0, b1, b2, b3, a4, a5, a6, a7, a8, a9, a10, a11] t (0, 0) b4 (setRow_heap _ g _ _ t (0, 0) h), show (#[b0, b1, b2, b3, a4, a5, a6, a7, a8, a9, a10, a11] : Array Value).setIfInBounds 4 b4 = #[b0, b1, b2, b3, b4, a5, a6, a7, a8, a9, a10, a11] from rfl, setRow_setRow]
  rw [setCell_eq_setRow _ g 5 #[b0, b1, b2, b3, b4, a5, a6, a7, a8, a9, a10, a11] t (0, 0) b5 (setRow_heap _ g _ _ t (0, 0) h), show (#[b0, b1, b2, b3, b4, a5, a6, a7, a8, a9, a10, a11] : Array Value).setIfInBounds 5 b5 = #[b0, b1, b2, b3, b4, b5, a6, a7, a8, a9, a10, a11] from rfl, setRow_setRow]
  rw [setCell_eq_setRow _ g 6 #[b0, b1, b2, b3, b4, b5, a6, a7, a8, a9, a10, a11] t (0, 0) b6 (setRow_heap _ g _ _ t (0, 0) h), show (#[b0, b1, b2, b3, b4, b5, a6, a7, a8, a9, a10, a11] : Array Value).setIfInBounds 6 b6 = #[b0, b1, b2, b3, b4, b5, b6, a7, a8, a9, a10, a11] from rfl, setRow_setRow]
  rw [setCell_eq_setRow _ g 7 #[b0, b1, b2, b3, b4, b5, b6, a7, a8, a9, a10, a11] t (0, 0) b7 (setRow_heap _ g _ _ t (0, 0) h), show (#[b0, b1, b2, b3, b4, b5, b6, a7, a8, a9, a10, a11] : Array Value).setIfInBounds 7 b7 = #[b0, b1, b2, b3, b4, b5, b6, b7, a8, a9, a10, a11] from rfl, setRow_setRow]
  rw [setCell_eq_setRow _ g 8 #[b0, b1, b2, b3, b4, b5, b6, b7, a8, a9, a10, a11] t (0, 0) b8 (setRow_heap _ g _ _ t (0, 0) h), show (#[b0, b1, b2, b3, b4, b5, b6, b7, a8, a9, a10, a11] : Array Value).setIfInBounds 8 b8 = #[b0, b1, b2, b3, b4, b5, b6, b7, b8, a9, a10, a11] from rfl, setRow_setRow]
  rw [setCell_eq_setRow _ g 9 #[b0, b1, b2, b3, b4, b5, b6, b7, b8, a9, a10, a11] t (0, 0) b9 (setRow_heap _ g _ _ t (0, 0) h), show (#[b0, b1, b2, b3, b4, b5, b6, b7, b8, a9, a10, a11] : Array Value).setIfInBounds 9 b9 = #[b0, b1, b2, b3, b4, b5, b6, b7, b8, b9, a10, a11] from rfl, setRow_setRow]
  rw [setCell_eq_setRow _ g 10 #[b0, b1, b2, b3, b4, b5, b6, b7, b8, b9, a10, a11] t (0, 0) b10 (setRow_heap _ g _ _ t (0, 0) h), show (#[b0, b1, b2, b3, b4, b5, b6, b7, b8, b9, a10, a11] : Array Value).setIfInBounds 10 b10 = #[b0, b1, b2, b3, b4, b5, b6, b7, b8, b9, b10, a11] from rfl, setRow_setRow]
  rw [setCell_eq_setRow _ g 11 #[b0, b1, b2, b3, b4, b5, b6, b7, b8, b9, b10, a11] t (0, 0) b11 (setRow_heap _ g _ _ t (0, 0) h), show (#[b0, b1, b2, b3, b4, b5, b6, b7, b8, b9, b10, a11] : Array Value).setIfInBounds 11 b11 = #[b0, b1, b2, b3, b4, b5, b6, b7, b8, b9, b10, b11] from rfl, setRow_setRow]
theorem run_put12_ {P : Program} {o : Oper} {a : Act} {W : World} {ty : TypeId} {x y : Operand} (ho : o.op = .store ty x y) {g : Nat} {t : TypeId} {a0 a1 a2 a3 a4 a5 a6 a7 a8 a9 a10 a11 b0 b1 b2 b3 b4 b5 b6 b7 b8 b9 b10 b11 : Value} (hx : a.eval x = .pointer (some ⟨g, 0, none⟩)) (hy : a.eval y = .agg #[b0, b1, b2, b3, b4, b5, b6, b7, b8, b9, b10, b11]) (hg : W.heap[g]? = some (.cells #[a0, a1, a2, a3, a4, a5, a6, a7, a8, a9, a10, a11] t (0, 0))) (hi : (P.info? ty).map (·.size) = some 12) (h1 : [b0, b1, b2, b3, b4, b5, b6, b7, b8, b9, b10, b11].all (·.oneCell') = true) : (execOp a.eval o).run P W = .ok .skip ((((((((((((W.setCell ⟨g, 0, none⟩ b0).setCell ⟨g, 1, none⟩ b1).setCell ⟨g, 2, none⟩ b2).setCell ⟨g, 3, none⟩ b3).setCell ⟨g, 4, none⟩ b4).setCell ⟨g, 5, none⟩ b5).setCell ⟨g, 6, none⟩ b6).setCell ⟨g, 7, none⟩ b7).setCell ⟨g, 8, none⟩ b8).setCell ⟨g, 9, none⟩ b9).setCell ⟨g, 10, none⟩ b10).setCell ⟨g, 11, none⟩ b11) := by
  rw [← chain12_ b0 b1 b2 b3 b4 b5 b6 b7 b8 b9 b10 b11 hg]
  exact run_row_ ho hx hy hg hi rfl (by simpa using h1)
section
variable {P : Program} {ops : Array Oper} {md : Region.Mode} {Q : Exit → Act → World → Prop} {S : World → Prop} {ds : List Nat}
theorem one_store_ {i : Nat} {oi : Oper} {fuel : Nat} {l : Array Bool} {a : Act} {w w1 : World} (l' : Array Bool) (hi : ops[i]? = some oi) (hN : oi.dst = none) (hc : readyB md ops l l' i = true) (hd : i ∉ ds)
    (hw : Region.wanted oi (yielded ops a.tmps) = true) (hrun : (execOp a.eval oi).run P w = .ok .skip w1) (hS : S w1) (h : S w1 → wpAnyLast P md ops Q S ds fuel l' a w1) : wpAnyLast P md ops Q S ds (fuel + 1) l a w :=
  one_ l' hi hN hc hd (fun K hK => skip_ hw hN hrun (hK.out _ _ hS h))
theorem last_store_ {i : Nat} {oi : Oper} {fuel : Nat} {l : Array Bool} {a : Act} {w w1 : World} (l' : Array Bool) (hi : ops[i]? = some oi) (hN : oi.dst = none) (hc : readyB md ops l l' i = true) (hd : i ∈ ds)
    (hw : Region.wanted oi (yielded ops a.tmps) = true) (hrun : (execOp a.eval oi).run P w = .ok .skip w1) (h : wpAnyLast P md ops Q S ds fuel l' a w1) : wpAnyLast P md ops Q S ds (fuel + 1) l a w :=
  last_ l' hi hN hc hd (fun K hK => skip_ hw hN hrun (hK.out _ _ h))
end
end Go.Proofs.Ytbomadebdekjjaa.MOpen
