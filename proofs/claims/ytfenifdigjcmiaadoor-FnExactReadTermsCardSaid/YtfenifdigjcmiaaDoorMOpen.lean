/- Own words of this session: reading a law's arguments as Lean values (structs, arrays, slices), '==' of arrays, an array behind a store. -/
import Derived.Test.YtfenifdigjcmiaaDoorWWords
import Derived.Test.YtfenifdigjcmiaaDoorWLast
import Derived.Test.YtfenifdigjcmiaaDoorWMore
import Derived.ChangeKeysEq
import Derived.OpenShut
import Derived.SizedLaws
import Derived.ChangeSlices
namespace Go.Proofs.YtfenifdigjcmiaaDoor.MOpen
open Go.RowKit Go.ChangeShapes Go.WideShapes Go.Proofs.YtfenifdigjcmiaaDoorW.PrintWords Go.Proofs.YtfenifdigjcmiaaDoorW.PrintLast
set_option linter.unusedVariables false
/-- An array behind a store: element i, where v was put at j. -/
def aput {α : Type} (i j : Int) (v a : α) : α := if j = i then v else a
theorem add_off (g o j : Nat) : (⟨g, o, none⟩ : Addr).add j = ⟨g, o + j, none⟩ := by
  unfold Addr.add
  split <;> simp_all
section
variable {P : Program} {d : Nat} {xs ys : Array Value} {e : TypeId} {c i : Nat} {is : List Nat} {a b : Value} {r s : Bool} {w : World}
theorem eqi_last (ha : (part e xs (i * c)).run P w = .ok a w) (hb : (part e ys (i * c)).run P w = .ok b w) (he : (Op.equalIn d e a b).run P w = .ok r w) : (Op.eqItems d e c xs ys [i]).run P w = .ok r w := by
  simp only [Op.eqItems, Sem.run_bind, ha, hb, he, Result.andThen_ok]
  cases r <;> simp
theorem eqi_cons (ha : (part e xs (i * c)).run P w = .ok a w) (hb : (part e ys (i * c)).run P w = .ok b w) (he : (Op.equalIn d e a b).run P w = .ok r w) (hr : (Op.eqItems d e c xs ys is).run P w = .ok s w) : (Op.eqItems d e c xs ys (i :: is)).run P w = .ok (r && s) w := by
  rw [Op.eqItems]
  simp only [Sem.run_bind, ha, hb, he, Result.andThen_ok]
  cases r
  · simp
  · simpa using hr
theorem eqAr_of {t : TypeId} {n : Nat} (hu : P.underlying t = some (.array n e)) (hi : (P.info? e).isSome = true) (hc : P.cellsOf e = c) (h : (Op.eqItems d e c xs ys (List.range n)).run P w = .ok r w) : (Op.equalIn (d + 1) t (.agg xs) (.agg ys)).run P w = .ok r w := by
  obtain ⟨inf, hinf⟩ := Option.isSome_iff_exists.mp hi
  rw [run_equalIn_array w d xs ys hu hinf, hc]
  exact h
end
/-! ### arguments -/
theorem wfB_i64 {x : Int} (h : (Lit.int .i64 x).wf = true) : -9223372036854775808 ≤ x ∧ x ≤ 9223372036854775807 := by
  simp [Lit.wf, IntKind.min, IntKind.max, IntKind.signed, IntKind.bits] at h
  omega
theorem wfB_i32 {x : Int} (h : (Lit.int .i32 x).wf = true) : -2147483648 ≤ x ∧ x ≤ 2147483647 := by
  simp [Lit.wf, IntKind.min, IntKind.max, IntKind.signed, IntKind.bits] at h
  omega
theorem wfB_i16 {x : Int} (h : (Lit.int .i16 x).wf = true) : -32768 ≤ x ∧ x ≤ 32767 := by
  simp [Lit.wf, IntKind.min, IntKind.max, IntKind.signed, IntKind.bits] at h
  omega
theorem wfB_i8 {x : Int} (h : (Lit.int .i8 x).wf = true) : -128 ≤ x ∧ x ≤ 127 := by
  simp [Lit.wf, IntKind.min, IntKind.max, IntKind.signed, IntKind.bits] at h
  omega
theorem wfB_u64 {x : Int} (h : (Lit.int .u64 x).wf = true) : 0 ≤ x ∧ x ≤ 18446744073709551615 := by
  simp [Lit.wf, IntKind.min, IntKind.max, IntKind.signed, IntKind.bits] at h
  omega
theorem wfB_u32 {x : Int} (h : (Lit.int .u32 x).wf = true) : 0 ≤ x ∧ x ≤ 4294967295 := by
  simp [Lit.wf, IntKind.min, IntKind.max, IntKind.signed, IntKind.bits] at h
  omega
theorem wfB_u16 {x : Int} (h : (Lit.int .u16 x).wf = true) : 0 ≤ x ∧ x ≤ 65535 := by
  simp [Lit.wf, IntKind.min, IntKind.max, IntKind.signed, IntKind.bits] at h
  omega
theorem wfB_u8 {x : Int} (h : (Lit.int .u8 x).wf = true) : 0 ≤ x ∧ x ≤ 255 := by
  simp [Lit.wf, IntKind.min, IntKind.max, IntKind.signed, IntKind.bits] at h
  omega
section
variable {H : Type} {enc : TypeId × Value → H} {P : Program} {w : World}
/-- A value of type t that came in and can be read as data reads as a Lean value of kind k, of which WF holds. -/
def Opens {α : Type} (enc : TypeId × Value → H) (P : Program) (w : World) (t : TypeId) (k : Kd α) (WF : α → Prop) : Prop :=
  ∀ (fuel : Nat) (cs : List Value) (x : DataW H × List MemPlace), DataW.trod enc P w 0 (fun _ => true) true fuel t cs = some x → (∀ n ∈ x.1.weights P t, n ≤ reachBytes) → ∃ a, k.K w a cs ∧ WF a
theorem opens_int {k : IntKind} {t : TypeId} {WF : Int → Prop} (ht : P.underlying t = some (.int k)) (hw : ∀ {n}, (Lit.int k n).wf = true → WF n) : Opens enc P w t (Kd.int k) WF := by
  intro fuel cs x h _
  obtain ⟨n, rfl, _, hn⟩ := DataW.trod_int ht h
  exact ⟨n, rfl, hw hn⟩
theorem opens_bool {t : TypeId} (ht : P.underlying t = some .bool) : Opens enc P w t Kd.bool (fun _ => True) := by
  intro fuel cs x h _
  obtain ⟨n, rfl, _⟩ := DataW.trod_bool ht h
  exact ⟨n, rfl, trivial⟩
theorem opens_string {t : TypeId} (ht : P.underlying t = some .string) : Opens enc P w t Kd.string (fun s => s.size ≤ 140737488351232) := by
  intro fuel cs x h hz
  obtain ⟨s, rfl, rfl, hs⟩ := DataW.trod_string ht h
  refine ⟨s, rfl, ?_⟩
  have h1 := hz s.data.toList.length (by simp [DataW.weights])
  have h6 : reachBytes = 140737488351232 := rfl
  have h2 : s.data.toList.length = s.size := by simp
  omega
theorem mem_weightsAll {e : TypeId} {d : DataW H} {n : Nat} (hn : n ∈ d.weights P e) : ∀ {l : List (DataW H)}, d ∈ l → n ∈ DataW.weightsAll P e l
  | y :: l, h => by
    simp only [DataW.weightsAll, List.mem_append]
    rcases List.mem_cons.1 h with rfl | h
    · exact .inl hn
    · exact .inr (mem_weightsAll hn h)
theorem list_of_get {α : Type} {Q : Nat → α → Prop} : ∀ (n : Nat), (∀ i, i < n → ∃ a, Q i a) → ∃ l : List α, l.length = n ∧ ∀ i a, l[i]? = some a → Q i a
  | 0, _ => ⟨[], rfl, fun i a h => by simp at h⟩
  | n + 1, h => by
    obtain ⟨l, hl, hq⟩ := list_of_get n (fun i hi => h i (by omega))
    obtain ⟨a, ha⟩ := h n (by omega)
    refine ⟨l ++ [a], by simp [hl], fun i b hb => ?_⟩
    rcases Nat.lt_or_ge i l.length with c | c
    · rw [List.getElem?_append_left c] at hb; exact hq i b hb
    · have hi : i = l.length := by
        have := (List.getElem?_eq_some_iff.1 hb).1
        simp at this; omega
      subst hi
      simp at hb
      subst hb
      rw [hl]; exact ha
theorem opens_slice {α : Type} {k : Kd α} {t e : TypeId} {B : Nat} {WF : α → Prop} (ht : P.underlying t = some (.slice e)) (hc : P.cellsOf e = k.sz) (hB : P.bytesOf e = B) (he : Opens enc P w e k WF) :
    Opens enc P w t (Kd.slice e k) (fun l => l.length * B ≤ 140737488351232 ∧ ∀ z ∈ l, WF z) := by
  intro fuel cs x h hz
  rcases DataW.trod_slice ht h with ⟨rfl, rfl⟩ | ⟨a, len, cap, elems, rest, n, rfl, rfl, rfl, hb, hl, hm, hlen, hel, hsp, hns⟩
  · exact ⟨[], ⟨none, 0, rfl, Nat.le_refl _, rfl, by simp, fun h => absurd h (by simp)⟩, by simp, by simp⟩
  · have hwt : ∀ n ∈ (DataW.slice (elems.map (·.1)) (rest.map (·.1))).weights P t, n ≤ reachBytes := hz
    simp only [DataW.weights, ht] at hwt
    have h0 := hwt _ (List.mem_cons_self ..)
    rw [hB, List.length_map, List.length_map, hlen] at h0
    have each : ∀ i, i < len → ∃ p : α, WF p ∧ ∃ c, c.length = k.sz ∧ k.K w p c ∧ ∀ j u, c[j]? = some u → w.cell? (a.add (i * k.sz + j)) = some u := by
      intro i hi
      have h1 := hel i hi
      have h2 : i < elems.length := by omega
      rw [List.getElem?_eq_getElem h2, Option.bind_eq_some_iff] at h1
      obtain ⟨cs, hcs, htr⟩ := h1
      obtain ⟨p, hK, hW⟩ := he _ _ _ htr (fun n hn => hwt n (List.mem_cons_of_mem _ (List.mem_append_left _ (mem_weightsAll hn (List.mem_map_of_mem (List.getElem_mem h2))))))
      have hs := World.cells?_some hcs
      refine ⟨p, hW, cs, k.K_len hK, hK, fun j u hu => ?_⟩
      have hj : j < k.sz := by have := (List.getElem?_eq_some_iff.1 hu).1; rw [k.K_len hK] at this; exact this
      have h3 := hs.2.2 j (by omega)
      rw [hc, Go.Proofs.YtfenifdigjcmiaaDoorW.PrintWords.add_add] at h3
      rw [h3]; exact hu
    obtain ⟨l, hll, hq⟩ := list_of_get len each
    refine ⟨l, ⟨some a, cap, by rw [hll], by omega, rfl, by have : maxLen = 9223372036854775807 := rfl; omega, fun _ => ⟨a, rfl, fun j p hj => (hq j p hj).2⟩⟩, ?_, fun z hz => ?_⟩
    · rw [hll]
      have h5 : len * B ≤ (len + rest.length) * B := Nat.mul_le_mul_right _ (by omega)
      have h6 : reachBytes = 140737488351232 := rfl
      omega
    · obtain ⟨i, hi⟩ := List.getElem?_of_mem hz
      exact (hq i z hi).1
theorem cons_of {n : Nat} {cs : List Value} (h : cs.length = n + 1) : ∃ c cs', cs = c :: cs' ∧ cs'.length = n := by
  cases cs with
  | nil => simp at h
  | cons c cs' => exact ⟨c, cs', rfl, by simpa using h⟩
theorem consX_of {α : Type} {n : Nat} {cs : List α} (h : cs.length = n + 1) : ∃ c cs', cs = c :: cs' ∧ cs'.length = n := by
  cases cs with
  | nil => simp at h
  | cons c cs' => exact ⟨c, cs', rfl, by simpa using h⟩
theorem okWide_array {n : Nat} {e : TypeId} {r : Reach} {base : Nat} {t : TypeId} {v : Value} (ht : P.underlying t = some (.array n e)) (h : Value.okWide P w r base t v) : ∃ cs, v = .agg cs ∧ cs.size = P.cellsOf t := by
  simp only [Value.okWide, ht] at h
  obtain ⟨cs, h1, h2, _⟩ := h
  exact ⟨cs, h1, h2⟩
/-- A top argument's own weight. -/
theorem weight_of {ts : List TypeId} {ds : List (DataW H)} {j : Nat} {t : TypeId} {d : DataW H} (hsz : (DataW.weightsEach P ts ds).all (· ≤ reachBytes) = true) (ht : ts[j]? = some t) (hd : ds[j]? = some d) : ∀ n ∈ d.weights P t, n ≤ reachBytes := by
  intro n hn
  have := List.all_eq_true.1 hsz _ (DataW.weights_mem_each ht hd n hn)
  simpa using this
theorem weight_struct {t : TypeId} {fs : Array Field} {ps : List (DataW H)} (ht : P.underlying t = some (.struct fs)) (hz : ∀ n ∈ (DataW.agg ps).weights P t, n ≤ reachBytes) {j : Nat} {e : TypeId} {d : DataW H} (he : (fs.toList.map (·.type))[j]? = some e) (hd : ps[j]? = some d) : ∀ n ∈ d.weights P e, n ≤ reachBytes := by
  intro n hn
  refine hz n ?_
  simp only [DataW.weights, ht]
  exact DataW.weights_mem_each he hd n hn
theorem weight_array {t : TypeId} {m : Nat} {e : TypeId} {ps : List (DataW H)} (ht : P.underlying t = some (.array m e)) (hz : ∀ n ∈ (DataW.agg ps).weights P t, n ≤ reachBytes) {j : Nat} {d : DataW H} (hd : ps[j]? = some d) : ∀ n ∈ d.weights P e, n ≤ reachBytes := by
  intro n hn
  refine hz n ?_
  simp only [DataW.weights, ht]
  exact mem_weightsAll hn (List.mem_of_getElem? hd)
end
end Go.Proofs.YtfenifdigjcmiaaDoor.MOpen
