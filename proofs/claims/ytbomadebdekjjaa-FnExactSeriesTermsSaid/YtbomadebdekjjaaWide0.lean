/- Own text of this session: wide numbers by hand walks. -/
import Derived.Test.YtbomadebdekjjaaProg
import Derived.Below
import Derived.Deep.Draws
import Derived.Deep.AppendLies
import Derived.Maps.AppendAt
import Derived.OwnWalk
import Derived.Laws.BytesArg
import Derived.Laws.MakeOwn
import Derived.Laws.OwnMore
import Derived.Deep.OwnRows
import Derived.Tactics
import Derived.Lib.ConvBytes
import Derived.Laws.Slices
import Derived.WalkKit
import Derived.KernelRfl
import Derived.RowKit3
import Derived.Deep.LoopGhost
import Derived.Deep.QuietTactic
import Derived.BigQuiet
import Derived.WideLaws
import Derived.Deep.DeepCutAuto
import Derived.Deep.CutBlock
import Derived.Deep.RegionHeld3
import Derived.Laws.Rows
import Derived.Lib.AppendStr
import Derived.ArgAppend
import Derived.Laws.IdiomCopy
import Derived.OrdersHeld
import Derived.Laws.BitsLemmas
import Derived.RowKit
import Derived.ChangeKeysEq
import Derived.Test.YtbomadebdekjjaaWWords
import Derived.Test.YtbomadebdekjjaaWLast
import Derived.Test.YtbomadebdekjjaaWTab
import Derived.Test.YtbomadebdekjjaaWFour
import Derived.Test.YtbomadebdekjjaaWQPut
import Derived.Test.YtbomadebdekjjaaWApart
import Derived.Test.YtbomadebdekjjaaWArr
import Derived.Test.YtbomadebdekjjaaWZeros
import Derived.Test.YtbomadebdekjjaaWFoot
import Derived.Test.YtbomadebdekjjaaWKept
import Derived.Test.YtbomadebdekjjaaWShare
import Derived.Test.YtbomadebdekjjaaWN
import Derived.Test.YtbomadebdekjjaaWFootNe
import Derived.Test.YtbomadebdekjjaaWAt
import Derived.Test.YtbomadebdekjjaaWEqStruct
import Derived.Test.YtbomadebdekjjaaWRepsOne
import Derived.Test.YtbomadebdekjjaaWInv
import Derived.Test.YtbomadebdekjjaaWInvWords
import Derived.Test.YtbomadebdekjjaaWGuard
import Derived.Test.YtbomadebdekjjaaWNEv
import Derived.Test.YtbomadebdekjjaaWMore
import Derived.Test.YtbomadebdekjjaaMOpen
namespace Go.Proofs.Ytbomadebdekjjaa.Wide
open Go.RowKit Go.Proofs.Ytbomadebdekjjaa.MOpen Go.Proofs.YtbomadebdekjjaaW.PrintWords Go.Proofs.YtbomadebdekjjaaW.PrintLast Go.Proofs.YtbomadebdekjjaaW.PrintMore
attribute [local go_sem] max2_int min2_int max_two min_two max_three min_three max_four min_four
set_option linter.unusedVariables false
set_option linter.unusedSimpArgs false
theorem eqA111 (d : Nat) (w : World) (x0 y0 x1 y1 x2 y2 x3 y3 x4 y4 x5 y5 : Int) :
    (Op.equalIn (d + 2) 111 (.agg #[.int .u32 x0, .int .u32 x1, .int .u32 x2, .int .u32 x3, .int .u32 x4, .int .u32 x5]) (.agg #[.int .u32 y0, .int .u32 y1, .int .u32 y2, .int .u32 y3, .int .u32 y4, .int .u32 y5])).run Try.prog w = .ok (x0 == y0 && (x1 == y1 && (x2 == y2 && (x3 == y3 && (x4 == y4 && (x5 == y5)))))) w := by
  refine eqAr_of (c := 1) Try.underlying111 (by kernel_rfl) (by kernel_rfl) ?_
  rw [show List.range 6 = [0, 1, 2, 3, 4, 5] from rfl]
  refine eqi_cons (by go_simp; rfl) (by go_simp; rfl) (by go_simp) ?_
  refine eqi_cons (by go_simp; rfl) (by go_simp; rfl) (by go_simp) ?_
  refine eqi_cons (by go_simp; rfl) (by go_simp; rfl) (by go_simp) ?_
  refine eqi_cons (by go_simp; rfl) (by go_simp; rfl) (by go_simp) ?_
  refine eqi_cons (by go_simp; rfl) (by go_simp; rfl) (by go_simp) ?_
  exact eqi_last (by go_simp; rfl) (by go_simp; rfl) (by go_simp)
theorem eqA126 (d : Nat) (w : World) (x0 y0 x1 y1 x2 y2 x3 y3 x4 y4 x5 y5 : Int) :
    (Op.equalIn (d + 2) 126 (.agg #[.int .u32 x0, .int .u32 x1, .int .u32 x2, .int .u32 x3, .int .u32 x4, .int .u32 x5]) (.agg #[.int .u32 y0, .int .u32 y1, .int .u32 y2, .int .u32 y3, .int .u32 y4, .int .u32 y5])).run Try.prog w = .ok (x0 == y0 && (x1 == y1 && (x2 == y2 && (x3 == y3 && (x4 == y4 && (x5 == y5)))))) w := by
  refine eqAr_of (c := 1) Try.underlying126 (by kernel_rfl) (by kernel_rfl) ?_
  rw [show List.range 6 = [0, 1, 2, 3, 4, 5] from rfl]
  refine eqi_cons (by go_simp; rfl) (by go_simp; rfl) (by go_simp) ?_
  refine eqi_cons (by go_simp; rfl) (by go_simp; rfl) (by go_simp) ?_
  refine eqi_cons (by go_simp; rfl) (by go_simp; rfl) (by go_simp) ?_
  refine eqi_cons (by go_simp; rfl) (by go_simp; rfl) (by go_simp) ?_
  refine eqi_cons (by go_simp; rfl) (by go_simp; rfl) (by go_simp) ?_
  exact eqi_last (by go_simp; rfl) (by go_simp; rfl) (by go_simp)
def lb (a n : Nat) : Nat := a / 4294967296 ^ n % 4294967296
theorem lb_lt (a n : Nat) : lb a n < 4294967296 := Nat.mod_lt _ (by decide)
theorem bpos (n : Nat) : 0 < 4294967296 ^ n := Nat.pow_pos (by decide)
theorem low_succ (a n : Nat) : a % 4294967296 ^ (n + 1) = a % 4294967296 ^ n + 4294967296 ^ n * lb a n := by
  rw [Nat.pow_succ, Nat.mod_mul]; rfl
def cyP (a b n : Nat) : Nat := (a % 4294967296 ^ n + b % 4294967296 ^ n) / 4294967296 ^ n
theorem cyP_zero (a b : Nat) : cyP a b 0 = 0 := by simp [cyP, Nat.mod_one]
theorem div_add_cy (a b n : Nat) : (a + b) / 4294967296 ^ n = a / 4294967296 ^ n + b / 4294967296 ^ n + cyP a b n := by
  unfold cyP
  have h := bpos n
  generalize 4294967296 ^ n = M at *
  have e1 := Nat.div_add_mod a M
  have e2 := Nat.div_add_mod b M
  have : a + b = (a % M + b % M) + M * (a / M + b / M) := by rw [Nat.mul_add]; omega
  rw [this, Nat.add_mul_div_left _ _ h]; omega
theorem lb_plus (a b n : Nat) : lb (a + b) n = (lb a n + lb b n + cyP a b n) % 4294967296 := by
  unfold lb
  rw [div_add_cy, Nat.add_mod, Nat.add_mod (a / _)]
  omega
theorem cyP_succ (a b n : Nat) : cyP a b (n + 1) = (lb a n + lb b n + cyP a b n) / 4294967296 := by
  have h := bpos n
  rw [cyP, low_succ, low_succ, Nat.pow_succ, ← Nat.div_div_eq_div_mul]
  rw [show a % 4294967296 ^ n + 4294967296 ^ n * lb a n + (b % 4294967296 ^ n + 4294967296 ^ n * lb b n) = (a % 4294967296 ^ n + b % 4294967296 ^ n) + 4294967296 ^ n * (lb a n + lb b n) by rw [Nat.mul_add]; omega]
  rw [Nat.add_mul_div_left _ _ h]
  unfold cyP
  congr 1
  omega
theorem cyP_le (a b n : Nat) : cyP a b n ≤ 1 := by
  unfold cyP
  have h := bpos n
  have h1 := Nat.mod_lt a h
  have h2 := Nat.mod_lt b h
  have : (a % 4294967296 ^ n + b % 4294967296 ^ n) / 4294967296 ^ n < 2 := by rw [Nat.div_lt_iff_lt_mul h]; omega
  omega
def bwM (a b n : Nat) : Nat := if a % 4294967296 ^ n < b % 4294967296 ^ n then 1 else 0
theorem bwM_zero (a b : Nat) : bwM a b 0 = 0 := by simp [bwM, Nat.mod_one]
theorem bwM_succ (a b n : Nat) : bwM a b (n + 1) = if lb a n < lb b n + bwM a b n then 1 else 0 := by
  unfold bwM
  rw [low_succ, low_succ]
  have h := bpos n
  have h1 := Nat.mod_lt a h
  have h2 := Nat.mod_lt b h
  generalize 4294967296 ^ n = M at *
  generalize a % M = x at *
  generalize b % M = y at *
  generalize lb a n = p
  generalize lb b n = q
  rcases Nat.lt_trichotomy p q with c | c | c
  · have : M * (p + 1) ≤ M * q := Nat.mul_le_mul_left M c
    rw [Nat.mul_add] at this
    rw [if_pos (by omega), if_pos (by split <;> omega)]
  · subst c
    by_cases d : x < y
    · rw [if_pos (by omega), if_pos d, if_pos (by omega)]
    · rw [if_neg (by omega), if_neg d, if_neg (by omega)]
  · have : M * (q + 1) ≤ M * p := Nat.mul_le_mul_left M c
    rw [Nat.mul_add] at this
    rw [if_neg (by omega), if_neg (by split <;> omega)]
theorem lb_minus (a b n : Nat) (h : b ≤ a) : (lb (a - b) n : Int) = ((lb a n : Int) - (lb b n : Int) - (bwM a b n : Int)) % 4294967296 := by
  have hM := bpos n
  have key : (((a - b) / 4294967296 ^ n : Nat) : Int) = ((a / 4294967296 ^ n : Nat) : Int) - ((b / 4294967296 ^ n : Nat) : Int) - (bwM a b n : Int) := by
    have e1 := Nat.div_add_mod a (4294967296 ^ n)
    have e2 := Nat.div_add_mod b (4294967296 ^ n)
    have h1 := Nat.mod_lt a hM
    have h2 := Nat.mod_lt b hM
    have hle : b / 4294967296 ^ n ≤ a / 4294967296 ^ n := Nat.div_le_div_right h
    unfold bwM
    generalize 4294967296 ^ n = M at *
    generalize a % M = x at *
    generalize b % M = y at *
    generalize a / M = p at *
    generalize b / M = q at *
    obtain ⟨d, rfl⟩ : ∃ d, p = q + d := ⟨p - q, by omega⟩
    rw [Nat.mul_add] at e1
    by_cases c : x < y
    · rw [if_pos c]
      have hd : d ≠ 0 := by
        intro z; subst z; simp at e1; omega
      obtain ⟨d', rfl⟩ : ∃ d', d = d' + 1 := ⟨d - 1, by omega⟩
      rw [Nat.mul_add] at e1
      have : a - b = (M + x - y) + M * d' := by omega
      rw [this, Nat.add_mul_div_left _ _ hM, Nat.div_eq_of_lt (by omega)]
      omega
    · rw [if_neg c]
      have : a - b = (x - y) + M * d := by omega
      rw [this, Nat.add_mul_div_left _ _ hM, Nat.div_eq_of_lt (by omega)]
      omega
  unfold lb
  omega
def cyT (X f b i j : Nat) : Nat := (X / 4294967296 ^ i % 4294967296 ^ j + f * (b % 4294967296 ^ j)) / 4294967296 ^ j
theorem cyT_zero (X f b i : Nat) : cyT X f b i 0 = 0 := by simp [cyT, Nat.mod_one]
theorem lb_shift (X i j : Nat) : lb (X / 4294967296 ^ i) j = lb X (i + j) := by
  unfold lb; rw [Nat.div_div_eq_div_mul, ← Nat.pow_add]
theorem cyT_succ (X f b i j : Nat) : cyT X f b i (j + 1) = (cyT X f b i j + (f * lb b j + lb X (i + j))) / 4294967296 := by
  have h := bpos j
  rw [cyT, low_succ, low_succ, Nat.pow_succ, ← Nat.div_div_eq_div_mul, lb_shift]
  rw [show X / 4294967296 ^ i % 4294967296 ^ j + 4294967296 ^ j * lb X (i + j) + f * (b % 4294967296 ^ j + 4294967296 ^ j * lb b j) = (X / 4294967296 ^ i % 4294967296 ^ j + f * (b % 4294967296 ^ j)) + 4294967296 ^ j * (f * lb b j + lb X (i + j)) by
    rw [Nat.mul_add, Nat.mul_add, Nat.mul_left_comm f]; omega]
  rw [Nat.add_mul_div_left _ _ h]
  rfl
theorem lb_row (X f b i j : Nat) : lb (X + f * b * 4294967296 ^ i) (i + j) = (cyT X f b i j + (f * lb b j + lb X (i + j))) % 4294967296 := by
  have h := bpos j
  have hi := bpos i
  rw [← lb_shift]
  rw [Nat.add_mul_div_right _ _ hi]
  unfold lb
  have e : (X / 4294967296 ^ i + f * b) / 4294967296 ^ j = X / 4294967296 ^ i / 4294967296 ^ j + f * (b / 4294967296 ^ j) + cyT X f b i j := by
    unfold cyT
    generalize X / 4294967296 ^ i = Y
    generalize 4294967296 ^ j = M at *
    have e1 := Nat.div_add_mod Y M
    have e2 := Nat.div_add_mod b M
    have : Y + f * b = (Y % M + f * (b % M)) + M * (Y / M + f * (b / M)) := by
      rw [Nat.mul_add, ← Nat.mul_left_comm f M]
      have : f * b = f * (M * (b / M)) + f * (b % M) := by rw [← Nat.mul_add, e2]
      omega
    rw [this, Nat.add_mul_div_left _ _ h]; omega
  rw [e]
  have e3 : X / 4294967296 ^ i / 4294967296 ^ j = X / 4294967296 ^ (i + j) := by rw [Nat.div_div_eq_div_mul, ← Nat.pow_add]
  rw [e3]
  generalize X / 4294967296 ^ (i + j) = u
  generalize cyT X f b i j = c
  generalize b / 4294967296 ^ j = q
  have e4 : f * q = f * (q % 4294967296) + 4294967296 * (f * (q / 4294967296)) := by
    have := Nat.mod_add_div q 4294967296
    calc f * q = f * (q % 4294967296 + 4294967296 * (q / 4294967296)) := by rw [this]
      _ = _ := by rw [Nat.mul_add, Nat.mul_left_comm]
  generalize f * (q / 4294967296) = v at *
  generalize f * (q % 4294967296) = w at *
  omega
theorem lb_low (X Y n k : Nat) (h : k < n) : lb (X + Y * 4294967296 ^ n) k = lb X k := by
  unfold lb
  obtain ⟨d, rfl⟩ : ∃ d, n = k + 1 + d := ⟨n - k - 1, by omega⟩
  rw [Nat.pow_add, Nat.pow_add, Nat.pow_one, show Y * (4294967296 ^ k * 4294967296 * 4294967296 ^ d) = 4294967296 ^ k * (4294967296 * (Y * 4294967296 ^ d)) by
    simp only [Nat.mul_assoc, Nat.mul_comm, Nat.mul_left_comm]]
  rw [Nat.add_mul_div_left _ _ (bpos k), Nat.add_mul_mod_self_left]
theorem cyT_lt (X f b i j : Nat) (hf : f < 4294967296) : cyT X f b i j < 4294967296 := by
  unfold cyT
  have h := bpos j
  rw [Nat.div_lt_iff_lt_mul h]
  have h1 := Nat.mod_lt (X / 4294967296 ^ i) h
  have h2 := Nat.mod_lt b h
  generalize X / 4294967296 ^ i % 4294967296 ^ j = x at *
  generalize b % 4294967296 ^ j = y at *
  generalize 4294967296 ^ j = M at *
  have : f * y ≤ 4294967295 * (M - 1) := Nat.mul_le_mul (by omega) (by omega)
  omega
theorem setCell_size (W : World) (p : Addr) (u : Value) : (W.setCell p u).heap.size = W.heap.size := by simp [World.setCell]
structure OB (b : Nat) (w0 w : World) (bl : List (Nat × Array Value × Nat)) : Prop where
  m : ∀ p ∈ bl, w.heap[p.1]? = some (.cells p.2.1 p.2.2 (0, 0)) ∧ b ≤ p.1
  nd : bl.Pairwise (fun p q => p.1 ≠ q.1)
  bel : Below b w0 w
  sz : b ≤ w.heap.size
section
variable {b : Nat} {w0 w w1 : World} {g : Nat} {cs : Array Value} {U : Nat} {bl : List (Nat × Array Value × Nat)}
theorem OB.start (w : World) : OB w.heap.size w w [] := ⟨fun p hp => (List.not_mem_nil hp).elim, List.Pairwise.nil, Below.refl _ _, Nat.le_refl _⟩
theorem OB.below (h : OB b w0 w bl) (hb : Below w.heap.size w w1) : OB b w0 w1 bl :=
  ⟨fun p hp => ⟨blk_below (h.m p hp).1 hb, (h.m p hp).2⟩, h.nd, below_then h.bel h.sz hb, Nat.le_trans h.sz hb.size⟩
theorem OB.drewN (h : OB b w0 w bl) (n : Nat) : OB b w0 (w.drewN n) bl := h.below (pw_below_drewN (Below.refl _ _) n)
theorem OB.box (h : OB b w0 w bl) (hg : g = w.heap.size) (hbox : w1.heap[g]? = some (.cells cs U (0, 0))) (hb : Below w.heap.size w w1) : OB b w0 w1 ((g, cs, U) :: bl) := by
  have h' := h.below hb
  refine ⟨fun p hp => ?_, List.pairwise_cons.2 ⟨fun q hq => ?_, h.nd⟩, h'.bel, h'.sz⟩
  · rcases List.mem_cons.1 hp with rfl | hp
    · exact ⟨hbox, by show b ≤ g; rw [hg]; exact h.sz⟩
    · exact h'.m p hp
  · have := Array.getElem?_eq_some_iff.1 (h.m q hq).1
    obtain ⟨hlt, _⟩ := this
    show g ≠ q.1
    omega
theorem OB.at (h : OB b w0 w bl) (i : Nat) (hi : bl[i]? = some (g, cs, U)) : w.heap[g]? = some (.cells cs U (0, 0)) := (h.m _ (List.mem_of_getElem? hi)).1
theorem OB.ge (h : OB b w0 w bl) (i : Nat) (hi : bl[i]? = some (g, cs, U)) : b ≤ g := (h.m _ (List.mem_of_getElem? hi)).2
theorem OB.ne (h : OB b w0 w bl) (i j : Nat) {p q : Nat × Array Value × Nat} (hi : bl[i]? = some p) (hj : bl[j]? = some q) (hij : i ≠ j) : p.1 ≠ q.1 := by
  obtain ⟨h1, rfl⟩ := List.getElem?_eq_some_iff.1 hi
  obtain ⟨h2, rfl⟩ := List.getElem?_eq_some_iff.1 hj
  have hp := List.pairwise_iff_getElem.1 h.nd
  rcases Nat.lt_or_ge i j with hlt | hge
  · exact hp i j h1 h2 hlt
  · exact Ne.symm (hp j i h2 h1 (by omega))
theorem OB.set (h : OB b w0 w bl) (i : Nat) (hi : bl[i]? = some (g, cs, U)) (j : Nat) (u : Value) {bl' : List (Nat × Array Value × Nat)} (hb : bl.set i (g, cs.setIfInBounds j u, U) = bl') : OB b w0 (w.setCell ⟨g, j, none⟩ u) bl' := by
  subst hb
  have hge := h.ge i hi
  refine ⟨fun p hp => ?_, ?_, h.bel.setCell hge u, by rw [setCell_size]; exact h.sz⟩
  · obtain ⟨k, hk⟩ := List.mem_iff_getElem?.1 hp
    by_cases e : i = k
    · subst e
      have hl := (List.getElem?_eq_some_iff.1 hi).1
      rw [List.getElem?_set_self hl] at hk
      obtain rfl := (Option.some.inj hk).symm
      exact ⟨blk_set (h.at i hi) j u, hge⟩
    · rw [List.getElem?_set_ne e] at hk
      have hn := h.ne k i hk hi (Ne.symm e)
      have hm := h.m p (List.mem_of_getElem? hk)
      exact ⟨blk_far hm.1 hn u, hm.2⟩
  · have hl := (List.getElem?_eq_some_iff.1 hi).1
    rw [List.pairwise_iff_getElem]
    intro a c ha hc hac
    have ha' : a < bl.length := by simpa using ha
    have hc' : c < bl.length := by simpa using hc
    have hp := List.pairwise_iff_getElem.1 h.nd a c ha' hc' hac
    have hgi : bl[i].1 = g := by rw [(List.getElem?_eq_some_iff.1 hi).2]
    have e1 : ∀ x (hx : x < bl.length) (hx' : x < (bl.set i (g, cs.setIfInBounds j u, U)).length), ((bl.set i (g, cs.setIfInBounds j u, U))[x]).1 = bl[x].1 := by
      intro x hx hx'
      rw [List.getElem_set]
      split
      · rename_i e; subst e; exact hgi.symm
      · rfl
    rw [e1 a ha' ha, e1 c hc' hc]
    exact hp
theorem OB.seth (h : OB b w0 w bl) (i : Nat) (hi : bl[i]? = some (g, cs, U)) (j : Nat) (u : Value) {bl' : List (Nat × Array Value × Nat)} (hw : w1 = w.setCell ⟨g, j, none⟩ u) (hb : bl.set i (g, cs.setIfInBounds j u, U) = bl') : OB b w0 w1 bl' := hw ▸ h.set i hi j u hb
theorem OB.set2 (h : OB b w0 w bl) (i : Nat) (hl : i < bl.length) {cs' : Array Value} (hx : OB b w0 w1 (bl.set i (g, cs, U))) (j : Nat) (u : Value) (e : cs.setIfInBounds j u = cs') : OB b w0 (w1.setCell ⟨g, j, none⟩ u) (bl.set i (g, cs', U)) := by
  subst e
  exact hx.set i (List.getElem?_set_self hl) j u (List.set_set _)
theorem OB.put6 {a0 a1 a2 a3 a4 a5 b0 b1 b2 b3 b4 b5 : Value} (h : OB b w0 w bl) (i : Nat) (hi : bl[i]? = some (g, #[a0, a1, a2, a3, a4, a5], U)) {bl' : List (Nat × Array Value × Nat)} (hw : w1 = (World.setCell (World.setCell (World.setCell (World.setCell (World.setCell (World.setCell w ⟨g, 0, none⟩ b0) ⟨g, 1, none⟩ b1) ⟨g, 2, none⟩ b2) ⟨g, 3, none⟩ b3) ⟨g, 4, none⟩ b4) ⟨g, 5, none⟩ b5)) (hb : bl.set i (g, #[b0, b1, b2, b3, b4, b5], U) = bl') : OB b w0 w1 bl' := by
  subst hw hb
  have hl := (List.getElem?_eq_some_iff.1 hi).1
  have h0 := h.set i hi 0 b0 (bl' := bl.set i (g, #[b0, a1, a2, a3, a4, a5], U)) rfl
  have h1 := OB.set2 h i hl h0 1 b1 (cs' := #[b0, b1, a2, a3, a4, a5]) rfl
  have h2 := OB.set2 h i hl h1 2 b2 (cs' := #[b0, b1, b2, a3, a4, a5]) rfl
  have h3 := OB.set2 h i hl h2 3 b3 (cs' := #[b0, b1, b2, b3, a4, a5]) rfl
  have h4 := OB.set2 h i hl h3 4 b4 (cs' := #[b0, b1, b2, b3, b4, a5]) rfl
  have h5 := OB.set2 h i hl h4 5 b5 (cs' := #[b0, b1, b2, b3, b4, b5]) rfl
  exact h5
theorem OB.put7 {a0 a1 a2 a3 a4 a5 a6 b0 b1 b2 b3 b4 b5 b6 : Value} (h : OB b w0 w bl) (i : Nat) (hi : bl[i]? = some (g, #[a0, a1, a2, a3, a4, a5, a6], U)) {bl' : List (Nat × Array Value × Nat)} (hw : w1 = (World.setCell (World.setCell (World.setCell (World.setCell (World.setCell (World.setCell (World.setCell w ⟨g, 0, none⟩ b0) ⟨g, 1, none⟩ b1) ⟨g, 2, none⟩ b2) ⟨g, 3, none⟩ b3) ⟨g, 4, none⟩ b4) ⟨g, 5, none⟩ b5) ⟨g, 6, none⟩ b6)) (hb : bl.set i (g, #[b0, b1, b2, b3, b4, b5, b6], U) = bl') : OB b w0 w1 bl' := by
  subst hw hb
  have hl := (List.getElem?_eq_some_iff.1 hi).1
  have h0 := h.set i hi 0 b0 (bl' := bl.set i (g, #[b0, a1, a2, a3, a4, a5, a6], U)) rfl
  have h1 := OB.set2 h i hl h0 1 b1 (cs' := #[b0, b1, a2, a3, a4, a5, a6]) rfl
  have h2 := OB.set2 h i hl h1 2 b2 (cs' := #[b0, b1, b2, a3, a4, a5, a6]) rfl
  have h3 := OB.set2 h i hl h2 3 b3 (cs' := #[b0, b1, b2, b3, a4, a5, a6]) rfl
  have h4 := OB.set2 h i hl h3 4 b4 (cs' := #[b0, b1, b2, b3, b4, a5, a6]) rfl
  have h5 := OB.set2 h i hl h4 5 b5 (cs' := #[b0, b1, b2, b3, b4, b5, a6]) rfl
  have h6 := OB.set2 h i hl h5 6 b6 (cs' := #[b0, b1, b2, b3, b4, b5, b6]) rfl
  exact h6
end
theorem u64w {z : Int} (h : 0 ≤ z) (h' : z < 18446744073709551616) : IntKind.u64.wrap z = z := by
  have e : IntKind.u64.wrap z = z % 18446744073709551616 := by rfl
  rw [e]; omega
theorem i64w {z : Int} (h : -9223372036854775808 ≤ z) (h' : z < 9223372036854775808) : wrap64 z = z := by
  unfold wrap64
  omega
def pm (n m j : Nat) : Int := if j < n then ((lb m j : Nat) : Int) else 0
def A6 (m : Nat) : Array Value := #[.int .u32 ((lb m 0 : Nat) : Int), .int .u32 ((lb m 1 : Nat) : Int), .int .u32 ((lb m 2 : Nat) : Int), .int .u32 ((lb m 3 : Nat) : Int), .int .u32 ((lb m 4 : Nat) : Int), .int .u32 ((lb m 5 : Nat) : Int)]
def Z6 : Array Value := #[.int .u32 0, .int .u32 0, .int .u32 0, .int .u32 0, .int .u32 0, .int .u32 0]
def oA (n m : Nat) : Array Value := #[.int .u32 (pm n m 0), .int .u32 (pm n m 1), .int .u32 (pm n m 2), .int .u32 (pm n m 3), .int .u32 (pm n m 4), .int .u32 (pm n m 5)]
theorem oA_set {n : Nat} (m : Nat) (h : n < 6) : (oA n m).setIfInBounds n (.int .u32 ((lb m n : Nat) : Int)) = oA (n + 1) m := by
  rcases (by omega : n = 0 ∨ n = 1 ∨ n = 2 ∨ n = 3 ∨ n = 4 ∨ n = 5) with rfl | rfl | rfl | rfl | rfl | rfl <;> rfl
def P6 (w : World) (B O : Nat) (m : Nat) : Prop := ∀ j, j < 6 → w.cell? ⟨B, O + j, none⟩ = some (.int .u32 ((lb m j : Nat) : Int))
theorem P6.below {w w1 : World} {B O m : Nat} (h : P6 w B O m) (hb : Below w.heap.size w w1) : P6 w1 B O m := fun j hj => (hb.cell (World.block_lt_of_cell? w _ (h j hj))).trans (h j hj)
theorem P6.at {w w1 : World} {B O m n : Nat} {i X : Int} (h : P6 w B O m) (hb : Below w.heap.size w w1) (hn : n < 6) (hi : i = n) (hX : X = ((lb m n : Nat) : Int)) : w1.cell? ((⟨B, O, none⟩ : Addr).add i.toNat) = some (.int .u32 X) := by
  subst hi hX
  rw [add_off]
  exact h.below hb n hn
theorem P6.at0 {w w1 : World} {B O m n : Nat} {i X : Int} (h : P6 w B O m) (hb : Below w.heap.size w w1) (hn : n < 6) (hi : i = n) (hX : X = ((lb m n : Nat) : Int)) : w1.cell? ⟨B, O + i.toNat, none⟩ = some (.int .u32 X) := by
  subst hi hX
  exact h.below hb n hn
theorem P6.blk {w : World} {g m U : Nat} (h : w.heap[g]? = some (.cells (A6 m) U (0, 0))) : P6 w g 0 m := by
  intro j hj
  rw [Nat.zero_add]
  rcases (by omega : j = 0 ∨ j = 1 ∨ j = 2 ∨ j = 3 ∨ j = 4 ∨ j = 5) with rfl | rfl | rfl | rfl | rfl | rfl <;> exact (blk_cell h _).trans rfl
theorem OB.fr {b : Nat} {w0 w : World} {g : Nat} {cs : Array Value} {U : Nat} {bl : List (Nat × Array Value × Nat)} (h : OB b w0 w bl) (i : Nat) (hi : bl[i]? = some (g, cs, U)) (j : Nat) : w.frozen? ⟨g, j, none⟩ = false := blk_frozen (h.at i hi) j
theorem OB.cell {b : Nat} {w0 w : World} {g : Nat} {cs : Array Value} {U : Nat} {bl : List (Nat × Array Value × Nat)} (h : OB b w0 w bl) (i : Nat) (hi : bl[i]? = some (g, cs, U)) (j : Nat) {v : Value} (hv : cs[j]? = some v) : w.cell? ⟨g, j, none⟩ = some v := (blk_cell (h.at i hi) j).trans hv
theorem oA_get {n m j : Nat} (hj : j < 6) : (oA n m)[j]? = some (.int .u32 (pm n m j)) := by
  rcases (by omega : j = 0 ∨ j = 1 ∨ j = 2 ∨ j = 3 ∨ j = 4 ∨ j = 5) with rfl | rfl | rfl | rfl | rfl | rfl <;> rfl
theorem OB.oA {b : Nat} {w0 w w1 : World} {g n m U : Nat} {i v : Int} {bl : List (Nat × Array Value × Nat)} (h : OB b w0 w ((g, oA n m, U) :: bl)) (hn : n < 6) (hi : i = n) (hv : v = ((lb m n : Nat) : Int)) (hw : w1 = w.setCell ⟨g, i.toNat, none⟩ (.int .u32 v)) : OB b w0 w1 ((g, oA (n + 1) m, U) :: bl) := by
  subst hi hv
  exact h.seth 0 rfl n _ hw (by show (g, (Go.Proofs.Ytbomadebdekjjaa.Wide.oA n m).setIfInBounds n _, U) :: bl = _; rw [oA_set m hn])
theorem lbz (m n : Nat) : 0 ≤ ((lb m n : Nat) : Int) ∧ ((lb m n : Nat) : Int) < 4294967296 := by have := lb_lt m n; omega
theorem plus_v {x y n : Nat} {X Y C : Int} (hX : X = ((lb x n : Nat) : Int)) (hY : Y = ((lb y n : Nat) : Int)) (hC : C = ((cyP x y n : Nat) : Int)) : IntKind.u64.wrap (IntKind.u64.wrap (IntKind.u64.wrap X + IntKind.u64.wrap Y) + C) = ((lb x n + lb y n + cyP x y n : Nat) : Int) := by
  have h1 := lbz x n
  have h2 := lbz y n
  have h3 := cyP_le x y n
  rw [hX, hY, hC, u64w (z := ((lb x n : Nat) : Int)) (by omega) (by omega), u64w (z := ((lb y n : Nat) : Int)) (by omega) (by omega), u64w (z := ((lb x n : Nat) : Int) + ((lb y n : Nat) : Int)) (by omega) (by omega), u64w (by omega) (by omega)]
  omega
theorem plus_l {x y n : Nat} {X Y C : Int} (hX : X = ((lb x n : Nat) : Int)) (hY : Y = ((lb y n : Nat) : Int)) (hC : C = ((cyP x y n : Nat) : Int)) : IntKind.u64.wrap (IntKind.u64.wrap (IntKind.u64.wrap X + IntKind.u64.wrap Y) + C) % 4294967296 = ((lb (x + y) n : Nat) : Int) := by
  rw [plus_v hX hY hC, lb_plus]
  omega
theorem plus_c {x y n : Nat} {X Y C : Int} (hX : X = ((lb x n : Nat) : Int)) (hY : Y = ((lb y n : Nat) : Int)) (hC : C = ((cyP x y n : Nat) : Int)) : IntKind.u64.wrap (IntKind.u64.wrap (IntKind.u64.wrap X + IntKind.u64.wrap Y) + C) / 4294967296 = ((cyP x y (n + 1) : Nat) : Int) := by
  rw [plus_v hX hY hC, cyP_succ]
  omega
theorem nextI {i : Int} {n : Nat} (hi : i = n) (hn : n < 1000) : wrap64 (i + 1) = ((n + 1 : Nat) : Int) := by rw [hi, i64w (by omega) (by omega)]; omega
def okP (x y : Nat) : Bool := decide (cyP x y 6 = 0)
theorem okP_eq {x y : Nat} {C : Int} (h : C = ((cyP x y 6 : Nat) : Int)) : (C == 0) = okP x y := by
  subst h
  unfold okP
  by_cases e : cyP x y 6 = 0 <;> simp [e] <;> omega
def cmpN (x y : Nat) : Int := if x < y then -1 else if y < x then 1 else 0
theorem div_lb (x m : Nat) : x / 4294967296 ^ m = x / 4294967296 ^ (m + 1) * 4294967296 + lb x m := by
  unfold lb
  rw [Nat.pow_succ, ← Nat.div_div_eq_div_mul]
  omega
theorem top_lt {x y m : Nat} (h : x / 4294967296 ^ (m + 1) = y / 4294967296 ^ (m + 1)) (hl : lb x m < lb y m) : x < y := by
  have h1 := div_lb x m
  have h2 := div_lb y m
  have h3 : x / 4294967296 ^ m < y / 4294967296 ^ m := by rw [h1, h2, h]; omega
  by_cases e : x < y
  · exact e
  · have := Nat.div_le_div_right (c := 4294967296 ^ m) (Nat.le_of_not_lt e)
    omega
theorem top_eq {x y m : Nat} (h : x / 4294967296 ^ (m + 1) = y / 4294967296 ^ (m + 1)) (hl : lb x m = lb y m) : x / 4294967296 ^ m = y / 4294967296 ^ m := by
  rw [div_lb x m, div_lb y m, h, hl]
theorem cmp_lt {x y m : Nat} {X Y : Int} (h : x / 4294967296 ^ (m + 1) = y / 4294967296 ^ (m + 1)) (hX : X = ((lb x m : Nat) : Int)) (hY : Y = ((lb y m : Nat) : Int)) (hl : X < Y) : cmpN x y = -1 := by
  have := top_lt h (by omega)
  unfold cmpN
  rw [if_pos this]
theorem cmp_gt {x y m : Nat} {X Y : Int} (h : x / 4294967296 ^ (m + 1) = y / 4294967296 ^ (m + 1)) (hX : X = ((lb x m : Nat) : Int)) (hY : Y = ((lb y m : Nat) : Int)) (hl : Y < X) : cmpN x y = 1 := by
  have := top_lt h.symm (by omega)
  unfold cmpN
  rw [if_neg (by omega), if_pos this]
theorem cmp_eq {x y : Nat} (h : x / 4294967296 ^ 0 = y / 4294967296 ^ 0) : cmpN x y = 0 := by
  simp only [Nat.pow_zero, Nat.div_one] at h
  unfold cmpN
  rw [if_neg (by omega), if_neg (by omega)]
theorem top_six {x : Nat} (h : x < 4294967296 ^ 6) : x / 4294967296 ^ 6 = 0 := Nat.div_eq_of_lt h
theorem prevI {i : Int} {m : Nat} (hi : i = m) (hm : m < 1000) : wrap64 (i - 1) = (m : Int) - 1 := by rw [hi, i64w (by omega) (by omega)]
theorem bwM_le (x y n : Nat) : bwM x y n ≤ 1 := by unfold bwM; split <;> omega
theorem min_v {x y n : Nat} {X Y C : Int} (hX : X = ((lb x n : Nat) : Int)) (hY : Y = ((lb y n : Nat) : Int)) (hC : C = ((bwM x y n : Nat) : Int)) : wrap64 (wrap64 (wrap64 X - wrap64 Y) - C) = X - Y - C ∧ wrap64 (X - Y - C + 4294967296) = X - Y - C + 4294967296 := by
  have h1 := lbz x n
  have h2 := lbz y n
  have h3 := bwM_le x y n
  rw [← hX] at h1
  rw [← hY] at h2
  have h4 : 0 ≤ C ∧ C ≤ 1 := by omega
  rw [i64w (z := X) (by omega) (by omega), i64w (z := Y) (by omega) (by omega), i64w (z := X - Y) (by omega) (by omega), i64w (z := X - Y - C) (by omega) (by omega), i64w (by omega) (by omega)]
  exact ⟨rfl, rfl⟩
theorem min_l {x y n : Nat} {X Y C : Int} (h : y ≤ x) (hX : X = ((lb x n : Nat) : Int)) (hY : Y = ((lb y n : Nat) : Int)) (hC : C = ((bwM x y n : Nat) : Int)) : wrap64 (wrap64 (wrap64 X - wrap64 Y) - C) % 4294967296 = ((lb (x - y) n : Nat) : Int) ∧ wrap64 (wrap64 (wrap64 (wrap64 X - wrap64 Y) - C) + 4294967296) % 4294967296 = ((lb (x - y) n : Nat) : Int) := by
  rw [(min_v hX hY hC).1, (min_v hX hY hC).2, lb_minus x y n h, hX, hY, hC]
  omega
theorem min_c {x y n : Nat} {X Y C : Int} (hX : X = ((lb x n : Nat) : Int)) (hY : Y = ((lb y n : Nat) : Int)) (hC : C = ((bwM x y n : Nat) : Int)) : (wrap64 (wrap64 (wrap64 X - wrap64 Y) - C) < 0 → (1 : Int) = ((bwM x y (n + 1) : Nat) : Int)) ∧ (¬ wrap64 (wrap64 (wrap64 X - wrap64 Y) - C) < 0 → (0 : Int) = ((bwM x y (n + 1) : Nat) : Int)) := by
  rw [(min_v hX hY hC).1, bwM_succ]
  constructor <;> intro h <;> split <;> omega
theorem OB.drew {b : Nat} {w0 w : World} {bl : List (Nat × Array Value × Nat)} (h : OB b w0 w bl) : OB b w0 w.drew bl := h.below (below_drew (Below.refl _ _))
def zN (x : Nat) : Bool := decide (x = 0)
def W7 (s : Bool) (m : Nat) : Array Value := #[.bool s, .int .u32 ((lb m 0 : Nat) : Int), .int .u32 ((lb m 1 : Nat) : Int), .int .u32 ((lb m 2 : Nat) : Int), .int .u32 ((lb m 3 : Nat) : Int), .int .u32 ((lb m 4 : Nat) : Int), .int .u32 ((lb m 5 : Nat) : Int)]
theorem lb0 (n : Nat) : lb 0 n = 0 := by simp [lb]
theorem zero_lb {x : Nat} (h : x < 4294967296 ^ 6) : (((lb x 0 : Nat) : Int) == 0 && (((lb x 1 : Nat) : Int) == 0 && (((lb x 2 : Nat) : Int) == 0 && (((lb x 3 : Nat) : Int) == 0 && (((lb x 4 : Nat) : Int) == 0 && (((lb x 5 : Nat) : Int) == 0)))))) = zN x := by
  by_cases e : x = 0
  · subst e
    simp [lb0, zN]
  · have : ¬ (lb x 0 = 0 ∧ lb x 1 = 0 ∧ lb x 2 = 0 ∧ lb x 3 = 0 ∧ lb x 4 = 0 ∧ lb x 5 = 0) := by
      rintro ⟨h0, h1, h2, h3, h4, h5⟩
      have a0 := low_succ x 0
      have a1 := low_succ x 1
      have a2 := low_succ x 2
      have a3 := low_succ x 3
      have a4 := low_succ x 4
      have a5 := low_succ x 5
      rw [h0] at a0
      rw [h1] at a1
      rw [h2] at a2
      rw [h3] at a3
      rw [h4] at a4
      rw [h5] at a5
      simp only [Nat.mul_zero, Nat.add_zero, Nat.zero_add, Nat.reduceAdd] at a0 a1 a2 a3 a4 a5
      rw [Nat.mod_eq_of_lt h, a4, a3, a2, a1, a0] at a5
      simp [Nat.mod_one] at a5
      exact e a5
    simp only [zN, e, decide_false]
    rw [Bool.eq_false_iff]
    intro hh
    apply this
    simp only [Bool.and_eq_true, beq_iff_eq] at hh
    omega
theorem of_lb (m : Nat) (h : m ≤ 9223372036854775808) : (m : Int) % 4294967296 = ((lb m 0 : Nat) : Int) ∧ (m : Int) / 4294967296 % 4294967296 = ((lb m 1 : Nat) : Int) ∧ lb m 2 = 0 ∧ lb m 3 = 0 ∧ lb m 4 = 0 ∧ lb m 5 = 0 := by
  unfold lb
  refine ⟨by simp only [Nat.pow_zero, Nat.div_one]; omega, by simp only [Nat.pow_one]; omega, ?_, ?_, ?_, ?_⟩ <;>
  · rw [Nat.div_eq_of_lt (Nat.lt_of_le_of_lt h (by decide))]
def WV (z : Int) : Value := .agg (W7 (decide (z < 0)) z.natAbs)
theorem u64neg {n : Int} (h : -9223372036854775808 ≤ n) (h0 : n < 0) : IntKind.u64.wrap (-IntKind.u64.wrap n) = (n.natAbs : Int) := by
  have e : ∀ z, IntKind.u64.wrap z = z % 18446744073709551616 := fun _ => rfl
  rw [e, e]
  omega
theorem zN_pos {m : Nat} (h : m ≠ 0) : zN m = false := by simp [zN, h]
theorem A6_two (m : Nat) (h : m ≤ 9223372036854775808) : A6 m = #[.int .u32 ((lb m 0 : Nat) : Int), .int .u32 ((lb m 1 : Nat) : Int), .int .u32 0, .int .u32 0, .int .u32 0, .int .u32 0] := by
  obtain ⟨_, _, h2, h3, h4, h5⟩ := of_lb m h
  unfold A6
  rw [h2, h3, h4, h5]
  rfl
theorem small6 {m : Nat} (h : m ≤ 9223372036854775808) : m < 4294967296 ^ 6 := Nat.lt_of_le_of_lt h (by decide)
def o12 (f : Nat → Nat) : Array Value := #[.int .u32 (f 0 : Int), .int .u32 (f 1 : Int), .int .u32 (f 2 : Int), .int .u32 (f 3 : Int), .int .u32 (f 4 : Int), .int .u32 (f 5 : Int), .int .u32 (f 6 : Int), .int .u32 (f 7 : Int), .int .u32 (f 8 : Int), .int .u32 (f 9 : Int), .int .u32 (f 10 : Int), .int .u32 (f 11 : Int)]
theorem o12_set (f : Nat → Nat) (n v : Nat) (h : n < 12) : (o12 f).setIfInBounds n (.int .u32 (v : Int)) = o12 (fun j => if j = n then v else f j) := by
  rcases (by omega : n = 0 ∨ n = 1 ∨ n = 2 ∨ n = 3 ∨ n = 4 ∨ n = 5 ∨ n = 6 ∨ n = 7 ∨ n = 8 ∨ n = 9 ∨ n = 10 ∨ n = 11) with rfl | rfl | rfl | rfl | rfl | rfl | rfl | rfl | rfl | rfl | rfl | rfl <;> rfl
theorem o12_get (f : Nat → Nat) (n : Nat) (h : n < 12) : (o12 f)[n]? = some (.int .u32 (f n : Int)) := by
  rcases (by omega : n = 0 ∨ n = 1 ∨ n = 2 ∨ n = 3 ∨ n = 4 ∨ n = 5 ∨ n = 6 ∨ n = 7 ∨ n = 8 ∨ n = 9 ∨ n = 10 ∨ n = 11) with rfl | rfl | rfl | rfl | rfl | rfl | rfl | rfl | rfl | rfl | rfl | rfl <;> rfl
theorem W7_get (s : Bool) (m n : Nat) (h : n < 6) : (W7 s m)[1 + n]? = some (.int .u32 ((lb m n : Nat) : Int)) := by
  rcases (by omega : n = 0 ∨ n = 1 ∨ n = 2 ∨ n = 3 ∨ n = 4 ∨ n = 5) with rfl | rfl | rfl | rfl | rfl | rfl <;> rfl
theorem A6_get (m n : Nat) (h : n < 6) : (A6 m)[n]? = some (.int .u32 ((lb m n : Nat) : Int)) := by
  rcases (by omega : n = 0 ∨ n = 1 ∨ n = 2 ∨ n = 3 ∨ n = 4 ∨ n = 5) with rfl | rfl | rfl | rfl | rfl | rfl <;> rfl
theorem OB.put12 {b : Nat} {w0 w w1 : World} {g U : Nat} {i : Int} {f h : Nat → Nat} {n v : Nat} {bl : List (Nat × Array Value × Nat)} (hO : OB b w0 w ((g, o12 f, U) :: bl)) (hn : n < 12) (hi : i = n) {V : Int} (hV : V = (v : Int)) (hw : w1 = w.setCell ⟨g, i.toNat, none⟩ (.int .u32 V)) (hh : (fun j => if j = n then v else f j) = h) : OB b w0 w1 ((g, o12 h, U) :: bl) := by
  subst hi hV hh
  exact hO.seth 0 rfl n _ hw (by show (g, (o12 f).setIfInBounds n _, U) :: bl = _; rw [o12_set f n v hn])
theorem OB.cellA {b : Nat} {w0 w : World} {g U : Nat} {cs : Array Value} {bl : List (Nat × Array Value × Nat)} {o n : Nat} {i v : Int} (h : OB b w0 w bl) (k : Nat) (hk : bl[k]? = some (g, cs, U)) (hi : i = n) (hv : cs[o + n]? = some (.int .u32 v)) : w.cell? ⟨g, o + i.toNat, none⟩ = some (.int .u32 v) ∧ w.cell? ((⟨g, o, none⟩ : Addr).add i.toNat) = some (.int .u32 v) := by
  subst hi
  rw [add_off]
  exact ⟨h.cell k hk _ hv, h.cell k hk _ hv⟩
theorem OB.cellZ {b : Nat} {w0 w : World} {g U : Nat} {cs : Array Value} {bl : List (Nat × Array Value × Nat)} {n : Nat} {i v : Int} (h : OB b w0 w bl) (k : Nat) (hk : bl[k]? = some (g, cs, U)) (hi : i = n) (hv : cs[n]? = some (.int .u32 v)) : w.cell? ⟨g, i.toNat, none⟩ = some (.int .u32 v) ∧ w.cell? ((⟨g, 0, none⟩ : Addr).add i.toNat) = some (.int .u32 v) := by
  subst hi
  rw [add_off, Nat.zero_add]
  exact ⟨h.cell k hk _ hv, h.cell k hk _ hv⟩
theorem OB.whole12 {b : Nat} {w0 w w1 : World} {g U : Nat} {bl : List (Nat × Array Value × Nat)} (h : OB b w0 w ((g, #[.int .u32 0, .int .u32 0, .int .u32 0, .int .u32 0, .int .u32 0, .int .u32 0, .int .u32 0, .int .u32 0, .int .u32 0, .int .u32 0, .int .u32 0, .int .u32 0], U) :: bl)) (hw : w1 = (World.setCell (World.setCell (World.setCell (World.setCell (World.setCell (World.setCell (World.setCell (World.setCell (World.setCell (World.setCell (World.setCell (World.setCell w ⟨g, 0, none⟩ (.int .u32 0)) ⟨g, 1, none⟩ (.int .u32 0)) ⟨g, 2, none⟩ (.int .u32 0)) ⟨g, 3, none⟩ (.int .u32 0)) ⟨g, 4, none⟩ (.int .u32 0)) ⟨g, 5, none⟩ (.int .u32 0)) ⟨g, 6, none⟩ (.int .u32 0)) ⟨g, 7, none⟩ (.int .u32 0)) ⟨g, 8, none⟩ (.int .u32 0)) ⟨g, 9, none⟩ (.int .u32 0)) ⟨g, 10, none⟩ (.int .u32 0)) ⟨g, 11, none⟩ (.int .u32 0))) : OB b w0 w1 ((g, o12 (fun _ => 0), U) :: bl) := by
  subst hw
  have s : ∀ {v : World} (hv : OB b w0 v ((g, o12 (fun _ => 0), U) :: bl)) (j : Nat) (hj : j < 12), OB b w0 (v.setCell ⟨g, j, none⟩ (.int .u32 0)) ((g, o12 (fun _ => 0), U) :: bl) := by
    intro v hv j hj
    have := hv.put12 (i := (j : Int)) (n := j) (v := 0) (V := 0) (h := fun _ => 0) hj rfl rfl rfl (by funext k; split <;> rfl)
    exact this
  exact s (s (s (s (s (s (s (s (s (s (s (s h 0 (by decide)) 1 (by decide)) 2 (by decide)) 3 (by decide)) 4 (by decide)) 5 (by decide)) 6 (by decide)) 7 (by decide)) 8 (by decide)) 9 (by decide)) 10 (by decide)) 11 (by decide)
theorem lb_zero {a m k : Nat} (h : a < 4294967296 ^ k) (hm : k ≤ m) : lb a m = 0 := by
  unfold lb
  rw [Nat.div_eq_of_lt (Nat.lt_of_lt_of_le h (Nat.pow_le_pow_right (by decide) hm))]
def rowX (x y n : Nat) : Nat := x % 4294967296 ^ n * y
theorem rowX_succ (x y n : Nat) : rowX x y (n + 1) = rowX x y n + lb x n * y * 4294967296 ^ n := by
  unfold rowX
  rw [low_succ, Nat.add_mul]
  congr 1
  rw [Nat.mul_comm (4294967296 ^ n), Nat.mul_assoc, Nat.mul_assoc, Nat.mul_comm (4294967296 ^ n)]
theorem rowX_lt {x y n : Nat} (hy : y < 4294967296 ^ 6) : rowX x y n < 4294967296 ^ (n + 6) := by
  unfold rowX
  rw [Nat.pow_add]
  exact Nat.mul_lt_mul'' (Nat.mod_lt _ (bpos n)) hy
theorem row_end {x y n : Nat} (hy : y < 4294967296 ^ 6) {h : Nat → Nat} (hh : ∀ m, m < 12 → h m = if m < n + 6 then lb (rowX x y (n + 1)) m else lb (rowX x y n) m) : ∀ m, m < 12 → (if m = n + 6 then cyT (rowX x y n) (lb x n) y n 6 % 4294967296 else h m) = lb (rowX x y (n + 1)) m := by
  intro m hm
  split
  · rename_i e
    subst e
    have h1 := lb_row (rowX x y n) (lb x n) y n 6
    rw [← rowX_succ] at h1
    rw [h1, lb_zero hy (Nat.le_refl 6), lb_zero (rowX_lt hy) (Nat.le_refl _), Nat.mul_zero, Nat.add_zero]
  · rw [hh m hm]
    split
    · rfl
    · rw [lb_zero (rowX_lt hy) (by omega), lb_zero (rowX_lt (n := n + 1) hy) (by omega)]
theorem row_step {x y n j : Nat} {h : Nat → Nat} (hh : ∀ m, m < 12 → h m = if m < n + j then lb (rowX x y (n + 1)) m else lb (rowX x y n) m) : ∀ m, m < 12 → (if m = n + j then lb (rowX x y (n + 1)) (n + j) else h m) = if m < n + (j + 1) then lb (rowX x y (n + 1)) m else lb (rowX x y n) m := by
  intro m hm
  by_cases e : m = n + j
  · subst e
    rw [if_pos rfl, if_pos (by omega)]
  · rw [if_neg e, hh m hm]
    by_cases e2 : m < n + j
    · rw [if_pos e2, if_pos (by omega)]
    · rw [if_neg e2, if_neg (by omega)]
theorem mulb {a b c d : Nat} (ha : a < 4294967296) (hb : b < 4294967296) (hc : c < 4294967296) (hd : d < 4294967296) : a * b < 18446744073709551616 ∧ a * b + c < 18446744073709551616 ∧ a * b + c + d < 18446744073709551616 := by
  have h : a * b ≤ 4294967295 * 4294967295 := Nat.mul_le_mul (by omega) (by omega)
  omega
theorem mul_v {a b c d : Nat} (ha : a < 4294967296) (hb : b < 4294967296) (hc : c < 4294967296) (hd : d < 4294967296) {A B C D : Int} (hA : A = a) (hB : B = b) (hC : C = c) (hD : D = d) : IntKind.u64.wrap (IntKind.u64.wrap (IntKind.u64.wrap (IntKind.u64.wrap A * IntKind.u64.wrap B) + IntKind.u64.wrap C) + D) = ((d + (a * b + c) : Nat) : Int) := by
  obtain ⟨h1, h2, h3⟩ := mulb ha hb hc hd
  subst hA hB hC hD
  have e : (a : Int) * (b : Int) = ((a * b : Nat) : Int) := by rw [Int.natCast_mul]
  rw [u64w (z := (a : Int)) (by omega) (by omega), u64w (z := (b : Int)) (by omega) (by omega), u64w (z := (c : Int)) (by omega) (by omega), e, u64w (z := ((a * b : Nat) : Int)) (by omega) (by omega), u64w (z := ((a * b : Nat) : Int) + (c : Int)) (by omega) (by omega), u64w (by omega) (by omega)]
  omega
theorem rowX_low {x y n m : Nat} (h : m < n + 0) : lb (rowX x y n) m = lb (rowX x y (n + 1)) m := by
  rw [rowX_succ, lb_low _ _ _ _ (by omega)]
theorem row_start {x y n : Nat} {f : Nat → Nat} (hf : ∀ m, m < 12 → f m = lb (rowX x y n) m) : ∀ m, m < 12 → f m = if m < n + 0 then lb (rowX x y (n + 1)) m else lb (rowX x y n) m := by
  intro m hm
  by_cases e : m < n + 0
  · rw [if_pos e, hf m hm, rowX_low e]
  · rw [if_neg e, hf m hm]
theorem mul_lc {x y n j : Nat} {h : Nat → Nat} {A Y Z C : Int} (hA : A = ((lb x n : Nat) : Int)) (hY : Y = ((lb y j : Nat) : Int)) (hZ : Z = (h (n + j) : Int)) (hC : C = ((cyT (rowX x y n) (lb x n) y n j : Nat) : Int)) (hm : n + j < 12) (hh : ∀ m, m < 12 → h m = if m < n + j then lb (rowX x y (n + 1)) m else lb (rowX x y n) m) :
    IntKind.u64.wrap (IntKind.u64.wrap (IntKind.u64.wrap (IntKind.u64.wrap A * IntKind.u64.wrap Y) + IntKind.u64.wrap Z) + C) % 4294967296 = ((lb (rowX x y (n + 1)) (n + j) : Nat) : Int) ∧ IntKind.u64.wrap (IntKind.u64.wrap (IntKind.u64.wrap (IntKind.u64.wrap A * IntKind.u64.wrap Y) + IntKind.u64.wrap Z) + C) / 4294967296 = ((cyT (rowX x y n) (lb x n) y n (j + 1) : Nat) : Int) := by
  have hz := hh _ hm
  rw [if_neg (by omega)] at hz
  rw [hz] at hZ
  rw [mul_v (lb_lt x n) (lb_lt y j) (lb_lt (rowX x y n) (n + j)) (cyT_lt (rowX x y n) (lb x n) y n j (lb_lt x n)) hA hY hZ hC, cyT_succ, rowX_succ, lb_row]
  omega
theorem rowX_six {x y : Nat} (hx : x < 4294967296 ^ 6) : rowX x y 6 = x * y := by unfold rowX; rw [Nat.mod_eq_of_lt hx]
theorem prod_lt {x y : Nat} (hx : x < 4294967296 ^ 6) (hy : y < 4294967296 ^ 6) : x * y < 4294967296 ^ 12 := by
  have := Nat.mul_lt_mul'' hx hy
  rwa [← Nat.pow_add] at this
theorem prod_over {P m : Nat} (hm : m < 6) (h : lb P (6 + m) ≠ 0) : ¬ P < 4294967296 ^ 6 := fun e => h (lb_zero e (by omega))
theorem prod_fits {P : Nat} (hP : P < 4294967296 ^ 12) (h : ∀ m, m < 6 → lb P (6 + m) = 0) : P < 4294967296 ^ 6 := by
  have e : P % 4294967296 ^ 12 = P := Nat.mod_eq_of_lt hP
  have a0 := low_succ P 6
  have a1 := low_succ P 7
  have a2 := low_succ P 8
  have a3 := low_succ P 9
  have a4 := low_succ P 10
  have a5 := low_succ P 11
  rw [show lb P 6 = 0 from h 0 (by decide)] at a0
  rw [show lb P 7 = 0 from h 1 (by decide)] at a1
  rw [show lb P 8 = 0 from h 2 (by decide)] at a2
  rw [show lb P 9 = 0 from h 3 (by decide)] at a3
  rw [show lb P 10 = 0 from h 4 (by decide)] at a4
  rw [show lb P 11 = 0 from h 5 (by decide)] at a5
  simp only [Nat.mul_zero, Nat.add_zero, Nat.reduceAdd] at a0 a1 a2 a3 a4 a5
  rw [e, a4, a3, a2, a1, a0] at a5
  rw [a5]
  exact Nat.mod_lt _ (bpos 6)
theorem addI {i S : Int} {n k : Nat} (hi : i = n) (hn : n + k < 1000) (hS : wrap64 (i + (k : Int)) = S) : S = ((n + k : Nat) : Int) := by
  rw [← hS, hi, i64w (by omega) (by omega)]
  omega
def mulA (q : Bool) (P : Nat) : Array Value := if P < 4294967296 ^ 6 then W7 (q && !(zN P)) P else #[.bool false, .int .u32 0, .int .u32 0, .int .u32 0, .int .u32 0, .int .u32 0, .int .u32 0]
def fitC (P : Nat) : Int := if P < 4294967296 ^ 6 then 0 else 3
theorem mulA_pos {q : Bool} {P : Nat} (h : P < 4294967296 ^ 6) : mulA q P = W7 (q && !(zN P)) P ∧ fitC P = 0 := ⟨if_pos h, if_pos h⟩
theorem mulA_neg {q : Bool} {P : Nat} (h : ¬ P < 4294967296 ^ 6) : mulA q P = #[.bool false, .int .u32 0, .int .u32 0, .int .u32 0, .int .u32 0, .int .u32 0, .int .u32 0] ∧ fitC P = 3 := ⟨if_neg h, if_neg h⟩
def o6 (f : Nat → Nat) : Array Value := #[.int .u32 (f 0 : Int), .int .u32 (f 1 : Int), .int .u32 (f 2 : Int), .int .u32 (f 3 : Int), .int .u32 (f 4 : Int), .int .u32 (f 5 : Int)]
theorem o6_set (f : Nat → Nat) (n v : Nat) (h : n < 6) : (o6 f).setIfInBounds n (.int .u32 (v : Int)) = o6 (fun j => if j = n then v else f j) := by
  rcases (by omega : n = 0 ∨ n = 1 ∨ n = 2 ∨ n = 3 ∨ n = 4 ∨ n = 5) with rfl | rfl | rfl | rfl | rfl | rfl <;> rfl
theorem o6_get (f : Nat → Nat) (n : Nat) (h : n < 6) : (o6 f)[n]? = some (.int .u32 (f n : Int)) := by
  rcases (by omega : n = 0 ∨ n = 1 ∨ n = 2 ∨ n = 3 ∨ n = 4 ∨ n = 5) with rfl | rfl | rfl | rfl | rfl | rfl <;> rfl
theorem o6_A6 {f : Nat → Nat} {m : Nat} (h : ∀ j, j < 6 → f j = lb m j) : o6 f = A6 m := by
  unfold o6 A6
  rw [h 0 (by decide), h 1 (by decide), h 2 (by decide), h 3 (by decide), h 4 (by decide), h 5 (by decide)]
theorem OB.put6x {b : Nat} {w0 w w1 : World} {g U : Nat} {i : Int} {f h : Nat → Nat} {n v k : Nat} {bl bl' : List (Nat × Array Value × Nat)} (hO : OB b w0 w bl) (hk : bl[k]? = some (g, o6 f, U)) (hn : n < 6) (hi : i = n) {V : Int} (hV : V = (v : Int)) (hw : w1 = w.setCell ⟨g, i.toNat, none⟩ (.int .u32 V)) (hh : (fun j => if j = n then v else f j) = h) (hb : bl.set k (g, o6 h, U) = bl') : OB b w0 w1 bl' := by
  subst hi hV hh hb
  exact hO.seth k hk n _ hw (by show bl.set k (g, (o6 f).setIfInBounds n _, U) = _; rw [o6_set f n v hn])
theorem nzero_lb {x : Nat} (h : x < 4294967296 ^ 6) : (!(((lb x 0 : Nat) : Int) == 0) || (!(((lb x 1 : Nat) : Int) == 0) || (!(((lb x 2 : Nat) : Int) == 0) || (!(((lb x 3 : Nat) : Int) == 0) || (!(((lb x 4 : Nat) : Int) == 0) || !(((lb x 5 : Nat) : Int) == 0)))))) = !(zN x) := by
  rw [← zero_lb h]
  simp only [Bool.not_and]
theorem below_shift {B : Nat} {w W : World} (h : Below B w W) (a : Addr) (u : Value) (ha : a.block < B) : Below B (w.setCell a u) (W.setCell a u) := by
  have e : W.heap[a.block]? = w.heap[a.block]? := h.block _ ha
  refine ⟨h.os, h.tape, h.output, by simpa [World.setCell] using h.size, fun k hk => ?_⟩
  by_cases c : k = a.block
  · subst c
    simp only [World.setCell, Array.getElem?_modify, if_true, e]
  · rw [Below.heap_setCell _ _ _ _ c, Below.heap_setCell _ _ _ _ c]
    exact h.block k hk
theorem OB.shift {b : Nat} {w0 w : World} {bl : List (Nat × Array Value × Nat)} (h : OB b w0 w bl) {g : Nat} (hg : g < b) (u : Value) : OB b (w0.setCell ⟨g, 0, none⟩ u) (w.setCell ⟨g, 0, none⟩ u) bl := by
  refine ⟨fun p hp => ⟨?_, (h.m p hp).2⟩, h.nd, below_shift h.bel _ _ hg, by rw [setCell_size]; exact h.sz⟩
  rw [Below.heap_setCell _ _ _ _ (by show p.1 ≠ g; have := (h.m p hp).2; omega)]
  exact (h.m p hp).1
def timA (P : Nat) : Array Value := if P < 4294967296 ^ 6 then A6 P else #[.int .u32 0, .int .u32 0, .int .u32 0, .int .u32 0, .int .u32 0, .int .u32 0]
def ovM (P : Nat) : Bool := decide (¬ P < 4294967296 ^ 6)
theorem timA_pos {P : Nat} (h : P < 4294967296 ^ 6) : timA P = A6 P ∧ ovM P = false := ⟨if_pos h, decide_eq_false (fun e => e h)⟩
theorem timA_neg {P : Nat} (h : ¬ P < 4294967296 ^ 6) : timA P = #[.int .u32 0, .int .u32 0, .int .u32 0, .int .u32 0, .int .u32 0, .int .u32 0] ∧ ovM P = true := ⟨if_neg h, decide_eq_true h⟩
theorem tim_lc {x y n j : Nat} {h : Nat → Nat} {A Y Z C : Int} (hA : A = ((lb x n : Nat) : Int)) (hY : Y = ((lb y j : Nat) : Int)) (hZ : Z = (h (n + j) : Int)) (hC : C = ((cyT (rowX x y n) (lb x n) y n j : Nat) : Int)) (hm : n + j < 12) (hh : ∀ m, m < 12 → h m = if m < n + j then lb (rowX x y (n + 1)) m else lb (rowX x y n) m) :
    IntKind.u64.wrap (C + IntKind.u64.wrap (IntKind.u64.wrap (IntKind.u64.wrap A * IntKind.u64.wrap Y) + IntKind.u64.wrap Z)) % 4294967296 = ((lb (rowX x y (n + 1)) (n + j) : Nat) : Int) ∧ IntKind.u64.wrap (C + IntKind.u64.wrap (IntKind.u64.wrap (IntKind.u64.wrap A * IntKind.u64.wrap Y) + IntKind.u64.wrap Z)) / 4294967296 = ((cyT (rowX x y n) (lb x n) y n (j + 1) : Nat) : Int) := by
  have := mul_lc hA hY hZ hC hm hh
  rw [Int.add_comm C]
  exact this
def CB (w : World) (g : Nat) (ov : Bool) : Prop := w.heap[g]? = some (.cells #[.bool ov] 79 (0, 0))
theorem CB.lt {w : World} {g : Nat} {ov : Bool} (h : CB w g ov) : g < w.heap.size := blk_lt h
theorem CB.cell {w0 w : World} {g : Nat} {ov : Bool} {bl : List (Nat × Array Value × Nat)} (h : CB w0 g ov) (hO : OB w0.heap.size w0 w bl) : w.cell? ⟨g, 0, none⟩ = some (.bool ov) ∧ w.frozen? ⟨g, 0, none⟩ = false := by
  have e : w.heap[g]? = some (.cells #[.bool ov] 79 (0, 0)) := (hO.bel.block g h.lt).trans h
  exact ⟨(blk_cell e 0).trans rfl, blk_frozen e 0⟩
set_option maxRecDepth 100000 in
set_option maxHeartbeats 4000000 in
theorem idx111 (W : World) (m : Nat) {i A : Int} {n : Nat} (hi : i = n) (hn : n < 6) (hA : A = ((lb m n : Nat) : Int)) : (Instr.index 111 (.agg #[.int .u32 ((lb m 0 : Nat) : Int), .int .u32 ((lb m 1 : Nat) : Int), .int .u32 ((lb m 2 : Nat) : Int), .int .u32 ((lb m 3 : Nat) : Int), .int .u32 ((lb m 4 : Nat) : Int), .int .u32 ((lb m 5 : Nat) : Int)]) (.int .i64 i)).run Try.prog W = .ok (.int .u32 A) W := by
  have hu111 := Try.underlying111
  rcases (by omega : n = 0 ∨ n = 1 ∨ n = 2 ∨ n = 3 ∨ n = 4 ∨ n = 5) with rfl | rfl | rfl | rfl | rfl | rfl
  · obtain rfl : i = 0 := hi
    rw [hA]
    unfold Instr.index; go_simp
  · obtain rfl : i = 1 := hi
    rw [hA]
    unfold Instr.index; go_simp
  · obtain rfl : i = 2 := hi
    rw [hA]
    unfold Instr.index; go_simp
  · obtain rfl : i = 3 := hi
    rw [hA]
    unfold Instr.index; go_simp
  · obtain rfl : i = 4 := hi
    rw [hA]
    unfold Instr.index; go_simp
  · obtain rfl : i = 5 := hi
    rw [hA]
    unfold Instr.index; go_simp
theorem arr111 (W : World) (g : Nat) : (Instr.arrayAt 111 (.slice (some ⟨g, 0, none⟩) 6 12)).run Try.prog W = .ok (.pointer (some ⟨g, 0, none⟩)) W := by
  have hu111 := Try.underlying111
  unfold Instr.arrayAt
  go_simp
end Go.Proofs.Ytbomadebdekjjaa.Wide
