/- Own text of this session: wide numbers by hand walks. -/
import Derived.Test.YtbomadebdekjjaaWide1
import Derived.Test.YtbomadebdekjjaaWide3
import Derived.Test.YtbomadebdekjjaaWide4
import Derived.Test.YtbomadebdekjjaaWide5
namespace Go.Proofs.Ytbomadebdekjjaa.Wide
open Go.RowKit Go.Proofs.Ytbomadebdekjjaa.MOpen Go.Proofs.YtbomadebdekjjaaW.PrintWords Go.Proofs.YtbomadebdekjjaaW.PrintLast Go.Proofs.YtbomadebdekjjaaW.PrintMore
attribute [local go_sem] max2_int min2_int max_two min_two max_three min_three max_four min_four
set_option linter.unusedVariables false
set_option linter.unusedSimpArgs false
theorem W7_val {s : Bool} {m : Nat} {z : Int} (h : z = if s = true then -(m : Int) else (m : Int)) : Value.agg (W7 (s && !(zN m)) m) = WV z := by
  unfold WV
  have e1 : z.natAbs = m := by subst h; cases s <;> simp
  have e2 : (s && !(zN m)) = decide (z < 0) := by
    rw [h]
    cases s
    · simp
    · by_cases e : m = 0
      · subst e; simp [zN]
      · simp only [zN, e, decide_false, Bool.not_false, Bool.and_true, if_true]
        exact (decide_eq_true (by omega)).symm
  rw [e1, e2]
def fitZ (z : Int) : Int := if z.natAbs < 4294967296 ^ 6 then z else 0
theorem WV_zero : WV 0 = .agg #[.bool false, .int .u32 0, .int .u32 0, .int .u32 0, .int .u32 0, .int .u32 0, .int .u32 0] := by
  unfold WV W7
  simp [lb0]
theorem okP_iff {x y : Nat} (hx : x < 4294967296 ^ 6) (hy : y < 4294967296 ^ 6) : okP x y = decide (x + y < 4294967296 ^ 6) := by
  unfold okP cyP
  rw [Nat.mod_eq_of_lt hx, Nat.mod_eq_of_lt hy]
  by_cases e : x + y < 4294967296 ^ 6
  · rw [Nat.div_eq_of_lt e]; simp [e]
  · have : (x + y) / 4294967296 ^ 6 ≠ 0 := by
      intro h
      rcases Nat.div_eq_zero_iff.1 h with h | h
      · exact absurd h (by decide)
      · exact e h
    simp only [this, e]
theorem sign_mul (a b : Int) : a * b = if (!(decide (a < 0) == decide (b < 0))) = true then -((a.natAbs * b.natAbs : Nat) : Int) else ((a.natAbs * b.natAbs : Nat) : Int) := by
  rw [Int.natCast_mul]
  by_cases ha : a < 0 <;> by_cases hb : b < 0
  · obtain ⟨p, rfl⟩ : ∃ p : Nat, a = -(p : Int) := ⟨a.natAbs, by omega⟩
    obtain ⟨q, rfl⟩ : ∃ q : Nat, b = -(q : Int) := ⟨b.natAbs, by omega⟩
    simp [ha, hb, Int.neg_mul_neg]
    intro h; exact absurd (by constructor <;> intro _ <;> omega) h
  · obtain ⟨p, rfl⟩ : ∃ p : Nat, a = -(p : Int) := ⟨a.natAbs, by omega⟩
    obtain ⟨q, rfl⟩ : ∃ q : Nat, b = (q : Int) := ⟨b.natAbs, by omega⟩
    simp [ha, hb, Int.neg_mul]
    intro h; subst h; simp
  · obtain ⟨p, rfl⟩ : ∃ p : Nat, a = (p : Int) := ⟨a.natAbs, by omega⟩
    obtain ⟨q, rfl⟩ : ∃ q : Nat, b = -(q : Int) := ⟨b.natAbs, by omega⟩
    simp [ha, hb, Int.mul_neg]
    intro h; subst h; simp
  · obtain ⟨p, rfl⟩ : ∃ p : Nat, a = (p : Int) := ⟨a.natAbs, by omega⟩
    obtain ⟨q, rfl⟩ : ∃ q : Nat, b = (q : Int) := ⟨b.natAbs, by omega⟩
    simp [ha, hb]
theorem sOf (w : World) (n : Int) (hn : -9223372036854775808 ≤ n) (hn2 : n < 9223372036854775808) : Calls Try.prog 83 #[.int .i64 n] w fun e w' => e = .returned (WV n) ∧ Below w.heap.size w w' := by
  by_cases h : n < 0
  · exact sOfN w n hn hn2 h
  · exact sOfP w n hn hn2 h
theorem sMulV (w : World) (a b : Int) (ha : a.natAbs < 4294967296 ^ 6) (hb : b.natAbs < 4294967296 ^ 6) : Calls Try.prog 82 #[WV a, WV b] w fun e w' => e = .returned (.tuple #[WV (fitZ (a * b)), .int .i64 (fitC (a * b).natAbs)]) ∧ Below w.heap.size w w' := by
  have h := sMul w (decide (a < 0)) (decide (b < 0)) (!(decide (a < 0) == decide (b < 0))) (by simp) a.natAbs b.natAbs ha hb
  refine h.mono ?_
  rintro e w' ⟨rfl, hw⟩
  refine ⟨?_, hw⟩
  have key : Value.agg (mulA (!(decide (a < 0) == decide (b < 0))) (a.natAbs * b.natAbs)) = WV (fitZ (a * b)) := by
    unfold fitZ
    by_cases f : a.natAbs * b.natAbs < 4294967296 ^ 6
    · rw [(mulA_pos f).1, Int.natAbs_mul, if_pos f]
      exact W7_val (sign_mul a b)
    · rw [(mulA_neg f).1, Int.natAbs_mul, if_neg f, WV_zero]
  rw [key, Int.natAbs_mul]
def addZ (a b : Int) : Int := if (a + b).natAbs < 4294967296 ^ 6 then a + b else if a < 0 then -(((a.natAbs + b.natAbs) % 4294967296 ^ 6 : Nat) : Int) else (((a.natAbs + b.natAbs) % 4294967296 ^ 6 : Nat) : Int)
theorem same_abs {a b : Int} (h : (decide (a < 0) == decide (b < 0)) = true) : (a + b).natAbs = a.natAbs + b.natAbs ∧ (a + b = if decide (a < 0) = true then -((a.natAbs + b.natAbs : Nat) : Int) else ((a.natAbs + b.natAbs : Nat) : Int)) := by
  by_cases ha : a < 0 <;> by_cases hb : b < 0 <;> simp [ha, hb] at h ⊢ <;> omega
theorem diff_abs {a b : Int} (h : (decide (a < 0) == decide (b < 0)) = false) : (b.natAbs ≤ a.natAbs → a + b = if decide (a < 0) = true then -((a.natAbs - b.natAbs : Nat) : Int) else ((a.natAbs - b.natAbs : Nat) : Int)) ∧ (a.natAbs < b.natAbs → a + b = if decide (b < 0) = true then -((b.natAbs - a.natAbs : Nat) : Int) else ((b.natAbs - a.natAbs : Nat) : Int)) := by
  by_cases ha : a < 0 <;> by_cases hb : b < 0 <;> simp [ha, hb] at h ⊢ <;> constructor <;> intro h2 <;> omega
theorem diff_fits {a b : Int} (ha : a.natAbs < 4294967296 ^ 6) (hb : b.natAbs < 4294967296 ^ 6) (h : (decide (a < 0) == decide (b < 0)) = false) : (a + b).natAbs < 4294967296 ^ 6 := by
  have h1 := diff_abs h
  rcases Nat.lt_or_ge a.natAbs b.natAbs with l | l
  · rw [h1.2 l]; split <;> omega
  · rw [h1.1 l]; split <;> omega
theorem sAddV (w : World) (a b : Int) (ha : a.natAbs < 4294967296 ^ 6) (hb : b.natAbs < 4294967296 ^ 6) : Calls Try.prog 84 #[WV a, WV b] w fun e w' => e = .returned (.tuple #[WV (fitZ (a + b)), .int .i64 (fitC (a + b).natAbs)]) ∧ Below w.heap.size w w' := by
  unfold fitZ fitC
  cases h : (decide (a < 0) == decide (b < 0))
  · have f := diff_fits ha hb h
    rw [if_pos f, if_pos f]
    rcases Nat.lt_or_ge a.natAbs b.natAbs with l | l
    · rw [← W7_val ((diff_abs h).2 l)]
      exact sAddL w _ _ h a.natAbs b.natAbs ha hb l
    · rw [← W7_val ((diff_abs h).1 l)]
      exact sAddG w _ _ h a.natAbs b.natAbs ha hb l
  · rw [(same_abs h).1]
    by_cases f : a.natAbs + b.natAbs < 4294967296 ^ 6
    · rw [if_pos f, if_pos f, ← W7_val (same_abs h).2]
      exact sAddS w _ _ h a.natAbs b.natAbs ha hb (by rw [okP_iff ha hb]; exact decide_eq_true f) f
    · rw [if_neg f, if_neg f, WV_zero]
      exact sAddO w _ _ h a.natAbs b.natAbs ha hb (by rw [okP_iff ha hb]; exact decide_eq_false f)
theorem OB.calc {b : Nat} {w0 w w1 : World} {g : Nat} {ov : Bool} {bl : List (Nat × Array Value × Nat)} (h : OB b w0 w bl) (i : Nat) (hi : bl[i]? = some (g, #[.bool ov], 79)) (ov' : Bool) (hb : Below w.heap.size (w.setCell ⟨g, 0, none⟩ (.bool ov')) w1) {bl' : List (Nat × Array Value × Nat)} (e : bl.set i (g, #[.bool ov'], 79) = bl') : OB b w0 w1 bl' := by
  have h1 := h.set i hi 0 (.bool ov') (bl' := bl') (by rw [← e]; rfl)
  exact h1.below (by rw [setCell_size]; exact hb)
theorem fitZ_lt (z : Int) : (fitZ z).natAbs < 4294967296 ^ 6 := by
  unfold fitZ
  split
  · assumption
  · decide
theorem addZ_lt (a b : Int) : (addZ a b).natAbs < 4294967296 ^ 6 := by
  unfold addZ
  split
  · assumption
  · have := Nat.mod_lt (a.natAbs + b.natAbs) (bpos 6)
    split <;> omega
theorem abs_small {z : Int} (h1 : -9223372036854775808 ≤ z) (h2 : z < 9223372036854775808) : z.natAbs < 4294967296 ^ 6 := small6 (by omega)
theorem OB.drop {b : Nat} {w0 w : World} {p : Nat × Array Value × Nat} {bl : List (Nat × Array Value × Nat)} (h : OB b w0 w (p :: bl)) : OB b w0 w bl := ⟨fun q hq => h.m q (List.mem_cons_of_mem _ hq), (List.pairwise_cons.1 h.nd).2, h.bel, h.sz⟩
theorem OB.swap {b : Nat} {w0 w : World} {p q : Nat × Array Value × Nat} {bl : List (Nat × Array Value × Nat)} (h : OB b w0 w (p :: q :: bl)) : OB b w0 w (q :: p :: bl) := by
  have h1 := List.pairwise_cons.1 h.nd
  have h2 := List.pairwise_cons.1 h1.2
  refine ⟨fun r hr => h.m r (by simp only [List.mem_cons] at hr ⊢; rcases hr with e | e | e <;> simp [e]), List.pairwise_cons.2 ⟨fun r hr => ?_, List.pairwise_cons.2 ⟨fun r hr => h1.1 r (List.mem_cons_of_mem _ hr), h2.2⟩⟩, h.bel, h.sz⟩
  rcases List.mem_cons.1 hr with rfl | hr
  · exact (h1.1 q (List.mem_cons_self ..)).symm
  · exact h2.1 r hr
def okB (bl : List (Nat × Array Value × Nat)) : Nat → Prop := fun k => ∀ p ∈ bl, k ≠ p.1
theorem OB.sub {b : Nat} {w0 w : World} {bl bl' : List (Nat × Array Value × Nat)} (h : OB b w0 w bl) (hs : bl'.Sublist bl) : OB b w0 w bl' := ⟨fun p hp => h.m p (hs.subset hp), h.nd.sublist hs, h.bel, h.sz⟩
structure RB {α : Type} (d : Kd α) (e : Nat) (w0 w : World) (bl : List (Nat × Array Value × Nat)) (v : Value) (xs : List α) : Prop where
  ob : OB w0.heap.size w0 w bl
  r : d.R e w w0.heap.size (okB bl) v xs
section
variable {α : Type} {d : Kd α} {e : Nat} {w0 w w1 : World} {bl bl' : List (Nat × Array Value × Nat)} {v : Value} {xs : List α} {g U : Nat} {cs : Array Value}
theorem RB.below (h : RB d e w0 w bl v xs) (hb : Below w.heap.size w w1) : RB d e w0 w1 bl v xs := ⟨h.ob.below hb, Kd.R_below h.r hb⟩
theorem RB.drewN (h : RB d e w0 w bl v xs) (n : Nat) : RB d e w0 (w.drewN n) bl v xs := h.below (pw_below_drewN (Below.refl _ _) n)
theorem RB.drew (h : RB d e w0 w bl v xs) : RB d e w0 w.drew bl v xs := h.below (below_drew (Below.refl _ _))
theorem RB.box (h : RB d e w0 w bl v xs) (hg : g = w.heap.size) (hbox : w1.heap[g]? = some (.cells cs U (0, 0))) (hb : Below w.heap.size w w1) : RB d e w0 w1 ((g, cs, U) :: bl) v xs :=
  ⟨h.ob.box hg hbox hb, Kd.R_mono (Kd.R_below (Kd.R_elderB h.r g (Nat.le_of_eq hg.symm)) hb) (fun k hk p hp => by
    rcases List.mem_cons.1 hp with rfl | hp
    · exact hk.2
    · exact hk.1 p hp)⟩
theorem RB.sub (h : RB d e w0 w bl v xs) (hs : bl'.Sublist bl) : RB d e w0 w bl' v xs := ⟨h.ob.sub hs, Kd.R_mono h.r (fun k hk p hp => hk p (hs.subset hp))⟩
theorem RB.wrote (h : RB d e w0 w bl v xs) (i : Nat) (hi : bl[i]? = some (g, cs, U)) (hO : OB w0.heap.size w0 w1 bl') (hk : ∀ k, k ≠ g → w1.heap[k]? = w.heap[k]?) (hn : bl'.map Prod.fst = bl.map Prod.fst) : RB d e w0 w1 bl' v xs := by
  refine ⟨hO, Kd.R_mono (Kd.R_step h.r (fun k ho _ => hk k (ho _ (List.mem_of_getElem? hi)))) (fun k ho p hp => ?_)⟩
  have : p.1 ∈ bl.map Prod.fst := hn ▸ List.mem_map_of_mem (f := Prod.fst) hp
  obtain ⟨q, hq, e⟩ := List.mem_map.1 this
  rw [← e]
  exact ho q hq
theorem set_fst {bl : List (Nat × Array Value × Nat)} {i g U : Nat} {cs cs' : Array Value} (hi : bl[i]? = some (g, cs, U)) : (bl.set i (g, cs', U)).map Prod.fst = bl.map Prod.fst := by
  rw [List.map_set]
  have h2 : (bl.map Prod.fst)[i]? = some g := by rw [List.getElem?_map, hi]; rfl
  exact List.ext_getElem? (fun k => by
    by_cases c : i = k
    · subst c
      have hl := (List.getElem?_eq_some_iff.1 h2).1
      rw [List.getElem?_set_self hl, h2]
    · rw [List.getElem?_set_ne c])
theorem far6 (w : World) (g : Nat) (b0 b1 b2 b3 b4 b5 : Value) (k : Nat) (h : k ≠ g) : (World.setCell (World.setCell (World.setCell (World.setCell (World.setCell (World.setCell w ⟨g, 0, none⟩ b0) ⟨g, 1, none⟩ b1) ⟨g, 2, none⟩ b2) ⟨g, 3, none⟩ b3) ⟨g, 4, none⟩ b4) ⟨g, 5, none⟩ b5).heap[k]? = w.heap[k]? := by
  rw [Below.heap_setCell _ _ _ _ h, Below.heap_setCell _ _ _ _ h, Below.heap_setCell _ _ _ _ h, Below.heap_setCell _ _ _ _ h, Below.heap_setCell _ _ _ _ h, Below.heap_setCell _ _ _ _ h]
theorem RB.put6 {a0 a1 a2 a3 a4 a5 b0 b1 b2 b3 b4 b5 : Value} (h : RB d e w0 w bl v xs) (i : Nat) (hi : bl[i]? = some (g, #[a0, a1, a2, a3, a4, a5], U)) (hw : w1 = (World.setCell (World.setCell (World.setCell (World.setCell (World.setCell (World.setCell w ⟨g, 0, none⟩ b0) ⟨g, 1, none⟩ b1) ⟨g, 2, none⟩ b2) ⟨g, 3, none⟩ b3) ⟨g, 4, none⟩ b4) ⟨g, 5, none⟩ b5)) (hb : bl.set i (g, #[b0, b1, b2, b3, b4, b5], U) = bl') : RB d e w0 w1 bl' v xs :=
  h.wrote i hi (h.ob.put6 i hi hw hb) (by subst hw; exact far6 w g _ _ _ _ _ _) (by rw [← hb]; exact set_fst hi)
theorem RB.put7 {a0 a1 a2 a3 a4 a5 a6 b0 b1 b2 b3 b4 b5 b6 : Value} (h : RB d e w0 w bl v xs) (i : Nat) (hi : bl[i]? = some (g, #[a0, a1, a2, a3, a4, a5, a6], U)) (hw : w1 = (World.setCell (World.setCell (World.setCell (World.setCell (World.setCell (World.setCell (World.setCell w ⟨g, 0, none⟩ b0) ⟨g, 1, none⟩ b1) ⟨g, 2, none⟩ b2) ⟨g, 3, none⟩ b3) ⟨g, 4, none⟩ b4) ⟨g, 5, none⟩ b5) ⟨g, 6, none⟩ b6)) (hb : bl.set i (g, #[b0, b1, b2, b3, b4, b5, b6], U) = bl') : RB d e w0 w1 bl' v xs :=
  h.wrote i hi (h.ob.put7 i hi hw hb) (by subst hw; exact fun k hk => (Below.heap_setCell _ _ _ _ hk).trans (far6 w g _ _ _ _ _ _ k hk)) (by rw [← hb]; exact set_fst hi)
theorem RB.grown {v1 : Value} {ys : List α} (h : RB d e w0 w bl v xs) (ho : d.R e w1 w0.heap.size (okB bl) v1 ys) (hb : Below w0.heap.size w0 w1) (hg : w.grownBy w1 v.ownBlock) : RB d e w0 w1 bl v1 ys :=
  ⟨⟨fun p hp => ⟨blk_grown (h.ob.m p hp).1 hg (Kd.R_away h.r (fun k hk => hk p hp)), (h.ob.m p hp).2⟩, h.ob.nd, hb, Nat.le_trans h.ob.sz hg.size⟩, ho⟩
theorem RB.fresh (h : RB d e w0 w bl v xs) : ∀ k, w.heap.size ≤ k → okB bl k := fun k hk p hp e1 => by
  have := (Array.getElem?_eq_some_iff.1 (h.ob.m p hp).1).1
  omega
end
theorem fdiv_of {a b : Int} {x y : Nat} {s t : Bool} (hy : 0 < y) (ha : a = if s = true then -(x : Int) else (x : Int)) (hb : b = if t = true then -(y : Int) else (y : Int)) : (a.fdiv b = if (!(s == t)) = true then -(((if (!(s == t)) = true ∧ x % y ≠ 0 then x / y + 1 else x / y) : Nat) : Int) else (((if (!(s == t)) = true ∧ x % y ≠ 0 then x / y + 1 else x / y) : Nat) : Int)) ∧ (a.fmod b = if t = true then -(((if (!(s == t)) = true ∧ x % y ≠ 0 then y - x % y else x % y) : Nat) : Int) else (((if (!(s == t)) = true ∧ x % y ≠ 0 then y - x % y else x % y) : Nat) : Int)) := by
  have h1 : ((y : Int) * ((x / y : Nat) : Int) + ((x % y : Nat) : Int)) = (x : Int) := by
    have : ((y * (x / y) + x % y : Nat) : Int) = (x : Int) := by rw [Nat.div_add_mod]
    rw [Int.natCast_add, Int.natCast_mul] at this
    exact this
  have h2 := Nat.mod_lt x hy
  generalize x / y = u at *
  generalize x % y = r at *
  have e1 : ∀ c : Int, (y : Int) * -c = -((y : Int) * c) := fun c => Int.mul_neg _ _
  have e2 : (y : Int) * ((u + 1 : Nat) : Int) = (y : Int) * (u : Int) + y := by rw [Int.natCast_add, Int.mul_add]; simp
  subst ha hb
  cases s <;> cases t
  · simp only [Bool.false_eq_true, if_false, beq_self_eq_true, Bool.not_true, false_and]
    exact (Int.fdiv_fmod_unique (by omega)).2 ⟨by omega, by omega, by omega⟩
  · simp only [Bool.false_eq_true, if_false, if_true, show (!(false == true)) = true from rfl, true_and]
    by_cases c : r = 0
    · rw [if_neg (by simp [c]), if_neg (by simp [c])]
      exact (Int.fdiv_fmod_unique' (by omega)).2 ⟨by rw [Int.neg_mul, Int.mul_neg]; omega, by omega, by omega⟩
    · rw [if_pos c, if_pos c]
      exact (Int.fdiv_fmod_unique' (by omega)).2 ⟨by rw [Int.neg_mul, Int.mul_neg]; omega, by omega, by omega⟩
  · simp only [Bool.false_eq_true, if_false, if_true, show (!(true == false)) = true from rfl, true_and]
    by_cases c : r = 0
    · rw [if_neg (by simp [c]), if_neg (by simp [c])]
      exact (Int.fdiv_fmod_unique (by omega)).2 ⟨by rw [Int.mul_neg]; omega, by omega, by omega⟩
    · rw [if_pos c, if_pos c]
      exact (Int.fdiv_fmod_unique (by omega)).2 ⟨by rw [Int.mul_neg]; omega, by omega, by omega⟩
  · simp only [if_true, beq_self_eq_true, Bool.not_true, Bool.false_eq_true, if_false, false_and]
    exact (Int.fdiv_fmod_unique' (by omega)).2 ⟨by rw [Int.neg_mul]; omega, by omega, by omega⟩
theorem abs_of (z : Int) : z = if decide (z < 0) = true then -(z.natAbs : Int) else (z.natAbs : Int) := by
  by_cases c : z < 0
  · rw [if_pos (decide_eq_true c)]; omega
  · rw [if_neg (by simpa using c)]; omega
theorem sDivV (w : World) (a b : Int) (ha : a.natAbs < 4294967296 ^ 6) (hb : b.natAbs < 4294967296 ^ 6) (h0 : b ≠ 0) (hB : BitsOk) : Calls Try.prog 99 #[WV a, WV b] w fun e w' => e = .returned (.tuple #[WV (a.fdiv b), WV (a.fmod b)]) ∧ Below w.heap.size w w' := by
  have hy : 0 < b.natAbs := by omega
  refine (sDv w (decide (a < 0)) (decide (b < 0)) (!(decide (a < 0) == decide (b < 0))) (by simp) a.natAbs b.natAbs ha hb hy hB).mono ?_
  rintro e w' ⟨rfl, hw⟩
  refine ⟨?_, hw⟩
  obtain ⟨k1, k2⟩ := fdiv_of hy (abs_of a) (abs_of b)
  unfold dvV
  by_cases c : (!(decide (a < 0) == decide (b < 0))) = true ∧ a.natAbs % b.natAbs ≠ 0
  · rw [if_pos c] at k1 k2 ⊢
    rw [W7_val k1, W7_val k2]
  · rw [if_neg c] at k1 k2 ⊢
    rw [W7_val k1, W7_val k2]
end Go.Proofs.Ytbomadebdekjjaa.Wide
