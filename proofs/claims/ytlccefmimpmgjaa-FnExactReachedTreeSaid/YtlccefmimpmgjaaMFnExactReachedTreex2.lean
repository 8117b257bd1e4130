/- Functions of the program as Lean functions, and the proof that the code comes to what they say. Written by a program of this session (myprint.py). -/
import Derived.Test.YtlccefmimpmgjaaMFnExactReachedTreex0
namespace Go.Proofs.Ytlccefmimpmgjaa.MFnExactReachedTree
open Go.RowKit Go.Proofs.Ytlccefmimpmgjaa.MOpen Go.Proofs.YtlccefmimpmgjaaW.PrintWords Go.Proofs.YtlccefmimpmgjaaW.PrintLast Go.Proofs.YtlccefmimpmgjaaW.PrintMore
attribute [local go_sem] max2_int min2_int max_two min_two max_three min_three max_four min_four   -- for this text's walks alone
set_option linter.unusedVariables false
set_option linter.unusedSimpArgs false

set_option linter.defProp false
def aM58_ := @Aside0.mk
theorem q58x1_ {P : Prop} (h : P := by first | (with_reducible assumption) | assumption) : P := h
theorem q58x2_ {P : Prop} (h : P := by repeat (first | (with_reducible first | exact HK.out | apply Kept.alloc | apply Kept.drewN | apply Kept.drew) | exact HK.out)) : P := h
theorem q58x3_ {P : Prop} (h : P := by first | rfl | (simp; done) | (simp [*]; done)) : P := h
theorem q58x4_ {P : Prop} (h : P := by (with_reducible repeat (first | apply Kd.R_alloc | apply Kd.R_drewN | apply Kd.R_drew)); exact HO_0.out) : P := h
theorem q58x5_ {P : Prop} (h : P := by rw [hw]; exact below_set (HB.out) GB5.out) : P := h
/-! ### laws_markForkS: function 58 -/
mutual
def laws_markForkS.l0 : Nat → List (S77) → Int → Int → Option (Int × (List (S77)))
 | 0, _, _, _ => none
 | k + 1, x0, x1, x5 => if x5 < (x0.length : Int) then (if 0 ≤ x5 then ((some (x0.set (x5 : Int).toNat (⟨IntKind.i8.wrap (x1), (rd_T77 x0 x5).f1, (⟨(rd_T77 x0 x5).f2.f0, (rd_T77 x0 x5).f2.f1, (rd_T77 x0 x5).f2.f2⟩ : S75)⟩ : S77) : List (S77))).bind fun y114 => (laws_markForkS.l1 k (y114.set (x5 : Int).toNat (⟨(rd_T77 y114 x5).f0, IntKind.i8.wrap (wrap64 (x1 + 1)), (⟨(rd_T77 y114 x5).f2.f0, (rd_T77 y114 x5).f2.f1, (rd_T77 y114 x5).f2.f2⟩ : S75)⟩ : S77)) (wrap64 ((wrap64 (x1 + 1)) + 1)) x5 0)) else (none)) else (some (x1, x0))
def laws_markForkS.l1 : Nat → List (S77) → Int → Int → Int → Option (Int × (List (S77)))
 | 0, _, _, _, _ => none
 | k + 1, x0, x1, x5, x6 => if x6 < 3 then (if 0 ≤ x5 then (if x5 < (x0.length : Int) then (if x6 = 0 then (laws_markForkS.l1 k (x0.set (x5 : Int).toNat (⟨(rd_T77 x0 x5).f0, (rd_T77 x0 x5).f1, (⟨IntKind.i16.wrap (x1), (rd_T77 x0 x5).f2.f1, (rd_T77 x0 x5).f2.f2⟩ : S75)⟩ : S77)) (wrap64 (x1 + 1)) x5 (0 + 1)) else (if x6 = 1 then (laws_markForkS.l1 k (x0.set (x5 : Int).toNat (⟨(rd_T77 x0 x5).f0, (rd_T77 x0 x5).f1, (⟨(rd_T77 x0 x5).f2.f0, IntKind.i16.wrap (x1), (rd_T77 x0 x5).f2.f2⟩ : S75)⟩ : S77)) (wrap64 (x1 + 1)) x5 (1 + 1)) else (if x6 = 2 then (laws_markForkS.l1 k (x0.set (x5 : Int).toNat (⟨(rd_T77 x0 x5).f0, (rd_T77 x0 x5).f1, (⟨(rd_T77 x0 x5).f2.f0, (rd_T77 x0 x5).f2.f1, IntKind.i16.wrap (x1)⟩ : S75)⟩ : S77)) (wrap64 (x1 + 1)) x5 (2 + 1)) else (none)))) else (none)) else (none)) else (laws_markForkS.l0 k x0 x1 (wrap64 (x5 + 1)))
end
def laws_markForkS.f (k : Nat) (l0 : List (S77)) (a1 : Int) : Option (Int × (List (S77))) := laws_markForkS.l0 k l0 a1 0
theorem laws_markForkS.mono_l : ∀ k, (∀ y0 y1 y2, LeO (laws_markForkS.l0 k y0 y1 y2) (laws_markForkS.l0 (k + 1) y0 y1 y2)) ∧ (∀ y0 y1 y2 y3, LeO (laws_markForkS.l1 k y0 y1 y2 y3) (laws_markForkS.l1 (k + 1) y0 y1 y2 y3))
 | 0 => ⟨fun _ _ _ r h => by simp [laws_markForkS.l0] at h, fun _ _ _ _ r h => by simp [laws_markForkS.l1] at h⟩
 | k + 1 => by
  obtain ⟨ih0, ih1⟩ := laws_markForkS.mono_l k
  refine ⟨?_, ?_⟩
  ·intro y0 y1 y2
   unfold laws_markForkS.l0
   repeat' first
   | (with_reducible exact ih0 _ _ _)
   | (with_reducible exact ih1 _ _ _ _)
   | (with_reducible exact LeO.refl _)
   | (with_reducible exact LeO.none _)
   | (with_reducible refine LeO.ite ?_ ?_)
   | (with_reducible refine LeO.bind ?_ (fun _ => ?_))
   | exact ih0 _ _ _
   | exact ih1 _ _ _ _
   | exact LeO.none _
   | refine LeO.ite ?_ ?_
   | refine LeO.bind ?_ (fun _ => ?_)
  intro y0 y1 y2 y3
  unfold laws_markForkS.l1
  repeat' first
  | (with_reducible exact ih0 _ _ _)
  | (with_reducible exact ih1 _ _ _ _)
  | (with_reducible exact LeO.refl _)
  | (with_reducible exact LeO.none _)
  | (with_reducible refine LeO.ite ?_ ?_)
  | (with_reducible refine LeO.bind ?_ (fun _ => ?_))
  | exact ih0 _ _ _
  | exact ih1 _ _ _ _
  | exact LeO.none _
  | refine LeO.ite ?_ ?_
  | refine LeO.bind ?_ (fun _ => ?_)
theorem laws_markForkS.mono : ∀ a0 a1 k, LeO (laws_markForkS.f k a0 a1) (laws_markForkS.f (k + 1) a0 a1) := by
 intro a0 a1 k
 obtain ⟨ih0, ih1⟩ := laws_markForkS.mono_l k
 unfold laws_markForkS.f
 repeat' first
   | (with_reducible exact ih0 _ _ _)
   | (with_reducible exact ih1 _ _ _ _)
   | (with_reducible exact LeO.refl _)
   | (with_reducible exact LeO.none _)
   | (with_reducible refine LeO.ite ?_ ?_)
   | (with_reducible refine LeO.bind ?_ (fun _ => ?_))
   | exact ih0 _ _ _
   | exact ih1 _ _ _ _
   | exact LeO.none _
   | refine LeO.ite ?_ ?_
   | refine LeO.bind ?_ (fun _ => ?_)
set_option maxHeartbeats 8000000 in
set_option maxRecDepth 100000 in
theorem laws_markForkS.calls (k : Nat) (P0_ : Nat → Prop) (u9000_ : Value) (l0 : List (S77)) (a1 : Int) (r1 : Int) (r2 : List (S77)) (w0 w : World) (hB : Below w0.heap.size w0 w) (ho0 : Kd.R k77 77 w w0.heap.size P0_ u9000_ l0) (h : laws_markForkS.f k l0 a1 = some (r1, r2)) :
  Calls Try.prog 58 #[u9000_, .int .i64 a1] w fun e w' => e = .returned (.int .i64 r1) ∧ Kd.R k77 77 w' w0.heap.size (fun k_ => (P0_ k_ ∨ w.heap.size ≤ k_)) u9000_ r2 ∧ Below w0.heap.size w0 w' ∧ Kept w w' (fun k_ => P0_ k_) := by
 have HO0 := aM58_ (show Kd.R k77 77 w w0.heap.size (fun k_ => (P0_ k_ ∨ w.heap.size ≤ k_)) u9000_ l0 from Kd.R_mono ho0 (fun k_ hk => (.inl hk)))
 have HK := aM58_ (Kept.refl w (fun k_ => P0_ k_))
 have HW0 := aM58_ hB.size
 have HB := aM58_ hB
 clear hB
 have H : (laws_markForkS.l0 k l0 a1 0) = some (r1, r2) := h
 clear h
 have H' := aM58_ H
 clear H
 go_enter Try.func58, Try.ntmps58
 go_wp2
 go_loopg [1, 5] k (fun kq v1 v5 w' => ∃ (x0_1 : List (S77)) (x1_1 : Int) (x5_1 : Int), v1 = .int .i64 x1_1 ∧ v5 = .int .i64 x5_1 ∧ Aside0 (laws_markForkS.l0 kq x0_1 x1_1 x5_1 = some (r1, r2)) ∧ Aside0 (kq ≤ k) ∧ Aside0 (Kd.R k77 77 w' w0.heap.size (fun k_ => (P0_ k_ ∨ w.heap.size ≤ k_)) u9000_ x0_1) ∧ Aside0 (Kept w w' (fun k_ => P0_ k_)) ∧ Aside0 (Below w0.heap.size w0 w'))
 case atStart => exact ⟨(l0), (a1), (0), q58x3_, q58x3_, H', ⟨Nat.le_refl _⟩, ⟨by (with_reducible repeat (first | apply Kd.R_alloc | apply Kd.R_drewN | apply Kd.R_drew)); exact HO0.out⟩, ⟨by repeat (first | (with_reducible first | exact HK.out | apply Kept.alloc | apply Kept.drewN | apply Kept.drew) | exact HK.out)⟩, ⟨by repeat (first | (with_reducible first | exact HB.out | apply below_alloc | apply pw_below_drewN | apply below_drew1) | exact HB.out)⟩⟩
 case round =>
  clear H'
  try clear p2
  obtain ⟨x0_1, x1_1, x5_1, rfl, rfl, HA, HK1, HO_0, HK, HB⟩ := hrel
  cases gk with
  | zero => exact absurd HA.out (by simp [laws_markForkS.l0])
  | succ k1 =>
   have H := HA.out
   clear HA
   simp only [laws_markForkS.l0] at H
   by_cases c3 : x5_1 < (x0_1.length : Int)
   rotate_left
   ·rw [if_neg c3] at H
    have c3b0 : decide (x5_1 < (x0_1.length : Int)) = false := decide_eq_false c3
    clear c3
    simp only [Option.some.injEq, Prod.mk.injEq] at H
    obtain ⟨rfl, rfl⟩ := H
    obtain ⟨Ao25, co25, eo25⟩ := Kd.R_slice HO_0.out
    subst eo25
    go_wp2
    go_ret
    exact ⟨by first | rfl | (simp [errW_none, errW_some] <;> rfl) | (simp [*, errW_none, errW_some] <;> rfl), by (with_reducible repeat (first | apply Kd.R_alloc | apply Kd.R_drewN | apply Kd.R_drew)); exact HO_0.out, by repeat (first | (with_reducible first | exact HB.out | apply below_alloc | apply pw_below_drewN | apply below_drew1) | exact HB.out), by repeat (first | (with_reducible first | exact HK.out | apply Kept.alloc | apply Kept.drewN | apply Kept.drew) | exact HK.out)⟩

   rw [if_pos c3] at H
   have c3b0 : decide (x5_1 < (x0_1.length : Int)) = true := decide_eq_true c3
   clear c3
   by_cases c4 : 0 ≤ x5_1
   rotate_left
   ·rw [if_neg c4] at H
    exact absurd H (by simp)
   rw [if_pos c4] at H
   have c4b0 : decide (0 ≤ x5_1) = true := decide_eq_true c4
   clear c4
   obtain ⟨y114, hy114⟩ : ∃ y_ : List (S77), y_ = (x0_1.set (x5_1 : Int).toNat (⟨IntKind.i8.wrap (x1_1), (rd_T77 x0_1 x5_1).f1, (⟨(rd_T77 x0_1 x5_1).f2.f0, (rd_T77 x0_1 x5_1).f2.f1, (rd_T77 x0_1 x5_1).f2.f2⟩ : S75)⟩ : S77)) := ⟨_, rfl⟩
   replace H : (laws_markForkS.l1 k1 (y114.set (x5_1 : Int).toNat (⟨(rd_T77 y114 x5_1).f0, IntKind.i8.wrap (wrap64 (x1_1 + 1)), (⟨(rd_T77 y114 x5_1).f2.f0, (rd_T77 y114 x5_1).f2.f1, (rd_T77 y114 x5_1).f2.f2⟩ : S75)⟩ : S77)) (wrap64 ((wrap64 (x1_1 + 1)) + 1)) x5_1 0) = some (r1, r2) := by first | (rw [hy114]; with_reducible exact H) | (have H2_ := (Option.bind_some _ _).symm.trans H; rw [hy114]; with_reducible exact H2_) | (have H2_ := (Option.bind_some _ _).symm.trans H; with_reducible exact H2_) | with_reducible exact H | (rw [hy114]; exact H) | exact H
   have Ny114 := aM58_ hy114
   clear hy114
   obtain ⟨y115, hy115⟩ : ∃ y_ : List (S77), y_ = (y114.set (x5_1 : Int).toNat (⟨(rd_T77 y114 x5_1).f0, IntKind.i8.wrap (wrap64 (x1_1 + 1)), (⟨(rd_T77 y114 x5_1).f2.f0, (rd_T77 y114 x5_1).f2.f1, (rd_T77 y114 x5_1).f2.f2⟩ : S75)⟩ : S77)) := ⟨_, rfl⟩
   replace H : (laws_markForkS.l1 k1 y115 (wrap64 ((wrap64 (x1_1 + 1)) + 1)) x5_1 0) = some (r1, r2) := by first | (rw [hy115]; with_reducible exact H) | (have H2_ := (Option.bind_some _ _).symm.trans H; rw [hy115]; with_reducible exact H2_) | (have H2_ := (Option.bind_some _ _).symm.trans H; with_reducible exact H2_) | with_reducible exact H | (rw [hy115]; exact H) | exact H
   have Ny115 := aM58_ hy115
   clear hy115
   have H' := aM58_ H
   clear H
   obtain ⟨Ao7, co7, eo7⟩ := Kd.R_slice HO_0.out
   subst eo7
   have p5 : 0 ≤ (x5_1 : Int) := of_decide_eq_true q58x1_
   have q5 : (x5_1 : Int) < ((x0_1.length : Int) : Int) := of_decide_eq_true q58x1_
   obtain ⟨go5, co5, eo5, gb5, gl5, cl5, HG5⟩ := Kd.R_form HO_0.out (by omega)
   (first | cases eo5 | (injection eo5 with ea_ en_ ec_; (first | subst ea_ | (injection ea_ with ea_; subst ea_)); subst ec_; clear en_))
   have GB5 := aM58_ gb5
   have GG5 := aM58_ HG5
   clear gb5 gl5 HG5
   have HMgo5 := aM58_ (show (P0_ go5 ∨ w.heap.size ≤ go5) from (HO_0.out.1 _ rfl))
   obtain ⟨ce5, hcl5, hM5, hcc5, hfr5⟩ := Kd.R_elem HO_0.out z77 (x5_1 : Int) p5 q5
   obtain rfl := k77_openM hM5
   have hx5_0 : wr.cell? ⟨go5, (x5_1 : Int).toNat * 5, none⟩ = some (.int .i8 ((rd_T77 x0_1 x5_1).f0)) := hcc5 0 _ rfl
   have hx5_1 : wr.cell? ⟨go5, (x5_1 : Int).toNat * 5 + 1, none⟩ = some (.int .i8 ((rd_T77 x0_1 x5_1).f1)) := hcc5 1 _ rfl
   have hx5_2 : wr.cell? ⟨go5, (x5_1 : Int).toNat * 5 + 2, none⟩ = some (.int .i16 ((rd_T77 x0_1 x5_1).f2.f0)) := hcc5 2 _ rfl
   have hx5_3 : wr.cell? ⟨go5, (x5_1 : Int).toNat * 5 + 3, none⟩ = some (.int .i16 ((rd_T77 x0_1 x5_1).f2.f1)) := hcc5 3 _ rfl
   have hx5_4 : wr.cell? ⟨go5, (x5_1 : Int).toNat * 5 + 4, none⟩ = some (.int .i16 ((rd_T77 x0_1 x5_1).f2.f2)) := hcc5 4 _ rfl
   have hf5_0 : wr.frozen? ⟨go5, (x5_1 : Int).toNat * 5, none⟩ = false := hfr5 0
   have hf5_1 : wr.frozen? ⟨go5, (x5_1 : Int).toNat * 5 + 1, none⟩ = false := hfr5 1
   have hf5_2 : wr.frozen? ⟨go5, (x5_1 : Int).toNat * 5 + 2, none⟩ = false := hfr5 2
   have hf5_3 : wr.frozen? ⟨go5, (x5_1 : Int).toNat * 5 + 3, none⟩ = false := hfr5 3
   have hf5_4 : wr.frozen? ⟨go5, (x5_1 : Int).toNat * 5 + 4, none⟩ = false := hfr5 4
   clear hcl5 hcc5 hfr5 hM5
   replace p5 := eq_true p5
   replace q5 := eq_true q5
   have HX8 := aM58_ (show Kd.R k77 77 wr w0.heap.size (fun k_ => (P0_ k_ ∨ w.heap.size ≤ k_)) (.slice (some ⟨go5, 0, none⟩) x0_1.length co7) x0_1 from q58x4_)
   obtain ⟨ce8, hcl8, hM8, hcc8, hfr8⟩ := Kd.R_elem HX8.out z77 (x5_1 : Int) (of_decide_eq_true q58x1_) (by have h_ : (x5_1 : Int) < ((x0_1.length : Int) : Int) := of_decide_eq_true q58x1_; first | exact h_ | (have e_ := (Kd.R_reads' HO_0.out).1; omega) | simpa using h_)
   obtain rfl := k77_openM hM8
   have HP8 := Kd.R_seg HX8.out (x5_1 : Int) (of_decide_eq_true q58x1_) (by have h_ : (x5_1 : Int) < ((x0_1.length : Int) : Int) := of_decide_eq_true q58x1_; first | exact h_ | (have e_ := (Kd.R_reads' HO_0.out).1; omega) | simpa using h_) (seg := [.int .i8 (IntKind.i8.wrap (x1_1))]) (j := 0) hcl8 hcc8 (show 1 ≤ 5 from by decide) (x' := (⟨IntKind.i8.wrap (x1_1), (rd_T77 x0_1 x5_1).f1, (⟨(rd_T77 x0_1 x5_1).f2.f0, (rd_T77 x0_1 x5_1).f2.f1, (rd_T77 x0_1 x5_1).f2.f2⟩ : S75)⟩ : S77)) (k77_mkM _ _ _ (⟨IntKind.i8.wrap (x1_1), (rd_T77 x0_1 x5_1).f1, (⟨(rd_T77 x0_1 x5_1).f2.f0, (rd_T77 x0_1 x5_1).f2.f1, (rd_T77 x0_1 x5_1).f2.f2⟩ : S75)⟩ : S77) ) (fun _ hk => hk)
   have hx8_0 := hcc8 0 _ rfl
   (try simp only [show (k77).sz = 5 from rfl, Nat.mul_one, Nat.add_zero] at hx8_0)
   have hf8_0 := hfr8 0
   (try simp only [show (k77).sz = 5 from rfl, Nat.mul_one, Nat.add_zero] at hf8_0)
   clear hcl8 hcc8 hfr8 hM8
   go_wp2_with (first | ((with_reducible refine gate_store (t := 73) (p := 18) rfl ?_); refine store_event (t := 73) (p := 18) (v := ?vo_w9) (w1 := (wr.setCell ⟨go5, (x5_1 : Int).toNat * 5, none⟩ (.int .i8 (IntKind.i8.wrap (x1_1))))) ?hg ?ho ?hn ?hr ?_; (case ho => rfl); (case hg => rfl); (case hn => rfl); (case hr => first | (go_simp; done) | (go_simp; rfl)); intro w9 hw; have hg : wr.grownBy w9 (some go5) := (by rw [hw]; exact HP8.2); have hp_ : Kd.R k77 77 w9 w0.heap.size (fun k_ => (P0_ k_ ∨ w.heap.size ≤ k_)) (.slice (some ⟨go5, 0, none⟩) x0_1.length co7) y114 := (by rw [hw, Ny114.out]; exact HP8.1); clear HP8; have n0_ := aM58_ (hp_); have n1_ := aM58_ ((q58x5_ : Below w0.heap.size w0 w9)); have n2_ := aM58_ (Kept.of_grown (S := (fun k_ => P0_ k_)) hg q58x2_ (fun k_ e_ => (HO_0.out.1 k_ e_))); clear HO_0; clear HB; clear HK; have HO_0 := n0_; have HB := n1_; have HK := n2_; clear n0_ n1_ n2_; clear hg hw hp_; have p6 : 0 ≤ (x5_1 : Int) := of_decide_eq_true q58x1_; have q6 : (x5_1 : Int) < ((x0_1.length : Int) : Int) := of_decide_eq_true q58x1_; obtain ⟨ce6, hcl6, hM6, hcc6, hfr6⟩ := Kd.R_elem HO_0.out z77 (x5_1 : Int) p6 q6; obtain rfl := k77_openM hM6; have hx6_0 : w9.cell? ⟨go5, (x5_1 : Int).toNat * 5, none⟩ = some (.int .i8 ((rd_T77 y114 x5_1).f0)) := hcc6 0 _ rfl; have hx6_1 : w9.cell? ⟨go5, (x5_1 : Int).toNat * 5 + 1, none⟩ = some (.int .i8 ((rd_T77 y114 x5_1).f1)) := hcc6 1 _ rfl; have hx6_2 : w9.cell? ⟨go5, (x5_1 : Int).toNat * 5 + 2, none⟩ = some (.int .i16 ((rd_T77 y114 x5_1).f2.f0)) := hcc6 2 _ rfl; have hx6_3 : w9.cell? ⟨go5, (x5_1 : Int).toNat * 5 + 3, none⟩ = some (.int .i16 ((rd_T77 y114 x5_1).f2.f1)) := hcc6 3 _ rfl; have hx6_4 : w9.cell? ⟨go5, (x5_1 : Int).toNat * 5 + 4, none⟩ = some (.int .i16 ((rd_T77 y114 x5_1).f2.f2)) := hcc6 4 _ rfl; have hf6_0 : w9.frozen? ⟨go5, (x5_1 : Int).toNat * 5, none⟩ = false := hfr6 0; have hf6_1 : w9.frozen? ⟨go5, (x5_1 : Int).toNat * 5 + 1, none⟩ = false := hfr6 1; have hf6_2 : w9.frozen? ⟨go5, (x5_1 : Int).toNat * 5 + 2, none⟩ = false := hfr6 2; have hf6_3 : w9.frozen? ⟨go5, (x5_1 : Int).toNat * 5 + 3, none⟩ = false := hfr6 3; have hf6_4 : w9.frozen? ⟨go5, (x5_1 : Int).toNat * 5 + 4, none⟩ = false := hfr6 4; clear hcl6 hcc6 hfr6 hM6; replace p6 := eq_true p6; replace q6 := eq_true q6; have HX10 := aM58_ (show Kd.R k77 77 w9 w0.heap.size (fun k_ => (P0_ k_ ∨ w.heap.size ≤ k_)) (.slice (some ⟨go5, 0, none⟩) x0_1.length co7) y114 from q58x4_); obtain ⟨ce10, hcl10, hM10, hcc10, hfr10⟩ := Kd.R_elem HX10.out z77 (x5_1 : Int) (of_decide_eq_true q58x1_) (by have h_ : (x5_1 : Int) < ((x0_1.length : Int) : Int) := of_decide_eq_true q58x1_; first | exact h_ | (have e_ := (Kd.R_reads' HO_0.out).1; omega) | simpa using h_); obtain rfl := k77_openM hM10; have HP10 := Kd.R_seg HX10.out (x5_1 : Int) (of_decide_eq_true q58x1_) (by have h_ : (x5_1 : Int) < ((x0_1.length : Int) : Int) := of_decide_eq_true q58x1_; first | exact h_ | (have e_ := (Kd.R_reads' HO_0.out).1; omega) | simpa using h_) (seg := [.int .i8 (IntKind.i8.wrap (wrap64 (x1_1 + 1)))]) (j := 1) hcl10 hcc10 (show 2 ≤ 5 from by decide) (x' := (⟨(rd_T77 y114 x5_1).f0, IntKind.i8.wrap (wrap64 (x1_1 + 1)), (⟨(rd_T77 y114 x5_1).f2.f0, (rd_T77 y114 x5_1).f2.f1, (rd_T77 y114 x5_1).f2.f2⟩ : S75)⟩ : S77)) (k77_mkM _ _ _ (⟨(rd_T77 y114 x5_1).f0, IntKind.i8.wrap (wrap64 (x1_1 + 1)), (⟨(rd_T77 y114 x5_1).f2.f0, (rd_T77 y114 x5_1).f2.f1, (rd_T77 y114 x5_1).f2.f2⟩ : S75)⟩ : S77) ) (fun _ hk => hk); have hx10_1 := hcc10 1 _ rfl; (try simp only [show (k77).sz = 5 from rfl, Nat.mul_one, Nat.add_zero] at hx10_1); have hf10_1 := hfr10 1; (try simp only [show (k77).sz = 5 from rfl, Nat.mul_one, Nat.add_zero] at hf10_1); clear hcl10 hcc10 hfr10 hM10) | ((with_reducible refine gate_store (t := 73) (p := 26) rfl ?_); refine store_event (t := 73) (p := 26) (v := ?vo_w11) (w1 := (w9.setCell ⟨go5, (x5_1 : Int).toNat * 5 + 1, none⟩ (.int .i8 (IntKind.i8.wrap (wrap64 (x1_1 + 1)))))) ?hg ?ho ?hn ?hr ?_; (case ho => rfl); (case hg => rfl); (case hn => rfl); (case hr => first | (go_simp; done) | (go_simp; rfl)); intro w11 hw; have hg : w9.grownBy w11 (some go5) := (by rw [hw]; exact HP10.2); have hp_ : Kd.R k77 77 w11 w0.heap.size (fun k_ => (P0_ k_ ∨ w.heap.size ≤ k_)) (.slice (some ⟨go5, 0, none⟩) x0_1.length co7) y115 := (by rw [hw, Ny115.out]; exact HP10.1); clear HP10; have n0_ := aM58_ (hp_); have n1_ := aM58_ ((q58x5_ : Below w0.heap.size w0 w11)); have n2_ := aM58_ (Kept.of_grown (S := (fun k_ => P0_ k_)) hg q58x2_ (fun k_ e_ => (HO_0.out.1 k_ e_))); clear HO_0; clear HB; clear HK; have HO_0 := n0_; have HB := n1_; have HK := n2_; clear n0_ n1_ n2_; clear hg hw hp_))
   go_loopg [1, 6] k1 (fun kq v1 v6 w' => ∃ (x0_2 : List (S77)) (x1_2 : Int) (x6_2 : Int), v1 = .int .i64 x1_2 ∧ v6 = .int .i64 x6_2 ∧ Aside0 (laws_markForkS.l1 kq x0_2 x1_2 x5_1 x6_2 = some (r1, r2)) ∧ Aside0 (kq ≤ k1) ∧ Aside0 (Kd.R k77 77 w' w0.heap.size (fun k_ => (P0_ k_ ∨ w.heap.size ≤ k_)) (.slice (some ⟨go5, 0, none⟩) x0_1.length co7) x0_2) ∧ Aside0 (Kept w w' (fun k_ => P0_ k_)) ∧ Aside0 (Below w0.heap.size w0 w'))
   case atStart => exact ⟨(y115), (wrap64 ((wrap64 (x1_1 + 1)) + 1)), (0), q58x3_, q58x3_, H', ⟨Nat.le_refl _⟩, ⟨by (with_reducible repeat (first | apply Kd.R_alloc | apply Kd.R_drewN | apply Kd.R_drew)); exact HO_0.out⟩, ⟨by repeat (first | (with_reducible first | exact HK.out | apply Kept.alloc | apply Kept.drewN | apply Kept.drew) | exact HK.out)⟩, ⟨by repeat (first | (with_reducible first | exact HB.out | apply below_alloc | apply pw_below_drewN | apply below_drew1) | exact HB.out)⟩⟩
   case round =>
    clear H'
    try clear c1
    try clear hx1
    try clear p2
    try clear c3
    try clear c3b0
    try clear c4
    try clear c4b0
    try clear c5
    try clear p5
    try clear q5
    try clear hx5
    try clear hf5
    try clear c6
    try clear p6
    try clear q6
    try clear hx6
    try clear hf6
    try clear c8
    try clear hx8
    try clear hf8
    try clear c10
    try clear hx10
    try clear hf10
    try clear hx10_1
    try clear hx5_0
    try clear hx5_1
    try clear hx5_2
    try clear hx5_3
    try clear hx5_4
    try clear hx6_0
    try clear hx6_1
    try clear hx6_2
    try clear hx6_3
    try clear hx6_4
    try clear hx8_0
    try clear p2
    try clear p5
    try clear p6
    try clear q5
    try clear q6
    obtain ⟨x0_2, x1_2, x6_2, rfl, rfl, HA, HK2, HO_0, HK, HB⟩ := hrel
    have hl0_2 := (Kd.R_reads' HO_0.out).1
    rw [hl0_2] at HO_0
    (try simp only [hl0_2])
    cases gk with
    | zero => exact absurd HA.out (by simp [laws_markForkS.l1])
    | succ k2 =>
     have H := HA.out
     clear HA
     simp only [laws_markForkS.l1] at H
     by_cases c12 : x6_2 < 3
     rotate_left
     ·rw [if_neg c12] at H
      have c12b0 : decide (x6_2 < 3) = false := decide_eq_false c12
      clear c12
      have H' := aM58_ H
      clear H
      go_wp2
      (try simp only [← hl0_2])
      go_roundg k2
      case measure => have := HK1.out; have := HK2.out; omega
      case rel => exact ⟨(x0_2), (x1_2), (wrap64 (x5_1 + 1)), q58x3_, q58x3_, H', ⟨by have := HK1.out; have := HK2.out; omega⟩, ⟨by (try simp only [hl0_2]); (with_reducible repeat (first | apply Kd.R_alloc | apply Kd.R_drewN | apply Kd.R_drew)); exact HO_0.out⟩, ⟨by repeat (first | (with_reducible first | exact HK.out | apply Kept.alloc | apply Kept.drewN | apply Kept.drew) | exact HK.out)⟩, ⟨by repeat (first | (with_reducible first | exact HB.out | apply below_alloc | apply pw_below_drewN | apply below_drew1) | exact HB.out)⟩⟩
     rw [if_pos c12] at H
     have c12b0 : decide (x6_2 < 3) = true := decide_eq_true c12
     clear c12
     by_cases c13 : 0 ≤ x5_1
     rotate_left
     ·rw [if_neg c13] at H
      exact absurd H (by simp)
     rw [if_pos c13] at H
     have c13b0 : decide (0 ≤ x5_1) = true := decide_eq_true c13
     clear c13
     by_cases c14 : x5_1 < (x0_2.length : Int)
     rotate_left
     ·rw [if_neg c14] at H
      exact absurd H (by simp)
     rw [if_pos c14] at H
     have c14b0 : decide (x5_1 < (x0_2.length : Int)) = true := decide_eq_true c14
     (try (have c14b0hl0_2 := c14b0; rw [hl0_2] at c14b0hl0_2))
     clear c14
     by_cases c16 : x6_2 = 0
     ·subst c16
      have H1 : (laws_markForkS.l1 k2 (x0_2.set (x5_1 : Int).toNat (⟨(rd_T77 x0_2 x5_1).f0, (rd_T77 x0_2 x5_1).f1, (⟨IntKind.i16.wrap (x1_2), (rd_T77 x0_2 x5_1).f2.f1, (rd_T77 x0_2 x5_1).f2.f2⟩ : S75)⟩ : S77)) (wrap64 (x1_2 + 1)) x5_1 (0 + 1)) = some (r1, r2) := by rw [if_pos rfl] at H; exact H
      clear H
      have H := H1
      clear H1
      obtain ⟨y116, hy116⟩ : ∃ y_ : List (S77), y_ = (x0_2.set (x5_1 : Int).toNat (⟨(rd_T77 x0_2 x5_1).f0, (rd_T77 x0_2 x5_1).f1, (⟨IntKind.i16.wrap (x1_2), (rd_T77 x0_2 x5_1).f2.f1, (rd_T77 x0_2 x5_1).f2.f2⟩ : S75)⟩ : S77)) := ⟨_, rfl⟩
      replace H : (laws_markForkS.l1 k2 y116 (wrap64 (x1_2 + 1)) x5_1 (0 + 1)) = some (r1, r2) := by first | (rw [hy116]; with_reducible exact H) | (have H2_ := (Option.bind_some _ _).symm.trans H; rw [hy116]; with_reducible exact H2_) | (have H2_ := (Option.bind_some _ _).symm.trans H; with_reducible exact H2_) | with_reducible exact H | (rw [hy116]; exact H) | exact H
      have Ny116 := aM58_ hy116
      clear hy116
      have H' := aM58_ H
      clear H
      have p15 : 0 ≤ (x5_1 : Int) := of_decide_eq_true q58x1_
      have q15 : (x5_1 : Int) < ((x0_2.length : Int) : Int) := of_decide_eq_true q58x1_
      obtain ⟨ce15, hcl15, hM15, hcc15, hfr15⟩ := Kd.R_elem HO_0.out z77 (x5_1 : Int) p15 q15
      obtain rfl := k77_openM hM15
      have hx15_0 : wr.cell? ⟨go5, (x5_1 : Int).toNat * 5, none⟩ = some (.int .i8 ((rd_T77 x0_2 x5_1).f0)) := hcc15 0 _ rfl
      have hx15_1 : wr.cell? ⟨go5, (x5_1 : Int).toNat * 5 + 1, none⟩ = some (.int .i8 ((rd_T77 x0_2 x5_1).f1)) := hcc15 1 _ rfl
      have hx15_2 : wr.cell? ⟨go5, (x5_1 : Int).toNat * 5 + 2, none⟩ = some (.int .i16 ((rd_T77 x0_2 x5_1).f2.f0)) := hcc15 2 _ rfl
      have hx15_3 : wr.cell? ⟨go5, (x5_1 : Int).toNat * 5 + 3, none⟩ = some (.int .i16 ((rd_T77 x0_2 x5_1).f2.f1)) := hcc15 3 _ rfl
      have hx15_4 : wr.cell? ⟨go5, (x5_1 : Int).toNat * 5 + 4, none⟩ = some (.int .i16 ((rd_T77 x0_2 x5_1).f2.f2)) := hcc15 4 _ rfl
      have hf15_0 : wr.frozen? ⟨go5, (x5_1 : Int).toNat * 5, none⟩ = false := hfr15 0
      have hf15_1 : wr.frozen? ⟨go5, (x5_1 : Int).toNat * 5 + 1, none⟩ = false := hfr15 1
      have hf15_2 : wr.frozen? ⟨go5, (x5_1 : Int).toNat * 5 + 2, none⟩ = false := hfr15 2
      have hf15_3 : wr.frozen? ⟨go5, (x5_1 : Int).toNat * 5 + 3, none⟩ = false := hfr15 3
      have hf15_4 : wr.frozen? ⟨go5, (x5_1 : Int).toNat * 5 + 4, none⟩ = false := hfr15 4
      clear hcl15 hcc15 hfr15 hM15
      replace p15 := eq_true p15
      replace q15 := eq_true q15
      have HX17 := aM58_ (show Kd.R k77 77 wr w0.heap.size (fun k_ => (P0_ k_ ∨ w.heap.size ≤ k_)) (.slice (some ⟨go5, 0, none⟩) x0_2.length co7) x0_2 from q58x4_)
      obtain ⟨ce17, hcl17, hM17, hcc17, hfr17⟩ := Kd.R_elem HX17.out z77 (x5_1 : Int) (of_decide_eq_true q58x1_) (by have h_ : (x5_1 : Int) < ((x0_2.length : Int) : Int) := of_decide_eq_true q58x1_; first | exact h_ | (have e_ := (Kd.R_reads' HO_0.out).1; omega) | simpa using h_)
      obtain rfl := k77_openM hM17
      have HP17 := Kd.R_seg HX17.out (x5_1 : Int) (of_decide_eq_true q58x1_) (by have h_ : (x5_1 : Int) < ((x0_2.length : Int) : Int) := of_decide_eq_true q58x1_; first | exact h_ | (have e_ := (Kd.R_reads' HO_0.out).1; omega) | simpa using h_) (seg := [.int .i16 (IntKind.i16.wrap (x1_2))]) (j := 2) hcl17 hcc17 (show 3 ≤ 5 from by decide) (x' := (⟨(rd_T77 x0_2 x5_1).f0, (rd_T77 x0_2 x5_1).f1, (⟨IntKind.i16.wrap (x1_2), (rd_T77 x0_2 x5_1).f2.f1, (rd_T77 x0_2 x5_1).f2.f2⟩ : S75)⟩ : S77)) (k77_mkM _ _ _ (⟨(rd_T77 x0_2 x5_1).f0, (rd_T77 x0_2 x5_1).f1, (⟨IntKind.i16.wrap (x1_2), (rd_T77 x0_2 x5_1).f2.f1, (rd_T77 x0_2 x5_1).f2.f2⟩ : S75)⟩ : S77) ) (fun _ hk => hk)
      have hx17_2 := hcc17 2 _ rfl
      (try simp only [show (k77).sz = 5 from rfl, Nat.mul_one, Nat.add_zero] at hx17_2)
      have hf17_2 := hfr17 2
      (try simp only [show (k77).sz = 5 from rfl, Nat.mul_one, Nat.add_zero] at hf17_2)
      clear hcl17 hcc17 hfr17 hM17
      go_wp2_with (first | ((with_reducible refine gate_store (t := 74) (p := 40) rfl ?_); refine store_event (t := 74) (p := 40) (v := ?vo_w18) (w1 := (wr.setCell ⟨go5, (x5_1 : Int).toNat * 5 + 2, none⟩ (.int .i16 (IntKind.i16.wrap (x1_2))))) ?hg ?ho ?hn ?hr ?_; (case ho => rfl); (case hg => rfl); (case hn => rfl); (case hr => first | (go_simp; done) | (go_simp; rfl)); intro w18 hw; have hg : wr.grownBy w18 (some go5) := (by rw [hw]; exact HP17.2); have hp_ : Kd.R k77 77 w18 w0.heap.size (fun k_ => (P0_ k_ ∨ w.heap.size ≤ k_)) (.slice (some ⟨go5, 0, none⟩) x0_2.length co7) y116 := (by rw [hw, Ny116.out]; exact HP17.1); clear HP17; have n0_ := aM58_ (hp_); have n1_ := aM58_ ((q58x5_ : Below w0.heap.size w0 w18)); have n2_ := aM58_ (Kept.of_grown (S := (fun k_ => P0_ k_)) hg q58x2_ (fun k_ e_ => (HO_0.out.1 k_ e_))); clear HO_0; clear HB; clear HK; have HO_0 := n0_; have HB := n1_; have HK := n2_; clear n0_ n1_ n2_; clear hg hw hp_))
      (try simp only [← hl0_2])
      go_roundg k2
      case measure => have := HK1.out; have := HK2.out; omega
      case rel => exact ⟨(y116), (wrap64 (x1_2 + 1)), (0 + 1), q58x3_, q58x3_, H', ⟨by have := HK1.out; have := HK2.out; omega⟩, ⟨by (try simp only [hl0_2]); (with_reducible repeat (first | apply Kd.R_alloc | apply Kd.R_drewN | apply Kd.R_drew)); exact HO_0.out⟩, ⟨by repeat (first | (with_reducible first | exact HK.out | apply Kept.alloc | apply Kept.drewN | apply Kept.drew) | exact HK.out)⟩, ⟨by repeat (first | (with_reducible first | exact HB.out | apply below_alloc | apply pw_below_drewN | apply below_drew1) | exact HB.out)⟩⟩
     rw [if_neg c16] at H
     by_cases c19 : x6_2 = 1
     ·subst c19
      have H1 : (laws_markForkS.l1 k2 (x0_2.set (x5_1 : Int).toNat (⟨(rd_T77 x0_2 x5_1).f0, (rd_T77 x0_2 x5_1).f1, (⟨(rd_T77 x0_2 x5_1).f2.f0, IntKind.i16.wrap (x1_2), (rd_T77 x0_2 x5_1).f2.f2⟩ : S75)⟩ : S77)) (wrap64 (x1_2 + 1)) x5_1 (1 + 1)) = some (r1, r2) := by rw [if_pos rfl] at H; exact H
      clear H
      have H := H1
      clear H1
      obtain ⟨y117, hy117⟩ : ∃ y_ : List (S77), y_ = (x0_2.set (x5_1 : Int).toNat (⟨(rd_T77 x0_2 x5_1).f0, (rd_T77 x0_2 x5_1).f1, (⟨(rd_T77 x0_2 x5_1).f2.f0, IntKind.i16.wrap (x1_2), (rd_T77 x0_2 x5_1).f2.f2⟩ : S75)⟩ : S77)) := ⟨_, rfl⟩
      replace H : (laws_markForkS.l1 k2 y117 (wrap64 (x1_2 + 1)) x5_1 (1 + 1)) = some (r1, r2) := by first | (rw [hy117]; with_reducible exact H) | (have H2_ := (Option.bind_some _ _).symm.trans H; rw [hy117]; with_reducible exact H2_) | (have H2_ := (Option.bind_some _ _).symm.trans H; with_reducible exact H2_) | with_reducible exact H | (rw [hy117]; exact H) | exact H
      have Ny117 := aM58_ hy117
      clear hy117
      have H' := aM58_ H
      clear H
      have p15 : 0 ≤ (x5_1 : Int) := of_decide_eq_true q58x1_
      have q15 : (x5_1 : Int) < ((x0_2.length : Int) : Int) := of_decide_eq_true q58x1_
      obtain ⟨ce15, hcl15, hM15, hcc15, hfr15⟩ := Kd.R_elem HO_0.out z77 (x5_1 : Int) p15 q15
      obtain rfl := k77_openM hM15
      have hx15_0 : wr.cell? ⟨go5, (x5_1 : Int).toNat * 5, none⟩ = some (.int .i8 ((rd_T77 x0_2 x5_1).f0)) := hcc15 0 _ rfl
      have hx15_1 : wr.cell? ⟨go5, (x5_1 : Int).toNat * 5 + 1, none⟩ = some (.int .i8 ((rd_T77 x0_2 x5_1).f1)) := hcc15 1 _ rfl
      have hx15_2 : wr.cell? ⟨go5, (x5_1 : Int).toNat * 5 + 2, none⟩ = some (.int .i16 ((rd_T77 x0_2 x5_1).f2.f0)) := hcc15 2 _ rfl
      have hx15_3 : wr.cell? ⟨go5, (x5_1 : Int).toNat * 5 + 3, none⟩ = some (.int .i16 ((rd_T77 x0_2 x5_1).f2.f1)) := hcc15 3 _ rfl
      have hx15_4 : wr.cell? ⟨go5, (x5_1 : Int).toNat * 5 + 4, none⟩ = some (.int .i16 ((rd_T77 x0_2 x5_1).f2.f2)) := hcc15 4 _ rfl
      have hf15_0 : wr.frozen? ⟨go5, (x5_1 : Int).toNat * 5, none⟩ = false := hfr15 0
      have hf15_1 : wr.frozen? ⟨go5, (x5_1 : Int).toNat * 5 + 1, none⟩ = false := hfr15 1
      have hf15_2 : wr.frozen? ⟨go5, (x5_1 : Int).toNat * 5 + 2, none⟩ = false := hfr15 2
      have hf15_3 : wr.frozen? ⟨go5, (x5_1 : Int).toNat * 5 + 3, none⟩ = false := hfr15 3
      have hf15_4 : wr.frozen? ⟨go5, (x5_1 : Int).toNat * 5 + 4, none⟩ = false := hfr15 4
      clear hcl15 hcc15 hfr15 hM15
      replace p15 := eq_true p15
      replace q15 := eq_true q15
      have HX20 := aM58_ (show Kd.R k77 77 wr w0.heap.size (fun k_ => (P0_ k_ ∨ w.heap.size ≤ k_)) (.slice (some ⟨go5, 0, none⟩) x0_2.length co7) x0_2 from q58x4_)
      obtain ⟨ce20, hcl20, hM20, hcc20, hfr20⟩ := Kd.R_elem HX20.out z77 (x5_1 : Int) (of_decide_eq_true q58x1_) (by have h_ : (x5_1 : Int) < ((x0_2.length : Int) : Int) := of_decide_eq_true q58x1_; first | exact h_ | (have e_ := (Kd.R_reads' HO_0.out).1; omega) | simpa using h_)
      obtain rfl := k77_openM hM20
      have HP20 := Kd.R_seg HX20.out (x5_1 : Int) (of_decide_eq_true q58x1_) (by have h_ : (x5_1 : Int) < ((x0_2.length : Int) : Int) := of_decide_eq_true q58x1_; first | exact h_ | (have e_ := (Kd.R_reads' HO_0.out).1; omega) | simpa using h_) (seg := [.int .i16 (IntKind.i16.wrap (x1_2))]) (j := 3) hcl20 hcc20 (show 4 ≤ 5 from by decide) (x' := (⟨(rd_T77 x0_2 x5_1).f0, (rd_T77 x0_2 x5_1).f1, (⟨(rd_T77 x0_2 x5_1).f2.f0, IntKind.i16.wrap (x1_2), (rd_T77 x0_2 x5_1).f2.f2⟩ : S75)⟩ : S77)) (k77_mkM _ _ _ (⟨(rd_T77 x0_2 x5_1).f0, (rd_T77 x0_2 x5_1).f1, (⟨(rd_T77 x0_2 x5_1).f2.f0, IntKind.i16.wrap (x1_2), (rd_T77 x0_2 x5_1).f2.f2⟩ : S75)⟩ : S77) ) (fun _ hk => hk)
      have hx20_3 := hcc20 3 _ rfl
      (try simp only [show (k77).sz = 5 from rfl, Nat.mul_one, Nat.add_zero] at hx20_3)
      have hf20_3 := hfr20 3
      (try simp only [show (k77).sz = 5 from rfl, Nat.mul_one, Nat.add_zero] at hf20_3)
      clear hcl20 hcc20 hfr20 hM20
      go_wp2_with (first | ((with_reducible refine gate_store (t := 74) (p := 40) rfl ?_); refine store_event (t := 74) (p := 40) (v := ?vo_w21) (w1 := (wr.setCell ⟨go5, (x5_1 : Int).toNat * 5 + 3, none⟩ (.int .i16 (IntKind.i16.wrap (x1_2))))) ?hg ?ho ?hn ?hr ?_; (case ho => rfl); (case hg => rfl); (case hn => rfl); (case hr => first | (go_simp; done) | (go_simp; rfl)); intro w21 hw; have hg : wr.grownBy w21 (some go5) := (by rw [hw]; exact HP20.2); have hp_ : Kd.R k77 77 w21 w0.heap.size (fun k_ => (P0_ k_ ∨ w.heap.size ≤ k_)) (.slice (some ⟨go5, 0, none⟩) x0_2.length co7) y117 := (by rw [hw, Ny117.out]; exact HP20.1); clear HP20; have n0_ := aM58_ (hp_); have n1_ := aM58_ ((q58x5_ : Below w0.heap.size w0 w21)); have n2_ := aM58_ (Kept.of_grown (S := (fun k_ => P0_ k_)) hg q58x2_ (fun k_ e_ => (HO_0.out.1 k_ e_))); clear HO_0; clear HB; clear HK; have HO_0 := n0_; have HB := n1_; have HK := n2_; clear n0_ n1_ n2_; clear hg hw hp_))
      (try simp only [← hl0_2])
      go_roundg k2
      case measure => have := HK1.out; have := HK2.out; omega
      case rel => exact ⟨(y117), (wrap64 (x1_2 + 1)), (1 + 1), q58x3_, q58x3_, H', ⟨by have := HK1.out; have := HK2.out; omega⟩, ⟨by (try simp only [hl0_2]); (with_reducible repeat (first | apply Kd.R_alloc | apply Kd.R_drewN | apply Kd.R_drew)); exact HO_0.out⟩, ⟨by repeat (first | (with_reducible first | exact HK.out | apply Kept.alloc | apply Kept.drewN | apply Kept.drew) | exact HK.out)⟩, ⟨by repeat (first | (with_reducible first | exact HB.out | apply below_alloc | apply pw_below_drewN | apply below_drew1) | exact HB.out)⟩⟩
     rw [if_neg c19] at H
     by_cases c22 : x6_2 = 2
     rotate_left
     ·rw [if_neg c22] at H
      exact absurd H (by simp)
     subst c22
     have H1 : (laws_markForkS.l1 k2 (x0_2.set (x5_1 : Int).toNat (⟨(rd_T77 x0_2 x5_1).f0, (rd_T77 x0_2 x5_1).f1, (⟨(rd_T77 x0_2 x5_1).f2.f0, (rd_T77 x0_2 x5_1).f2.f1, IntKind.i16.wrap (x1_2)⟩ : S75)⟩ : S77)) (wrap64 (x1_2 + 1)) x5_1 (2 + 1)) = some (r1, r2) := by rw [if_pos rfl] at H; exact H
     clear H
     have H := H1
     clear H1
     obtain ⟨y118, hy118⟩ : ∃ y_ : List (S77), y_ = (x0_2.set (x5_1 : Int).toNat (⟨(rd_T77 x0_2 x5_1).f0, (rd_T77 x0_2 x5_1).f1, (⟨(rd_T77 x0_2 x5_1).f2.f0, (rd_T77 x0_2 x5_1).f2.f1, IntKind.i16.wrap (x1_2)⟩ : S75)⟩ : S77)) := ⟨_, rfl⟩
     replace H : (laws_markForkS.l1 k2 y118 (wrap64 (x1_2 + 1)) x5_1 (2 + 1)) = some (r1, r2) := by first | (rw [hy118]; with_reducible exact H) | (have H2_ := (Option.bind_some _ _).symm.trans H; rw [hy118]; with_reducible exact H2_) | (have H2_ := (Option.bind_some _ _).symm.trans H; with_reducible exact H2_) | with_reducible exact H | (rw [hy118]; exact H) | exact H
     have Ny118 := aM58_ hy118
     clear hy118
     have H' := aM58_ H
     clear H
     have p15 : 0 ≤ (x5_1 : Int) := of_decide_eq_true q58x1_
     have q15 : (x5_1 : Int) < ((x0_2.length : Int) : Int) := of_decide_eq_true q58x1_
     obtain ⟨ce15, hcl15, hM15, hcc15, hfr15⟩ := Kd.R_elem HO_0.out z77 (x5_1 : Int) p15 q15
     obtain rfl := k77_openM hM15
     have hx15_0 : wr.cell? ⟨go5, (x5_1 : Int).toNat * 5, none⟩ = some (.int .i8 ((rd_T77 x0_2 x5_1).f0)) := hcc15 0 _ rfl
     have hx15_1 : wr.cell? ⟨go5, (x5_1 : Int).toNat * 5 + 1, none⟩ = some (.int .i8 ((rd_T77 x0_2 x5_1).f1)) := hcc15 1 _ rfl
     have hx15_2 : wr.cell? ⟨go5, (x5_1 : Int).toNat * 5 + 2, none⟩ = some (.int .i16 ((rd_T77 x0_2 x5_1).f2.f0)) := hcc15 2 _ rfl
     have hx15_3 : wr.cell? ⟨go5, (x5_1 : Int).toNat * 5 + 3, none⟩ = some (.int .i16 ((rd_T77 x0_2 x5_1).f2.f1)) := hcc15 3 _ rfl
     have hx15_4 : wr.cell? ⟨go5, (x5_1 : Int).toNat * 5 + 4, none⟩ = some (.int .i16 ((rd_T77 x0_2 x5_1).f2.f2)) := hcc15 4 _ rfl
     have hf15_0 : wr.frozen? ⟨go5, (x5_1 : Int).toNat * 5, none⟩ = false := hfr15 0
     have hf15_1 : wr.frozen? ⟨go5, (x5_1 : Int).toNat * 5 + 1, none⟩ = false := hfr15 1
     have hf15_2 : wr.frozen? ⟨go5, (x5_1 : Int).toNat * 5 + 2, none⟩ = false := hfr15 2
     have hf15_3 : wr.frozen? ⟨go5, (x5_1 : Int).toNat * 5 + 3, none⟩ = false := hfr15 3
     have hf15_4 : wr.frozen? ⟨go5, (x5_1 : Int).toNat * 5 + 4, none⟩ = false := hfr15 4
     clear hcl15 hcc15 hfr15 hM15
     replace p15 := eq_true p15
     replace q15 := eq_true q15
     have HX23 := aM58_ (show Kd.R k77 77 wr w0.heap.size (fun k_ => (P0_ k_ ∨ w.heap.size ≤ k_)) (.slice (some ⟨go5, 0, none⟩) x0_2.length co7) x0_2 from q58x4_)
     obtain ⟨ce23, hcl23, hM23, hcc23, hfr23⟩ := Kd.R_elem HX23.out z77 (x5_1 : Int) (of_decide_eq_true q58x1_) (by have h_ : (x5_1 : Int) < ((x0_2.length : Int) : Int) := of_decide_eq_true q58x1_; first | exact h_ | (have e_ := (Kd.R_reads' HO_0.out).1; omega) | simpa using h_)
     obtain rfl := k77_openM hM23
     have HP23 := Kd.R_seg HX23.out (x5_1 : Int) (of_decide_eq_true q58x1_) (by have h_ : (x5_1 : Int) < ((x0_2.length : Int) : Int) := of_decide_eq_true q58x1_; first | exact h_ | (have e_ := (Kd.R_reads' HO_0.out).1; omega) | simpa using h_) (seg := [.int .i16 (IntKind.i16.wrap (x1_2))]) (j := 4) hcl23 hcc23 (show 5 ≤ 5 from by decide) (x' := (⟨(rd_T77 x0_2 x5_1).f0, (rd_T77 x0_2 x5_1).f1, (⟨(rd_T77 x0_2 x5_1).f2.f0, (rd_T77 x0_2 x5_1).f2.f1, IntKind.i16.wrap (x1_2)⟩ : S75)⟩ : S77)) (k77_mkM _ _ _ (⟨(rd_T77 x0_2 x5_1).f0, (rd_T77 x0_2 x5_1).f1, (⟨(rd_T77 x0_2 x5_1).f2.f0, (rd_T77 x0_2 x5_1).f2.f1, IntKind.i16.wrap (x1_2)⟩ : S75)⟩ : S77) ) (fun _ hk => hk)
     have hx23_4 := hcc23 4 _ rfl
     (try simp only [show (k77).sz = 5 from rfl, Nat.mul_one, Nat.add_zero] at hx23_4)
     have hf23_4 := hfr23 4
     (try simp only [show (k77).sz = 5 from rfl, Nat.mul_one, Nat.add_zero] at hf23_4)
     clear hcl23 hcc23 hfr23 hM23
     go_wp2_with (first | ((with_reducible refine gate_store (t := 74) (p := 40) rfl ?_); refine store_event (t := 74) (p := 40) (v := ?vo_w24) (w1 := (wr.setCell ⟨go5, (x5_1 : Int).toNat * 5 + 4, none⟩ (.int .i16 (IntKind.i16.wrap (x1_2))))) ?hg ?ho ?hn ?hr ?_; (case ho => rfl); (case hg => rfl); (case hn => rfl); (case hr => first | (go_simp; done) | (go_simp; rfl)); intro w24 hw; have hg : wr.grownBy w24 (some go5) := (by rw [hw]; exact HP23.2); have hp_ : Kd.R k77 77 w24 w0.heap.size (fun k_ => (P0_ k_ ∨ w.heap.size ≤ k_)) (.slice (some ⟨go5, 0, none⟩) x0_2.length co7) y118 := (by rw [hw, Ny118.out]; exact HP23.1); clear HP23; have n0_ := aM58_ (hp_); have n1_ := aM58_ ((q58x5_ : Below w0.heap.size w0 w24)); have n2_ := aM58_ (Kept.of_grown (S := (fun k_ => P0_ k_)) hg q58x2_ (fun k_ e_ => (HO_0.out.1 k_ e_))); clear HO_0; clear HB; clear HK; have HO_0 := n0_; have HB := n1_; have HK := n2_; clear n0_ n1_ n2_; clear hg hw hp_))
     (try simp only [← hl0_2])
     go_roundg k2
     case measure => have := HK1.out; have := HK2.out; omega
     case rel => exact ⟨(y118), (wrap64 (x1_2 + 1)), (2 + 1), q58x3_, q58x3_, H', ⟨by have := HK1.out; have := HK2.out; omega⟩, ⟨by (try simp only [hl0_2]); (with_reducible repeat (first | apply Kd.R_alloc | apply Kd.R_drewN | apply Kd.R_drew)); exact HO_0.out⟩, ⟨by repeat (first | (with_reducible first | exact HK.out | apply Kept.alloc | apply Kept.drewN | apply Kept.drew) | exact HK.out)⟩, ⟨by repeat (first | (with_reducible first | exact HB.out | apply below_alloc | apply pw_below_drewN | apply below_drew1) | exact HB.out)⟩⟩
/-! ### laws_markTree: function 18 -/
def laws_markTree.f (k : Nat) (l0_0 : List (S77)) (a1 : Int) : Option (Int × (List (S77))) := (laws_markForkS.f k l0_0 a1).bind fun bt120 => (some (bt120.1, bt120.2))
theorem laws_markTree.mono : ∀ a0 a1 k, LeO (laws_markTree.f k a0 a1) (laws_markTree.f (k + 1) a0 a1) := by
  intro a0 a1 k
  unfold laws_markTree.f
  repeat' first
      | (with_reducible exact laws_markForkS.mono _ _ _)
      | (with_reducible exact LeO.refl _)
      | (with_reducible exact LeO.none _)
      | (with_reducible refine LeO.ite ?_ ?_)
      | (with_reducible refine LeO.bind ?_ (fun _ => ?_))
      | exact laws_markForkS.mono _ _ _
      | exact LeO.none _
      | refine LeO.ite ?_ ?_
      | refine LeO.bind ?_ (fun _ => ?_)
set_option maxHeartbeats 8000000 in
set_option maxRecDepth 100000 in
theorem laws_markTree.calls (k : Nat) (P0_0_ : Nat → Prop) (u9000_ : Value) (l0_0 : List (S77)) (a1 : Int) (r1 : Int) (r2 : List (S77)) (w0 w : World) (hB : Below w0.heap.size w0 w) (ho0_0 : Kd.R k77 77 w w0.heap.size P0_0_ u9000_ l0_0) (h : laws_markTree.f k l0_0 a1 = some (r1, r2)) :
    Calls Try.prog 18 #[.agg #[u9000_], .int .i64 a1] w fun e w' => e = .returned (.int .i64 r1) ∧ Kd.R k77 77 w' w0.heap.size (fun k_ => (P0_0_ k_ ∨ w.heap.size ≤ k_)) u9000_ r2 ∧ Below w0.heap.size w0 w' ∧ Kept w w' (fun k_ => P0_0_ k_) := by
  have hu24 := Try.underlying24
  have HO0_0 := Aside0.mk (show Kd.R k77 77 w w0.heap.size (fun k_ => (P0_0_ k_ ∨ w.heap.size ≤ k_)) u9000_ l0_0 from Kd.R_mono ho0_0 (fun k_ hk => (.inl hk)))
  have HK := Aside0.mk (Kept.refl w (fun k_ => P0_0_ k_))
  have HW0 := Aside0.mk hB.size
  have HB := Aside0.mk hB
  clear hB
  have H : ((laws_markForkS.f k l0_0 a1).bind fun bt120 => (some (bt120.1, bt120.2))) = some (r1, r2) := h
  clear h
  replace H := Option.bind_eq_some_iff.mp H
  obtain ⟨⟨t120, t121⟩, A30, H⟩ := H
  replace H : (some (t120, t121)) = some (r1, r2) := H
  have A3 := Aside0.mk A30
  clear A30
  simp only [Option.some.injEq, Prod.mk.injEq] at H
  obtain ⟨rfl, rfl⟩ := H
  obtain ⟨Ao4, co4, eo4⟩ := Kd.R_slice HO0_0.out
  subst eo4
  go_enter Try.func18, Try.ntmps18
  go_wp2_with (first | ((with_reducible refine gate_dst (N := 2) rfl ?_); refine box_event ?hg (N := 2) ?hd (cs := #[.slice Ao4 l0_0.length co4]) (t := 24) ?hr ?_; (case hd => rfl); (case hg => rfl); (case hr => first | (go_simp; done) | (go_simp; rfl)); intro gb119 hg w5 hbox hb; have n0_ := Aside0.mk (Kd.R_below (by (with_reducible repeat (first | apply Kd.R_alloc | apply Kd.R_drewN | apply Kd.R_drew)); exact HO0_0.out) hb); have n1_ := Aside0.mk (Kept.below (S := (fun k_ => P0_0_ k_)) (by repeat (first | (with_reducible first | exact HK.out | apply Kept.alloc | apply Kept.drewN | apply Kept.drew) | exact HK.out)) hb); have n2_ := Aside0.mk (below_step (by repeat (first | (with_reducible first | exact HB.out | apply below_alloc | apply pw_below_drewN | apply below_drew1) | exact HB.out)) hb); have n3_ := Aside0.mk (hbox); have n4_ := Aside0.mk ((by rw [hg]; exact (by first | exact HK.out.1 | exact (show Kept w _ (fun k_ => P0_0_ k_) from by repeat (first | (with_reducible first | exact HK.out | apply Kept.alloc | apply Kept.drewN | apply Kept.drew) | exact HK.out)).1) : w.heap.size ≤ gb119)); have n5_ := Aside0.mk ((by rw [hg]; exact (below_size (by repeat (first | (with_reducible first | exact HB.out | apply below_alloc | apply pw_below_drewN | apply below_drew1) | exact HB.out))) : w0.heap.size ≤ gb119)); clear HO0_0; clear HK; clear HB; have HO0_0 := n0_; have HK := n1_; have HB := n2_; have BK119 := n3_; have GW119 := n4_; have GE119 := n5_; clear n0_ n1_ n2_ n3_ n4_ n5_; clear hb hbox hg; have hcz6_0 : w5.cell? ⟨gb119, 0, none⟩ = some (.slice Ao4 l0_0.length co4) := (blk_cell BK119.out 0).trans rfl; have hfz6_0 := blk_frozen BK119.out 0) | ((with_reducible refine gate_callee (f := 58) rfl ?_); refine goesL_ (some 8) rfl rfl Try.func58 (by kernel_rfl) rfl #[.slice Ao4 l0_0.length co4, .int .i64 a1] rfl (by (try simp only [List.map_toArray, List.map_cons, List.map_nil]); first | done | rfl | (simp only [List.length_drop, List.length_take]; rfl)) ?_; (with_reducible refine (laws_markForkS.calls k (fun k_ => some k_ = (.slice Ao4 l0_0.length co4 : Value).ownBlock) (.slice Ao4 l0_0.length co4) l0_0 a1 t120 t121 w0 _ ?side1 ?side2 A3.out).mono ?_); (case side1 => repeat (first | (with_reducible first | exact HB.out | apply below_alloc | apply pw_below_drewN | apply below_drew1 | refine below_set ?_ GE119.out) | exact HB.out)); (case side2 => exact Kd.R_tight rfl HO0_0.out); rintro e w7 ⟨rfl, hy0, hb, hkp⟩; refine ⟨_, rfl, ?_⟩; have n0_ := Aside0.mk (Kd.R_reok rfl hy0 (fun k_ e_ => HO0_0.out.1 k_ e_)); have n1_ := Aside0.mk (blk_kept (by (with_reducible repeat (first | refine blk_drewN ?_ _ | refine blk_drew ?_ | refine blk_alloc ?_ _)); exact BK119.out) hkp (fun hs_ => (fun e_ => (Kd.R_ne HO0_0.out BK119.out (by decide)) e_) hs_)); have n2_ := Aside0.mk (Kept.then_ (S := (fun k_ => P0_0_ k_)) (by repeat (first | (with_reducible first | exact HK.out | apply Kept.alloc | apply Kept.drewN | apply Kept.drew | refine Kept.setCell ?_ (.inr GW119.out) _) | exact HK.out)) hkp (fun k_ hs_ => (fun e_ => (HO0_0.out.1 k_ e_.symm)) hs_)); have n3_ := Aside0.mk (hb); clear HO0_0; clear BK119; clear HK; clear HB; have HO0_0 := n0_; have BK119 := n1_; have HK := n2_; have HB := n3_; clear n0_ n1_ n2_ n3_; (try clear hb); (try clear hkp); (try clear hy0)))
  go_ret
  exact ⟨by first | rfl | (simp [errW_none, errW_some] <;> rfl) | (simp [*, errW_none, errW_some] <;> rfl), by (with_reducible repeat (first | apply Kd.R_alloc | apply Kd.R_drewN | apply Kd.R_drew)); exact HO0_0.out, by repeat (first | (with_reducible first | exact HB.out | apply below_alloc | apply pw_below_drewN | apply below_drew1 | refine below_set ?_ GE119.out) | exact HB.out), by repeat (first | (with_reducible first | exact HK.out | apply Kept.alloc | apply Kept.drewN | apply Kept.drew | refine Kept.setCell ?_ (.inr GW119.out) _) | exact HK.out)⟩

set_option linter.defProp false

theorem q59x1_ {P : Prop} (h : P := by first | (with_reducible assumption) | assumption) : P := h
theorem q59x2_ {P : Prop} (h : P := by first | rfl | (simp; done) | (simp [*]; done)) : P := h
/-! ### laws_heldForkS: function 59 -/
mutual
def laws_heldForkS.l0 : Nat → List (S77) → Int → Int → Option (Int)
 | 0, _, _, _ => none
 | k + 1, x0, x1, x5 => if x5 < (x0.length : Int) then (if 0 ≤ x5 then (if ((rd_T77 x0 x5).f0) = (IntKind.i8.wrap (x1)) then (if ((rd_T77 x0 x5).f1) = (IntKind.i8.wrap (wrap64 (x1 + 1))) then (laws_heldForkS.l1 k x0 (wrap64 ((wrap64 (x1 + 1)) + 1)) x5 0) else (some (-1))) else (some (-1))) else (none)) else (some x1)
def laws_heldForkS.l1 : Nat → List (S77) → Int → Int → Int → Option (Int)
 | 0, _, _, _, _ => none
 | k + 1, x0, x1, x5, x6 => if x6 < 3 then (if 0 ≤ x5 then (if x5 < (x0.length : Int) then (if x6 = 0 then (if ((rd_T77 x0 x5).f2.f0) = (IntKind.i16.wrap (x1)) then (laws_heldForkS.l1 k x0 (wrap64 (x1 + 1)) x5 (0 + 1)) else (some (-1))) else (if x6 = 1 then (if ((rd_T77 x0 x5).f2.f1) = (IntKind.i16.wrap (x1)) then (laws_heldForkS.l1 k x0 (wrap64 (x1 + 1)) x5 (1 + 1)) else (some (-1))) else (if x6 = 2 then (if ((rd_T77 x0 x5).f2.f2) = (IntKind.i16.wrap (x1)) then (laws_heldForkS.l1 k x0 (wrap64 (x1 + 1)) x5 (2 + 1)) else (some (-1))) else (none)))) else (none)) else (none)) else (laws_heldForkS.l0 k x0 x1 (wrap64 (x5 + 1)))
end
def laws_heldForkS.f (k : Nat) (l0 : List (S77)) (a1 : Int) : Option (Int) := laws_heldForkS.l0 k l0 a1 0
theorem laws_heldForkS.mono_l : ∀ k, (∀ y0 y1 y2, LeO (laws_heldForkS.l0 k y0 y1 y2) (laws_heldForkS.l0 (k + 1) y0 y1 y2)) ∧ (∀ y0 y1 y2 y3, LeO (laws_heldForkS.l1 k y0 y1 y2 y3) (laws_heldForkS.l1 (k + 1) y0 y1 y2 y3))
 | 0 => ⟨fun _ _ _ r h => by simp [laws_heldForkS.l0] at h, fun _ _ _ _ r h => by simp [laws_heldForkS.l1] at h⟩
 | k + 1 => by
  obtain ⟨ih0, ih1⟩ := laws_heldForkS.mono_l k
  refine ⟨?_, ?_⟩
  ·intro y0 y1 y2
   unfold laws_heldForkS.l0
   repeat' first
   | (with_reducible exact ih0 _ _ _)
   | (with_reducible exact ih1 _ _ _ _)
   | (with_reducible exact LeO.refl _)
   | (with_reducible exact LeO.none _)
   | (with_reducible refine LeO.ite ?_ ?_)
   | (with_reducible refine LeO.bind ?_ (fun _ => ?_))
   | exact ih0 _ _ _
   | exact ih1 _ _ _ _
   | exact LeO.none _
   | refine LeO.ite ?_ ?_
   | refine LeO.bind ?_ (fun _ => ?_)
  intro y0 y1 y2 y3
  unfold laws_heldForkS.l1
  repeat' first
  | (with_reducible exact ih0 _ _ _)
  | (with_reducible exact ih1 _ _ _ _)
  | (with_reducible exact LeO.refl _)
  | (with_reducible exact LeO.none _)
  | (with_reducible refine LeO.ite ?_ ?_)
  | (with_reducible refine LeO.bind ?_ (fun _ => ?_))
  | exact ih0 _ _ _
  | exact ih1 _ _ _ _
  | exact LeO.none _
  | refine LeO.ite ?_ ?_
  | refine LeO.bind ?_ (fun _ => ?_)
theorem laws_heldForkS.mono : ∀ a0 a1 k, LeO (laws_heldForkS.f k a0 a1) (laws_heldForkS.f (k + 1) a0 a1) := by
 intro a0 a1 k
 obtain ⟨ih0, ih1⟩ := laws_heldForkS.mono_l k
 unfold laws_heldForkS.f
 repeat' first
   | (with_reducible exact ih0 _ _ _)
   | (with_reducible exact ih1 _ _ _ _)
   | (with_reducible exact LeO.refl _)
   | (with_reducible exact LeO.none _)
   | (with_reducible refine LeO.ite ?_ ?_)
   | (with_reducible refine LeO.bind ?_ (fun _ => ?_))
   | exact ih0 _ _ _
   | exact ih1 _ _ _ _
   | exact LeO.none _
   | refine LeO.ite ?_ ?_
   | refine LeO.bind ?_ (fun _ => ?_)
set_option maxHeartbeats 8000000 in
set_option maxRecDepth 100000 in
theorem laws_heldForkS.calls (k : Nat) (A0 : Option Addr) (c0 : Nat) (l0 : List (S77)) (a1 : Int) (r : Int) (w : World) (hr0 : Kd.C k77 w A0 l0.length l0) (hc0 : l0.length ≤ c0) (h : laws_heldForkS.f k l0 a1 = some r) :
  Calls Try.prog 59 #[.slice A0 l0.length c0, .int .i64 a1] w fun e w' => e = .returned (.int .i64 r) ∧ Drawn0 w w' := by
 have HR0 := Aside0.mk hr0
 have HC0 := Aside0.mk hc0
 clear hr0 hc0
 have H : (laws_heldForkS.l0 k l0 a1 0) = some r := h
 clear h
 have H' := Aside0.mk H
 clear H
 go_enter Try.func59, Try.ntmps59
 go_wp2
 go_loopg [1, 5] k (fun kq v1 v5 w' => ∃ (x1_1 : Int) (x5_1 : Int), v1 = .int .i64 x1_1 ∧ v5 = .int .i64 x5_1 ∧ Aside0 (laws_heldForkS.l0 kq l0 x1_1 x5_1 = some r) ∧ Aside0 (kq ≤ k) ∧ Drawn0 w w')
 case atStart => exact ⟨(a1), (0), q59x2_, q59x2_, H', ⟨Nat.le_refl _⟩, by repeat (first | exact Drawn0.refl _ | apply Drawn0.step)⟩
 case round =>
  clear H'
  try clear p2
  obtain ⟨x1_1, x5_1, rfl, rfl, HA, HK1, ⟨m1, rfl⟩⟩ := hrel
  cases gk with
  | zero => exact absurd HA.out (by simp [laws_heldForkS.l0])
  | succ k1 =>
   have H := HA.out
   clear HA
   simp only [laws_heldForkS.l0] at H
   by_cases c3 : x5_1 < (l0.length : Int)
   rotate_left
   ·rw [if_neg c3] at H
    have c3b0 : decide (x5_1 < (l0.length : Int)) = false := decide_eq_false c3
    clear c3
    obtain rfl := Option.some.inj H
    go_wp2
    go_ret
    exact ⟨by first | rfl | (simp; done) | (simp [*]; done), by repeat (first | exact Drawn0.refl _ | apply Drawn0.step)⟩

   rw [if_pos c3] at H
   have c3b0 : decide (x5_1 < (l0.length : Int)) = true := decide_eq_true c3
   clear c3
   by_cases c4 : 0 ≤ x5_1
   rotate_left
   ·rw [if_neg c4] at H
    exact absurd H (by simp)
   rw [if_pos c4] at H
   have c4b0 : decide (0 ≤ x5_1) = true := decide_eq_true c4
   clear c4
   by_cases c5 : ((rd_T77 l0 x5_1).f0) = (IntKind.i8.wrap (x1_1))
   rotate_left
   ·rw [if_neg c5] at H
    have c5b0 : (((rd_T77 l0 x5_1).f0) == (IntKind.i8.wrap (x1_1))) = false := beq_eq_false_iff_ne.mpr c5
    have c5b1 : (((rd_T77 l0 x5_1).f0) != (IntKind.i8.wrap (x1_1))) = true := bne_iff_ne.mpr c5
    obtain rfl := Option.some.inj H
    have p122 : 0 ≤ (x5_1 : Int) := of_decide_eq_true q59x1_
    have q122 : x5_1 < (l0.length : Int) := of_decide_eq_true q59x1_
    obtain ⟨ad122, e122, hx122_0, hx122_1, hx122_2, hx122_3, hx122_4⟩ := at_T77 HR0.out x5_1 p122 q122
    cases e122
    replace p122 := eq_true p122
    replace q122 := eq_true q122
    go_wp2
    go_ret
    exact ⟨by first | rfl | (simp; done) | (simp [*]; done), by repeat (first | exact Drawn0.refl _ | apply Drawn0.step)⟩
   rw [if_pos c5] at H
   have c5b0 : (((rd_T77 l0 x5_1).f0) == (IntKind.i8.wrap (x1_1))) = true := beq_iff_eq.mpr c5
   have c5b1 : (((rd_T77 l0 x5_1).f0) != (IntKind.i8.wrap (x1_1))) = false := bne_eq_false_iff_eq.mpr c5
   clear c5
   by_cases c6 : ((rd_T77 l0 x5_1).f1) = (IntKind.i8.wrap (wrap64 (x1_1 + 1)))
   rotate_left
   ·rw [if_neg c6] at H
    have c6b0 : (((rd_T77 l0 x5_1).f1) == (IntKind.i8.wrap (wrap64 (x1_1 + 1)))) = false := beq_eq_false_iff_ne.mpr c6
    have c6b1 : (((rd_T77 l0 x5_1).f1) != (IntKind.i8.wrap (wrap64 (x1_1 + 1)))) = true := bne_iff_ne.mpr c6
    obtain rfl := Option.some.inj H
    have p122 : 0 ≤ (x5_1 : Int) := of_decide_eq_true q59x1_
    have q122 : x5_1 < (l0.length : Int) := of_decide_eq_true q59x1_
    obtain ⟨ad122, e122, hx122_0, hx122_1, hx122_2, hx122_3, hx122_4⟩ := at_T77 HR0.out x5_1 p122 q122
    cases e122
    replace p122 := eq_true p122
    replace q122 := eq_true q122
    have p123 : 0 ≤ (x5_1 : Int) := of_decide_eq_true q59x1_
    have q123 : x5_1 < (l0.length : Int) := of_decide_eq_true q59x1_
    obtain ⟨ad123, e123, hx123_0, hx123_1, hx123_2, hx123_3, hx123_4⟩ := at_T77 HR0.out x5_1 p123 q123
    obtain rfl : ad122 = ad123 := (by injection e123)
    replace p123 := eq_true p123
    replace q123 := eq_true q123
    go_wp2
    go_ret
    exact ⟨by first | rfl | (simp; done) | (simp [*]; done), by repeat (first | exact Drawn0.refl _ | apply Drawn0.step)⟩
   rw [if_pos c6] at H
   have c6b0 : (((rd_T77 l0 x5_1).f1) == (IntKind.i8.wrap (wrap64 (x1_1 + 1)))) = true := beq_iff_eq.mpr c6
   have c6b1 : (((rd_T77 l0 x5_1).f1) != (IntKind.i8.wrap (wrap64 (x1_1 + 1)))) = false := bne_eq_false_iff_eq.mpr c6
   clear c6
   have H' := Aside0.mk H
   clear H
   have p122 : 0 ≤ (x5_1 : Int) := of_decide_eq_true q59x1_
   have q122 : x5_1 < (l0.length : Int) := of_decide_eq_true q59x1_
   obtain ⟨ad122, e122, hx122_0, hx122_1, hx122_2, hx122_3, hx122_4⟩ := at_T77 HR0.out x5_1 p122 q122
   cases e122
   replace p122 := eq_true p122
   replace q122 := eq_true q122
   have p123 : 0 ≤ (x5_1 : Int) := of_decide_eq_true q59x1_
   have q123 : x5_1 < (l0.length : Int) := of_decide_eq_true q59x1_
   obtain ⟨ad123, e123, hx123_0, hx123_1, hx123_2, hx123_3, hx123_4⟩ := at_T77 HR0.out x5_1 p123 q123
   obtain rfl : ad122 = ad123 := (by injection e123)
   replace p123 := eq_true p123
   replace q123 := eq_true q123
   go_wp2
   go_loopg [1, 6] k1 (fun kq v1 v6 w' => ∃ (x1_2 : Int) (x6_2 : Int), v1 = .int .i64 x1_2 ∧ v6 = .int .i64 x6_2 ∧ Aside0 (laws_heldForkS.l1 kq l0 x1_2 x5_1 x6_2 = some r) ∧ Aside0 (kq ≤ k1) ∧ Drawn0 w w')
   case atStart => exact ⟨(wrap64 ((wrap64 (x1_1 + 1)) + 1)), (0), q59x2_, q59x2_, H', ⟨Nat.le_refl _⟩, by repeat (first | exact Drawn0.refl _ | apply Drawn0.step)⟩
   case round =>
    clear H'
    try clear p1
    try clear q1
    try clear hx1
    try clear p2
    try clear c3
    try clear c3b0
    try clear c4
    try clear c4b0
    try clear c5
    try clear c5b0
    try clear c5b1
    try clear c6
    try clear c6b0
    try clear c6b1
    try clear p6
    try clear hx122_0
    try clear hx122_1
    try clear hx122_2
    try clear hx122_3
    try clear hx122_4
    try clear hx123_0
    try clear hx123_1
    try clear hx123_2
    try clear hx123_3
    try clear hx123_4
    try clear p122
    try clear p123
    try clear p2
    try clear q122
    try clear q123
    obtain ⟨x1_2, x6_2, rfl, rfl, HA, HK2, ⟨m2, rfl⟩⟩ := hrel
    cases gk with
    | zero => exact absurd HA.out (by simp [laws_heldForkS.l1])
    | succ k2 =>
     have H := HA.out
     clear HA
     simp only [laws_heldForkS.l1] at H
     by_cases c7 : x6_2 < 3
     rotate_left
     ·rw [if_neg c7] at H
      have c7b0 : decide (x6_2 < 3) = false := decide_eq_false c7
      clear c7
      have H' := Aside0.mk H
      clear H
      go_wp2
      go_roundg k2
      case measure => have := HK1.out; have := HK2.out; omega
      case rel => exact ⟨(x1_2), (wrap64 (x5_1 + 1)), q59x2_, q59x2_, H', ⟨by have := HK1.out; have := HK2.out; omega⟩, by repeat (first | exact Drawn0.refl _ | apply Drawn0.step)⟩
     rw [if_pos c7] at H
     have c7b0 : decide (x6_2 < 3) = true := decide_eq_true c7
     clear c7
     by_cases c8 : 0 ≤ x5_1
     rotate_left
     ·rw [if_neg c8] at H
      exact absurd H (by simp)
     rw [if_pos c8] at H
     have c8b0 : decide (0 ≤ x5_1) = true := decide_eq_true c8
     clear c8
     by_cases c9 : x5_1 < (l0.length : Int)
     rotate_left
     ·rw [if_neg c9] at H
      exact absurd H (by simp)
     rw [if_pos c9] at H
     have c9b0 : decide (x5_1 < (l0.length : Int)) = true := decide_eq_true c9
     clear c9
     by_cases c10 : x6_2 = 0
     ·subst c10
      have H1 : (if ((rd_T77 l0 x5_1).f2.f0) = (IntKind.i16.wrap (x1_2)) then (laws_heldForkS.l1 k2 l0 (wrap64 (x1_2 + 1)) x5_1 (0 + 1)) else (some (-1))) = some r := by rw [if_pos rfl] at H; exact H
      clear H
      have H := H1
      clear H1
      by_cases c11 : ((rd_T77 l0 x5_1).f2.f0) = (IntKind.i16.wrap (x1_2))
      ·rw [if_pos c11] at H
       have c11b0 : (((rd_T77 l0 x5_1).f2.f0) == (IntKind.i16.wrap (x1_2))) = true := beq_iff_eq.mpr c11
       have c11b1 : (((rd_T77 l0 x5_1).f2.f0) != (IntKind.i16.wrap (x1_2))) = false := bne_eq_false_iff_eq.mpr c11
       clear c11
       have H' := Aside0.mk H
       clear H
       have p124 : 0 ≤ (x5_1 : Int) := of_decide_eq_true q59x1_
       have q124 : x5_1 < (l0.length : Int) := of_decide_eq_true q59x1_
       obtain ⟨ad124, e124, hx124_0, hx124_1, hx124_2, hx124_3, hx124_4⟩ := at_T77 HR0.out x5_1 p124 q124
       obtain rfl : ad122 = ad124 := (by injection e124)
       replace p124 := eq_true p124
       replace q124 := eq_true q124
       go_wp2
       go_roundg k2
       case measure => have := HK1.out; have := HK2.out; omega
       case rel => exact ⟨(wrap64 (x1_2 + 1)), (0 + 1), q59x2_, q59x2_, H', ⟨by have := HK1.out; have := HK2.out; omega⟩, by repeat (first | exact Drawn0.refl _ | apply Drawn0.step)⟩
      rw [if_neg c11] at H
      have c11b0 : (((rd_T77 l0 x5_1).f2.f0) == (IntKind.i16.wrap (x1_2))) = false := beq_eq_false_iff_ne.mpr c11
      have c11b1 : (((rd_T77 l0 x5_1).f2.f0) != (IntKind.i16.wrap (x1_2))) = true := bne_iff_ne.mpr c11
      obtain rfl := Option.some.inj H
      have p124 : 0 ≤ (x5_1 : Int) := of_decide_eq_true q59x1_
      have q124 : x5_1 < (l0.length : Int) := of_decide_eq_true q59x1_
      obtain ⟨ad124, e124, hx124_0, hx124_1, hx124_2, hx124_3, hx124_4⟩ := at_T77 HR0.out x5_1 p124 q124
      obtain rfl : ad122 = ad124 := (by injection e124)
      replace p124 := eq_true p124
      replace q124 := eq_true q124
      go_wp2
      go_ret
      exact ⟨by first | rfl | (simp; done) | (simp [*]; done), by repeat (first | exact Drawn0.refl _ | apply Drawn0.step)⟩
     rw [if_neg c10] at H
     by_cases c12 : x6_2 = 1
     ·subst c12
      have H1 : (if ((rd_T77 l0 x5_1).f2.f1) = (IntKind.i16.wrap (x1_2)) then (laws_heldForkS.l1 k2 l0 (wrap64 (x1_2 + 1)) x5_1 (1 + 1)) else (some (-1))) = some r := by rw [if_pos rfl] at H; exact H
      clear H
      have H := H1
      clear H1
      by_cases c13 : ((rd_T77 l0 x5_1).f2.f1) = (IntKind.i16.wrap (x1_2))
      ·rw [if_pos c13] at H
       have c13b0 : (((rd_T77 l0 x5_1).f2.f1) == (IntKind.i16.wrap (x1_2))) = true := beq_iff_eq.mpr c13
       have c13b1 : (((rd_T77 l0 x5_1).f2.f1) != (IntKind.i16.wrap (x1_2))) = false := bne_eq_false_iff_eq.mpr c13
       clear c13
       have H' := Aside0.mk H
       clear H
       have p124 : 0 ≤ (x5_1 : Int) := of_decide_eq_true q59x1_
       have q124 : x5_1 < (l0.length : Int) := of_decide_eq_true q59x1_
       obtain ⟨ad124, e124, hx124_0, hx124_1, hx124_2, hx124_3, hx124_4⟩ := at_T77 HR0.out x5_1 p124 q124
       obtain rfl : ad122 = ad124 := (by injection e124)
       replace p124 := eq_true p124
       replace q124 := eq_true q124
       go_wp2
       go_roundg k2
       case measure => have := HK1.out; have := HK2.out; omega
       case rel => exact ⟨(wrap64 (x1_2 + 1)), (1 + 1), q59x2_, q59x2_, H', ⟨by have := HK1.out; have := HK2.out; omega⟩, by repeat (first | exact Drawn0.refl _ | apply Drawn0.step)⟩
      rw [if_neg c13] at H
      have c13b0 : (((rd_T77 l0 x5_1).f2.f1) == (IntKind.i16.wrap (x1_2))) = false := beq_eq_false_iff_ne.mpr c13
      have c13b1 : (((rd_T77 l0 x5_1).f2.f1) != (IntKind.i16.wrap (x1_2))) = true := bne_iff_ne.mpr c13
      obtain rfl := Option.some.inj H
      have p124 : 0 ≤ (x5_1 : Int) := of_decide_eq_true q59x1_
      have q124 : x5_1 < (l0.length : Int) := of_decide_eq_true q59x1_
      obtain ⟨ad124, e124, hx124_0, hx124_1, hx124_2, hx124_3, hx124_4⟩ := at_T77 HR0.out x5_1 p124 q124
      obtain rfl : ad122 = ad124 := (by injection e124)
      replace p124 := eq_true p124
      replace q124 := eq_true q124
      go_wp2
      go_ret
      exact ⟨by first | rfl | (simp; done) | (simp [*]; done), by repeat (first | exact Drawn0.refl _ | apply Drawn0.step)⟩
     rw [if_neg c12] at H
     by_cases c14 : x6_2 = 2
     rotate_left
     ·rw [if_neg c14] at H
      exact absurd H (by simp)
     subst c14
     have H1 : (if ((rd_T77 l0 x5_1).f2.f2) = (IntKind.i16.wrap (x1_2)) then (laws_heldForkS.l1 k2 l0 (wrap64 (x1_2 + 1)) x5_1 (2 + 1)) else (some (-1))) = some r := by rw [if_pos rfl] at H; exact H
     clear H
     have H := H1
     clear H1
     by_cases c15 : ((rd_T77 l0 x5_1).f2.f2) = (IntKind.i16.wrap (x1_2))
     ·rw [if_pos c15] at H
      have c15b0 : (((rd_T77 l0 x5_1).f2.f2) == (IntKind.i16.wrap (x1_2))) = true := beq_iff_eq.mpr c15
      have c15b1 : (((rd_T77 l0 x5_1).f2.f2) != (IntKind.i16.wrap (x1_2))) = false := bne_eq_false_iff_eq.mpr c15
      clear c15
      have H' := Aside0.mk H
      clear H
      have p124 : 0 ≤ (x5_1 : Int) := of_decide_eq_true q59x1_
      have q124 : x5_1 < (l0.length : Int) := of_decide_eq_true q59x1_
      obtain ⟨ad124, e124, hx124_0, hx124_1, hx124_2, hx124_3, hx124_4⟩ := at_T77 HR0.out x5_1 p124 q124
      obtain rfl : ad122 = ad124 := (by injection e124)
      replace p124 := eq_true p124
      replace q124 := eq_true q124
      go_wp2
      go_roundg k2
      case measure => have := HK1.out; have := HK2.out; omega
      case rel => exact ⟨(wrap64 (x1_2 + 1)), (2 + 1), q59x2_, q59x2_, H', ⟨by have := HK1.out; have := HK2.out; omega⟩, by repeat (first | exact Drawn0.refl _ | apply Drawn0.step)⟩
     rw [if_neg c15] at H
     have c15b0 : (((rd_T77 l0 x5_1).f2.f2) == (IntKind.i16.wrap (x1_2))) = false := beq_eq_false_iff_ne.mpr c15
     have c15b1 : (((rd_T77 l0 x5_1).f2.f2) != (IntKind.i16.wrap (x1_2))) = true := bne_iff_ne.mpr c15
     obtain rfl := Option.some.inj H
     have p124 : 0 ≤ (x5_1 : Int) := of_decide_eq_true q59x1_
     have q124 : x5_1 < (l0.length : Int) := of_decide_eq_true q59x1_
     obtain ⟨ad124, e124, hx124_0, hx124_1, hx124_2, hx124_3, hx124_4⟩ := at_T77 HR0.out x5_1 p124 q124
     obtain rfl : ad122 = ad124 := (by injection e124)
     replace p124 := eq_true p124
     replace q124 := eq_true q124
     go_wp2
     go_ret
     exact ⟨by first | rfl | (simp; done) | (simp [*]; done), by repeat (first | exact Drawn0.refl _ | apply Drawn0.step)⟩
/-! ### laws_heldTree: function 19 -/
def laws_heldTree.f (k : Nat) (l0_0 : List (S77)) (a1 : Int) : Option (Int) := (laws_heldForkS.f k l0_0 a1).bind fun t126 => (if t126 < 0 then (some (-1)) else (some t126))
theorem laws_heldTree.mono : ∀ a0 a1 k, LeO (laws_heldTree.f k a0 a1) (laws_heldTree.f (k + 1) a0 a1) := by
  intro a0 a1 k
  unfold laws_heldTree.f
  repeat' first
      | (with_reducible exact laws_heldForkS.mono _ _ _)
      | (with_reducible exact LeO.refl _)
      | (with_reducible exact LeO.none _)
      | (with_reducible refine LeO.ite ?_ ?_)
      | (with_reducible refine LeO.bind ?_ (fun _ => ?_))
      | exact laws_heldForkS.mono _ _ _
      | exact LeO.none _
      | refine LeO.ite ?_ ?_
      | refine LeO.bind ?_ (fun _ => ?_)
set_option maxHeartbeats 8000000 in
set_option maxRecDepth 100000 in
theorem laws_heldTree.calls (k : Nat) (A0_0 : Option Addr) (c0_0 : Nat) (l0_0 : List (S77)) (a1 : Int) (r : Int) (w : World) (hr0_0 : Kd.C k77 w A0_0 l0_0.length l0_0) (hc0_0 : l0_0.length ≤ c0_0) (h : laws_heldTree.f k l0_0 a1 = some r) :
    Calls Try.prog 19 #[.agg #[.slice A0_0 l0_0.length c0_0], .int .i64 a1] w fun e w' => e = .returned (.int .i64 r) ∧ Below w.heap.size w w' := by
  have hu24 := Try.underlying24
  have HR0_0 := Aside0.mk hr0_0
  have HC0_0 := Aside0.mk hc0_0
  clear hr0_0 hc0_0
  have HB := Aside0.mk (Below.refl w.heap.size w)
  have H : ((laws_heldForkS.f k l0_0 a1).bind fun t126 => (if t126 < 0 then (some (-1)) else (some t126))) = some r := h
  clear h
  replace H := Option.bind_eq_some_iff.mp H
  obtain ⟨t126, A30, H⟩ := H
  replace H : (if t126 < 0 then (some (-1)) else (some t126)) = some r := H
  have A3 := Aside0.mk A30
  clear A30
  by_cases c4 : t126 < 0
  · rw [if_pos c4] at H
    have c4b0 : decide (t126 < 0) = true := decide_eq_true c4
    clear c4
    obtain rfl := Option.some.inj H
    go_enter Try.func19, Try.ntmps19
    go_wp2_with (first | ((with_reducible refine gate_dst (N := 2) rfl ?_); refine box_event ?hg (N := 2) ?hd (cs := #[.slice A0_0 l0_0.length c0_0]) (t := 24) ?hr ?_; (case hd => rfl); (case hg => rfl); (case hr => first | (go_simp; done) | (go_simp; rfl)); intro gb125 hg w5 hbox hb; have n0_ := Aside0.mk (below_step (by repeat (first | (with_reducible first | exact HB.out | apply below_alloc | apply pw_below_drewN | apply below_drew1) | exact HB.out)) hb); have n1_ := Aside0.mk (hbox); have n2_ := Aside0.mk ((by rw [hg]; exact (below_size (by repeat (first | (with_reducible first | exact HB.out | apply below_alloc | apply pw_below_drewN | apply below_drew1) | exact HB.out))) : w.heap.size ≤ gb125)); have n3_ := Aside0.mk ((by rw [hg]; exact (below_size (by repeat (first | (with_reducible first | exact HB.out | apply below_alloc | apply pw_below_drewN | apply below_drew1) | exact HB.out))) : w.heap.size ≤ gb125)); clear HB; have HB := n0_; have BK125 := n1_; have GW125 := n2_; have GE125 := n3_; clear n0_ n1_ n2_ n3_; clear hb hbox hg; have hcz6_0 : w5.cell? ⟨gb125, 0, none⟩ = some (.slice A0_0 l0_0.length c0_0) := (blk_cell BK125.out 0).trans rfl; have hfz6_0 := blk_frozen BK125.out 0) | ((with_reducible refine gate_callee (f := 59) rfl ?_); refine goesL_ (some 8) rfl rfl Try.func59 (by kernel_rfl) rfl #[.slice A0_0 l0_0.length c0_0, .int .i64 a1] rfl (by (try simp only [List.map_toArray, List.map_cons, List.map_nil]); first | done | rfl | (simp only [List.length_drop, List.length_take]; rfl)) ?_; (with_reducible refine (laws_heldForkS.calls k _ _ l0_0 a1 t126 _ ?side1 ?side2 A3.out).mono ?_); (case side1 => repeat (first | exact (Kd.C_below HR0_0.out HB.out) | (with_reducible refine Kd.C_alloc ?_ _) | (with_reducible refine Kd.C_drewN ?_ _) | (with_reducible refine Kd.C_drew ?_))); (case side2 => exact HC0_0.out); rintro e w' ⟨rfl, ⟨nd, rfl⟩⟩; refine ⟨_, rfl, ?_⟩))
    go_ret
    exact ⟨by first | rfl | (simp [errW_none, errW_some] <;> rfl) | (simp [*, errW_none, errW_some] <;> rfl), by repeat (first | (with_reducible first | exact HB.out | apply below_alloc | apply pw_below_drewN | apply below_drew1 | refine below_set ?_ GE125.out) | exact HB.out)⟩
  · rw [if_neg c4] at H
    have c4b0 : decide (t126 < 0) = false := decide_eq_false c4
    clear c4
    obtain rfl := Option.some.inj H
    go_enter Try.func19, Try.ntmps19
    go_wp2_with (first | ((with_reducible refine gate_dst (N := 2) rfl ?_); refine box_event ?hg (N := 2) ?hd (cs := #[.slice A0_0 l0_0.length c0_0]) (t := 24) ?hr ?_; (case hd => rfl); (case hg => rfl); (case hr => first | (go_simp; done) | (go_simp; rfl)); intro gb125 hg w7 hbox hb; have n0_ := Aside0.mk (below_step (by repeat (first | (with_reducible first | exact HB.out | apply below_alloc | apply pw_below_drewN | apply below_drew1) | exact HB.out)) hb); have n1_ := Aside0.mk (hbox); have n2_ := Aside0.mk ((by rw [hg]; exact (below_size (by repeat (first | (with_reducible first | exact HB.out | apply below_alloc | apply pw_below_drewN | apply below_drew1) | exact HB.out))) : w.heap.size ≤ gb125)); have n3_ := Aside0.mk ((by rw [hg]; exact (below_size (by repeat (first | (with_reducible first | exact HB.out | apply below_alloc | apply pw_below_drewN | apply below_drew1) | exact HB.out))) : w.heap.size ≤ gb125)); clear HB; have HB := n0_; have BK125 := n1_; have GW125 := n2_; have GE125 := n3_; clear n0_ n1_ n2_ n3_; clear hb hbox hg; have hcz8_0 : w7.cell? ⟨gb125, 0, none⟩ = some (.slice A0_0 l0_0.length c0_0) := (blk_cell BK125.out 0).trans rfl; have hfz8_0 := blk_frozen BK125.out 0) | ((with_reducible refine gate_callee (f := 59) rfl ?_); refine goesL_ (some 8) rfl rfl Try.func59 (by kernel_rfl) rfl #[.slice A0_0 l0_0.length c0_0, .int .i64 a1] rfl (by (try simp only [List.map_toArray, List.map_cons, List.map_nil]); first | done | rfl | (simp only [List.length_drop, List.length_take]; rfl)) ?_; (with_reducible refine (laws_heldForkS.calls k _ _ l0_0 a1 t126 _ ?side1 ?side2 A3.out).mono ?_); (case side1 => repeat (first | exact (Kd.C_below HR0_0.out HB.out) | (with_reducible refine Kd.C_alloc ?_ _) | (with_reducible refine Kd.C_drewN ?_ _) | (with_reducible refine Kd.C_drew ?_))); (case side2 => exact HC0_0.out); rintro e w' ⟨rfl, ⟨nd, rfl⟩⟩; refine ⟨_, rfl, ?_⟩))
    go_ret
    exact ⟨by first | rfl | (simp [errW_none, errW_some] <;> rfl) | (simp [*, errW_none, errW_some] <;> rfl), by repeat (first | (with_reducible first | exact HB.out | apply below_alloc | apply pw_below_drewN | apply below_drew1 | refine below_set ?_ GE125.out) | exact HB.out)⟩

/-! ### laws_szForkS: function 60 -/
def laws_szForkS.f (l0 : List (S129)) (a1 : Int) : Option (Int) := if (wrap64 (a1 - (l0.length : Int))) < 0 then (some (-1)) else (some (wrap64 (a1 - (l0.length : Int))))
set_option maxHeartbeats 8000000 in
set_option maxRecDepth 100000 in
theorem laws_szForkS.calls (A0 : Option Addr) (c0 : Nat) (l0 : List (S129)) (a1 : Int) (r : Int) (w : World) (hr0 : Kd.C k129 w A0 l0.length l0) (hc0 : l0.length ≤ c0) (h : laws_szForkS.f l0 a1 = some r) :
    Calls Try.prog 60 #[.slice A0 l0.length c0, .int .i64 a1] w fun e w' => e = .returned (.int .i64 r) ∧ Drawn0 w w' := by
  have HR0 := Aside0.mk hr0
  have HC0 := Aside0.mk hc0
  clear hr0 hc0
  have H : (if (wrap64 (a1 - (l0.length : Int))) < 0 then (some (-1)) else (some (wrap64 (a1 - (l0.length : Int))))) = some r := h
  clear h
  by_cases c3 : (wrap64 (a1 - (l0.length : Int))) < 0
  · rw [if_pos c3] at H
    have c3b0 : decide ((wrap64 (a1 - (l0.length : Int))) < 0) = true := decide_eq_true c3
    clear c3
    obtain rfl := Option.some.inj H
    go_enter Try.func60, Try.ntmps60
    go_wp2
    go_ret
    exact ⟨by first | rfl | (simp; done) | (simp [*]; done), by repeat (first | exact Drawn0.refl _ | apply Drawn0.step)⟩
  · rw [if_neg c3] at H
    have c3b0 : decide ((wrap64 (a1 - (l0.length : Int))) < 0) = false := decide_eq_false c3
    clear c3
    obtain rfl := Option.some.inj H
    go_enter Try.func60, Try.ntmps60
    go_wp2
    go_ret
    exact ⟨by first | rfl | (simp; done) | (simp [*]; done), by repeat (first | exact Drawn0.refl _ | apply Drawn0.step)⟩

/-! ### laws_szTree: function 24 -/
def laws_szTree.f (l0_0 : List (S129)) (a1 : Int) : Option (Int) := (laws_szForkS.f l0_0 a1).bind fun t128 => (if t128 < 0 then (some (-1)) else (some t128))
set_option maxHeartbeats 8000000 in
set_option maxRecDepth 100000 in
theorem laws_szTree.calls (A0_0 : Option Addr) (c0_0 : Nat) (l0_0 : List (S129)) (a1 : Int) (r : Int) (w : World) (hr0_0 : Kd.C k129 w A0_0 l0_0.length l0_0) (hc0_0 : l0_0.length ≤ c0_0) (h : laws_szTree.f l0_0 a1 = some r) :
    Calls Try.prog 24 #[.agg #[.slice A0_0 l0_0.length c0_0], .int .i64 a1] w fun e w' => e = .returned (.int .i64 r) ∧ Below w.heap.size w w' := by
  have hu31 := Try.underlying31
  have HR0_0 := Aside0.mk hr0_0
  have HC0_0 := Aside0.mk hc0_0
  clear hr0_0 hc0_0
  have HB := Aside0.mk (Below.refl w.heap.size w)
  have H : ((laws_szForkS.f l0_0 a1).bind fun t128 => (if t128 < 0 then (some (-1)) else (some t128))) = some r := h
  clear h
  replace H := Option.bind_eq_some_iff.mp H
  obtain ⟨t128, A30, H⟩ := H
  replace H : (if t128 < 0 then (some (-1)) else (some t128)) = some r := H
  have A3 := Aside0.mk A30
  clear A30
  by_cases c4 : t128 < 0
  · rw [if_pos c4] at H
    have c4b0 : decide (t128 < 0) = true := decide_eq_true c4
    clear c4
    obtain rfl := Option.some.inj H
    go_enter Try.func24, Try.ntmps24
    go_wp2_with (first | ((with_reducible refine gate_dst (N := 2) rfl ?_); refine box_event ?hg (N := 2) ?hd (cs := #[.slice A0_0 l0_0.length c0_0]) (t := 31) ?hr ?_; (case hd => rfl); (case hg => rfl); (case hr => first | (go_simp; done) | (go_simp; rfl)); intro gb127 hg w5 hbox hb; have n0_ := Aside0.mk (below_step (by repeat (first | (with_reducible first | exact HB.out | apply below_alloc | apply pw_below_drewN | apply below_drew1) | exact HB.out)) hb); have n1_ := Aside0.mk (hbox); have n2_ := Aside0.mk ((by rw [hg]; exact (below_size (by repeat (first | (with_reducible first | exact HB.out | apply below_alloc | apply pw_below_drewN | apply below_drew1) | exact HB.out))) : w.heap.size ≤ gb127)); have n3_ := Aside0.mk ((by rw [hg]; exact (below_size (by repeat (first | (with_reducible first | exact HB.out | apply below_alloc | apply pw_below_drewN | apply below_drew1) | exact HB.out))) : w.heap.size ≤ gb127)); clear HB; have HB := n0_; have BK127 := n1_; have GW127 := n2_; have GE127 := n3_; clear n0_ n1_ n2_ n3_; clear hb hbox hg; have hcz6_0 : w5.cell? ⟨gb127, 0, none⟩ = some (.slice A0_0 l0_0.length c0_0) := (blk_cell BK127.out 0).trans rfl; have hfz6_0 := blk_frozen BK127.out 0) | ((with_reducible refine gate_callee (f := 60) rfl ?_); refine goesL_ (some 8) rfl rfl Try.func60 (by kernel_rfl) rfl #[.slice A0_0 l0_0.length c0_0, .int .i64 a1] rfl (by (try simp only [List.map_toArray, List.map_cons, List.map_nil]); first | done | rfl | (simp only [List.length_drop, List.length_take]; rfl)) ?_; (with_reducible refine (laws_szForkS.calls _ _ l0_0 a1 t128 _ ?side1 ?side2 A3.out).mono ?_); (case side1 => repeat (first | exact (Kd.C_below HR0_0.out HB.out) | (with_reducible refine Kd.C_alloc ?_ _) | (with_reducible refine Kd.C_drewN ?_ _) | (with_reducible refine Kd.C_drew ?_))); (case side2 => exact HC0_0.out); rintro e w' ⟨rfl, ⟨nd, rfl⟩⟩; refine ⟨_, rfl, ?_⟩))
    go_ret
    exact ⟨by first | rfl | (simp [errW_none, errW_some] <;> rfl) | (simp [*, errW_none, errW_some] <;> rfl), by repeat (first | (with_reducible first | exact HB.out | apply below_alloc | apply pw_below_drewN | apply below_drew1 | refine below_set ?_ GE127.out) | exact HB.out)⟩
  · rw [if_neg c4] at H
    have c4b0 : decide (t128 < 0) = false := decide_eq_false c4
    clear c4
    obtain rfl := Option.some.inj H
    go_enter Try.func24, Try.ntmps24
    go_wp2_with (first | ((with_reducible refine gate_dst (N := 2) rfl ?_); refine box_event ?hg (N := 2) ?hd (cs := #[.slice A0_0 l0_0.length c0_0]) (t := 31) ?hr ?_; (case hd => rfl); (case hg => rfl); (case hr => first | (go_simp; done) | (go_simp; rfl)); intro gb127 hg w7 hbox hb; have n0_ := Aside0.mk (below_step (by repeat (first | (with_reducible first | exact HB.out | apply below_alloc | apply pw_below_drewN | apply below_drew1) | exact HB.out)) hb); have n1_ := Aside0.mk (hbox); have n2_ := Aside0.mk ((by rw [hg]; exact (below_size (by repeat (first | (with_reducible first | exact HB.out | apply below_alloc | apply pw_below_drewN | apply below_drew1) | exact HB.out))) : w.heap.size ≤ gb127)); have n3_ := Aside0.mk ((by rw [hg]; exact (below_size (by repeat (first | (with_reducible first | exact HB.out | apply below_alloc | apply pw_below_drewN | apply below_drew1) | exact HB.out))) : w.heap.size ≤ gb127)); clear HB; have HB := n0_; have BK127 := n1_; have GW127 := n2_; have GE127 := n3_; clear n0_ n1_ n2_ n3_; clear hb hbox hg; have hcz8_0 : w7.cell? ⟨gb127, 0, none⟩ = some (.slice A0_0 l0_0.length c0_0) := (blk_cell BK127.out 0).trans rfl; have hfz8_0 := blk_frozen BK127.out 0) | ((with_reducible refine gate_callee (f := 60) rfl ?_); refine goesL_ (some 8) rfl rfl Try.func60 (by kernel_rfl) rfl #[.slice A0_0 l0_0.length c0_0, .int .i64 a1] rfl (by (try simp only [List.map_toArray, List.map_cons, List.map_nil]); first | done | rfl | (simp only [List.length_drop, List.length_take]; rfl)) ?_; (with_reducible refine (laws_szForkS.calls _ _ l0_0 a1 t128 _ ?side1 ?side2 A3.out).mono ?_); (case side1 => repeat (first | exact (Kd.C_below HR0_0.out HB.out) | (with_reducible refine Kd.C_alloc ?_ _) | (with_reducible refine Kd.C_drewN ?_ _) | (with_reducible refine Kd.C_drew ?_))); (case side2 => exact HC0_0.out); rintro e w' ⟨rfl, ⟨nd, rfl⟩⟩; refine ⟨_, rfl, ?_⟩))
    go_ret
    exact ⟨by first | rfl | (simp [errW_none, errW_some] <;> rfl) | (simp [*, errW_none, errW_some] <;> rfl), by repeat (first | (with_reducible first | exact HB.out | apply below_alloc | apply pw_below_drewN | apply below_drew1 | refine below_set ?_ GE127.out) | exact HB.out)⟩

end Go.Proofs.Ytlccefmimpmgjaa.MFnExactReachedTree
