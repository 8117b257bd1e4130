/- Functions of the program as Lean functions, and the proof that the code comes to what they say. Written by a program of this session (myprint.py). -/
import Derived.Test.YtfenifdigjcmiaaMFnExactStreamTreex0
namespace Go.Proofs.Ytfenifdigjcmiaa.MFnExactStreamTree
open Go.RowKit Go.Proofs.Ytfenifdigjcmiaa.MOpen Go.Proofs.YtfenifdigjcmiaaW.PrintWords Go.Proofs.YtfenifdigjcmiaaW.PrintLast Go.Proofs.YtfenifdigjcmiaaW.PrintMore
attribute [local go_sem] max2_int min2_int max_two min_two max_three min_three max_four min_four   -- for this text's walks alone
set_option linter.unusedVariables false
set_option linter.unusedSimpArgs false

/-! ### laws_markForkS: function 75 -/
mutual
def laws_markForkS.l0 : Nat → List (S104) → Int → Int → Option (Int × (List (S104)))
  | 0, _, _, _ => none
  | k + 1, x0, x1, x5 => if x5 < (x0.length : Int) then (if 0 ≤ x5 then ((some (x0.set (x5 : Int).toNat (⟨IntKind.i8.wrap (x1), (rd_T104 x0 x5).f1, (⟨(rd_T104 x0 x5).f2.f0, (rd_T104 x0 x5).f2.f1, (rd_T104 x0 x5).f2.f2⟩ : S102)⟩ : S104) : List (S104))).bind fun y205 => (laws_markForkS.l1 k (y205.set (x5 : Int).toNat (⟨(rd_T104 y205 x5).f0, IntKind.i8.wrap (wrap64 (x1 + 1)), (⟨(rd_T104 y205 x5).f2.f0, (rd_T104 y205 x5).f2.f1, (rd_T104 y205 x5).f2.f2⟩ : S102)⟩ : S104)) (wrap64 ((wrap64 (x1 + 1)) + 1)) x5 0)) else (none)) else (some (x1, x0))
def laws_markForkS.l1 : Nat → List (S104) → Int → Int → Int → Option (Int × (List (S104)))
  | 0, _, _, _, _ => none
  | k + 1, x0, x1, x5, x6 => if x6 < 3 then (if 0 ≤ x5 then (if x5 < (x0.length : Int) then (if x6 = 0 then (laws_markForkS.l1 k (x0.set (x5 : Int).toNat (⟨(rd_T104 x0 x5).f0, (rd_T104 x0 x5).f1, (⟨IntKind.i16.wrap (x1), (rd_T104 x0 x5).f2.f1, (rd_T104 x0 x5).f2.f2⟩ : S102)⟩ : S104)) (wrap64 (x1 + 1)) x5 (0 + 1)) else (if x6 = 1 then (laws_markForkS.l1 k (x0.set (x5 : Int).toNat (⟨(rd_T104 x0 x5).f0, (rd_T104 x0 x5).f1, (⟨(rd_T104 x0 x5).f2.f0, IntKind.i16.wrap (x1), (rd_T104 x0 x5).f2.f2⟩ : S102)⟩ : S104)) (wrap64 (x1 + 1)) x5 (1 + 1)) else (if x6 = 2 then (laws_markForkS.l1 k (x0.set (x5 : Int).toNat (⟨(rd_T104 x0 x5).f0, (rd_T104 x0 x5).f1, (⟨(rd_T104 x0 x5).f2.f0, (rd_T104 x0 x5).f2.f1, IntKind.i16.wrap (x1)⟩ : S102)⟩ : S104)) (wrap64 (x1 + 1)) x5 (2 + 1)) else (none)))) else (none)) else (none)) else (laws_markForkS.l0 k x0 x1 (wrap64 (x5 + 1)))
end
def laws_markForkS.f (k : Nat) (l0 : List (S104)) (a1 : Int) : Option (Int × (List (S104))) := laws_markForkS.l0 k l0 a1 0
theorem laws_markForkS.mono_l : ∀ k, (∀ y0 y1 y2, LeO (laws_markForkS.l0 k y0 y1 y2) (laws_markForkS.l0 (k + 1) y0 y1 y2)) ∧ (∀ y0 y1 y2 y3, LeO (laws_markForkS.l1 k y0 y1 y2 y3) (laws_markForkS.l1 (k + 1) y0 y1 y2 y3))
  | 0 => ⟨fun _ _ _ r h => by simp [laws_markForkS.l0] at h, fun _ _ _ _ r h => by simp [laws_markForkS.l1] at h⟩
  | k + 1 => by
    obtain ⟨ih0, ih1⟩ := laws_markForkS.mono_l k
    refine ⟨?_, ?_⟩
    · intro y0 y1 y2
      unfold laws_markForkS.l0
      repeat' first
      | (with_reducible exact ih0 _ _ _)
      | (with_reducible exact ih1 _ _ _ _)
      | (with_reducible exact LeO.refl _)
      | (with_reducible exact LeO.none _)
      | (with_reducible refine LeO.ite ?_ ?_)
      | (with_reducible refine LeO.bind ?_ (fun _ => ?_))
      | exact ih0 _ _ _
      | exact ih1 _ _ _ _
      | exact LeO.none _
      | refine LeO.ite ?_ ?_
      | refine LeO.bind ?_ (fun _ => ?_)
    · intro y0 y1 y2 y3
      unfold laws_markForkS.l1
      repeat' first
      | (with_reducible exact ih0 _ _ _)
      | (with_reducible exact ih1 _ _ _ _)
      | (with_reducible exact LeO.refl _)
      | (with_reducible exact LeO.none _)
      | (with_reducible refine LeO.ite ?_ ?_)
      | (with_reducible refine LeO.bind ?_ (fun _ => ?_))
      | exact ih0 _ _ _
      | exact ih1 _ _ _ _
      | exact LeO.none _
      | refine LeO.ite ?_ ?_
      | refine LeO.bind ?_ (fun _ => ?_)
theorem laws_markForkS.mono : ∀ a0 a1 k, LeO (laws_markForkS.f k a0 a1) (laws_markForkS.f (k + 1) a0 a1) := by
  intro a0 a1 k
  obtain ⟨ih0, ih1⟩ := laws_markForkS.mono_l k
  unfold laws_markForkS.f
  repeat' first
      | (with_reducible exact ih0 _ _ _)
      | (with_reducible exact ih1 _ _ _ _)
      | (with_reducible exact LeO.refl _)
      | (with_reducible exact LeO.none _)
      | (with_reducible refine LeO.ite ?_ ?_)
      | (with_reducible refine LeO.bind ?_ (fun _ => ?_))
      | exact ih0 _ _ _
      | exact ih1 _ _ _ _
      | exact LeO.none _
      | refine LeO.ite ?_ ?_
      | refine LeO.bind ?_ (fun _ => ?_)
set_option maxHeartbeats 8000000 in
set_option maxRecDepth 100000 in
theorem laws_markForkS.calls (k : Nat) (P0_ : Nat → Prop) (u9000_ : Value) (l0 : List (S104)) (a1 : Int) (r1 : Int) (r2 : List (S104)) (w0 w : World) (hB : Below w0.heap.size w0 w) (ho0 : Kd.R k104 104 w w0.heap.size P0_ u9000_ l0) (h : laws_markForkS.f k l0 a1 = some (r1, r2)) :
    Calls Try.prog 75 #[u9000_, .int .i64 a1] w fun e w' => e = .returned (.int .i64 r1) ∧ Kd.R k104 104 w' w0.heap.size (fun k_ => (P0_ k_ ∨ w.heap.size ≤ k_)) u9000_ r2 ∧ Below w0.heap.size w0 w' ∧ Kept w w' (fun k_ => P0_ k_) := by
  have HO0 := Aside0.mk (show Kd.R k104 104 w w0.heap.size (fun k_ => (P0_ k_ ∨ w.heap.size ≤ k_)) u9000_ l0 from Kd.R_mono ho0 (fun k_ hk => (.inl hk)))
  have HK := Aside0.mk (Kept.refl w (fun k_ => P0_ k_))
  have HW0 := Aside0.mk hB.size
  have HB := Aside0.mk hB
  clear hB
  have H : (laws_markForkS.l0 k l0 a1 0) = some (r1, r2) := h
  clear h
  have H' := Aside0.mk H
  clear H
  go_enter Try.func75, Try.ntmps75
  go_wp2
  go_loopg [1, 5] k (fun kq v1 v5 w' => ∃ (x0_1 : List (S104)) (x1_1 : Int) (x5_1 : Int), v1 = .int .i64 x1_1 ∧ v5 = .int .i64 x5_1 ∧ Aside0 (laws_markForkS.l0 kq x0_1 x1_1 x5_1 = some (r1, r2)) ∧ Aside0 (kq ≤ k) ∧ Aside0 (Kd.R k104 104 w' w0.heap.size (fun k_ => (P0_ k_ ∨ w.heap.size ≤ k_)) u9000_ x0_1) ∧ Aside0 (Kept w w' (fun k_ => P0_ k_)) ∧ Aside0 (Below w0.heap.size w0 w'))
  case atStart => exact ⟨(l0), (a1), (0), (by first | rfl | (simp; done) | (simp [*]; done)), (by first | rfl | (simp; done) | (simp [*]; done)), H', ⟨Nat.le_refl _⟩, ⟨by (with_reducible repeat (first | apply Kd.R_alloc | apply Kd.R_drewN | apply Kd.R_drew)); exact HO0.out⟩, ⟨by repeat (first | (with_reducible first | exact HK.out | apply Kept.alloc | apply Kept.drewN | apply Kept.drew) | exact HK.out)⟩, ⟨by repeat (first | (with_reducible first | exact HB.out | apply below_alloc | apply pw_below_drewN | apply below_drew1) | exact HB.out)⟩⟩
  case round =>
    clear H'
    try clear p2
    obtain ⟨x0_1, x1_1, x5_1, rfl, rfl, HA, HK1, HO_0, HK, HB⟩ := hrel
    cases gk with
    | zero => exact absurd HA.out (by simp [laws_markForkS.l0])
    | succ k1 =>
      have H := HA.out
      clear HA
      simp only [laws_markForkS.l0] at H
      by_cases c3 : x5_1 < (x0_1.length : Int)
      · rw [if_pos c3] at H
        have c3b0 : decide (x5_1 < (x0_1.length : Int)) = true := decide_eq_true c3
        clear c3
        by_cases c4 : 0 ≤ x5_1
        · rw [if_pos c4] at H
          have c4b0 : decide (0 ≤ x5_1) = true := decide_eq_true c4
          clear c4
          obtain ⟨y205, hy205⟩ : ∃ y_ : List (S104), y_ = (x0_1.set (x5_1 : Int).toNat (⟨IntKind.i8.wrap (x1_1), (rd_T104 x0_1 x5_1).f1, (⟨(rd_T104 x0_1 x5_1).f2.f0, (rd_T104 x0_1 x5_1).f2.f1, (rd_T104 x0_1 x5_1).f2.f2⟩ : S102)⟩ : S104)) := ⟨_, rfl⟩
          replace H : (laws_markForkS.l1 k1 (y205.set (x5_1 : Int).toNat (⟨(rd_T104 y205 x5_1).f0, IntKind.i8.wrap (wrap64 (x1_1 + 1)), (⟨(rd_T104 y205 x5_1).f2.f0, (rd_T104 y205 x5_1).f2.f1, (rd_T104 y205 x5_1).f2.f2⟩ : S102)⟩ : S104)) (wrap64 ((wrap64 (x1_1 + 1)) + 1)) x5_1 0) = some (r1, r2) := by first | (rw [hy205]; with_reducible exact H) | (have H2_ := (Option.bind_some _ _).symm.trans H; rw [hy205]; with_reducible exact H2_) | (have H2_ := (Option.bind_some _ _).symm.trans H; with_reducible exact H2_) | with_reducible exact H | (rw [hy205]; exact H) | exact H
          have Ny205 := Aside0.mk hy205
          clear hy205
          obtain ⟨y206, hy206⟩ : ∃ y_ : List (S104), y_ = (y205.set (x5_1 : Int).toNat (⟨(rd_T104 y205 x5_1).f0, IntKind.i8.wrap (wrap64 (x1_1 + 1)), (⟨(rd_T104 y205 x5_1).f2.f0, (rd_T104 y205 x5_1).f2.f1, (rd_T104 y205 x5_1).f2.f2⟩ : S102)⟩ : S104)) := ⟨_, rfl⟩
          replace H : (laws_markForkS.l1 k1 y206 (wrap64 ((wrap64 (x1_1 + 1)) + 1)) x5_1 0) = some (r1, r2) := by first | (rw [hy206]; with_reducible exact H) | (have H2_ := (Option.bind_some _ _).symm.trans H; rw [hy206]; with_reducible exact H2_) | (have H2_ := (Option.bind_some _ _).symm.trans H; with_reducible exact H2_) | with_reducible exact H | (rw [hy206]; exact H) | exact H
          have Ny206 := Aside0.mk hy206
          clear hy206
          have H' := Aside0.mk H
          clear H
          obtain ⟨Ao7, co7, eo7⟩ := Kd.R_slice HO_0.out
          subst eo7
          have p5 : 0 ≤ (x5_1 : Int) := of_decide_eq_true (by first | (with_reducible assumption) | assumption)
          have q5 : (x5_1 : Int) < ((x0_1.length : Int) : Int) := of_decide_eq_true (by first | (with_reducible assumption) | assumption)
          obtain ⟨go5, co5, eo5, gb5, gl5, cl5, HG5⟩ := Kd.R_form HO_0.out (by omega)
          (first | cases eo5 | (injection eo5 with ea_ en_ ec_; (first | subst ea_ | (injection ea_ with ea_; subst ea_)); subst ec_; clear en_))
          have GB5 := Aside0.mk gb5
          have GG5 := Aside0.mk HG5
          clear gb5 gl5 HG5
          have HMgo5 := Aside0.mk (show (P0_ go5 ∨ w.heap.size ≤ go5) from (HO_0.out.1 _ rfl))
          obtain ⟨ce5, hcl5, hM5, hcc5, hfr5⟩ := Kd.R_elem HO_0.out z104 (x5_1 : Int) p5 q5
          obtain rfl := k104_openM hM5
          have hx5_0 : wr.cell? ⟨go5, (x5_1 : Int).toNat * 5, none⟩ = some (.int .i8 ((rd_T104 x0_1 x5_1).f0)) := hcc5 0 _ rfl
          have hx5_1 : wr.cell? ⟨go5, (x5_1 : Int).toNat * 5 + 1, none⟩ = some (.int .i8 ((rd_T104 x0_1 x5_1).f1)) := hcc5 1 _ rfl
          have hx5_2 : wr.cell? ⟨go5, (x5_1 : Int).toNat * 5 + 2, none⟩ = some (.int .i16 ((rd_T104 x0_1 x5_1).f2.f0)) := hcc5 2 _ rfl
          have hx5_3 : wr.cell? ⟨go5, (x5_1 : Int).toNat * 5 + 3, none⟩ = some (.int .i16 ((rd_T104 x0_1 x5_1).f2.f1)) := hcc5 3 _ rfl
          have hx5_4 : wr.cell? ⟨go5, (x5_1 : Int).toNat * 5 + 4, none⟩ = some (.int .i16 ((rd_T104 x0_1 x5_1).f2.f2)) := hcc5 4 _ rfl
          have hf5_0 : wr.frozen? ⟨go5, (x5_1 : Int).toNat * 5, none⟩ = false := hfr5 0
          have hf5_1 : wr.frozen? ⟨go5, (x5_1 : Int).toNat * 5 + 1, none⟩ = false := hfr5 1
          have hf5_2 : wr.frozen? ⟨go5, (x5_1 : Int).toNat * 5 + 2, none⟩ = false := hfr5 2
          have hf5_3 : wr.frozen? ⟨go5, (x5_1 : Int).toNat * 5 + 3, none⟩ = false := hfr5 3
          have hf5_4 : wr.frozen? ⟨go5, (x5_1 : Int).toNat * 5 + 4, none⟩ = false := hfr5 4
          clear hcl5 hcc5 hfr5 hM5
          replace p5 := eq_true p5
          replace q5 := eq_true q5
          have HX8 := Aside0.mk (show Kd.R k104 104 wr w0.heap.size (fun k_ => (P0_ k_ ∨ w.heap.size ≤ k_)) (.slice (some ⟨go5, 0, none⟩) x0_1.length co7) x0_1 from (by (with_reducible repeat (first | apply Kd.R_alloc | apply Kd.R_drewN | apply Kd.R_drew)); exact HO_0.out))
          obtain ⟨ce8, hcl8, hM8, hcc8, hfr8⟩ := Kd.R_elem HX8.out z104 (x5_1 : Int) (of_decide_eq_true (by first | (with_reducible assumption) | assumption)) (by have h_ : (x5_1 : Int) < ((x0_1.length : Int) : Int) := of_decide_eq_true (by first | (with_reducible assumption) | assumption); first | exact h_ | (have e_ := (Kd.R_reads' HO_0.out).1; omega) | simpa using h_)
          obtain rfl := k104_openM hM8
          have HP8 := Kd.R_seg HX8.out (x5_1 : Int) (of_decide_eq_true (by first | (with_reducible assumption) | assumption)) (by have h_ : (x5_1 : Int) < ((x0_1.length : Int) : Int) := of_decide_eq_true (by first | (with_reducible assumption) | assumption); first | exact h_ | (have e_ := (Kd.R_reads' HO_0.out).1; omega) | simpa using h_) (seg := [.int .i8 (IntKind.i8.wrap (x1_1))]) (j := 0) hcl8 hcc8 (show 1 ≤ 5 from by decide) (x' := (⟨IntKind.i8.wrap (x1_1), (rd_T104 x0_1 x5_1).f1, (⟨(rd_T104 x0_1 x5_1).f2.f0, (rd_T104 x0_1 x5_1).f2.f1, (rd_T104 x0_1 x5_1).f2.f2⟩ : S102)⟩ : S104)) (k104_mkM _ _ _ (⟨IntKind.i8.wrap (x1_1), (rd_T104 x0_1 x5_1).f1, (⟨(rd_T104 x0_1 x5_1).f2.f0, (rd_T104 x0_1 x5_1).f2.f1, (rd_T104 x0_1 x5_1).f2.f2⟩ : S102)⟩ : S104) ) (fun _ hk => hk)
          have hx8_0 := hcc8 0 _ rfl
          (try simp only [show (k104).sz = 5 from rfl, Nat.mul_one, Nat.add_zero] at hx8_0)
          have hf8_0 := hfr8 0
          (try simp only [show (k104).sz = 5 from rfl, Nat.mul_one, Nat.add_zero] at hf8_0)
          clear hcl8 hcc8 hfr8 hM8
          go_wp2_with (first | ((with_reducible refine gate_store (t := 69) (p := 18) rfl ?_); refine store_event (t := 69) (p := 18) (v := ?vo_w9) (w1 := (wr.setCell ⟨go5, (x5_1 : Int).toNat * 5, none⟩ (.int .i8 (IntKind.i8.wrap (x1_1))))) ?hg ?ho ?hn ?hr ?_; (case ho => rfl); (case hg => rfl); (case hn => rfl); (case hr => first | (go_simp; done) | (go_simp; rfl)); intro w9 hw; have hg : wr.grownBy w9 (some go5) := (by rw [hw]; exact HP8.2); have hp_ : Kd.R k104 104 w9 w0.heap.size (fun k_ => (P0_ k_ ∨ w.heap.size ≤ k_)) (.slice (some ⟨go5, 0, none⟩) x0_1.length co7) y205 := (by rw [hw, Ny205.out]; exact HP8.1); clear HP8; have n0_ := Aside0.mk (hp_); have n1_ := Aside0.mk ((by rw [hw]; exact below_set (HB.out) GB5.out : Below w0.heap.size w0 w9)); have n2_ := Aside0.mk (Kept.of_grown (S := (fun k_ => P0_ k_)) hg (by repeat (first | (with_reducible first | exact HK.out | apply Kept.alloc | apply Kept.drewN | apply Kept.drew) | exact HK.out)) (fun k_ e_ => (HO_0.out.1 k_ e_))); clear HO_0; clear HB; clear HK; have HO_0 := n0_; have HB := n1_; have HK := n2_; clear n0_ n1_ n2_; clear hg hw hp_; have p6 : 0 ≤ (x5_1 : Int) := of_decide_eq_true (by first | (with_reducible assumption) | assumption); have q6 : (x5_1 : Int) < ((x0_1.length : Int) : Int) := of_decide_eq_true (by first | (with_reducible assumption) | assumption); obtain ⟨ce6, hcl6, hM6, hcc6, hfr6⟩ := Kd.R_elem HO_0.out z104 (x5_1 : Int) p6 q6; obtain rfl := k104_openM hM6; have hx6_0 : w9.cell? ⟨go5, (x5_1 : Int).toNat * 5, none⟩ = some (.int .i8 ((rd_T104 y205 x5_1).f0)) := hcc6 0 _ rfl; have hx6_1 : w9.cell? ⟨go5, (x5_1 : Int).toNat * 5 + 1, none⟩ = some (.int .i8 ((rd_T104 y205 x5_1).f1)) := hcc6 1 _ rfl; have hx6_2 : w9.cell? ⟨go5, (x5_1 : Int).toNat * 5 + 2, none⟩ = some (.int .i16 ((rd_T104 y205 x5_1).f2.f0)) := hcc6 2 _ rfl; have hx6_3 : w9.cell? ⟨go5, (x5_1 : Int).toNat * 5 + 3, none⟩ = some (.int .i16 ((rd_T104 y205 x5_1).f2.f1)) := hcc6 3 _ rfl; have hx6_4 : w9.cell? ⟨go5, (x5_1 : Int).toNat * 5 + 4, none⟩ = some (.int .i16 ((rd_T104 y205 x5_1).f2.f2)) := hcc6 4 _ rfl; have hf6_0 : w9.frozen? ⟨go5, (x5_1 : Int).toNat * 5, none⟩ = false := hfr6 0; have hf6_1 : w9.frozen? ⟨go5, (x5_1 : Int).toNat * 5 + 1, none⟩ = false := hfr6 1; have hf6_2 : w9.frozen? ⟨go5, (x5_1 : Int).toNat * 5 + 2, none⟩ = false := hfr6 2; have hf6_3 : w9.frozen? ⟨go5, (x5_1 : Int).toNat * 5 + 3, none⟩ = false := hfr6 3; have hf6_4 : w9.frozen? ⟨go5, (x5_1 : Int).toNat * 5 + 4, none⟩ = false := hfr6 4; clear hcl6 hcc6 hfr6 hM6; replace p6 := eq_true p6; replace q6 := eq_true q6; have HX10 := Aside0.mk (show Kd.R k104 104 w9 w0.heap.size (fun k_ => (P0_ k_ ∨ w.heap.size ≤ k_)) (.slice (some ⟨go5, 0, none⟩) x0_1.length co7) y205 from (by (with_reducible repeat (first | apply Kd.R_alloc | apply Kd.R_drewN | apply Kd.R_drew)); exact HO_0.out)); obtain ⟨ce10, hcl10, hM10, hcc10, hfr10⟩ := Kd.R_elem HX10.out z104 (x5_1 : Int) (of_decide_eq_true (by first | (with_reducible assumption) | assumption)) (by have h_ : (x5_1 : Int) < ((x0_1.length : Int) : Int) := of_decide_eq_true (by first | (with_reducible assumption) | assumption); first | exact h_ | (have e_ := (Kd.R_reads' HO_0.out).1; omega) | simpa using h_); obtain rfl := k104_openM hM10; have HP10 := Kd.R_seg HX10.out (x5_1 : Int) (of_decide_eq_true (by first | (with_reducible assumption) | assumption)) (by have h_ : (x5_1 : Int) < ((x0_1.length : Int) : Int) := of_decide_eq_true (by first | (with_reducible assumption) | assumption); first | exact h_ | (have e_ := (Kd.R_reads' HO_0.out).1; omega) | simpa using h_) (seg := [.int .i8 (IntKind.i8.wrap (wrap64 (x1_1 + 1)))]) (j := 1) hcl10 hcc10 (show 2 ≤ 5 from by decide) (x' := (⟨(rd_T104 y205 x5_1).f0, IntKind.i8.wrap (wrap64 (x1_1 + 1)), (⟨(rd_T104 y205 x5_1).f2.f0, (rd_T104 y205 x5_1).f2.f1, (rd_T104 y205 x5_1).f2.f2⟩ : S102)⟩ : S104)) (k104_mkM _ _ _ (⟨(rd_T104 y205 x5_1).f0, IntKind.i8.wrap (wrap64 (x1_1 + 1)), (⟨(rd_T104 y205 x5_1).f2.f0, (rd_T104 y205 x5_1).f2.f1, (rd_T104 y205 x5_1).f2.f2⟩ : S102)⟩ : S104) ) (fun _ hk => hk); have hx10_1 := hcc10 1 _ rfl; (try simp only [show (k104).sz = 5 from rfl, Nat.mul_one, Nat.add_zero] at hx10_1); have hf10_1 := hfr10 1; (try simp only [show (k104).sz = 5 from rfl, Nat.mul_one, Nat.add_zero] at hf10_1); clear hcl10 hcc10 hfr10 hM10) | ((with_reducible refine gate_store (t := 69) (p := 26) rfl ?_); refine store_event (t := 69) (p := 26) (v := ?vo_w11) (w1 := (w9.setCell ⟨go5, (x5_1 : Int).toNat * 5 + 1, none⟩ (.int .i8 (IntKind.i8.wrap (wrap64 (x1_1 + 1)))))) ?hg ?ho ?hn ?hr ?_; (case ho => rfl); (case hg => rfl); (case hn => rfl); (case hr => first | (go_simp; done) | (go_simp; rfl)); intro w11 hw; have hg : w9.grownBy w11 (some go5) := (by rw [hw]; exact HP10.2); have hp_ : Kd.R k104 104 w11 w0.heap.size (fun k_ => (P0_ k_ ∨ w.heap.size ≤ k_)) (.slice (some ⟨go5, 0, none⟩) x0_1.length co7) y206 := (by rw [hw, Ny206.out]; exact HP10.1); clear HP10; have n0_ := Aside0.mk (hp_); have n1_ := Aside0.mk ((by rw [hw]; exact below_set (HB.out) GB5.out : Below w0.heap.size w0 w11)); have n2_ := Aside0.mk (Kept.of_grown (S := (fun k_ => P0_ k_)) hg (by repeat (first | (with_reducible first | exact HK.out | apply Kept.alloc | apply Kept.drewN | apply Kept.drew) | exact HK.out)) (fun k_ e_ => (HO_0.out.1 k_ e_))); clear HO_0; clear HB; clear HK; have HO_0 := n0_; have HB := n1_; have HK := n2_; clear n0_ n1_ n2_; clear hg hw hp_))
          go_loopg [1, 6] k1 (fun kq v1 v6 w' => ∃ (x0_2 : List (S104)) (x1_2 : Int) (x6_2 : Int), v1 = .int .i64 x1_2 ∧ v6 = .int .i64 x6_2 ∧ Aside0 (laws_markForkS.l1 kq x0_2 x1_2 x5_1 x6_2 = some (r1, r2)) ∧ Aside0 (kq ≤ k1) ∧ Aside0 (Kd.R k104 104 w' w0.heap.size (fun k_ => (P0_ k_ ∨ w.heap.size ≤ k_)) (.slice (some ⟨go5, 0, none⟩) x0_1.length co7) x0_2) ∧ Aside0 (Kept w w' (fun k_ => P0_ k_)) ∧ Aside0 (Below w0.heap.size w0 w'))
          case atStart => exact ⟨(y206), (wrap64 ((wrap64 (x1_1 + 1)) + 1)), (0), (by first | rfl | (simp; done) | (simp [*]; done)), (by first | rfl | (simp; done) | (simp [*]; done)), H', ⟨Nat.le_refl _⟩, ⟨by (with_reducible repeat (first | apply Kd.R_alloc | apply Kd.R_drewN | apply Kd.R_drew)); exact HO_0.out⟩, ⟨by repeat (first | (with_reducible first | exact HK.out | apply Kept.alloc | apply Kept.drewN | apply Kept.drew) | exact HK.out)⟩, ⟨by repeat (first | (with_reducible first | exact HB.out | apply below_alloc | apply pw_below_drewN | apply below_drew1) | exact HB.out)⟩⟩
          case round =>
            clear H'
            try clear c1
            try clear hx1
            try clear p2
            try clear c3
            try clear c3b0
            try clear c4
            try clear c4b0
            try clear c5
            try clear p5
            try clear q5
            try clear hx5
            try clear hf5
            try clear c6
            try clear p6
            try clear q6
            try clear hx6
            try clear hf6
            try clear c7
            try clear c8
            try clear hx8
            try clear hf8
            try clear c10
            try clear hx10
            try clear hf10
            try clear hx10_1
            try clear hx5_0
            try clear hx5_1
            try clear hx5_2
            try clear hx5_3
            try clear hx5_4
            try clear hx6_0
            try clear hx6_1
            try clear hx6_2
            try clear hx6_3
            try clear hx6_4
            try clear hx8_0
            try clear p2
            try clear p5
            try clear p6
            try clear q5
            try clear q6
            obtain ⟨x0_2, x1_2, x6_2, rfl, rfl, HA, HK2, HO_0, HK, HB⟩ := hrel
            have hl0_2 := (Kd.R_reads' HO_0.out).1
            rw [hl0_2] at HO_0
            (try simp only [hl0_2])
            cases gk with
            | zero => exact absurd HA.out (by simp [laws_markForkS.l1])
            | succ k2 =>
              have H := HA.out
              clear HA
              simp only [laws_markForkS.l1] at H
              by_cases c12 : x6_2 < 3
              · rw [if_pos c12] at H
                have c12b0 : decide (x6_2 < 3) = true := decide_eq_true c12
                clear c12
                by_cases c13 : 0 ≤ x5_1
                · rw [if_pos c13] at H
                  have c13b0 : decide (0 ≤ x5_1) = true := decide_eq_true c13
                  clear c13
                  by_cases c14 : x5_1 < (x0_2.length : Int)
                  · rw [if_pos c14] at H
                    have c14b0 : decide (x5_1 < (x0_2.length : Int)) = true := decide_eq_true c14
                    (try (have c14b0hl0_2 := c14b0; rw [hl0_2] at c14b0hl0_2))
                    clear c14
                    by_cases c16 : x6_2 = 0
                    · subst c16
                      have H1 : (laws_markForkS.l1 k2 (x0_2.set (x5_1 : Int).toNat (⟨(rd_T104 x0_2 x5_1).f0, (rd_T104 x0_2 x5_1).f1, (⟨IntKind.i16.wrap (x1_2), (rd_T104 x0_2 x5_1).f2.f1, (rd_T104 x0_2 x5_1).f2.f2⟩ : S102)⟩ : S104)) (wrap64 (x1_2 + 1)) x5_1 (0 + 1)) = some (r1, r2) := by rw [if_pos rfl] at H; exact H
                      clear H
                      have H := H1
                      clear H1
                      obtain ⟨y207, hy207⟩ : ∃ y_ : List (S104), y_ = (x0_2.set (x5_1 : Int).toNat (⟨(rd_T104 x0_2 x5_1).f0, (rd_T104 x0_2 x5_1).f1, (⟨IntKind.i16.wrap (x1_2), (rd_T104 x0_2 x5_1).f2.f1, (rd_T104 x0_2 x5_1).f2.f2⟩ : S102)⟩ : S104)) := ⟨_, rfl⟩
                      replace H : (laws_markForkS.l1 k2 y207 (wrap64 (x1_2 + 1)) x5_1 (0 + 1)) = some (r1, r2) := by first | (rw [hy207]; with_reducible exact H) | (have H2_ := (Option.bind_some _ _).symm.trans H; rw [hy207]; with_reducible exact H2_) | (have H2_ := (Option.bind_some _ _).symm.trans H; with_reducible exact H2_) | with_reducible exact H | (rw [hy207]; exact H) | exact H
                      have Ny207 := Aside0.mk hy207
                      clear hy207
                      have H' := Aside0.mk H
                      clear H
                      have p15 : 0 ≤ (x5_1 : Int) := of_decide_eq_true (by first | (with_reducible assumption) | assumption)
                      have q15 : (x5_1 : Int) < ((x0_2.length : Int) : Int) := of_decide_eq_true (by first | (with_reducible assumption) | assumption)
                      obtain ⟨ce15, hcl15, hM15, hcc15, hfr15⟩ := Kd.R_elem HO_0.out z104 (x5_1 : Int) p15 q15
                      obtain rfl := k104_openM hM15
                      have hx15_0 : wr.cell? ⟨go5, (x5_1 : Int).toNat * 5, none⟩ = some (.int .i8 ((rd_T104 x0_2 x5_1).f0)) := hcc15 0 _ rfl
                      have hx15_1 : wr.cell? ⟨go5, (x5_1 : Int).toNat * 5 + 1, none⟩ = some (.int .i8 ((rd_T104 x0_2 x5_1).f1)) := hcc15 1 _ rfl
                      have hx15_2 : wr.cell? ⟨go5, (x5_1 : Int).toNat * 5 + 2, none⟩ = some (.int .i16 ((rd_T104 x0_2 x5_1).f2.f0)) := hcc15 2 _ rfl
                      have hx15_3 : wr.cell? ⟨go5, (x5_1 : Int).toNat * 5 + 3, none⟩ = some (.int .i16 ((rd_T104 x0_2 x5_1).f2.f1)) := hcc15 3 _ rfl
                      have hx15_4 : wr.cell? ⟨go5, (x5_1 : Int).toNat * 5 + 4, none⟩ = some (.int .i16 ((rd_T104 x0_2 x5_1).f2.f2)) := hcc15 4 _ rfl
                      have hf15_0 : wr.frozen? ⟨go5, (x5_1 : Int).toNat * 5, none⟩ = false := hfr15 0
                      have hf15_1 : wr.frozen? ⟨go5, (x5_1 : Int).toNat * 5 + 1, none⟩ = false := hfr15 1
                      have hf15_2 : wr.frozen? ⟨go5, (x5_1 : Int).toNat * 5 + 2, none⟩ = false := hfr15 2
                      have hf15_3 : wr.frozen? ⟨go5, (x5_1 : Int).toNat * 5 + 3, none⟩ = false := hfr15 3
                      have hf15_4 : wr.frozen? ⟨go5, (x5_1 : Int).toNat * 5 + 4, none⟩ = false := hfr15 4
                      clear hcl15 hcc15 hfr15 hM15
                      replace p15 := eq_true p15
                      replace q15 := eq_true q15
                      have HX17 := Aside0.mk (show Kd.R k104 104 wr w0.heap.size (fun k_ => (P0_ k_ ∨ w.heap.size ≤ k_)) (.slice (some ⟨go5, 0, none⟩) x0_2.length co7) x0_2 from (by (with_reducible repeat (first | apply Kd.R_alloc | apply Kd.R_drewN | apply Kd.R_drew)); exact HO_0.out))
                      obtain ⟨ce17, hcl17, hM17, hcc17, hfr17⟩ := Kd.R_elem HX17.out z104 (x5_1 : Int) (of_decide_eq_true (by first | (with_reducible assumption) | assumption)) (by have h_ : (x5_1 : Int) < ((x0_2.length : Int) : Int) := of_decide_eq_true (by first | (with_reducible assumption) | assumption); first | exact h_ | (have e_ := (Kd.R_reads' HO_0.out).1; omega) | simpa using h_)
                      obtain rfl := k104_openM hM17
                      have HP17 := Kd.R_seg HX17.out (x5_1 : Int) (of_decide_eq_true (by first | (with_reducible assumption) | assumption)) (by have h_ : (x5_1 : Int) < ((x0_2.length : Int) : Int) := of_decide_eq_true (by first | (with_reducible assumption) | assumption); first | exact h_ | (have e_ := (Kd.R_reads' HO_0.out).1; omega) | simpa using h_) (seg := [.int .i16 (IntKind.i16.wrap (x1_2))]) (j := 2) hcl17 hcc17 (show 3 ≤ 5 from by decide) (x' := (⟨(rd_T104 x0_2 x5_1).f0, (rd_T104 x0_2 x5_1).f1, (⟨IntKind.i16.wrap (x1_2), (rd_T104 x0_2 x5_1).f2.f1, (rd_T104 x0_2 x5_1).f2.f2⟩ : S102)⟩ : S104)) (k104_mkM _ _ _ (⟨(rd_T104 x0_2 x5_1).f0, (rd_T104 x0_2 x5_1).f1, (⟨IntKind.i16.wrap (x1_2), (rd_T104 x0_2 x5_1).f2.f1, (rd_T104 x0_2 x5_1).f2.f2⟩ : S102)⟩ : S104) ) (fun _ hk => hk)
                      have hx17_2 := hcc17 2 _ rfl
                      (try simp only [show (k104).sz = 5 from rfl, Nat.mul_one, Nat.add_zero] at hx17_2)
                      have hf17_2 := hfr17 2
                      (try simp only [show (k104).sz = 5 from rfl, Nat.mul_one, Nat.add_zero] at hf17_2)
                      clear hcl17 hcc17 hfr17 hM17
                      go_wp2_with (first | ((with_reducible refine gate_store (t := 101) (p := 40) rfl ?_); refine store_event (t := 101) (p := 40) (v := ?vo_w18) (w1 := (wr.setCell ⟨go5, (x5_1 : Int).toNat * 5 + 2, none⟩ (.int .i16 (IntKind.i16.wrap (x1_2))))) ?hg ?ho ?hn ?hr ?_; (case ho => rfl); (case hg => rfl); (case hn => rfl); (case hr => first | (go_simp; done) | (go_simp; rfl)); intro w18 hw; have hg : wr.grownBy w18 (some go5) := (by rw [hw]; exact HP17.2); have hp_ : Kd.R k104 104 w18 w0.heap.size (fun k_ => (P0_ k_ ∨ w.heap.size ≤ k_)) (.slice (some ⟨go5, 0, none⟩) x0_2.length co7) y207 := (by rw [hw, Ny207.out]; exact HP17.1); clear HP17; have n0_ := Aside0.mk (hp_); have n1_ := Aside0.mk ((by rw [hw]; exact below_set (HB.out) GB5.out : Below w0.heap.size w0 w18)); have n2_ := Aside0.mk (Kept.of_grown (S := (fun k_ => P0_ k_)) hg (by repeat (first | (with_reducible first | exact HK.out | apply Kept.alloc | apply Kept.drewN | apply Kept.drew) | exact HK.out)) (fun k_ e_ => (HO_0.out.1 k_ e_))); clear HO_0; clear HB; clear HK; have HO_0 := n0_; have HB := n1_; have HK := n2_; clear n0_ n1_ n2_; clear hg hw hp_))
                      (try simp only [← hl0_2])
                      go_roundg k2
                      case measure => have := HK1.out; have := HK2.out; omega
                      case rel => exact ⟨(y207), (wrap64 (x1_2 + 1)), (0 + 1), (by first | rfl | (simp; done) | (simp [*]; done)), (by first | rfl | (simp; done) | (simp [*]; done)), H', ⟨by have := HK1.out; have := HK2.out; omega⟩, ⟨by (try simp only [hl0_2]); (with_reducible repeat (first | apply Kd.R_alloc | apply Kd.R_drewN | apply Kd.R_drew)); exact HO_0.out⟩, ⟨by repeat (first | (with_reducible first | exact HK.out | apply Kept.alloc | apply Kept.drewN | apply Kept.drew) | exact HK.out)⟩, ⟨by repeat (first | (with_reducible first | exact HB.out | apply below_alloc | apply pw_below_drewN | apply below_drew1) | exact HB.out)⟩⟩
                    · rw [if_neg c16] at H
                      by_cases c19 : x6_2 = 1
                      · subst c19
                        have H1 : (laws_markForkS.l1 k2 (x0_2.set (x5_1 : Int).toNat (⟨(rd_T104 x0_2 x5_1).f0, (rd_T104 x0_2 x5_1).f1, (⟨(rd_T104 x0_2 x5_1).f2.f0, IntKind.i16.wrap (x1_2), (rd_T104 x0_2 x5_1).f2.f2⟩ : S102)⟩ : S104)) (wrap64 (x1_2 + 1)) x5_1 (1 + 1)) = some (r1, r2) := by rw [if_pos rfl] at H; exact H
                        clear H
                        have H := H1
                        clear H1
                        obtain ⟨y208, hy208⟩ : ∃ y_ : List (S104), y_ = (x0_2.set (x5_1 : Int).toNat (⟨(rd_T104 x0_2 x5_1).f0, (rd_T104 x0_2 x5_1).f1, (⟨(rd_T104 x0_2 x5_1).f2.f0, IntKind.i16.wrap (x1_2), (rd_T104 x0_2 x5_1).f2.f2⟩ : S102)⟩ : S104)) := ⟨_, rfl⟩
                        replace H : (laws_markForkS.l1 k2 y208 (wrap64 (x1_2 + 1)) x5_1 (1 + 1)) = some (r1, r2) := by first | (rw [hy208]; with_reducible exact H) | (have H2_ := (Option.bind_some _ _).symm.trans H; rw [hy208]; with_reducible exact H2_) | (have H2_ := (Option.bind_some _ _).symm.trans H; with_reducible exact H2_) | with_reducible exact H | (rw [hy208]; exact H) | exact H
                        have Ny208 := Aside0.mk hy208
                        clear hy208
                        have H' := Aside0.mk H
                        clear H
                        have p15 : 0 ≤ (x5_1 : Int) := of_decide_eq_true (by first | (with_reducible assumption) | assumption)
                        have q15 : (x5_1 : Int) < ((x0_2.length : Int) : Int) := of_decide_eq_true (by first | (with_reducible assumption) | assumption)
                        obtain ⟨ce15, hcl15, hM15, hcc15, hfr15⟩ := Kd.R_elem HO_0.out z104 (x5_1 : Int) p15 q15
                        obtain rfl := k104_openM hM15
                        have hx15_0 : wr.cell? ⟨go5, (x5_1 : Int).toNat * 5, none⟩ = some (.int .i8 ((rd_T104 x0_2 x5_1).f0)) := hcc15 0 _ rfl
                        have hx15_1 : wr.cell? ⟨go5, (x5_1 : Int).toNat * 5 + 1, none⟩ = some (.int .i8 ((rd_T104 x0_2 x5_1).f1)) := hcc15 1 _ rfl
                        have hx15_2 : wr.cell? ⟨go5, (x5_1 : Int).toNat * 5 + 2, none⟩ = some (.int .i16 ((rd_T104 x0_2 x5_1).f2.f0)) := hcc15 2 _ rfl
                        have hx15_3 : wr.cell? ⟨go5, (x5_1 : Int).toNat * 5 + 3, none⟩ = some (.int .i16 ((rd_T104 x0_2 x5_1).f2.f1)) := hcc15 3 _ rfl
                        have hx15_4 : wr.cell? ⟨go5, (x5_1 : Int).toNat * 5 + 4, none⟩ = some (.int .i16 ((rd_T104 x0_2 x5_1).f2.f2)) := hcc15 4 _ rfl
                        have hf15_0 : wr.frozen? ⟨go5, (x5_1 : Int).toNat * 5, none⟩ = false := hfr15 0
                        have hf15_1 : wr.frozen? ⟨go5, (x5_1 : Int).toNat * 5 + 1, none⟩ = false := hfr15 1
                        have hf15_2 : wr.frozen? ⟨go5, (x5_1 : Int).toNat * 5 + 2, none⟩ = false := hfr15 2
                        have hf15_3 : wr.frozen? ⟨go5, (x5_1 : Int).toNat * 5 + 3, none⟩ = false := hfr15 3
                        have hf15_4 : wr.frozen? ⟨go5, (x5_1 : Int).toNat * 5 + 4, none⟩ = false := hfr15 4
                        clear hcl15 hcc15 hfr15 hM15
                        replace p15 := eq_true p15
                        replace q15 := eq_true q15
                        have HX20 := Aside0.mk (show Kd.R k104 104 wr w0.heap.size (fun k_ => (P0_ k_ ∨ w.heap.size ≤ k_)) (.slice (some ⟨go5, 0, none⟩) x0_2.length co7) x0_2 from (by (with_reducible repeat (first | apply Kd.R_alloc | apply Kd.R_drewN | apply Kd.R_drew)); exact HO_0.out))
                        obtain ⟨ce20, hcl20, hM20, hcc20, hfr20⟩ := Kd.R_elem HX20.out z104 (x5_1 : Int) (of_decide_eq_true (by first | (with_reducible assumption) | assumption)) (by have h_ : (x5_1 : Int) < ((x0_2.length : Int) : Int) := of_decide_eq_true (by first | (with_reducible assumption) | assumption); first | exact h_ | (have e_ := (Kd.R_reads' HO_0.out).1; omega) | simpa using h_)
                        obtain rfl := k104_openM hM20
                        have HP20 := Kd.R_seg HX20.out (x5_1 : Int) (of_decide_eq_true (by first | (with_reducible assumption) | assumption)) (by have h_ : (x5_1 : Int) < ((x0_2.length : Int) : Int) := of_decide_eq_true (by first | (with_reducible assumption) | assumption); first | exact h_ | (have e_ := (Kd.R_reads' HO_0.out).1; omega) | simpa using h_) (seg := [.int .i16 (IntKind.i16.wrap (x1_2))]) (j := 3) hcl20 hcc20 (show 4 ≤ 5 from by decide) (x' := (⟨(rd_T104 x0_2 x5_1).f0, (rd_T104 x0_2 x5_1).f1, (⟨(rd_T104 x0_2 x5_1).f2.f0, IntKind.i16.wrap (x1_2), (rd_T104 x0_2 x5_1).f2.f2⟩ : S102)⟩ : S104)) (k104_mkM _ _ _ (⟨(rd_T104 x0_2 x5_1).f0, (rd_T104 x0_2 x5_1).f1, (⟨(rd_T104 x0_2 x5_1).f2.f0, IntKind.i16.wrap (x1_2), (rd_T104 x0_2 x5_1).f2.f2⟩ : S102)⟩ : S104) ) (fun _ hk => hk)
                        have hx20_3 := hcc20 3 _ rfl
                        (try simp only [show (k104).sz = 5 from rfl, Nat.mul_one, Nat.add_zero] at hx20_3)
                        have hf20_3 := hfr20 3
                        (try simp only [show (k104).sz = 5 from rfl, Nat.mul_one, Nat.add_zero] at hf20_3)
                        clear hcl20 hcc20 hfr20 hM20
                        go_wp2_with (first | ((with_reducible refine gate_store (t := 101) (p := 40) rfl ?_); refine store_event (t := 101) (p := 40) (v := ?vo_w21) (w1 := (wr.setCell ⟨go5, (x5_1 : Int).toNat * 5 + 3, none⟩ (.int .i16 (IntKind.i16.wrap (x1_2))))) ?hg ?ho ?hn ?hr ?_; (case ho => rfl); (case hg => rfl); (case hn => rfl); (case hr => first | (go_simp; done) | (go_simp; rfl)); intro w21 hw; have hg : wr.grownBy w21 (some go5) := (by rw [hw]; exact HP20.2); have hp_ : Kd.R k104 104 w21 w0.heap.size (fun k_ => (P0_ k_ ∨ w.heap.size ≤ k_)) (.slice (some ⟨go5, 0, none⟩) x0_2.length co7) y208 := (by rw [hw, Ny208.out]; exact HP20.1); clear HP20; have n0_ := Aside0.mk (hp_); have n1_ := Aside0.mk ((by rw [hw]; exact below_set (HB.out) GB5.out : Below w0.heap.size w0 w21)); have n2_ := Aside0.mk (Kept.of_grown (S := (fun k_ => P0_ k_)) hg (by repeat (first | (with_reducible first | exact HK.out | apply Kept.alloc | apply Kept.drewN | apply Kept.drew) | exact HK.out)) (fun k_ e_ => (HO_0.out.1 k_ e_))); clear HO_0; clear HB; clear HK; have HO_0 := n0_; have HB := n1_; have HK := n2_; clear n0_ n1_ n2_; clear hg hw hp_))
                        (try simp only [← hl0_2])
                        go_roundg k2
                        case measure => have := HK1.out; have := HK2.out; omega
                        case rel => exact ⟨(y208), (wrap64 (x1_2 + 1)), (1 + 1), (by first | rfl | (simp; done) | (simp [*]; done)), (by first | rfl | (simp; done) | (simp [*]; done)), H', ⟨by have := HK1.out; have := HK2.out; omega⟩, ⟨by (try simp only [hl0_2]); (with_reducible repeat (first | apply Kd.R_alloc | apply Kd.R_drewN | apply Kd.R_drew)); exact HO_0.out⟩, ⟨by repeat (first | (with_reducible first | exact HK.out | apply Kept.alloc | apply Kept.drewN | apply Kept.drew) | exact HK.out)⟩, ⟨by repeat (first | (with_reducible first | exact HB.out | apply below_alloc | apply pw_below_drewN | apply below_drew1) | exact HB.out)⟩⟩
                      · rw [if_neg c19] at H
                        by_cases c22 : x6_2 = 2
                        · subst c22
                          have H1 : (laws_markForkS.l1 k2 (x0_2.set (x5_1 : Int).toNat (⟨(rd_T104 x0_2 x5_1).f0, (rd_T104 x0_2 x5_1).f1, (⟨(rd_T104 x0_2 x5_1).f2.f0, (rd_T104 x0_2 x5_1).f2.f1, IntKind.i16.wrap (x1_2)⟩ : S102)⟩ : S104)) (wrap64 (x1_2 + 1)) x5_1 (2 + 1)) = some (r1, r2) := by rw [if_pos rfl] at H; exact H
                          clear H
                          have H := H1
                          clear H1
                          obtain ⟨y209, hy209⟩ : ∃ y_ : List (S104), y_ = (x0_2.set (x5_1 : Int).toNat (⟨(rd_T104 x0_2 x5_1).f0, (rd_T104 x0_2 x5_1).f1, (⟨(rd_T104 x0_2 x5_1).f2.f0, (rd_T104 x0_2 x5_1).f2.f1, IntKind.i16.wrap (x1_2)⟩ : S102)⟩ : S104)) := ⟨_, rfl⟩
                          replace H : (laws_markForkS.l1 k2 y209 (wrap64 (x1_2 + 1)) x5_1 (2 + 1)) = some (r1, r2) := by first | (rw [hy209]; with_reducible exact H) | (have H2_ := (Option.bind_some _ _).symm.trans H; rw [hy209]; with_reducible exact H2_) | (have H2_ := (Option.bind_some _ _).symm.trans H; with_reducible exact H2_) | with_reducible exact H | (rw [hy209]; exact H) | exact H
                          have Ny209 := Aside0.mk hy209
                          clear hy209
                          have H' := Aside0.mk H
                          clear H
                          have p15 : 0 ≤ (x5_1 : Int) := of_decide_eq_true (by first | (with_reducible assumption) | assumption)
                          have q15 : (x5_1 : Int) < ((x0_2.length : Int) : Int) := of_decide_eq_true (by first | (with_reducible assumption) | assumption)
                          obtain ⟨ce15, hcl15, hM15, hcc15, hfr15⟩ := Kd.R_elem HO_0.out z104 (x5_1 : Int) p15 q15
                          obtain rfl := k104_openM hM15
                          have hx15_0 : wr.cell? ⟨go5, (x5_1 : Int).toNat * 5, none⟩ = some (.int .i8 ((rd_T104 x0_2 x5_1).f0)) := hcc15 0 _ rfl
                          have hx15_1 : wr.cell? ⟨go5, (x5_1 : Int).toNat * 5 + 1, none⟩ = some (.int .i8 ((rd_T104 x0_2 x5_1).f1)) := hcc15 1 _ rfl
                          have hx15_2 : wr.cell? ⟨go5, (x5_1 : Int).toNat * 5 + 2, none⟩ = some (.int .i16 ((rd_T104 x0_2 x5_1).f2.f0)) := hcc15 2 _ rfl
                          have hx15_3 : wr.cell? ⟨go5, (x5_1 : Int).toNat * 5 + 3, none⟩ = some (.int .i16 ((rd_T104 x0_2 x5_1).f2.f1)) := hcc15 3 _ rfl
                          have hx15_4 : wr.cell? ⟨go5, (x5_1 : Int).toNat * 5 + 4, none⟩ = some (.int .i16 ((rd_T104 x0_2 x5_1).f2.f2)) := hcc15 4 _ rfl
                          have hf15_0 : wr.frozen? ⟨go5, (x5_1 : Int).toNat * 5, none⟩ = false := hfr15 0
                          have hf15_1 : wr.frozen? ⟨go5, (x5_1 : Int).toNat * 5 + 1, none⟩ = false := hfr15 1
                          have hf15_2 : wr.frozen? ⟨go5, (x5_1 : Int).toNat * 5 + 2, none⟩ = false := hfr15 2
                          have hf15_3 : wr.frozen? ⟨go5, (x5_1 : Int).toNat * 5 + 3, none⟩ = false := hfr15 3
                          have hf15_4 : wr.frozen? ⟨go5, (x5_1 : Int).toNat * 5 + 4, none⟩ = false := hfr15 4
                          clear hcl15 hcc15 hfr15 hM15
                          replace p15 := eq_true p15
                          replace q15 := eq_true q15
                          have HX23 := Aside0.mk (show Kd.R k104 104 wr w0.heap.size (fun k_ => (P0_ k_ ∨ w.heap.size ≤ k_)) (.slice (some ⟨go5, 0, none⟩) x0_2.length co7) x0_2 from (by (with_reducible repeat (first | apply Kd.R_alloc | apply Kd.R_drewN | apply Kd.R_drew)); exact HO_0.out))
                          obtain ⟨ce23, hcl23, hM23, hcc23, hfr23⟩ := Kd.R_elem HX23.out z104 (x5_1 : Int) (of_decide_eq_true (by first | (with_reducible assumption) | assumption)) (by have h_ : (x5_1 : Int) < ((x0_2.length : Int) : Int) := of_decide_eq_true (by first | (with_reducible assumption) | assumption); first | exact h_ | (have e_ := (Kd.R_reads' HO_0.out).1; omega) | simpa using h_)
                          obtain rfl := k104_openM hM23
                          have HP23 := Kd.R_seg HX23.out (x5_1 : Int) (of_decide_eq_true (by first | (with_reducible assumption) | assumption)) (by have h_ : (x5_1 : Int) < ((x0_2.length : Int) : Int) := of_decide_eq_true (by first | (with_reducible assumption) | assumption); first | exact h_ | (have e_ := (Kd.R_reads' HO_0.out).1; omega) | simpa using h_) (seg := [.int .i16 (IntKind.i16.wrap (x1_2))]) (j := 4) hcl23 hcc23 (show 5 ≤ 5 from by decide) (x' := (⟨(rd_T104 x0_2 x5_1).f0, (rd_T104 x0_2 x5_1).f1, (⟨(rd_T104 x0_2 x5_1).f2.f0, (rd_T104 x0_2 x5_1).f2.f1, IntKind.i16.wrap (x1_2)⟩ : S102)⟩ : S104)) (k104_mkM _ _ _ (⟨(rd_T104 x0_2 x5_1).f0, (rd_T104 x0_2 x5_1).f1, (⟨(rd_T104 x0_2 x5_1).f2.f0, (rd_T104 x0_2 x5_1).f2.f1, IntKind.i16.wrap (x1_2)⟩ : S102)⟩ : S104) ) (fun _ hk => hk)
                          have hx23_4 := hcc23 4 _ rfl
                          (try simp only [show (k104).sz = 5 from rfl, Nat.mul_one, Nat.add_zero] at hx23_4)
                          have hf23_4 := hfr23 4
                          (try simp only [show (k104).sz = 5 from rfl, Nat.mul_one, Nat.add_zero] at hf23_4)
                          clear hcl23 hcc23 hfr23 hM23
                          go_wp2_with (first | ((with_reducible refine gate_store (t := 101) (p := 40) rfl ?_); refine store_event (t := 101) (p := 40) (v := ?vo_w24) (w1 := (wr.setCell ⟨go5, (x5_1 : Int).toNat * 5 + 4, none⟩ (.int .i16 (IntKind.i16.wrap (x1_2))))) ?hg ?ho ?hn ?hr ?_; (case ho => rfl); (case hg => rfl); (case hn => rfl); (case hr => first | (go_simp; done) | (go_simp; rfl)); intro w24 hw; have hg : wr.grownBy w24 (some go5) := (by rw [hw]; exact HP23.2); have hp_ : Kd.R k104 104 w24 w0.heap.size (fun k_ => (P0_ k_ ∨ w.heap.size ≤ k_)) (.slice (some ⟨go5, 0, none⟩) x0_2.length co7) y209 := (by rw [hw, Ny209.out]; exact HP23.1); clear HP23; have n0_ := Aside0.mk (hp_); have n1_ := Aside0.mk ((by rw [hw]; exact below_set (HB.out) GB5.out : Below w0.heap.size w0 w24)); have n2_ := Aside0.mk (Kept.of_grown (S := (fun k_ => P0_ k_)) hg (by repeat (first | (with_reducible first | exact HK.out | apply Kept.alloc | apply Kept.drewN | apply Kept.drew) | exact HK.out)) (fun k_ e_ => (HO_0.out.1 k_ e_))); clear HO_0; clear HB; clear HK; have HO_0 := n0_; have HB := n1_; have HK := n2_; clear n0_ n1_ n2_; clear hg hw hp_))
                          (try simp only [← hl0_2])
                          go_roundg k2
                          case measure => have := HK1.out; have := HK2.out; omega
                          case rel => exact ⟨(y209), (wrap64 (x1_2 + 1)), (2 + 1), (by first | rfl | (simp; done) | (simp [*]; done)), (by first | rfl | (simp; done) | (simp [*]; done)), H', ⟨by have := HK1.out; have := HK2.out; omega⟩, ⟨by (try simp only [hl0_2]); (with_reducible repeat (first | apply Kd.R_alloc | apply Kd.R_drewN | apply Kd.R_drew)); exact HO_0.out⟩, ⟨by repeat (first | (with_reducible first | exact HK.out | apply Kept.alloc | apply Kept.drewN | apply Kept.drew) | exact HK.out)⟩, ⟨by repeat (first | (with_reducible first | exact HB.out | apply below_alloc | apply pw_below_drewN | apply below_drew1) | exact HB.out)⟩⟩
                        · rw [if_neg c22] at H
                          exact absurd H (by simp)
                  · rw [if_neg c14] at H
                    exact absurd H (by simp)
                · rw [if_neg c13] at H
                  exact absurd H (by simp)
              · rw [if_neg c12] at H
                have c12b0 : decide (x6_2 < 3) = false := decide_eq_false c12
                clear c12
                have H' := Aside0.mk H
                clear H
                go_wp2
                (try simp only [← hl0_2])
                go_roundg k2
                case measure => have := HK1.out; have := HK2.out; omega
                case rel => exact ⟨(x0_2), (x1_2), (wrap64 (x5_1 + 1)), (by first | rfl | (simp; done) | (simp [*]; done)), (by first | rfl | (simp; done) | (simp [*]; done)), H', ⟨by have := HK1.out; have := HK2.out; omega⟩, ⟨by (try simp only [hl0_2]); (with_reducible repeat (first | apply Kd.R_alloc | apply Kd.R_drewN | apply Kd.R_drew)); exact HO_0.out⟩, ⟨by repeat (first | (with_reducible first | exact HK.out | apply Kept.alloc | apply Kept.drewN | apply Kept.drew) | exact HK.out)⟩, ⟨by repeat (first | (with_reducible first | exact HB.out | apply below_alloc | apply pw_below_drewN | apply below_drew1) | exact HB.out)⟩⟩
        · rw [if_neg c4] at H
          exact absurd H (by simp)
      · rw [if_neg c3] at H
        have c3b0 : decide (x5_1 < (x0_1.length : Int)) = false := decide_eq_false c3
        clear c3
        simp only [Option.some.injEq, Prod.mk.injEq] at H
        obtain ⟨rfl, rfl⟩ := H
        obtain ⟨Ao25, co25, eo25⟩ := Kd.R_slice HO_0.out
        subst eo25
        go_wp2
        go_ret
        exact ⟨by first | rfl | (simp [errW_none, errW_some] <;> rfl) | (simp [*, errW_none, errW_some] <;> rfl), by (with_reducible repeat (first | apply Kd.R_alloc | apply Kd.R_drewN | apply Kd.R_drew)); exact HO_0.out, by repeat (first | (with_reducible first | exact HB.out | apply below_alloc | apply pw_below_drewN | apply below_drew1) | exact HB.out), by repeat (first | (with_reducible first | exact HK.out | apply Kept.alloc | apply Kept.drewN | apply Kept.drew) | exact HK.out)⟩

/-! ### laws_markTree: function 38 -/
def laws_markTree.f (k : Nat) (l0_0 : List (S104)) (a1 : Int) : Option (Int × (List (S104))) := (laws_markForkS.f k l0_0 a1).bind fun bt211 => (some (bt211.1, bt211.2))
theorem laws_markTree.mono : ∀ a0 a1 k, LeO (laws_markTree.f k a0 a1) (laws_markTree.f (k + 1) a0 a1) := by
  intro a0 a1 k
  unfold laws_markTree.f
  repeat' first
      | (with_reducible exact laws_markForkS.mono _ _ _)
      | (with_reducible exact LeO.refl _)
      | (with_reducible exact LeO.none _)
      | (with_reducible refine LeO.ite ?_ ?_)
      | (with_reducible refine LeO.bind ?_ (fun _ => ?_))
      | exact laws_markForkS.mono _ _ _
      | exact LeO.none _
      | refine LeO.ite ?_ ?_
      | refine LeO.bind ?_ (fun _ => ?_)
set_option maxHeartbeats 8000000 in
set_option maxRecDepth 100000 in
theorem laws_markTree.calls (k : Nat) (P0_0_ : Nat → Prop) (u9000_ : Value) (l0_0 : List (S104)) (a1 : Int) (r1 : Int) (r2 : List (S104)) (w0 w : World) (hB : Below w0.heap.size w0 w) (ho0_0 : Kd.R k104 104 w w0.heap.size P0_0_ u9000_ l0_0) (h : laws_markTree.f k l0_0 a1 = some (r1, r2)) :
    Calls Try.prog 38 #[.agg #[u9000_], .int .i64 a1] w fun e w' => e = .returned (.int .i64 r1) ∧ Kd.R k104 104 w' w0.heap.size (fun k_ => (P0_0_ k_ ∨ w.heap.size ≤ k_)) u9000_ r2 ∧ Below w0.heap.size w0 w' ∧ Kept w w' (fun k_ => P0_0_ k_) := by
  have hu55 := Try.underlying55
  have HO0_0 := Aside0.mk (show Kd.R k104 104 w w0.heap.size (fun k_ => (P0_0_ k_ ∨ w.heap.size ≤ k_)) u9000_ l0_0 from Kd.R_mono ho0_0 (fun k_ hk => (.inl hk)))
  have HK := Aside0.mk (Kept.refl w (fun k_ => P0_0_ k_))
  have HW0 := Aside0.mk hB.size
  have HB := Aside0.mk hB
  clear hB
  have H : ((laws_markForkS.f k l0_0 a1).bind fun bt211 => (some (bt211.1, bt211.2))) = some (r1, r2) := h
  clear h
  replace H := Option.bind_eq_some_iff.mp H
  obtain ⟨⟨t211, t212⟩, A30, H⟩ := H
  replace H : (some (t211, t212)) = some (r1, r2) := H
  have A3 := Aside0.mk A30
  clear A30
  simp only [Option.some.injEq, Prod.mk.injEq] at H
  obtain ⟨rfl, rfl⟩ := H
  obtain ⟨Ao4, co4, eo4⟩ := Kd.R_slice HO0_0.out
  subst eo4
  go_enter Try.func38, Try.ntmps38
  go_wp2_with (first | ((with_reducible refine gate_dst (N := 2) rfl ?_); refine box_event ?hg (N := 2) ?hd (cs := #[.slice Ao4 l0_0.length co4]) (t := 55) ?hr ?_; (case hd => rfl); (case hg => rfl); (case hr => first | (go_simp; done) | (go_simp; rfl)); intro gb210 hg w5 hbox hb; have n0_ := Aside0.mk (Kd.R_below (by (with_reducible repeat (first | apply Kd.R_alloc | apply Kd.R_drewN | apply Kd.R_drew)); exact HO0_0.out) hb); have n1_ := Aside0.mk (Kept.below (S := (fun k_ => P0_0_ k_)) (by repeat (first | (with_reducible first | exact HK.out | apply Kept.alloc | apply Kept.drewN | apply Kept.drew) | exact HK.out)) hb); have n2_ := Aside0.mk (below_step (by repeat (first | (with_reducible first | exact HB.out | apply below_alloc | apply pw_below_drewN | apply below_drew1) | exact HB.out)) hb); have n3_ := Aside0.mk (hbox); have n4_ := Aside0.mk ((by rw [hg]; exact (by first | exact HK.out.1 | exact (show Kept w _ (fun k_ => P0_0_ k_) from by repeat (first | (with_reducible first | exact HK.out | apply Kept.alloc | apply Kept.drewN | apply Kept.drew) | exact HK.out)).1) : w.heap.size ≤ gb210)); have n5_ := Aside0.mk ((by rw [hg]; exact (below_size (by repeat (first | (with_reducible first | exact HB.out | apply below_alloc | apply pw_below_drewN | apply below_drew1) | exact HB.out))) : w0.heap.size ≤ gb210)); clear HO0_0; clear HK; clear HB; have HO0_0 := n0_; have HK := n1_; have HB := n2_; have BK210 := n3_; have GW210 := n4_; have GE210 := n5_; clear n0_ n1_ n2_ n3_ n4_ n5_; clear hb hbox hg; have hcz6_0 : w5.cell? ⟨gb210, 0, none⟩ = some (.slice Ao4 l0_0.length co4) := (blk_cell BK210.out 0).trans rfl; have hfz6_0 := blk_frozen BK210.out 0) | ((with_reducible refine gate_callee (f := 75) rfl ?_); refine goesL_ (some 8) rfl rfl Try.func75 (by kernel_rfl) rfl #[.slice Ao4 l0_0.length co4, .int .i64 a1] rfl (by (try simp only [List.map_toArray, List.map_cons, List.map_nil]); first | done | rfl | (simp only [List.length_drop, List.length_take]; rfl)) ?_; (with_reducible refine (laws_markForkS.calls k (fun k_ => some k_ = (.slice Ao4 l0_0.length co4 : Value).ownBlock) (.slice Ao4 l0_0.length co4) l0_0 a1 t211 t212 w0 _ ?side1 ?side2 A3.out).mono ?_); (case side1 => repeat (first | (with_reducible first | exact HB.out | apply below_alloc | apply pw_below_drewN | apply below_drew1 | refine below_set ?_ GE210.out) | exact HB.out)); (case side2 => exact Kd.R_tight rfl HO0_0.out); rintro e w7 ⟨rfl, hy0, hb, hkp⟩; refine ⟨_, rfl, ?_⟩; have n0_ := Aside0.mk (Kd.R_reok rfl hy0 (fun k_ e_ => HO0_0.out.1 k_ e_)); have n1_ := Aside0.mk (blk_kept (by (with_reducible repeat (first | refine blk_drewN ?_ _ | refine blk_drew ?_ | refine blk_alloc ?_ _)); exact BK210.out) hkp (fun hs_ => (fun e_ => (Kd.R_ne HO0_0.out BK210.out (by decide)) e_) hs_)); have n2_ := Aside0.mk (Kept.then_ (S := (fun k_ => P0_0_ k_)) (by repeat (first | (with_reducible first | exact HK.out | apply Kept.alloc | apply Kept.drewN | apply Kept.drew | refine Kept.setCell ?_ (.inr GW210.out) _) | exact HK.out)) hkp (fun k_ hs_ => (fun e_ => (HO0_0.out.1 k_ e_.symm)) hs_)); have n3_ := Aside0.mk (hb); clear HO0_0; clear BK210; clear HK; clear HB; have HO0_0 := n0_; have BK210 := n1_; have HK := n2_; have HB := n3_; clear n0_ n1_ n2_ n3_; (try clear hb); (try clear hkp); (try clear hy0)))
  go_ret
  exact ⟨by first | rfl | (simp [errW_none, errW_some] <;> rfl) | (simp [*, errW_none, errW_some] <;> rfl), by (with_reducible repeat (first | apply Kd.R_alloc | apply Kd.R_drewN | apply Kd.R_drew)); exact HO0_0.out, by repeat (first | (with_reducible first | exact HB.out | apply below_alloc | apply pw_below_drewN | apply below_drew1 | refine below_set ?_ GE210.out) | exact HB.out), by repeat (first | (with_reducible first | exact HK.out | apply Kept.alloc | apply Kept.drewN | apply Kept.drew | refine Kept.setCell ?_ (.inr GW210.out) _) | exact HK.out)⟩

/-! ### laws_heldForkS: function 76 -/
mutual
def laws_heldForkS.l0 : Nat → List (S104) → Int → Int → Option (Int)
  | 0, _, _, _ => none
  | k + 1, x0, x1, x5 => if x5 < (x0.length : Int) then (if 0 ≤ x5 then (if ((rd_T104 x0 x5).f0) = (IntKind.i8.wrap (x1)) then (if ((rd_T104 x0 x5).f1) = (IntKind.i8.wrap (wrap64 (x1 + 1))) then (laws_heldForkS.l1 k x0 (wrap64 ((wrap64 (x1 + 1)) + 1)) x5 0) else (some (-1))) else (some (-1))) else (none)) else (some x1)
def laws_heldForkS.l1 : Nat → List (S104) → Int → Int → Int → Option (Int)
  | 0, _, _, _, _ => none
  | k + 1, x0, x1, x5, x6 => if x6 < 3 then (if 0 ≤ x5 then (if x5 < (x0.length : Int) then (if x6 = 0 then (if ((rd_T104 x0 x5).f2.f0) = (IntKind.i16.wrap (x1)) then (laws_heldForkS.l1 k x0 (wrap64 (x1 + 1)) x5 (0 + 1)) else (some (-1))) else (if x6 = 1 then (if ((rd_T104 x0 x5).f2.f1) = (IntKind.i16.wrap (x1)) then (laws_heldForkS.l1 k x0 (wrap64 (x1 + 1)) x5 (1 + 1)) else (some (-1))) else (if x6 = 2 then (if ((rd_T104 x0 x5).f2.f2) = (IntKind.i16.wrap (x1)) then (laws_heldForkS.l1 k x0 (wrap64 (x1 + 1)) x5 (2 + 1)) else (some (-1))) else (none)))) else (none)) else (none)) else (laws_heldForkS.l0 k x0 x1 (wrap64 (x5 + 1)))
end
def laws_heldForkS.f (k : Nat) (l0 : List (S104)) (a1 : Int) : Option (Int) := laws_heldForkS.l0 k l0 a1 0
theorem laws_heldForkS.mono_l : ∀ k, (∀ y0 y1 y2, LeO (laws_heldForkS.l0 k y0 y1 y2) (laws_heldForkS.l0 (k + 1) y0 y1 y2)) ∧ (∀ y0 y1 y2 y3, LeO (laws_heldForkS.l1 k y0 y1 y2 y3) (laws_heldForkS.l1 (k + 1) y0 y1 y2 y3))
  | 0 => ⟨fun _ _ _ r h => by simp [laws_heldForkS.l0] at h, fun _ _ _ _ r h => by simp [laws_heldForkS.l1] at h⟩
  | k + 1 => by
    obtain ⟨ih0, ih1⟩ := laws_heldForkS.mono_l k
    refine ⟨?_, ?_⟩
    · intro y0 y1 y2
      unfold laws_heldForkS.l0
      repeat' first
      | (with_reducible exact ih0 _ _ _)
      | (with_reducible exact ih1 _ _ _ _)
      | (with_reducible exact LeO.refl _)
      | (with_reducible exact LeO.none _)
      | (with_reducible refine LeO.ite ?_ ?_)
      | (with_reducible refine LeO.bind ?_ (fun _ => ?_))
      | exact ih0 _ _ _
      | exact ih1 _ _ _ _
      | exact LeO.none _
      | refine LeO.ite ?_ ?_
      | refine LeO.bind ?_ (fun _ => ?_)
    · intro y0 y1 y2 y3
      unfold laws_heldForkS.l1
      repeat' first
      | (with_reducible exact ih0 _ _ _)
      | (with_reducible exact ih1 _ _ _ _)
      | (with_reducible exact LeO.refl _)
      | (with_reducible exact LeO.none _)
      | (with_reducible refine LeO.ite ?_ ?_)
      | (with_reducible refine LeO.bind ?_ (fun _ => ?_))
      | exact ih0 _ _ _
      | exact ih1 _ _ _ _
      | exact LeO.none _
      | refine LeO.ite ?_ ?_
      | refine LeO.bind ?_ (fun _ => ?_)
theorem laws_heldForkS.mono : ∀ a0 a1 k, LeO (laws_heldForkS.f k a0 a1) (laws_heldForkS.f (k + 1) a0 a1) := by
  intro a0 a1 k
  obtain ⟨ih0, ih1⟩ := laws_heldForkS.mono_l k
  unfold laws_heldForkS.f
  repeat' first
      | (with_reducible exact ih0 _ _ _)
      | (with_reducible exact ih1 _ _ _ _)
      | (with_reducible exact LeO.refl _)
      | (with_reducible exact LeO.none _)
      | (with_reducible refine LeO.ite ?_ ?_)
      | (with_reducible refine LeO.bind ?_ (fun _ => ?_))
      | exact ih0 _ _ _
      | exact ih1 _ _ _ _
      | exact LeO.none _
      | refine LeO.ite ?_ ?_
      | refine LeO.bind ?_ (fun _ => ?_)
set_option maxHeartbeats 8000000 in
set_option maxRecDepth 100000 in
theorem laws_heldForkS.calls (k : Nat) (A0 : Option Addr) (c0 : Nat) (l0 : List (S104)) (a1 : Int) (r : Int) (w : World) (hr0 : Kd.C k104 w A0 l0.length l0) (hc0 : l0.length ≤ c0) (h : laws_heldForkS.f k l0 a1 = some r) :
    Calls Try.prog 76 #[.slice A0 l0.length c0, .int .i64 a1] w fun e w' => e = .returned (.int .i64 r) ∧ Drawn0 w w' := by
  have HR0 := Aside0.mk hr0
  have HC0 := Aside0.mk hc0
  clear hr0 hc0
  have H : (laws_heldForkS.l0 k l0 a1 0) = some r := h
  clear h
  have H' := Aside0.mk H
  clear H
  go_enter Try.func76, Try.ntmps76
  go_wp2
  go_loopg [1, 5] k (fun kq v1 v5 w' => ∃ (x1_1 : Int) (x5_1 : Int), v1 = .int .i64 x1_1 ∧ v5 = .int .i64 x5_1 ∧ Aside0 (laws_heldForkS.l0 kq l0 x1_1 x5_1 = some r) ∧ Aside0 (kq ≤ k) ∧ Drawn0 w w')
  case atStart => exact ⟨(a1), (0), (by first | rfl | (simp; done) | (simp [*]; done)), (by first | rfl | (simp; done) | (simp [*]; done)), H', ⟨Nat.le_refl _⟩, by repeat (first | exact Drawn0.refl _ | apply Drawn0.step)⟩
  case round =>
    clear H'
    try clear p2
    obtain ⟨x1_1, x5_1, rfl, rfl, HA, HK1, ⟨m1, rfl⟩⟩ := hrel
    cases gk with
    | zero => exact absurd HA.out (by simp [laws_heldForkS.l0])
    | succ k1 =>
      have H := HA.out
      clear HA
      simp only [laws_heldForkS.l0] at H
      by_cases c3 : x5_1 < (l0.length : Int)
      · rw [if_pos c3] at H
        have c3b0 : decide (x5_1 < (l0.length : Int)) = true := decide_eq_true c3
        clear c3
        by_cases c4 : 0 ≤ x5_1
        · rw [if_pos c4] at H
          have c4b0 : decide (0 ≤ x5_1) = true := decide_eq_true c4
          clear c4
          by_cases c5 : ((rd_T104 l0 x5_1).f0) = (IntKind.i8.wrap (x1_1))
          · rw [if_pos c5] at H
            have c5b0 : (((rd_T104 l0 x5_1).f0) == (IntKind.i8.wrap (x1_1))) = true := beq_iff_eq.mpr c5
            have c5b1 : (((rd_T104 l0 x5_1).f0) != (IntKind.i8.wrap (x1_1))) = false := bne_eq_false_iff_eq.mpr c5
            clear c5
            by_cases c6 : ((rd_T104 l0 x5_1).f1) = (IntKind.i8.wrap (wrap64 (x1_1 + 1)))
            · rw [if_pos c6] at H
              have c6b0 : (((rd_T104 l0 x5_1).f1) == (IntKind.i8.wrap (wrap64 (x1_1 + 1)))) = true := beq_iff_eq.mpr c6
              have c6b1 : (((rd_T104 l0 x5_1).f1) != (IntKind.i8.wrap (wrap64 (x1_1 + 1)))) = false := bne_eq_false_iff_eq.mpr c6
              clear c6
              have H' := Aside0.mk H
              clear H
              have p213 : 0 ≤ (x5_1 : Int) := of_decide_eq_true (by first | (with_reducible assumption) | assumption)
              have q213 : x5_1 < (l0.length : Int) := of_decide_eq_true (by first | (with_reducible assumption) | assumption)
              obtain ⟨ad213, e213, hx213_0, hx213_1, hx213_2, hx213_3, hx213_4⟩ := at_T104 HR0.out x5_1 p213 q213
              cases e213
              replace p213 := eq_true p213
              replace q213 := eq_true q213
              have p214 : 0 ≤ (x5_1 : Int) := of_decide_eq_true (by first | (with_reducible assumption) | assumption)
              have q214 : x5_1 < (l0.length : Int) := of_decide_eq_true (by first | (with_reducible assumption) | assumption)
              obtain ⟨ad214, e214, hx214_0, hx214_1, hx214_2, hx214_3, hx214_4⟩ := at_T104 HR0.out x5_1 p214 q214
              obtain rfl : ad213 = ad214 := (by injection e214)
              replace p214 := eq_true p214
              replace q214 := eq_true q214
              go_wp2
              go_loopg [1, 6] k1 (fun kq v1 v6 w' => ∃ (x1_2 : Int) (x6_2 : Int), v1 = .int .i64 x1_2 ∧ v6 = .int .i64 x6_2 ∧ Aside0 (laws_heldForkS.l1 kq l0 x1_2 x5_1 x6_2 = some r) ∧ Aside0 (kq ≤ k1) ∧ Drawn0 w w')
              case atStart => exact ⟨(wrap64 ((wrap64 (x1_1 + 1)) + 1)), (0), (by first | rfl | (simp; done) | (simp [*]; done)), (by first | rfl | (simp; done) | (simp [*]; done)), H', ⟨Nat.le_refl _⟩, by repeat (first | exact Drawn0.refl _ | apply Drawn0.step)⟩
              case round =>
                clear H'
                try clear p2
                try clear q2
                try clear hx2
                try clear c3
                try clear c3b0
                try clear c4
                try clear c4b0
                try clear c5
                try clear c5b0
                try clear c5b1
                try clear c6
                try clear c6b0
                try clear c6b1
                try clear p6
                try clear hx213_0
                try clear hx213_1
                try clear hx213_2
                try clear hx213_3
                try clear hx213_4
                try clear hx214_0
                try clear hx214_1
                try clear hx214_2
                try clear hx214_3
                try clear hx214_4
                try clear p2
                try clear p213
                try clear p214
                try clear q213
                try clear q214
                obtain ⟨x1_2, x6_2, rfl, rfl, HA, HK2, ⟨m2, rfl⟩⟩ := hrel
                cases gk with
                | zero => exact absurd HA.out (by simp [laws_heldForkS.l1])
                | succ k2 =>
                  have H := HA.out
                  clear HA
                  simp only [laws_heldForkS.l1] at H
                  by_cases c7 : x6_2 < 3
                  · rw [if_pos c7] at H
                    have c7b0 : decide (x6_2 < 3) = true := decide_eq_true c7
                    clear c7
                    by_cases c8 : 0 ≤ x5_1
                    · rw [if_pos c8] at H
                      have c8b0 : decide (0 ≤ x5_1) = true := decide_eq_true c8
                      clear c8
                      by_cases c9 : x5_1 < (l0.length : Int)
                      · rw [if_pos c9] at H
                        have c9b0 : decide (x5_1 < (l0.length : Int)) = true := decide_eq_true c9
                        clear c9
                        by_cases c10 : x6_2 = 0
                        · subst c10
                          have H1 : (if ((rd_T104 l0 x5_1).f2.f0) = (IntKind.i16.wrap (x1_2)) then (laws_heldForkS.l1 k2 l0 (wrap64 (x1_2 + 1)) x5_1 (0 + 1)) else (some (-1))) = some r := by rw [if_pos rfl] at H; exact H
                          clear H
                          have H := H1
                          clear H1
                          by_cases c11 : ((rd_T104 l0 x5_1).f2.f0) = (IntKind.i16.wrap (x1_2))
                          · rw [if_pos c11] at H
                            have c11b0 : (((rd_T104 l0 x5_1).f2.f0) == (IntKind.i16.wrap (x1_2))) = true := beq_iff_eq.mpr c11
                            have c11b1 : (((rd_T104 l0 x5_1).f2.f0) != (IntKind.i16.wrap (x1_2))) = false := bne_eq_false_iff_eq.mpr c11
                            clear c11
                            have H' := Aside0.mk H
                            clear H
                            have p215 : 0 ≤ (x5_1 : Int) := of_decide_eq_true (by first | (with_reducible assumption) | assumption)
                            have q215 : x5_1 < (l0.length : Int) := of_decide_eq_true (by first | (with_reducible assumption) | assumption)
                            obtain ⟨ad215, e215, hx215_0, hx215_1, hx215_2, hx215_3, hx215_4⟩ := at_T104 HR0.out x5_1 p215 q215
                            obtain rfl : ad213 = ad215 := (by injection e215)
                            replace p215 := eq_true p215
                            replace q215 := eq_true q215
                            go_wp2
                            go_roundg k2
                            case measure => have := HK1.out; have := HK2.out; omega
                            case rel => exact ⟨(wrap64 (x1_2 + 1)), (0 + 1), (by first | rfl | (simp; done) | (simp [*]; done)), (by first | rfl | (simp; done) | (simp [*]; done)), H', ⟨by have := HK1.out; have := HK2.out; omega⟩, by repeat (first | exact Drawn0.refl _ | apply Drawn0.step)⟩
                          · rw [if_neg c11] at H
                            have c11b0 : (((rd_T104 l0 x5_1).f2.f0) == (IntKind.i16.wrap (x1_2))) = false := beq_eq_false_iff_ne.mpr c11
                            have c11b1 : (((rd_T104 l0 x5_1).f2.f0) != (IntKind.i16.wrap (x1_2))) = true := bne_iff_ne.mpr c11
                            obtain rfl := Option.some.inj H
                            have p215 : 0 ≤ (x5_1 : Int) := of_decide_eq_true (by first | (with_reducible assumption) | assumption)
                            have q215 : x5_1 < (l0.length : Int) := of_decide_eq_true (by first | (with_reducible assumption) | assumption)
                            obtain ⟨ad215, e215, hx215_0, hx215_1, hx215_2, hx215_3, hx215_4⟩ := at_T104 HR0.out x5_1 p215 q215
                            obtain rfl : ad213 = ad215 := (by injection e215)
                            replace p215 := eq_true p215
                            replace q215 := eq_true q215
                            go_wp2
                            go_ret
                            exact ⟨by first | rfl | (simp; done) | (simp [*]; done), by repeat (first | exact Drawn0.refl _ | apply Drawn0.step)⟩
                        · rw [if_neg c10] at H
                          by_cases c12 : x6_2 = 1
                          · subst c12
                            have H1 : (if ((rd_T104 l0 x5_1).f2.f1) = (IntKind.i16.wrap (x1_2)) then (laws_heldForkS.l1 k2 l0 (wrap64 (x1_2 + 1)) x5_1 (1 + 1)) else (some (-1))) = some r := by rw [if_pos rfl] at H; exact H
                            clear H
                            have H := H1
                            clear H1
                            by_cases c13 : ((rd_T104 l0 x5_1).f2.f1) = (IntKind.i16.wrap (x1_2))
                            · rw [if_pos c13] at H
                              have c13b0 : (((rd_T104 l0 x5_1).f2.f1) == (IntKind.i16.wrap (x1_2))) = true := beq_iff_eq.mpr c13
                              have c13b1 : (((rd_T104 l0 x5_1).f2.f1) != (IntKind.i16.wrap (x1_2))) = false := bne_eq_false_iff_eq.mpr c13
                              clear c13
                              have H' := Aside0.mk H
                              clear H
                              have p215 : 0 ≤ (x5_1 : Int) := of_decide_eq_true (by first | (with_reducible assumption) | assumption)
                              have q215 : x5_1 < (l0.length : Int) := of_decide_eq_true (by first | (with_reducible assumption) | assumption)
                              obtain ⟨ad215, e215, hx215_0, hx215_1, hx215_2, hx215_3, hx215_4⟩ := at_T104 HR0.out x5_1 p215 q215
                              obtain rfl : ad213 = ad215 := (by injection e215)
                              replace p215 := eq_true p215
                              replace q215 := eq_true q215
                              go_wp2
                              go_roundg k2
                              case measure => have := HK1.out; have := HK2.out; omega
                              case rel => exact ⟨(wrap64 (x1_2 + 1)), (1 + 1), (by first | rfl | (simp; done) | (simp [*]; done)), (by first | rfl | (simp; done) | (simp [*]; done)), H', ⟨by have := HK1.out; have := HK2.out; omega⟩, by repeat (first | exact Drawn0.refl _ | apply Drawn0.step)⟩
                            · rw [if_neg c13] at H
                              have c13b0 : (((rd_T104 l0 x5_1).f2.f1) == (IntKind.i16.wrap (x1_2))) = false := beq_eq_false_iff_ne.mpr c13
                              have c13b1 : (((rd_T104 l0 x5_1).f2.f1) != (IntKind.i16.wrap (x1_2))) = true := bne_iff_ne.mpr c13
                              obtain rfl := Option.some.inj H
                              have p215 : 0 ≤ (x5_1 : Int) := of_decide_eq_true (by first | (with_reducible assumption) | assumption)
                              have q215 : x5_1 < (l0.length : Int) := of_decide_eq_true (by first | (with_reducible assumption) | assumption)
                              obtain ⟨ad215, e215, hx215_0, hx215_1, hx215_2, hx215_3, hx215_4⟩ := at_T104 HR0.out x5_1 p215 q215
                              obtain rfl : ad213 = ad215 := (by injection e215)
                              replace p215 := eq_true p215
                              replace q215 := eq_true q215
                              go_wp2
                              go_ret
                              exact ⟨by first | rfl | (simp; done) | (simp [*]; done), by repeat (first | exact Drawn0.refl _ | apply Drawn0.step)⟩
                          · rw [if_neg c12] at H
                            by_cases c14 : x6_2 = 2
                            · subst c14
                              have H1 : (if ((rd_T104 l0 x5_1).f2.f2) = (IntKind.i16.wrap (x1_2)) then (laws_heldForkS.l1 k2 l0 (wrap64 (x1_2 + 1)) x5_1 (2 + 1)) else (some (-1))) = some r := by rw [if_pos rfl] at H; exact H
                              clear H
                              have H := H1
                              clear H1
                              by_cases c15 : ((rd_T104 l0 x5_1).f2.f2) = (IntKind.i16.wrap (x1_2))
                              · rw [if_pos c15] at H
                                have c15b0 : (((rd_T104 l0 x5_1).f2.f2) == (IntKind.i16.wrap (x1_2))) = true := beq_iff_eq.mpr c15
                                have c15b1 : (((rd_T104 l0 x5_1).f2.f2) != (IntKind.i16.wrap (x1_2))) = false := bne_eq_false_iff_eq.mpr c15
                                clear c15
                                have H' := Aside0.mk H
                                clear H
                                have p215 : 0 ≤ (x5_1 : Int) := of_decide_eq_true (by first | (with_reducible assumption) | assumption)
                                have q215 : x5_1 < (l0.length : Int) := of_decide_eq_true (by first | (with_reducible assumption) | assumption)
                                obtain ⟨ad215, e215, hx215_0, hx215_1, hx215_2, hx215_3, hx215_4⟩ := at_T104 HR0.out x5_1 p215 q215
                                obtain rfl : ad213 = ad215 := (by injection e215)
                                replace p215 := eq_true p215
                                replace q215 := eq_true q215
                                go_wp2
                                go_roundg k2
                                case measure => have := HK1.out; have := HK2.out; omega
                                case rel => exact ⟨(wrap64 (x1_2 + 1)), (2 + 1), (by first | rfl | (simp; done) | (simp [*]; done)), (by first | rfl | (simp; done) | (simp [*]; done)), H', ⟨by have := HK1.out; have := HK2.out; omega⟩, by repeat (first | exact Drawn0.refl _ | apply Drawn0.step)⟩
                              · rw [if_neg c15] at H
                                have c15b0 : (((rd_T104 l0 x5_1).f2.f2) == (IntKind.i16.wrap (x1_2))) = false := beq_eq_false_iff_ne.mpr c15
                                have c15b1 : (((rd_T104 l0 x5_1).f2.f2) != (IntKind.i16.wrap (x1_2))) = true := bne_iff_ne.mpr c15
                                obtain rfl := Option.some.inj H
                                have p215 : 0 ≤ (x5_1 : Int) := of_decide_eq_true (by first | (with_reducible assumption) | assumption)
                                have q215 : x5_1 < (l0.length : Int) := of_decide_eq_true (by first | (with_reducible assumption) | assumption)
                                obtain ⟨ad215, e215, hx215_0, hx215_1, hx215_2, hx215_3, hx215_4⟩ := at_T104 HR0.out x5_1 p215 q215
                                obtain rfl : ad213 = ad215 := (by injection e215)
                                replace p215 := eq_true p215
                                replace q215 := eq_true q215
                                go_wp2
                                go_ret
                                exact ⟨by first | rfl | (simp; done) | (simp [*]; done), by repeat (first | exact Drawn0.refl _ | apply Drawn0.step)⟩
                            · rw [if_neg c14] at H
                              exact absurd H (by simp)
                      · rw [if_neg c9] at H
                        exact absurd H (by simp)
                    · rw [if_neg c8] at H
                      exact absurd H (by simp)
                  · rw [if_neg c7] at H
                    have c7b0 : decide (x6_2 < 3) = false := decide_eq_false c7
                    clear c7
                    have H' := Aside0.mk H
                    clear H
                    go_wp2
                    go_roundg k2
                    case measure => have := HK1.out; have := HK2.out; omega
                    case rel => exact ⟨(x1_2), (wrap64 (x5_1 + 1)), (by first | rfl | (simp; done) | (simp [*]; done)), (by first | rfl | (simp; done) | (simp [*]; done)), H', ⟨by have := HK1.out; have := HK2.out; omega⟩, by repeat (first | exact Drawn0.refl _ | apply Drawn0.step)⟩
            · rw [if_neg c6] at H
              have c6b0 : (((rd_T104 l0 x5_1).f1) == (IntKind.i8.wrap (wrap64 (x1_1 + 1)))) = false := beq_eq_false_iff_ne.mpr c6
              have c6b1 : (((rd_T104 l0 x5_1).f1) != (IntKind.i8.wrap (wrap64 (x1_1 + 1)))) = true := bne_iff_ne.mpr c6
              obtain rfl := Option.some.inj H
              have p213 : 0 ≤ (x5_1 : Int) := of_decide_eq_true (by first | (with_reducible assumption) | assumption)
              have q213 : x5_1 < (l0.length : Int) := of_decide_eq_true (by first | (with_reducible assumption) | assumption)
              obtain ⟨ad213, e213, hx213_0, hx213_1, hx213_2, hx213_3, hx213_4⟩ := at_T104 HR0.out x5_1 p213 q213
              cases e213
              replace p213 := eq_true p213
              replace q213 := eq_true q213
              have p214 : 0 ≤ (x5_1 : Int) := of_decide_eq_true (by first | (with_reducible assumption) | assumption)
              have q214 : x5_1 < (l0.length : Int) := of_decide_eq_true (by first | (with_reducible assumption) | assumption)
              obtain ⟨ad214, e214, hx214_0, hx214_1, hx214_2, hx214_3, hx214_4⟩ := at_T104 HR0.out x5_1 p214 q214
              obtain rfl : ad213 = ad214 := (by injection e214)
              replace p214 := eq_true p214
              replace q214 := eq_true q214
              go_wp2
              go_ret
              exact ⟨by first | rfl | (simp; done) | (simp [*]; done), by repeat (first | exact Drawn0.refl _ | apply Drawn0.step)⟩
          · rw [if_neg c5] at H
            have c5b0 : (((rd_T104 l0 x5_1).f0) == (IntKind.i8.wrap (x1_1))) = false := beq_eq_false_iff_ne.mpr c5
            have c5b1 : (((rd_T104 l0 x5_1).f0) != (IntKind.i8.wrap (x1_1))) = true := bne_iff_ne.mpr c5
            obtain rfl := Option.some.inj H
            have p213 : 0 ≤ (x5_1 : Int) := of_decide_eq_true (by first | (with_reducible assumption) | assumption)
            have q213 : x5_1 < (l0.length : Int) := of_decide_eq_true (by first | (with_reducible assumption) | assumption)
            obtain ⟨ad213, e213, hx213_0, hx213_1, hx213_2, hx213_3, hx213_4⟩ := at_T104 HR0.out x5_1 p213 q213
            cases e213
            replace p213 := eq_true p213
            replace q213 := eq_true q213
            go_wp2
            go_ret
            exact ⟨by first | rfl | (simp; done) | (simp [*]; done), by repeat (first | exact Drawn0.refl _ | apply Drawn0.step)⟩
        · rw [if_neg c4] at H
          exact absurd H (by simp)
      · rw [if_neg c3] at H
        have c3b0 : decide (x5_1 < (l0.length : Int)) = false := decide_eq_false c3
        clear c3
        obtain rfl := Option.some.inj H
        go_wp2
        go_ret
        exact ⟨by first | rfl | (simp; done) | (simp [*]; done), by repeat (first | exact Drawn0.refl _ | apply Drawn0.step)⟩

/-! ### laws_heldTree: function 39 -/
def laws_heldTree.f (k : Nat) (l0_0 : List (S104)) (a1 : Int) : Option (Int) := (laws_heldForkS.f k l0_0 a1).bind fun t217 => (if t217 < 0 then (some (-1)) else (some t217))
theorem laws_heldTree.mono : ∀ a0 a1 k, LeO (laws_heldTree.f k a0 a1) (laws_heldTree.f (k + 1) a0 a1) := by
  intro a0 a1 k
  unfold laws_heldTree.f
  repeat' first
      | (with_reducible exact laws_heldForkS.mono _ _ _)
      | (with_reducible exact LeO.refl _)
      | (with_reducible exact LeO.none _)
      | (with_reducible refine LeO.ite ?_ ?_)
      | (with_reducible refine LeO.bind ?_ (fun _ => ?_))
      | exact laws_heldForkS.mono _ _ _
      | exact LeO.none _
      | refine LeO.ite ?_ ?_
      | refine LeO.bind ?_ (fun _ => ?_)
set_option maxHeartbeats 8000000 in
set_option maxRecDepth 100000 in
theorem laws_heldTree.calls (k : Nat) (A0_0 : Option Addr) (c0_0 : Nat) (l0_0 : List (S104)) (a1 : Int) (r : Int) (w : World) (hr0_0 : Kd.C k104 w A0_0 l0_0.length l0_0) (hc0_0 : l0_0.length ≤ c0_0) (h : laws_heldTree.f k l0_0 a1 = some r) :
    Calls Try.prog 39 #[.agg #[.slice A0_0 l0_0.length c0_0], .int .i64 a1] w fun e w' => e = .returned (.int .i64 r) ∧ Below w.heap.size w w' := by
  have hu55 := Try.underlying55
  have HR0_0 := Aside0.mk hr0_0
  have HC0_0 := Aside0.mk hc0_0
  clear hr0_0 hc0_0
  have HB := Aside0.mk (Below.refl w.heap.size w)
  have H : ((laws_heldForkS.f k l0_0 a1).bind fun t217 => (if t217 < 0 then (some (-1)) else (some t217))) = some r := h
  clear h
  replace H := Option.bind_eq_some_iff.mp H
  obtain ⟨t217, A30, H⟩ := H
  replace H : (if t217 < 0 then (some (-1)) else (some t217)) = some r := H
  have A3 := Aside0.mk A30
  clear A30
  by_cases c4 : t217 < 0
  · rw [if_pos c4] at H
    have c4b0 : decide (t217 < 0) = true := decide_eq_true c4
    clear c4
    obtain rfl := Option.some.inj H
    go_enter Try.func39, Try.ntmps39
    go_wp2_with (first | ((with_reducible refine gate_dst (N := 2) rfl ?_); refine box_event ?hg (N := 2) ?hd (cs := #[.slice A0_0 l0_0.length c0_0]) (t := 55) ?hr ?_; (case hd => rfl); (case hg => rfl); (case hr => first | (go_simp; done) | (go_simp; rfl)); intro gb216 hg w5 hbox hb; have n0_ := Aside0.mk (below_step (by repeat (first | (with_reducible first | exact HB.out | apply below_alloc | apply pw_below_drewN | apply below_drew1) | exact HB.out)) hb); have n1_ := Aside0.mk (hbox); have n2_ := Aside0.mk ((by rw [hg]; exact (below_size (by repeat (first | (with_reducible first | exact HB.out | apply below_alloc | apply pw_below_drewN | apply below_drew1) | exact HB.out))) : w.heap.size ≤ gb216)); have n3_ := Aside0.mk ((by rw [hg]; exact (below_size (by repeat (first | (with_reducible first | exact HB.out | apply below_alloc | apply pw_below_drewN | apply below_drew1) | exact HB.out))) : w.heap.size ≤ gb216)); clear HB; have HB := n0_; have BK216 := n1_; have GW216 := n2_; have GE216 := n3_; clear n0_ n1_ n2_ n3_; clear hb hbox hg; have hcz6_0 : w5.cell? ⟨gb216, 0, none⟩ = some (.slice A0_0 l0_0.length c0_0) := (blk_cell BK216.out 0).trans rfl; have hfz6_0 := blk_frozen BK216.out 0) | ((with_reducible refine gate_callee (f := 76) rfl ?_); refine goesL_ (some 8) rfl rfl Try.func76 (by kernel_rfl) rfl #[.slice A0_0 l0_0.length c0_0, .int .i64 a1] rfl (by (try simp only [List.map_toArray, List.map_cons, List.map_nil]); first | done | rfl | (simp only [List.length_drop, List.length_take]; rfl)) ?_; (with_reducible refine (laws_heldForkS.calls k _ _ l0_0 a1 t217 _ ?side1 ?side2 A3.out).mono ?_); (case side1 => repeat (first | exact (Kd.C_below HR0_0.out HB.out) | (with_reducible refine Kd.C_alloc ?_ _) | (with_reducible refine Kd.C_drewN ?_ _) | (with_reducible refine Kd.C_drew ?_))); (case side2 => exact HC0_0.out); rintro e w' ⟨rfl, ⟨nd, rfl⟩⟩; refine ⟨_, rfl, ?_⟩))
    go_ret
    exact ⟨by first | rfl | (simp [errW_none, errW_some] <;> rfl) | (simp [*, errW_none, errW_some] <;> rfl), by repeat (first | (with_reducible first | exact HB.out | apply below_alloc | apply pw_below_drewN | apply below_drew1 | refine below_set ?_ GE216.out) | exact HB.out)⟩
  · rw [if_neg c4] at H
    have c4b0 : decide (t217 < 0) = false := decide_eq_false c4
    clear c4
    obtain rfl := Option.some.inj H
    go_enter Try.func39, Try.ntmps39
    go_wp2_with (first | ((with_reducible refine gate_dst (N := 2) rfl ?_); refine box_event ?hg (N := 2) ?hd (cs := #[.slice A0_0 l0_0.length c0_0]) (t := 55) ?hr ?_; (case hd => rfl); (case hg => rfl); (case hr => first | (go_simp; done) | (go_simp; rfl)); intro gb216 hg w7 hbox hb; have n0_ := Aside0.mk (below_step (by repeat (first | (with_reducible first | exact HB.out | apply below_alloc | apply pw_below_drewN | apply below_drew1) | exact HB.out)) hb); have n1_ := Aside0.mk (hbox); have n2_ := Aside0.mk ((by rw [hg]; exact (below_size (by repeat (first | (with_reducible first | exact HB.out | apply below_alloc | apply pw_below_drewN | apply below_drew1) | exact HB.out))) : w.heap.size ≤ gb216)); have n3_ := Aside0.mk ((by rw [hg]; exact (below_size (by repeat (first | (with_reducible first | exact HB.out | apply below_alloc | apply pw_below_drewN | apply below_drew1) | exact HB.out))) : w.heap.size ≤ gb216)); clear HB; have HB := n0_; have BK216 := n1_; have GW216 := n2_; have GE216 := n3_; clear n0_ n1_ n2_ n3_; clear hb hbox hg; have hcz8_0 : w7.cell? ⟨gb216, 0, none⟩ = some (.slice A0_0 l0_0.length c0_0) := (blk_cell BK216.out 0).trans rfl; have hfz8_0 := blk_frozen BK216.out 0) | ((with_reducible refine gate_callee (f := 76) rfl ?_); refine goesL_ (some 8) rfl rfl Try.func76 (by kernel_rfl) rfl #[.slice A0_0 l0_0.length c0_0, .int .i64 a1] rfl (by (try simp only [List.map_toArray, List.map_cons, List.map_nil]); first | done | rfl | (simp only [List.length_drop, List.length_take]; rfl)) ?_; (with_reducible refine (laws_heldForkS.calls k _ _ l0_0 a1 t217 _ ?side1 ?side2 A3.out).mono ?_); (case side1 => repeat (first | exact (Kd.C_below HR0_0.out HB.out) | (with_reducible refine Kd.C_alloc ?_ _) | (with_reducible refine Kd.C_drewN ?_ _) | (with_reducible refine Kd.C_drew ?_))); (case side2 => exact HC0_0.out); rintro e w' ⟨rfl, ⟨nd, rfl⟩⟩; refine ⟨_, rfl, ?_⟩))
    go_ret
    exact ⟨by first | rfl | (simp [errW_none, errW_some] <;> rfl) | (simp [*, errW_none, errW_some] <;> rfl), by repeat (first | (with_reducible first | exact HB.out | apply below_alloc | apply pw_below_drewN | apply below_drew1 | refine below_set ?_ GE216.out) | exact HB.out)⟩

end Go.Proofs.Ytfenifdigjcmiaa.MFnExactStreamTree
