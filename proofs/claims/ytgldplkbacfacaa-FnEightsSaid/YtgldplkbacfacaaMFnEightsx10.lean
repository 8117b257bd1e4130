/- Functions as Lean functions, with proofs. By a program of this session. -/
import Derived.Test.YtgldplkbacfacaaMFnEightsx0
import Derived.Test.YtgldplkbacfacaaMFnEightsx6
import Derived.Test.YtgldplkbacfacaaMFnEightsx9
namespace Go.Proofs.Ytgldplkbacfacaa.MFnEights
open Go.RowKit Go.Proofs.Ytgldplkbacfacaa.MOpen Go.Proofs.YtgldplkbacfacaaW.PrintWords Go.Proofs.YtgldplkbacfacaaW.PrintLast Go.Proofs.YtgldplkbacfacaaW.PrintMore
attribute [local go_sem] max2_int min2_int max_two min_two max_three min_three max_four min_four
set_option linter.unusedVariables false
set_option linter.unusedSimpArgs false

theorem nem {gq gm : Nat} {bl : List (Nat × Array Value × Nat)} {c : Array Value} {U : Nat} (h : gq ≠ gm ∧ (∀ p ∈ bl, p.1 ≠ gm) ∧ ∀ p ∈ bl, p.1 ≠ gq) : ∀ p ∈ ((gq, c, U) :: bl), p.1 ≠ gm := by
  intro p hp
  rcases List.mem_cons.1 hp with rfl | hp
  · exact h.1
  · exact h.2.1 p hp
theorem HB8.row {b : Nat} {w0 w : World} {gw gq : Nat} {ms : List S52} {gs : List Int} {ov o2 : Bool} {bl : List (Nat × Array Value × Nat)} {kd : Int} {xs : List Int} {A : Option Addr} {c : Nat} {tk t0 t1 t2 t3 r0 r1 r2 r3 : Int} {wi : World} (hX : HB8 71 b w0 w gw ms gs ov bl) (hm : (gq, #[.int .i8 kd, .slice A xs.length c, .int .i64 tk], 101) ∈ bl) (hr : Kd.C (Kd.int .i64) wi A xs.length xs) (hw : Below wi.heap.size wi w) (hk : kd = 2 ∨ kd = 3) (h0 : 0 ≤ tk) (h1 : tk ≤ (xs.length : Int)) (hf : rowF ov kd xs tk t0 t1 t2 t3 = some ((r0, r1, r2, r3), o2)) :
    Calls Try.prog 83 #[.pointer (some ⟨gq, 0, none⟩), .pointer (some ⟨gw, 0, none⟩), .agg #[.int .i64 t0, .int .i64 t1, .int .i64 t2, .int .i64 t3]] w fun e w' => e = .returned (.agg #[.int .i64 r0, .int .i64 r1, .int .i64 r2, .int .i64 r3]) ∧ HB8 71 b w0 w' gw ms gs o2 bl :=
  impl_row b gw gq ms gs ov o2 bl kd xs A c tk t0 t1 t2 t3 r0 r1 r2 r3 w0 w hX hm (Kd.C_below hr hw) hk h0 h1 hf
set_option maxHeartbeats 16000000 in
set_option maxRecDepth 100000 in
theorem impl_eight_take (b gw gm gq : Nat) (ms : List S52) (gs : List Int) (ov o1 o2 : Bool) (bl : List (Nat × Array Value × Nat)) (kd : Int) (xs : List Int) (A : Option Addr) (c : Nat) (tk T0 T1 T2 T3 L0 L1 L2 L3 a0 a1 a2 a3 b0 b1 b2 b3 : Int) (w0 w : World) (hX : HB8 71 b w0 w gw ms gs ov ((gm, #[.int .i64 T0, .int .i64 T1, .int .i64 T2, .int .i64 T3, .int .i64 L0, .int .i64 L1, .int .i64 L2, .int .i64 L3], 42) :: (gq, #[.int .i8 kd, .slice A xs.length c, .int .i64 tk], 101) :: bl)) (hn : gq ≠ gm ∧ (∀ p ∈ bl, p.1 ≠ gm) ∧ ∀ p ∈ bl, p.1 ≠ gq) (hr : Kd.C (Kd.int .i64) w0 A xs.length xs) (hb0 : b = w0.heap.size) (hc : xs.length ≤ c) (hk : kd = 2 ∨ kd = 3) (h0 : 0 ≤ tk) (h1 : tk ≤ (xs.length : Int)) (hx : xs.length < 1000000) (hl : ms.length < 1000000) (hf : rowF ov kd xs tk T0 T1 T2 T3 = some ((a0, a1, a2, a3), o1)) (hg : rowF o1 kd xs tk L0 L1 L2 L3 = some ((b0, b1, b2, b3), o2)) :
    Calls Try.prog 71 #[.pointer (some ⟨gm, 0, none⟩), .pointer (some ⟨gw, 0, none⟩), .pointer (some ⟨gq, 0, none⟩)] w fun e w' => e = .returned (.tuple #[]) ∧ HB8 71 b w0 w' gw (ms ++ [⟨kd, if tk < (xs.length : Int) then rd xs tk else 0⟩]) gs o2 ((gm, #[.int .i64 a0, .int .i64 a1, .int .i64 a2, .int .i64 a3, .int .i64 b0, .int .i64 b1, .int .i64 b2, .int .i64 b3], 42) :: (gq, #[.int .i8 kd, .slice A xs.length c, .int .i64 (tk + 1)], 101) :: bl) := by
  subst hb0
  have X0 := Aside0.mk hX
  have HR := Aside0.mk hr
  have HN := Aside0.mk hn
  have HF := Aside0.mk hf
  have HG := Aside0.mk hg
  have HC := Aside0.mk hc
  have hu42 := Try.underlying42
  have hu38 := Try.underlying38
  clear hX hr hn hf hg hc
  by_cases cl : tk < (xs.length : Int)
  · rw [if_pos cl]
    have f1 : decide (tk < (xs.length : Int)) = true := decide_eq_true cl
    obtain ⟨ad, e0_, hx0⟩ := Kd.at_int HR.out tk (by omega) (by omega)
    cases e0_
    have hxi := (X0.out.bel.cell (World.block_lt_of_cell? w0 _ hx0)).trans hx0
    have p0 := eq_true h0
    have p1 := eq_true cl
    have HX0 := Aside0.mk hx0
    clear hx0
    have sa0 := (blk_cell X0.out.at1 0).trans (show _ = some (Value.int .i8 _) from rfl)
    have sb0 := (blk_cell X0.out.at1 1).trans (show _ = some (Value.slice (some ad) xs.length c) from rfl)
    have sc0 := (blk_cell X0.out.at1 2).trans (show _ = some (Value.int .i64 tk) from rfl)
    go_enter Try.func71, Try.ntmps71
    go_wp2
    go_quiet (fail)
    have X1 := Aside0.mk (X0.out.below (pw_below_drewN (Below.refl _ _) nq))
    generalize w.drewN nq = w1 at X1 ⊢
    clear sa0 sb0 sc0 hxi
    have hxi := (X1.out.bel.cell (World.block_lt_of_cell? w0 _ HX0.out)).trans HX0.out
    have sa1 := (blk_cell X1.out.at1 0).trans (show _ = some (Value.int .i8 _) from rfl)
    have sb1 := (blk_cell X1.out.at1 1).trans (show _ = some (Value.slice (some ad) xs.length c) from rfl)
    have sc1 := (blk_cell X1.out.at1 2).trans (show _ = some (Value.int .i64 tk) from rfl)
    go_wp2
    go_quiet (fail)
    have X2 := Aside0.mk (X1.out.below (pw_below_drewN (Below.refl _ _) nq))
    generalize w1.drewN nq = w2 at X2 ⊢
    clear sa1 sb1 sc1 hxi p0 p1
    have sa2 := (blk_cell X2.out.at1 0).trans (show _ = some (Value.int .i8 _) from rfl)
    have sb2 := (blk_cell X2.out.at1 1).trans (show _ = some (Value.slice (some ad) xs.length c) from rfl)
    have sc2 := (blk_cell X2.out.at1 2).trans (show _ = some (Value.int .i64 tk) from rfl)
    go_wp2_with (first | (go_at_call 79; (with_reducible refine (impl_take w0.heap.size gw ms gs ov kd (rd xs tk) w0 _ ?u1 ?u2 ?u3 hl).mono ?_); (case u1 => exact X2.out.n); (case u2 => exact X2.out.bel); (case u3 => exact X2.out.sz); rintro e w3 ⟨rfl, hn, hb, hk_⟩; have X3 := Aside0.mk (X2.out.note hn hb hk_); clear hn hb hk_))
    have XD := Aside0.mk X3.out.drew
    refine start_ (n := 22) (S := fun w' => w'.cell? ⟨gm, 0, none⟩ = some (.int .i64 T0) ∧ w'.cell? ⟨gm, 1, none⟩ = some (.int .i64 T1) ∧ w'.cell? ⟨gm, 2, none⟩ = some (.int .i64 T2) ∧ w'.cell? ⟨gm, 3, none⟩ = some (.int .i64 T3) ∧ w'.cell? ⟨gm, 4, none⟩ = some (.int .i64 L0) ∧ w'.cell? ⟨gm, 5, none⟩ = some (.int .i64 L1) ∧ w'.cell? ⟨gm, 6, none⟩ = some (.int .i64 L2) ∧ w'.cell? ⟨gm, 7, none⟩ = some (.int .i64 L3)) (ds := [18, 21]) #[false, false, false, false, false, false, false, false, false, false, false, false, false, false, false, false, false, false, false, false, false, false] (by kernel_rfl) rfl rfl ⟨(blk_cell XD.out.at0 0).trans rfl, (blk_cell XD.out.at0 1).trans rfl, (blk_cell XD.out.at0 2).trans rfl, (blk_cell XD.out.at0 3).trans rfl, (blk_cell XD.out.at0 4).trans rfl, (blk_cell XD.out.at0 5).trans rfl, (blk_cell XD.out.at0 6).trans rfl, (blk_cell XD.out.at0 7).trans rfl⟩ (fun hHeld => ?_)
    refine pure_ (i := 0) (N := some 34) (v := ?_) (a' := ?_) #[true, false, false, false, false, false, false, false, false, false, false, false, false, false, false, false, false, false, false, false, false, false] rfl rfl (by kernel_rfl) (fun _ _ _ h => h) (Or.inl ⟨by rfl, ?_⟩) ?_ ?_
    rotate_left
    · intro w'
      go_simp
      with_reducible rfl
    rotate_left
    · simp only [Act.put, sa_, sz_, ss_, i64_w, i32_w]
      rfl
    refine pure_ (i := 1) (N := some 35) (v := ?_) (a' := ?_) #[true, true, false, false, false, false, false, false, false, false, false, false, false, false, false, false, false, false, false, false, false, false] rfl rfl (by kernel_rfl) (fun _ _ _ h => h) (Or.inl ⟨by rfl, ?_⟩) ?_ ?_
    rotate_left
    · intro w'
      go_simp
      with_reducible rfl
    rotate_left
    · simp only [Act.put, sa_, sz_, ss_, i64_w, i32_w]
      rfl
    refine pure_ (i := 2) (N := some 36) (v := ?_) (a' := ?_) #[true, true, true, false, false, false, false, false, false, false, false, false, false, false, false, false, false, false, false, false, false, false] rfl rfl (by kernel_rfl) (fun _ _ _ h => h) (Or.inl ⟨by rfl, ?_⟩) ?_ ?_
    rotate_left
    · intro w'
      go_simp
      with_reducible rfl
    rotate_left
    · simp only [Act.put, sa_, sz_, ss_, i64_w, i32_w]
      rfl
    refine pure_ (i := 3) (N := some 37) (v := ?_) (a' := ?_) #[true, true, true, true, false, false, false, false, false, false, false, false, false, false, false, false, false, false, false, false, false, false] rfl rfl (by kernel_rfl) (fun _ _ _ h => h) (Or.inl ⟨by rfl, ?_⟩) ?_ ?_
    rotate_left
    · intro w'
      go_simp
      with_reducible rfl
    rotate_left
    · simp only [Act.put, sa_, sz_, ss_, i64_w, i32_w]
      rfl
    refine pure_ (i := 4) (N := some 38) (v := ?_) (a' := ?_) #[true, true, true, true, true, false, false, false, false, false, false, false, false, false, false, false, false, false, false, false, false, false] rfl rfl (by kernel_rfl) (fun _ _ _ h => h) (Or.inl ⟨by rfl, ?_⟩) ?_ ?_
    rotate_left
    · intro w'
      go_simp
      with_reducible rfl
    rotate_left
    · simp only [Act.put, sa_, sz_, ss_, i64_w, i32_w]
      rfl
    refine pure_ (i := 5) (N := some 39) (v := ?_) (a' := ?_) #[true, true, true, true, true, true, false, false, false, false, false, false, false, false, false, false, false, false, false, false, false, false] rfl rfl (by kernel_rfl) (fun _ _ _ h => h) (Or.inl ⟨by rfl, ?_⟩) ?_ ?_
    rotate_left
    · intro w'
      go_simp
      with_reducible rfl
    rotate_left
    · simp only [Act.put, sa_, sz_, ss_, i64_w, i32_w]
      rfl
    refine pure_ (i := 6) (N := some 40) (v := ?_) (a' := ?_) #[true, true, true, true, true, true, true, false, false, false, false, false, false, false, false, false, false, false, false, false, false, false] rfl rfl (by kernel_rfl) (fun _ _ _ h => h) (Or.inl ⟨by rfl, ?_⟩) ?_ ?_
    rotate_left
    · intro w'
      go_simp
      with_reducible rfl
    rotate_left
    · simp only [Act.put, sa_, sz_, ss_, i64_w, i32_w]
      rfl
    refine pure_ (i := 9) (N := some 43) (v := ?_) (a' := ?_) #[true, true, true, true, true, true, true, false, false, true, false, false, false, false, false, false, false, false, false, false, false, false] rfl rfl (by kernel_rfl) (fun _ _ _ h => h) (Or.inl ⟨by rfl, ?_⟩) ?_ ?_
    rotate_left
    · intro w'
      go_simp
      with_reducible rfl
    rotate_left
    · simp only [Act.put, sa_, sz_, ss_, i64_w, i32_w]
      rfl
    refine pure_ (i := 10) (N := some 44) (v := ?_) (a' := ?_) #[true, true, true, true, true, true, true, false, false, true, true, false, false, false, false, false, false, false, false, false, false, false] rfl rfl (by kernel_rfl) (fun _ _ _ h => h) (Or.inl ⟨by rfl, ?_⟩) ?_ ?_
    rotate_left
    · intro w'
      go_simp
      with_reducible rfl
    rotate_left
    · simp only [Act.put, sa_, sz_, ss_, i64_w, i32_w]
      rfl
    refine pure_ (i := 11) (N := some 45) (v := ?_) (a' := ?_) #[true, true, true, true, true, true, true, false, false, true, true, true, false, false, false, false, false, false, false, false, false, false] rfl rfl (by kernel_rfl) (fun _ _ _ h => h) (Or.inl ⟨by rfl, ?_⟩) ?_ ?_
    rotate_left
    · intro w'
      go_simp
      with_reducible rfl
    rotate_left
    · simp only [Act.put, sa_, sz_, ss_, i64_w, i32_w]
      rfl
    refine pure_ (i := 12) (N := some 46) (v := ?_) (a' := ?_) #[true, true, true, true, true, true, true, false, false, true, true, true, true, false, false, false, false, false, false, false, false, false] rfl rfl (by kernel_rfl) (fun _ _ _ h => h) (Or.inl ⟨by rfl, ?_⟩) ?_ ?_
    rotate_left
    · intro w'
      go_simp
      with_reducible rfl
    rotate_left
    · simp only [Act.put, sa_, sz_, ss_, i64_w, i32_w]
      rfl
    refine pure_ (i := 13) (N := some 47) (v := ?_) (a' := ?_) #[true, true, true, true, true, true, true, false, false, true, true, true, true, true, false, false, false, false, false, false, false, false] rfl rfl (by kernel_rfl) (fun _ _ _ h => h) (Or.inl ⟨by rfl, ?_⟩) ?_ ?_
    rotate_left
    · intro w'
      go_simp
      with_reducible rfl
    rotate_left
    · simp only [Act.put, sa_, sz_, ss_, i64_w, i32_w]
      rfl
    refine take_ (i := 7) (N := some 41) (v := ?_) (a' := ?_) #[true, true, true, true, true, true, true, true, false, true, true, true, true, true, false, false, false, false, false, false, false, false] rfl rfl (by kernel_rfl) (fun _ _ _ h => h) (Or.inl ⟨by rfl, ?_⟩) hHeld ?_ ?_
    rotate_left
    · rintro w' ⟨s0, s1, s2, s3, s4, s5, s6, s7⟩
      go_simp
      with_reducible rfl
    rotate_left
    · simp only [Act.put, sa_, sz_, ss_, i64_w, i32_w]
      rfl
    refine take_ (i := 14) (N := some 48) (v := ?_) (a' := ?_) #[true, true, true, true, true, true, true, true, false, true, true, true, true, true, true, false, false, false, false, false, false, false] rfl rfl (by kernel_rfl) (fun _ _ _ h => h) (Or.inl ⟨by rfl, ?_⟩) hHeld ?_ ?_
    rotate_left
    · rintro w' ⟨s0, s1, s2, s3, s4, s5, s6, s7⟩
      go_simp
      with_reducible rfl
    rotate_left
    · simp only [Act.put, sa_, sz_, ss_, i64_w, i32_w]
      rfl
    refine one_ (i := 8) (N := some 42) #[true, true, true, true, true, true, true, true, true, true, true, true, true, true, true, false, false, false, false, false, false, false] rfl rfl (by kernel_rfl) (by decide) (fun K hK => ?_)
    refine goes_ Try.func83 (by kernel_rfl) rfl #[.pointer (some ⟨gq, 0, none⟩), .pointer (some ⟨gw, 0, none⟩), .agg #[.int .i64 T0, .int .i64 T1, .int .i64 T2, .int .i64 T3]] (by rfl) rfl rfl (by simp only [List.map_toArray, List.map_cons, List.map_nil]; rfl) ?_
    with_reducible refine (HB8.row XD.out (List.mem_cons_of_mem _ List.mem_cons_self) HR.out XD.out.bel hk h0 h1 HF.out).mono ?_
    rintro e w4 ⟨rfl, hX⟩
    refine ⟨_, rfl, ?_⟩
    have X4 := Aside0.mk hX
    clear hX
    refine hK.out _ _ ⟨(blk_cell X4.out.at0 0).trans rfl, (blk_cell X4.out.at0 1).trans rfl, (blk_cell X4.out.at0 2).trans rfl, (blk_cell X4.out.at0 3).trans rfl, (blk_cell X4.out.at0 4).trans rfl, (blk_cell X4.out.at0 5).trans rfl, (blk_cell X4.out.at0 6).trans rfl, (blk_cell X4.out.at0 7).trans rfl⟩ (fun hHeld => ?_)
    clear hK K
    refine norm_ (a' := ?_) ?_ ?_
    rotate_left
    · show Act.put _ (some 42) _ = _
      simp only [Act.put, sa_, sz_, ss_, i64_w, i32_w]
      rfl
    refine one_ (i := 15) (N := some 49) #[true, true, true, true, true, true, true, true, true, true, true, true, true, true, true, true, false, false, false, false, false, false] rfl rfl (by kernel_rfl) (by decide) (fun K hK => ?_)
    refine goes_ Try.func83 (by kernel_rfl) rfl #[.pointer (some ⟨gq, 0, none⟩), .pointer (some ⟨gw, 0, none⟩), .agg #[.int .i64 L0, .int .i64 L1, .int .i64 L2, .int .i64 L3]] (by rfl) rfl rfl (by simp only [List.map_toArray, List.map_cons, List.map_nil]; rfl) ?_
    with_reducible refine (HB8.row X4.out (List.mem_cons_of_mem _ List.mem_cons_self) HR.out X4.out.bel hk h0 h1 HG.out).mono ?_
    rintro e w5 ⟨rfl, hX⟩
    refine ⟨_, rfl, ?_⟩
    have X5 := Aside0.mk hX
    clear hX
    refine hK.out _ _ ⟨(blk_cell X5.out.at0 0).trans rfl, (blk_cell X5.out.at0 1).trans rfl, (blk_cell X5.out.at0 2).trans rfl, (blk_cell X5.out.at0 3).trans rfl, (blk_cell X5.out.at0 4).trans rfl, (blk_cell X5.out.at0 5).trans rfl, (blk_cell X5.out.at0 6).trans rfl, (blk_cell X5.out.at0 7).trans rfl⟩ (fun hHeld => ?_)
    clear hK K
    refine norm_ (a' := ?_) ?_ ?_
    rotate_left
    · show Act.put _ (some 49) _ = _
      simp only [Act.put, sa_, sz_, ss_, i64_w, i32_w]
      rfl
    refine pure_ (i := 16) (N := some 50) (v := ?_) (a' := ?_) #[true, true, true, true, true, true, true, true, true, true, true, true, true, true, true, true, true, false, false, false, false, false] rfl rfl (by kernel_rfl) (fun _ _ _ h => h) (Or.inl ⟨by rfl, ?_⟩) ?_ ?_
    rotate_left
    · intro w'
      go_simp
      with_reducible rfl
    rotate_left
    · simp only [Act.put, sa_, sz_, ss_, i64_w, i32_w]
      rfl
    refine pure_ (i := 17) (N := some 51) (v := ?_) (a' := ?_) #[true, true, true, true, true, true, true, true, true, true, true, true, true, true, true, true, true, true, false, false, false, false] rfl rfl (by kernel_rfl) (fun _ _ _ h => h) (Or.inl ⟨by rfl, ?_⟩) ?_ ?_
    rotate_left
    · intro w'
      go_simp
      with_reducible rfl
    rotate_left
    · simp only [Act.put, sa_, sz_, ss_, i64_w, i32_w]
      rfl
    refine last_ (i := 18) (N := none) #[true, true, true, true, true, true, true, true, true, true, true, true, true, true, true, true, true, true, true, false, false, false] rfl rfl (by kernel_rfl) (by decide) (fun K hK => ?_)
    obtain ⟨⟨q0x5, q1x5, q2x5, q3x5, q4x5, q5x5, q6x5, q7x5⟩, z0x5, z1x5, z2x5, z3x5, z4x5, z5x5, z6x5, z7x5⟩ := cells8 X5.out.at0
    refine skip_ (w1 := ?_) (by rfl) rfl ?_ ?_
    rotate_left
    · go_simp
      rfl
    refine hK.out _ _ ?_
    clear hK K
    refine pure_ (i := 19) (N := some 52) (v := ?_) (a' := ?_) #[true, true, true, true, true, true, true, true, true, true, true, true, true, true, true, true, true, true, true, true, false, false] rfl rfl (by kernel_rfl) (fun _ _ _ h => h) (Or.inl ⟨by rfl, ?_⟩) ?_ ?_
    rotate_left
    · intro w'
      go_simp
      with_reducible rfl
    rotate_left
    · simp only [Act.put, sa_, sz_, ss_, i64_w, i32_w]
      rfl
    refine pure_ (i := 20) (N := some 53) (v := ?_) (a' := ?_) #[true, true, true, true, true, true, true, true, true, true, true, true, true, true, true, true, true, true, true, true, true, false] rfl rfl (by kernel_rfl) (fun _ _ _ h => h) (Or.inl ⟨by rfl, ?_⟩) ?_ ?_
    rotate_left
    · intro w'
      go_simp
      with_reducible rfl
    rotate_left
    · simp only [Act.put, sa_, sz_, ss_, i64_w, i32_w]
      rfl
    refine last_ (i := 21) (N := none) #[true, true, true, true, true, true, true, true, true, true, true, true, true, true, true, true, true, true, true, true, true, true] rfl rfl (by kernel_rfl) (by decide) (fun K hK => ?_)
    have X6 := Aside0.mk (X5.out.putlo_0 (nem HN.out) (rfl : (World.setCell (World.setCell (World.setCell (World.setCell w5 ⟨gm, 0, none⟩ (.int .i64 a0)) ⟨gm, 1, none⟩ (.int .i64 a1)) ⟨gm, 2, none⟩ (.int .i64 a2)) ⟨gm, 3, none⟩ (.int .i64 a3)) = _))
    obtain ⟨⟨q0x6, q1x6, q2x6, q3x6, q4x6, q5x6, q6x6, q7x6⟩, z0x6, z1x6, z2x6, z3x6, z4x6, z5x6, z6x6, z7x6⟩ := cells8 X6.out.at0
    refine skip_ (w1 := ?_) (by rfl) rfl ?_ ?_
    rotate_left
    · go_simp
      rfl
    refine hK.out _ _ ?_
    clear hK K
    refine done_ (by kernel_rfl) ?_
    generalize hw7 : (World.setCell (World.setCell (World.setCell (World.setCell (World.setCell (World.setCell (World.setCell (World.setCell w5 ⟨gm, 0, none⟩ (.int .i64 a0)) ⟨gm, 1, none⟩ (.int .i64 a1)) ⟨gm, 2, none⟩ (.int .i64 a2)) ⟨gm, 3, none⟩ (.int .i64 a3)) ⟨gm, 4, none⟩ (.int .i64 b0)) ⟨gm, 5, none⟩ (.int .i64 b1)) ⟨gm, 6, none⟩ (.int .i64 b2)) ⟨gm, 7, none⟩ (.int .i64 b3)) = w7
    have X7 := Aside0.mk (HB8.puthi_0 (HB8.putlo_0 X5.out (nem HN.out) rfl) (nem HN.out) hw7.symm)
    clear hw7
    have sa7 := (blk_cell X7.out.at1 0).trans (show _ = some (Value.int .i8 _) from rfl)
    have sb7 := (blk_cell X7.out.at1 1).trans (show _ = some (Value.slice (some ad) xs.length c) from rfl)
    have sc7 := (blk_cell X7.out.at1 2).trans (show _ = some (Value.int .i64 tk) from rfl)
    have fr7 := blk_frozen X7.out.at1 2
    go_wp2_with (first | ((with_reducible refine gate_store (t := 3) (p := 60) rfl ?_); refine store_event (t := 3) (p := 60) (v := ?vo_st1) (w1 := (w7.setCell ⟨gq, 2, none⟩ (.int .i64 (tk + 1)))) ?hg ?ho ?hn ?hr ?_; (case ho => rfl); (case hg => rfl); (case hn => rfl); (case hr => first | (go_simp; done) | (go_simp; rfl)); intro w8 hw; have X8 := Aside0.mk (show HB8 71 w0.heap.size w0 w8 gw (ms ++ [⟨kd, (rd xs tk)⟩]) gs o2 ((gm, #[.int .i64 a0, .int .i64 a1, .int .i64 a2, .int .i64 a3, .int .i64 b0, .int .i64 b1, .int .i64 b2, .int .i64 b3], 42) :: (gq, #[.int .i8 kd, .slice (some ad) xs.length c, .int .i64 (tk + 1)], 101) :: bl) from hw ▸ HB8.set1 X7.out ⟨Ne.symm HN.out.1, HN.out.2.2⟩ 2 (.int .i64 (tk + 1))); clear hw))
    go_end0
    exact ⟨rfl, X8.out⟩
  · rw [if_neg cl]
    have f1 : decide (tk < (xs.length : Int)) = false := decide_eq_false cl
    have sa0 := (blk_cell X0.out.at1 0).trans (show _ = some (Value.int .i8 _) from rfl)
    have sb0 := (blk_cell X0.out.at1 1).trans (show _ = some (Value.slice A xs.length c) from rfl)
    have sc0 := (blk_cell X0.out.at1 2).trans (show _ = some (Value.int .i64 tk) from rfl)
    go_enter Try.func71, Try.ntmps71
    go_wp2
    go_quiet (fail)
    have X1 := Aside0.mk (X0.out.below (pw_below_drewN (Below.refl _ _) nq))
    generalize w.drewN nq = w1 at X1 ⊢
    clear sa0 sb0 sc0
    have sa1 := (blk_cell X1.out.at1 0).trans (show _ = some (Value.int .i8 _) from rfl)
    have sb1 := (blk_cell X1.out.at1 1).trans (show _ = some (Value.slice A xs.length c) from rfl)
    have sc1 := (blk_cell X1.out.at1 2).trans (show _ = some (Value.int .i64 tk) from rfl)
    have X2 := X1
    go_wp2_with (first | (go_at_call 79; (with_reducible refine (impl_take w0.heap.size gw ms gs ov kd 0 w0 _ ?u1 ?u2 ?u3 hl).mono ?_); (case u1 => exact X2.out.n); (case u2 => exact X2.out.bel); (case u3 => exact X2.out.sz); rintro e w3 ⟨rfl, hn, hb, hk_⟩; have X3 := Aside0.mk (X2.out.note hn hb hk_); clear hn hb hk_))
    have XD := Aside0.mk X3.out.drew
    refine start_ (n := 22) (S := fun w' => w'.cell? ⟨gm, 0, none⟩ = some (.int .i64 T0) ∧ w'.cell? ⟨gm, 1, none⟩ = some (.int .i64 T1) ∧ w'.cell? ⟨gm, 2, none⟩ = some (.int .i64 T2) ∧ w'.cell? ⟨gm, 3, none⟩ = some (.int .i64 T3) ∧ w'.cell? ⟨gm, 4, none⟩ = some (.int .i64 L0) ∧ w'.cell? ⟨gm, 5, none⟩ = some (.int .i64 L1) ∧ w'.cell? ⟨gm, 6, none⟩ = some (.int .i64 L2) ∧ w'.cell? ⟨gm, 7, none⟩ = some (.int .i64 L3)) (ds := [18, 21]) #[false, false, false, false, false, false, false, false, false, false, false, false, false, false, false, false, false, false, false, false, false, false] (by kernel_rfl) rfl rfl ⟨(blk_cell XD.out.at0 0).trans rfl, (blk_cell XD.out.at0 1).trans rfl, (blk_cell XD.out.at0 2).trans rfl, (blk_cell XD.out.at0 3).trans rfl, (blk_cell XD.out.at0 4).trans rfl, (blk_cell XD.out.at0 5).trans rfl, (blk_cell XD.out.at0 6).trans rfl, (blk_cell XD.out.at0 7).trans rfl⟩ (fun hHeld => ?_)
    refine pure_ (i := 0) (N := some 34) (v := ?_) (a' := ?_) #[true, false, false, false, false, false, false, false, false, false, false, false, false, false, false, false, false, false, false, false, false, false] rfl rfl (by kernel_rfl) (fun _ _ _ h => h) (Or.inl ⟨by rfl, ?_⟩) ?_ ?_
    rotate_left
    · intro w'
      go_simp
      with_reducible rfl
    rotate_left
    · simp only [Act.put, sa_, sz_, ss_, i64_w, i32_w]
      rfl
    refine pure_ (i := 1) (N := some 35) (v := ?_) (a' := ?_) #[true, true, false, false, false, false, false, false, false, false, false, false, false, false, false, false, false, false, false, false, false, false] rfl rfl (by kernel_rfl) (fun _ _ _ h => h) (Or.inl ⟨by rfl, ?_⟩) ?_ ?_
    rotate_left
    · intro w'
      go_simp
      with_reducible rfl
    rotate_left
    · simp only [Act.put, sa_, sz_, ss_, i64_w, i32_w]
      rfl
    refine pure_ (i := 2) (N := some 36) (v := ?_) (a' := ?_) #[true, true, true, false, false, false, false, false, false, false, false, false, false, false, false, false, false, false, false, false, false, false] rfl rfl (by kernel_rfl) (fun _ _ _ h => h) (Or.inl ⟨by rfl, ?_⟩) ?_ ?_
    rotate_left
    · intro w'
      go_simp
      with_reducible rfl
    rotate_left
    · simp only [Act.put, sa_, sz_, ss_, i64_w, i32_w]
      rfl
    refine pure_ (i := 3) (N := some 37) (v := ?_) (a' := ?_) #[true, true, true, true, false, false, false, false, false, false, false, false, false, false, false, false, false, false, false, false, false, false] rfl rfl (by kernel_rfl) (fun _ _ _ h => h) (Or.inl ⟨by rfl, ?_⟩) ?_ ?_
    rotate_left
    · intro w'
      go_simp
      with_reducible rfl
    rotate_left
    · simp only [Act.put, sa_, sz_, ss_, i64_w, i32_w]
      rfl
    refine pure_ (i := 4) (N := some 38) (v := ?_) (a' := ?_) #[true, true, true, true, true, false, false, false, false, false, false, false, false, false, false, false, false, false, false, false, false, false] rfl rfl (by kernel_rfl) (fun _ _ _ h => h) (Or.inl ⟨by rfl, ?_⟩) ?_ ?_
    rotate_left
    · intro w'
      go_simp
      with_reducible rfl
    rotate_left
    · simp only [Act.put, sa_, sz_, ss_, i64_w, i32_w]
      rfl
    refine pure_ (i := 5) (N := some 39) (v := ?_) (a' := ?_) #[true, true, true, true, true, true, false, false, false, false, false, false, false, false, false, false, false, false, false, false, false, false] rfl rfl (by kernel_rfl) (fun _ _ _ h => h) (Or.inl ⟨by rfl, ?_⟩) ?_ ?_
    rotate_left
    · intro w'
      go_simp
      with_reducible rfl
    rotate_left
    · simp only [Act.put, sa_, sz_, ss_, i64_w, i32_w]
      rfl
    refine pure_ (i := 6) (N := some 40) (v := ?_) (a' := ?_) #[true, true, true, true, true, true, true, false, false, false, false, false, false, false, false, false, false, false, false, false, false, false] rfl rfl (by kernel_rfl) (fun _ _ _ h => h) (Or.inl ⟨by rfl, ?_⟩) ?_ ?_
    rotate_left
    · intro w'
      go_simp
      with_reducible rfl
    rotate_left
    · simp only [Act.put, sa_, sz_, ss_, i64_w, i32_w]
      rfl
    refine pure_ (i := 9) (N := some 43) (v := ?_) (a' := ?_) #[true, true, true, true, true, true, true, false, false, true, false, false, false, false, false, false, false, false, false, false, false, false] rfl rfl (by kernel_rfl) (fun _ _ _ h => h) (Or.inl ⟨by rfl, ?_⟩) ?_ ?_
    rotate_left
    · intro w'
      go_simp
      with_reducible rfl
    rotate_left
    · simp only [Act.put, sa_, sz_, ss_, i64_w, i32_w]
      rfl
    refine pure_ (i := 10) (N := some 44) (v := ?_) (a' := ?_) #[true, true, true, true, true, true, true, false, false, true, true, false, false, false, false, false, false, false, false, false, false, false] rfl rfl (by kernel_rfl) (fun _ _ _ h => h) (Or.inl ⟨by rfl, ?_⟩) ?_ ?_
    rotate_left
    · intro w'
      go_simp
      with_reducible rfl
    rotate_left
    · simp only [Act.put, sa_, sz_, ss_, i64_w, i32_w]
      rfl
    refine pure_ (i := 11) (N := some 45) (v := ?_) (a' := ?_) #[true, true, true, true, true, true, true, false, false, true, true, true, false, false, false, false, false, false, false, false, false, false] rfl rfl (by kernel_rfl) (fun _ _ _ h => h) (Or.inl ⟨by rfl, ?_⟩) ?_ ?_
    rotate_left
    · intro w'
      go_simp
      with_reducible rfl
    rotate_left
    · simp only [Act.put, sa_, sz_, ss_, i64_w, i32_w]
      rfl
    refine pure_ (i := 12) (N := some 46) (v := ?_) (a' := ?_) #[true, true, true, true, true, true, true, false, false, true, true, true, true, false, false, false, false, false, false, false, false, false] rfl rfl (by kernel_rfl) (fun _ _ _ h => h) (Or.inl ⟨by rfl, ?_⟩) ?_ ?_
    rotate_left
    · intro w'
      go_simp
      with_reducible rfl
    rotate_left
    · simp only [Act.put, sa_, sz_, ss_, i64_w, i32_w]
      rfl
    refine pure_ (i := 13) (N := some 47) (v := ?_) (a' := ?_) #[true, true, true, true, true, true, true, false, false, true, true, true, true, true, false, false, false, false, false, false, false, false] rfl rfl (by kernel_rfl) (fun _ _ _ h => h) (Or.inl ⟨by rfl, ?_⟩) ?_ ?_
    rotate_left
    · intro w'
      go_simp
      with_reducible rfl
    rotate_left
    · simp only [Act.put, sa_, sz_, ss_, i64_w, i32_w]
      rfl
    refine take_ (i := 7) (N := some 41) (v := ?_) (a' := ?_) #[true, true, true, true, true, true, true, true, false, true, true, true, true, true, false, false, false, false, false, false, false, false] rfl rfl (by kernel_rfl) (fun _ _ _ h => h) (Or.inl ⟨by rfl, ?_⟩) hHeld ?_ ?_
    rotate_left
    · rintro w' ⟨s0, s1, s2, s3, s4, s5, s6, s7⟩
      go_simp
      with_reducible rfl
    rotate_left
    · simp only [Act.put, sa_, sz_, ss_, i64_w, i32_w]
      rfl
    refine take_ (i := 14) (N := some 48) (v := ?_) (a' := ?_) #[true, true, true, true, true, true, true, true, false, true, true, true, true, true, true, false, false, false, false, false, false, false] rfl rfl (by kernel_rfl) (fun _ _ _ h => h) (Or.inl ⟨by rfl, ?_⟩) hHeld ?_ ?_
    rotate_left
    · rintro w' ⟨s0, s1, s2, s3, s4, s5, s6, s7⟩
      go_simp
      with_reducible rfl
    rotate_left
    · simp only [Act.put, sa_, sz_, ss_, i64_w, i32_w]
      rfl
    refine one_ (i := 8) (N := some 42) #[true, true, true, true, true, true, true, true, true, true, true, true, true, true, true, false, false, false, false, false, false, false] rfl rfl (by kernel_rfl) (by decide) (fun K hK => ?_)
    refine goes_ Try.func83 (by kernel_rfl) rfl #[.pointer (some ⟨gq, 0, none⟩), .pointer (some ⟨gw, 0, none⟩), .agg #[.int .i64 T0, .int .i64 T1, .int .i64 T2, .int .i64 T3]] (by rfl) rfl rfl (by simp only [List.map_toArray, List.map_cons, List.map_nil]; rfl) ?_
    with_reducible refine (HB8.row XD.out (List.mem_cons_of_mem _ List.mem_cons_self) HR.out XD.out.bel hk h0 h1 HF.out).mono ?_
    rintro e w4 ⟨rfl, hX⟩
    refine ⟨_, rfl, ?_⟩
    have X4 := Aside0.mk hX
    clear hX
    refine hK.out _ _ ⟨(blk_cell X4.out.at0 0).trans rfl, (blk_cell X4.out.at0 1).trans rfl, (blk_cell X4.out.at0 2).trans rfl, (blk_cell X4.out.at0 3).trans rfl, (blk_cell X4.out.at0 4).trans rfl, (blk_cell X4.out.at0 5).trans rfl, (blk_cell X4.out.at0 6).trans rfl, (blk_cell X4.out.at0 7).trans rfl⟩ (fun hHeld => ?_)
    clear hK K
    refine norm_ (a' := ?_) ?_ ?_
    rotate_left
    · show Act.put _ (some 42) _ = _
      simp only [Act.put, sa_, sz_, ss_, i64_w, i32_w]
      rfl
    refine one_ (i := 15) (N := some 49) #[true, true, true, true, true, true, true, true, true, true, true, true, true, true, true, true, false, false, false, false, false, false] rfl rfl (by kernel_rfl) (by decide) (fun K hK => ?_)
    refine goes_ Try.func83 (by kernel_rfl) rfl #[.pointer (some ⟨gq, 0, none⟩), .pointer (some ⟨gw, 0, none⟩), .agg #[.int .i64 L0, .int .i64 L1, .int .i64 L2, .int .i64 L3]] (by rfl) rfl rfl (by simp only [List.map_toArray, List.map_cons, List.map_nil]; rfl) ?_
    with_reducible refine (HB8.row X4.out (List.mem_cons_of_mem _ List.mem_cons_self) HR.out X4.out.bel hk h0 h1 HG.out).mono ?_
    rintro e w5 ⟨rfl, hX⟩
    refine ⟨_, rfl, ?_⟩
    have X5 := Aside0.mk hX
    clear hX
    refine hK.out _ _ ⟨(blk_cell X5.out.at0 0).trans rfl, (blk_cell X5.out.at0 1).trans rfl, (blk_cell X5.out.at0 2).trans rfl, (blk_cell X5.out.at0 3).trans rfl, (blk_cell X5.out.at0 4).trans rfl, (blk_cell X5.out.at0 5).trans rfl, (blk_cell X5.out.at0 6).trans rfl, (blk_cell X5.out.at0 7).trans rfl⟩ (fun hHeld => ?_)
    clear hK K
    refine norm_ (a' := ?_) ?_ ?_
    rotate_left
    · show Act.put _ (some 49) _ = _
      simp only [Act.put, sa_, sz_, ss_, i64_w, i32_w]
      rfl
    refine pure_ (i := 16) (N := some 50) (v := ?_) (a' := ?_) #[true, true, true, true, true, true, true, true, true, true, true, true, true, true, true, true, true, false, false, false, false, false] rfl rfl (by kernel_rfl) (fun _ _ _ h => h) (Or.inl ⟨by rfl, ?_⟩) ?_ ?_
    rotate_left
    · intro w'
      go_simp
      with_reducible rfl
    rotate_left
    · simp only [Act.put, sa_, sz_, ss_, i64_w, i32_w]
      rfl
    refine pure_ (i := 17) (N := some 51) (v := ?_) (a' := ?_) #[true, true, true, true, true, true, true, true, true, true, true, true, true, true, true, true, true, true, false, false, false, false] rfl rfl (by kernel_rfl) (fun _ _ _ h => h) (Or.inl ⟨by rfl, ?_⟩) ?_ ?_
    rotate_left
    · intro w'
      go_simp
      with_reducible rfl
    rotate_left
    · simp only [Act.put, sa_, sz_, ss_, i64_w, i32_w]
      rfl
    refine last_ (i := 18) (N := none) #[true, true, true, true, true, true, true, true, true, true, true, true, true, true, true, true, true, true, true, false, false, false] rfl rfl (by kernel_rfl) (by decide) (fun K hK => ?_)
    obtain ⟨⟨q0x5, q1x5, q2x5, q3x5, q4x5, q5x5, q6x5, q7x5⟩, z0x5, z1x5, z2x5, z3x5, z4x5, z5x5, z6x5, z7x5⟩ := cells8 X5.out.at0
    refine skip_ (w1 := ?_) (by rfl) rfl ?_ ?_
    rotate_left
    · go_simp
      rfl
    refine hK.out _ _ ?_
    clear hK K
    refine pure_ (i := 19) (N := some 52) (v := ?_) (a' := ?_) #[true, true, true, true, true, true, true, true, true, true, true, true, true, true, true, true, true, true, true, true, false, false] rfl rfl (by kernel_rfl) (fun _ _ _ h => h) (Or.inl ⟨by rfl, ?_⟩) ?_ ?_
    rotate_left
    · intro w'
      go_simp
      with_reducible rfl
    rotate_left
    · simp only [Act.put, sa_, sz_, ss_, i64_w, i32_w]
      rfl
    refine pure_ (i := 20) (N := some 53) (v := ?_) (a' := ?_) #[true, true, true, true, true, true, true, true, true, true, true, true, true, true, true, true, true, true, true, true, true, false] rfl rfl (by kernel_rfl) (fun _ _ _ h => h) (Or.inl ⟨by rfl, ?_⟩) ?_ ?_
    rotate_left
    · intro w'
      go_simp
      with_reducible rfl
    rotate_left
    · simp only [Act.put, sa_, sz_, ss_, i64_w, i32_w]
      rfl
    refine last_ (i := 21) (N := none) #[true, true, true, true, true, true, true, true, true, true, true, true, true, true, true, true, true, true, true, true, true, true] rfl rfl (by kernel_rfl) (by decide) (fun K hK => ?_)
    have X6 := Aside0.mk (X5.out.putlo_0 (nem HN.out) (rfl : (World.setCell (World.setCell (World.setCell (World.setCell w5 ⟨gm, 0, none⟩ (.int .i64 a0)) ⟨gm, 1, none⟩ (.int .i64 a1)) ⟨gm, 2, none⟩ (.int .i64 a2)) ⟨gm, 3, none⟩ (.int .i64 a3)) = _))
    obtain ⟨⟨q0x6, q1x6, q2x6, q3x6, q4x6, q5x6, q6x6, q7x6⟩, z0x6, z1x6, z2x6, z3x6, z4x6, z5x6, z6x6, z7x6⟩ := cells8 X6.out.at0
    refine skip_ (w1 := ?_) (by rfl) rfl ?_ ?_
    rotate_left
    · go_simp
      rfl
    refine hK.out _ _ ?_
    clear hK K
    refine done_ (by kernel_rfl) ?_
    generalize hw7 : (World.setCell (World.setCell (World.setCell (World.setCell (World.setCell (World.setCell (World.setCell (World.setCell w5 ⟨gm, 0, none⟩ (.int .i64 a0)) ⟨gm, 1, none⟩ (.int .i64 a1)) ⟨gm, 2, none⟩ (.int .i64 a2)) ⟨gm, 3, none⟩ (.int .i64 a3)) ⟨gm, 4, none⟩ (.int .i64 b0)) ⟨gm, 5, none⟩ (.int .i64 b1)) ⟨gm, 6, none⟩ (.int .i64 b2)) ⟨gm, 7, none⟩ (.int .i64 b3)) = w7
    have X7 := Aside0.mk (HB8.puthi_0 (HB8.putlo_0 X5.out (nem HN.out) rfl) (nem HN.out) hw7.symm)
    clear hw7
    have sa7 := (blk_cell X7.out.at1 0).trans (show _ = some (Value.int .i8 _) from rfl)
    have sb7 := (blk_cell X7.out.at1 1).trans (show _ = some (Value.slice A xs.length c) from rfl)
    have sc7 := (blk_cell X7.out.at1 2).trans (show _ = some (Value.int .i64 tk) from rfl)
    have fr7 := blk_frozen X7.out.at1 2
    go_wp2_with (first | ((with_reducible refine gate_store (t := 3) (p := 60) rfl ?_); refine store_event (t := 3) (p := 60) (v := ?vo_st2) (w1 := (w7.setCell ⟨gq, 2, none⟩ (.int .i64 (tk + 1)))) ?hg ?ho ?hn ?hr ?_; (case ho => rfl); (case hg => rfl); (case hn => rfl); (case hr => first | (go_simp; done) | (go_simp; rfl)); intro w8 hw; have X8 := Aside0.mk (show HB8 71 w0.heap.size w0 w8 gw (ms ++ [⟨kd, 0⟩]) gs o2 ((gm, #[.int .i64 a0, .int .i64 a1, .int .i64 a2, .int .i64 a3, .int .i64 b0, .int .i64 b1, .int .i64 b2, .int .i64 b3], 42) :: (gq, #[.int .i8 kd, .slice A xs.length c, .int .i64 (tk + 1)], 101) :: bl) from hw ▸ HB8.set1 X7.out ⟨Ne.symm HN.out.1, HN.out.2.2⟩ 2 (.int .i64 (tk + 1))); clear hw))
    go_end0
    exact ⟨rfl, X8.out⟩

end Go.Proofs.Ytgldplkbacfacaa.MFnEights
