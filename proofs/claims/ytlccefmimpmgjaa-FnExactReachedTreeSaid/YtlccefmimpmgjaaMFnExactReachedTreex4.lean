/- Functions of the program as Lean functions, and the proof that the code comes to what they say. Written by a program of this session (myprint.py). -/
import Derived.Test.YtlccefmimpmgjaaMFnExactReachedTreex0
namespace Go.Proofs.Ytlccefmimpmgjaa.MFnExactReachedTree
open Go.RowKit Go.Proofs.Ytlccefmimpmgjaa.MOpen Go.Proofs.YtlccefmimpmgjaaW.PrintWords Go.Proofs.YtlccefmimpmgjaaW.PrintLast Go.Proofs.YtlccefmimpmgjaaW.PrintMore
attribute [local go_sem] max2_int min2_int max_two min_two max_three min_three max_four min_four   -- for this text's walks alone
set_option linter.unusedVariables false
set_option linter.unusedSimpArgs false

set_option linter.defProp false
def kA70_ := @blk_alloc
def kN70_ := @blk_drewN
def kD70_ := @blk_drew
def aM70_ := @Aside0.mk
def kC70_ := @blk_cell
theorem q70x1_ {P : Prop} (h : P := by first | exact Nat.ne_of_lt (Nat.lt_of_lt_of_le (by have := World.block_lt_of_cell? _ _ hw169_0; first | rwa [add_block] at this | exact this) GW171.out) | (rw [add_block]; exact Nat.ne_of_lt (Nat.lt_of_lt_of_le (by have := World.block_lt_of_cell? _ _ hw169_0; first | rwa [add_block] at this | exact this) GW171.out)) | (show (Addr.add _ _).block ≠ _; rw [add_block]; exact Nat.ne_of_lt (Nat.lt_of_lt_of_le (by have := World.block_lt_of_cell? _ _ hw169_0; first | rwa [add_block] at this | exact this) GW171.out)) | (dsimp only; exact Nat.ne_of_lt (Nat.lt_of_lt_of_le (by have := World.block_lt_of_cell? _ _ hw169_0; first | rwa [add_block] at this | exact this) GW171.out))) : P := h
theorem q70x2_ {P : Prop} (h : P := by first | exact Nat.ne_of_lt (Nat.lt_of_lt_of_le (by have := World.block_lt_of_cell? _ _ hw170_0; first | rwa [add_block] at this | exact this) GW171.out) | (rw [add_block]; exact Nat.ne_of_lt (Nat.lt_of_lt_of_le (by have := World.block_lt_of_cell? _ _ hw170_0; first | rwa [add_block] at this | exact this) GW171.out)) | (show (Addr.add _ _).block ≠ _; rw [add_block]; exact Nat.ne_of_lt (Nat.lt_of_lt_of_le (by have := World.block_lt_of_cell? _ _ hw170_0; first | rwa [add_block] at this | exact this) GW171.out)) | (dsimp only; exact Nat.ne_of_lt (Nat.lt_of_lt_of_le (by have := World.block_lt_of_cell? _ _ hw170_0; first | rwa [add_block] at this | exact this) GW171.out))) : P := h
theorem q70x3_ {P : Prop} (h : P := by first | exact Nat.ne_of_lt (Nat.lt_of_lt_of_le (by have := World.block_lt_of_cell? _ _ hw170_1; first | rwa [add_block] at this | exact this) GW171.out) | (rw [add_block]; exact Nat.ne_of_lt (Nat.lt_of_lt_of_le (by have := World.block_lt_of_cell? _ _ hw170_1; first | rwa [add_block] at this | exact this) GW171.out)) | (show (Addr.add _ _).block ≠ _; rw [add_block]; exact Nat.ne_of_lt (Nat.lt_of_lt_of_le (by have := World.block_lt_of_cell? _ _ hw170_1; first | rwa [add_block] at this | exact this) GW171.out)) | (dsimp only; exact Nat.ne_of_lt (Nat.lt_of_lt_of_le (by have := World.block_lt_of_cell? _ _ hw170_1; first | rwa [add_block] at this | exact this) GW171.out))) : P := h
theorem q70x4_ {P : Prop} (h : P := by first | exact Nat.ne_of_lt (Nat.lt_of_lt_of_le (by have := World.block_lt_of_cell? _ _ hw170_2; first | rwa [add_block] at this | exact this) GW171.out) | (rw [add_block]; exact Nat.ne_of_lt (Nat.lt_of_lt_of_le (by have := World.block_lt_of_cell? _ _ hw170_2; first | rwa [add_block] at this | exact this) GW171.out)) | (show (Addr.add _ _).block ≠ _; rw [add_block]; exact Nat.ne_of_lt (Nat.lt_of_lt_of_le (by have := World.block_lt_of_cell? _ _ hw170_2; first | rwa [add_block] at this | exact this) GW171.out)) | (dsimp only; exact Nat.ne_of_lt (Nat.lt_of_lt_of_le (by have := World.block_lt_of_cell? _ _ hw170_2; first | rwa [add_block] at this | exact this) GW171.out))) : P := h
theorem q70x5_ {P : Prop} (h : P := by first | exact Nat.ne_of_lt (Nat.lt_of_lt_of_le (by have := World.block_lt_of_cell? _ _ hw170_3; first | rwa [add_block] at this | exact this) GW171.out) | (rw [add_block]; exact Nat.ne_of_lt (Nat.lt_of_lt_of_le (by have := World.block_lt_of_cell? _ _ hw170_3; first | rwa [add_block] at this | exact this) GW171.out)) | (show (Addr.add _ _).block ≠ _; rw [add_block]; exact Nat.ne_of_lt (Nat.lt_of_lt_of_le (by have := World.block_lt_of_cell? _ _ hw170_3; first | rwa [add_block] at this | exact this) GW171.out)) | (dsimp only; exact Nat.ne_of_lt (Nat.lt_of_lt_of_le (by have := World.block_lt_of_cell? _ _ hw170_3; first | rwa [add_block] at this | exact this) GW171.out))) : P := h
theorem q70x6_ {P : Prop} (h : P := by first | exact Nat.ne_of_lt (Nat.lt_of_lt_of_le (by have := World.block_lt_of_cell? _ _ hw170_4; first | rwa [add_block] at this | exact this) GW171.out) | (rw [add_block]; exact Nat.ne_of_lt (Nat.lt_of_lt_of_le (by have := World.block_lt_of_cell? _ _ hw170_4; first | rwa [add_block] at this | exact this) GW171.out)) | (show (Addr.add _ _).block ≠ _; rw [add_block]; exact Nat.ne_of_lt (Nat.lt_of_lt_of_le (by have := World.block_lt_of_cell? _ _ hw170_4; first | rwa [add_block] at this | exact this) GW171.out)) | (dsimp only; exact Nat.ne_of_lt (Nat.lt_of_lt_of_le (by have := World.block_lt_of_cell? _ _ hw170_4; first | rwa [add_block] at this | exact this) GW171.out))) : P := h
theorem q70x7_ {P : Prop} (h : P := by first | exact Nat.ne_of_lt (Nat.lt_of_lt_of_le (World.block_lt_of_cell? _ _ (HQ0_.out)) GW171.out) | (rw [add_block]; exact Nat.ne_of_lt (Nat.lt_of_lt_of_le (World.block_lt_of_cell? _ _ (HQ0_.out)) GW171.out)) | (show (Addr.add _ _).block ≠ _; rw [add_block]; exact Nat.ne_of_lt (Nat.lt_of_lt_of_le (World.block_lt_of_cell? _ _ (HQ0_.out)) GW171.out)) | (dsimp only; exact Nat.ne_of_lt (Nat.lt_of_lt_of_le (World.block_lt_of_cell? _ _ (HQ0_.out)) GW171.out))) : P := h
theorem q70x8_ {P : Prop} (h : P := by repeat (first | (with_reducible first | exact HB.out | apply below_alloc | apply pw_below_drewN | apply below_drew1 | refine below_set ?_ GE162.out | refine below_set ?_ GE168.out | refine below_set ?_ GE171.out) | exact HB.out)) : P := h
theorem q70x9_ {P : Prop} (h : P := by (with_reducible repeat (first | refine kN70_ ?_ _ | refine kD70_ ?_ | refine kA70_ ?_ _)); exact BK162.out) : P := h
theorem q70x10_ {P : Prop} (h : P := by first | (with_reducible assumption) | assumption) : P := h
theorem q70x11_ {P : Prop} (h : P := by repeat (first | (with_reducible first | exact HB.out | apply below_alloc | apply pw_below_drewN | apply below_drew1 | refine below_set ?_ GE162.out | refine below_set ?_ GE168.out) | exact HB.out)) : P := h
theorem q70x12_ {P : Prop} (h : P := by repeat (first | (with_reducible first | exact HB.out | apply below_alloc | apply pw_below_drewN | apply below_drew1 | refine below_set ?_ GE162.out) | exact HB.out)) : P := h
theorem q70x13_ {P : Prop} (h : P := by rw [hw]; exact (by (with_reducible repeat (first | refine kN70_ ?_ _ | refine kD70_ ?_ | refine kA70_ ?_ _)); refine blk_far ?_ NB162_168.out _; (with_reducible repeat (first | refine kN70_ ?_ _ | refine kD70_ ?_ | refine kA70_ ?_ _)); exact BK162.out)) : P := h
theorem q70x14_ {P : Prop} (h : P := by (with_reducible repeat (first | refine kN70_ ?_ _ | refine kD70_ ?_ | refine kA70_ ?_ _)); exact BK168.out) : P := h
theorem q70x15_ {P : Prop} (h : P := by (with_reducible repeat (first | apply Kd.R_alloc | apply Kd.R_drewN | apply Kd.R_drew)); exact HO_169000.out) : P := h
theorem q70x16_ {P : Prop} (h : P := by rw [hw]; exact (by (with_reducible repeat (first | apply Kd.R_alloc | apply Kd.R_drewN | apply Kd.R_drew)); exact Kd.R_mono (Kd.R_far (p := ⟨gb171, 2 + (x10_3 : Int).toNat, none⟩) (Kd.R_mono HO_169000.out (fun k_ hk => (⟨hk, hk⟩ : _ ∧ k_ ≠ gb171))) (fun _ hk => hk.2) (.int .i16 (rd x5_1 (rd [x172002_3, x172003_3, x172004_3] x10_3)))) (fun _ hk => hk.1))) : P := h
theorem q70x17_ {P : Prop} (h : P := by (with_reducible repeat (first | refine kN70_ ?_ _ | refine kD70_ ?_ | refine kA70_ ?_ _)); exact BK171.out) : P := h
theorem q70x18_ {P : Prop} (h : P := by rw [hw]; exact (by (with_reducible repeat (first | apply Kd.R_alloc | apply Kd.R_drewN | apply Kd.R_drew)); exact Kd.R_mono (Kd.R_far (p := ⟨gb171, 2 + (x10_3 : Int).toNat, none⟩) (Kd.R_types HO_5.out BK171.out (by decide)) (fun _ hk => hk.2) (.int .i16 (rd x5_1 (rd [x172002_3, x172003_3, x172004_3] x10_3)))) (fun _ hk => trivial))) : P := h
theorem q70x19_ {P : Prop} (h : P := by first | rfl | (simp; done) | (simp [*]; done)) : P := h
theorem q70x20_ {P : Prop} (h : P := by (with_reducible repeat (first | apply Kd.R_alloc | apply Kd.R_drewN | apply Kd.R_drew)); exact HO_5.out) : P := h
theorem q70x21_ {P : Prop} (h : P := by rw [hw]; exact (by (with_reducible repeat (first | refine kN70_ ?_ _ | refine kD70_ ?_ | refine kA70_ ?_ _)); refine blk_put (cs := #[u169000]) ?_ 0 _ rfl; (with_reducible repeat (first | refine kN70_ ?_ _ | refine kD70_ ?_ | refine kA70_ ?_ _)); exact BK168.out)) : P := h
theorem q70x22_ {P : Prop} (h : P := by rw [hw]; exact (by (with_reducible repeat (first | refine kN70_ ?_ _ | refine kD70_ ?_ | refine kA70_ ?_ _)); refine blk_far ?_ NB162_171.out _; (with_reducible repeat (first | refine kN70_ ?_ _ | refine kD70_ ?_ | refine kA70_ ?_ _)); exact BK162.out)) : P := h
theorem q70x23_ {P : Prop} (h : P := by rw [hw]; exact (by (with_reducible repeat (first | refine kN70_ ?_ _ | refine kD70_ ?_ | refine kA70_ ?_ _)); refine blk_far ?_ NB168_171.out _; (with_reducible repeat (first | refine kN70_ ?_ _ | refine kD70_ ?_ | refine kA70_ ?_ _)); exact BK168.out)) : P := h
theorem q70x24_ {P : Prop} (h : P := by rw [hw]; exact (by (with_reducible repeat (first | refine kN70_ ?_ _ | refine kD70_ ?_ | refine kA70_ ?_ _)); refine blk_far ?_ NB171_168.out _; (with_reducible repeat (first | refine kN70_ ?_ _ | refine kD70_ ?_ | refine kA70_ ?_ _)); exact BK171.out)) : P := h
theorem q70x25_ {P : Prop} (h : P := by repeat (first | (with_reducible first | exact HB.out | apply below_alloc | apply pw_below_drewN | apply below_drew1) | exact HB.out)) : P := h
theorem q70x26_ {P : Prop} (h : P := by intro w'; go_simp; with_reducible rfl) : P := h
theorem q70x27_ {P : Prop} (h : P := by simp only [Act.put, List.setIfInBounds_toArray, List.set_cons_zero, List.set_cons_succ, i64_w, i32_w]; rfl) : P := h
/-! ### spec_l06Tree: function 70 -/
mutual
def spec_l06Tree.l0 : Nat → List Int → List Int → Int → List (S77) → Option ((List (S77)))
 | 0, _, _, _, _ => none
 | k + 1, x1, x5, x6, x1000 => if x6 < (x1.length : Int) then (if 0 ≤ x6 then (if 0 ≤ (rd x1 x6) then (if (rd x1 x6) < (x5.length : Int) then (spec_l06Tree.l0 k x1 (x5.set ((rd x1 x6) : Int).toNat (IntKind.i16.wrap (x6))) (wrap64 (x6 + 1)) x1000) else (none)) else (none)) else (none)) else (spec_l06Tree.l1 k x1 x5 0 x1000 ([] : List (S77)))
def spec_l06Tree.l1 : Nat → List Int → List Int → Int → List (S77) → List (S77) → Option ((List (S77)))
 | 0, _, _, _, _, _ => none
 | k + 1, x1, x5, x8, x1000, x169000 => if x8 < (x1.length : Int) then (if 0 ≤ x8 then (if 0 ≤ (rd x1 x8) then (if (rd x1 x8) < (x1000.length : Int) then (spec_l06Tree.l2 k x1 x5 x8 0 x1000 x169000 ((rd_T77 x1000 (rd x1 x8)).f0) ((rd_T77 x1000 (rd x1 x8)).f1) ((rd_T77 x1000 (rd x1 x8)).f2.f0) ((rd_T77 x1000 (rd x1 x8)).f2.f1) ((rd_T77 x1000 (rd x1 x8)).f2.f2)) else (none)) else (none)) else (none)) else (some x169000)
def spec_l06Tree.l2 : Nat → List Int → List Int → Int → Int → List (S77) → List (S77) → Int → Int → Int → Int → Int → Option ((List (S77)))
 | 0, _, _, _, _, _, _, _, _, _, _, _ => none
 | k + 1, x1, x5, x8, x10, x1000, x169000, x172000, x172001, x172002, x172003, x172004 => if x172000 = 1 then (if x10 < 3 then (if 0 ≤ x10 then (if 0 ≤ (rd [x172002, x172003, x172004] x10) then (if (rd [x172002, x172003, x172004] x10) < (x5.length : Int) then (spec_l06Tree.l2 k x1 x5 x8 (wrap64 (x10 + 1)) x1000 x169000 x172000 x172001 (aput 0 x10 (rd x5 (rd [x172002, x172003, x172004] x10)) x172002) (aput 1 x10 (rd x5 (rd [x172002, x172003, x172004] x10)) x172003) (aput 2 x10 (rd x5 (rd [x172002, x172003, x172004] x10)) x172004)) else (none)) else (none)) else (none)) else (if x169000.length < 17592186044416 then (spec_l06Tree.l1 k x1 x5 (wrap64 (x8 + 1)) x1000 (x169000 ++ [(⟨x172000, x172001, (⟨x172002, x172003, x172004⟩ : S75)⟩ : S77)])) else (none))) else (if x10 < 1 then (if 0 ≤ x10 then (if x10 < 3 then (if 0 ≤ (rd [x172002, x172003, x172004] x10) then (if (rd [x172002, x172003, x172004] x10) < (x5.length : Int) then (spec_l06Tree.l2 k x1 x5 x8 (wrap64 (x10 + 1)) x1000 x169000 x172000 x172001 (aput 0 x10 (rd x5 (rd [x172002, x172003, x172004] x10)) x172002) (aput 1 x10 (rd x5 (rd [x172002, x172003, x172004] x10)) x172003) (aput 2 x10 (rd x5 (rd [x172002, x172003, x172004] x10)) x172004)) else (none)) else (none)) else (none)) else (none)) else (if x169000.length < 17592186044416 then (spec_l06Tree.l1 k x1 x5 (wrap64 (x8 + 1)) x1000 (x169000 ++ [(⟨x172000, x172001, (⟨x172002, x172003, x172004⟩ : S75)⟩ : S77)])) else (none)))
end
def spec_l06Tree.f (k : Nat) (l0_0 : List (S77)) (l1 : List Int) : Option ((List (S77))) := if 0 ≤ (l0_0.length : Int) then (if ((l0_0.length : Int) : Int).toNat ≤ 140737488355328 then (spec_l06Tree.l0 k l1 (List.replicate ((l0_0.length : Int) : Int).toNat 0) 0 l0_0) else (none)) else (none)
theorem spec_l06Tree.mono_l : ∀ k, (∀ y0 y1 y2 y3, LeO (spec_l06Tree.l0 k y0 y1 y2 y3) (spec_l06Tree.l0 (k + 1) y0 y1 y2 y3)) ∧ (∀ y0 y1 y2 y3 y4, LeO (spec_l06Tree.l1 k y0 y1 y2 y3 y4) (spec_l06Tree.l1 (k + 1) y0 y1 y2 y3 y4)) ∧ (∀ y0 y1 y2 y3 y4 y5 y6 y7 y8 y9 y10, LeO (spec_l06Tree.l2 k y0 y1 y2 y3 y4 y5 y6 y7 y8 y9 y10) (spec_l06Tree.l2 (k + 1) y0 y1 y2 y3 y4 y5 y6 y7 y8 y9 y10))
 | 0 => ⟨fun _ _ _ _ r h => by simp [spec_l06Tree.l0] at h, fun _ _ _ _ _ r h => by simp [spec_l06Tree.l1] at h, fun _ _ _ _ _ _ _ _ _ _ _ r h => by simp [spec_l06Tree.l2] at h⟩
 | k + 1 => by
  obtain ⟨ih0, ih1, ih2⟩ := spec_l06Tree.mono_l k
  refine ⟨?_, ?_, ?_⟩
  ·intro y0 y1 y2 y3
   unfold spec_l06Tree.l0
   repeat' first
   | (with_reducible exact ih0 _ _ _ _)
   | (with_reducible exact ih1 _ _ _ _ _)
   | (with_reducible exact ih2 _ _ _ _ _ _ _ _ _ _ _)
   | (with_reducible exact LeO.refl _)
   | (with_reducible exact LeO.none _)
   | (with_reducible refine LeO.ite ?_ ?_)
   | (with_reducible refine LeO.bind ?_ (fun _ => ?_))
   | exact ih0 _ _ _ _
   | exact ih1 _ _ _ _ _
   | exact ih2 _ _ _ _ _ _ _ _ _ _ _
   | exact LeO.none _
   | refine LeO.ite ?_ ?_
   | refine LeO.bind ?_ (fun _ => ?_)
  ·intro y0 y1 y2 y3 y4
   unfold spec_l06Tree.l1
   repeat' first
   | (with_reducible exact ih0 _ _ _ _)
   | (with_reducible exact ih1 _ _ _ _ _)
   | (with_reducible exact ih2 _ _ _ _ _ _ _ _ _ _ _)
   | (with_reducible exact LeO.refl _)
   | (with_reducible exact LeO.none _)
   | (with_reducible refine LeO.ite ?_ ?_)
   | (with_reducible refine LeO.bind ?_ (fun _ => ?_))
   | exact ih0 _ _ _ _
   | exact ih1 _ _ _ _ _
   | exact ih2 _ _ _ _ _ _ _ _ _ _ _
   | exact LeO.none _
   | refine LeO.ite ?_ ?_
   | refine LeO.bind ?_ (fun _ => ?_)
  intro y0 y1 y2 y3 y4 y5 y6 y7 y8 y9 y10
  unfold spec_l06Tree.l2
  repeat' first
  | (with_reducible exact ih0 _ _ _ _)
  | (with_reducible exact ih1 _ _ _ _ _)
  | (with_reducible exact ih2 _ _ _ _ _ _ _ _ _ _ _)
  | (with_reducible exact LeO.refl _)
  | (with_reducible exact LeO.none _)
  | (with_reducible refine LeO.ite ?_ ?_)
  | (with_reducible refine LeO.bind ?_ (fun _ => ?_))
  | exact ih0 _ _ _ _
  | exact ih1 _ _ _ _ _
  | exact ih2 _ _ _ _ _ _ _ _ _ _ _
  | exact LeO.none _
  | refine LeO.ite ?_ ?_
  | refine LeO.bind ?_ (fun _ => ?_)
theorem spec_l06Tree.mono : ∀ a0 a1 k, LeO (spec_l06Tree.f k a0 a1) (spec_l06Tree.f (k + 1) a0 a1) := by
 intro a0 a1 k
 obtain ⟨ih0, ih1, ih2⟩ := spec_l06Tree.mono_l k
 unfold spec_l06Tree.f
 repeat' first
   | (with_reducible exact ih0 _ _ _ _)
   | (with_reducible exact ih1 _ _ _ _ _)
   | (with_reducible exact ih2 _ _ _ _ _ _ _ _ _ _ _)
   | (with_reducible exact LeO.refl _)
   | (with_reducible exact LeO.none _)
   | (with_reducible refine LeO.ite ?_ ?_)
   | (with_reducible refine LeO.bind ?_ (fun _ => ?_))
   | exact ih0 _ _ _ _
   | exact ih1 _ _ _ _ _
   | exact ih2 _ _ _ _ _ _ _ _ _ _ _
   | exact LeO.none _
   | refine LeO.ite ?_ ?_
   | refine LeO.bind ?_ (fun _ => ?_)
def spec_l06Tree.T10 : Bool × List (List Nat × List Nat) := (true, [([], []), ([0], [0]), ([1], [1]), ([2], [2]), ([], []), ([], []), ([4, 5], [4, 5]), ([6], [6]), ([3, 7], [3, 7]), ([8], [8]), ([], []), ([10, 9, 0, 1, 2, 3, 4, 5, 6, 7, 8, 9, 10], [9, 10])])
def spec_l06Tree.B10 : List Nat := [0, 1, 3, 7, 0, 0, 48, 112, 255, 511, 0, 2047]
theorem spec_l06Tree.tab10 : rtab .any (opsOf Try.f70 10) = spec_l06Tree.T10 := by kernel_rfl
theorem spec_l06Tree.bits10 : waitsOk spec_l06Tree.T10.2 spec_l06Tree.B10 = true := by kernel_rfl
set_option maxHeartbeats 8000000 in
set_option maxRecDepth 100000 in
theorem spec_l06Tree.calls (k : Nat) (B0_ O0_ : Nat) (A0_0 : Option Addr) (c0_0 : Nat) (l0_0 : List (S77)) (A1 : Option Addr) (c1 : Nat) (l1 : List Int) (r : List (S77)) (w : World) (hr0_0 : Kd.C k77 w A0_0 l0_0.length l0_0) (hc0_0 : l0_0.length ≤ c0_0) (hr1 : Kd.C (Kd.int .i16) w A1 l1.length l1) (hc1 : l1.length ≤ c1) (hq0_ : w.cell? ⟨B0_, O0_, none⟩ = some (.slice A0_0 l0_0.length c0_0)) (h : spec_l06Tree.f k l0_0 l1 = some r) :
  Calls Try.prog 70 #[.pointer (some ⟨B0_, O0_, none⟩), .slice A1 l1.length c1] w fun e w' => ∃ v0_ : Value, e = .returned (.agg #[v0_]) ∧ Kd.R k77 77 w' w.heap.size (fun _ => True) v0_ r ∧ Below w.heap.size w w' := by
 have hu24 := Try.underlying24
 have hu77 := Try.underlying77
 have HR0_0 := aM70_ hr0_0
 have HC0_0 := aM70_ hc0_0
 clear hr0_0 hc0_0
 have HR1 := aM70_ hr1
 have HC1 := aM70_ hc1
 clear hr1 hc1
 have HQ0_ := aM70_ hq0_
 clear hq0_
 have HB := aM70_ (Below.refl w.heap.size w)
 have H : (if 0 ≤ (l0_0.length : Int) then (if ((l0_0.length : Int) : Int).toNat ≤ 140737488355328 then (spec_l06Tree.l0 k l1 (List.replicate ((l0_0.length : Int) : Int).toNat 0) 0 l0_0) else (none)) else (none)) = some r := h
 clear h
 by_cases c3 : 0 ≤ (l0_0.length : Int)
 rotate_left
 ·rw [if_neg c3] at H
  exact absurd H (by simp)

 rw [if_pos c3] at H
 have c3b0 := eq_true c3
 have c3b1 : decide (0 ≤ (l0_0.length : Int)) = true := decide_eq_true c3
 clear c3
 by_cases c4 : ((l0_0.length : Int) : Int).toNat ≤ 140737488355328
 rotate_left
 ·rw [if_neg c4] at H
  exact absurd H (by simp)
 rw [if_pos c4] at H
 have c4b0 := eq_true c4
 have c4b1 : decide (((l0_0.length : Int) : Int).toNat ≤ 140737488355328) = true := decide_eq_true c4
 clear c4
 obtain ⟨y163, hy163⟩ : ∃ y_ : List Int, y_ = (List.replicate ((l0_0.length : Int) : Int).toNat 0) := ⟨_, rfl⟩
 replace H : (spec_l06Tree.l0 k l1 y163 0 l0_0) = some r := by first | (rw [hy163]; with_reducible exact H) | (have H2_ := (Option.bind_some _ _).symm.trans H; rw [hy163]; with_reducible exact H2_) | (have H2_ := (Option.bind_some _ _).symm.trans H; with_reducible exact H2_) | with_reducible exact H | (rw [hy163]; exact H) | exact H
 have Ny163 := aM70_ hy163
 clear hy163
 have H' := aM70_ H
 clear H
 go_enter Try.func70, Try.ntmps70
 go_wp2_with (first | ((with_reducible refine gate_dst (N := 4) rfl ?_); refine box_event ?hg (N := 4) ?hd (cs := #[.slice none 0 0]) (t := 24) ?hr ?_; (case hd => rfl); (case hg => rfl); (case hr => first | (go_simp; done) | (go_simp; rfl)); intro gb162 hg w5 hbox hb; have n0_ := aM70_ (below_step q70x25_ hb); have n1_ := aM70_ (hbox); have n2_ := aM70_ ((by rw [hg]; exact (below_size q70x25_) : w.heap.size ≤ gb162)); have n3_ := aM70_ ((by rw [hg]; exact (below_size q70x25_) : w.heap.size ≤ gb162)); clear HB; have HB := n0_; have BK162 := n1_; have GW162 := n2_; have GE162 := n3_; clear n0_ n1_ n2_ n3_; clear hb hbox hg; have hxr6_0 := HQ0_.out; replace hxr6_0 := ((show Below w.heap.size w w5 from by repeat (first | (with_reducible first | exact HB.out | apply below_alloc | apply pw_below_drewN | apply below_drew1 | refine below_set ?_ GE162.out) | exact HB.out)).cell (World.block_lt_of_cell? w _ hxr6_0)).trans hxr6_0) | ((with_reducible refine gate_dst (N := 16) rfl ?_); refine Kd.R_make (Kd.int .i16) _ 74 rfl (N := 16) rfl 93 _ _ rfl (l0_0.length : Int) rfl rfl Try.underlying93 (.int .i16 0) 2 info74 rfl (by decide) (by omega) 0 (ok := fun _ => True) (okp := fun _ => True) rfl (fun _ hk => hk) trivial (of_decide_eq_true q70x10_) (Nat.le_trans (Nat.mul_le_mul_right _ (of_decide_eq_true q70x10_ : (l0_0.length : Int).toNat ≤ 140737488355328)) (by omega)) (Below.refl _ _) (Nat.le_refl _) ?_; intro v164 w7 ho8 hb hg_ hnew_; clear hg_ hnew_; (first | rw [← Ny163.out] at ho8 | (simp only [Int.reduceToNat] at ho8; rw [← Ny163.out] at ho8)); have n0_ := aM70_ (Kd.R_lower ho8 (below_size q70x12_)); have n1_ := aM70_ (blk_below (g := gb162) (o := .cells #[.slice none 0 0] 24 (0, 0)) q70x9_ hb); have n2_ := aM70_ (below_step q70x12_ hb); clear BK162; clear HB; have HO165 := n0_; have BK162 := n1_; have HB := n2_; clear n0_ n1_ n2_; clear hb ho8))
 go_loopg [6] k (fun kq v6 w' => ∃ (x5_1 : List Int) (x6_1 : Int), v6 = .int .i64 x6_1 ∧ Aside0 (spec_l06Tree.l0 kq l1 x5_1 x6_1 l0_0 = some r) ∧ Aside0 (kq ≤ k) ∧ Aside0 (Kd.R (Kd.int .i16) 74 w' w.heap.size (fun _ => True) v164 x5_1) ∧ Aside0 (w'.heap[gb162]? = some (.cells #[(.slice none 0 0)] 24 (0, 0))) ∧ Aside0 (Below w.heap.size w w'))
 case atStart => exact ⟨(y163), (0), q70x19_, H', ⟨Nat.le_refl _⟩, ⟨by (with_reducible repeat (first | apply Kd.R_alloc | apply Kd.R_drewN | apply Kd.R_drew)); exact HO165.out⟩, ⟨by (with_reducible repeat (first | refine kN70_ ?_ _ | refine kD70_ ?_ | refine kA70_ ?_ _)); exact BK162.out⟩, ⟨by repeat (first | (with_reducible first | exact HB.out | apply below_alloc | apply pw_below_drewN | apply below_drew1 | refine below_set ?_ GE162.out) | exact HB.out)⟩⟩
 case round =>
  clear H'
  try clear c1
  try clear p2
  try clear c3
  try clear c3b0
  try clear c3b1
  try clear c4
  try clear c4b0
  try clear c4b1
  try clear c7
  obtain ⟨x5_1, x6_1, rfl, HA, HK1, HO_5, BK162, HB⟩ := hrel
  cases gk with
  | zero => exact absurd HA.out (by simp [spec_l06Tree.l0])
  | succ k1 =>
   have H := HA.out
   clear HA
   simp only [spec_l06Tree.l0] at H
   by_cases c9 : x6_1 < (l1.length : Int)
   ·rw [if_pos c9] at H
    have c9b0 : decide (x6_1 < (l1.length : Int)) = true := decide_eq_true c9
    clear c9
    by_cases c10 : 0 ≤ x6_1
    rotate_left
    ·rw [if_neg c10] at H
     exact absurd H (by simp)
    rw [if_pos c10] at H
    have c10b0 : decide (0 ≤ x6_1) = true := decide_eq_true c10
    clear c10
    by_cases c11 : 0 ≤ (rd l1 x6_1)
    rotate_left
    ·rw [if_neg c11] at H
     exact absurd H (by simp)
    rw [if_pos c11] at H
    have c11b0 : decide (0 ≤ (rd l1 x6_1)) = true := decide_eq_true c11
    clear c11
    by_cases c12 : (rd l1 x6_1) < (x5_1.length : Int)
    rotate_left
    ·rw [if_neg c12] at H
     exact absurd H (by simp)
    rw [if_pos c12] at H
    have c12b0 : decide ((rd l1 x6_1) < (x5_1.length : Int)) = true := decide_eq_true c12
    clear c12
    obtain ⟨y167, hy167⟩ : ∃ y_ : List Int, y_ = (x5_1.set ((rd l1 x6_1) : Int).toNat (IntKind.i16.wrap (x6_1))) := ⟨_, rfl⟩
    replace H : (spec_l06Tree.l0 k1 l1 y167 (wrap64 (x6_1 + 1)) l0_0) = some r := by first | (rw [hy167]; with_reducible exact H) | (have H2_ := (Option.bind_some _ _).symm.trans H; rw [hy167]; with_reducible exact H2_) | (have H2_ := (Option.bind_some _ _).symm.trans H; with_reducible exact H2_) | with_reducible exact H | (rw [hy167]; exact H) | exact H
    have Ny167 := aM70_ hy167
    clear hy167
    have H' := aM70_ H
    clear H
    have p166 : 0 ≤ (x6_1 : Int) := of_decide_eq_true q70x10_
    have q166 : x6_1 < (l1.length : Int) := of_decide_eq_true q70x10_
    obtain ⟨ad166, e166, hx166_0⟩ := Kd.at_int HR1.out x6_1 p166 q166
    cases e166
    replace hx166_0 := (HB.out.cell (World.block_lt_of_cell? w _ hx166_0)).trans hx166_0
    replace p166 := eq_true p166
    replace q166 := eq_true q166
    have p13 : 0 ≤ ((rd l1 x6_1) : Int) := of_decide_eq_true q70x10_
    have q13 : ((rd l1 x6_1) : Int) < ((x5_1.length : Int) : Int) := of_decide_eq_true q70x10_
    obtain ⟨go13, co13, eo13, gb13, gl13, cl13, HG13⟩ := Kd.R_form HO_5.out (by omega)
    (first | cases eo13 | (injection eo13 with ea_ en_ ec_; (first | subst ea_ | (injection ea_ with ea_; subst ea_)); subst ec_; clear en_))
    have GB13 := aM70_ gb13
    have GG13 := aM70_ HG13
    clear gb13 gl13 HG13
    obtain ⟨hx13_0, hf13_0⟩ := Kd.R_celln 0 HO_5.out ((rd l1 x6_1) : Int) p13 q13
    replace p13 := eq_true p13
    replace q13 := eq_true q13
    have HP14 := Kd.R_putg HO_5.out ((rd l1 x6_1) : Int) (IntKind.i16.wrap (x6_1))
    go_wp2_with (first | ((with_reducible refine gate_store (t := 74) (p := 30) rfl ?_); refine store_event (t := 74) (p := 30) (v := ?vo_w15) (w1 := (wr.setCell ⟨go13, ((rd l1 x6_1) : Int).toNat, none⟩ (.int .i16 (IntKind.i16.wrap (x6_1))))) ?hg ?ho ?hn ?hr ?_; (case ho => rfl); (case hg => rfl); (case hn => rfl); (case hr => first | (go_simp; done) | (go_simp; rfl)); intro w15 hw; have hg : wr.grownBy w15 (some go13) := (by rw [hw]; exact HP14.2); have hp_ : Kd.R (Kd.int .i16) 74 w15 w.heap.size (fun _ => True) (.slice (some ⟨go13, 0, none⟩) x5_1.length co13) y167 := (by rw [hw, Ny167.out]; exact HP14.1); clear HP14; have n0_ := aM70_ (hp_); have n1_ := aM70_ (blk_grown (g := gb162) (o := .cells #[.slice none 0 0] 24 (0, 0)) q70x9_ hg (Kd.R_ne HO_5.out BK162.out (by decide))); have n2_ := aM70_ ((by rw [hw]; exact below_set (HB.out) GB13.out : Below w.heap.size w w15)); clear HO_5; clear BK162; clear HB; have HO_5 := n0_; have BK162 := n1_; have HB := n2_; clear n0_ n1_ n2_; clear hg hw hp_))
    go_roundg k1
    case measure => have := HK1.out; omega
    case rel => exact ⟨(y167), (wrap64 (x6_1 + 1)), q70x19_, H', ⟨by have := HK1.out; omega⟩, ⟨by (with_reducible repeat (first | apply Kd.R_alloc | apply Kd.R_drewN | apply Kd.R_drew)); exact HO_5.out⟩, ⟨by (with_reducible repeat (first | refine kN70_ ?_ _ | refine kD70_ ?_ | refine kA70_ ?_ _)); exact BK162.out⟩, ⟨by repeat (first | (with_reducible first | exact HB.out | apply below_alloc | apply pw_below_drewN | apply below_drew1 | refine below_set ?_ GE162.out) | exact HB.out)⟩⟩
   rw [if_neg c9] at H
   have c9b0 : decide (x6_1 < (l1.length : Int)) = false := decide_eq_false c9
   clear c9
   have H' := aM70_ H
   clear H
   go_wp2_with (first | ((with_reducible refine gate_dst (N := 7) rfl ?_); refine box_event ?hg (N := 7) ?hd (cs := #[.slice none 0 0]) (t := 24) ?hr ?_; (case hd => rfl); (case hg => rfl); (case hr => first | (go_simp; done) | (go_simp; rfl)); intro gb168 hg w16 hbox hb; have n0_ := aM70_ (Kd.R_below q70x20_ hb); have n1_ := aM70_ (blk_below (g := gb162) (o := .cells #[.slice none 0 0] 24 (0, 0)) q70x9_ hb); have n2_ := aM70_ (below_step q70x12_ hb); have n3_ := aM70_ (hbox); have n4_ := aM70_ ((by rw [hg]; exact (below_size q70x12_) : w.heap.size ≤ gb168)); have n5_ := aM70_ ((by rw [hg]; exact (below_size q70x12_) : w.heap.size ≤ gb168)); have n6_ := aM70_ ((by rw [hg]; exact Nat.ne_of_lt (blk_lt (g := gb162) (o := .cells #[.slice none 0 0] 24 (0, 0)) q70x9_) : gb162 ≠ gb168)); have n7_ := aM70_ ((by rw [hg]; exact Nat.ne_of_gt (blk_lt (g := gb162) (o := .cells #[.slice none 0 0] 24 (0, 0)) q70x9_) : gb168 ≠ gb162)); clear HO_5; clear BK162; clear HB; have HO_5 := n0_; have BK162 := n1_; have HB := n2_; have BK168 := n3_; have GW168 := n4_; have GE168 := n5_; have NB162_168 := n6_; have NB168_162 := n7_; clear n0_ n1_ n2_ n3_ n4_ n5_ n6_ n7_; clear hb hbox hg; have hnb17 := NB168_162.out; have hnc17 := NB162_168.out; have hcz18_0 : w16.cell? ⟨gb168, 0, none⟩ = some (.slice none 0 0) := (kC70_ BK168.out 0).trans rfl; have hfz18_0 := blk_frozen BK168.out 0) | ((with_reducible refine gate_store (t := 24) (p := 7) rfl ?_); refine store_event (t := 24) (p := 7) (v := ?vo_w19) (w1 := (w16.setCell ⟨gb168, 0, none⟩ (.slice none 0 0))) ?hg ?ho ?hn ?hr ?_; (case ho => rfl); (case hg => rfl); (case hn => rfl); (case hr => first | (go_simp; done) | (go_simp; rfl)); intro w19 hw; have n0_ : Aside0 (Kd.R (Kd.int .i16) 74 w19 w.heap.size (fun _ => True) v164 x5_1) := ⟨(by rw [hw]; exact (by (with_reducible repeat (first | apply Kd.R_alloc | apply Kd.R_drewN | apply Kd.R_drew)); exact Kd.R_mono (Kd.R_far (p := ⟨gb168, 0, none⟩) (Kd.R_types HO_5.out BK168.out (by decide)) (fun _ hk => hk.2) (.slice none 0 0)) (fun _ hk => trivial)))⟩; have n1_ : Aside0 (w19.heap[gb162]? = some (.cells #[.slice none 0 0] 24 (0, 0))) := ⟨q70x13_⟩; have n2_ : Aside0 (w19.heap[gb168]? = some (.cells #[.slice none 0 0] 24 (0, 0))) := ⟨(by rw [hw]; exact (by (with_reducible repeat (first | refine kN70_ ?_ _ | refine kD70_ ?_ | refine kA70_ ?_ _)); refine blk_put (cs := #[.slice none 0 0]) ?_ 0 _ rfl; (with_reducible repeat (first | refine kN70_ ?_ _ | refine kD70_ ?_ | refine kA70_ ?_ _)); exact BK168.out))⟩; have n3_ : Aside0 (Below w.heap.size w w19) := ⟨(by rw [hw]; exact q70x11_)⟩; clear hw; clear HO_5; clear BK162; clear BK168; clear HB; have HO_5 := n0_; have BK162 := n1_; have BK168 := n2_; have HB := n3_; clear n0_ n1_ n2_ n3_))
   go_loopg [8] k1 (fun kq v8 w' => ∃ (x8_2 : Int) (x169000_2 : List (S77)) (u169000 : Value), v8 = .int .i64 x8_2 ∧ Aside0 (spec_l06Tree.l1 kq l1 x5_1 x8_2 l0_0 x169000_2 = some r) ∧ Aside0 (kq ≤ k1) ∧ Aside0 (Kd.R (Kd.int .i16) 74 w' w.heap.size (fun _ => True) v164 x5_1) ∧ Aside0 (Kd.R k77 77 w' w.heap.size (fun _ => True) u169000 x169000_2) ∧ Aside0 (w'.heap[gb162]? = some (.cells #[(.slice none 0 0)] 24 (0, 0))) ∧ Aside0 (w'.heap[gb168]? = some (.cells #[u169000] 24 (0, 0))) ∧ Aside0 (Below w.heap.size w w'))
   case atStart => exact ⟨(0), (([] : List (S77))), (.slice none 0 0), q70x19_, H', ⟨Nat.le_refl _⟩, ⟨by (with_reducible repeat (first | apply Kd.R_alloc | apply Kd.R_drewN | apply Kd.R_drew)); exact HO_5.out⟩, ⟨by first | exact Kd.R_nil _ _ _ _ _ | exact Kd.N_nil _ _ _ _ _ | exact Kd.V_nil _ _ _ _ _ | exact Kd.Q_nil _ _ _ _ _ | exact Kd.S_nil _ _ _ _ _⟩, ⟨by (with_reducible repeat (first | refine kN70_ ?_ _ | refine kD70_ ?_ | refine kA70_ ?_ _)); exact BK162.out⟩, ⟨by (with_reducible repeat (first | refine kN70_ ?_ _ | refine kD70_ ?_ | refine kA70_ ?_ _)); exact BK168.out⟩, ⟨by repeat (first | (with_reducible first | exact HB.out | apply below_alloc | apply pw_below_drewN | apply below_drew1 | refine below_set ?_ GE162.out | refine below_set ?_ GE168.out) | exact HB.out)⟩⟩
   case round =>
    clear H'
    try clear c1
    try clear p1
    try clear q1
    try clear hx1
    try clear p2
    try clear c3
    try clear c3b0
    try clear c3b1
    try clear c4
    try clear c4b0
    try clear c4b1
    try clear p6
    try clear c7
    try clear c9
    try clear c9b0
    try clear c10
    try clear c10b0
    try clear c11
    try clear c11b0
    try clear c12
    try clear c12b0
    try clear p13
    try clear q13
    try clear hx13
    try clear hf13
    try clear p16
    try clear q16
    try clear hx16
    try clear c17
    try clear hcz18_0
    try clear hfz18_0
    try clear hx13_0
    try clear hx166_0
    try clear p13
    try clear p166
    try clear p2
    try clear q13
    try clear q166
    obtain ⟨x8_2, x169000_2, u169000, rfl, HA, HK2, HO_5, HO_169000, BK162, BK168, HB⟩ := hrel
    cases gk with
    | zero => exact absurd HA.out (by simp [spec_l06Tree.l1])
    | succ k2 =>
     have H := HA.out
     clear HA
     simp only [spec_l06Tree.l1] at H
     by_cases c20 : x8_2 < (l1.length : Int)
     rotate_left
     ·rw [if_neg c20] at H
      have c20b0 : decide (x8_2 < (l1.length : Int)) = false := decide_eq_false c20
      clear c20
      obtain rfl := Option.some.inj H
      have hnb71 := NB168_162.out
      have hnc71 := NB162_168.out
      have hcz72_0 : wr.cell? ⟨gb168, 0, none⟩ = some (u169000) := (kC70_ BK168.out 0).trans rfl
      have hfz72_0 := blk_frozen BK168.out 0
      obtain ⟨Ao73, co73, eo73⟩ := Kd.R_slice HO_169000.out
      subst eo73
      have hcz74_0 : wr.cell? ⟨gb162, 0, none⟩ = some (.slice none 0 0) := (kC70_ BK162.out 0).trans rfl
      have hfz74_0 := blk_frozen BK162.out 0
      go_wp2_with (first | ((with_reducible refine gate_store (t := 24) (p := 4) rfl ?_); refine store_event (t := 24) (p := 4) (v := ?vo_w75) (w1 := (wr.setCell ⟨gb162, 0, none⟩ (.slice Ao73 x169000_2.length co73))) ?hg ?ho ?hn ?hr ?_; (case ho => rfl); (case hg => rfl); (case hn => rfl); (case hr => first | (go_simp; done) | (go_simp; rfl)); intro w75 hw; have n0_ : Aside0 (Kd.R (Kd.int .i16) 74 w75 w.heap.size (fun _ => True) v164 x5_1) := ⟨(by rw [hw]; exact (by (with_reducible repeat (first | apply Kd.R_alloc | apply Kd.R_drewN | apply Kd.R_drew)); exact Kd.R_mono (Kd.R_far (p := ⟨gb162, 0, none⟩) (Kd.R_types HO_5.out BK162.out (by decide)) (fun _ hk => hk.2) (.slice Ao73 x169000_2.length co73)) (fun _ hk => trivial)))⟩; have n1_ : Aside0 (Kd.R k77 77 w75 w.heap.size (fun _ => True) (.slice Ao73 x169000_2.length co73) x169000_2) := ⟨(by rw [hw]; exact (by (with_reducible repeat (first | apply Kd.R_alloc | apply Kd.R_drewN | apply Kd.R_drew)); exact Kd.R_mono (Kd.R_far (p := ⟨gb162, 0, none⟩) (Kd.R_types HO_169000.out BK162.out (by decide)) (fun _ hk => hk.2) (.slice Ao73 x169000_2.length co73)) (fun _ hk => trivial)))⟩; have n2_ : Aside0 (w75.heap[gb162]? = some (.cells #[.slice Ao73 x169000_2.length co73] 24 (0, 0))) := ⟨(by rw [hw]; exact (by (with_reducible repeat (first | refine kN70_ ?_ _ | refine kD70_ ?_ | refine kA70_ ?_ _)); refine blk_put (cs := #[.slice none 0 0]) ?_ 0 _ rfl; (with_reducible repeat (first | refine kN70_ ?_ _ | refine kD70_ ?_ | refine kA70_ ?_ _)); exact BK162.out))⟩; have n3_ : Aside0 (w75.heap[gb168]? = some (.cells #[.slice Ao73 x169000_2.length co73] 24 (0, 0))) := ⟨(by rw [hw]; exact (by (with_reducible repeat (first | refine kN70_ ?_ _ | refine kD70_ ?_ | refine kA70_ ?_ _)); refine blk_far ?_ NB168_162.out _; (with_reducible repeat (first | refine kN70_ ?_ _ | refine kD70_ ?_ | refine kA70_ ?_ _)); exact BK168.out))⟩; have n4_ : Aside0 (Below w.heap.size w w75) := ⟨(by rw [hw]; exact q70x11_)⟩; clear hw; clear HO_5; clear HO_169000; clear BK162; clear BK168; clear HB; have HO_5 := n0_; have HO_169000 := n1_; have BK162 := n2_; have BK168 := n3_; have HB := n4_; clear n0_ n1_ n2_ n3_ n4_))
      refine bodyPost_ret (results_cell_row rfl _ _ gb162 24 #[.slice Ao73 x169000_2.length co73] (0, 0) _ rfl q70x9_ Try.underlying24 rfl (by kernel_rfl)) rfl ?_
      exact ⟨_, by first | rfl | (simp [errW_none, errW_some] <;> rfl) | (simp [*, errW_none, errW_some] <;> rfl), by (with_reducible repeat (first | apply Kd.R_alloc | apply Kd.R_drewN | apply Kd.R_drew)); exact HO_169000.out, by repeat (first | (with_reducible first | exact HB.out | apply below_alloc | apply pw_below_drewN | apply below_drew1 | refine below_set ?_ GE162.out | refine below_set ?_ GE168.out) | exact HB.out)⟩
     rw [if_pos c20] at H
     have c20b0 : decide (x8_2 < (l1.length : Int)) = true := decide_eq_true c20
     clear c20
     by_cases c21 : 0 ≤ x8_2
     rotate_left
     ·rw [if_neg c21] at H
      exact absurd H (by simp)
     rw [if_pos c21] at H
     have c21b0 : decide (0 ≤ x8_2) = true := decide_eq_true c21
     clear c21
     by_cases c22 : 0 ≤ (rd l1 x8_2)
     rotate_left
     ·rw [if_neg c22] at H
      exact absurd H (by simp)
     rw [if_pos c22] at H
     have c22b0 : decide (0 ≤ (rd l1 x8_2)) = true := decide_eq_true c22
     clear c22
     by_cases c23 : (rd l1 x8_2) < (l0_0.length : Int)
     rotate_left
     ·rw [if_neg c23] at H
      exact absurd H (by simp)
     rw [if_pos c23] at H
     have c23b0 : decide ((rd l1 x8_2) < (l0_0.length : Int)) = true := decide_eq_true c23
     clear c23
     have H' := aM70_ H
     clear H
     try go_wp2
     have n0_ := aM70_ (Kd.R_drew HO_5.out)
     have n1_ := aM70_ (Kd.R_drew HO_169000.out)
     have n2_ := aM70_ (kD70_ BK162.out)
     have n3_ := aM70_ (kD70_ BK168.out)
     have n4_ := aM70_ (below_drew1 HB.out)
     clear HO_5 HO_169000 BK162 BK168 HB
     have HO_5 := n0_
     have HO_169000 := n1_
     have BK162 := n2_
     have BK168 := n3_
     have HB := n4_
     clear n0_ n1_ n2_ n3_ n4_
     have p169 : 0 ≤ (x8_2 : Int) := of_decide_eq_true q70x10_
     have q169 : x8_2 < (l1.length : Int) := of_decide_eq_true q70x10_
     obtain ⟨ad169, e169, hx169_0⟩ := Kd.at_int HR1.out x8_2 p169 q169
     have hw169_0 := hx169_0
     cases e169
     replace hx169_0 := (HB.out.cell (World.block_lt_of_cell? w _ hx169_0)).trans hx169_0
     replace p169 := eq_true p169
     replace q169 := eq_true q169
     have p170 : 0 ≤ ((rd l1 x8_2) : Int) := of_decide_eq_true q70x10_
     have q170 : (rd l1 x8_2) < (l0_0.length : Int) := of_decide_eq_true q70x10_
     obtain ⟨ad170, e170, hx170_0, hx170_1, hx170_2, hx170_3, hx170_4⟩ := at_T77 HR0_0.out (rd l1 x8_2) p170 q170
     have hw170_4 := hx170_4
     have hw170_3 := hx170_3
     have hw170_2 := hx170_2
     have hw170_1 := hx170_1
     have hw170_0 := hx170_0
     cases e170
     replace hx170_0 := (HB.out.cell (World.block_lt_of_cell? w _ hx170_0)).trans hx170_0
     replace hx170_1 := (HB.out.cell (World.block_lt_of_cell? w _ hx170_1)).trans hx170_1
     replace hx170_2 := (HB.out.cell (World.block_lt_of_cell? w _ hx170_2)).trans hx170_2
     replace hx170_3 := (HB.out.cell (World.block_lt_of_cell? w _ hx170_3)).trans hx170_3
     replace hx170_4 := (HB.out.cell (World.block_lt_of_cell? w _ hx170_4)).trans hx170_4
     replace p170 := eq_true p170
     replace q170 := eq_true q170
     refine start_ (n := 12) (S := fun w' => w'.cell? ⟨B0_, O0_, none⟩ = some (.slice (some ad170) l0_0.length c0_0) ∧ w'.cell? (ad169.add (x8_2).toNat) = some (.int .i16 (rd l1 x8_2)) ∧ w'.cell? (ad170.add (((rd l1 x8_2)).toNat * 5)) = some (.int .i8 ((rd_T77 l0_0 (rd l1 x8_2)).f0)) ∧ w'.cell? ⟨(ad170.add (((rd l1 x8_2)).toNat * 5)).block, (ad170.add (((rd l1 x8_2)).toNat * 5)).off + 1, none⟩ = some (.int .i8 ((rd_T77 l0_0 (rd l1 x8_2)).f1)) ∧ w'.cell? ⟨(ad170.add (((rd l1 x8_2)).toNat * 5)).block, (ad170.add (((rd l1 x8_2)).toNat * 5)).off + 2, none⟩ = some (.int .i16 ((rd_T77 l0_0 (rd l1 x8_2)).f2.f0)) ∧ w'.cell? ⟨(ad170.add (((rd l1 x8_2)).toNat * 5)).block, (ad170.add (((rd l1 x8_2)).toNat * 5)).off + 3, none⟩ = some (.int .i16 ((rd_T77 l0_0 (rd l1 x8_2)).f2.f1)) ∧ w'.cell? ⟨(ad170.add (((rd l1 x8_2)).toNat * 5)).block, (ad170.add (((rd l1 x8_2)).toNat * 5)).off + 4, none⟩ = some (.int .i16 ((rd_T77 l0_0 (rd l1 x8_2)).f2.f2))) (ds := []) #[false, false, false, false, false, false, false, false, false, false, false, false] (by kernel_rfl) rfl rfl ⟨((HB.out.cell (World.block_lt_of_cell? w _ (HQ0_.out))).trans (HQ0_.out)), ((HB.out.cell (World.block_lt_of_cell? w _ hw169_0)).trans hw169_0), ((HB.out.cell (World.block_lt_of_cell? w _ hw170_0)).trans hw170_0), ((HB.out.cell (World.block_lt_of_cell? w _ hw170_1)).trans hw170_1), ((HB.out.cell (World.block_lt_of_cell? w _ hw170_2)).trans hw170_2), ((HB.out.cell (World.block_lt_of_cell? w _ hw170_3)).trans hw170_3), ((HB.out.cell (World.block_lt_of_cell? w _ hw170_4)).trans hw170_4)⟩ (fun hHeld => ?_); refine with_tabW spec_l06Tree.tab10 spec_l06Tree.bits10 (fun HT_ HW_ => ?_)
     generalize wr.drew = w24 at HO_5 HO_169000 BK162 BK168 HB hx169_0 hx170_0 hx170_1 hx170_2 hx170_3 hx170_4 hHeld ⊢
     refine pure_ (i := 0) (N := some 38) (v := ?_) (a' := ?_) #[true, false, false, false, false, false, false, false, false, false, false, false] rfl rfl (any_of HT_.out (by kernel_rfl)) (fun _ _ _ h => h) (Or.inl ⟨by rfl, ?_⟩) ?_ ?_
     rotate_left
     ·exact q70x26_
     rotate_left
     ·exact q70x27_
     refine pure_ (i := 1) (N := some 39) (v := ?_) (a' := ?_) #[true, true, false, false, false, false, false, false, false, false, false, false] rfl rfl (any_of HT_.out (by kernel_rfl)) (fun _ _ _ h => h) (Or.inl ⟨by rfl, ?_⟩) ?_ ?_
     rotate_left
     ·exact q70x26_
     rotate_left
     ·exact q70x27_
     refine pure_ (i := 2) (N := some 40) (v := ?_) (a' := ?_) #[true, true, true, false, false, false, false, false, false, false, false, false] rfl rfl (any_of HT_.out (by kernel_rfl)) (fun _ _ _ h => h) (Or.inl ⟨by rfl, ?_⟩) ?_ ?_
     rotate_left
     ·exact q70x26_
     rotate_left
     ·exact q70x27_
     refine pure_ (i := 4) (N := some 42) (v := ?_) (a' := ?_) #[true, true, true, false, true, false, false, false, false, false, false, false] rfl rfl (any_of HT_.out (by kernel_rfl)) (fun _ _ _ h => h) (Or.inl ⟨by rfl, ?_⟩) ?_ ?_
     rotate_left
     ·exact q70x26_
     rotate_left
     ·exact q70x27_
     refine pure_ (i := 5) (N := some 43) (v := ?_) (a' := ?_) #[true, true, true, false, true, true, false, false, false, false, false, false] rfl rfl (any_of HT_.out (by kernel_rfl)) (fun _ _ _ h => h) (Or.inl ⟨by rfl, ?_⟩) ?_ ?_
     rotate_left
     ·exact q70x26_
     rotate_left
     ·exact q70x27_
     refine pure_ (i := 6) (N := some 44) (v := ?_) (a' := ?_) #[true, true, true, false, true, true, true, false, false, false, false, false] rfl rfl (any_of HT_.out (by kernel_rfl)) (fun _ _ _ h => h) (Or.inl ⟨by rfl, ?_⟩) ?_ ?_
     rotate_left
     ·exact q70x26_
     rotate_left
     ·exact q70x27_
     refine take_ (i := 3) (N := some 41) (v := ?_) (a' := ?_) #[true, true, true, true, true, true, true, false, false, false, false, false] rfl rfl (take_ofW HT_.out HW_.out (by kernel_rfl)) (fun _ _ _ h => h) (Or.inl ⟨by rfl, ?_⟩) hHeld ?_ ?_
     rotate_left
     ·rintro w' ⟨s0, s1, s2, s3, s4, s5, s6⟩
      go_simp
      with_reducible rfl
     rotate_left
     ·exact q70x27_
     refine take_ (i := 7) (N := some 45) (v := ?_) (a' := ?_) #[true, true, true, true, true, true, true, true, false, false, false, false] rfl rfl (take_ofW HT_.out HW_.out (by kernel_rfl)) (fun _ _ _ h => h) (Or.inl ⟨by rfl, ?_⟩) hHeld ?_ ?_
     rotate_left
     ·rintro w' ⟨s0, s1, s2, s3, s4, s5, s6⟩
      go_simp
      with_reducible rfl
     rotate_left
     ·exact q70x27_
     refine pure_ (i := 8) (N := some 46) (v := ?_) (a' := ?_) #[true, true, true, true, true, true, true, true, true, false, false, false] rfl rfl (any_of HT_.out (by kernel_rfl)) (fun _ _ _ h => h) (Or.inl ⟨by rfl, ?_⟩) ?_ ?_
     rotate_left
     ·exact q70x26_
     rotate_left
     ·exact q70x27_
     refine take_ (i := 9) (N := some 47) (v := ?_) (a' := ?_) #[true, true, true, true, true, true, true, true, true, true, false, false] rfl rfl (take_ofW HT_.out HW_.out (by kernel_rfl)) (fun _ _ _ h => h) (Or.inl ⟨by rfl, ?_⟩) hHeld ?_ ?_
     rotate_left
     ·rintro w' ⟨s0, s1, s2, s3, s4, s5, s6⟩
      go_simp
      with_reducible rfl
     rotate_left
     ·exact q70x27_
     refine one_ (i := 10) (N := some 9) #[true, true, true, true, true, true, true, true, true, true, true, false] rfl rfl (one_of HT_.out (by kernel_rfl)) (by decide) (fun K hK => ?_)
     refine box_step ?hg (N := 9) ?hd (cs := #[.int .i8 0, .int .i8 0, .int .i16 0, .int .i16 0, .int .i16 0]) (t := 77) ?hr ?_; (case hd => rfl); (case hg => rfl); (case hr => first | (go_simp; done) | (go_simp; rfl))
     intro gb171 hg w25 hbox hb
     have n0_ := aM70_ (Kd.R_below q70x20_ hb)
     have n1_ := aM70_ (Kd.R_below (Kd.R_elderB q70x15_ gb171 (Nat.le_of_eq hg.symm)) hb)
     have n2_ := aM70_ (blk_below (g := gb162) (o := .cells #[.slice none 0 0] 24 (0, 0)) q70x9_ hb)
     have n3_ := aM70_ (blk_below (g := gb168) (o := .cells #[u169000] 24 (0, 0)) q70x14_ hb)
     have n4_ := aM70_ (below_step q70x11_ hb)
     have n5_ := aM70_ (hbox)
     have n6_ := aM70_ ((by rw [hg]; exact (below_size q70x11_) : w.heap.size ≤ gb171))
     have n7_ := aM70_ ((by rw [hg]; exact (below_size q70x11_) : w.heap.size ≤ gb171))
     have n8_ := aM70_ ((by rw [hg]; exact Nat.ne_of_lt (blk_lt (g := gb162) (o := .cells #[.slice none 0 0] 24 (0, 0)) q70x9_) : gb162 ≠ gb171))
     have n9_ := aM70_ ((by rw [hg]; exact Nat.ne_of_gt (blk_lt (g := gb162) (o := .cells #[.slice none 0 0] 24 (0, 0)) q70x9_) : gb171 ≠ gb162))
     have n10_ := aM70_ ((by rw [hg]; exact Nat.ne_of_lt (blk_lt (g := gb168) (o := .cells #[u169000] 24 (0, 0)) q70x14_) : gb168 ≠ gb171))
     have n11_ := aM70_ ((by rw [hg]; exact Nat.ne_of_gt (blk_lt (g := gb168) (o := .cells #[u169000] 24 (0, 0)) q70x14_) : gb171 ≠ gb168))
     clear HO_5 HO_169000 BK162 BK168 HB
     have HO_5 := n0_
     have HO_169000 := n1_
     have BK162 := n2_
     have BK168 := n3_
     have HB := n4_
     have BK171 := n5_
     have GW171 := n6_
     have GE171 := n7_
     have NB162_171 := n8_
     have NB171_162 := n9_
     have NB168_171 := n10_
     have NB171_168 := n11_
     clear n0_ n1_ n2_ n3_ n4_ n5_ n6_ n7_ n8_ n9_ n10_ n11_ hb hbox hg
     refine hK.out _ _ ⟨((HB.out.cell (World.block_lt_of_cell? w _ (HQ0_.out))).trans (HQ0_.out)), ((HB.out.cell (World.block_lt_of_cell? w _ hw169_0)).trans hw169_0), ((HB.out.cell (World.block_lt_of_cell? w _ hw170_0)).trans hw170_0), ((HB.out.cell (World.block_lt_of_cell? w _ hw170_1)).trans hw170_1), ((HB.out.cell (World.block_lt_of_cell? w _ hw170_2)).trans hw170_2), ((HB.out.cell (World.block_lt_of_cell? w _ hw170_3)).trans hw170_3), ((HB.out.cell (World.block_lt_of_cell? w _ hw170_4)).trans hw170_4)⟩ (fun hHeld => ?_)
     clear hK K
     refine norm_ (a' := ?_) ?_ ?_
     rotate_left
     ·show Act.put _ (some 9) _ = _
      simp only [Act.put, List.setIfInBounds_toArray, List.set_cons_zero, List.set_cons_succ, i64_w, i32_w]
      rfl
     refine one_ (i := 11) (N := none) #[true, true, true, true, true, true, true, true, true, true, true, true] rfl rfl (one_of HT_.out (by kernel_rfl)) (by decide) (fun K hK => ?_)
     have hs26 : w25.cell? ⟨gb171, 0, none⟩ = some (.int .i8 0) := (kC70_ BK171.out 0).trans rfl
     have hfs26 := blk_frozen BK171.out 0
     have hns26_0 := NB162_171.out
     have hns26_1 := NB168_171.out
     have hms26_0 := NB171_162.out
     have hms26_1 := NB171_168.out
     have hs27 : w25.cell? ⟨gb171, 1, none⟩ = some (.int .i8 0) := (kC70_ BK171.out 1).trans rfl
     have hfs27 := blk_frozen BK171.out 1
     have hns27_0 := NB162_171.out
     have hns27_1 := NB168_171.out
     have hms27_0 := NB171_162.out
     have hms27_1 := NB171_168.out
     have hs28 : w25.cell? ⟨gb171, 2, none⟩ = some (.int .i16 0) := (kC70_ BK171.out 2).trans rfl
     have hfs28 := blk_frozen BK171.out 2
     have hns28_0 := NB162_171.out
     have hns28_1 := NB168_171.out
     have hms28_0 := NB171_162.out
     have hms28_1 := NB171_168.out
     have hs29 : w25.cell? ⟨gb171, 3, none⟩ = some (.int .i16 0) := (kC70_ BK171.out 3).trans rfl
     have hfs29 := blk_frozen BK171.out 3
     have hns29_0 := NB162_171.out
     have hns29_1 := NB168_171.out
     have hms29_0 := NB171_162.out
     have hms29_1 := NB171_168.out
     have hs30 : w25.cell? ⟨gb171, 4, none⟩ = some (.int .i16 0) := (kC70_ BK171.out 4).trans rfl
     have hfs30 := blk_frozen BK171.out 4
     have hns30_0 := NB162_171.out
     have hns30_1 := NB168_171.out
     have hms30_0 := NB171_162.out
     have hms30_1 := NB171_168.out
     refine skip_ (w1 := ?_) (by rfl) rfl ?_ ?_
     rotate_left
     ·go_simp
      rfl
     refine hK.out _ _ ⟨((cell_far (p := ⟨gb171, _, none⟩) q70x7_ _).trans (((cell_far (p := ⟨gb171, _, none⟩) q70x7_ _).trans (((cell_far (p := ⟨gb171, _, none⟩) q70x7_ _).trans (((cell_far (p := ⟨gb171, _, none⟩) q70x7_ _).trans (((cell_far (p := ⟨gb171, _, none⟩) q70x7_ _).trans (hHeld.1)))))))))), ((cell_far (p := ⟨gb171, _, none⟩) q70x1_ _).trans (((cell_far (p := ⟨gb171, _, none⟩) q70x1_ _).trans (((cell_far (p := ⟨gb171, _, none⟩) q70x1_ _).trans (((cell_far (p := ⟨gb171, _, none⟩) q70x1_ _).trans (((cell_far (p := ⟨gb171, _, none⟩) q70x1_ _).trans (hHeld.2.1)))))))))), ((cell_far (p := ⟨gb171, _, none⟩) q70x2_ _).trans (((cell_far (p := ⟨gb171, _, none⟩) q70x2_ _).trans (((cell_far (p := ⟨gb171, _, none⟩) q70x2_ _).trans (((cell_far (p := ⟨gb171, _, none⟩) q70x2_ _).trans (((cell_far (p := ⟨gb171, _, none⟩) q70x2_ _).trans (hHeld.2.2.1)))))))))), ((cell_far (p := ⟨gb171, _, none⟩) q70x3_ _).trans (((cell_far (p := ⟨gb171, _, none⟩) q70x3_ _).trans (((cell_far (p := ⟨gb171, _, none⟩) q70x3_ _).trans (((cell_far (p := ⟨gb171, _, none⟩) q70x3_ _).trans (((cell_far (p := ⟨gb171, _, none⟩) q70x3_ _).trans (hHeld.2.2.2.1)))))))))), ((cell_far (p := ⟨gb171, _, none⟩) q70x4_ _).trans (((cell_far (p := ⟨gb171, _, none⟩) q70x4_ _).trans (((cell_far (p := ⟨gb171, _, none⟩) q70x4_ _).trans (((cell_far (p := ⟨gb171, _, none⟩) q70x4_ _).trans (((cell_far (p := ⟨gb171, _, none⟩) q70x4_ _).trans (hHeld.2.2.2.2.1)))))))))), ((cell_far (p := ⟨gb171, _, none⟩) q70x5_ _).trans (((cell_far (p := ⟨gb171, _, none⟩) q70x5_ _).trans (((cell_far (p := ⟨gb171, _, none⟩) q70x5_ _).trans (((cell_far (p := ⟨gb171, _, none⟩) q70x5_ _).trans (((cell_far (p := ⟨gb171, _, none⟩) q70x5_ _).trans (hHeld.2.2.2.2.2.1)))))))))), ((cell_far (p := ⟨gb171, _, none⟩) q70x6_ _).trans (((cell_far (p := ⟨gb171, _, none⟩) q70x6_ _).trans (((cell_far (p := ⟨gb171, _, none⟩) q70x6_ _).trans (((cell_far (p := ⟨gb171, _, none⟩) q70x6_ _).trans (((cell_far (p := ⟨gb171, _, none⟩) q70x6_ _).trans (hHeld.2.2.2.2.2.2))))))))))⟩ (fun hHeld => ?_)
     clear hK K
     refine done_ (done_of HT_.out (by kernel_rfl)) ?_
     try go_wp2
     go_loopg [10] k2 (fun kq v10 w' => ∃ (x10_3 : Int) (x172002_3 : Int) (x172003_3 : Int) (x172004_3 : Int), v10 = .int .i64 x10_3 ∧ Aside0 (spec_l06Tree.l2 kq l1 x5_1 x8_2 x10_3 l0_0 x169000_2 ((rd_T77 l0_0 (rd l1 x8_2)).f0) ((rd_T77 l0_0 (rd l1 x8_2)).f1) x172002_3 x172003_3 x172004_3 = some r) ∧ Aside0 (kq ≤ k2) ∧ Aside0 (Kd.R (Kd.int .i16) 74 w' w.heap.size (fun _ => True) v164 x5_1) ∧ Aside0 (Kd.R k77 77 w' w.heap.size (fun k_ => k_ ≠ gb171) u169000 x169000_2) ∧ Aside0 (w'.heap[gb162]? = some (.cells #[(.slice none 0 0)] 24 (0, 0))) ∧ Aside0 (w'.heap[gb168]? = some (.cells #[u169000] 24 (0, 0))) ∧ Aside0 (w'.heap[gb171]? = some (.cells #[.int .i8 ((rd_T77 l0_0 (rd l1 x8_2)).f0), .int .i8 ((rd_T77 l0_0 (rd l1 x8_2)).f1), .int .i16 x172002_3, .int .i16 x172003_3, .int .i16 x172004_3] 77 (0, 0))) ∧ Aside0 (Below w.heap.size w w'))
     case atStart => exact ⟨(0), ((rd_T77 l0_0 (rd l1 x8_2)).f2.f0), ((rd_T77 l0_0 (rd l1 x8_2)).f2.f1), ((rd_T77 l0_0 (rd l1 x8_2)).f2.f2), q70x19_, H', ⟨Nat.le_refl _⟩, ⟨by (with_reducible repeat (first | apply Kd.R_alloc | apply Kd.R_drewN | apply Kd.R_drew)); exact Kd.R_mono (Kd.R_far (p := ⟨gb171, 4, none⟩) (Kd.R_far (p := ⟨gb171, 3, none⟩) (Kd.R_far (p := ⟨gb171, 2, none⟩) (Kd.R_far (p := ⟨gb171, 1, none⟩) (Kd.R_far (p := ⟨gb171, 0, none⟩) (Kd.R_types HO_5.out BK171.out (by decide)) (fun _ hk => hk.2) (.int .i8 ((rd_T77 l0_0 (rd l1 x8_2)).f0))) (fun _ hk => hk.2) (.int .i8 ((rd_T77 l0_0 (rd l1 x8_2)).f1))) (fun _ hk => hk.2) (.int .i16 ((rd_T77 l0_0 (rd l1 x8_2)).f2.f0))) (fun _ hk => hk.2) (.int .i16 ((rd_T77 l0_0 (rd l1 x8_2)).f2.f1))) (fun _ hk => hk.2) (.int .i16 ((rd_T77 l0_0 (rd l1 x8_2)).f2.f2))) (fun _ hk => trivial)⟩, ⟨by (with_reducible repeat (first | apply Kd.R_alloc | apply Kd.R_drewN | apply Kd.R_drew)); exact Kd.R_mono (Kd.R_far (p := ⟨gb171, 4, none⟩) (Kd.R_far (p := ⟨gb171, 3, none⟩) (Kd.R_far (p := ⟨gb171, 2, none⟩) (Kd.R_far (p := ⟨gb171, 1, none⟩) (Kd.R_far (p := ⟨gb171, 0, none⟩) (Kd.R_mono HO_169000.out (fun k_ hk => (⟨hk, hk.2⟩ : _ ∧ k_ ≠ gb171))) (fun _ hk => hk.2) (.int .i8 ((rd_T77 l0_0 (rd l1 x8_2)).f0))) (fun _ hk => hk.2) (.int .i8 ((rd_T77 l0_0 (rd l1 x8_2)).f1))) (fun _ hk => hk.2) (.int .i16 ((rd_T77 l0_0 (rd l1 x8_2)).f2.f0))) (fun _ hk => hk.2) (.int .i16 ((rd_T77 l0_0 (rd l1 x8_2)).f2.f1))) (fun _ hk => hk.2) (.int .i16 ((rd_T77 l0_0 (rd l1 x8_2)).f2.f2))) (fun _ hk => hk.1.2)⟩, ⟨by (with_reducible repeat (first | refine kN70_ ?_ _ | refine kD70_ ?_ | refine kA70_ ?_ _)); refine blk_far ?_ NB162_171.out _; (with_reducible repeat (first | refine kN70_ ?_ _ | refine kD70_ ?_ | refine kA70_ ?_ _)); refine blk_far ?_ NB162_171.out _; (with_reducible repeat (first | refine kN70_ ?_ _ | refine kD70_ ?_ | refine kA70_ ?_ _)); refine blk_far ?_ NB162_171.out _; (with_reducible repeat (first | refine kN70_ ?_ _ | refine kD70_ ?_ | refine kA70_ ?_ _)); refine blk_far ?_ NB162_171.out _; (with_reducible repeat (first | refine kN70_ ?_ _ | refine kD70_ ?_ | refine kA70_ ?_ _)); refine blk_far ?_ NB162_171.out _; (with_reducible repeat (first | refine kN70_ ?_ _ | refine kD70_ ?_ | refine kA70_ ?_ _)); exact BK162.out⟩, ⟨by (with_reducible repeat (first | refine kN70_ ?_ _ | refine kD70_ ?_ | refine kA70_ ?_ _)); refine blk_far ?_ NB168_171.out _; (with_reducible repeat (first | refine kN70_ ?_ _ | refine kD70_ ?_ | refine kA70_ ?_ _)); refine blk_far ?_ NB168_171.out _; (with_reducible repeat (first | refine kN70_ ?_ _ | refine kD70_ ?_ | refine kA70_ ?_ _)); refine blk_far ?_ NB168_171.out _; (with_reducible repeat (first | refine kN70_ ?_ _ | refine kD70_ ?_ | refine kA70_ ?_ _)); refine blk_far ?_ NB168_171.out _; (with_reducible repeat (first | refine kN70_ ?_ _ | refine kD70_ ?_ | refine kA70_ ?_ _)); refine blk_far ?_ NB168_171.out _; (with_reducible repeat (first | refine kN70_ ?_ _ | refine kD70_ ?_ | refine kA70_ ?_ _)); exact BK168.out⟩, ⟨by (with_reducible repeat (first | refine kN70_ ?_ _ | refine kD70_ ?_ | refine kA70_ ?_ _)); refine blk_put (cs := #[.int .i8 ((rd_T77 l0_0 (rd l1 x8_2)).f0), .int .i8 ((rd_T77 l0_0 (rd l1 x8_2)).f1), .int .i16 ((rd_T77 l0_0 (rd l1 x8_2)).f2.f0), .int .i16 ((rd_T77 l0_0 (rd l1 x8_2)).f2.f1), .int .i16 0]) ?_ 4 _ rfl; (with_reducible repeat (first | refine kN70_ ?_ _ | refine kD70_ ?_ | refine kA70_ ?_ _)); refine blk_put (cs := #[.int .i8 ((rd_T77 l0_0 (rd l1 x8_2)).f0), .int .i8 ((rd_T77 l0_0 (rd l1 x8_2)).f1), .int .i16 ((rd_T77 l0_0 (rd l1 x8_2)).f2.f0), .int .i16 0, .int .i16 0]) ?_ 3 _ rfl; (with_reducible repeat (first | refine kN70_ ?_ _ | refine kD70_ ?_ | refine kA70_ ?_ _)); refine blk_put (cs := #[.int .i8 ((rd_T77 l0_0 (rd l1 x8_2)).f0), .int .i8 ((rd_T77 l0_0 (rd l1 x8_2)).f1), .int .i16 0, .int .i16 0, .int .i16 0]) ?_ 2 _ rfl; (with_reducible repeat (first | refine kN70_ ?_ _ | refine kD70_ ?_ | refine kA70_ ?_ _)); refine blk_put (cs := #[.int .i8 ((rd_T77 l0_0 (rd l1 x8_2)).f0), .int .i8 0, .int .i16 0, .int .i16 0, .int .i16 0]) ?_ 1 _ rfl; (with_reducible repeat (first | refine kN70_ ?_ _ | refine kD70_ ?_ | refine kA70_ ?_ _)); refine blk_put (cs := #[.int .i8 0, .int .i8 0, .int .i16 0, .int .i16 0, .int .i16 0]) ?_ 0 _ rfl; (with_reducible repeat (first | refine kN70_ ?_ _ | refine kD70_ ?_ | refine kA70_ ?_ _)); exact BK171.out⟩, ⟨by repeat (first | (with_reducible first | exact HB.out | apply below_alloc | apply pw_below_drewN | apply below_drew1 | refine below_set ?_ GE162.out | refine below_set ?_ GE168.out | refine below_set ?_ GE171.out) | exact HB.out)⟩⟩
     case round =>
      clear H'
      try clear c1
      try clear p1
      try clear q1
      try clear hx1
      try clear c2
      try clear p2
      try clear c3
      try clear c3b0
      try clear c3b1
      try clear c4
      try clear c4b0
      try clear c4b1
      try clear p6
      try clear c7
      try clear c9
      try clear c9b0
      try clear c10
      try clear c10b0
      try clear c11
      try clear c11b0
      try clear c12
      try clear c12b0
      try clear p13
      try clear q13
      try clear hx13
      try clear hf13
      try clear p16
      try clear q16
      try clear hx16
      try clear c17
      try clear p17
      try clear q17
      try clear hx17
      try clear c20
      try clear c20b0
      try clear c21
      try clear c21b0
      try clear c22
      try clear c22b0
      try clear c23
      try clear c23b0
      try clear hcz18_0
      try clear hfz18_0
      try clear hx13_0
      try clear hx166_0
      try clear hx169_0
      try clear hx170_0
      try clear hx170_1
      try clear hx170_2
      try clear hx170_3
      try clear hx170_4
      try clear p1
      try clear p13
      try clear p16
      try clear p166
      try clear p169
      try clear p170
      try clear p2
      try clear p6
      try clear q1
      try clear q13
      try clear q16
      try clear q166
      try clear q169
      try clear q170
      obtain ⟨x10_3, x172002_3, x172003_3, x172004_3, rfl, HA, HK3, HO_5, HO_169000, BK162, BK168, BK171, HB⟩ := hrel
      cases gk with
      | zero => exact absurd HA.out (by simp [spec_l06Tree.l2])
      | succ k3 =>
       have H := HA.out
       clear HA
       simp only [spec_l06Tree.l2] at H
       by_cases c31 : ((rd_T77 l0_0 (rd l1 x8_2)).f0) = 1
       ·rw [if_pos c31] at H
        have c31b0 : (((rd_T77 l0_0 (rd l1 x8_2)).f0) == 1) = true := beq_iff_eq.mpr c31
        have c31b1 : (((rd_T77 l0_0 (rd l1 x8_2)).f0) != 1) = false := bne_eq_false_iff_eq.mpr c31
        clear c31
        by_cases c32 : x10_3 < 3
        ·rw [if_pos c32] at H
         have c32b0 : decide (x10_3 < 3) = true := decide_eq_true c32
         clear c32
         by_cases c33 : 0 ≤ x10_3
         rotate_left
         ·rw [if_neg c33] at H
          exact absurd H (by simp)
         rw [if_pos c33] at H
         have c33b0 : decide (0 ≤ x10_3) = true := decide_eq_true c33
         clear c33
         by_cases c34 : 0 ≤ (rd [x172002_3, x172003_3, x172004_3] x10_3)
         rotate_left
         ·rw [if_neg c34] at H
          exact absurd H (by simp)
         rw [if_pos c34] at H
         have c34b0 : decide (0 ≤ (rd [x172002_3, x172003_3, x172004_3] x10_3)) = true := decide_eq_true c34
         clear c34
         by_cases c35 : (rd [x172002_3, x172003_3, x172004_3] x10_3) < (x5_1.length : Int)
         rotate_left
         ·rw [if_neg c35] at H
          exact absurd H (by simp)
         rw [if_pos c35] at H
         have c35b0 : decide ((rd [x172002_3, x172003_3, x172004_3] x10_3) < (x5_1.length : Int)) = true := decide_eq_true c35
         clear c35
         have H' := aM70_ H
         clear H
         have hnb36 := NB171_162.out
         have hnc36 := NB162_171.out
         have hnb37 := NB171_168.out
         have hnc37 := NB168_171.out
         have hcz38_0 : wr.cell? ⟨gb171, 0, none⟩ = some (.int .i8 ((rd_T77 l0_0 (rd l1 x8_2)).f0)) := (kC70_ BK171.out 0).trans rfl
         have hcz38_1 : wr.cell? ⟨gb171, 1, none⟩ = some (.int .i8 ((rd_T77 l0_0 (rd l1 x8_2)).f1)) := (kC70_ BK171.out 1).trans rfl
         have hcz38_2 : wr.cell? ⟨gb171, 2, none⟩ = some (.int .i16 x172002_3) := (kC70_ BK171.out 2).trans rfl
         have hcz38_3 : wr.cell? ⟨gb171, 3, none⟩ = some (.int .i16 x172003_3) := (kC70_ BK171.out 3).trans rfl
         have hcz38_4 : wr.cell? ⟨gb171, 4, none⟩ = some (.int .i16 x172004_3) := (kC70_ BK171.out 4).trans rfl
         have hfz38_0 := blk_frozen BK171.out 0
         have hfz38_1 := blk_frozen BK171.out 1
         have hfz38_2 := blk_frozen BK171.out 2
         have hfz38_3 := blk_frozen BK171.out 3
         have hfz38_4 := blk_frozen BK171.out 4
         have HP172 := aM70_ (show 0 ≤ (x10_3 : Int) ∧ (x10_3 : Int) < 3 from ⟨of_decide_eq_true q70x10_, of_decide_eq_true q70x10_⟩)
         have hx172_0 : wr.cell? ⟨gb171, 2 + (x10_3 : Int).toNat, none⟩ = some (.int .i16 (rd [x172002_3, x172003_3, x172004_3] x10_3)) := (by (rcases (show x10_3 = 0 ∨ x10_3 = 1 ∨ x10_3 = 2 from (by have h_ := HP172.out; omega)) with rfl | rfl | rfl <;> first | exact (kC70_ BK171.out 2).trans rfl | exact (kC70_ BK171.out 3).trans rfl | exact (kC70_ BK171.out 4).trans rfl))
         have hx172_1 : wr.cell? ((⟨gb171, 2, none⟩ : Addr).add (x10_3 : Int).toNat) = some (.int .i16 (rd [x172002_3, x172003_3, x172004_3] x10_3)) := (congrArg _ (add_off _ _ _)).trans hx172_0
         have hpz172 := eq_true HP172.out.1
         have hpy172 := eq_true HP172.out.2
         obtain ⟨Ao39, co39, eo39⟩ := Kd.R_slice HO_5.out
         subst eo39
         have p173 : 0 ≤ ((rd [x172002_3, x172003_3, x172004_3] x10_3) : Int) := of_decide_eq_true q70x10_
         have q173 : (rd [x172002_3, x172003_3, x172004_3] x10_3) < (x5_1.length : Int) := of_decide_eq_true q70x10_
         obtain ⟨ad173, e173, hx173_0⟩ := Kd.at_int (Kd.R_reads' HO_5.out).2.2 (rd [x172002_3, x172003_3, x172004_3] x10_3) p173 q173
         cases e173
         replace p173 := eq_true p173
         replace q173 := eq_true q173
         have HP174 := aM70_ (show 0 ≤ (x10_3 : Int) ∧ (x10_3 : Int) < 3 from ⟨of_decide_eq_true q70x10_, of_decide_eq_true q70x10_⟩)
         have hx174_0 : wr.cell? ⟨gb171, 2 + (x10_3 : Int).toNat, none⟩ = some (.int .i16 (rd [x172002_3, x172003_3, x172004_3] x10_3)) := (by (rcases (show x10_3 = 0 ∨ x10_3 = 1 ∨ x10_3 = 2 from (by have h_ := HP174.out; omega)) with rfl | rfl | rfl <;> first | exact (kC70_ BK171.out 2).trans rfl | exact (kC70_ BK171.out 3).trans rfl | exact (kC70_ BK171.out 4).trans rfl))
         have hx174_1 : wr.cell? ((⟨gb171, 2, none⟩ : Addr).add (x10_3 : Int).toNat) = some (.int .i16 (rd [x172002_3, x172003_3, x172004_3] x10_3)) := (congrArg _ (add_off _ _ _)).trans hx174_0
         have hf174_0 := blk_frozen BK171.out (2 + (x10_3 : Int).toNat)
         have hpz174 := eq_true HP174.out.1
         have hpy174 := eq_true HP174.out.2
         go_wp2_with (first | ((go_at_call 106; go_in)) | ((with_reducible refine gate_store (t := 74) (p := 62) rfl ?_); refine store_event (t := 74) (p := 62) (v := ?vo_w40) (w1 := (wr.setCell ⟨gb171, 2 + (x10_3 : Int).toNat, none⟩ (.int .i16 (rd x5_1 (rd [x172002_3, x172003_3, x172004_3] x10_3))))) ?hg ?ho ?hn ?hr ?_; (case ho => rfl); (case hg => rfl); (case hn => rfl); (case hr => first | (go_simp; done) | (go_simp; rfl)); intro w40 hw; have n0_ : Aside0 (Kd.R (Kd.int .i16) 74 w40 w.heap.size (fun _ => True) (.slice (some ad173) x5_1.length co39) x5_1) := ⟨q70x18_⟩; have n1_ : Aside0 (Kd.R k77 77 w40 w.heap.size (fun k_ => k_ ≠ gb171) u169000 x169000_2) := ⟨q70x16_⟩; have n2_ : Aside0 (w40.heap[gb162]? = some (.cells #[.slice none 0 0] 24 (0, 0))) := ⟨q70x22_⟩; have n3_ : Aside0 (w40.heap[gb168]? = some (.cells #[u169000] 24 (0, 0))) := ⟨q70x23_⟩; have n4_ : Aside0 (w40.heap[gb171]? = some (.cells #[.int .i8 ((rd_T77 l0_0 (rd l1 x8_2)).f0), .int .i8 ((rd_T77 l0_0 (rd l1 x8_2)).f1), .int .i16 (aput 0 x10_3 (rd x5_1 (rd [x172002_3, x172003_3, x172004_3] x10_3)) x172002_3), .int .i16 (aput 1 x10_3 (rd x5_1 (rd [x172002_3, x172003_3, x172004_3] x10_3)) x172003_3), .int .i16 (aput 2 x10_3 (rd x5_1 (rd [x172002_3, x172003_3, x172004_3] x10_3)) x172004_3)] 77 (0, 0))) := ⟨(by rw [hw]; exact (by (with_reducible repeat (first | refine kN70_ ?_ _ | refine kD70_ ?_ | refine kA70_ ?_ _)); refine blk_put (cs := #[.int .i8 ((rd_T77 l0_0 (rd l1 x8_2)).f0), .int .i8 ((rd_T77 l0_0 (rd l1 x8_2)).f1), .int .i16 x172002_3, .int .i16 x172003_3, .int .i16 x172004_3]) ?_ (2 + (x10_3 : Int).toNat) _ (by rcases (show x10_3 = 0 ∨ x10_3 = 1 ∨ x10_3 = 2 from (by have h_ := HP174.out; omega)) with rfl | rfl | rfl <;> rfl); (with_reducible repeat (first | refine kN70_ ?_ _ | refine kD70_ ?_ | refine kA70_ ?_ _)); exact BK171.out))⟩; have n5_ : Aside0 (Below w.heap.size w w40) := ⟨(by rw [hw]; exact q70x8_)⟩; clear hw; clear HO_5; clear HO_169000; clear BK162; clear BK168; clear BK171; clear HB; have HO_5 := n0_; have HO_169000 := n1_; have BK162 := n2_; have BK168 := n3_; have BK171 := n4_; have HB := n5_; clear n0_ n1_ n2_ n3_ n4_ n5_))
         go_roundg k3
         case measure => have := HK1.out; have := HK2.out; have := HK3.out; omega
         case rel => exact ⟨(wrap64 (x10_3 + 1)), ((aput 0 x10_3 (rd x5_1 (rd [x172002_3, x172003_3, x172004_3] x10_3)) x172002_3)), ((aput 1 x10_3 (rd x5_1 (rd [x172002_3, x172003_3, x172004_3] x10_3)) x172003_3)), ((aput 2 x10_3 (rd x5_1 (rd [x172002_3, x172003_3, x172004_3] x10_3)) x172004_3)), q70x19_, H', ⟨by have := HK1.out; have := HK2.out; have := HK3.out; omega⟩, ⟨by (with_reducible repeat (first | apply Kd.R_alloc | apply Kd.R_drewN | apply Kd.R_drew)); exact HO_5.out⟩, ⟨by (with_reducible repeat (first | apply Kd.R_alloc | apply Kd.R_drewN | apply Kd.R_drew)); exact HO_169000.out⟩, ⟨by (with_reducible repeat (first | refine kN70_ ?_ _ | refine kD70_ ?_ | refine kA70_ ?_ _)); exact BK162.out⟩, ⟨by (with_reducible repeat (first | refine kN70_ ?_ _ | refine kD70_ ?_ | refine kA70_ ?_ _)); exact BK168.out⟩, ⟨by (with_reducible repeat (first | refine kN70_ ?_ _ | refine kD70_ ?_ | refine kA70_ ?_ _)); exact BK171.out⟩, ⟨by repeat (first | (with_reducible first | exact HB.out | apply below_alloc | apply pw_below_drewN | apply below_drew1 | refine below_set ?_ GE162.out | refine below_set ?_ GE168.out | refine below_set ?_ GE171.out) | exact HB.out)⟩⟩
        rw [if_neg c32] at H
        have c32b0 : decide (x10_3 < 3) = false := decide_eq_false c32
        clear c32
        by_cases c41 : x169000_2.length < 17592186044416
        rotate_left
        ·rw [if_neg c41] at H
         exact absurd H (by simp)
        rw [if_pos c41] at H
        have LMc41 := aM70_ c41
        clear c41
        obtain ⟨y175, hy175⟩ : ∃ y_ : List (S77), y_ = (x169000_2 ++ [(⟨((rd_T77 l0_0 (rd l1 x8_2)).f0), ((rd_T77 l0_0 (rd l1 x8_2)).f1), (⟨x172002_3, x172003_3, x172004_3⟩ : S75)⟩ : S77)]) := ⟨_, rfl⟩
        replace H : (spec_l06Tree.l1 k3 l1 x5_1 (wrap64 (x8_2 + 1)) l0_0 y175) = some r := by first | (rw [hy175]; with_reducible exact H) | (have H2_ := (Option.bind_some _ _).symm.trans H; rw [hy175]; with_reducible exact H2_) | (have H2_ := (Option.bind_some _ _).symm.trans H; with_reducible exact H2_) | with_reducible exact H | (rw [hy175]; exact H) | exact H
        have Ny175 := aM70_ hy175
        clear hy175
        have H' := aM70_ H
        clear H
        have hnb42 := NB171_162.out
        have hnc42 := NB162_171.out
        have hnb43 := NB171_168.out
        have hnc43 := NB168_171.out
        have hcz44_0 : wr.cell? ⟨gb171, 0, none⟩ = some (.int .i8 ((rd_T77 l0_0 (rd l1 x8_2)).f0)) := (kC70_ BK171.out 0).trans rfl
        have hcz44_1 : wr.cell? ⟨gb171, 1, none⟩ = some (.int .i8 ((rd_T77 l0_0 (rd l1 x8_2)).f1)) := (kC70_ BK171.out 1).trans rfl
        have hcz44_2 : wr.cell? ⟨gb171, 2, none⟩ = some (.int .i16 x172002_3) := (kC70_ BK171.out 2).trans rfl
        have hcz44_3 : wr.cell? ⟨gb171, 3, none⟩ = some (.int .i16 x172003_3) := (kC70_ BK171.out 3).trans rfl
        have hcz44_4 : wr.cell? ⟨gb171, 4, none⟩ = some (.int .i16 x172004_3) := (kC70_ BK171.out 4).trans rfl
        have hfz44_0 := blk_frozen BK171.out 0
        have hfz44_1 := blk_frozen BK171.out 1
        have hfz44_2 := blk_frozen BK171.out 2
        have hfz44_3 := blk_frozen BK171.out 3
        have hfz44_4 := blk_frozen BK171.out 4
        have hnb45 := NB168_162.out
        have hnc45 := NB162_168.out
        have hcz46_0 : wr.cell? ⟨gb168, 0, none⟩ = some (u169000) := (kC70_ BK168.out 0).trans rfl
        have hfz46_0 := blk_frozen BK168.out 0
        go_wp2_with (first | ((go_at_call 106; go_in)) | ((with_reducible refine gate_builtin (b := .append) (xs := #[.tmp 64, .tmp 66]) rfl ?_); at_builtin; refine Kd.R_append k77 (w0 := w) w.heap.size rfl (.tmp 64) (.tmp 66) 22 77 (.agg #[(.int .i8 0), (.int .i8 0), (.int .i16 0), (.int .i16 0), (.int .i16 0)]) 8 rfl Try.underlying22 info77 rfl (by decide) (by omega) u169000 x169000_2 (⟨((rd_T77 l0_0 (rd l1 x8_2)).f0), ((rd_T77 l0_0 (rd l1 x8_2)).f1), (⟨x172002_3, x172003_3, x172004_3⟩ : S75)⟩ : S77) [.int .i8 ((rd_T77 l0_0 (rd l1 x8_2)).f0), .int .i8 ((rd_T77 l0_0 (rd l1 x8_2)).f1), .int .i16 x172002_3, .int .i16 x172003_3, .int .i16 x172004_3] (fun k_ => k_ ≠ gb171) (fun _ => False) rfl rfl ?aP (fun _ hk => hk.elim) ?aF ?aO ?aB ?aS ?aL ?_; (case aP => exact k77_mkM _ _ _ (⟨((rd_T77 l0_0 (rd l1 x8_2)).f0), ((rd_T77 l0_0 (rd l1 x8_2)).f1), (⟨x172002_3, x172003_3, x172004_3⟩ : S75)⟩ : S77)); (case aB => exact q70x8_); (case aF => exact (fun k_ hk => Kd.freshB (g := gb171) (o := .cells #[.int .i8 ((rd_T77 l0_0 (rd l1 x8_2)).f0), .int .i8 ((rd_T77 l0_0 (rd l1 x8_2)).f1), .int .i16 x172002_3, .int .i16 x172003_3, .int .i16 x172004_3] 77 (0, 0)) q70x17_ k_ hk)); (case aO => exact q70x15_); (case aS => exact (below_size q70x8_)); (case aL => have := LMc41.out; omega); intro v176 w47 ho hb hg hat; rw [← Ny175.out] at ho; have n0_ := aM70_ (Kd.R_over' q70x20_ (Kd.R_typed q70x15_) (by decide) hg); have n1_ := aM70_ (blk_grown (g := gb162) (o := .cells #[.slice none 0 0] 24 (0, 0)) q70x9_ hg (Kd.R_ne HO_169000.out BK162.out (by decide))); have n2_ := aM70_ (blk_grown (g := gb168) (o := .cells #[u169000] 24 (0, 0)) q70x14_ hg (Kd.R_ne HO_169000.out BK168.out (by decide))); have n3_ := aM70_ (blk_grown (g := gb171) (o := .cells #[.int .i8 ((rd_T77 l0_0 (rd l1 x8_2)).f0), .int .i8 ((rd_T77 l0_0 (rd l1 x8_2)).f1), .int .i16 x172002_3, .int .i16 x172003_3, .int .i16 x172004_3] 77 (0, 0)) q70x17_ hg (Kd.R_away HO_169000.out (fun _ hk => hk))); have n4_ := aM70_ (hb); have n5_ := aM70_ (ho); clear HO_5; clear BK162; clear BK168; clear BK171; clear HB; clear HO_169000; have HO_5 := n0_; have BK162 := n1_; have BK168 := n2_; have BK171 := n3_; have HB := n4_; have HO177 := n5_; clear n0_ n1_ n2_ n3_ n4_ n5_; clear ho hb hg hat; obtain ⟨Ao48, co48, eo48⟩ := Kd.R_slice HO177.out; subst eo48; have hcz49_0 : w47.cell? ⟨gb168, 0, none⟩ = some (u169000) := (kC70_ BK168.out 0).trans rfl; have hfz49_0 := blk_frozen BK168.out 0) | ((with_reducible refine gate_store (t := 22) (p := 68) rfl ?_); refine store_event (t := 22) (p := 68) (v := ?vo_w50) (w1 := (w47.setCell ⟨gb168, 0, none⟩ (.slice Ao48 y175.length co48))) ?hg ?ho ?hn ?hr ?_; (case ho => rfl); (case hg => rfl); (case hn => rfl); (case hr => first | (go_simp; done) | (go_simp; rfl)); intro w50 hw; have n0_ : Aside0 (Kd.R (Kd.int .i16) 74 w50 w.heap.size (fun _ => True) v164 x5_1) := ⟨(by rw [hw]; exact (by (with_reducible repeat (first | apply Kd.R_alloc | apply Kd.R_drewN | apply Kd.R_drew)); exact Kd.R_mono (Kd.R_far (p := ⟨gb168, 0, none⟩) (Kd.R_types HO_5.out BK168.out (by decide)) (fun _ hk => hk.2) (.slice Ao48 y175.length co48)) (fun _ hk => trivial)))⟩; have n1_ : Aside0 (Kd.R k77 77 w50 w.heap.size (fun k_ => k_ ≠ gb171) (.slice Ao48 y175.length co48) y175) := ⟨(by rw [hw]; exact (by (with_reducible repeat (first | apply Kd.R_alloc | apply Kd.R_drewN | apply Kd.R_drew)); exact Kd.R_mono (Kd.R_far (p := ⟨gb168, 0, none⟩) (Kd.R_types HO177.out BK168.out (by decide)) (fun _ hk => hk.2) (.slice Ao48 y175.length co48)) (fun _ hk => hk.1)))⟩; have n2_ : Aside0 (w50.heap[gb162]? = some (.cells #[.slice none 0 0] 24 (0, 0))) := ⟨q70x13_⟩; have n3_ : Aside0 (w50.heap[gb168]? = some (.cells #[.slice Ao48 y175.length co48] 24 (0, 0))) := ⟨q70x21_⟩; have n4_ : Aside0 (w50.heap[gb171]? = some (.cells #[.int .i8 ((rd_T77 l0_0 (rd l1 x8_2)).f0), .int .i8 ((rd_T77 l0_0 (rd l1 x8_2)).f1), .int .i16 x172002_3, .int .i16 x172003_3, .int .i16 x172004_3] 77 (0, 0))) := ⟨q70x24_⟩; have n5_ : Aside0 (Below w.heap.size w w50) := ⟨(by rw [hw]; exact q70x8_)⟩; clear hw; clear HO_5; clear HO177; clear BK162; clear BK168; clear BK171; clear HB; have HO_5 := n0_; have HO177 := n1_; have BK162 := n2_; have BK168 := n3_; have BK171 := n4_; have HB := n5_; clear n0_ n1_ n2_ n3_ n4_ n5_))
        go_roundg k3
        case measure => have := HK1.out; have := HK2.out; have := HK3.out; omega
        case rel => exact ⟨(wrap64 (x8_2 + 1)), (y175), (.slice Ao48 y175.length co48), q70x19_, H', ⟨by have := HK1.out; have := HK2.out; have := HK3.out; omega⟩, ⟨by (with_reducible repeat (first | apply Kd.R_alloc | apply Kd.R_drewN | apply Kd.R_drew)); exact HO_5.out⟩, ⟨by (with_reducible repeat (first | apply Kd.R_alloc | apply Kd.R_drewN | apply Kd.R_drew)); exact Kd.R_mono HO177.out (fun _ hk => trivial)⟩, ⟨by (with_reducible repeat (first | refine kN70_ ?_ _ | refine kD70_ ?_ | refine kA70_ ?_ _)); exact BK162.out⟩, ⟨by (with_reducible repeat (first | refine kN70_ ?_ _ | refine kD70_ ?_ | refine kA70_ ?_ _)); exact BK168.out⟩, ⟨by repeat (first | (with_reducible first | exact HB.out | apply below_alloc | apply pw_below_drewN | apply below_drew1 | refine below_set ?_ GE162.out | refine below_set ?_ GE168.out | refine below_set ?_ GE171.out) | exact HB.out)⟩⟩
       rw [if_neg c31] at H
       have c31b0 : (((rd_T77 l0_0 (rd l1 x8_2)).f0) == 1) = false := beq_eq_false_iff_ne.mpr c31
       have c31b1 : (((rd_T77 l0_0 (rd l1 x8_2)).f0) != 1) = true := bne_iff_ne.mpr c31
       by_cases c51 : x10_3 < 1
       ·rw [if_pos c51] at H
        have c51b0 : decide (x10_3 < 1) = true := decide_eq_true c51
        clear c51
        by_cases c52 : 0 ≤ x10_3
        rotate_left
        ·rw [if_neg c52] at H
         exact absurd H (by simp)
        rw [if_pos c52] at H
        have c52b0 : decide (0 ≤ x10_3) = true := decide_eq_true c52
        clear c52
        by_cases c53 : x10_3 < 3
        rotate_left
        ·rw [if_neg c53] at H
         exact absurd H (by simp)
        rw [if_pos c53] at H
        have c53b0 : decide (x10_3 < 3) = true := decide_eq_true c53
        clear c53
        by_cases c54 : 0 ≤ (rd [x172002_3, x172003_3, x172004_3] x10_3)
        rotate_left
        ·rw [if_neg c54] at H
         exact absurd H (by simp)
        rw [if_pos c54] at H
        have c54b0 : decide (0 ≤ (rd [x172002_3, x172003_3, x172004_3] x10_3)) = true := decide_eq_true c54
        clear c54
        by_cases c55 : (rd [x172002_3, x172003_3, x172004_3] x10_3) < (x5_1.length : Int)
        rotate_left
        ·rw [if_neg c55] at H
         exact absurd H (by simp)
        rw [if_pos c55] at H
        have c55b0 : decide ((rd [x172002_3, x172003_3, x172004_3] x10_3) < (x5_1.length : Int)) = true := decide_eq_true c55
        clear c55
        have H' := aM70_ H
        clear H
        have hnb56 := NB171_162.out
        have hnc56 := NB162_171.out
        have hnb57 := NB171_168.out
        have hnc57 := NB168_171.out
        have hcz58_0 : wr.cell? ⟨gb171, 0, none⟩ = some (.int .i8 ((rd_T77 l0_0 (rd l1 x8_2)).f0)) := (kC70_ BK171.out 0).trans rfl
        have hcz58_1 : wr.cell? ⟨gb171, 1, none⟩ = some (.int .i8 ((rd_T77 l0_0 (rd l1 x8_2)).f1)) := (kC70_ BK171.out 1).trans rfl
        have hcz58_2 : wr.cell? ⟨gb171, 2, none⟩ = some (.int .i16 x172002_3) := (kC70_ BK171.out 2).trans rfl
        have hcz58_3 : wr.cell? ⟨gb171, 3, none⟩ = some (.int .i16 x172003_3) := (kC70_ BK171.out 3).trans rfl
        have hcz58_4 : wr.cell? ⟨gb171, 4, none⟩ = some (.int .i16 x172004_3) := (kC70_ BK171.out 4).trans rfl
        have hfz58_0 := blk_frozen BK171.out 0
        have hfz58_1 := blk_frozen BK171.out 1
        have hfz58_2 := blk_frozen BK171.out 2
        have hfz58_3 := blk_frozen BK171.out 3
        have hfz58_4 := blk_frozen BK171.out 4
        have HP178 := aM70_ (show 0 ≤ (x10_3 : Int) ∧ (x10_3 : Int) < 3 from ⟨of_decide_eq_true q70x10_, of_decide_eq_true q70x10_⟩)
        have hx178_0 : wr.cell? ⟨gb171, 2 + (x10_3 : Int).toNat, none⟩ = some (.int .i16 (rd [x172002_3, x172003_3, x172004_3] x10_3)) := (by (rcases (show x10_3 = 0 ∨ x10_3 = 1 ∨ x10_3 = 2 from (by have h_ := HP178.out; omega)) with rfl | rfl | rfl <;> first | exact (kC70_ BK171.out 2).trans rfl | exact (kC70_ BK171.out 3).trans rfl | exact (kC70_ BK171.out 4).trans rfl))
        have hx178_1 : wr.cell? ((⟨gb171, 2, none⟩ : Addr).add (x10_3 : Int).toNat) = some (.int .i16 (rd [x172002_3, x172003_3, x172004_3] x10_3)) := (congrArg _ (add_off _ _ _)).trans hx178_0
        have hpz178 := eq_true HP178.out.1
        have hpy178 := eq_true HP178.out.2
        obtain ⟨Ao59, co59, eo59⟩ := Kd.R_slice HO_5.out
        subst eo59
        have p179 : 0 ≤ ((rd [x172002_3, x172003_3, x172004_3] x10_3) : Int) := of_decide_eq_true q70x10_
        have q179 : (rd [x172002_3, x172003_3, x172004_3] x10_3) < (x5_1.length : Int) := of_decide_eq_true q70x10_
        obtain ⟨ad179, e179, hx179_0⟩ := Kd.at_int (Kd.R_reads' HO_5.out).2.2 (rd [x172002_3, x172003_3, x172004_3] x10_3) p179 q179
        cases e179
        replace p179 := eq_true p179
        replace q179 := eq_true q179
        have HP180 := aM70_ (show 0 ≤ (x10_3 : Int) ∧ (x10_3 : Int) < 3 from ⟨of_decide_eq_true q70x10_, of_decide_eq_true q70x10_⟩)
        have hx180_0 : wr.cell? ⟨gb171, 2 + (x10_3 : Int).toNat, none⟩ = some (.int .i16 (rd [x172002_3, x172003_3, x172004_3] x10_3)) := (by (rcases (show x10_3 = 0 ∨ x10_3 = 1 ∨ x10_3 = 2 from (by have h_ := HP180.out; omega)) with rfl | rfl | rfl <;> first | exact (kC70_ BK171.out 2).trans rfl | exact (kC70_ BK171.out 3).trans rfl | exact (kC70_ BK171.out 4).trans rfl))
        have hx180_1 : wr.cell? ((⟨gb171, 2, none⟩ : Addr).add (x10_3 : Int).toNat) = some (.int .i16 (rd [x172002_3, x172003_3, x172004_3] x10_3)) := (congrArg _ (add_off _ _ _)).trans hx180_0
        have hf180_0 := blk_frozen BK171.out (2 + (x10_3 : Int).toNat)
        have hpz180 := eq_true HP180.out.1
        have hpy180 := eq_true HP180.out.2
        go_wp2_with (first | ((go_at_call 106; go_in)) | ((with_reducible refine gate_store (t := 74) (p := 62) rfl ?_); refine store_event (t := 74) (p := 62) (v := ?vo_w60) (w1 := (wr.setCell ⟨gb171, 2 + (x10_3 : Int).toNat, none⟩ (.int .i16 (rd x5_1 (rd [x172002_3, x172003_3, x172004_3] x10_3))))) ?hg ?ho ?hn ?hr ?_; (case ho => rfl); (case hg => rfl); (case hn => rfl); (case hr => first | (go_simp; done) | (go_simp; rfl)); intro w60 hw; have n0_ : Aside0 (Kd.R (Kd.int .i16) 74 w60 w.heap.size (fun _ => True) (.slice (some ad179) x5_1.length co59) x5_1) := ⟨q70x18_⟩; have n1_ : Aside0 (Kd.R k77 77 w60 w.heap.size (fun k_ => k_ ≠ gb171) u169000 x169000_2) := ⟨q70x16_⟩; have n2_ : Aside0 (w60.heap[gb162]? = some (.cells #[.slice none 0 0] 24 (0, 0))) := ⟨q70x22_⟩; have n3_ : Aside0 (w60.heap[gb168]? = some (.cells #[u169000] 24 (0, 0))) := ⟨q70x23_⟩; have n4_ : Aside0 (w60.heap[gb171]? = some (.cells #[.int .i8 ((rd_T77 l0_0 (rd l1 x8_2)).f0), .int .i8 ((rd_T77 l0_0 (rd l1 x8_2)).f1), .int .i16 (aput 0 x10_3 (rd x5_1 (rd [x172002_3, x172003_3, x172004_3] x10_3)) x172002_3), .int .i16 (aput 1 x10_3 (rd x5_1 (rd [x172002_3, x172003_3, x172004_3] x10_3)) x172003_3), .int .i16 (aput 2 x10_3 (rd x5_1 (rd [x172002_3, x172003_3, x172004_3] x10_3)) x172004_3)] 77 (0, 0))) := ⟨(by rw [hw]; exact (by (with_reducible repeat (first | refine kN70_ ?_ _ | refine kD70_ ?_ | refine kA70_ ?_ _)); refine blk_put (cs := #[.int .i8 ((rd_T77 l0_0 (rd l1 x8_2)).f0), .int .i8 ((rd_T77 l0_0 (rd l1 x8_2)).f1), .int .i16 x172002_3, .int .i16 x172003_3, .int .i16 x172004_3]) ?_ (2 + (x10_3 : Int).toNat) _ (by rcases (show x10_3 = 0 ∨ x10_3 = 1 ∨ x10_3 = 2 from (by have h_ := HP180.out; omega)) with rfl | rfl | rfl <;> rfl); (with_reducible repeat (first | refine kN70_ ?_ _ | refine kD70_ ?_ | refine kA70_ ?_ _)); exact BK171.out))⟩; have n5_ : Aside0 (Below w.heap.size w w60) := ⟨(by rw [hw]; exact q70x8_)⟩; clear hw; clear HO_5; clear HO_169000; clear BK162; clear BK168; clear BK171; clear HB; have HO_5 := n0_; have HO_169000 := n1_; have BK162 := n2_; have BK168 := n3_; have BK171 := n4_; have HB := n5_; clear n0_ n1_ n2_ n3_ n4_ n5_))
        go_roundg k3
        case measure => have := HK1.out; have := HK2.out; have := HK3.out; omega
        case rel => exact ⟨(wrap64 (x10_3 + 1)), ((aput 0 x10_3 (rd x5_1 (rd [x172002_3, x172003_3, x172004_3] x10_3)) x172002_3)), ((aput 1 x10_3 (rd x5_1 (rd [x172002_3, x172003_3, x172004_3] x10_3)) x172003_3)), ((aput 2 x10_3 (rd x5_1 (rd [x172002_3, x172003_3, x172004_3] x10_3)) x172004_3)), q70x19_, H', ⟨by have := HK1.out; have := HK2.out; have := HK3.out; omega⟩, ⟨by (with_reducible repeat (first | apply Kd.R_alloc | apply Kd.R_drewN | apply Kd.R_drew)); exact HO_5.out⟩, ⟨by (with_reducible repeat (first | apply Kd.R_alloc | apply Kd.R_drewN | apply Kd.R_drew)); exact HO_169000.out⟩, ⟨by (with_reducible repeat (first | refine kN70_ ?_ _ | refine kD70_ ?_ | refine kA70_ ?_ _)); exact BK162.out⟩, ⟨by (with_reducible repeat (first | refine kN70_ ?_ _ | refine kD70_ ?_ | refine kA70_ ?_ _)); exact BK168.out⟩, ⟨by (with_reducible repeat (first | refine kN70_ ?_ _ | refine kD70_ ?_ | refine kA70_ ?_ _)); exact BK171.out⟩, ⟨by repeat (first | (with_reducible first | exact HB.out | apply below_alloc | apply pw_below_drewN | apply below_drew1 | refine below_set ?_ GE162.out | refine below_set ?_ GE168.out | refine below_set ?_ GE171.out) | exact HB.out)⟩⟩
       rw [if_neg c51] at H
       have c51b0 : decide (x10_3 < 1) = false := decide_eq_false c51
       clear c51
       by_cases c61 : x169000_2.length < 17592186044416
       rotate_left
       ·rw [if_neg c61] at H
        exact absurd H (by simp)
       rw [if_pos c61] at H
       have LMc61 := aM70_ c61
       clear c61
       obtain ⟨y181, hy181⟩ : ∃ y_ : List (S77), y_ = (x169000_2 ++ [(⟨((rd_T77 l0_0 (rd l1 x8_2)).f0), ((rd_T77 l0_0 (rd l1 x8_2)).f1), (⟨x172002_3, x172003_3, x172004_3⟩ : S75)⟩ : S77)]) := ⟨_, rfl⟩
       replace H : (spec_l06Tree.l1 k3 l1 x5_1 (wrap64 (x8_2 + 1)) l0_0 y181) = some r := by first | (rw [hy181]; with_reducible exact H) | (have H2_ := (Option.bind_some _ _).symm.trans H; rw [hy181]; with_reducible exact H2_) | (have H2_ := (Option.bind_some _ _).symm.trans H; with_reducible exact H2_) | with_reducible exact H | (rw [hy181]; exact H) | exact H
       have Ny181 := aM70_ hy181
       clear hy181
       have H' := aM70_ H
       clear H
       have hnb62 := NB171_162.out
       have hnc62 := NB162_171.out
       have hnb63 := NB171_168.out
       have hnc63 := NB168_171.out
       have hcz64_0 : wr.cell? ⟨gb171, 0, none⟩ = some (.int .i8 ((rd_T77 l0_0 (rd l1 x8_2)).f0)) := (kC70_ BK171.out 0).trans rfl
       have hcz64_1 : wr.cell? ⟨gb171, 1, none⟩ = some (.int .i8 ((rd_T77 l0_0 (rd l1 x8_2)).f1)) := (kC70_ BK171.out 1).trans rfl
       have hcz64_2 : wr.cell? ⟨gb171, 2, none⟩ = some (.int .i16 x172002_3) := (kC70_ BK171.out 2).trans rfl
       have hcz64_3 : wr.cell? ⟨gb171, 3, none⟩ = some (.int .i16 x172003_3) := (kC70_ BK171.out 3).trans rfl
       have hcz64_4 : wr.cell? ⟨gb171, 4, none⟩ = some (.int .i16 x172004_3) := (kC70_ BK171.out 4).trans rfl
       have hfz64_0 := blk_frozen BK171.out 0
       have hfz64_1 := blk_frozen BK171.out 1
       have hfz64_2 := blk_frozen BK171.out 2
       have hfz64_3 := blk_frozen BK171.out 3
       have hfz64_4 := blk_frozen BK171.out 4
       have hnb65 := NB168_162.out
       have hnc65 := NB162_168.out
       have hcz66_0 : wr.cell? ⟨gb168, 0, none⟩ = some (u169000) := (kC70_ BK168.out 0).trans rfl
       have hfz66_0 := blk_frozen BK168.out 0
       go_wp2_with (first | ((go_at_call 106; go_in)) | ((with_reducible refine gate_builtin (b := .append) (xs := #[.tmp 64, .tmp 66]) rfl ?_); at_builtin; refine Kd.R_append k77 (w0 := w) w.heap.size rfl (.tmp 64) (.tmp 66) 22 77 (.agg #[(.int .i8 0), (.int .i8 0), (.int .i16 0), (.int .i16 0), (.int .i16 0)]) 8 rfl Try.underlying22 info77 rfl (by decide) (by omega) u169000 x169000_2 (⟨((rd_T77 l0_0 (rd l1 x8_2)).f0), ((rd_T77 l0_0 (rd l1 x8_2)).f1), (⟨x172002_3, x172003_3, x172004_3⟩ : S75)⟩ : S77) [.int .i8 ((rd_T77 l0_0 (rd l1 x8_2)).f0), .int .i8 ((rd_T77 l0_0 (rd l1 x8_2)).f1), .int .i16 x172002_3, .int .i16 x172003_3, .int .i16 x172004_3] (fun k_ => k_ ≠ gb171) (fun _ => False) rfl rfl ?aP (fun _ hk => hk.elim) ?aF ?aO ?aB ?aS ?aL ?_; (case aP => exact k77_mkM _ _ _ (⟨((rd_T77 l0_0 (rd l1 x8_2)).f0), ((rd_T77 l0_0 (rd l1 x8_2)).f1), (⟨x172002_3, x172003_3, x172004_3⟩ : S75)⟩ : S77)); (case aB => exact q70x8_); (case aF => exact (fun k_ hk => Kd.freshB (g := gb171) (o := .cells #[.int .i8 ((rd_T77 l0_0 (rd l1 x8_2)).f0), .int .i8 ((rd_T77 l0_0 (rd l1 x8_2)).f1), .int .i16 x172002_3, .int .i16 x172003_3, .int .i16 x172004_3] 77 (0, 0)) q70x17_ k_ hk)); (case aO => exact q70x15_); (case aS => exact (below_size q70x8_)); (case aL => have := LMc61.out; omega); intro v182 w67 ho hb hg hat; rw [← Ny181.out] at ho; have n0_ := aM70_ (Kd.R_over' q70x20_ (Kd.R_typed q70x15_) (by decide) hg); have n1_ := aM70_ (blk_grown (g := gb162) (o := .cells #[.slice none 0 0] 24 (0, 0)) q70x9_ hg (Kd.R_ne HO_169000.out BK162.out (by decide))); have n2_ := aM70_ (blk_grown (g := gb168) (o := .cells #[u169000] 24 (0, 0)) q70x14_ hg (Kd.R_ne HO_169000.out BK168.out (by decide))); have n3_ := aM70_ (blk_grown (g := gb171) (o := .cells #[.int .i8 ((rd_T77 l0_0 (rd l1 x8_2)).f0), .int .i8 ((rd_T77 l0_0 (rd l1 x8_2)).f1), .int .i16 x172002_3, .int .i16 x172003_3, .int .i16 x172004_3] 77 (0, 0)) q70x17_ hg (Kd.R_away HO_169000.out (fun _ hk => hk))); have n4_ := aM70_ (hb); have n5_ := aM70_ (ho); clear HO_5; clear BK162; clear BK168; clear BK171; clear HB; clear HO_169000; have HO_5 := n0_; have BK162 := n1_; have BK168 := n2_; have BK171 := n3_; have HB := n4_; have HO183 := n5_; clear n0_ n1_ n2_ n3_ n4_ n5_; clear ho hb hg hat; obtain ⟨Ao68, co68, eo68⟩ := Kd.R_slice HO183.out; subst eo68; have hcz69_0 : w67.cell? ⟨gb168, 0, none⟩ = some (u169000) := (kC70_ BK168.out 0).trans rfl; have hfz69_0 := blk_frozen BK168.out 0) | ((with_reducible refine gate_store (t := 22) (p := 68) rfl ?_); refine store_event (t := 22) (p := 68) (v := ?vo_w70) (w1 := (w67.setCell ⟨gb168, 0, none⟩ (.slice Ao68 y181.length co68))) ?hg ?ho ?hn ?hr ?_; (case ho => rfl); (case hg => rfl); (case hn => rfl); (case hr => first | (go_simp; done) | (go_simp; rfl)); intro w70 hw; have n0_ : Aside0 (Kd.R (Kd.int .i16) 74 w70 w.heap.size (fun _ => True) v164 x5_1) := ⟨(by rw [hw]; exact (by (with_reducible repeat (first | apply Kd.R_alloc | apply Kd.R_drewN | apply Kd.R_drew)); exact Kd.R_mono (Kd.R_far (p := ⟨gb168, 0, none⟩) (Kd.R_types HO_5.out BK168.out (by decide)) (fun _ hk => hk.2) (.slice Ao68 y181.length co68)) (fun _ hk => trivial)))⟩; have n1_ : Aside0 (Kd.R k77 77 w70 w.heap.size (fun k_ => k_ ≠ gb171) (.slice Ao68 y181.length co68) y181) := ⟨(by rw [hw]; exact (by (with_reducible repeat (first | apply Kd.R_alloc | apply Kd.R_drewN | apply Kd.R_drew)); exact Kd.R_mono (Kd.R_far (p := ⟨gb168, 0, none⟩) (Kd.R_types HO183.out BK168.out (by decide)) (fun _ hk => hk.2) (.slice Ao68 y181.length co68)) (fun _ hk => hk.1)))⟩; have n2_ : Aside0 (w70.heap[gb162]? = some (.cells #[.slice none 0 0] 24 (0, 0))) := ⟨q70x13_⟩; have n3_ : Aside0 (w70.heap[gb168]? = some (.cells #[.slice Ao68 y181.length co68] 24 (0, 0))) := ⟨q70x21_⟩; have n4_ : Aside0 (w70.heap[gb171]? = some (.cells #[.int .i8 ((rd_T77 l0_0 (rd l1 x8_2)).f0), .int .i8 ((rd_T77 l0_0 (rd l1 x8_2)).f1), .int .i16 x172002_3, .int .i16 x172003_3, .int .i16 x172004_3] 77 (0, 0))) := ⟨q70x24_⟩; have n5_ : Aside0 (Below w.heap.size w w70) := ⟨(by rw [hw]; exact q70x8_)⟩; clear hw; clear HO_5; clear HO183; clear BK162; clear BK168; clear BK171; clear HB; have HO_5 := n0_; have HO183 := n1_; have BK162 := n2_; have BK168 := n3_; have BK171 := n4_; have HB := n5_; clear n0_ n1_ n2_ n3_ n4_ n5_))
       go_roundg k3
       case measure => have := HK1.out; have := HK2.out; have := HK3.out; omega
       case rel => exact ⟨(wrap64 (x8_2 + 1)), (y181), (.slice Ao68 y181.length co68), q70x19_, H', ⟨by have := HK1.out; have := HK2.out; have := HK3.out; omega⟩, ⟨by (with_reducible repeat (first | apply Kd.R_alloc | apply Kd.R_drewN | apply Kd.R_drew)); exact HO_5.out⟩, ⟨by (with_reducible repeat (first | apply Kd.R_alloc | apply Kd.R_drewN | apply Kd.R_drew)); exact Kd.R_mono HO183.out (fun _ hk => trivial)⟩, ⟨by (with_reducible repeat (first | refine kN70_ ?_ _ | refine kD70_ ?_ | refine kA70_ ?_ _)); exact BK162.out⟩, ⟨by (with_reducible repeat (first | refine kN70_ ?_ _ | refine kD70_ ?_ | refine kA70_ ?_ _)); exact BK168.out⟩, ⟨by repeat (first | (with_reducible first | exact HB.out | apply below_alloc | apply pw_below_drewN | apply below_drew1 | refine below_set ?_ GE162.out | refine below_set ?_ GE168.out | refine below_set ?_ GE171.out) | exact HB.out)⟩⟩
end Go.Proofs.Ytlccefmimpmgjaa.MFnExactReachedTree
