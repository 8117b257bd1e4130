/- Functions of the program as Lean functions, and the proof that the code comes to what they say. Written by a program of this session (myprint.py). -/
import Derived.Test.YtgldplkbacfacaaMFnExactEightTermsx0
import Derived.Test.YtgldplkbacfacaaMFnExactEightTermsx2
import Derived.Test.YtgldplkbacfacaaMFnExactEightTermsx4
import Derived.Test.YtgldplkbacfacaaMFnExactEightTermsx5
namespace Go.Proofs.Ytgldplkbacfacaa.MFnExactEightTerms
open Go.RowKit Go.Proofs.Ytgldplkbacfacaa.MOpen Go.Proofs.YtgldplkbacfacaaW.PrintWords Go.Proofs.YtgldplkbacfacaaW.PrintLast Go.Proofs.YtgldplkbacfacaaW.PrintMore
attribute [local go_sem] max2_int min2_int max_two min_two max_three min_three max_four min_four   -- for this text's walks alone
set_option linter.unusedVariables false
set_option linter.unusedSimpArgs false

set_option maxHeartbeats 16000000 in
set_option maxRecDepth 100000 in
theorem E8_Lf {k k1 : Nat} {xs ys : List Int} {A1_ A2_ : Option Addr} {c1_ c2_ : Nat} {s : ESt} {w wc : World} {T0 T1 T2 T3 L0 L1 L2 L3 i j : Int} {lf : Bool} {ms : List S52} {gs : List Int} {R : Ending → World → Prop} {J : Nat → Act → World → Prop} {K2 K3 : Act → World → Prop} {c0 c4 c5 c18 c19 c214 : Value} {x0 x1 x2 x3 : Int} {o0 o1 o2 o3 : Bool} {u6 u11 u12 u13 u14 u16 u17 u20 u21 u22 u23 u24 u25 u26 u27 u28 u29 u30 u31 u32 u33 u34 u35 u36 u37 u38 u39 u40 u41 u42 u43 u44 u45 u46 u47 u48 u49 u50 u51 u52 u53 u54 u55 u56 u57 u58 u59 u60 u61 u62 u63 u64 u65 u66 u67 u68 u69 u70 u71 u72 u73 u74 u75 u76 u77 u78 u79 u80 u81 u82 u83 u84 u85 u86 u87 u88 u89 u90 u91 u92 u93 u94 u95 u96 u97 u98 u99 u100 u101 u102 u103 u104 u105 u106 u107 u108 u109 u110 u111 u112 u113 u114 u115 u116 u117 u118 u119 u120 u121 u122 u123 u124 u125 u126 u127 u128 u129 u130 u131 u132 u133 u134 u135 u136 u137 u138 u139 u140 u141 u142 u143 u144 u145 u146 u147 u148 u149 u150 u151 u152 u153 u154 u155 u156 u157 u158 u159 u160 u161 u162 u163 u164 u165 u166 u167 u168 u169 u170 u171 u172 u173 u174 u175 u176 u177 u178 u179 u180 u181 u182 u183 u184 u185 u186 u187 u188 u189 u190 u191 u192 u193 u194 u195 u196 u197 u198 u199 u200 u201 u202 u203 u204 u205 u206 u207 u208 u209 u210 u211 u212 u213 : Value} (hJ : ∀ (kq : Nat) (a' : Act) (w' : World), (∃ u6 u8 u9 u10 u11 u12 u13 u14 u15 u16 u17 u20 u21 u22 u23 u24 u25 u26 u27 u28 u29 u30 u31 u32 u33 u34 u35 u36 u37 u38 u39 u40 u41 u42 u43 u44 u45 u46 u47 u48 u49 u50 u51 u52 u53 u54 u55 u56 u57 u58 u59 u60 u61 u62 u63 u64 u65 u66 u67 u68 u69 u70 u71 u72 u73 u74 u75 u76 u77 u78 u79 u80 u81 u82 u83 u84 u85 u86 u87 u88 u89 u90 u91 u92 u93 u94 u95 u96 u97 u98 u99 u100 u101 u102 u103 u104 u105 u106 u107 u108 u109 u110 u111 u112 u113 u114 u115 u116 u117 u118 u119 u120 u121 u122 u123 u124 u125 u126 u127 u128 u129 u130 u131 u132 u133 u134 u135 u136 u137 u138 u139 u140 u141 u142 u143 u144 u145 u146 u147 u148 u149 u150 u151 u152 u153 u154 u155 u156 u157 u158 u159 u160 u161 u162 u163 u164 u165 u166 u167 u168 u169 u170 u171 u172 u173 u174 u175 u176 u177 u178 u179 u180 u181 u182 u183 u184 u185 u186 u187 u188 u189 u190 u191 u192 u193 u194 u195 u196 u197 u198 u199 u200 u201 u202 u203 u204 u205 u206 u207 u208 u209 u210 u211 u212 u213 : Value, (∃ s1 : ESt, u8 = .int .i64 s1.i ∧ u9 = .int .i64 s1.j ∧ u10 = .bool s1.lf ∧ Aside0 (runE k xs ys kq s1 = some s) ∧ Aside0 (kq ≤ k) ∧ Aside0 (HB8 89 w.heap.size w w' (w.heap.size + 1) s1.ms s1.gs s1.ov [(w.heap.size, #[.int .i64 s1.T0, .int .i64 s1.T1, .int .i64 s1.T2, .int .i64 s1.T3, .int .i64 s1.L0, .int .i64 s1.L1, .int .i64 s1.L2, .int .i64 s1.L3], 42)])) ∧ a' = ⟨List.toArray (c0 :: .slice A1_ xs.length c1_ :: .slice A2_ ys.length c2_ :: .pointer (some ⟨w.heap.size, 0, none⟩) :: c4 :: c5 :: u6 :: .pointer (some ⟨w.heap.size + 1, 0, none⟩) :: u8 :: u9 :: u10 :: u11 :: u12 :: u13 :: u14 :: u15 :: u16 :: u17 :: c18 :: c19 :: u20 :: u21 :: u22 :: u23 :: u24 :: u25 :: u26 :: u27 :: u28 :: u29 :: u30 :: u31 :: u32 :: u33 :: u34 :: u35 :: u36 :: u37 :: u38 :: u39 :: u40 :: u41 :: u42 :: u43 :: u44 :: u45 :: u46 :: u47 :: u48 :: u49 :: u50 :: u51 :: u52 :: u53 :: u54 :: u55 :: u56 :: u57 :: u58 :: u59 :: u60 :: u61 :: u62 :: u63 :: u64 :: u65 :: u66 :: u67 :: u68 :: u69 :: u70 :: u71 :: u72 :: u73 :: u74 :: u75 :: u76 :: u77 :: u78 :: u79 :: u80 :: u81 :: u82 :: u83 :: u84 :: u85 :: u86 :: u87 :: u88 :: u89 :: u90 :: u91 :: u92 :: u93 :: u94 :: u95 :: u96 :: u97 :: u98 :: u99 :: u100 :: u101 :: u102 :: u103 :: u104 :: u105 :: u106 :: u107 :: u108 :: u109 :: u110 :: u111 :: u112 :: u113 :: u114 :: u115 :: u116 :: u117 :: u118 :: u119 :: u120 :: u121 :: u122 :: u123 :: u124 :: u125 :: u126 :: u127 :: u128 :: u129 :: u130 :: u131 :: u132 :: u133 :: u134 :: u135 :: u136 :: u137 :: u138 :: u139 :: u140 :: u141 :: u142 :: u143 :: u144 :: u145 :: u146 :: u147 :: u148 :: u149 :: u150 :: u151 :: u152 :: u153 :: u154 :: u155 :: u156 :: u157 :: u158 :: u159 :: u160 :: u161 :: u162 :: u163 :: u164 :: u165 :: u166 :: u167 :: u168 :: u169 :: u170 :: u171 :: u172 :: u173 :: u174 :: u175 :: u176 :: u177 :: u178 :: u179 :: u180 :: u181 :: u182 :: u183 :: u184 :: u185 :: u186 :: u187 :: u188 :: u189 :: u190 :: u191 :: u192 :: u193 :: u194 :: u195 :: u196 :: u197 :: u198 :: u199 :: u200 :: u201 :: u202 :: u203 :: u204 :: u205 :: u206 :: u207 :: u208 :: u209 :: u210 :: u211 :: u212 :: u213 :: c214 :: []), []⟩) → J kq a' w') (hK : ∀ (a' : Act) (w' : World), Handed J (k1 + 1) a' w' → K2 a' w') (HR : Aside0 ((Kd.int .i64).C w A1_ xs.length xs)) (HR2 : Aside0 ((Kd.int .i64).C w A2_ ys.length ys)) (HC : Aside0 (xs.length ≤ c1_)) (HC2 : Aside0 (ys.length ≤ c2_)) (CB : Aside0 (((ms.length < 1000000 ∧ gs.length < 1000000) ∧ 0 ≤ i ∧ i < 1000000 ∧ 0 ≤ j ∧ j < 1000000) ∧ xs.length < 1000000 ∧ ys.length < 1000000)) (hti0 : 0 ≤ i) (hti2 : i < 1000000) (htj0 : 0 ≤ j) (htj2 : j < 1000000) (X0 : Aside0 (HB8 89 w.heap.size w wc (w.heap.size + 1) ms gs true [(w.heap.size, #[.int .i64 T0, .int .i64 T1, .int .i64 T2, .int .i64 T3, .int .i64 L0, .int .i64 L1, .int .i64 L2, .int .i64 L3], 42)])) (cl : i < (xs.length : Int)) (H0 : Aside0 (specC true T0 (rd xs i) T2 = some (x0, o0))) (H1 : Aside0 (specC o0 T1 (rd xs i) T3 = some (x1, o1))) (H2 : Aside0 (specC o1 L0 (rd xs i) L2 = some (x2, o2))) (H3 : Aside0 (specC o2 L1 (rd xs i) L3 = some (x3, o3))) (HN : Aside0 (runE k xs ys k1 ⟨x0, x1, T0, T1, x2, x3, L0, L1, i + 1, j, !lf, ms ++ [⟨2, rd xs i⟩], gs, o3⟩ = some s)) (HK1 : Aside0 (k1 + 1 ≤ k)) :
    Code.wp Try.prog (tl44 23) (Exit.inBlock 1 (Exit.then K2 (Exit.inBlock 0 (Exit.then K3 (bodyPost Try.prog Try.f44 R))))) ⟨List.toArray (c0 :: .slice A1_ xs.length c1_ :: .slice A2_ ys.length c2_ :: .pointer (some ⟨w.heap.size, 0, none⟩) :: c4 :: c5 :: u6 :: .pointer (some ⟨w.heap.size + 1, 0, none⟩) :: .int .i64 i :: .int .i64 j :: .bool (!lf) :: u11 :: u12 :: u13 :: u14 :: .bool true :: u16 :: u17 :: c18 :: c19 :: u20 :: u21 :: u22 :: u23 :: u24 :: u25 :: u26 :: u27 :: u28 :: u29 :: u30 :: u31 :: u32 :: u33 :: u34 :: u35 :: u36 :: u37 :: u38 :: u39 :: u40 :: u41 :: u42 :: u43 :: u44 :: u45 :: u46 :: u47 :: u48 :: u49 :: u50 :: u51 :: u52 :: u53 :: u54 :: u55 :: u56 :: u57 :: u58 :: u59 :: u60 :: u61 :: u62 :: u63 :: u64 :: u65 :: u66 :: u67 :: u68 :: u69 :: u70 :: u71 :: u72 :: u73 :: u74 :: u75 :: u76 :: u77 :: u78 :: u79 :: u80 :: u81 :: u82 :: u83 :: u84 :: u85 :: u86 :: u87 :: u88 :: u89 :: u90 :: u91 :: u92 :: u93 :: u94 :: u95 :: u96 :: u97 :: u98 :: u99 :: u100 :: u101 :: u102 :: u103 :: u104 :: u105 :: u106 :: u107 :: u108 :: u109 :: u110 :: u111 :: u112 :: u113 :: u114 :: u115 :: u116 :: u117 :: u118 :: u119 :: u120 :: u121 :: u122 :: u123 :: u124 :: u125 :: u126 :: u127 :: u128 :: u129 :: u130 :: u131 :: u132 :: u133 :: u134 :: u135 :: u136 :: u137 :: u138 :: u139 :: u140 :: u141 :: u142 :: u143 :: u144 :: u145 :: u146 :: u147 :: u148 :: u149 :: u150 :: u151 :: u152 :: u153 :: u154 :: u155 :: u156 :: u157 :: u158 :: u159 :: u160 :: u161 :: u162 :: u163 :: u164 :: u165 :: u166 :: u167 :: u168 :: u169 :: u170 :: u171 :: u172 :: u173 :: u174 :: u175 :: u176 :: u177 :: u178 :: u179 :: u180 :: u181 :: u182 :: u183 :: u184 :: u185 :: u186 :: u187 :: u188 :: u189 :: u190 :: u191 :: u192 :: u193 :: u194 :: u195 :: u196 :: u197 :: u198 :: u199 :: u200 :: u201 :: u202 :: u203 :: u204 :: u205 :: u206 :: u207 :: u208 :: u209 :: u210 :: u211 :: u212 :: u213 :: c214 :: []), []⟩ wc := by
  have hu42 := Try.underlying42
  have hu38 := Try.underlying38
  conv => arg 2; whnf
  obtain ⟨⟨q0w0, q1w0, q2w0, q3w0, q4w0, q5w0, q6w0, q7w0⟩, z0w0, z1w0, z2w0, z3w0, z4w0, z5w0, z6w0, z7w0⟩ := cells8 X0.out.at0
  have f4 : decide (i < (xs.length : Int)) = true := decide_eq_true cl
  obtain ⟨ad, e0_, hx0⟩ := Kd.at_int HR.out i (by omega) (by omega)
  cases e0_
  have HX0 := Aside0.mk hx0
  clear hx0
  have p0 := eq_true hti0
  have p1 := eq_true cl
  clear cl
  have hxi := (X0.out.bel.cell (World.block_lt_of_cell? w _ HX0.out)).trans HX0.out
  go_wp2
  have XD := Aside0.mk X0.out.drew
  refine start_ (n := 12) (S := fun w' => w'.cell? ⟨w.heap.size, 0, none⟩ = some (.int .i64 T0) ∧ w'.cell? ⟨w.heap.size, 1, none⟩ = some (.int .i64 T1) ∧ w'.cell? ⟨w.heap.size, 2, none⟩ = some (.int .i64 T2) ∧ w'.cell? ⟨w.heap.size, 3, none⟩ = some (.int .i64 T3) ∧ w'.cell? ⟨w.heap.size, 4, none⟩ = some (.int .i64 L0) ∧ w'.cell? ⟨w.heap.size, 5, none⟩ = some (.int .i64 L1) ∧ w'.cell? ⟨w.heap.size, 6, none⟩ = some (.int .i64 L2) ∧ w'.cell? ⟨w.heap.size, 7, none⟩ = some (.int .i64 L3)) (ds := [11]) #[false, false, false, false, false, false, false, false, false, false, false, false] (by kernel_rfl) rfl rfl ⟨(blk_cell XD.out.at0 0).trans rfl, (blk_cell XD.out.at0 1).trans rfl, (blk_cell XD.out.at0 2).trans rfl, (blk_cell XD.out.at0 3).trans rfl, (blk_cell XD.out.at0 4).trans rfl, (blk_cell XD.out.at0 5).trans rfl, (blk_cell XD.out.at0 6).trans rfl, (blk_cell XD.out.at0 7).trans rfl⟩ (fun hHeld => ?_)
  refine pure_ (i := 0) (N := some 104) (v := ?_) (a' := ?_) #[true, false, false, false, false, false, false, false, false, false, false, false] rfl rfl (by kernel_rfl) (fun _ _ _ h => h) (Or.inl ⟨by rfl, ?_⟩) ?_ ?_
  rotate_left
  · intro w'
    go_simp
    with_reducible rfl
  rotate_left
  · simp only [Act.put, List.setIfInBounds_toArray, List.set_cons_zero, List.set_cons_succ, i64_w, i32_w]
    rfl
  refine pure_ (i := 1) (N := some 105) (v := ?_) (a' := ?_) #[true, true, false, false, false, false, false, false, false, false, false, false] rfl rfl (by kernel_rfl) (fun _ _ _ h => h) (Or.inl ⟨by rfl, ?_⟩) ?_ ?_
  rotate_left
  · intro w'
    go_simp
    with_reducible rfl
  rotate_left
  · simp only [Act.put, List.setIfInBounds_toArray, List.set_cons_zero, List.set_cons_succ, i64_w, i32_w]
    rfl
  refine pure_ (i := 3) (N := some 107) (v := ?_) (a' := ?_) #[true, true, false, true, false, false, false, false, false, false, false, false] rfl rfl (by kernel_rfl) (fun _ _ _ h => h) (Or.inl ⟨by rfl, ?_⟩) ?_ ?_
  rotate_left
  · intro w'
    go_simp
    with_reducible rfl
  rotate_left
  · simp only [Act.put, List.setIfInBounds_toArray, List.set_cons_zero, List.set_cons_succ, i64_w, i32_w]
    rfl
  refine pure_ (i := 5) (N := some 109) (v := ?_) (a' := ?_) #[true, true, false, true, false, true, false, false, false, false, false, false] rfl rfl (by kernel_rfl) (fun _ _ _ h => h) (Or.inl ⟨by rfl, ?_⟩) ?_ ?_
  rotate_left
  · intro w'
    go_simp
    with_reducible rfl
  rotate_left
  · simp only [Act.put, List.setIfInBounds_toArray, List.set_cons_zero, List.set_cons_succ, i64_w, i32_w]
    rfl
  refine pure_ (i := 6) (N := some 110) (v := ?_) (a' := ?_) #[true, true, false, true, false, true, true, false, false, false, false, false] rfl rfl (by kernel_rfl) (fun _ _ _ h => h) (Or.inl ⟨by rfl, ?_⟩) ?_ ?_
  rotate_left
  · intro w'
    go_simp
    with_reducible rfl
  rotate_left
  · simp only [Act.put, List.setIfInBounds_toArray, List.set_cons_zero, List.set_cons_succ, i64_w, i32_w]
    rfl
  refine pure_ (i := 8) (N := some 112) (v := ?_) (a' := ?_) #[true, true, false, true, false, true, true, false, true, false, false, false] rfl rfl (by kernel_rfl) (fun _ _ _ h => h) (Or.inl ⟨by rfl, ?_⟩) ?_ ?_
  rotate_left
  · intro w'
    go_simp
    with_reducible rfl
  rotate_left
  · simp only [Act.put, List.setIfInBounds_toArray, List.set_cons_zero, List.set_cons_succ, i64_w, i32_w]
    rfl
  refine take_ (i := 2) (N := some 106) (v := ?_) (a' := ?_) #[true, true, true, true, false, true, true, false, true, false, false, false] rfl rfl (by kernel_rfl) (fun _ _ _ h => h) (Or.inl ⟨by rfl, ?_⟩) hHeld ?_ ?_
  rotate_left
  · rintro w' ⟨s0, s1, s2, s3, s4, s5, s6, s7⟩
    go_simp
    with_reducible rfl
  rotate_left
  · simp only [Act.put, List.setIfInBounds_toArray, List.set_cons_zero, List.set_cons_succ, i64_w, i32_w]
    rfl
  refine take_ (i := 7) (N := some 111) (v := ?_) (a' := ?_) #[true, true, true, true, false, true, true, true, true, false, false, false] rfl rfl (by kernel_rfl) (fun _ _ _ h => h) (Or.inl ⟨by rfl, ?_⟩) hHeld ?_ ?_
  rotate_left
  · rintro w' ⟨s0, s1, s2, s3, s4, s5, s6, s7⟩
    go_simp
    with_reducible rfl
  rotate_left
  · simp only [Act.put, List.setIfInBounds_toArray, List.set_cons_zero, List.set_cons_succ, i64_w, i32_w]
    rfl
  refine one_ (i := 4) (N := some 108) #[true, true, true, true, true, true, true, true, true, false, false, false] rfl rfl (by kernel_rfl) (by decide) (fun K hK => ?_)
  refine goes_ Try.func64 (by kernel_rfl) rfl #[.pointer (some ⟨w.heap.size + 1, 0, none⟩), .agg #[.int .i64 T0, .int .i64 T1, .int .i64 T2, .int .i64 T3], .int .i64 (rd xs i)] (by rfl) rfl rfl (by simp only [List.map_toArray, List.map_cons, List.map_nil]; rfl) ?_
  with_reducible refine (HB8.left XD.out H0.out H1.out).mono ?_
  rintro e w4 ⟨rfl, hX⟩
  refine ⟨_, rfl, ?_⟩
  have X4 := Aside0.mk hX
  clear hX
  refine hK.out _ _ ⟨(blk_cell X4.out.at0 0).trans rfl, (blk_cell X4.out.at0 1).trans rfl, (blk_cell X4.out.at0 2).trans rfl, (blk_cell X4.out.at0 3).trans rfl, (blk_cell X4.out.at0 4).trans rfl, (blk_cell X4.out.at0 5).trans rfl, (blk_cell X4.out.at0 6).trans rfl, (blk_cell X4.out.at0 7).trans rfl⟩ (fun hHeld => ?_)
  clear hK K
  refine norm_ (a' := ?_) ?_ ?_
  rotate_left
  · show Act.put _ (some 108) _ = _
    simp only [Act.put, List.setIfInBounds_toArray, List.set_cons_zero, List.set_cons_succ, i64_w, i32_w]
    rfl
  refine one_ (i := 9) (N := some 113) #[true, true, true, true, true, true, true, true, true, true, false, false] rfl rfl (by kernel_rfl) (by decide) (fun K hK => ?_)
  refine goes_ Try.func64 (by kernel_rfl) rfl #[.pointer (some ⟨w.heap.size + 1, 0, none⟩), .agg #[.int .i64 L0, .int .i64 L1, .int .i64 L2, .int .i64 L3], .int .i64 (rd xs i)] (by rfl) rfl rfl (by simp only [List.map_toArray, List.map_cons, List.map_nil]; rfl) ?_
  with_reducible refine (HB8.left X4.out H2.out H3.out).mono ?_
  rintro e w5 ⟨rfl, hX⟩
  refine ⟨_, rfl, ?_⟩
  have X5 := Aside0.mk hX
  clear hX
  refine hK.out _ _ ⟨(blk_cell X5.out.at0 0).trans rfl, (blk_cell X5.out.at0 1).trans rfl, (blk_cell X5.out.at0 2).trans rfl, (blk_cell X5.out.at0 3).trans rfl, (blk_cell X5.out.at0 4).trans rfl, (blk_cell X5.out.at0 5).trans rfl, (blk_cell X5.out.at0 6).trans rfl, (blk_cell X5.out.at0 7).trans rfl⟩ (fun hHeld => ?_)
  clear hK K
  refine norm_ (a' := ?_) ?_ ?_
  rotate_left
  · show Act.put _ (some 113) _ = _
    simp only [Act.put, List.setIfInBounds_toArray, List.set_cons_zero, List.set_cons_succ, i64_w, i32_w]
    rfl
  refine pure_ (i := 10) (N := some 114) (v := ?_) (a' := ?_) #[true, true, true, true, true, true, true, true, true, true, true, false] rfl rfl (by kernel_rfl) (fun _ _ _ h => h) (Or.inl ⟨by rfl, ?_⟩) ?_ ?_
  rotate_left
  · intro w'
    go_simp
    with_reducible rfl
  rotate_left
  · simp only [Act.put, List.setIfInBounds_toArray, List.set_cons_zero, List.set_cons_succ, i64_w, i32_w]
    rfl
  refine last_store_ (i := 11) (w1 := (World.setCell (World.setCell (World.setCell (World.setCell (World.setCell (World.setCell (World.setCell (World.setCell w5 ⟨w.heap.size, 0, none⟩ (.int .i64 x0)) ⟨w.heap.size, 1, none⟩ (.int .i64 x1)) ⟨w.heap.size, 2, none⟩ (.int .i64 T0)) ⟨w.heap.size, 3, none⟩ (.int .i64 T1)) ⟨w.heap.size, 4, none⟩ (.int .i64 x2)) ⟨w.heap.size, 5, none⟩ (.int .i64 x3)) ⟨w.heap.size, 6, none⟩ (.int .i64 L0)) ⟨w.heap.size, 7, none⟩ (.int .i64 L1))) #[true, true, true, true, true, true, true, true, true, true, true, true] rfl rfl (by kernel_rfl) (by decide) (by rfl) (run_put8_ rfl (show _ = Value.pointer (some ⟨w.heap.size, 0, none⟩) from by rfl) (show _ = Value.agg #[.int .i64 x0, .int .i64 x1, .int .i64 T0, .int .i64 T1, .int .i64 x2, .int .i64 x3, .int .i64 L0, .int .i64 L1] from by rfl) X5.out.at0 (by kernel_rfl) (by rfl)) ?_
  refine done_ (by kernel_rfl) ?_
  generalize hw6 : (World.setCell (World.setCell (World.setCell (World.setCell (World.setCell (World.setCell (World.setCell (World.setCell w5 ⟨w.heap.size, 0, none⟩ (.int .i64 x0)) ⟨w.heap.size, 1, none⟩ (.int .i64 x1)) ⟨w.heap.size, 2, none⟩ (.int .i64 T0)) ⟨w.heap.size, 3, none⟩ (.int .i64 T1)) ⟨w.heap.size, 4, none⟩ (.int .i64 x2)) ⟨w.heap.size, 5, none⟩ (.int .i64 x3)) ⟨w.heap.size, 6, none⟩ (.int .i64 L0)) ⟨w.heap.size, 7, none⟩ (.int .i64 L1)) = w6
  have X6 := Aside0.mk (X5.out.put8_0 (by intro p hp; cases hp) hw6.symm)
  clear hw6 q0w0 q1w0 q2w0 q3w0 q4w0 q5w0 q6w0 q7w0 z0w0 z1w0 z2w0 z3w0 z4w0 z5w0 z6w0 z7w0 X0 XD X4 X5
  obtain ⟨mv, gv, hMw⟩ := Mw.start (by decide) X6.out.n X6.out.bel X6.out.sz
  have M0 := Aside0.mk hMw
  clear hMw
  have m0v := M0.out.x0
  have m1v := M0.out.x1
  go_wp2_with (first | ((with_reducible refine gate_builtin (b := .append) (xs := #[.tmp 146, .tmp 149]) rfl ?_); at_builtin; refine Kd.R_append k52 (w0 := w) w.heap.size rfl (.tmp 146) (.tmp 149) 33 52 (.agg #[(.int .i8 0), (.int .i64 0)]) 16 rfl Try.underlying33 info52_ rfl (by decide) (by omega) mv ms (⟨2, (rd xs i)⟩ : S52) [.int .i8 2, .int .i64 (rd xs i)] (fun _ => True) (fun _ => False) rfl rfl ?aP (fun _ hk => hk.elim) ?aF ?aO ?aB ?aS ?aL ?_; (case aP => exact k52_mkM _ _ _ (⟨2, (rd xs i)⟩ : S52)); (case aB => exact M0.out.bel); (case aF => exact (fun _ _ => trivial)); (case aO => exact M0.out.m); (case aS => exact M0.out.sz); (case aL => have := CB.out.1.1.1; omega); intro v_ u1 ho hb1 hg1 hat; obtain ⟨Au1, cu1, rfl⟩ := Kd.R_slice ho; have M1 := Aside0.mk (M0.out.appM ho hb1 hg1); clear ho hb1 hg1 hat M0; have x0u1 := M1.out.x0; have x1u1 := M1.out.x1; have x2u1 := M1.out.x2; have f0u1 := M1.out.fr 0; have f1u1 := M1.out.fr 1; have f2u1 := M1.out.fr 2) | ((with_reducible refine gate_store (t := 33) (p := 152) rfl ?_); refine store_event (t := 33) (p := 152) (v := ?vo_u2_9) (w1 := (u1.setCell ⟨w.heap.size + 1, 0, none⟩ (.slice Au1 (ms.length + 1) cu1))) ?hg ?ho ?hn ?hr ?_; (case ho => rfl); (case hg => rfl); (case hn => rfl); (case hr => first | (go_simp; done) | (go_simp; rfl)); intro u2 hw; have M2 := Aside0.mk (M1.out.set0 hw); clear hw M1; have x0u2 := M2.out.x0; have x1u2 := M2.out.x1; have x2u2 := M2.out.x2; have f0u2 := M2.out.fr 0; have f1u2 := M2.out.fr 1; have f2u2 := M2.out.fr 2; have XE := Aside0.mk (X6.out.note (M2.out.done' (by simp) (by simp) rfl).1 (M2.out.done' (by simp) (by simp) rfl).2.1 (M2.out.done' (by simp) (by simp) rfl).2.2); clear M2))
  go_roundg k1
  case measure => omega
  case rel => exact ⟨⟨x0, x1, T0, T1, x2, x3, L0, L1, i + 1, j, !lf, ms ++ [⟨2, (rd xs i)⟩], gs, o3⟩, rfl, rfl, rfl, HN, ⟨by have := HK1.out; omega⟩, XE⟩
set_option maxHeartbeats 16000000 in
set_option maxRecDepth 100000 in
theorem E8_Li {k k1 : Nat} {xs ys : List Int} {A1_ A2_ : Option Addr} {c1_ c2_ : Nat} {s : ESt} {w wc : World} {T0 T1 T2 T3 L0 L1 L2 L3 i j : Int} {lf : Bool} {ms : List S52} {gs : List Int} {R : Ending → World → Prop} {J : Nat → Act → World → Prop} {K2 K3 : Act → World → Prop} {c0 c4 c5 c18 c19 c214 : Value} {u6 u11 u12 u13 u14 u16 u17 u20 u21 u22 u23 u24 u25 u26 u27 u28 u29 u30 u31 u32 u33 u34 u35 u36 u37 u38 u39 u40 u41 u42 u43 u44 u45 u46 u47 u48 u49 u50 u51 u52 u53 u54 u55 u56 u57 u58 u59 u60 u61 u62 u63 u64 u65 u66 u67 u68 u69 u70 u71 u72 u73 u74 u75 u76 u77 u78 u79 u80 u81 u82 u83 u84 u85 u86 u87 u88 u89 u90 u91 u92 u93 u94 u95 u96 u97 u98 u99 u100 u101 u102 u103 u104 u105 u106 u107 u108 u109 u110 u111 u112 u113 u114 u115 u116 u117 u118 u119 u120 u121 u122 u123 u124 u125 u126 u127 u128 u129 u130 u131 u132 u133 u134 u135 u136 u137 u138 u139 u140 u141 u142 u143 u144 u145 u146 u147 u148 u149 u150 u151 u152 u153 u154 u155 u156 u157 u158 u159 u160 u161 u162 u163 u164 u165 u166 u167 u168 u169 u170 u171 u172 u173 u174 u175 u176 u177 u178 u179 u180 u181 u182 u183 u184 u185 u186 u187 u188 u189 u190 u191 u192 u193 u194 u195 u196 u197 u198 u199 u200 u201 u202 u203 u204 u205 u206 u207 u208 u209 u210 u211 u212 u213 : Value} (hJ : ∀ (kq : Nat) (a' : Act) (w' : World), (∃ u6 u8 u9 u10 u11 u12 u13 u14 u15 u16 u17 u20 u21 u22 u23 u24 u25 u26 u27 u28 u29 u30 u31 u32 u33 u34 u35 u36 u37 u38 u39 u40 u41 u42 u43 u44 u45 u46 u47 u48 u49 u50 u51 u52 u53 u54 u55 u56 u57 u58 u59 u60 u61 u62 u63 u64 u65 u66 u67 u68 u69 u70 u71 u72 u73 u74 u75 u76 u77 u78 u79 u80 u81 u82 u83 u84 u85 u86 u87 u88 u89 u90 u91 u92 u93 u94 u95 u96 u97 u98 u99 u100 u101 u102 u103 u104 u105 u106 u107 u108 u109 u110 u111 u112 u113 u114 u115 u116 u117 u118 u119 u120 u121 u122 u123 u124 u125 u126 u127 u128 u129 u130 u131 u132 u133 u134 u135 u136 u137 u138 u139 u140 u141 u142 u143 u144 u145 u146 u147 u148 u149 u150 u151 u152 u153 u154 u155 u156 u157 u158 u159 u160 u161 u162 u163 u164 u165 u166 u167 u168 u169 u170 u171 u172 u173 u174 u175 u176 u177 u178 u179 u180 u181 u182 u183 u184 u185 u186 u187 u188 u189 u190 u191 u192 u193 u194 u195 u196 u197 u198 u199 u200 u201 u202 u203 u204 u205 u206 u207 u208 u209 u210 u211 u212 u213 : Value, (∃ s1 : ESt, u8 = .int .i64 s1.i ∧ u9 = .int .i64 s1.j ∧ u10 = .bool s1.lf ∧ Aside0 (runE k xs ys kq s1 = some s) ∧ Aside0 (kq ≤ k) ∧ Aside0 (HB8 89 w.heap.size w w' (w.heap.size + 1) s1.ms s1.gs s1.ov [(w.heap.size, #[.int .i64 s1.T0, .int .i64 s1.T1, .int .i64 s1.T2, .int .i64 s1.T3, .int .i64 s1.L0, .int .i64 s1.L1, .int .i64 s1.L2, .int .i64 s1.L3], 42)])) ∧ a' = ⟨List.toArray (c0 :: .slice A1_ xs.length c1_ :: .slice A2_ ys.length c2_ :: .pointer (some ⟨w.heap.size, 0, none⟩) :: c4 :: c5 :: u6 :: .pointer (some ⟨w.heap.size + 1, 0, none⟩) :: u8 :: u9 :: u10 :: u11 :: u12 :: u13 :: u14 :: u15 :: u16 :: u17 :: c18 :: c19 :: u20 :: u21 :: u22 :: u23 :: u24 :: u25 :: u26 :: u27 :: u28 :: u29 :: u30 :: u31 :: u32 :: u33 :: u34 :: u35 :: u36 :: u37 :: u38 :: u39 :: u40 :: u41 :: u42 :: u43 :: u44 :: u45 :: u46 :: u47 :: u48 :: u49 :: u50 :: u51 :: u52 :: u53 :: u54 :: u55 :: u56 :: u57 :: u58 :: u59 :: u60 :: u61 :: u62 :: u63 :: u64 :: u65 :: u66 :: u67 :: u68 :: u69 :: u70 :: u71 :: u72 :: u73 :: u74 :: u75 :: u76 :: u77 :: u78 :: u79 :: u80 :: u81 :: u82 :: u83 :: u84 :: u85 :: u86 :: u87 :: u88 :: u89 :: u90 :: u91 :: u92 :: u93 :: u94 :: u95 :: u96 :: u97 :: u98 :: u99 :: u100 :: u101 :: u102 :: u103 :: u104 :: u105 :: u106 :: u107 :: u108 :: u109 :: u110 :: u111 :: u112 :: u113 :: u114 :: u115 :: u116 :: u117 :: u118 :: u119 :: u120 :: u121 :: u122 :: u123 :: u124 :: u125 :: u126 :: u127 :: u128 :: u129 :: u130 :: u131 :: u132 :: u133 :: u134 :: u135 :: u136 :: u137 :: u138 :: u139 :: u140 :: u141 :: u142 :: u143 :: u144 :: u145 :: u146 :: u147 :: u148 :: u149 :: u150 :: u151 :: u152 :: u153 :: u154 :: u155 :: u156 :: u157 :: u158 :: u159 :: u160 :: u161 :: u162 :: u163 :: u164 :: u165 :: u166 :: u167 :: u168 :: u169 :: u170 :: u171 :: u172 :: u173 :: u174 :: u175 :: u176 :: u177 :: u178 :: u179 :: u180 :: u181 :: u182 :: u183 :: u184 :: u185 :: u186 :: u187 :: u188 :: u189 :: u190 :: u191 :: u192 :: u193 :: u194 :: u195 :: u196 :: u197 :: u198 :: u199 :: u200 :: u201 :: u202 :: u203 :: u204 :: u205 :: u206 :: u207 :: u208 :: u209 :: u210 :: u211 :: u212 :: u213 :: c214 :: []), []⟩) → J kq a' w') (hK : ∀ (a' : Act) (w' : World), Handed J (k1 + 1) a' w' → K2 a' w') (HR : Aside0 ((Kd.int .i64).C w A1_ xs.length xs)) (HR2 : Aside0 ((Kd.int .i64).C w A2_ ys.length ys)) (HC : Aside0 (xs.length ≤ c1_)) (HC2 : Aside0 (ys.length ≤ c2_)) (CB : Aside0 (((ms.length < 1000000 ∧ gs.length < 1000000) ∧ 0 ≤ i ∧ i < 1000000 ∧ 0 ≤ j ∧ j < 1000000) ∧ xs.length < 1000000 ∧ ys.length < 1000000)) (hti0 : 0 ≤ i) (hti2 : i < 1000000) (htj0 : 0 ≤ j) (htj2 : j < 1000000) (X0 : Aside0 (HB8 89 w.heap.size w wc (w.heap.size + 1) ms gs true [(w.heap.size, #[.int .i64 T0, .int .i64 T1, .int .i64 T2, .int .i64 T3, .int .i64 L0, .int .i64 L1, .int .i64 L2, .int .i64 L3], 42)])) (cl : ¬ i < (xs.length : Int)) (HN : Aside0 (runE k xs ys k1 ⟨T0, T1, T0, T1, L0, L1, L0, L1, i + 1, j, !lf, ms ++ [⟨2, 0⟩], gs, true⟩ = some s)) (HK1 : Aside0 (k1 + 1 ≤ k)) :
    Code.wp Try.prog (tl44 23) (Exit.inBlock 1 (Exit.then K2 (Exit.inBlock 0 (Exit.then K3 (bodyPost Try.prog Try.f44 R))))) ⟨List.toArray (c0 :: .slice A1_ xs.length c1_ :: .slice A2_ ys.length c2_ :: .pointer (some ⟨w.heap.size, 0, none⟩) :: c4 :: c5 :: u6 :: .pointer (some ⟨w.heap.size + 1, 0, none⟩) :: .int .i64 i :: .int .i64 j :: .bool (!lf) :: u11 :: u12 :: u13 :: u14 :: .bool true :: u16 :: u17 :: c18 :: c19 :: u20 :: u21 :: u22 :: u23 :: u24 :: u25 :: u26 :: u27 :: u28 :: u29 :: u30 :: u31 :: u32 :: u33 :: u34 :: u35 :: u36 :: u37 :: u38 :: u39 :: u40 :: u41 :: u42 :: u43 :: u44 :: u45 :: u46 :: u47 :: u48 :: u49 :: u50 :: u51 :: u52 :: u53 :: u54 :: u55 :: u56 :: u57 :: u58 :: u59 :: u60 :: u61 :: u62 :: u63 :: u64 :: u65 :: u66 :: u67 :: u68 :: u69 :: u70 :: u71 :: u72 :: u73 :: u74 :: u75 :: u76 :: u77 :: u78 :: u79 :: u80 :: u81 :: u82 :: u83 :: u84 :: u85 :: u86 :: u87 :: u88 :: u89 :: u90 :: u91 :: u92 :: u93 :: u94 :: u95 :: u96 :: u97 :: u98 :: u99 :: u100 :: u101 :: u102 :: u103 :: u104 :: u105 :: u106 :: u107 :: u108 :: u109 :: u110 :: u111 :: u112 :: u113 :: u114 :: u115 :: u116 :: u117 :: u118 :: u119 :: u120 :: u121 :: u122 :: u123 :: u124 :: u125 :: u126 :: u127 :: u128 :: u129 :: u130 :: u131 :: u132 :: u133 :: u134 :: u135 :: u136 :: u137 :: u138 :: u139 :: u140 :: u141 :: u142 :: u143 :: u144 :: u145 :: u146 :: u147 :: u148 :: u149 :: u150 :: u151 :: u152 :: u153 :: u154 :: u155 :: u156 :: u157 :: u158 :: u159 :: u160 :: u161 :: u162 :: u163 :: u164 :: u165 :: u166 :: u167 :: u168 :: u169 :: u170 :: u171 :: u172 :: u173 :: u174 :: u175 :: u176 :: u177 :: u178 :: u179 :: u180 :: u181 :: u182 :: u183 :: u184 :: u185 :: u186 :: u187 :: u188 :: u189 :: u190 :: u191 :: u192 :: u193 :: u194 :: u195 :: u196 :: u197 :: u198 :: u199 :: u200 :: u201 :: u202 :: u203 :: u204 :: u205 :: u206 :: u207 :: u208 :: u209 :: u210 :: u211 :: u212 :: u213 :: c214 :: []), []⟩ wc := by
  have hu42 := Try.underlying42
  have hu38 := Try.underlying38
  conv => arg 2; whnf
  obtain ⟨⟨q0w0, q1w0, q2w0, q3w0, q4w0, q5w0, q6w0, q7w0⟩, z0w0, z1w0, z2w0, z3w0, z4w0, z5w0, z6w0, z7w0⟩ := cells8 X0.out.at0
  have f4 : decide (i < (xs.length : Int)) = false := decide_eq_false cl
  clear cl
  go_wp2_with (first | ((with_reducible refine gate_store (t := 42) (p := 3) rfl ?_); refine store_event (t := 42) (p := 3) (v := ?vo_w4_10) (w1 := (World.setCell (World.setCell (World.setCell (World.setCell (World.setCell (World.setCell (World.setCell (World.setCell wc ⟨w.heap.size, 0, none⟩ (.int .i64 T0)) ⟨w.heap.size, 1, none⟩ (.int .i64 T1)) ⟨w.heap.size, 2, none⟩ (.int .i64 T0)) ⟨w.heap.size, 3, none⟩ (.int .i64 T1)) ⟨w.heap.size, 4, none⟩ (.int .i64 L0)) ⟨w.heap.size, 5, none⟩ (.int .i64 L1)) ⟨w.heap.size, 6, none⟩ (.int .i64 L0)) ⟨w.heap.size, 7, none⟩ (.int .i64 L1))) ?hg ?ho ?hn ?hr ?_; (case ho => rfl); (case hg => rfl); (case hn => rfl); (case hr => first | (go_simp; done) | (go_simp; rfl)); intro w4 hw; have X4 := Aside0.mk (X0.out.put8_0 (by intro p hp; cases hp) hw); clear hw; obtain ⟨⟨q0w4, q1w4, q2w4, q3w4, q4w4, q5w4, q6w4, q7w4⟩, z0w4, z1w4, z2w4, z3w4, z4w4, z5w4, z6w4, z7w4⟩ := cells8 X4.out.at0; obtain ⟨mv, gv, hMw⟩ := Mw.start (by decide) X4.out.n X4.out.bel X4.out.sz; have M0 := Aside0.mk hMw; clear hMw; have m0v := M0.out.x0; have m1v := M0.out.x1) | ((with_reducible refine gate_builtin (b := .append) (xs := #[.tmp 146, .tmp 149]) rfl ?_); at_builtin; refine Kd.R_append k52 (w0 := w) w.heap.size rfl (.tmp 146) (.tmp 149) 33 52 (.agg #[(.int .i8 0), (.int .i64 0)]) 16 rfl Try.underlying33 info52_ rfl (by decide) (by omega) mv ms (⟨2, 0⟩ : S52) [.int .i8 2, .int .i64 0] (fun _ => True) (fun _ => False) rfl rfl ?aP (fun _ hk => hk.elim) ?aF ?aO ?aB ?aS ?aL ?_; (case aP => exact k52_mkM _ _ _ (⟨2, 0⟩ : S52)); (case aB => exact M0.out.bel); (case aF => exact (fun _ _ => trivial)); (case aO => exact M0.out.m); (case aS => exact M0.out.sz); (case aL => have := CB.out.1.1.1; omega); intro v_ u1 ho hb1 hg1 hat; obtain ⟨Au1, cu1, rfl⟩ := Kd.R_slice ho; have M1 := Aside0.mk (M0.out.appM ho hb1 hg1); clear ho hb1 hg1 hat M0; have x0u1 := M1.out.x0; have x1u1 := M1.out.x1; have x2u1 := M1.out.x2; have f0u1 := M1.out.fr 0; have f1u1 := M1.out.fr 1; have f2u1 := M1.out.fr 2) | ((with_reducible refine gate_store (t := 33) (p := 152) rfl ?_); refine store_event (t := 33) (p := 152) (v := ?vo_u2_11) (w1 := (u1.setCell ⟨w.heap.size + 1, 0, none⟩ (.slice Au1 (ms.length + 1) cu1))) ?hg ?ho ?hn ?hr ?_; (case ho => rfl); (case hg => rfl); (case hn => rfl); (case hr => first | (go_simp; done) | (go_simp; rfl)); intro u2 hw; have M2 := Aside0.mk (M1.out.set0 hw); clear hw M1; have x0u2 := M2.out.x0; have x1u2 := M2.out.x1; have x2u2 := M2.out.x2; have f0u2 := M2.out.fr 0; have f1u2 := M2.out.fr 1; have f2u2 := M2.out.fr 2; have XE := Aside0.mk (X4.out.note (M2.out.done' (by simp) (by simp) rfl).1 (M2.out.done' (by simp) (by simp) rfl).2.1 (M2.out.done' (by simp) (by simp) rfl).2.2); clear M2))
  go_roundg k1
  case measure => omega
  case rel => exact ⟨⟨T0, T1, T0, T1, L0, L1, L0, L1, i + 1, j, !lf, ms ++ [⟨2, 0⟩], gs, true⟩, rfl, rfl, rfl, HN, ⟨by have := HK1.out; omega⟩, XE⟩
set_option maxHeartbeats 16000000 in
set_option maxRecDepth 100000 in
theorem E8_Rf {k k1 : Nat} {xs ys : List Int} {A1_ A2_ : Option Addr} {c1_ c2_ : Nat} {s : ESt} {w wc : World} {T0 T1 T2 T3 L0 L1 L2 L3 i j : Int} {lf : Bool} {ms : List S52} {gs : List Int} {R : Ending → World → Prop} {J : Nat → Act → World → Prop} {K2 K3 : Act → World → Prop} {c0 c4 c5 c18 c19 c214 : Value} {x0 x1 x2 x3 : Int} {o0 o1 o2 o3 : Bool} {u6 u11 u12 u13 u14 u16 u17 u20 u21 u22 u23 u24 u25 u26 u27 u28 u29 u30 u31 u32 u33 u34 u35 u36 u37 u38 u39 u40 u41 u42 u43 u44 u45 u46 u47 u48 u49 u50 u51 u52 u53 u54 u55 u56 u57 u58 u59 u60 u61 u62 u63 u64 u65 u66 u67 u68 u69 u70 u71 u72 u73 u74 u75 u76 u77 u78 u79 u80 u81 u82 u83 u84 u85 u86 u87 u88 u89 u90 u91 u92 u93 u94 u95 u96 u97 u98 u99 u100 u101 u102 u103 u104 u105 u106 u107 u108 u109 u110 u111 u112 u113 u114 u115 u116 u117 u118 u119 u120 u121 u122 u123 u124 u125 u126 u127 u128 u129 u130 u131 u132 u133 u134 u135 u136 u137 u138 u139 u140 u141 u142 u143 u144 u145 u146 u147 u148 u149 u150 u151 u152 u153 u154 u155 u156 u157 u158 u159 u160 u161 u162 u163 u164 u165 u166 u167 u168 u169 u170 u171 u172 u173 u174 u175 u176 u177 u178 u179 u180 u181 u182 u183 u184 u185 u186 u187 u188 u189 u190 u191 u192 u193 u194 u195 u196 u197 u198 u199 u200 u201 u202 u203 u204 u205 u206 u207 u208 u209 u210 u211 u212 u213 : Value} (hJ : ∀ (kq : Nat) (a' : Act) (w' : World), (∃ u6 u8 u9 u10 u11 u12 u13 u14 u15 u16 u17 u20 u21 u22 u23 u24 u25 u26 u27 u28 u29 u30 u31 u32 u33 u34 u35 u36 u37 u38 u39 u40 u41 u42 u43 u44 u45 u46 u47 u48 u49 u50 u51 u52 u53 u54 u55 u56 u57 u58 u59 u60 u61 u62 u63 u64 u65 u66 u67 u68 u69 u70 u71 u72 u73 u74 u75 u76 u77 u78 u79 u80 u81 u82 u83 u84 u85 u86 u87 u88 u89 u90 u91 u92 u93 u94 u95 u96 u97 u98 u99 u100 u101 u102 u103 u104 u105 u106 u107 u108 u109 u110 u111 u112 u113 u114 u115 u116 u117 u118 u119 u120 u121 u122 u123 u124 u125 u126 u127 u128 u129 u130 u131 u132 u133 u134 u135 u136 u137 u138 u139 u140 u141 u142 u143 u144 u145 u146 u147 u148 u149 u150 u151 u152 u153 u154 u155 u156 u157 u158 u159 u160 u161 u162 u163 u164 u165 u166 u167 u168 u169 u170 u171 u172 u173 u174 u175 u176 u177 u178 u179 u180 u181 u182 u183 u184 u185 u186 u187 u188 u189 u190 u191 u192 u193 u194 u195 u196 u197 u198 u199 u200 u201 u202 u203 u204 u205 u206 u207 u208 u209 u210 u211 u212 u213 : Value, (∃ s1 : ESt, u8 = .int .i64 s1.i ∧ u9 = .int .i64 s1.j ∧ u10 = .bool s1.lf ∧ Aside0 (runE k xs ys kq s1 = some s) ∧ Aside0 (kq ≤ k) ∧ Aside0 (HB8 89 w.heap.size w w' (w.heap.size + 1) s1.ms s1.gs s1.ov [(w.heap.size, #[.int .i64 s1.T0, .int .i64 s1.T1, .int .i64 s1.T2, .int .i64 s1.T3, .int .i64 s1.L0, .int .i64 s1.L1, .int .i64 s1.L2, .int .i64 s1.L3], 42)])) ∧ a' = ⟨List.toArray (c0 :: .slice A1_ xs.length c1_ :: .slice A2_ ys.length c2_ :: .pointer (some ⟨w.heap.size, 0, none⟩) :: c4 :: c5 :: u6 :: .pointer (some ⟨w.heap.size + 1, 0, none⟩) :: u8 :: u9 :: u10 :: u11 :: u12 :: u13 :: u14 :: u15 :: u16 :: u17 :: c18 :: c19 :: u20 :: u21 :: u22 :: u23 :: u24 :: u25 :: u26 :: u27 :: u28 :: u29 :: u30 :: u31 :: u32 :: u33 :: u34 :: u35 :: u36 :: u37 :: u38 :: u39 :: u40 :: u41 :: u42 :: u43 :: u44 :: u45 :: u46 :: u47 :: u48 :: u49 :: u50 :: u51 :: u52 :: u53 :: u54 :: u55 :: u56 :: u57 :: u58 :: u59 :: u60 :: u61 :: u62 :: u63 :: u64 :: u65 :: u66 :: u67 :: u68 :: u69 :: u70 :: u71 :: u72 :: u73 :: u74 :: u75 :: u76 :: u77 :: u78 :: u79 :: u80 :: u81 :: u82 :: u83 :: u84 :: u85 :: u86 :: u87 :: u88 :: u89 :: u90 :: u91 :: u92 :: u93 :: u94 :: u95 :: u96 :: u97 :: u98 :: u99 :: u100 :: u101 :: u102 :: u103 :: u104 :: u105 :: u106 :: u107 :: u108 :: u109 :: u110 :: u111 :: u112 :: u113 :: u114 :: u115 :: u116 :: u117 :: u118 :: u119 :: u120 :: u121 :: u122 :: u123 :: u124 :: u125 :: u126 :: u127 :: u128 :: u129 :: u130 :: u131 :: u132 :: u133 :: u134 :: u135 :: u136 :: u137 :: u138 :: u139 :: u140 :: u141 :: u142 :: u143 :: u144 :: u145 :: u146 :: u147 :: u148 :: u149 :: u150 :: u151 :: u152 :: u153 :: u154 :: u155 :: u156 :: u157 :: u158 :: u159 :: u160 :: u161 :: u162 :: u163 :: u164 :: u165 :: u166 :: u167 :: u168 :: u169 :: u170 :: u171 :: u172 :: u173 :: u174 :: u175 :: u176 :: u177 :: u178 :: u179 :: u180 :: u181 :: u182 :: u183 :: u184 :: u185 :: u186 :: u187 :: u188 :: u189 :: u190 :: u191 :: u192 :: u193 :: u194 :: u195 :: u196 :: u197 :: u198 :: u199 :: u200 :: u201 :: u202 :: u203 :: u204 :: u205 :: u206 :: u207 :: u208 :: u209 :: u210 :: u211 :: u212 :: u213 :: c214 :: []), []⟩) → J kq a' w') (hK : ∀ (a' : Act) (w' : World), Handed J (k1 + 1) a' w' → K2 a' w') (HR : Aside0 ((Kd.int .i64).C w A1_ xs.length xs)) (HR2 : Aside0 ((Kd.int .i64).C w A2_ ys.length ys)) (HC : Aside0 (xs.length ≤ c1_)) (HC2 : Aside0 (ys.length ≤ c2_)) (CB : Aside0 (((ms.length < 1000000 ∧ gs.length < 1000000) ∧ 0 ≤ i ∧ i < 1000000 ∧ 0 ≤ j ∧ j < 1000000) ∧ xs.length < 1000000 ∧ ys.length < 1000000)) (hti0 : 0 ≤ i) (hti2 : i < 1000000) (htj0 : 0 ≤ j) (htj2 : j < 1000000) (X0 : Aside0 (HB8 89 w.heap.size w wc (w.heap.size + 1) ms gs true [(w.heap.size, #[.int .i64 T0, .int .i64 T1, .int .i64 T2, .int .i64 T3, .int .i64 L0, .int .i64 L1, .int .i64 L2, .int .i64 L3], 42)])) (cl : j < (ys.length : Int)) (H0 : Aside0 (specC true T0 (rd ys j) T1 = some (x0, o0))) (H1 : Aside0 (specC o0 T2 (rd ys j) T3 = some (x1, o1))) (H2 : Aside0 (specC o1 L0 (rd ys j) L1 = some (x2, o2))) (H3 : Aside0 (specC o2 L2 (rd ys j) L3 = some (x3, o3))) (HN : Aside0 (runE k xs ys k1 ⟨x0, T0, x1, T2, x2, L0, x3, L2, i, j + 1, !lf, ms ++ [⟨3, rd ys j⟩], gs, o3⟩ = some s)) (HK1 : Aside0 (k1 + 1 ≤ k)) :
    Code.wp Try.prog (tl44 23) (Exit.inBlock 1 (Exit.then K2 (Exit.inBlock 0 (Exit.then K3 (bodyPost Try.prog Try.f44 R))))) ⟨List.toArray (c0 :: .slice A1_ xs.length c1_ :: .slice A2_ ys.length c2_ :: .pointer (some ⟨w.heap.size, 0, none⟩) :: c4 :: c5 :: u6 :: .pointer (some ⟨w.heap.size + 1, 0, none⟩) :: .int .i64 i :: .int .i64 j :: .bool (!lf) :: u11 :: u12 :: u13 :: u14 :: .bool false :: u16 :: u17 :: c18 :: c19 :: u20 :: u21 :: u22 :: u23 :: u24 :: u25 :: u26 :: u27 :: u28 :: u29 :: u30 :: u31 :: u32 :: u33 :: u34 :: u35 :: u36 :: u37 :: u38 :: u39 :: u40 :: u41 :: u42 :: u43 :: u44 :: u45 :: u46 :: u47 :: u48 :: u49 :: u50 :: u51 :: u52 :: u53 :: u54 :: u55 :: u56 :: u57 :: u58 :: u59 :: u60 :: u61 :: u62 :: u63 :: u64 :: u65 :: u66 :: u67 :: u68 :: u69 :: u70 :: u71 :: u72 :: u73 :: u74 :: u75 :: u76 :: u77 :: u78 :: u79 :: u80 :: u81 :: u82 :: u83 :: u84 :: u85 :: u86 :: u87 :: u88 :: u89 :: u90 :: u91 :: u92 :: u93 :: u94 :: u95 :: u96 :: u97 :: u98 :: u99 :: u100 :: u101 :: u102 :: u103 :: u104 :: u105 :: u106 :: u107 :: u108 :: u109 :: u110 :: u111 :: u112 :: u113 :: u114 :: u115 :: u116 :: u117 :: u118 :: u119 :: u120 :: u121 :: u122 :: u123 :: u124 :: u125 :: u126 :: u127 :: u128 :: u129 :: u130 :: u131 :: u132 :: u133 :: u134 :: u135 :: u136 :: u137 :: u138 :: u139 :: u140 :: u141 :: u142 :: u143 :: u144 :: u145 :: u146 :: u147 :: u148 :: u149 :: u150 :: u151 :: u152 :: u153 :: u154 :: u155 :: u156 :: u157 :: u158 :: u159 :: u160 :: u161 :: u162 :: u163 :: u164 :: u165 :: u166 :: u167 :: u168 :: u169 :: u170 :: u171 :: u172 :: u173 :: u174 :: u175 :: u176 :: u177 :: u178 :: u179 :: u180 :: u181 :: u182 :: u183 :: u184 :: u185 :: u186 :: u187 :: u188 :: u189 :: u190 :: u191 :: u192 :: u193 :: u194 :: u195 :: u196 :: u197 :: u198 :: u199 :: u200 :: u201 :: u202 :: u203 :: u204 :: u205 :: u206 :: u207 :: u208 :: u209 :: u210 :: u211 :: u212 :: u213 :: c214 :: []), []⟩ wc := by
  have hu42 := Try.underlying42
  have hu38 := Try.underlying38
  conv => arg 2; whnf
  obtain ⟨⟨q0w0, q1w0, q2w0, q3w0, q4w0, q5w0, q6w0, q7w0⟩, z0w0, z1w0, z2w0, z3w0, z4w0, z5w0, z6w0, z7w0⟩ := cells8 X0.out.at0
  have f4 : decide (j < (ys.length : Int)) = true := decide_eq_true cl
  obtain ⟨ad, e0_, hx0⟩ := Kd.at_int HR2.out j (by omega) (by omega)
  cases e0_
  have HX0 := Aside0.mk hx0
  clear hx0
  have p0 := eq_true htj0
  have p1 := eq_true cl
  clear cl
  have hxi := (X0.out.bel.cell (World.block_lt_of_cell? w _ HX0.out)).trans HX0.out
  go_wp2
  have XD := Aside0.mk X0.out.drew
  refine start_ (n := 12) (S := fun w' => w'.cell? ⟨w.heap.size, 0, none⟩ = some (.int .i64 T0) ∧ w'.cell? ⟨w.heap.size, 1, none⟩ = some (.int .i64 T1) ∧ w'.cell? ⟨w.heap.size, 2, none⟩ = some (.int .i64 T2) ∧ w'.cell? ⟨w.heap.size, 3, none⟩ = some (.int .i64 T3) ∧ w'.cell? ⟨w.heap.size, 4, none⟩ = some (.int .i64 L0) ∧ w'.cell? ⟨w.heap.size, 5, none⟩ = some (.int .i64 L1) ∧ w'.cell? ⟨w.heap.size, 6, none⟩ = some (.int .i64 L2) ∧ w'.cell? ⟨w.heap.size, 7, none⟩ = some (.int .i64 L3)) (ds := [11]) #[false, false, false, false, false, false, false, false, false, false, false, false] (by kernel_rfl) rfl rfl ⟨(blk_cell XD.out.at0 0).trans rfl, (blk_cell XD.out.at0 1).trans rfl, (blk_cell XD.out.at0 2).trans rfl, (blk_cell XD.out.at0 3).trans rfl, (blk_cell XD.out.at0 4).trans rfl, (blk_cell XD.out.at0 5).trans rfl, (blk_cell XD.out.at0 6).trans rfl, (blk_cell XD.out.at0 7).trans rfl⟩ (fun hHeld => ?_)
  refine pure_ (i := 0) (N := some 163) (v := ?_) (a' := ?_) #[true, false, false, false, false, false, false, false, false, false, false, false] rfl rfl (by kernel_rfl) (fun _ _ _ h => h) (Or.inl ⟨by rfl, ?_⟩) ?_ ?_
  rotate_left
  · intro w'
    go_simp
    with_reducible rfl
  rotate_left
  · simp only [Act.put, List.setIfInBounds_toArray, List.set_cons_zero, List.set_cons_succ, i64_w, i32_w]
    rfl
  refine pure_ (i := 1) (N := some 164) (v := ?_) (a' := ?_) #[true, true, false, false, false, false, false, false, false, false, false, false] rfl rfl (by kernel_rfl) (fun _ _ _ h => h) (Or.inl ⟨by rfl, ?_⟩) ?_ ?_
  rotate_left
  · intro w'
    go_simp
    with_reducible rfl
  rotate_left
  · simp only [Act.put, List.setIfInBounds_toArray, List.set_cons_zero, List.set_cons_succ, i64_w, i32_w]
    rfl
  refine pure_ (i := 3) (N := some 166) (v := ?_) (a' := ?_) #[true, true, false, true, false, false, false, false, false, false, false, false] rfl rfl (by kernel_rfl) (fun _ _ _ h => h) (Or.inl ⟨by rfl, ?_⟩) ?_ ?_
  rotate_left
  · intro w'
    go_simp
    with_reducible rfl
  rotate_left
  · simp only [Act.put, List.setIfInBounds_toArray, List.set_cons_zero, List.set_cons_succ, i64_w, i32_w]
    rfl
  refine pure_ (i := 5) (N := some 168) (v := ?_) (a' := ?_) #[true, true, false, true, false, true, false, false, false, false, false, false] rfl rfl (by kernel_rfl) (fun _ _ _ h => h) (Or.inl ⟨by rfl, ?_⟩) ?_ ?_
  rotate_left
  · intro w'
    go_simp
    with_reducible rfl
  rotate_left
  · simp only [Act.put, List.setIfInBounds_toArray, List.set_cons_zero, List.set_cons_succ, i64_w, i32_w]
    rfl
  refine pure_ (i := 6) (N := some 169) (v := ?_) (a' := ?_) #[true, true, false, true, false, true, true, false, false, false, false, false] rfl rfl (by kernel_rfl) (fun _ _ _ h => h) (Or.inl ⟨by rfl, ?_⟩) ?_ ?_
  rotate_left
  · intro w'
    go_simp
    with_reducible rfl
  rotate_left
  · simp only [Act.put, List.setIfInBounds_toArray, List.set_cons_zero, List.set_cons_succ, i64_w, i32_w]
    rfl
  refine pure_ (i := 8) (N := some 171) (v := ?_) (a' := ?_) #[true, true, false, true, false, true, true, false, true, false, false, false] rfl rfl (by kernel_rfl) (fun _ _ _ h => h) (Or.inl ⟨by rfl, ?_⟩) ?_ ?_
  rotate_left
  · intro w'
    go_simp
    with_reducible rfl
  rotate_left
  · simp only [Act.put, List.setIfInBounds_toArray, List.set_cons_zero, List.set_cons_succ, i64_w, i32_w]
    rfl
  refine take_ (i := 2) (N := some 165) (v := ?_) (a' := ?_) #[true, true, true, true, false, true, true, false, true, false, false, false] rfl rfl (by kernel_rfl) (fun _ _ _ h => h) (Or.inl ⟨by rfl, ?_⟩) hHeld ?_ ?_
  rotate_left
  · rintro w' ⟨s0, s1, s2, s3, s4, s5, s6, s7⟩
    go_simp
    with_reducible rfl
  rotate_left
  · simp only [Act.put, List.setIfInBounds_toArray, List.set_cons_zero, List.set_cons_succ, i64_w, i32_w]
    rfl
  refine take_ (i := 7) (N := some 170) (v := ?_) (a' := ?_) #[true, true, true, true, false, true, true, true, true, false, false, false] rfl rfl (by kernel_rfl) (fun _ _ _ h => h) (Or.inl ⟨by rfl, ?_⟩) hHeld ?_ ?_
  rotate_left
  · rintro w' ⟨s0, s1, s2, s3, s4, s5, s6, s7⟩
    go_simp
    with_reducible rfl
  rotate_left
  · simp only [Act.put, List.setIfInBounds_toArray, List.set_cons_zero, List.set_cons_succ, i64_w, i32_w]
    rfl
  refine one_ (i := 4) (N := some 167) #[true, true, true, true, true, true, true, true, true, false, false, false] rfl rfl (by kernel_rfl) (by decide) (fun K hK => ?_)
  refine goes_ Try.func65 (by kernel_rfl) rfl #[.pointer (some ⟨w.heap.size + 1, 0, none⟩), .agg #[.int .i64 T0, .int .i64 T1, .int .i64 T2, .int .i64 T3], .int .i64 (rd ys j)] (by rfl) rfl rfl (by simp only [List.map_toArray, List.map_cons, List.map_nil]; rfl) ?_
  with_reducible refine (HB8.right XD.out H0.out H1.out).mono ?_
  rintro e w4 ⟨rfl, hX⟩
  refine ⟨_, rfl, ?_⟩
  have X4 := Aside0.mk hX
  clear hX
  refine hK.out _ _ ⟨(blk_cell X4.out.at0 0).trans rfl, (blk_cell X4.out.at0 1).trans rfl, (blk_cell X4.out.at0 2).trans rfl, (blk_cell X4.out.at0 3).trans rfl, (blk_cell X4.out.at0 4).trans rfl, (blk_cell X4.out.at0 5).trans rfl, (blk_cell X4.out.at0 6).trans rfl, (blk_cell X4.out.at0 7).trans rfl⟩ (fun hHeld => ?_)
  clear hK K
  refine norm_ (a' := ?_) ?_ ?_
  rotate_left
  · show Act.put _ (some 167) _ = _
    simp only [Act.put, List.setIfInBounds_toArray, List.set_cons_zero, List.set_cons_succ, i64_w, i32_w]
    rfl
  refine one_ (i := 9) (N := some 172) #[true, true, true, true, true, true, true, true, true, true, false, false] rfl rfl (by kernel_rfl) (by decide) (fun K hK => ?_)
  refine goes_ Try.func65 (by kernel_rfl) rfl #[.pointer (some ⟨w.heap.size + 1, 0, none⟩), .agg #[.int .i64 L0, .int .i64 L1, .int .i64 L2, .int .i64 L3], .int .i64 (rd ys j)] (by rfl) rfl rfl (by simp only [List.map_toArray, List.map_cons, List.map_nil]; rfl) ?_
  with_reducible refine (HB8.right X4.out H2.out H3.out).mono ?_
  rintro e w5 ⟨rfl, hX⟩
  refine ⟨_, rfl, ?_⟩
  have X5 := Aside0.mk hX
  clear hX
  refine hK.out _ _ ⟨(blk_cell X5.out.at0 0).trans rfl, (blk_cell X5.out.at0 1).trans rfl, (blk_cell X5.out.at0 2).trans rfl, (blk_cell X5.out.at0 3).trans rfl, (blk_cell X5.out.at0 4).trans rfl, (blk_cell X5.out.at0 5).trans rfl, (blk_cell X5.out.at0 6).trans rfl, (blk_cell X5.out.at0 7).trans rfl⟩ (fun hHeld => ?_)
  clear hK K
  refine norm_ (a' := ?_) ?_ ?_
  rotate_left
  · show Act.put _ (some 172) _ = _
    simp only [Act.put, List.setIfInBounds_toArray, List.set_cons_zero, List.set_cons_succ, i64_w, i32_w]
    rfl
  refine pure_ (i := 10) (N := some 173) (v := ?_) (a' := ?_) #[true, true, true, true, true, true, true, true, true, true, true, false] rfl rfl (by kernel_rfl) (fun _ _ _ h => h) (Or.inl ⟨by rfl, ?_⟩) ?_ ?_
  rotate_left
  · intro w'
    go_simp
    with_reducible rfl
  rotate_left
  · simp only [Act.put, List.setIfInBounds_toArray, List.set_cons_zero, List.set_cons_succ, i64_w, i32_w]
    rfl
  refine last_store_ (i := 11) (w1 := (World.setCell (World.setCell (World.setCell (World.setCell (World.setCell (World.setCell (World.setCell (World.setCell w5 ⟨w.heap.size, 0, none⟩ (.int .i64 x0)) ⟨w.heap.size, 1, none⟩ (.int .i64 T0)) ⟨w.heap.size, 2, none⟩ (.int .i64 x1)) ⟨w.heap.size, 3, none⟩ (.int .i64 T2)) ⟨w.heap.size, 4, none⟩ (.int .i64 x2)) ⟨w.heap.size, 5, none⟩ (.int .i64 L0)) ⟨w.heap.size, 6, none⟩ (.int .i64 x3)) ⟨w.heap.size, 7, none⟩ (.int .i64 L2))) #[true, true, true, true, true, true, true, true, true, true, true, true] rfl rfl (by kernel_rfl) (by decide) (by rfl) (run_put8_ rfl (show _ = Value.pointer (some ⟨w.heap.size, 0, none⟩) from by rfl) (show _ = Value.agg #[.int .i64 x0, .int .i64 T0, .int .i64 x1, .int .i64 T2, .int .i64 x2, .int .i64 L0, .int .i64 x3, .int .i64 L2] from by rfl) X5.out.at0 (by kernel_rfl) (by rfl)) ?_
  refine done_ (by kernel_rfl) ?_
  generalize hw6 : (World.setCell (World.setCell (World.setCell (World.setCell (World.setCell (World.setCell (World.setCell (World.setCell w5 ⟨w.heap.size, 0, none⟩ (.int .i64 x0)) ⟨w.heap.size, 1, none⟩ (.int .i64 T0)) ⟨w.heap.size, 2, none⟩ (.int .i64 x1)) ⟨w.heap.size, 3, none⟩ (.int .i64 T2)) ⟨w.heap.size, 4, none⟩ (.int .i64 x2)) ⟨w.heap.size, 5, none⟩ (.int .i64 L0)) ⟨w.heap.size, 6, none⟩ (.int .i64 x3)) ⟨w.heap.size, 7, none⟩ (.int .i64 L2)) = w6
  have X6 := Aside0.mk (X5.out.put8_0 (by intro p hp; cases hp) hw6.symm)
  clear hw6 q0w0 q1w0 q2w0 q3w0 q4w0 q5w0 q6w0 q7w0 z0w0 z1w0 z2w0 z3w0 z4w0 z5w0 z6w0 z7w0 X0 XD X4 X5
  obtain ⟨mv, gv, hMw⟩ := Mw.start (by decide) X6.out.n X6.out.bel X6.out.sz
  have M0 := Aside0.mk hMw
  clear hMw
  have m0v := M0.out.x0
  have m1v := M0.out.x1
  go_wp2_with (first | ((with_reducible refine gate_builtin (b := .append) (xs := #[.tmp 205, .tmp 208]) rfl ?_); at_builtin; refine Kd.R_append k52 (w0 := w) w.heap.size rfl (.tmp 205) (.tmp 208) 33 52 (.agg #[(.int .i8 0), (.int .i64 0)]) 16 rfl Try.underlying33 info52_ rfl (by decide) (by omega) mv ms (⟨3, (rd ys j)⟩ : S52) [.int .i8 3, .int .i64 (rd ys j)] (fun _ => True) (fun _ => False) rfl rfl ?aP (fun _ hk => hk.elim) ?aF ?aO ?aB ?aS ?aL ?_; (case aP => exact k52_mkM _ _ _ (⟨3, (rd ys j)⟩ : S52)); (case aB => exact M0.out.bel); (case aF => exact (fun _ _ => trivial)); (case aO => exact M0.out.m); (case aS => exact M0.out.sz); (case aL => have := CB.out.1.1.1; omega); intro v_ u1 ho hb1 hg1 hat; obtain ⟨Au1, cu1, rfl⟩ := Kd.R_slice ho; have M1 := Aside0.mk (M0.out.appM ho hb1 hg1); clear ho hb1 hg1 hat M0; have x0u1 := M1.out.x0; have x1u1 := M1.out.x1; have x2u1 := M1.out.x2; have f0u1 := M1.out.fr 0; have f1u1 := M1.out.fr 1; have f2u1 := M1.out.fr 2) | ((with_reducible refine gate_store (t := 33) (p := 211) rfl ?_); refine store_event (t := 33) (p := 211) (v := ?vo_u2_12) (w1 := (u1.setCell ⟨w.heap.size + 1, 0, none⟩ (.slice Au1 (ms.length + 1) cu1))) ?hg ?ho ?hn ?hr ?_; (case ho => rfl); (case hg => rfl); (case hn => rfl); (case hr => first | (go_simp; done) | (go_simp; rfl)); intro u2 hw; have M2 := Aside0.mk (M1.out.set0 hw); clear hw M1; have x0u2 := M2.out.x0; have x1u2 := M2.out.x1; have x2u2 := M2.out.x2; have f0u2 := M2.out.fr 0; have f1u2 := M2.out.fr 1; have f2u2 := M2.out.fr 2; have XE := Aside0.mk (X6.out.note (M2.out.done' (by simp) (by simp) rfl).1 (M2.out.done' (by simp) (by simp) rfl).2.1 (M2.out.done' (by simp) (by simp) rfl).2.2); clear M2))
  go_roundg k1
  case measure => omega
  case rel => exact ⟨⟨x0, T0, x1, T2, x2, L0, x3, L2, i, j + 1, !lf, ms ++ [⟨3, (rd ys j)⟩], gs, o3⟩, rfl, rfl, rfl, HN, ⟨by have := HK1.out; omega⟩, XE⟩
set_option maxHeartbeats 16000000 in
set_option maxRecDepth 100000 in
theorem E8_Ri {k k1 : Nat} {xs ys : List Int} {A1_ A2_ : Option Addr} {c1_ c2_ : Nat} {s : ESt} {w wc : World} {T0 T1 T2 T3 L0 L1 L2 L3 i j : Int} {lf : Bool} {ms : List S52} {gs : List Int} {R : Ending → World → Prop} {J : Nat → Act → World → Prop} {K2 K3 : Act → World → Prop} {c0 c4 c5 c18 c19 c214 : Value} {u6 u11 u12 u13 u14 u16 u17 u20 u21 u22 u23 u24 u25 u26 u27 u28 u29 u30 u31 u32 u33 u34 u35 u36 u37 u38 u39 u40 u41 u42 u43 u44 u45 u46 u47 u48 u49 u50 u51 u52 u53 u54 u55 u56 u57 u58 u59 u60 u61 u62 u63 u64 u65 u66 u67 u68 u69 u70 u71 u72 u73 u74 u75 u76 u77 u78 u79 u80 u81 u82 u83 u84 u85 u86 u87 u88 u89 u90 u91 u92 u93 u94 u95 u96 u97 u98 u99 u100 u101 u102 u103 u104 u105 u106 u107 u108 u109 u110 u111 u112 u113 u114 u115 u116 u117 u118 u119 u120 u121 u122 u123 u124 u125 u126 u127 u128 u129 u130 u131 u132 u133 u134 u135 u136 u137 u138 u139 u140 u141 u142 u143 u144 u145 u146 u147 u148 u149 u150 u151 u152 u153 u154 u155 u156 u157 u158 u159 u160 u161 u162 u163 u164 u165 u166 u167 u168 u169 u170 u171 u172 u173 u174 u175 u176 u177 u178 u179 u180 u181 u182 u183 u184 u185 u186 u187 u188 u189 u190 u191 u192 u193 u194 u195 u196 u197 u198 u199 u200 u201 u202 u203 u204 u205 u206 u207 u208 u209 u210 u211 u212 u213 : Value} (hJ : ∀ (kq : Nat) (a' : Act) (w' : World), (∃ u6 u8 u9 u10 u11 u12 u13 u14 u15 u16 u17 u20 u21 u22 u23 u24 u25 u26 u27 u28 u29 u30 u31 u32 u33 u34 u35 u36 u37 u38 u39 u40 u41 u42 u43 u44 u45 u46 u47 u48 u49 u50 u51 u52 u53 u54 u55 u56 u57 u58 u59 u60 u61 u62 u63 u64 u65 u66 u67 u68 u69 u70 u71 u72 u73 u74 u75 u76 u77 u78 u79 u80 u81 u82 u83 u84 u85 u86 u87 u88 u89 u90 u91 u92 u93 u94 u95 u96 u97 u98 u99 u100 u101 u102 u103 u104 u105 u106 u107 u108 u109 u110 u111 u112 u113 u114 u115 u116 u117 u118 u119 u120 u121 u122 u123 u124 u125 u126 u127 u128 u129 u130 u131 u132 u133 u134 u135 u136 u137 u138 u139 u140 u141 u142 u143 u144 u145 u146 u147 u148 u149 u150 u151 u152 u153 u154 u155 u156 u157 u158 u159 u160 u161 u162 u163 u164 u165 u166 u167 u168 u169 u170 u171 u172 u173 u174 u175 u176 u177 u178 u179 u180 u181 u182 u183 u184 u185 u186 u187 u188 u189 u190 u191 u192 u193 u194 u195 u196 u197 u198 u199 u200 u201 u202 u203 u204 u205 u206 u207 u208 u209 u210 u211 u212 u213 : Value, (∃ s1 : ESt, u8 = .int .i64 s1.i ∧ u9 = .int .i64 s1.j ∧ u10 = .bool s1.lf ∧ Aside0 (runE k xs ys kq s1 = some s) ∧ Aside0 (kq ≤ k) ∧ Aside0 (HB8 89 w.heap.size w w' (w.heap.size + 1) s1.ms s1.gs s1.ov [(w.heap.size, #[.int .i64 s1.T0, .int .i64 s1.T1, .int .i64 s1.T2, .int .i64 s1.T3, .int .i64 s1.L0, .int .i64 s1.L1, .int .i64 s1.L2, .int .i64 s1.L3], 42)])) ∧ a' = ⟨List.toArray (c0 :: .slice A1_ xs.length c1_ :: .slice A2_ ys.length c2_ :: .pointer (some ⟨w.heap.size, 0, none⟩) :: c4 :: c5 :: u6 :: .pointer (some ⟨w.heap.size + 1, 0, none⟩) :: u8 :: u9 :: u10 :: u11 :: u12 :: u13 :: u14 :: u15 :: u16 :: u17 :: c18 :: c19 :: u20 :: u21 :: u22 :: u23 :: u24 :: u25 :: u26 :: u27 :: u28 :: u29 :: u30 :: u31 :: u32 :: u33 :: u34 :: u35 :: u36 :: u37 :: u38 :: u39 :: u40 :: u41 :: u42 :: u43 :: u44 :: u45 :: u46 :: u47 :: u48 :: u49 :: u50 :: u51 :: u52 :: u53 :: u54 :: u55 :: u56 :: u57 :: u58 :: u59 :: u60 :: u61 :: u62 :: u63 :: u64 :: u65 :: u66 :: u67 :: u68 :: u69 :: u70 :: u71 :: u72 :: u73 :: u74 :: u75 :: u76 :: u77 :: u78 :: u79 :: u80 :: u81 :: u82 :: u83 :: u84 :: u85 :: u86 :: u87 :: u88 :: u89 :: u90 :: u91 :: u92 :: u93 :: u94 :: u95 :: u96 :: u97 :: u98 :: u99 :: u100 :: u101 :: u102 :: u103 :: u104 :: u105 :: u106 :: u107 :: u108 :: u109 :: u110 :: u111 :: u112 :: u113 :: u114 :: u115 :: u116 :: u117 :: u118 :: u119 :: u120 :: u121 :: u122 :: u123 :: u124 :: u125 :: u126 :: u127 :: u128 :: u129 :: u130 :: u131 :: u132 :: u133 :: u134 :: u135 :: u136 :: u137 :: u138 :: u139 :: u140 :: u141 :: u142 :: u143 :: u144 :: u145 :: u146 :: u147 :: u148 :: u149 :: u150 :: u151 :: u152 :: u153 :: u154 :: u155 :: u156 :: u157 :: u158 :: u159 :: u160 :: u161 :: u162 :: u163 :: u164 :: u165 :: u166 :: u167 :: u168 :: u169 :: u170 :: u171 :: u172 :: u173 :: u174 :: u175 :: u176 :: u177 :: u178 :: u179 :: u180 :: u181 :: u182 :: u183 :: u184 :: u185 :: u186 :: u187 :: u188 :: u189 :: u190 :: u191 :: u192 :: u193 :: u194 :: u195 :: u196 :: u197 :: u198 :: u199 :: u200 :: u201 :: u202 :: u203 :: u204 :: u205 :: u206 :: u207 :: u208 :: u209 :: u210 :: u211 :: u212 :: u213 :: c214 :: []), []⟩) → J kq a' w') (hK : ∀ (a' : Act) (w' : World), Handed J (k1 + 1) a' w' → K2 a' w') (HR : Aside0 ((Kd.int .i64).C w A1_ xs.length xs)) (HR2 : Aside0 ((Kd.int .i64).C w A2_ ys.length ys)) (HC : Aside0 (xs.length ≤ c1_)) (HC2 : Aside0 (ys.length ≤ c2_)) (CB : Aside0 (((ms.length < 1000000 ∧ gs.length < 1000000) ∧ 0 ≤ i ∧ i < 1000000 ∧ 0 ≤ j ∧ j < 1000000) ∧ xs.length < 1000000 ∧ ys.length < 1000000)) (hti0 : 0 ≤ i) (hti2 : i < 1000000) (htj0 : 0 ≤ j) (htj2 : j < 1000000) (X0 : Aside0 (HB8 89 w.heap.size w wc (w.heap.size + 1) ms gs true [(w.heap.size, #[.int .i64 T0, .int .i64 T1, .int .i64 T2, .int .i64 T3, .int .i64 L0, .int .i64 L1, .int .i64 L2, .int .i64 L3], 42)])) (cl : ¬ j < (ys.length : Int)) (HN : Aside0 (runE k xs ys k1 ⟨T0, T0, T2, T2, L0, L0, L2, L2, i, j + 1, !lf, ms ++ [⟨3, 0⟩], gs, true⟩ = some s)) (HK1 : Aside0 (k1 + 1 ≤ k)) :
    Code.wp Try.prog (tl44 23) (Exit.inBlock 1 (Exit.then K2 (Exit.inBlock 0 (Exit.then K3 (bodyPost Try.prog Try.f44 R))))) ⟨List.toArray (c0 :: .slice A1_ xs.length c1_ :: .slice A2_ ys.length c2_ :: .pointer (some ⟨w.heap.size, 0, none⟩) :: c4 :: c5 :: u6 :: .pointer (some ⟨w.heap.size + 1, 0, none⟩) :: .int .i64 i :: .int .i64 j :: .bool (!lf) :: u11 :: u12 :: u13 :: u14 :: .bool false :: u16 :: u17 :: c18 :: c19 :: u20 :: u21 :: u22 :: u23 :: u24 :: u25 :: u26 :: u27 :: u28 :: u29 :: u30 :: u31 :: u32 :: u33 :: u34 :: u35 :: u36 :: u37 :: u38 :: u39 :: u40 :: u41 :: u42 :: u43 :: u44 :: u45 :: u46 :: u47 :: u48 :: u49 :: u50 :: u51 :: u52 :: u53 :: u54 :: u55 :: u56 :: u57 :: u58 :: u59 :: u60 :: u61 :: u62 :: u63 :: u64 :: u65 :: u66 :: u67 :: u68 :: u69 :: u70 :: u71 :: u72 :: u73 :: u74 :: u75 :: u76 :: u77 :: u78 :: u79 :: u80 :: u81 :: u82 :: u83 :: u84 :: u85 :: u86 :: u87 :: u88 :: u89 :: u90 :: u91 :: u92 :: u93 :: u94 :: u95 :: u96 :: u97 :: u98 :: u99 :: u100 :: u101 :: u102 :: u103 :: u104 :: u105 :: u106 :: u107 :: u108 :: u109 :: u110 :: u111 :: u112 :: u113 :: u114 :: u115 :: u116 :: u117 :: u118 :: u119 :: u120 :: u121 :: u122 :: u123 :: u124 :: u125 :: u126 :: u127 :: u128 :: u129 :: u130 :: u131 :: u132 :: u133 :: u134 :: u135 :: u136 :: u137 :: u138 :: u139 :: u140 :: u141 :: u142 :: u143 :: u144 :: u145 :: u146 :: u147 :: u148 :: u149 :: u150 :: u151 :: u152 :: u153 :: u154 :: u155 :: u156 :: u157 :: u158 :: u159 :: u160 :: u161 :: u162 :: u163 :: u164 :: u165 :: u166 :: u167 :: u168 :: u169 :: u170 :: u171 :: u172 :: u173 :: u174 :: u175 :: u176 :: u177 :: u178 :: u179 :: u180 :: u181 :: u182 :: u183 :: u184 :: u185 :: u186 :: u187 :: u188 :: u189 :: u190 :: u191 :: u192 :: u193 :: u194 :: u195 :: u196 :: u197 :: u198 :: u199 :: u200 :: u201 :: u202 :: u203 :: u204 :: u205 :: u206 :: u207 :: u208 :: u209 :: u210 :: u211 :: u212 :: u213 :: c214 :: []), []⟩ wc := by
  have hu42 := Try.underlying42
  have hu38 := Try.underlying38
  conv => arg 2; whnf
  obtain ⟨⟨q0w0, q1w0, q2w0, q3w0, q4w0, q5w0, q6w0, q7w0⟩, z0w0, z1w0, z2w0, z3w0, z4w0, z5w0, z6w0, z7w0⟩ := cells8 X0.out.at0
  have f4 : decide (j < (ys.length : Int)) = false := decide_eq_false cl
  clear cl
  go_wp2_with (first | ((with_reducible refine gate_store (t := 42) (p := 3) rfl ?_); refine store_event (t := 42) (p := 3) (v := ?vo_w4_13) (w1 := (World.setCell (World.setCell (World.setCell (World.setCell (World.setCell (World.setCell (World.setCell (World.setCell wc ⟨w.heap.size, 0, none⟩ (.int .i64 T0)) ⟨w.heap.size, 1, none⟩ (.int .i64 T0)) ⟨w.heap.size, 2, none⟩ (.int .i64 T2)) ⟨w.heap.size, 3, none⟩ (.int .i64 T2)) ⟨w.heap.size, 4, none⟩ (.int .i64 L0)) ⟨w.heap.size, 5, none⟩ (.int .i64 L0)) ⟨w.heap.size, 6, none⟩ (.int .i64 L2)) ⟨w.heap.size, 7, none⟩ (.int .i64 L2))) ?hg ?ho ?hn ?hr ?_; (case ho => rfl); (case hg => rfl); (case hn => rfl); (case hr => first | (go_simp; done) | (go_simp; rfl)); intro w4 hw; have X4 := Aside0.mk (X0.out.put8_0 (by intro p hp; cases hp) hw); clear hw; obtain ⟨⟨q0w4, q1w4, q2w4, q3w4, q4w4, q5w4, q6w4, q7w4⟩, z0w4, z1w4, z2w4, z3w4, z4w4, z5w4, z6w4, z7w4⟩ := cells8 X4.out.at0; obtain ⟨mv, gv, hMw⟩ := Mw.start (by decide) X4.out.n X4.out.bel X4.out.sz; have M0 := Aside0.mk hMw; clear hMw; have m0v := M0.out.x0; have m1v := M0.out.x1) | ((with_reducible refine gate_builtin (b := .append) (xs := #[.tmp 205, .tmp 208]) rfl ?_); at_builtin; refine Kd.R_append k52 (w0 := w) w.heap.size rfl (.tmp 205) (.tmp 208) 33 52 (.agg #[(.int .i8 0), (.int .i64 0)]) 16 rfl Try.underlying33 info52_ rfl (by decide) (by omega) mv ms (⟨3, 0⟩ : S52) [.int .i8 3, .int .i64 0] (fun _ => True) (fun _ => False) rfl rfl ?aP (fun _ hk => hk.elim) ?aF ?aO ?aB ?aS ?aL ?_; (case aP => exact k52_mkM _ _ _ (⟨3, 0⟩ : S52)); (case aB => exact M0.out.bel); (case aF => exact (fun _ _ => trivial)); (case aO => exact M0.out.m); (case aS => exact M0.out.sz); (case aL => have := CB.out.1.1.1; omega); intro v_ u1 ho hb1 hg1 hat; obtain ⟨Au1, cu1, rfl⟩ := Kd.R_slice ho; have M1 := Aside0.mk (M0.out.appM ho hb1 hg1); clear ho hb1 hg1 hat M0; have x0u1 := M1.out.x0; have x1u1 := M1.out.x1; have x2u1 := M1.out.x2; have f0u1 := M1.out.fr 0; have f1u1 := M1.out.fr 1; have f2u1 := M1.out.fr 2) | ((with_reducible refine gate_store (t := 33) (p := 211) rfl ?_); refine store_event (t := 33) (p := 211) (v := ?vo_u2_14) (w1 := (u1.setCell ⟨w.heap.size + 1, 0, none⟩ (.slice Au1 (ms.length + 1) cu1))) ?hg ?ho ?hn ?hr ?_; (case ho => rfl); (case hg => rfl); (case hn => rfl); (case hr => first | (go_simp; done) | (go_simp; rfl)); intro u2 hw; have M2 := Aside0.mk (M1.out.set0 hw); clear hw M1; have x0u2 := M2.out.x0; have x1u2 := M2.out.x1; have x2u2 := M2.out.x2; have f0u2 := M2.out.fr 0; have f1u2 := M2.out.fr 1; have f2u2 := M2.out.fr 2; have XE := Aside0.mk (X4.out.note (M2.out.done' (by simp) (by simp) rfl).1 (M2.out.done' (by simp) (by simp) rfl).2.1 (M2.out.done' (by simp) (by simp) rfl).2.2); clear M2))
  go_roundg k1
  case measure => omega
  case rel => exact ⟨⟨T0, T0, T2, T2, L0, L0, L2, L2, i, j + 1, !lf, ms ++ [⟨3, 0⟩], gs, true⟩, rfl, rfl, rfl, HN, ⟨by have := HK1.out; omega⟩, XE⟩
set_option maxHeartbeats 32000000 in
set_option maxRecDepth 100000 in
theorem l04Eight_calls (k : Nat) (U0 U1 U2 U3 V0 V1 V2 V3 : Int) (xs ys : List Int) (A1_ A2_ : Option Addr) (c1_ c2_ : Nat) (s : ESt) (w : World) (hr : Kd.C (Kd.int .i64) w A1_ xs.length xs) (hc : xs.length ≤ c1_) (hr2 : Kd.C (Kd.int .i64) w A2_ ys.length ys) (hc2 : ys.length ≤ c2_) (hs : runE k xs ys k ⟨U0, U1, U2, U3, V0, V1, V2, V3, 0, 0, true, [], [], true⟩ = some s) :
    Calls Try.prog 44 #[.agg #[.int .i64 U0, .int .i64 U1, .int .i64 U2, .int .i64 U3, .int .i64 V0, .int .i64 V1, .int .i64 V2, .int .i64 V3], .slice A1_ xs.length c1_, .slice A2_ ys.length c2_] w fun e w' => ∃ gw, e = .returned (.pointer (some ⟨gw, 0, none⟩)) ∧ Mv 89 w.heap.size w' gw s.ms s.gs s.ov ∧ Below w.heap.size w w' := by
  have HR := Aside0.mk hr
  have HC := Aside0.mk hc
  have HR2 := Aside0.mk hr2
  have HC2 := Aside0.mk hc2
  have HS := Aside0.mk hs
  have hu42 := Try.underlying42
  have hu38 := Try.underlying38
  clear hr hc hr2 hc2 hs
  go_enter Try.func44, Try.ntmps44
  go_wp2
  go_loopg [8, 9, 10] k (fun kq v8 v9 v10 w' => ∃ s1 : ESt, v8 = .int .i64 s1.i ∧ v9 = .int .i64 s1.j ∧ v10 = .bool s1.lf ∧ Aside0 (runE k xs ys kq s1 = some s) ∧ Aside0 (kq ≤ k) ∧ Aside0 (HB8 89 w.heap.size w w' (w.heap.size + 1) s1.ms s1.gs s1.ov [(w.heap.size, #[.int .i64 s1.T0, .int .i64 s1.T1, .int .i64 s1.T2, .int .i64 s1.T3, .int .i64 s1.L0, .int .i64 s1.L1, .int .i64 s1.L2, .int .i64 s1.L3], 42)]))
  case atStart => exact ⟨⟨U0, U1, U2, U3, V0, V1, V2, V3, 0, 0, true, [], [], true⟩, rfl, rfl, rfl, HS, ⟨Nat.le_refl _⟩, ⟨HB_startS⟩⟩
  case round =>
    obtain ⟨⟨T0, T1, T2, T3, L0, L1, L2, L3, i, j, lf, ms, gs, ov⟩, rfl, rfl, rfl, HR1, HK1, X0⟩ := hrel
    simp only at X0
    rename_i J K2 hJ hK
    clear HS
    cases gk with
    | zero => exact absurd HR1.out (by simp [runE])
    | succ k1 =>
      have h := HR1.out
      rw [runE] at h
      simp only at h
      clear HR1
      cases ov with
      | false =>
        rw [if_neg (by decide)] at h
        obtain rfl := Option.some.inj h
        clear h
        have cw0 := X0.out.cw
        go_wp2
        go_ret
        exact ⟨_, rfl, X0.out.n, X0.out.bel⟩
      | true =>
        rw [if_pos rfl] at h
        by_cases cb : ((ms.length < 1000000 ∧ gs.length < 1000000) ∧ 0 ≤ i ∧ i < 1000000 ∧ 0 ≤ j ∧ j < 1000000) ∧ xs.length < 1000000 ∧ ys.length < 1000000
        rotate_left
        · rw [if_neg cb] at h
          cases h
        · rw [if_pos cb] at h
          have hti0 := cb.1.2.1
          have hti2 := cb.1.2.2.1
          have htj0 := cb.1.2.2.2.1
          have htj2 := cb.1.2.2.2.2
          have CB := Aside0.mk cb
          clear cb
          have cw0 := X0.out.cw
          obtain ⟨⟨q0w0, q1w0, q2w0, q3w0, q4w0, q5w0, q6w0, q7w0⟩, z0w0, z1w0, z2w0, z3w0, z4w0, z5w0, z6w0, z7w0⟩ := cells8 X0.out.at0
          obtain ⟨⟨r, s2⟩, hst, h⟩ := Option.bind_eq_some_iff.mp h
          unfold stepE corn at hst
          simp only at hst h
          by_cases ce : ((xs.length : Int) < i ∧ (ys.length : Int) < j) ∧ L0 = 0
          · rw [if_pos ce] at hst
            simp only [Option.some.injEq, Prod.mk.injEq] at hst
            obtain ⟨rfl, rfl⟩ := hst
            rw [if_neg (by decide)] at h
            obtain rfl := Option.some.inj h
            clear h
            have f1 : decide ((xs.length : Int) < i) = true := decide_eq_true ce.1.1
            have f2 : decide ((ys.length : Int) < j) = true := decide_eq_true ce.1.2
            have f3 : (L0 == 0) = true := beq_iff_eq.mpr ce.2
            clear ce
            go_wp2
            go_ret
            exact ⟨_, rfl, X0.out.n, X0.out.bel⟩
          · rw [if_neg ce] at hst
            obtain ⟨⟨q, yes⟩, hg, hst⟩ := Option.bind_eq_some_iff.mp hst
            simp only at hst
            have HG := Aside0.mk hg
            clear hg
            clear cw0 q0w0 q1w0 q2w0 q3w0 q4w0 q5w0 q6w0 q7w0 z0w0 z1w0 z2w0 z3w0 z4w0 z5w0 z6w0 z7w0
            have hce := Aside0.mk ce
            have hst' := Aside0.mk hst
            have h' := Aside0.mk h
            clear hst h ce
            refine E8_P1 HR HR2 HC HC2 CB hti0 hti2 htj0 htj2 X0 hce.out HG ⟨?_⟩
            intro _ _ _ _ _ _ _ _ _ _ _ _ _ _ _ _ _ _ _ _ _ _ _ _ _ _ _ _ _ _ _ _ _ _ _ _ _ _ _ _ _ _ _ _ _ _ _ _ _ _ _ _ _ _ _ _ _ _ _ _ _ _ _ _ _ _ _ _ _ _ _ _ _ _ _ _ _ _ _ _ _ _ _ _ _ _ _ _ _ _ _ _ _ _ _ _ _ _ _ _ _ _ _ _ _ _ _ _ _ _ _ _ _ _ _ _ _ _ _ _ _ _ _ _ _ _ _ _ _ _ _ _ _ _ _ _ _ _ _ _ _ _ _ _ _ _ _ _ _ _ _ _ _ _ _ _ _ _ _ _ _ _ _ _ _ _ _ _ _ _ _ _ _ _ _ _ _ _ _ _ _ _ _ _ _ _ _ _ _ _ _ _ _ _ _ _ _ _ _ _ wc X4
            have hst := hst'.out
            have h := h'.out
            by_cases cg : yes = true ∧ 0 < i ∧ 0 < j
            · rw [if_pos cg] at hst
              obtain ⟨rfl, hip, hjp⟩ := cg
              obtain ⟨⟨x0, o0⟩, e0, hst⟩ := Option.bind_eq_some_iff.mp hst
              obtain ⟨⟨x1, o1⟩, e1, hst⟩ := Option.bind_eq_some_iff.mp hst
              obtain ⟨⟨x2, o2⟩, e2, hst⟩ := Option.bind_eq_some_iff.mp hst
              obtain ⟨⟨x3, o3⟩, e3, hst⟩ := Option.bind_eq_some_iff.mp hst
              simp only [Option.some.injEq, Prod.mk.injEq] at hst
              obtain ⟨rfl, rfl⟩ := hst
              rw [if_pos rfl] at h
              have HN := Aside0.mk h
              have H0 := Aside0.mk e0
              have H1 := Aside0.mk e1
              have H2 := Aside0.mk e2
              have H3 := Aside0.mk e3
              clear h e0 e1 e2 e3
              exact E8_G hJ hK HR HR2 HC HC2 CB hti0 hti2 htj0 htj2 X4 hip hjp H0 H1 H2 H3 HN HK1
            · rw [if_neg cg] at hst
              refine E8_P2 HR HR2 HC HC2 CB hti0 hti2 htj0 htj2 X4 cg ⟨?_⟩
              intro _ _ _ _ _ _ _ _ _ _ _ _ _ _ _ _ _ _ _ _ _ _ _ _ _ _ _ _ _ _ _ _ _ _ _ _ _ _ _ _ _ _ _ _ _ _ _ _ _ _ _ _ _ _ _ _ _ _ _ _ _ _ _ _ _ _ _ _ _ _ _ _ _ _ _ _ _ _ _ _ _ _ _ _ _ _ _ _ _ _ _ _ _ _ _ _ _ _ _ _ _ _ _ _ _ _ _ _ _ _ _ _ _ _ _ _ _ _ _ _ _ _ _ _ _ _ _ _ _ _ _ _ _ _ _ _ _ _ _ _ _ _ _ _ _ _ _ _ _ _ _ _ _ _ _ _ _ _ _ _ _ _ _ _ _ _ _ _ _ _ _ _ _ _ _ _ _ _ _ _ _ _ _ _ _ _ _ _ _ _ _ _ _ _ _ _ _ _ _ _ _ wd X5
              by_cases cz : (xs.length : Int) < i ∧ (ys.length : Int) < j
              · rw [if_pos cz] at hst
                cases hst
              rw [if_neg cz] at hst
              by_cases ct : (lf = true ∨ (ys.length : Int) < j) ∧ ¬ (xs.length : Int) < i
              · rw [if_pos ct] at hst
                refine E8_P3 (turn := true) HR HR2 HC HC2 CB hti0 hti2 htj0 htj2 X5 (by
                  by_cases c2 : (ys.length : Int) < j
                  · rw [if_pos c2]
                  · rw [if_neg c2, if_neg ct.2]
                    exact (ct.1.elim id (fun z => absurd z c2)).symm) ⟨?_⟩
                intro _ _ _ _ _ _ _ _ _ _ _ _ _ _ _ _ _ _ _ _ _ _ _ _ _ _ _ _ _ _ _ _ _ _ _ _ _ _ _ _ _ _ _ _ _ _ _ _ _ _ _ _ _ _ _ _ _ _ _ _ _ _ _ _ _ _ _ _ _ _ _ _ _ _ _ _ _ _ _ _ _ _ _ _ _ _ _ _ _ _ _ _ _ _ _ _ _ _ _ _ _ _ _ _ _ _ _ _ _ _ _ _ _ _ _ _ _ _ _ _ _ _ _ _ _ _ _ _ _ _ _ _ _ _ _ _ _ _ _ _ _ _ _ _ _ _ _ _ _ _ _ _ _ _ _ _ _ _ _ _ _ _ _ _ _ _ _ _ _ _ _ _ _ _ _ _ _ _ _ _ _ _ _ _ _ _ _ _ _ _ _ _ _ _ _ _ _ _ _ _ _ we X6
                by_cases cl : i < (xs.length : Int)
                · rw [if_pos cl] at hst
                  obtain ⟨⟨x0, o0⟩, e0, hst⟩ := Option.bind_eq_some_iff.mp hst
                  obtain ⟨⟨x1, o1⟩, e1, hst⟩ := Option.bind_eq_some_iff.mp hst
                  obtain ⟨⟨x2, o2⟩, e2, hst⟩ := Option.bind_eq_some_iff.mp hst
                  obtain ⟨⟨x3, o3⟩, e3, hst⟩ := Option.bind_eq_some_iff.mp hst
                  simp only [Option.some.injEq, Prod.mk.injEq] at hst
                  obtain ⟨rfl, rfl⟩ := hst
                  rw [if_pos rfl] at h
                  have HN := Aside0.mk h
                  have H0 := Aside0.mk e0
                  have H1 := Aside0.mk e1
                  have H2 := Aside0.mk e2
                  have H3 := Aside0.mk e3
                  clear h e0 e1 e2 e3
                  exact E8_Lf hJ hK HR HR2 HC HC2 CB hti0 hti2 htj0 htj2 X6 cl H0 H1 H2 H3 HN HK1
                · rw [if_neg cl] at hst
                  simp only [Option.some.injEq, Prod.mk.injEq] at hst
                  obtain ⟨rfl, rfl⟩ := hst
                  rw [if_pos rfl] at h
                  exact E8_Li hJ hK HR HR2 HC HC2 CB hti0 hti2 htj0 htj2 X6 cl ⟨h⟩ HK1
              · rw [if_neg ct] at hst
                refine E8_P3 (turn := false) HR HR2 HC HC2 CB hti0 hti2 htj0 htj2 X5 (by
                  by_cases c1 : (xs.length : Int) < i
                  · rw [if_neg (fun z => cz ⟨c1, z⟩), if_pos c1]
                  · have c2 : ¬ (ys.length : Int) < j := fun z => ct ⟨Or.inr z, c1⟩
                    rw [if_neg c2, if_neg c1]
                    cases lf with
                    | false => rfl
                    | true => exact absurd ⟨Or.inl rfl, c1⟩ ct) ⟨?_⟩
                intro _ _ _ _ _ _ _ _ _ _ _ _ _ _ _ _ _ _ _ _ _ _ _ _ _ _ _ _ _ _ _ _ _ _ _ _ _ _ _ _ _ _ _ _ _ _ _ _ _ _ _ _ _ _ _ _ _ _ _ _ _ _ _ _ _ _ _ _ _ _ _ _ _ _ _ _ _ _ _ _ _ _ _ _ _ _ _ _ _ _ _ _ _ _ _ _ _ _ _ _ _ _ _ _ _ _ _ _ _ _ _ _ _ _ _ _ _ _ _ _ _ _ _ _ _ _ _ _ _ _ _ _ _ _ _ _ _ _ _ _ _ _ _ _ _ _ _ _ _ _ _ _ _ _ _ _ _ _ _ _ _ _ _ _ _ _ _ _ _ _ _ _ _ _ _ _ _ _ _ _ _ _ _ _ _ _ _ _ _ _ _ _ _ _ _ _ _ _ _ _ _ we X6
                by_cases cl : j < (ys.length : Int)
                · rw [if_pos cl] at hst
                  obtain ⟨⟨x0, o0⟩, e0, hst⟩ := Option.bind_eq_some_iff.mp hst
                  obtain ⟨⟨x1, o1⟩, e1, hst⟩ := Option.bind_eq_some_iff.mp hst
                  obtain ⟨⟨x2, o2⟩, e2, hst⟩ := Option.bind_eq_some_iff.mp hst
                  obtain ⟨⟨x3, o3⟩, e3, hst⟩ := Option.bind_eq_some_iff.mp hst
                  simp only [Option.some.injEq, Prod.mk.injEq] at hst
                  obtain ⟨rfl, rfl⟩ := hst
                  rw [if_pos rfl] at h
                  have HN := Aside0.mk h
                  have H0 := Aside0.mk e0
                  have H1 := Aside0.mk e1
                  have H2 := Aside0.mk e2
                  have H3 := Aside0.mk e3
                  clear h e0 e1 e2 e3
                  exact E8_Rf hJ hK HR HR2 HC HC2 CB hti0 hti2 htj0 htj2 X6 cl H0 H1 H2 H3 HN HK1
                · rw [if_neg cl] at hst
                  simp only [Option.some.injEq, Prod.mk.injEq] at hst
                  obtain ⟨rfl, rfl⟩ := hst
                  rw [if_pos rfl] at h
                  exact E8_Ri hJ hK HR HR2 HC HC2 CB hti0 hti2 htj0 htj2 X6 cl ⟨h⟩ HK1
theorem stepE_mono (xs ys : List Int) (s : ESt) (k : Nat) : LeO (stepE k xs ys s) (stepE (k + 1) xs ys s) := by
  unfold stepE
  exact LeO.ite (LeO.refl _) (LeO.bind (spec_l04Alike.mono _ _ _) (fun _ => LeO.refl _))
theorem runE_mono (xs ys : List Int) (k : Nat) : ∀ (n : Nat) (s : ESt), LeO (runE k xs ys n s) (runE (k + 1) xs ys (n + 1) s)
  | 0, s => by intro r h; simp [runE] at h
  | n + 1, s => by
    rw [runE]
    conv => rhs; rw [runE]
    refine LeO.ite (LeO.ite ?_ (LeO.none _)) (LeO.refl _)
    refine LeO.bind (stepE_mono xs ys s k) (fun r => ?_)
    exact LeO.ite (runE_mono xs ys k n r.2) (LeO.refl _)

def spec_EightTerms.f (k : Nat) (a0_0 a0_1 a0_2 a0_3 a0_4 a0_5 a0_6 a0_7 : Int) (l1 l2 : List Int) : Option (List Int × Int) :=
  (spec_l04EightGiven.f k a0_0 a0_1 a0_2 a0_3 a0_4 a0_5 a0_6 a0_7 l1 l2).bind fun g => if g = 0 then ((runE k l1 l2 k ⟨a0_0, a0_1, a0_2, a0_3, a0_4, a0_5, a0_6, a0_7, 0, 0, true, [], [], true⟩).bind fun s => (spec_l04Work_end.f k s.ms s.gs s.ov).bind fun c => some (if c = 0 then s.gs else [], c)) else some ([], g)
theorem spec_EightTerms.mono : ∀ a0 a1 a2 a3 a4 a5 a6 a7 a8 a9 k, LeO (spec_EightTerms.f k a0 a1 a2 a3 a4 a5 a6 a7 a8 a9) (spec_EightTerms.f (k + 1) a0 a1 a2 a3 a4 a5 a6 a7 a8 a9) := fun _ _ _ _ _ _ _ _ _ _ k =>
  LeO.bind (spec_l04EightGiven.mono _ _ _ _ _ _ _ _ _ _ _) (fun _ => LeO.ite (LeO.bind (runE_mono _ _ k k _) (fun s => LeO.bind (spec_l04Work_end.mono _ _ _ _) (fun _ => LeO.refl _))) (LeO.refl _))
set_option maxHeartbeats 8000000 in
set_option maxRecDepth 100000 in
theorem spec_EightTerms.calls (k : Nat) (a0_0 a0_1 a0_2 a0_3 a0_4 a0_5 a0_6 a0_7 : Int) (A1 : Option Addr) (c1 : Nat) (l1 : List Int) (A2 : Option Addr) (c2 : Nat) (l2 : List Int) (r1 : List Int) (r2 : Int) (w : World) (hr1 : Kd.C (Kd.int .i64) w A1 l1.length l1) (hc1 : l1.length ≤ c1) (hr2 : Kd.C (Kd.int .i64) w A2 l2.length l2) (hc2 : l2.length ≤ c2) (h : spec_EightTerms.f k a0_0 a0_1 a0_2 a0_3 a0_4 a0_5 a0_6 a0_7 l1 l2 = some (r1, r2)) :
    Calls Try.prog 21 #[.agg #[.int .i64 a0_0, .int .i64 a0_1, .int .i64 a0_2, .int .i64 a0_3, .int .i64 a0_4, .int .i64 a0_5, .int .i64 a0_6, .int .i64 a0_7], .slice A1 l1.length c1, .slice A2 l2.length c2] w fun e w' => ∃ v0_ : Value, e = .returned (.tuple #[v0_, .int .i64 r2]) ∧ Kd.R (Kd.int .i64) 2 w' w.heap.size (fun _ => True) v0_ r1 ∧ Below w.heap.size w w' := by
  obtain ⟨g, hg, H⟩ := Option.bind_eq_some_iff.mp h
  have HGv := Aside0.mk hg
  have HR := Aside0.mk hr1
  have HC := Aside0.mk hc1
  have HR2 := Aside0.mk hr2
  have HC2 := Aside0.mk hc2
  have hu42 := Try.underlying42
  have hu38 := Try.underlying38
  clear h hg hr1 hc1 hr2 hc2
  by_cases g0 : g = 0
  · subst g0
    rw [if_pos rfl] at H
    obtain ⟨s, hs, H⟩ := Option.bind_eq_some_iff.mp H
    obtain ⟨c, hc, H⟩ := Option.bind_eq_some_iff.mp H
    simp only [Option.some.injEq, Prod.mk.injEq] at H
    obtain ⟨hq, rfl⟩ := H
    have HQ := Aside0.mk hq
    have HS := Aside0.mk hs
    have HE := Aside0.mk hc
    clear hs hc hq
    go_enter Try.func21, Try.ntmps21
    go_wp2_with (first | (go_at_call 43; (with_reducible refine (spec_l04EightGiven.calls k w.heap.size 0 a0_0 a0_1 a0_2 a0_3 a0_4 a0_5 a0_6 a0_7 A1 c1 l1 A2 c2 l2 0 _ ?s1 ?s2 ?s1b ?s2b ?s3 HGv.out).mono ?_); (case s1 => exact Kd.C_alloc HR.out _); (case s2 => exact HC.out); (case s1b => exact Kd.C_alloc HR2.out _); (case s2b => exact HC2.out); (case s3 => exact ⟨(blk_cell (heap_alloc_new w _) 0).trans rfl, (blk_cell (heap_alloc_new w _) 1).trans rfl, (blk_cell (heap_alloc_new w _) 2).trans rfl, (blk_cell (heap_alloc_new w _) 3).trans rfl, (blk_cell (heap_alloc_new w _) 4).trans rfl, (blk_cell (heap_alloc_new w _) 5).trans rfl, (blk_cell (heap_alloc_new w _) 6).trans rfl, (blk_cell (heap_alloc_new w _) 7).trans rfl⟩); rintro e w' ⟨rfl, ⟨nd, rfl⟩⟩) | (go_at_call 44; (with_reducible refine (l04Eight_calls k a0_0 a0_1 a0_2 a0_3 a0_4 a0_5 a0_6 a0_7 l1 l2 A1 A2 c1 c2 s _ ?t1 ?t2 ?t1b ?t2b HS.out).mono ?_); (case t1 => exact Kd.C_drewN (Kd.C_alloc HR.out _) _); (case t2 => exact HC.out); (case t1b => exact Kd.C_drewN (Kd.C_alloc HR2.out _) _); (case t2b => exact HC2.out); rintro e w1 ⟨gw, rfl, hM, hb⟩; have HM := Aside0.mk hM; have HB := Aside0.mk hb; clear hM hb) | (go_at_call 39; (with_reducible refine (answer_calls k _ gw s.ms s.gs s.ov c _ HM.out HB.out.size HE.out).mono ?_); rintro e w2 ⟨v0, v1, rfl, h0, h1, hb2⟩; rw [HQ.out] at h1; obtain ⟨A3, c3, rfl⟩ := Kd.R_slice h1; have HO := Aside0.mk h1; have HB2 := Aside0.mk hb2; clear h0 h1 hb2))
    go_ret2
    exact ⟨_, rfl, Kd.R_lower HO.out (by simp), below_step (below_step (pw_below_drewN (below_alloc (Below.refl _ _) _) _) HB.out) HB2.out⟩
  · rw [if_neg g0] at H
    simp only [Option.some.injEq, Prod.mk.injEq] at H
    obtain ⟨rfl, rfl⟩ := H
    have hg0 : (g == 0) = false := beq_eq_false_iff_ne.mpr g0
    have hg2 : (g != 0) = true := bne_iff_ne.mpr g0
    clear g0
    go_enter Try.func21, Try.ntmps21
    go_wp2_with (first | (go_at_call 43; (with_reducible refine (spec_l04EightGiven.calls k w.heap.size 0 a0_0 a0_1 a0_2 a0_3 a0_4 a0_5 a0_6 a0_7 A1 c1 l1 A2 c2 l2 g _ ?u1 ?u2 ?u1b ?u2b ?u3 HGv.out).mono ?_); (case u1 => exact Kd.C_alloc HR.out _); (case u2 => exact HC.out); (case u1b => exact Kd.C_alloc HR2.out _); (case u2b => exact HC2.out); (case u3 => exact ⟨(blk_cell (heap_alloc_new w _) 0).trans rfl, (blk_cell (heap_alloc_new w _) 1).trans rfl, (blk_cell (heap_alloc_new w _) 2).trans rfl, (blk_cell (heap_alloc_new w _) 3).trans rfl, (blk_cell (heap_alloc_new w _) 4).trans rfl, (blk_cell (heap_alloc_new w _) 5).trans rfl, (blk_cell (heap_alloc_new w _) 6).trans rfl, (blk_cell (heap_alloc_new w _) 7).trans rfl⟩); rintro e w' ⟨rfl, ⟨nd, rfl⟩⟩) | ((with_reducible refine gate_dst (N := 17) rfl ?_); refine Kd.R_lit (w0 := w) (Kd.int .i64) w.heap.size 2 ?hg2 (N := 17) ?hd2 (xs := ([] : List Int)) (inner := []) (ok := fun _ => True) (okp := fun _ => True) ?hr2 ?hp2 (fun _ hk => hk) trivial ?hb2 ?hs2 (by simp) ?_; (case hd2 => rfl); (case hg2 => rfl); (case hr2 => first | (go_simp; done) | (go_simp; rfl)); (case hp2 => exact (Reps.none _ _)); (case hb2 => exact pw_below_drewN (below_alloc (Below.refl _ _) _) _); (case hs2 => simp); intro v2 w2 ho hb hg_ hnew_; have HO2 := Aside0.mk ho; have HB2 := Aside0.mk hb; clear ho hb hg_ hnew_))
    go_ret2
    exact ⟨_, rfl, HO2.out, HB2.out⟩

/-! ### laws_toInt64A4: function 45 -/
def laws_toInt64A4.l0 : Nat → Int → Int → Int → Int → Int → Int → Int → Int → Int → Option (Int × Int × Int × Int)
  | 0, _, _, _, _, _, _, _, _, _ => none
  | k + 1, x4, x139000, x139001, x139002, x139003, x141000, x141001, x141002, x141003 => if x4 < 4 then (if 0 ≤ x4 then (laws_toInt64A4.l0 k (wrap64 (x4 + 1)) x139000 x139001 x139002 x139003 (aput 0 x4 (rd [x139000, x139001, x139002, x139003] x4) x141000) (aput 1 x4 (rd [x139000, x139001, x139002, x139003] x4) x141001) (aput 2 x4 (rd [x139000, x139001, x139002, x139003] x4) x141002) (aput 3 x4 (rd [x139000, x139001, x139002, x139003] x4) x141003)) else (none)) else (some (x141000, x141001, x141002, x141003))
def laws_toInt64A4.f (k : Nat) (a0_0 : Int) (a0_1 : Int) (a0_2 : Int) (a0_3 : Int) : Option (Int × Int × Int × Int) := laws_toInt64A4.l0 k 0 a0_0 a0_1 a0_2 a0_3 0 0 0 0
theorem laws_toInt64A4.mono_l : ∀ k, (∀ y0 y1 y2 y3 y4 y5 y6 y7 y8, LeO (laws_toInt64A4.l0 k y0 y1 y2 y3 y4 y5 y6 y7 y8) (laws_toInt64A4.l0 (k + 1) y0 y1 y2 y3 y4 y5 y6 y7 y8))
  | 0 => fun _ _ _ _ _ _ _ _ _ r h => by simp [laws_toInt64A4.l0] at h
  | k + 1 => by
    have ih0 := laws_toInt64A4.mono_l k
    · intro y0 y1 y2 y3 y4 y5 y6 y7 y8
      unfold laws_toInt64A4.l0
      repeat' first
      | (with_reducible exact ih0 _ _ _ _ _ _ _ _ _)
      | (with_reducible exact LeO.refl _)
      | (with_reducible exact LeO.none _)
      | (with_reducible refine LeO.ite ?_ ?_)
      | (with_reducible refine LeO.bind ?_ (fun _ => ?_))
      | exact ih0 _ _ _ _ _ _ _ _ _
      | exact LeO.none _
      | refine LeO.ite ?_ ?_
      | refine LeO.bind ?_ (fun _ => ?_)
theorem laws_toInt64A4.mono : ∀ a0 a1 a2 a3 k, LeO (laws_toInt64A4.f k a0 a1 a2 a3) (laws_toInt64A4.f (k + 1) a0 a1 a2 a3) := by
  intro a0 a1 a2 a3 k
  have ih0 := laws_toInt64A4.mono_l k
  unfold laws_toInt64A4.f
  repeat' first
      | (with_reducible exact ih0 _ _ _ _ _ _ _ _ _)
      | (with_reducible exact LeO.refl _)
      | (with_reducible exact LeO.none _)
      | (with_reducible refine LeO.ite ?_ ?_)
      | (with_reducible refine LeO.bind ?_ (fun _ => ?_))
      | exact ih0 _ _ _ _ _ _ _ _ _
      | exact LeO.none _
      | refine LeO.ite ?_ ?_
      | refine LeO.bind ?_ (fun _ => ?_)
set_option maxHeartbeats 8000000 in
set_option maxRecDepth 100000 in
theorem laws_toInt64A4.calls (k : Nat) (a0_0 : Int) (a0_1 : Int) (a0_2 : Int) (a0_3 : Int) (r1 : Int) (r2 : Int) (r3 : Int) (r4 : Int) (w : World) (h : laws_toInt64A4.f k a0_0 a0_1 a0_2 a0_3 = some (r1, r2, r3, r4)) :
    Calls Try.prog 45 #[.agg #[.int .i64 a0_0, .int .i64 a0_1, .int .i64 a0_2, .int .i64 a0_3]] w fun e w' => e = .returned (.agg #[.int .i64 r1, .int .i64 r2, .int .i64 r3, .int .i64 r4]) ∧ Below w.heap.size w w' := by
  have hu38 := Try.underlying38
  have HB := Aside0.mk (Below.refl w.heap.size w)
  have H : (laws_toInt64A4.l0 k 0 a0_0 a0_1 a0_2 a0_3 0 0 0 0) = some (r1, r2, r3, r4) := h
  clear h
  have H' := Aside0.mk H
  clear H
  go_enter Try.func45, Try.ntmps45
  go_wp2_with (first | ((with_reducible refine gate_dst (N := 1) rfl ?_); refine box_event ?hg (N := 1) ?hd (cs := #[.int .i64 a0_0, .int .i64 a0_1, .int .i64 a0_2, .int .i64 a0_3]) (t := 38) ?hr ?_; (case hd => rfl); (case hg => rfl); (case hr => first | (go_simp; done) | (go_simp; rfl)); intro gb138 hg w2 hbox hb; have n0_ := Aside0.mk (below_step (by repeat (first | (with_reducible first | exact HB.out | apply below_alloc | apply pw_below_drewN | apply below_drew1) | exact HB.out)) hb); have n1_ := Aside0.mk (hbox); have n2_ := Aside0.mk ((by rw [hg]; exact (below_size (by repeat (first | (with_reducible first | exact HB.out | apply below_alloc | apply pw_below_drewN | apply below_drew1) | exact HB.out))) : w.heap.size ≤ gb138)); have n3_ := Aside0.mk ((by rw [hg]; exact (below_size (by repeat (first | (with_reducible first | exact HB.out | apply below_alloc | apply pw_below_drewN | apply below_drew1) | exact HB.out))) : w.heap.size ≤ gb138)); clear HB; have HB := n0_; have BK138 := n1_; have GW138 := n2_; have GE138 := n3_; clear n0_ n1_ n2_ n3_; clear hb hbox hg) | ((with_reducible refine gate_dst (N := 2) rfl ?_); refine box_event ?hg (N := 2) ?hd (cs := #[.int .i64 0, .int .i64 0, .int .i64 0, .int .i64 0]) (t := 38) ?hr ?_; (case hd => rfl); (case hg => rfl); (case hr => first | (go_simp; done) | (go_simp; rfl)); intro gb139 hg w3 hbox hb; have n0_ := Aside0.mk (blk_below (g := gb138) (o := .cells #[.int .i64 a0_0, .int .i64 a0_1, .int .i64 a0_2, .int .i64 a0_3] 38 (0, 0)) (by (with_reducible repeat (first | refine blk_drewN ?_ _ | refine blk_drew ?_ | refine blk_alloc ?_ _)); exact BK138.out) hb); have n1_ := Aside0.mk (below_step (by repeat (first | (with_reducible first | exact HB.out | apply below_alloc | apply pw_below_drewN | apply below_drew1 | refine below_set ?_ GE138.out) | exact HB.out)) hb); have n2_ := Aside0.mk (hbox); have n3_ := Aside0.mk ((by rw [hg]; exact (below_size (by repeat (first | (with_reducible first | exact HB.out | apply below_alloc | apply pw_below_drewN | apply below_drew1 | refine below_set ?_ GE138.out) | exact HB.out))) : w.heap.size ≤ gb139)); have n4_ := Aside0.mk ((by rw [hg]; exact (below_size (by repeat (first | (with_reducible first | exact HB.out | apply below_alloc | apply pw_below_drewN | apply below_drew1 | refine below_set ?_ GE138.out) | exact HB.out))) : w.heap.size ≤ gb139)); have n5_ := Aside0.mk ((by rw [hg]; exact Nat.ne_of_lt (blk_lt (g := gb138) (o := .cells #[.int .i64 a0_0, .int .i64 a0_1, .int .i64 a0_2, .int .i64 a0_3] 38 (0, 0)) (by (with_reducible repeat (first | refine blk_drewN ?_ _ | refine blk_drew ?_ | refine blk_alloc ?_ _)); exact BK138.out)) : gb138 ≠ gb139)); have n6_ := Aside0.mk ((by rw [hg]; exact Nat.ne_of_gt (blk_lt (g := gb138) (o := .cells #[.int .i64 a0_0, .int .i64 a0_1, .int .i64 a0_2, .int .i64 a0_3] 38 (0, 0)) (by (with_reducible repeat (first | refine blk_drewN ?_ _ | refine blk_drew ?_ | refine blk_alloc ?_ _)); exact BK138.out)) : gb139 ≠ gb138)); clear BK138; clear HB; have BK138 := n0_; have HB := n1_; have BK139 := n2_; have GW139 := n3_; have GE139 := n4_; have NB138_139 := n5_; have NB139_138 := n6_; clear n0_ n1_ n2_ n3_ n4_ n5_ n6_; clear hb hbox hg) | ((with_reducible refine gate_dst (N := 3) rfl ?_); refine box_event ?hg (N := 3) ?hd (cs := #[.int .i64 0, .int .i64 0, .int .i64 0, .int .i64 0]) (t := 38) ?hr ?_; (case hd => rfl); (case hg => rfl); (case hr => first | (go_simp; done) | (go_simp; rfl)); intro gb140 hg w4 hbox hb; have n0_ := Aside0.mk (blk_below (g := gb138) (o := .cells #[.int .i64 a0_0, .int .i64 a0_1, .int .i64 a0_2, .int .i64 a0_3] 38 (0, 0)) (by (with_reducible repeat (first | refine blk_drewN ?_ _ | refine blk_drew ?_ | refine blk_alloc ?_ _)); exact BK138.out) hb); have n1_ := Aside0.mk (blk_below (g := gb139) (o := .cells #[.int .i64 0, .int .i64 0, .int .i64 0, .int .i64 0] 38 (0, 0)) (by (with_reducible repeat (first | refine blk_drewN ?_ _ | refine blk_drew ?_ | refine blk_alloc ?_ _)); exact BK139.out) hb); have n2_ := Aside0.mk (below_step (by repeat (first | (with_reducible first | exact HB.out | apply below_alloc | apply pw_below_drewN | apply below_drew1 | refine below_set ?_ GE138.out | refine below_set ?_ GE139.out) | exact HB.out)) hb); have n3_ := Aside0.mk (hbox); have n4_ := Aside0.mk ((by rw [hg]; exact (below_size (by repeat (first | (with_reducible first | exact HB.out | apply below_alloc | apply pw_below_drewN | apply below_drew1 | refine below_set ?_ GE138.out | refine below_set ?_ GE139.out) | exact HB.out))) : w.heap.size ≤ gb140)); have n5_ := Aside0.mk ((by rw [hg]; exact (below_size (by repeat (first | (with_reducible first | exact HB.out | apply below_alloc | apply pw_below_drewN | apply below_drew1 | refine below_set ?_ GE138.out | refine below_set ?_ GE139.out) | exact HB.out))) : w.heap.size ≤ gb140)); have n6_ := Aside0.mk ((by rw [hg]; exact Nat.ne_of_lt (blk_lt (g := gb138) (o := .cells #[.int .i64 a0_0, .int .i64 a0_1, .int .i64 a0_2, .int .i64 a0_3] 38 (0, 0)) (by (with_reducible repeat (first | refine blk_drewN ?_ _ | refine blk_drew ?_ | refine blk_alloc ?_ _)); exact BK138.out)) : gb138 ≠ gb140)); have n7_ := Aside0.mk ((by rw [hg]; exact Nat.ne_of_gt (blk_lt (g := gb138) (o := .cells #[.int .i64 a0_0, .int .i64 a0_1, .int .i64 a0_2, .int .i64 a0_3] 38 (0, 0)) (by (with_reducible repeat (first | refine blk_drewN ?_ _ | refine blk_drew ?_ | refine blk_alloc ?_ _)); exact BK138.out)) : gb140 ≠ gb138)); have n8_ := Aside0.mk ((by rw [hg]; exact Nat.ne_of_lt (blk_lt (g := gb139) (o := .cells #[.int .i64 0, .int .i64 0, .int .i64 0, .int .i64 0] 38 (0, 0)) (by (with_reducible repeat (first | refine blk_drewN ?_ _ | refine blk_drew ?_ | refine blk_alloc ?_ _)); exact BK139.out)) : gb139 ≠ gb140)); have n9_ := Aside0.mk ((by rw [hg]; exact Nat.ne_of_gt (blk_lt (g := gb139) (o := .cells #[.int .i64 0, .int .i64 0, .int .i64 0, .int .i64 0] 38 (0, 0)) (by (with_reducible repeat (first | refine blk_drewN ?_ _ | refine blk_drew ?_ | refine blk_alloc ?_ _)); exact BK139.out)) : gb140 ≠ gb139)); clear BK138; clear BK139; clear HB; have BK138 := n0_; have BK139 := n1_; have HB := n2_; have BK140 := n3_; have GW140 := n4_; have GE140 := n5_; have NB138_140 := n6_; have NB140_138 := n7_; have NB139_140 := n8_; have NB140_139 := n9_; clear n0_ n1_ n2_ n3_ n4_ n5_ n6_ n7_ n8_ n9_; clear hb hbox hg))
  go_loopg [4] k (fun kq v4 w' => ∃ (x4_1 : Int) (x141000_1 : Int) (x141001_1 : Int) (x141002_1 : Int) (x141003_1 : Int), v4 = .int .i64 x4_1 ∧ Aside0 (laws_toInt64A4.l0 kq x4_1 a0_0 a0_1 a0_2 a0_3 x141000_1 x141001_1 x141002_1 x141003_1 = some (r1, r2, r3, r4)) ∧ Aside0 (kq ≤ k) ∧ Aside0 (w'.heap[gb138]? = some (.cells #[.int .i64 a0_0, .int .i64 a0_1, .int .i64 a0_2, .int .i64 a0_3] 38 (0, 0))) ∧ Aside0 (w'.heap[gb139]? = some (.cells #[.int .i64 0, .int .i64 0, .int .i64 0, .int .i64 0] 38 (0, 0))) ∧ Aside0 (w'.heap[gb140]? = some (.cells #[.int .i64 x141000_1, .int .i64 x141001_1, .int .i64 x141002_1, .int .i64 x141003_1] 38 (0, 0))) ∧ Aside0 (Below w.heap.size w w'))
  case atStart => exact ⟨(0), (0), (0), (0), (0), (by first | rfl | (simp; done) | (simp [*]; done)), H', ⟨Nat.le_refl _⟩, ⟨by (with_reducible repeat (first | refine blk_drewN ?_ _ | refine blk_drew ?_ | refine blk_alloc ?_ _)); exact BK138.out⟩, ⟨by (with_reducible repeat (first | refine blk_drewN ?_ _ | refine blk_drew ?_ | refine blk_alloc ?_ _)); exact BK139.out⟩, ⟨by (with_reducible repeat (first | refine blk_drewN ?_ _ | refine blk_drew ?_ | refine blk_alloc ?_ _)); exact BK140.out⟩, ⟨by repeat (first | (with_reducible first | exact HB.out | apply below_alloc | apply pw_below_drewN | apply below_drew1 | refine below_set ?_ GE138.out | refine below_set ?_ GE139.out | refine below_set ?_ GE140.out) | exact HB.out)⟩⟩
  case round =>
    clear H'
    try clear p2
    try clear c4
    obtain ⟨x4_1, x141000_1, x141001_1, x141002_1, x141003_1, rfl, HA, HK1, BK138, BK139, BK140, HB⟩ := hrel
    cases gk with
    | zero => exact absurd HA.out (by simp [laws_toInt64A4.l0])
    | succ k1 =>
      have H := HA.out
      clear HA
      simp only [laws_toInt64A4.l0] at H
      by_cases c5 : x4_1 < 4
      · rw [if_pos c5] at H
        have c5b0 : decide (x4_1 < 4) = true := decide_eq_true c5
        clear c5
        by_cases c6 : 0 ≤ x4_1
        · rw [if_pos c6] at H
          have c6b0 : decide (0 ≤ x4_1) = true := decide_eq_true c6
          clear c6
          have H' := Aside0.mk H
          clear H
          have hnb7 := NB138_139.out
          have hnc7 := NB139_138.out
          have hnb8 := NB138_140.out
          have hnc8 := NB140_138.out
          have hcz9_0 : wr.cell? ⟨gb138, 0, none⟩ = some (.int .i64 a0_0) := (blk_cell BK138.out 0).trans rfl
          have hcz9_1 : wr.cell? ⟨gb138, 1, none⟩ = some (.int .i64 a0_1) := (blk_cell BK138.out 1).trans rfl
          have hcz9_2 : wr.cell? ⟨gb138, 2, none⟩ = some (.int .i64 a0_2) := (blk_cell BK138.out 2).trans rfl
          have hcz9_3 : wr.cell? ⟨gb138, 3, none⟩ = some (.int .i64 a0_3) := (blk_cell BK138.out 3).trans rfl
          have hfz9_0 := blk_frozen BK138.out 0
          have hfz9_1 := blk_frozen BK138.out 1
          have hfz9_2 := blk_frozen BK138.out 2
          have hfz9_3 := blk_frozen BK138.out 3
          have HP141 := Aside0.mk (show 0 ≤ (x4_1 : Int) ∧ (x4_1 : Int) < 4 from ⟨of_decide_eq_true (by first | (with_reducible assumption) | assumption), of_decide_eq_true (by first | (with_reducible assumption) | assumption)⟩)
          have hx141_0 : wr.cell? ⟨gb138, (x4_1 : Int).toNat, none⟩ = some (.int .i64 (rd [a0_0, a0_1, a0_2, a0_3] x4_1)) := (by (rcases (show x4_1 = 0 ∨ x4_1 = 1 ∨ x4_1 = 2 ∨ x4_1 = 3 from (by have h_ := HP141.out; omega)) with rfl | rfl | rfl | rfl <;> first | exact (blk_cell BK138.out 0).trans rfl | exact (blk_cell BK138.out 1).trans rfl | exact (blk_cell BK138.out 2).trans rfl | exact (blk_cell BK138.out 3).trans rfl))
          have hx141_1 : wr.cell? ((⟨gb138, 0, none⟩ : Addr).add (x4_1 : Int).toNat) = some (.int .i64 (rd [a0_0, a0_1, a0_2, a0_3] x4_1)) := (congrArg _ (add_plain _ _)).trans hx141_0
          have hpz141 := eq_true HP141.out.1
          have hpy141 := eq_true HP141.out.2
          have hnb10 := NB140_139.out
          have hnc10 := NB139_140.out
          have hcz11_0 : wr.cell? ⟨gb140, 0, none⟩ = some (.int .i64 x141000_1) := (blk_cell BK140.out 0).trans rfl
          have hcz11_1 : wr.cell? ⟨gb140, 1, none⟩ = some (.int .i64 x141001_1) := (blk_cell BK140.out 1).trans rfl
          have hcz11_2 : wr.cell? ⟨gb140, 2, none⟩ = some (.int .i64 x141002_1) := (blk_cell BK140.out 2).trans rfl
          have hcz11_3 : wr.cell? ⟨gb140, 3, none⟩ = some (.int .i64 x141003_1) := (blk_cell BK140.out 3).trans rfl
          have hfz11_0 := blk_frozen BK140.out 0
          have hfz11_1 := blk_frozen BK140.out 1
          have hfz11_2 := blk_frozen BK140.out 2
          have hfz11_3 := blk_frozen BK140.out 3
          have HP142 := Aside0.mk (show 0 ≤ (x4_1 : Int) ∧ (x4_1 : Int) < 4 from ⟨of_decide_eq_true (by first | (with_reducible assumption) | assumption), of_decide_eq_true (by first | (with_reducible assumption) | assumption)⟩)
          have hx142_0 : wr.cell? ⟨gb140, (x4_1 : Int).toNat, none⟩ = some (.int .i64 (rd [x141000_1, x141001_1, x141002_1, x141003_1] x4_1)) := (by (rcases (show x4_1 = 0 ∨ x4_1 = 1 ∨ x4_1 = 2 ∨ x4_1 = 3 from (by have h_ := HP142.out; omega)) with rfl | rfl | rfl | rfl <;> first | exact (blk_cell BK140.out 0).trans rfl | exact (blk_cell BK140.out 1).trans rfl | exact (blk_cell BK140.out 2).trans rfl | exact (blk_cell BK140.out 3).trans rfl))
          have hx142_1 : wr.cell? ((⟨gb140, 0, none⟩ : Addr).add (x4_1 : Int).toNat) = some (.int .i64 (rd [x141000_1, x141001_1, x141002_1, x141003_1] x4_1)) := (congrArg _ (add_plain _ _)).trans hx142_0
          have hf142_0 := blk_frozen BK140.out ((x4_1 : Int).toNat)
          have hpz142 := eq_true HP142.out.1
          have hpy142 := eq_true HP142.out.2
          go_wp2_with (first | ((with_reducible refine gate_store (t := 2) (p := 13) rfl ?_); refine store_event (t := 2) (p := 13) (v := ?vo_w12) (w1 := (wr.setCell ⟨gb140, (x4_1 : Int).toNat, none⟩ (.int .i64 (rd [a0_0, a0_1, a0_2, a0_3] x4_1)))) ?hg ?ho ?hn ?hr ?_; (case ho => rfl); (case hg => rfl); (case hn => rfl); (case hr => first | (go_simp; done) | (go_simp; rfl)); intro w12 hw; have n0_ : Aside0 (w12.heap[gb138]? = some (.cells #[.int .i64 a0_0, .int .i64 a0_1, .int .i64 a0_2, .int .i64 a0_3] 38 (0, 0))) := ⟨(by rw [hw]; exact (by (with_reducible repeat (first | refine blk_drewN ?_ _ | refine blk_drew ?_ | refine blk_alloc ?_ _)); refine blk_far ?_ NB138_140.out _; (with_reducible repeat (first | refine blk_drewN ?_ _ | refine blk_drew ?_ | refine blk_alloc ?_ _)); exact BK138.out))⟩; have n1_ : Aside0 (w12.heap[gb139]? = some (.cells #[.int .i64 0, .int .i64 0, .int .i64 0, .int .i64 0] 38 (0, 0))) := ⟨(by rw [hw]; exact (by (with_reducible repeat (first | refine blk_drewN ?_ _ | refine blk_drew ?_ | refine blk_alloc ?_ _)); refine blk_far ?_ NB139_140.out _; (with_reducible repeat (first | refine blk_drewN ?_ _ | refine blk_drew ?_ | refine blk_alloc ?_ _)); exact BK139.out))⟩; have n2_ : Aside0 (w12.heap[gb140]? = some (.cells #[.int .i64 (aput 0 x4_1 (rd [a0_0, a0_1, a0_2, a0_3] x4_1) x141000_1), .int .i64 (aput 1 x4_1 (rd [a0_0, a0_1, a0_2, a0_3] x4_1) x141001_1), .int .i64 (aput 2 x4_1 (rd [a0_0, a0_1, a0_2, a0_3] x4_1) x141002_1), .int .i64 (aput 3 x4_1 (rd [a0_0, a0_1, a0_2, a0_3] x4_1) x141003_1)] 38 (0, 0))) := ⟨(by rw [hw]; exact (by (with_reducible repeat (first | refine blk_drewN ?_ _ | refine blk_drew ?_ | refine blk_alloc ?_ _)); refine blk_put (cs := #[.int .i64 x141000_1, .int .i64 x141001_1, .int .i64 x141002_1, .int .i64 x141003_1]) ?_ ((x4_1 : Int).toNat) _ (by rcases (show x4_1 = 0 ∨ x4_1 = 1 ∨ x4_1 = 2 ∨ x4_1 = 3 from (by have h_ := HP142.out; omega)) with rfl | rfl | rfl | rfl <;> rfl); (with_reducible repeat (first | refine blk_drewN ?_ _ | refine blk_drew ?_ | refine blk_alloc ?_ _)); exact BK140.out))⟩; have n3_ : Aside0 (Below w.heap.size w w12) := ⟨(by rw [hw]; exact (by repeat (first | (with_reducible first | exact HB.out | apply below_alloc | apply pw_below_drewN | apply below_drew1 | refine below_set ?_ GE138.out | refine below_set ?_ GE139.out | refine below_set ?_ GE140.out) | exact HB.out)))⟩; clear hw; clear BK138; clear BK139; clear BK140; clear HB; have BK138 := n0_; have BK139 := n1_; have BK140 := n2_; have HB := n3_; clear n0_ n1_ n2_ n3_))
          go_roundg k1
          case measure => have := HK1.out; omega
          case rel => exact ⟨(wrap64 (x4_1 + 1)), ((aput 0 x4_1 (rd [a0_0, a0_1, a0_2, a0_3] x4_1) x141000_1)), ((aput 1 x4_1 (rd [a0_0, a0_1, a0_2, a0_3] x4_1) x141001_1)), ((aput 2 x4_1 (rd [a0_0, a0_1, a0_2, a0_3] x4_1) x141002_1)), ((aput 3 x4_1 (rd [a0_0, a0_1, a0_2, a0_3] x4_1) x141003_1)), (by first | rfl | (simp; done) | (simp [*]; done)), H', ⟨by have := HK1.out; omega⟩, ⟨by (with_reducible repeat (first | refine blk_drewN ?_ _ | refine blk_drew ?_ | refine blk_alloc ?_ _)); exact BK138.out⟩, ⟨by (with_reducible repeat (first | refine blk_drewN ?_ _ | refine blk_drew ?_ | refine blk_alloc ?_ _)); exact BK139.out⟩, ⟨by (with_reducible repeat (first | refine blk_drewN ?_ _ | refine blk_drew ?_ | refine blk_alloc ?_ _)); exact BK140.out⟩, ⟨by repeat (first | (with_reducible first | exact HB.out | apply below_alloc | apply pw_below_drewN | apply below_drew1 | refine below_set ?_ GE138.out | refine below_set ?_ GE139.out | refine below_set ?_ GE140.out) | exact HB.out)⟩⟩
        · rw [if_neg c6] at H
          exact absurd H (by simp)
      · rw [if_neg c5] at H
        have c5b0 : decide (x4_1 < 4) = false := decide_eq_false c5
        clear c5
        simp only [Option.some.injEq, Prod.mk.injEq] at H
        obtain ⟨rfl, rfl, rfl, rfl⟩ := H
        have hnb13 := NB140_138.out
        have hnc13 := NB138_140.out
        have hnb14 := NB140_139.out
        have hnc14 := NB139_140.out
        have hcz15_0 : wr.cell? ⟨gb140, 0, none⟩ = some (.int .i64 x141000_1) := (blk_cell BK140.out 0).trans rfl
        have hcz15_1 : wr.cell? ⟨gb140, 1, none⟩ = some (.int .i64 x141001_1) := (blk_cell BK140.out 1).trans rfl
        have hcz15_2 : wr.cell? ⟨gb140, 2, none⟩ = some (.int .i64 x141002_1) := (blk_cell BK140.out 2).trans rfl
        have hcz15_3 : wr.cell? ⟨gb140, 3, none⟩ = some (.int .i64 x141003_1) := (blk_cell BK140.out 3).trans rfl
        have hfz15_0 := blk_frozen BK140.out 0
        have hfz15_1 := blk_frozen BK140.out 1
        have hfz15_2 := blk_frozen BK140.out 2
        have hfz15_3 := blk_frozen BK140.out 3
        have hnb16 := NB139_138.out
        have hnc16 := NB138_139.out
        have hcz17_0 : wr.cell? ⟨gb139, 0, none⟩ = some (.int .i64 0) := (blk_cell BK139.out 0).trans rfl
        have hcz17_1 : wr.cell? ⟨gb139, 1, none⟩ = some (.int .i64 0) := (blk_cell BK139.out 1).trans rfl
        have hcz17_2 : wr.cell? ⟨gb139, 2, none⟩ = some (.int .i64 0) := (blk_cell BK139.out 2).trans rfl
        have hcz17_3 : wr.cell? ⟨gb139, 3, none⟩ = some (.int .i64 0) := (blk_cell BK139.out 3).trans rfl
        have hfz17_0 := blk_frozen BK139.out 0
        have hfz17_1 := blk_frozen BK139.out 1
        have hfz17_2 := blk_frozen BK139.out 2
        have hfz17_3 := blk_frozen BK139.out 3
        go_wp2_with (first | ((with_reducible refine gate_store (t := 38) (p := 2) rfl ?_); refine store_event (t := 38) (p := 2) (v := ?vo_w18) (w1 := ((((wr.setCell ⟨gb139, 0, none⟩ (.int .i64 x141000_1)).setCell ⟨gb139, 1, none⟩ (.int .i64 x141001_1)).setCell ⟨gb139, 2, none⟩ (.int .i64 x141002_1)).setCell ⟨gb139, 3, none⟩ (.int .i64 x141003_1))) ?hg ?ho ?hn ?hr ?_; (case ho => rfl); (case hg => rfl); (case hn => rfl); (case hr => first | (go_simp; done) | (go_simp; rfl)); intro w18 hw; have n0_ : Aside0 (w18.heap[gb138]? = some (.cells #[.int .i64 a0_0, .int .i64 a0_1, .int .i64 a0_2, .int .i64 a0_3] 38 (0, 0))) := ⟨(by rw [hw]; exact (by (with_reducible repeat (first | refine blk_drewN ?_ _ | refine blk_drew ?_ | refine blk_alloc ?_ _)); refine blk_far ?_ NB138_139.out _; (with_reducible repeat (first | refine blk_drewN ?_ _ | refine blk_drew ?_ | refine blk_alloc ?_ _)); refine blk_far ?_ NB138_139.out _; (with_reducible repeat (first | refine blk_drewN ?_ _ | refine blk_drew ?_ | refine blk_alloc ?_ _)); refine blk_far ?_ NB138_139.out _; (with_reducible repeat (first | refine blk_drewN ?_ _ | refine blk_drew ?_ | refine blk_alloc ?_ _)); refine blk_far ?_ NB138_139.out _; (with_reducible repeat (first | refine blk_drewN ?_ _ | refine blk_drew ?_ | refine blk_alloc ?_ _)); exact BK138.out))⟩; have n1_ : Aside0 (w18.heap[gb139]? = some (.cells #[.int .i64 x141000_1, .int .i64 x141001_1, .int .i64 x141002_1, .int .i64 x141003_1] 38 (0, 0))) := ⟨(by rw [hw]; exact (by (with_reducible repeat (first | refine blk_drewN ?_ _ | refine blk_drew ?_ | refine blk_alloc ?_ _)); refine blk_put (cs := #[.int .i64 x141000_1, .int .i64 x141001_1, .int .i64 x141002_1, .int .i64 0]) ?_ 3 _ rfl; (with_reducible repeat (first | refine blk_drewN ?_ _ | refine blk_drew ?_ | refine blk_alloc ?_ _)); refine blk_put (cs := #[.int .i64 x141000_1, .int .i64 x141001_1, .int .i64 0, .int .i64 0]) ?_ 2 _ rfl; (with_reducible repeat (first | refine blk_drewN ?_ _ | refine blk_drew ?_ | refine blk_alloc ?_ _)); refine blk_put (cs := #[.int .i64 x141000_1, .int .i64 0, .int .i64 0, .int .i64 0]) ?_ 1 _ rfl; (with_reducible repeat (first | refine blk_drewN ?_ _ | refine blk_drew ?_ | refine blk_alloc ?_ _)); refine blk_put (cs := #[.int .i64 0, .int .i64 0, .int .i64 0, .int .i64 0]) ?_ 0 _ rfl; (with_reducible repeat (first | refine blk_drewN ?_ _ | refine blk_drew ?_ | refine blk_alloc ?_ _)); exact BK139.out))⟩; have n2_ : Aside0 (w18.heap[gb140]? = some (.cells #[.int .i64 x141000_1, .int .i64 x141001_1, .int .i64 x141002_1, .int .i64 x141003_1] 38 (0, 0))) := ⟨(by rw [hw]; exact (by (with_reducible repeat (first | refine blk_drewN ?_ _ | refine blk_drew ?_ | refine blk_alloc ?_ _)); refine blk_far ?_ NB140_139.out _; (with_reducible repeat (first | refine blk_drewN ?_ _ | refine blk_drew ?_ | refine blk_alloc ?_ _)); refine blk_far ?_ NB140_139.out _; (with_reducible repeat (first | refine blk_drewN ?_ _ | refine blk_drew ?_ | refine blk_alloc ?_ _)); refine blk_far ?_ NB140_139.out _; (with_reducible repeat (first | refine blk_drewN ?_ _ | refine blk_drew ?_ | refine blk_alloc ?_ _)); refine blk_far ?_ NB140_139.out _; (with_reducible repeat (first | refine blk_drewN ?_ _ | refine blk_drew ?_ | refine blk_alloc ?_ _)); exact BK140.out))⟩; have n3_ : Aside0 (Below w.heap.size w w18) := ⟨(by rw [hw]; exact (by repeat (first | (with_reducible first | exact HB.out | apply below_alloc | apply pw_below_drewN | apply below_drew1 | refine below_set ?_ GE138.out | refine below_set ?_ GE139.out | refine below_set ?_ GE140.out) | exact HB.out)))⟩; clear hw; clear BK138; clear BK139; clear BK140; clear HB; have BK138 := n0_; have BK139 := n1_; have BK140 := n2_; have HB := n3_; clear n0_ n1_ n2_ n3_))
        refine bodyPost_ret (results_cell_row rfl _ _ gb139 38 #[.int .i64 x141000_1, .int .i64 x141001_1, .int .i64 x141002_1, .int .i64 x141003_1] (0, 0) _ rfl (by (with_reducible repeat (first | refine blk_drewN ?_ _ | refine blk_drew ?_ | refine blk_alloc ?_ _)); exact BK139.out) Try.underlying38 rfl (by kernel_rfl)) rfl ?_
        exact ⟨by first | rfl | (simp [errW_none, errW_some] <;> rfl) | (simp [*, errW_none, errW_some] <;> rfl), by repeat (first | (with_reducible first | exact HB.out | apply below_alloc | apply pw_below_drewN | apply below_drew1 | refine below_set ?_ GE138.out | refine below_set ?_ GE139.out | refine below_set ?_ GE140.out) | exact HB.out)⟩

/-! ### laws_toEight: function 22 -/
def laws_toEight.f (k : Nat) (a0_0 : Int) (a0_1 : Int) (a0_2 : Int) (a0_3 : Int) (a0_4 : Int) (a0_5 : Int) (a0_6 : Int) (a0_7 : Int) : Option (Int × Int × Int × Int × Int × Int × Int × Int) := (laws_toInt64A4.f k a0_0 a0_1 a0_2 a0_3).bind fun bt146 => ((laws_toInt64A4.f k a0_4 a0_5 a0_6 a0_7).bind fun bt150 => (some (bt146.1, bt146.2.1, bt146.2.2.1, bt146.2.2.2, bt150.1, bt150.2.1, bt150.2.2.1, bt150.2.2.2)))
theorem laws_toEight.mono : ∀ a0 a1 a2 a3 a4 a5 a6 a7 k, LeO (laws_toEight.f k a0 a1 a2 a3 a4 a5 a6 a7) (laws_toEight.f (k + 1) a0 a1 a2 a3 a4 a5 a6 a7) := by
  intro a0 a1 a2 a3 a4 a5 a6 a7 k
  unfold laws_toEight.f
  repeat' first
      | (with_reducible exact laws_toInt64A4.mono _ _ _ _ _)
      | (with_reducible exact LeO.refl _)
      | (with_reducible exact LeO.none _)
      | (with_reducible refine LeO.ite ?_ ?_)
      | (with_reducible refine LeO.bind ?_ (fun _ => ?_))
      | exact laws_toInt64A4.mono _ _ _ _ _
      | exact LeO.none _
      | refine LeO.ite ?_ ?_
      | refine LeO.bind ?_ (fun _ => ?_)
set_option maxHeartbeats 8000000 in
set_option maxRecDepth 100000 in
theorem laws_toEight.calls (k : Nat) (a0_0 : Int) (a0_1 : Int) (a0_2 : Int) (a0_3 : Int) (a0_4 : Int) (a0_5 : Int) (a0_6 : Int) (a0_7 : Int) (r1 : Int) (r2 : Int) (r3 : Int) (r4 : Int) (r5 : Int) (r6 : Int) (r7 : Int) (r8 : Int) (w : World) (h : laws_toEight.f k a0_0 a0_1 a0_2 a0_3 a0_4 a0_5 a0_6 a0_7 = some (r1, r2, r3, r4, r5, r6, r7, r8)) :
    Calls Try.prog 22 #[.agg #[.int .i64 a0_0, .int .i64 a0_1, .int .i64 a0_2, .int .i64 a0_3, .int .i64 a0_4, .int .i64 a0_5, .int .i64 a0_6, .int .i64 a0_7]] w fun e w' => e = .returned (.agg #[.int .i64 r1, .int .i64 r2, .int .i64 r3, .int .i64 r4, .int .i64 r5, .int .i64 r6, .int .i64 r7, .int .i64 r8]) ∧ Below w.heap.size w w' := by
  have hu40 := Try.underlying40
  have hu42 := Try.underlying42
  have hu38 := Try.underlying38
  have HB := Aside0.mk (Below.refl w.heap.size w)
  have H : ((laws_toInt64A4.f k a0_0 a0_1 a0_2 a0_3).bind fun bt146 => ((laws_toInt64A4.f k a0_4 a0_5 a0_6 a0_7).bind fun bt150 => (some (bt146.1, bt146.2.1, bt146.2.2.1, bt146.2.2.2, bt150.1, bt150.2.1, bt150.2.2.1, bt150.2.2.2)))) = some (r1, r2, r3, r4, r5, r6, r7, r8) := h
  clear h
  replace H := Option.bind_eq_some_iff.mp H
  obtain ⟨⟨t146, t147, t148, t149⟩, A20, H⟩ := H
  replace H : ((laws_toInt64A4.f k a0_4 a0_5 a0_6 a0_7).bind fun bt150 => (some (t146, t147, t148, t149, bt150.1, bt150.2.1, bt150.2.2.1, bt150.2.2.2))) = some (r1, r2, r3, r4, r5, r6, r7, r8) := H
  have A2 := Aside0.mk A20
  clear A20
  replace H := Option.bind_eq_some_iff.mp H
  obtain ⟨⟨t150, t151, t152, t153⟩, A30, H⟩ := H
  replace H : (some (t146, t147, t148, t149, t150, t151, t152, t153)) = some (r1, r2, r3, r4, r5, r6, r7, r8) := H
  have A3 := Aside0.mk A30
  clear A30
  simp only [Option.some.injEq, Prod.mk.injEq] at H
  obtain ⟨rfl, rfl, rfl, rfl, rfl, rfl, rfl, rfl⟩ := H
  go_enter Try.func22, Try.ntmps22
  go_wp2_with (first | ((with_reducible refine gate_dst (N := 1) rfl ?_); refine box_event ?hg (N := 1) ?hd (cs := #[.int .i64 a0_0, .int .i64 a0_1, .int .i64 a0_2, .int .i64 a0_3, .int .i64 a0_4, .int .i64 a0_5, .int .i64 a0_6, .int .i64 a0_7]) (t := 40) ?hr ?_; (case hd => rfl); (case hg => rfl); (case hr => first | (go_simp; done) | (go_simp; rfl)); intro gb143 hg w4 hbox hb; have n0_ := Aside0.mk (below_step (by repeat (first | (with_reducible first | exact HB.out | apply below_alloc | apply pw_below_drewN | apply below_drew1) | exact HB.out)) hb); have n1_ := Aside0.mk (hbox); have n2_ := Aside0.mk ((by rw [hg]; exact (below_size (by repeat (first | (with_reducible first | exact HB.out | apply below_alloc | apply pw_below_drewN | apply below_drew1) | exact HB.out))) : w.heap.size ≤ gb143)); have n3_ := Aside0.mk ((by rw [hg]; exact (below_size (by repeat (first | (with_reducible first | exact HB.out | apply below_alloc | apply pw_below_drewN | apply below_drew1) | exact HB.out))) : w.heap.size ≤ gb143)); clear HB; have HB := n0_; have BK143 := n1_; have GW143 := n2_; have GE143 := n3_; clear n0_ n1_ n2_ n3_; clear hb hbox hg) | ((with_reducible refine gate_dst (N := 2) rfl ?_); refine box_event ?hg (N := 2) ?hd (cs := #[.int .i64 0, .int .i64 0, .int .i64 0, .int .i64 0, .int .i64 0, .int .i64 0, .int .i64 0, .int .i64 0]) (t := 42) ?hr ?_; (case hd => rfl); (case hg => rfl); (case hr => first | (go_simp; done) | (go_simp; rfl)); intro gb144 hg w5 hbox hb; have n0_ := Aside0.mk (blk_below (g := gb143) (o := .cells #[.int .i64 a0_0, .int .i64 a0_1, .int .i64 a0_2, .int .i64 a0_3, .int .i64 a0_4, .int .i64 a0_5, .int .i64 a0_6, .int .i64 a0_7] 40 (0, 0)) (by (with_reducible repeat (first | refine blk_drewN ?_ _ | refine blk_drew ?_ | refine blk_alloc ?_ _)); exact BK143.out) hb); have n1_ := Aside0.mk (below_step (by repeat (first | (with_reducible first | exact HB.out | apply below_alloc | apply pw_below_drewN | apply below_drew1 | refine below_set ?_ GE143.out) | exact HB.out)) hb); have n2_ := Aside0.mk (hbox); have n3_ := Aside0.mk ((by rw [hg]; exact (below_size (by repeat (first | (with_reducible first | exact HB.out | apply below_alloc | apply pw_below_drewN | apply below_drew1 | refine below_set ?_ GE143.out) | exact HB.out))) : w.heap.size ≤ gb144)); have n4_ := Aside0.mk ((by rw [hg]; exact (below_size (by repeat (first | (with_reducible first | exact HB.out | apply below_alloc | apply pw_below_drewN | apply below_drew1 | refine below_set ?_ GE143.out) | exact HB.out))) : w.heap.size ≤ gb144)); have n5_ := Aside0.mk ((by rw [hg]; exact Nat.ne_of_lt (blk_lt (g := gb143) (o := .cells #[.int .i64 a0_0, .int .i64 a0_1, .int .i64 a0_2, .int .i64 a0_3, .int .i64 a0_4, .int .i64 a0_5, .int .i64 a0_6, .int .i64 a0_7] 40 (0, 0)) (by (with_reducible repeat (first | refine blk_drewN ?_ _ | refine blk_drew ?_ | refine blk_alloc ?_ _)); exact BK143.out)) : gb143 ≠ gb144)); have n6_ := Aside0.mk ((by rw [hg]; exact Nat.ne_of_gt (blk_lt (g := gb143) (o := .cells #[.int .i64 a0_0, .int .i64 a0_1, .int .i64 a0_2, .int .i64 a0_3, .int .i64 a0_4, .int .i64 a0_5, .int .i64 a0_6, .int .i64 a0_7] 40 (0, 0)) (by (with_reducible repeat (first | refine blk_drewN ?_ _ | refine blk_drew ?_ | refine blk_alloc ?_ _)); exact BK143.out)) : gb144 ≠ gb143)); clear BK143; clear HB; have BK143 := n0_; have HB := n1_; have BK144 := n2_; have GW144 := n3_; have GE144 := n4_; have NB143_144 := n5_; have NB144_143 := n6_; clear n0_ n1_ n2_ n3_ n4_ n5_ n6_; clear hb hbox hg) | ((with_reducible refine gate_dst (N := 3) rfl ?_); refine box_event ?hg (N := 3) ?hd (cs := #[.int .i64 0, .int .i64 0, .int .i64 0, .int .i64 0, .int .i64 0, .int .i64 0, .int .i64 0, .int .i64 0]) (t := 42) ?hr ?_; (case hd => rfl); (case hg => rfl); (case hr => first | (go_simp; done) | (go_simp; rfl)); intro gb145 hg w6 hbox hb; have n0_ := Aside0.mk (blk_below (g := gb143) (o := .cells #[.int .i64 a0_0, .int .i64 a0_1, .int .i64 a0_2, .int .i64 a0_3, .int .i64 a0_4, .int .i64 a0_5, .int .i64 a0_6, .int .i64 a0_7] 40 (0, 0)) (by (with_reducible repeat (first | refine blk_drewN ?_ _ | refine blk_drew ?_ | refine blk_alloc ?_ _)); exact BK143.out) hb); have n1_ := Aside0.mk (blk_below (g := gb144) (o := .cells #[.int .i64 0, .int .i64 0, .int .i64 0, .int .i64 0, .int .i64 0, .int .i64 0, .int .i64 0, .int .i64 0] 42 (0, 0)) (by (with_reducible repeat (first | refine blk_drewN ?_ _ | refine blk_drew ?_ | refine blk_alloc ?_ _)); exact BK144.out) hb); have n2_ := Aside0.mk (below_step (by repeat (first | (with_reducible first | exact HB.out | apply below_alloc | apply pw_below_drewN | apply below_drew1 | refine below_set ?_ GE143.out | refine below_set ?_ GE144.out) | exact HB.out)) hb); have n3_ := Aside0.mk (hbox); have n4_ := Aside0.mk ((by rw [hg]; exact (below_size (by repeat (first | (with_reducible first | exact HB.out | apply below_alloc | apply pw_below_drewN | apply below_drew1 | refine below_set ?_ GE143.out | refine below_set ?_ GE144.out) | exact HB.out))) : w.heap.size ≤ gb145)); have n5_ := Aside0.mk ((by rw [hg]; exact (below_size (by repeat (first | (with_reducible first | exact HB.out | apply below_alloc | apply pw_below_drewN | apply below_drew1 | refine below_set ?_ GE143.out | refine below_set ?_ GE144.out) | exact HB.out))) : w.heap.size ≤ gb145)); have n6_ := Aside0.mk ((by rw [hg]; exact Nat.ne_of_lt (blk_lt (g := gb143) (o := .cells #[.int .i64 a0_0, .int .i64 a0_1, .int .i64 a0_2, .int .i64 a0_3, .int .i64 a0_4, .int .i64 a0_5, .int .i64 a0_6, .int .i64 a0_7] 40 (0, 0)) (by (with_reducible repeat (first | refine blk_drewN ?_ _ | refine blk_drew ?_ | refine blk_alloc ?_ _)); exact BK143.out)) : gb143 ≠ gb145)); have n7_ := Aside0.mk ((by rw [hg]; exact Nat.ne_of_gt (blk_lt (g := gb143) (o := .cells #[.int .i64 a0_0, .int .i64 a0_1, .int .i64 a0_2, .int .i64 a0_3, .int .i64 a0_4, .int .i64 a0_5, .int .i64 a0_6, .int .i64 a0_7] 40 (0, 0)) (by (with_reducible repeat (first | refine blk_drewN ?_ _ | refine blk_drew ?_ | refine blk_alloc ?_ _)); exact BK143.out)) : gb145 ≠ gb143)); have n8_ := Aside0.mk ((by rw [hg]; exact Nat.ne_of_lt (blk_lt (g := gb144) (o := .cells #[.int .i64 0, .int .i64 0, .int .i64 0, .int .i64 0, .int .i64 0, .int .i64 0, .int .i64 0, .int .i64 0] 42 (0, 0)) (by (with_reducible repeat (first | refine blk_drewN ?_ _ | refine blk_drew ?_ | refine blk_alloc ?_ _)); exact BK144.out)) : gb144 ≠ gb145)); have n9_ := Aside0.mk ((by rw [hg]; exact Nat.ne_of_gt (blk_lt (g := gb144) (o := .cells #[.int .i64 0, .int .i64 0, .int .i64 0, .int .i64 0, .int .i64 0, .int .i64 0, .int .i64 0, .int .i64 0] 42 (0, 0)) (by (with_reducible repeat (first | refine blk_drewN ?_ _ | refine blk_drew ?_ | refine blk_alloc ?_ _)); exact BK144.out)) : gb145 ≠ gb144)); clear BK143; clear BK144; clear HB; have BK143 := n0_; have BK144 := n1_; have HB := n2_; have BK145 := n3_; have GW145 := n4_; have GE145 := n5_; have NB143_145 := n6_; have NB145_143 := n7_; have NB144_145 := n8_; have NB145_144 := n9_; clear n0_ n1_ n2_ n3_ n4_ n5_ n6_ n7_ n8_ n9_; clear hb hbox hg; have hnb7 := NB143_144.out; have hnc7 := NB144_143.out; have hnb8 := NB143_145.out; have hnc8 := NB145_143.out; have hcz9_0 : w6.cell? ⟨gb143, 0, none⟩ = some (.int .i64 a0_0) := (blk_cell BK143.out 0).trans rfl; have hcz9_1 : w6.cell? ⟨gb143, 1, none⟩ = some (.int .i64 a0_1) := (blk_cell BK143.out 1).trans rfl; have hcz9_2 : w6.cell? ⟨gb143, 2, none⟩ = some (.int .i64 a0_2) := (blk_cell BK143.out 2).trans rfl; have hcz9_3 : w6.cell? ⟨gb143, 3, none⟩ = some (.int .i64 a0_3) := (blk_cell BK143.out 3).trans rfl; have hcz9_4 : w6.cell? ⟨gb143, 4, none⟩ = some (.int .i64 a0_4) := (blk_cell BK143.out 4).trans rfl; have hcz9_5 : w6.cell? ⟨gb143, 5, none⟩ = some (.int .i64 a0_5) := (blk_cell BK143.out 5).trans rfl; have hcz9_6 : w6.cell? ⟨gb143, 6, none⟩ = some (.int .i64 a0_6) := (blk_cell BK143.out 6).trans rfl; have hcz9_7 : w6.cell? ⟨gb143, 7, none⟩ = some (.int .i64 a0_7) := (blk_cell BK143.out 7).trans rfl; have hfz9_0 := blk_frozen BK143.out 0; have hfz9_1 := blk_frozen BK143.out 1; have hfz9_2 := blk_frozen BK143.out 2; have hfz9_3 := blk_frozen BK143.out 3; have hfz9_4 := blk_frozen BK143.out 4; have hfz9_5 := blk_frozen BK143.out 5; have hfz9_6 := blk_frozen BK143.out 6; have hfz9_7 := blk_frozen BK143.out 7) | ((with_reducible refine gate_callee (f := 45) rfl ?_); refine goesL_ (some 6) rfl rfl Try.func45 (by kernel_rfl) rfl #[.agg #[.int .i64 a0_0, .int .i64 a0_1, .int .i64 a0_2, .int .i64 a0_3]] rfl (by (try simp only [List.map_toArray, List.map_cons, List.map_nil]); first | done | rfl | (simp only [List.length_drop, List.length_take]; rfl) | (simp only [List.drop_one]; done) | (simp only [List.drop_one]; rfl)) ?_; (with_reducible refine (laws_toInt64A4.calls k a0_0 a0_1 a0_2 a0_3 t146 t147 t148 t149 _ A2.out).mono ?_); rintro e w10 ⟨rfl, hb⟩; refine ⟨_, rfl, ?_⟩; have n0_ := Aside0.mk (blk_below (g := gb143) (o := .cells #[.int .i64 a0_0, .int .i64 a0_1, .int .i64 a0_2, .int .i64 a0_3, .int .i64 a0_4, .int .i64 a0_5, .int .i64 a0_6, .int .i64 a0_7] 40 (0, 0)) (by (with_reducible repeat (first | refine blk_drewN ?_ _ | refine blk_drew ?_ | refine blk_alloc ?_ _)); exact BK143.out) hb); have n1_ := Aside0.mk (blk_below (g := gb144) (o := .cells #[.int .i64 0, .int .i64 0, .int .i64 0, .int .i64 0, .int .i64 0, .int .i64 0, .int .i64 0, .int .i64 0] 42 (0, 0)) (by (with_reducible repeat (first | refine blk_drewN ?_ _ | refine blk_drew ?_ | refine blk_alloc ?_ _)); exact BK144.out) hb); have n2_ := Aside0.mk (blk_below (g := gb145) (o := .cells #[.int .i64 0, .int .i64 0, .int .i64 0, .int .i64 0, .int .i64 0, .int .i64 0, .int .i64 0, .int .i64 0] 42 (0, 0)) (by (with_reducible repeat (first | refine blk_drewN ?_ _ | refine blk_drew ?_ | refine blk_alloc ?_ _)); exact BK145.out) hb); have n3_ := Aside0.mk (below_step (by repeat (first | (with_reducible first | exact HB.out | apply below_alloc | apply pw_below_drewN | apply below_drew1 | refine below_set ?_ GE143.out | refine below_set ?_ GE144.out | refine below_set ?_ GE145.out) | exact HB.out)) hb); clear BK143; clear BK144; clear BK145; clear HB; have BK143 := n0_; have BK144 := n1_; have BK145 := n2_; have HB := n3_; clear n0_ n1_ n2_ n3_; (try clear hb); (try clear hb2); (try clear hk); (try clear hi); have hnb11 := NB145_144.out; have hnc11 := NB144_145.out; have hcz12_0 : w10.cell? ⟨gb145, 0, none⟩ = some (.int .i64 0) := (blk_cell BK145.out 0).trans rfl; have hcz12_1 : w10.cell? ⟨gb145, 1, none⟩ = some (.int .i64 0) := (blk_cell BK145.out 1).trans rfl; have hcz12_2 : w10.cell? ⟨gb145, 2, none⟩ = some (.int .i64 0) := (blk_cell BK145.out 2).trans rfl; have hcz12_3 : w10.cell? ⟨gb145, 3, none⟩ = some (.int .i64 0) := (blk_cell BK145.out 3).trans rfl; have hcz12_4 : w10.cell? ⟨gb145, 4, none⟩ = some (.int .i64 0) := (blk_cell BK145.out 4).trans rfl; have hcz12_5 : w10.cell? ⟨gb145, 5, none⟩ = some (.int .i64 0) := (blk_cell BK145.out 5).trans rfl; have hcz12_6 : w10.cell? ⟨gb145, 6, none⟩ = some (.int .i64 0) := (blk_cell BK145.out 6).trans rfl; have hcz12_7 : w10.cell? ⟨gb145, 7, none⟩ = some (.int .i64 0) := (blk_cell BK145.out 7).trans rfl; have hfz12_0 := blk_frozen BK145.out 0; have hfz12_1 := blk_frozen BK145.out 1; have hfz12_2 := blk_frozen BK145.out 2; have hfz12_3 := blk_frozen BK145.out 3; have hfz12_4 := blk_frozen BK145.out 4; have hfz12_5 := blk_frozen BK145.out 5; have hfz12_6 := blk_frozen BK145.out 6; have hfz12_7 := blk_frozen BK145.out 7; have hcz13_0 : w10.cell? ⟨gb143, 0, none⟩ = some (.int .i64 a0_0) := (blk_cell BK143.out 0).trans rfl; have hcz13_1 : w10.cell? ⟨gb143, 1, none⟩ = some (.int .i64 a0_1) := (blk_cell BK143.out 1).trans rfl; have hcz13_2 : w10.cell? ⟨gb143, 2, none⟩ = some (.int .i64 a0_2) := (blk_cell BK143.out 2).trans rfl; have hcz13_3 : w10.cell? ⟨gb143, 3, none⟩ = some (.int .i64 a0_3) := (blk_cell BK143.out 3).trans rfl; have hcz13_4 : w10.cell? ⟨gb143, 4, none⟩ = some (.int .i64 a0_4) := (blk_cell BK143.out 4).trans rfl; have hcz13_5 : w10.cell? ⟨gb143, 5, none⟩ = some (.int .i64 a0_5) := (blk_cell BK143.out 5).trans rfl; have hcz13_6 : w10.cell? ⟨gb143, 6, none⟩ = some (.int .i64 a0_6) := (blk_cell BK143.out 6).trans rfl; have hcz13_7 : w10.cell? ⟨gb143, 7, none⟩ = some (.int .i64 a0_7) := (blk_cell BK143.out 7).trans rfl; have hfz13_0 := blk_frozen BK143.out 0; have hfz13_1 := blk_frozen BK143.out 1; have hfz13_2 := blk_frozen BK143.out 2; have hfz13_3 := blk_frozen BK143.out 3; have hfz13_4 := blk_frozen BK143.out 4; have hfz13_5 := blk_frozen BK143.out 5; have hfz13_6 := blk_frozen BK143.out 6; have hfz13_7 := blk_frozen BK143.out 7) | ((with_reducible refine gate_callee (f := 45) rfl ?_); refine goesL_ (some 10) rfl rfl Try.func45 (by kernel_rfl) rfl #[.agg #[.int .i64 a0_4, .int .i64 a0_5, .int .i64 a0_6, .int .i64 a0_7]] rfl (by (try simp only [List.map_toArray, List.map_cons, List.map_nil]); first | done | rfl | (simp only [List.length_drop, List.length_take]; rfl) | (simp only [List.drop_one]; done) | (simp only [List.drop_one]; rfl)) ?_; (with_reducible refine (laws_toInt64A4.calls k a0_4 a0_5 a0_6 a0_7 t150 t151 t152 t153 _ A3.out).mono ?_); rintro e w14 ⟨rfl, hb⟩; refine ⟨_, rfl, ?_⟩; have n0_ := Aside0.mk (blk_below (g := gb143) (o := .cells #[.int .i64 a0_0, .int .i64 a0_1, .int .i64 a0_2, .int .i64 a0_3, .int .i64 a0_4, .int .i64 a0_5, .int .i64 a0_6, .int .i64 a0_7] 40 (0, 0)) (by (with_reducible repeat (first | refine blk_drewN ?_ _ | refine blk_drew ?_ | refine blk_alloc ?_ _)); refine blk_far ?_ NB143_145.out _; (with_reducible repeat (first | refine blk_drewN ?_ _ | refine blk_drew ?_ | refine blk_alloc ?_ _)); refine blk_far ?_ NB143_145.out _; (with_reducible repeat (first | refine blk_drewN ?_ _ | refine blk_drew ?_ | refine blk_alloc ?_ _)); refine blk_far ?_ NB143_145.out _; (with_reducible repeat (first | refine blk_drewN ?_ _ | refine blk_drew ?_ | refine blk_alloc ?_ _)); refine blk_far ?_ NB143_145.out _; (with_reducible repeat (first | refine blk_drewN ?_ _ | refine blk_drew ?_ | refine blk_alloc ?_ _)); exact BK143.out) hb); have n1_ := Aside0.mk (blk_below (g := gb144) (o := .cells #[.int .i64 0, .int .i64 0, .int .i64 0, .int .i64 0, .int .i64 0, .int .i64 0, .int .i64 0, .int .i64 0] 42 (0, 0)) (by (with_reducible repeat (first | refine blk_drewN ?_ _ | refine blk_drew ?_ | refine blk_alloc ?_ _)); refine blk_far ?_ NB144_145.out _; (with_reducible repeat (first | refine blk_drewN ?_ _ | refine blk_drew ?_ | refine blk_alloc ?_ _)); refine blk_far ?_ NB144_145.out _; (with_reducible repeat (first | refine blk_drewN ?_ _ | refine blk_drew ?_ | refine blk_alloc ?_ _)); refine blk_far ?_ NB144_145.out _; (with_reducible repeat (first | refine blk_drewN ?_ _ | refine blk_drew ?_ | refine blk_alloc ?_ _)); refine blk_far ?_ NB144_145.out _; (with_reducible repeat (first | refine blk_drewN ?_ _ | refine blk_drew ?_ | refine blk_alloc ?_ _)); exact BK144.out) hb); have n2_ := Aside0.mk (blk_below (g := gb145) (o := .cells #[.int .i64 t146, .int .i64 t147, .int .i64 t148, .int .i64 t149, .int .i64 0, .int .i64 0, .int .i64 0, .int .i64 0] 42 (0, 0)) (by (with_reducible repeat (first | refine blk_drewN ?_ _ | refine blk_drew ?_ | refine blk_alloc ?_ _)); refine blk_put (cs := #[.int .i64 t146, .int .i64 t147, .int .i64 t148, .int .i64 0, .int .i64 0, .int .i64 0, .int .i64 0, .int .i64 0]) ?_ 3 _ rfl; (with_reducible repeat (first | refine blk_drewN ?_ _ | refine blk_drew ?_ | refine blk_alloc ?_ _)); refine blk_put (cs := #[.int .i64 t146, .int .i64 t147, .int .i64 0, .int .i64 0, .int .i64 0, .int .i64 0, .int .i64 0, .int .i64 0]) ?_ 2 _ rfl; (with_reducible repeat (first | refine blk_drewN ?_ _ | refine blk_drew ?_ | refine blk_alloc ?_ _)); refine blk_put (cs := #[.int .i64 t146, .int .i64 0, .int .i64 0, .int .i64 0, .int .i64 0, .int .i64 0, .int .i64 0, .int .i64 0]) ?_ 1 _ rfl; (with_reducible repeat (first | refine blk_drewN ?_ _ | refine blk_drew ?_ | refine blk_alloc ?_ _)); refine blk_put (cs := #[.int .i64 0, .int .i64 0, .int .i64 0, .int .i64 0, .int .i64 0, .int .i64 0, .int .i64 0, .int .i64 0]) ?_ 0 _ rfl; (with_reducible repeat (first | refine blk_drewN ?_ _ | refine blk_drew ?_ | refine blk_alloc ?_ _)); exact BK145.out) hb); have n3_ := Aside0.mk (below_step (by repeat (first | (with_reducible first | exact HB.out | apply below_alloc | apply pw_below_drewN | apply below_drew1 | refine below_set ?_ GE143.out | refine below_set ?_ GE144.out | refine below_set ?_ GE145.out) | exact HB.out)) hb); clear BK143; clear BK144; clear BK145; clear HB; have BK143 := n0_; have BK144 := n1_; have BK145 := n2_; have HB := n3_; clear n0_ n1_ n2_ n3_; (try clear hb); (try clear hb2); (try clear hk); (try clear hi); have hcz15_0 : w14.cell? ⟨gb145, 0, none⟩ = some (.int .i64 t146) := (blk_cell BK145.out 0).trans rfl; have hcz15_1 : w14.cell? ⟨gb145, 1, none⟩ = some (.int .i64 t147) := (blk_cell BK145.out 1).trans rfl; have hcz15_2 : w14.cell? ⟨gb145, 2, none⟩ = some (.int .i64 t148) := (blk_cell BK145.out 2).trans rfl; have hcz15_3 : w14.cell? ⟨gb145, 3, none⟩ = some (.int .i64 t149) := (blk_cell BK145.out 3).trans rfl; have hcz15_4 : w14.cell? ⟨gb145, 4, none⟩ = some (.int .i64 0) := (blk_cell BK145.out 4).trans rfl; have hcz15_5 : w14.cell? ⟨gb145, 5, none⟩ = some (.int .i64 0) := (blk_cell BK145.out 5).trans rfl; have hcz15_6 : w14.cell? ⟨gb145, 6, none⟩ = some (.int .i64 0) := (blk_cell BK145.out 6).trans rfl; have hcz15_7 : w14.cell? ⟨gb145, 7, none⟩ = some (.int .i64 0) := (blk_cell BK145.out 7).trans rfl; have hfz15_0 := blk_frozen BK145.out 0; have hfz15_1 := blk_frozen BK145.out 1; have hfz15_2 := blk_frozen BK145.out 2; have hfz15_3 := blk_frozen BK145.out 3; have hfz15_4 := blk_frozen BK145.out 4; have hfz15_5 := blk_frozen BK145.out 5; have hfz15_6 := blk_frozen BK145.out 6; have hfz15_7 := blk_frozen BK145.out 7; have hcz16_0 : w14.cell? ⟨gb144, 0, none⟩ = some (.int .i64 0) := (blk_cell BK144.out 0).trans rfl; have hcz16_1 : w14.cell? ⟨gb144, 1, none⟩ = some (.int .i64 0) := (blk_cell BK144.out 1).trans rfl; have hcz16_2 : w14.cell? ⟨gb144, 2, none⟩ = some (.int .i64 0) := (blk_cell BK144.out 2).trans rfl; have hcz16_3 : w14.cell? ⟨gb144, 3, none⟩ = some (.int .i64 0) := (blk_cell BK144.out 3).trans rfl; have hcz16_4 : w14.cell? ⟨gb144, 4, none⟩ = some (.int .i64 0) := (blk_cell BK144.out 4).trans rfl; have hcz16_5 : w14.cell? ⟨gb144, 5, none⟩ = some (.int .i64 0) := (blk_cell BK144.out 5).trans rfl; have hcz16_6 : w14.cell? ⟨gb144, 6, none⟩ = some (.int .i64 0) := (blk_cell BK144.out 6).trans rfl; have hcz16_7 : w14.cell? ⟨gb144, 7, none⟩ = some (.int .i64 0) := (blk_cell BK144.out 7).trans rfl; have hfz16_0 := blk_frozen BK144.out 0; have hfz16_1 := blk_frozen BK144.out 1; have hfz16_2 := blk_frozen BK144.out 2; have hfz16_3 := blk_frozen BK144.out 3; have hfz16_4 := blk_frozen BK144.out 4; have hfz16_5 := blk_frozen BK144.out 5; have hfz16_6 := blk_frozen BK144.out 6; have hfz16_7 := blk_frozen BK144.out 7))
  refine bodyPost_ret (results_cell_row rfl _ _ gb144 42 #[.int .i64 t146, .int .i64 t147, .int .i64 t148, .int .i64 t149, .int .i64 t150, .int .i64 t151, .int .i64 t152, .int .i64 t153] (0, 0) _ rfl (by (with_reducible repeat (first | refine blk_drewN ?_ _ | refine blk_drew ?_ | refine blk_alloc ?_ _)); refine blk_put (cs := #[.int .i64 t146, .int .i64 t147, .int .i64 t148, .int .i64 t149, .int .i64 t150, .int .i64 t151, .int .i64 t152, .int .i64 0]) ?_ 7 _ rfl; (with_reducible repeat (first | refine blk_drewN ?_ _ | refine blk_drew ?_ | refine blk_alloc ?_ _)); refine blk_put (cs := #[.int .i64 t146, .int .i64 t147, .int .i64 t148, .int .i64 t149, .int .i64 t150, .int .i64 t151, .int .i64 0, .int .i64 0]) ?_ 6 _ rfl; (with_reducible repeat (first | refine blk_drewN ?_ _ | refine blk_drew ?_ | refine blk_alloc ?_ _)); refine blk_put (cs := #[.int .i64 t146, .int .i64 t147, .int .i64 t148, .int .i64 t149, .int .i64 t150, .int .i64 0, .int .i64 0, .int .i64 0]) ?_ 5 _ rfl; (with_reducible repeat (first | refine blk_drewN ?_ _ | refine blk_drew ?_ | refine blk_alloc ?_ _)); refine blk_put (cs := #[.int .i64 t146, .int .i64 t147, .int .i64 t148, .int .i64 t149, .int .i64 0, .int .i64 0, .int .i64 0, .int .i64 0]) ?_ 4 _ rfl; (with_reducible repeat (first | refine blk_drewN ?_ _ | refine blk_drew ?_ | refine blk_alloc ?_ _)); refine blk_put (cs := #[.int .i64 t146, .int .i64 t147, .int .i64 t148, .int .i64 0, .int .i64 0, .int .i64 0, .int .i64 0, .int .i64 0]) ?_ 3 _ rfl; (with_reducible repeat (first | refine blk_drewN ?_ _ | refine blk_drew ?_ | refine blk_alloc ?_ _)); refine blk_put (cs := #[.int .i64 t146, .int .i64 t147, .int .i64 0, .int .i64 0, .int .i64 0, .int .i64 0, .int .i64 0, .int .i64 0]) ?_ 2 _ rfl; (with_reducible repeat (first | refine blk_drewN ?_ _ | refine blk_drew ?_ | refine blk_alloc ?_ _)); refine blk_put (cs := #[.int .i64 t146, .int .i64 0, .int .i64 0, .int .i64 0, .int .i64 0, .int .i64 0, .int .i64 0, .int .i64 0]) ?_ 1 _ rfl; (with_reducible repeat (first | refine blk_drewN ?_ _ | refine blk_drew ?_ | refine blk_alloc ?_ _)); refine blk_put (cs := #[.int .i64 0, .int .i64 0, .int .i64 0, .int .i64 0, .int .i64 0, .int .i64 0, .int .i64 0, .int .i64 0]) ?_ 0 _ rfl; (with_reducible repeat (first | refine blk_drewN ?_ _ | refine blk_drew ?_ | refine blk_alloc ?_ _)); refine blk_far ?_ NB144_145.out _; (with_reducible repeat (first | refine blk_drewN ?_ _ | refine blk_drew ?_ | refine blk_alloc ?_ _)); refine blk_far ?_ NB144_145.out _; (with_reducible repeat (first | refine blk_drewN ?_ _ | refine blk_drew ?_ | refine blk_alloc ?_ _)); refine blk_far ?_ NB144_145.out _; (with_reducible repeat (first | refine blk_drewN ?_ _ | refine blk_drew ?_ | refine blk_alloc ?_ _)); refine blk_far ?_ NB144_145.out _; (with_reducible repeat (first | refine blk_drewN ?_ _ | refine blk_drew ?_ | refine blk_alloc ?_ _)); exact BK144.out) Try.underlying42 rfl (by kernel_rfl)) rfl ?_
  exact ⟨by first | rfl | (simp [errW_none, errW_some] <;> rfl) | (simp [*, errW_none, errW_some] <;> rfl), by repeat (first | (with_reducible first | exact HB.out | apply below_alloc | apply pw_below_drewN | apply below_drew1 | refine below_set ?_ GE143.out | refine below_set ?_ GE144.out | refine below_set ?_ GE145.out) | exact HB.out)⟩

/-! ### impl_within: function 60 -/
def impl_within.f (a0 : Int) (a1 : Int) (a2 : Int) : Option (Bool) := if a0 ≥ a1 then (some (decide (a0 ≤ a2))) else (some false)
set_option maxHeartbeats 8000000 in
set_option maxRecDepth 100000 in
theorem impl_within.calls (a0 : Int) (a1 : Int) (a2 : Int) (r : Bool) (w : World) (h : impl_within.f a0 a1 a2 = some r) :
    Calls Try.prog 60 #[.int .i64 a0, .int .i64 a1, .int .i64 a2] w fun e w' => e = .returned (.bool r) ∧ Drawn0 w w' := by
  have H : (if a0 ≥ a1 then (some (decide (a0 ≤ a2))) else (some false)) = some r := h
  clear h
  by_cases c4 : a0 ≥ a1
  · rw [if_pos c4] at H
    have c4b0 : decide (a1 ≤ a0) = true := decide_eq_true c4
    clear c4
    obtain rfl := Option.some.inj H
    go_enter Try.func60, Try.ntmps60
    go_wp2
    go_ret
    exact ⟨by first | rfl | (simp; done) | (simp [*]; done), by repeat (first | exact Drawn0.refl _ | apply Drawn0.step)⟩
  · rw [if_neg c4] at H
    have c4b0 : decide (a1 ≤ a0) = false := decide_eq_false c4
    clear c4
    obtain rfl := Option.some.inj H
    go_enter Try.func60, Try.ntmps60
    go_wp2
    go_ret
    exact ⟨by first | rfl | (simp; done) | (simp [*]; done), by repeat (first | exact Drawn0.refl _ | apply Drawn0.step)⟩

end Go.Proofs.Ytgldplkbacfacaa.MFnExactEightTerms
