/- Functions as Lean functions, with proofs. By a program of this session. -/
import Derived.Test.YtgldplkbacfacaaMFnEightsx0
import Derived.Test.YtgldplkbacfacaaMFnEightsx3
import Derived.Test.YtgldplkbacfacaaMFnEightsx4
import Derived.Test.YtgldplkbacfacaaMFnEightsx5
import Derived.Test.YtgldplkbacfacaaMFnEightsx6
namespace Go.Proofs.Ytgldplkbacfacaa.MFnEights
open Go.RowKit Go.Proofs.Ytgldplkbacfacaa.MOpen Go.Proofs.YtgldplkbacfacaaW.PrintWords Go.Proofs.YtgldplkbacfacaaW.PrintLast Go.Proofs.YtgldplkbacfacaaW.PrintMore
attribute [local go_sem] max2_int min2_int max_two min_two max_three min_three max_four min_four
set_option linter.unusedVariables false
set_option linter.unusedSimpArgs false
set_option maxHeartbeats 32000000
set_option maxRecDepth 100000

theorem E8_Lf {k k1 : Nat} {xs ys : List Int} {A1_ A2_ : Option Addr} {c1_ c2_ : Nat} {s : ESt} {w wc : World} {T0 T1 T2 T3 L0 L1 L2 L3 i j : Int} {lf : Bool} {ms : List S52} {gs : List Int} {R : Ending → World → Prop} {J : Nat → Act → World → Prop} {K2 K3 : Act → World → Prop} {c0 c4 c5 c18 c19 c214 : Value} {x0 x1 x2 x3 : Int} {o0 o1 o2 o3 : Bool} {u6 u11 u12 u13 u14 u16 u17 u20 u21 u22 u23 u24 u25 u26 u27 u28 u29 u30 u31 u32 u33 u34 u35 u36 u37 u38 u39 u40 u41 u42 u43 u44 u45 u46 u47 u48 u49 u50 u51 u52 u53 u54 u55 u56 u57 u58 u59 u60 u61 u62 u63 u64 u65 u66 u67 u68 u69 u70 u71 u72 u73 u74 u75 u76 u77 u78 u79 u80 u81 u82 u83 u84 u85 u86 u87 u88 u89 u90 u91 u92 u93 u94 u95 u96 u97 u98 u99 u100 u101 u102 u103 u104 u105 u106 u107 u108 u109 u110 u111 u112 u113 u114 u115 u116 u117 u118 u119 u120 u121 u122 u123 u124 u125 u126 u127 u128 u129 u130 u131 u132 u133 u134 u135 u136 u137 u138 u139 u140 u141 u142 u143 u144 u145 u146 u147 u148 u149 u150 u151 u152 u153 u154 u155 u156 u157 u158 u159 u160 u161 u162 u163 u164 u165 u166 u167 u168 u169 u170 u171 u172 u173 u174 u175 u176 u177 u178 u179 u180 u181 u182 u183 u184 u185 u186 u187 u188 u189 u190 u191 u192 u193 u194 u195 u196 u197 u198 u199 u200 u201 u202 u203 u204 u205 u206 u207 u208 u209 u210 u211 u212 u213 : Value} (hJ : HJ44 k xs ys A1_ A2_ c1_ c2_ s w J c0 c4 c5 c18 c19 c214) (hK : ∀ (a' : Act) (w' : World), Handed J (k1 + 1) a' w' → K2 a' w') (HR : Aside0 ((Kd.int .i64).C w A1_ xs.length xs)) (HR2 : Aside0 ((Kd.int .i64).C w A2_ ys.length ys)) (HC : Aside0 (xs.length ≤ c1_)) (HC2 : Aside0 (ys.length ≤ c2_)) (CB : Aside0 (((ms.length < 1000000 ∧ gs.length < 1000000) ∧ 0 ≤ i ∧ i < 1000000 ∧ 0 ≤ j ∧ j < 1000000) ∧ xs.length < 1000000 ∧ ys.length < 1000000)) (hti0 : 0 ≤ i) (hti2 : i < 1000000) (htj0 : 0 ≤ j) (htj2 : j < 1000000) (X0 : Aside0 (HB8 89 w.heap.size w wc (w.heap.size + 1) ms gs true [(w.heap.size, #[.int .i64 T0, .int .i64 T1, .int .i64 T2, .int .i64 T3, .int .i64 L0, .int .i64 L1, .int .i64 L2, .int .i64 L3], 42)])) (cl : i < (xs.length : Int)) (H0 : Aside0 (specC true T0 (rd xs i) T2 = some (x0, o0))) (H1 : Aside0 (specC o0 T1 (rd xs i) T3 = some (x1, o1))) (H2 : Aside0 (specC o1 L0 (rd xs i) L2 = some (x2, o2))) (H3 : Aside0 (specC o2 L1 (rd xs i) L3 = some (x3, o3))) (HN : Aside0 (runE k xs ys k1 ⟨x0, x1, T0, T1, x2, x3, L0, L1, i + 1, j, !lf, ms ++ [⟨2, rd xs i⟩], gs, o3⟩ = some s)) (HK1 : Aside0 (k1 + 1 ≤ k)) :
    Code.wp Try.prog (tl44 23) (Exit.inBlock 1 (Exit.then K2 (Exit.inBlock 0 (Exit.then K3 (bodyPost Try.prog Try.f44 R))))) ⟨List.toArray (q20 c0 (.slice A1_ xs.length c1_) (.slice A2_ ys.length c2_) (.pointer (some ⟨w.heap.size, 0, none⟩)) c4 c5 u6 (.pointer (some ⟨w.heap.size + 1, 0, none⟩)) (.int .i64 i) (.int .i64 j) (.bool (!lf)) u11 u12 u13 u14 (.bool true) u16 u17 c18 c19 (q20 u20 u21 u22 u23 u24 u25 u26 u27 u28 u29 u30 u31 u32 u33 u34 u35 u36 u37 u38 u39 (q20 u40 u41 u42 u43 u44 u45 u46 u47 u48 u49 u50 u51 u52 u53 u54 u55 u56 u57 u58 u59 (q20 u60 u61 u62 u63 u64 u65 u66 u67 u68 u69 u70 u71 u72 u73 u74 u75 u76 u77 u78 u79 (q20 u80 u81 u82 u83 u84 u85 u86 u87 u88 u89 u90 u91 u92 u93 u94 u95 u96 u97 u98 u99 (q20 u100 u101 u102 u103 u104 u105 u106 u107 u108 u109 u110 u111 u112 u113 u114 u115 u116 u117 u118 u119 (q20 u120 u121 u122 u123 u124 u125 u126 u127 u128 u129 u130 u131 u132 u133 u134 u135 u136 u137 u138 u139 (q20 u140 u141 u142 u143 u144 u145 u146 u147 u148 u149 u150 u151 u152 u153 u154 u155 u156 u157 u158 u159 (q20 u160 u161 u162 u163 u164 u165 u166 u167 u168 u169 u170 u171 u172 u173 u174 u175 u176 u177 u178 u179 (q20 u180 u181 u182 u183 u184 u185 u186 u187 u188 u189 u190 u191 u192 u193 u194 u195 u196 u197 u198 u199 (u200 :: u201 :: u202 :: u203 :: u204 :: u205 :: u206 :: u207 :: u208 :: u209 :: u210 :: u211 :: u212 :: u213 :: c214 :: []))))))))))), []⟩ wc := by
  have hu42 := Try.underlying42
  have hu38 := Try.underlying38
  conv => arg 2; whnf
  unfold q20
  unfold HJ44 at hJ
  obtain ⟨⟨q0w0, q1w0, q2w0, q3w0, q4w0, q5w0, q6w0, q7w0⟩, z0w0, z1w0, z2w0, z3w0, z4w0, z5w0, z6w0, z7w0⟩ := cells8 X0.out.at0
  have f4 : decide (i < (xs.length : Int)) = true := decide_eq_true cl
  obtain ⟨ad, e0_, hx0⟩ := Kd.at_int HR.out i (by omega) (by omega)
  cases e0_
  have HX0 := Aside0.mk hx0
  clear hx0
  have p0 := eq_true hti0
  have p1 := eq_true cl
  clear cl
  have hxi := (X0.out.bel.cell (World.block_lt_of_cell? w _ HX0.out)).trans HX0.out
  go_wp2
  have XD := Aside0.mk X0.out.drew
  refine start_ (n := 12) (S := fun w' => w'.cell? ⟨w.heap.size, 0, none⟩ = some (.int .i64 T0) ∧ w'.cell? ⟨w.heap.size, 1, none⟩ = some (.int .i64 T1) ∧ w'.cell? ⟨w.heap.size, 2, none⟩ = some (.int .i64 T2) ∧ w'.cell? ⟨w.heap.size, 3, none⟩ = some (.int .i64 T3) ∧ w'.cell? ⟨w.heap.size, 4, none⟩ = some (.int .i64 L0) ∧ w'.cell? ⟨w.heap.size, 5, none⟩ = some (.int .i64 L1) ∧ w'.cell? ⟨w.heap.size, 6, none⟩ = some (.int .i64 L2) ∧ w'.cell? ⟨w.heap.size, 7, none⟩ = some (.int .i64 L3)) (ds := [11]) #[false, false, false, false, false, false, false, false, false, false, false, false] (by kernel_rfl) rfl rfl ⟨(blk_cell XD.out.at0 0).trans rfl, (blk_cell XD.out.at0 1).trans rfl, (blk_cell XD.out.at0 2).trans rfl, (blk_cell XD.out.at0 3).trans rfl, (blk_cell XD.out.at0 4).trans rfl, (blk_cell XD.out.at0 5).trans rfl, (blk_cell XD.out.at0 6).trans rfl, (blk_cell XD.out.at0 7).trans rfl⟩ (fun hHeld => ?_)
  refine pure_ (i := 0) (N := some 104) (v := ?_) (a' := ?_) #[true, false, false, false, false, false, false, false, false, false, false, false] rfl rfl (by kernel_rfl) (fun _ _ _ h => h) (Or.inl ⟨by rfl, ?_⟩) ?_ ?_
  rotate_left
  · intro w'
    go_simp
    with_reducible rfl
  rotate_left
  · simp only [Act.put, sa_, sz_, ss_, i64_w, i32_w]
    rfl
  refine pure_ (i := 1) (N := some 105) (v := ?_) (a' := ?_) #[true, true, false, false, false, false, false, false, false, false, false, false] rfl rfl (by kernel_rfl) (fun _ _ _ h => h) (Or.inl ⟨by rfl, ?_⟩) ?_ ?_
  rotate_left
  · intro w'
    go_simp
    with_reducible rfl
  rotate_left
  · simp only [Act.put, sa_, sz_, ss_, i64_w, i32_w]
    rfl
  refine pure_ (i := 3) (N := some 107) (v := ?_) (a' := ?_) #[true, true, false, true, false, false, false, false, false, false, false, false] rfl rfl (by kernel_rfl) (fun _ _ _ h => h) (Or.inl ⟨by rfl, ?_⟩) ?_ ?_
  rotate_left
  · intro w'
    go_simp
    with_reducible rfl
  rotate_left
  · simp only [Act.put, sa_, sz_, ss_, i64_w, i32_w]
    rfl
  refine pure_ (i := 5) (N := some 109) (v := ?_) (a' := ?_) #[true, true, false, true, false, true, false, false, false, false, false, false] rfl rfl (by kernel_rfl) (fun _ _ _ h => h) (Or.inl ⟨by rfl, ?_⟩) ?_ ?_
  rotate_left
  · intro w'
    go_simp
    with_reducible rfl
  rotate_left
  · simp only [Act.put, sa_, sz_, ss_, i64_w, i32_w]
    rfl
  refine pure_ (i := 6) (N := some 110) (v := ?_) (a' := ?_) #[true, true, false, true, false, true, true, false, false, false, false, false] rfl rfl (by kernel_rfl) (fun _ _ _ h => h) (Or.inl ⟨by rfl, ?_⟩) ?_ ?_
  rotate_left
  · intro w'
    go_simp
    with_reducible rfl
  rotate_left
  · simp only [Act.put, sa_, sz_, ss_, i64_w, i32_w]
    rfl
  refine pure_ (i := 8) (N := some 112) (v := ?_) (a' := ?_) #[true, true, false, true, false, true, true, false, true, false, false, false] rfl rfl (by kernel_rfl) (fun _ _ _ h => h) (Or.inl ⟨by rfl, ?_⟩) ?_ ?_
  rotate_left
  · intro w'
    go_simp
    with_reducible rfl
  rotate_left
  · simp only [Act.put, sa_, sz_, ss_, i64_w, i32_w]
    rfl
  refine take_ (i := 2) (N := some 106) (v := ?_) (a' := ?_) #[true, true, true, true, false, true, true, false, true, false, false, false] rfl rfl (by kernel_rfl) (fun _ _ _ h => h) (Or.inl ⟨by rfl, ?_⟩) hHeld ?_ ?_
  rotate_left
  · rintro w' ⟨s0, s1, s2, s3, s4, s5, s6, s7⟩
    go_simp
    with_reducible rfl
  rotate_left
  · simp only [Act.put, sa_, sz_, ss_, i64_w, i32_w]
    rfl
  refine take_ (i := 7) (N := some 111) (v := ?_) (a' := ?_) #[true, true, true, true, false, true, true, true, true, false, false, false] rfl rfl (by kernel_rfl) (fun _ _ _ h => h) (Or.inl ⟨by rfl, ?_⟩) hHeld ?_ ?_
  rotate_left
  · rintro w' ⟨s0, s1, s2, s3, s4, s5, s6, s7⟩
    go_simp
    with_reducible rfl
  rotate_left
  · simp only [Act.put, sa_, sz_, ss_, i64_w, i32_w]
    rfl
  refine one_ (i := 4) (N := some 108) #[true, true, true, true, true, true, true, true, true, false, false, false] rfl rfl (by kernel_rfl) (by decide) (fun K hK => ?_)
  refine goes_ Try.func64 (by kernel_rfl) rfl #[.pointer (some ⟨w.heap.size + 1, 0, none⟩), .agg #[.int .i64 T0, .int .i64 T1, .int .i64 T2, .int .i64 T3], .int .i64 (rd xs i)] (by rfl) rfl rfl (by simp only [List.map_toArray, List.map_cons, List.map_nil]; rfl) ?_
  with_reducible refine (HB8.left XD.out H0.out H1.out).mono ?_
  rintro e w4 ⟨rfl, hX⟩
  refine ⟨_, rfl, ?_⟩
  have X4 := Aside0.mk hX
  clear hX
  refine hK.out _ _ ⟨(blk_cell X4.out.at0 0).trans rfl, (blk_cell X4.out.at0 1).trans rfl, (blk_cell X4.out.at0 2).trans rfl, (blk_cell X4.out.at0 3).trans rfl, (blk_cell X4.out.at0 4).trans rfl, (blk_cell X4.out.at0 5).trans rfl, (blk_cell X4.out.at0 6).trans rfl, (blk_cell X4.out.at0 7).trans rfl⟩ (fun hHeld => ?_)
  clear hK K
  refine norm_ (a' := ?_) ?_ ?_
  rotate_left
  · show Act.put _ (some 108) _ = _
    simp only [Act.put, sa_, sz_, ss_, i64_w, i32_w]
    rfl
  refine one_ (i := 9) (N := some 113) #[true, true, true, true, true, true, true, true, true, true, false, false] rfl rfl (by kernel_rfl) (by decide) (fun K hK => ?_)
  refine goes_ Try.func64 (by kernel_rfl) rfl #[.pointer (some ⟨w.heap.size + 1, 0, none⟩), .agg #[.int .i64 L0, .int .i64 L1, .int .i64 L2, .int .i64 L3], .int .i64 (rd xs i)] (by rfl) rfl rfl (by simp only [List.map_toArray, List.map_cons, List.map_nil]; rfl) ?_
  with_reducible refine (HB8.left X4.out H2.out H3.out).mono ?_
  rintro e w5 ⟨rfl, hX⟩
  refine ⟨_, rfl, ?_⟩
  have X5 := Aside0.mk hX
  clear hX
  refine hK.out _ _ ⟨(blk_cell X5.out.at0 0).trans rfl, (blk_cell X5.out.at0 1).trans rfl, (blk_cell X5.out.at0 2).trans rfl, (blk_cell X5.out.at0 3).trans rfl, (blk_cell X5.out.at0 4).trans rfl, (blk_cell X5.out.at0 5).trans rfl, (blk_cell X5.out.at0 6).trans rfl, (blk_cell X5.out.at0 7).trans rfl⟩ (fun hHeld => ?_)
  clear hK K
  refine norm_ (a' := ?_) ?_ ?_
  rotate_left
  · show Act.put _ (some 113) _ = _
    simp only [Act.put, sa_, sz_, ss_, i64_w, i32_w]
    rfl
  refine pure_ (i := 10) (N := some 114) (v := ?_) (a' := ?_) #[true, true, true, true, true, true, true, true, true, true, true, false] rfl rfl (by kernel_rfl) (fun _ _ _ h => h) (Or.inl ⟨by rfl, ?_⟩) ?_ ?_
  rotate_left
  · intro w'
    go_simp
    with_reducible rfl
  rotate_left
  · simp only [Act.put, sa_, sz_, ss_, i64_w, i32_w]
    rfl
  refine last_store_ (i := 11) (w1 := (World.setCell (World.setCell (World.setCell (World.setCell (World.setCell (World.setCell (World.setCell (World.setCell w5 ⟨w.heap.size, 0, none⟩ (.int .i64 x0)) ⟨w.heap.size, 1, none⟩ (.int .i64 x1)) ⟨w.heap.size, 2, none⟩ (.int .i64 T0)) ⟨w.heap.size, 3, none⟩ (.int .i64 T1)) ⟨w.heap.size, 4, none⟩ (.int .i64 x2)) ⟨w.heap.size, 5, none⟩ (.int .i64 x3)) ⟨w.heap.size, 6, none⟩ (.int .i64 L0)) ⟨w.heap.size, 7, none⟩ (.int .i64 L1))) #[true, true, true, true, true, true, true, true, true, true, true, true] rfl rfl (by kernel_rfl) (by decide) (by rfl) (run_put8_ rfl (show _ = Value.pointer (some ⟨w.heap.size, 0, none⟩) from by rfl) (show _ = Value.agg #[.int .i64 x0, .int .i64 x1, .int .i64 T0, .int .i64 T1, .int .i64 x2, .int .i64 x3, .int .i64 L0, .int .i64 L1] from by rfl) X5.out.at0 (by kernel_rfl) (by rfl)) ?_
  refine done_ (by kernel_rfl) ?_
  generalize hw6 : (World.setCell (World.setCell (World.setCell (World.setCell (World.setCell (World.setCell (World.setCell (World.setCell w5 ⟨w.heap.size, 0, none⟩ (.int .i64 x0)) ⟨w.heap.size, 1, none⟩ (.int .i64 x1)) ⟨w.heap.size, 2, none⟩ (.int .i64 T0)) ⟨w.heap.size, 3, none⟩ (.int .i64 T1)) ⟨w.heap.size, 4, none⟩ (.int .i64 x2)) ⟨w.heap.size, 5, none⟩ (.int .i64 x3)) ⟨w.heap.size, 6, none⟩ (.int .i64 L0)) ⟨w.heap.size, 7, none⟩ (.int .i64 L1)) = w6
  have X6 := Aside0.mk (X5.out.put8_0 (by intro p hp; cases hp) hw6.symm)
  clear hw6 q0w0 q1w0 q2w0 q3w0 q4w0 q5w0 q6w0 q7w0 z0w0 z1w0 z2w0 z3w0 z4w0 z5w0 z6w0 z7w0 X0 XD X4 X5
  obtain ⟨mv, gv, hMw⟩ := Mw.start (by decide) X6.out.n X6.out.bel X6.out.sz
  have M0 := Aside0.mk hMw
  clear hMw
  have m0v := M0.out.x0
  have m1v := M0.out.x1
  go_wp2_with (first | ((with_reducible refine gate_builtin (b := .append) (xs := #[.tmp 146, .tmp 149]) rfl ?_); at_builtin; refine Kd.R_append k52 (w0 := w) w.heap.size rfl (.tmp 146) (.tmp 149) 33 52 (.agg #[(.int .i8 0), (.int .i64 0)]) 16 rfl Try.underlying33 info52_ rfl (by decide) (by omega) mv ms (⟨2, (rd xs i)⟩ : S52) [.int .i8 2, .int .i64 (rd xs i)] (fun _ => True) (fun _ => False) rfl rfl ?aP (fun _ hk => hk.elim) ?aF ?aO ?aB ?aS ?aL ?_; (case aP => exact k52_mkM _ _ _ (⟨2, (rd xs i)⟩ : S52)); (case aB => exact M0.out.bel); (case aF => exact (fun _ _ => trivial)); (case aO => exact M0.out.m); (case aS => exact M0.out.sz); (case aL => have := CB.out.1.1.1; omega); intro v_ u1 ho hb1 hg1 hat; obtain ⟨Au1, cu1, rfl⟩ := Kd.R_slice ho; have M1 := Aside0.mk (M0.out.appM ho hb1 hg1); clear ho hb1 hg1 hat M0; have x0u1 := M1.out.x0; have x1u1 := M1.out.x1; have x2u1 := M1.out.x2; have f0u1 := M1.out.fr 0; have f1u1 := M1.out.fr 1; have f2u1 := M1.out.fr 2) | ((with_reducible refine gate_store (t := 33) (p := 152) rfl ?_); refine store_event (t := 33) (p := 152) (v := ?vo_u2_9) (w1 := (u1.setCell ⟨w.heap.size + 1, 0, none⟩ (.slice Au1 (ms.length + 1) cu1))) ?hg ?ho ?hn ?hr ?_; (case ho => rfl); (case hg => rfl); (case hn => rfl); (case hr => first | (go_simp; done) | (go_simp; rfl)); intro u2 hw; have M2 := Aside0.mk (M1.out.set0 hw); clear hw M1; have x0u2 := M2.out.x0; have x1u2 := M2.out.x1; have x2u2 := M2.out.x2; have f0u2 := M2.out.fr 0; have f1u2 := M2.out.fr 1; have f2u2 := M2.out.fr 2; have XE := Aside0.mk (X6.out.note (M2.out.done' (by simp) (by simp) rfl).1 (M2.out.done' (by simp) (by simp) rfl).2.1 (M2.out.done' (by simp) (by simp) rfl).2.2); clear M2))
  go_roundg k1
  case measure => omega
  case rel => exact ⟨⟨x0, x1, T0, T1, x2, x3, L0, L1, i + 1, j, !lf, ms ++ [⟨2, (rd xs i)⟩], gs, o3⟩, rfl, rfl, rfl, HN, ⟨by have := HK1.out; omega⟩, XE⟩
theorem E8_Li {k k1 : Nat} {xs ys : List Int} {A1_ A2_ : Option Addr} {c1_ c2_ : Nat} {s : ESt} {w wc : World} {T0 T1 T2 T3 L0 L1 L2 L3 i j : Int} {lf : Bool} {ms : List S52} {gs : List Int} {R : Ending → World → Prop} {J : Nat → Act → World → Prop} {K2 K3 : Act → World → Prop} {c0 c4 c5 c18 c19 c214 : Value} {u6 u11 u12 u13 u14 u16 u17 u20 u21 u22 u23 u24 u25 u26 u27 u28 u29 u30 u31 u32 u33 u34 u35 u36 u37 u38 u39 u40 u41 u42 u43 u44 u45 u46 u47 u48 u49 u50 u51 u52 u53 u54 u55 u56 u57 u58 u59 u60 u61 u62 u63 u64 u65 u66 u67 u68 u69 u70 u71 u72 u73 u74 u75 u76 u77 u78 u79 u80 u81 u82 u83 u84 u85 u86 u87 u88 u89 u90 u91 u92 u93 u94 u95 u96 u97 u98 u99 u100 u101 u102 u103 u104 u105 u106 u107 u108 u109 u110 u111 u112 u113 u114 u115 u116 u117 u118 u119 u120 u121 u122 u123 u124 u125 u126 u127 u128 u129 u130 u131 u132 u133 u134 u135 u136 u137 u138 u139 u140 u141 u142 u143 u144 u145 u146 u147 u148 u149 u150 u151 u152 u153 u154 u155 u156 u157 u158 u159 u160 u161 u162 u163 u164 u165 u166 u167 u168 u169 u170 u171 u172 u173 u174 u175 u176 u177 u178 u179 u180 u181 u182 u183 u184 u185 u186 u187 u188 u189 u190 u191 u192 u193 u194 u195 u196 u197 u198 u199 u200 u201 u202 u203 u204 u205 u206 u207 u208 u209 u210 u211 u212 u213 : Value} (hJ : HJ44 k xs ys A1_ A2_ c1_ c2_ s w J c0 c4 c5 c18 c19 c214) (hK : ∀ (a' : Act) (w' : World), Handed J (k1 + 1) a' w' → K2 a' w') (HR : Aside0 ((Kd.int .i64).C w A1_ xs.length xs)) (HR2 : Aside0 ((Kd.int .i64).C w A2_ ys.length ys)) (HC : Aside0 (xs.length ≤ c1_)) (HC2 : Aside0 (ys.length ≤ c2_)) (CB : Aside0 (((ms.length < 1000000 ∧ gs.length < 1000000) ∧ 0 ≤ i ∧ i < 1000000 ∧ 0 ≤ j ∧ j < 1000000) ∧ xs.length < 1000000 ∧ ys.length < 1000000)) (hti0 : 0 ≤ i) (hti2 : i < 1000000) (htj0 : 0 ≤ j) (htj2 : j < 1000000) (X0 : Aside0 (HB8 89 w.heap.size w wc (w.heap.size + 1) ms gs true [(w.heap.size, #[.int .i64 T0, .int .i64 T1, .int .i64 T2, .int .i64 T3, .int .i64 L0, .int .i64 L1, .int .i64 L2, .int .i64 L3], 42)])) (cl : ¬ i < (xs.length : Int)) (HN : Aside0 (runE k xs ys k1 ⟨T0, T1, T0, T1, L0, L1, L0, L1, i + 1, j, !lf, ms ++ [⟨2, 0⟩], gs, true⟩ = some s)) (HK1 : Aside0 (k1 + 1 ≤ k)) :
    Code.wp Try.prog (tl44 23) (Exit.inBlock 1 (Exit.then K2 (Exit.inBlock 0 (Exit.then K3 (bodyPost Try.prog Try.f44 R))))) ⟨List.toArray (q20 c0 (.slice A1_ xs.length c1_) (.slice A2_ ys.length c2_) (.pointer (some ⟨w.heap.size, 0, none⟩)) c4 c5 u6 (.pointer (some ⟨w.heap.size + 1, 0, none⟩)) (.int .i64 i) (.int .i64 j) (.bool (!lf)) u11 u12 u13 u14 (.bool true) u16 u17 c18 c19 (q20 u20 u21 u22 u23 u24 u25 u26 u27 u28 u29 u30 u31 u32 u33 u34 u35 u36 u37 u38 u39 (q20 u40 u41 u42 u43 u44 u45 u46 u47 u48 u49 u50 u51 u52 u53 u54 u55 u56 u57 u58 u59 (q20 u60 u61 u62 u63 u64 u65 u66 u67 u68 u69 u70 u71 u72 u73 u74 u75 u76 u77 u78 u79 (q20 u80 u81 u82 u83 u84 u85 u86 u87 u88 u89 u90 u91 u92 u93 u94 u95 u96 u97 u98 u99 (q20 u100 u101 u102 u103 u104 u105 u106 u107 u108 u109 u110 u111 u112 u113 u114 u115 u116 u117 u118 u119 (q20 u120 u121 u122 u123 u124 u125 u126 u127 u128 u129 u130 u131 u132 u133 u134 u135 u136 u137 u138 u139 (q20 u140 u141 u142 u143 u144 u145 u146 u147 u148 u149 u150 u151 u152 u153 u154 u155 u156 u157 u158 u159 (q20 u160 u161 u162 u163 u164 u165 u166 u167 u168 u169 u170 u171 u172 u173 u174 u175 u176 u177 u178 u179 (q20 u180 u181 u182 u183 u184 u185 u186 u187 u188 u189 u190 u191 u192 u193 u194 u195 u196 u197 u198 u199 (u200 :: u201 :: u202 :: u203 :: u204 :: u205 :: u206 :: u207 :: u208 :: u209 :: u210 :: u211 :: u212 :: u213 :: c214 :: []))))))))))), []⟩ wc := by
  have hu42 := Try.underlying42
  have hu38 := Try.underlying38
  conv => arg 2; whnf
  unfold q20
  unfold HJ44 at hJ
  obtain ⟨⟨q0w0, q1w0, q2w0, q3w0, q4w0, q5w0, q6w0, q7w0⟩, z0w0, z1w0, z2w0, z3w0, z4w0, z5w0, z6w0, z7w0⟩ := cells8 X0.out.at0
  have f4 : decide (i < (xs.length : Int)) = false := decide_eq_false cl
  clear cl
  go_wp2_with (first | ((with_reducible refine gate_store (t := 42) (p := 3) rfl ?_); refine store_event (t := 42) (p := 3) (v := ?vo_w4_10) (w1 := (World.setCell (World.setCell (World.setCell (World.setCell (World.setCell (World.setCell (World.setCell (World.setCell wc ⟨w.heap.size, 0, none⟩ (.int .i64 T0)) ⟨w.heap.size, 1, none⟩ (.int .i64 T1)) ⟨w.heap.size, 2, none⟩ (.int .i64 T0)) ⟨w.heap.size, 3, none⟩ (.int .i64 T1)) ⟨w.heap.size, 4, none⟩ (.int .i64 L0)) ⟨w.heap.size, 5, none⟩ (.int .i64 L1)) ⟨w.heap.size, 6, none⟩ (.int .i64 L0)) ⟨w.heap.size, 7, none⟩ (.int .i64 L1))) ?hg ?ho ?hn ?hr ?_; (case ho => rfl); (case hg => rfl); (case hn => rfl); (case hr => first | (go_simp; done) | (go_simp; rfl)); intro w4 hw; have X4 := Aside0.mk (X0.out.put8_0 (by intro p hp; cases hp) hw); clear hw; obtain ⟨⟨q0w4, q1w4, q2w4, q3w4, q4w4, q5w4, q6w4, q7w4⟩, z0w4, z1w4, z2w4, z3w4, z4w4, z5w4, z6w4, z7w4⟩ := cells8 X4.out.at0; obtain ⟨mv, gv, hMw⟩ := Mw.start (by decide) X4.out.n X4.out.bel X4.out.sz; have M0 := Aside0.mk hMw; clear hMw; have m0v := M0.out.x0; have m1v := M0.out.x1) | ((with_reducible refine gate_builtin (b := .append) (xs := #[.tmp 146, .tmp 149]) rfl ?_); at_builtin; refine Kd.R_append k52 (w0 := w) w.heap.size rfl (.tmp 146) (.tmp 149) 33 52 (.agg #[(.int .i8 0), (.int .i64 0)]) 16 rfl Try.underlying33 info52_ rfl (by decide) (by omega) mv ms (⟨2, 0⟩ : S52) [.int .i8 2, .int .i64 0] (fun _ => True) (fun _ => False) rfl rfl ?aP (fun _ hk => hk.elim) ?aF ?aO ?aB ?aS ?aL ?_; (case aP => exact k52_mkM _ _ _ (⟨2, 0⟩ : S52)); (case aB => exact M0.out.bel); (case aF => exact (fun _ _ => trivial)); (case aO => exact M0.out.m); (case aS => exact M0.out.sz); (case aL => have := CB.out.1.1.1; omega); intro v_ u1 ho hb1 hg1 hat; obtain ⟨Au1, cu1, rfl⟩ := Kd.R_slice ho; have M1 := Aside0.mk (M0.out.appM ho hb1 hg1); clear ho hb1 hg1 hat M0; have x0u1 := M1.out.x0; have x1u1 := M1.out.x1; have x2u1 := M1.out.x2; have f0u1 := M1.out.fr 0; have f1u1 := M1.out.fr 1; have f2u1 := M1.out.fr 2) | ((with_reducible refine gate_store (t := 33) (p := 152) rfl ?_); refine store_event (t := 33) (p := 152) (v := ?vo_u2_11) (w1 := (u1.setCell ⟨w.heap.size + 1, 0, none⟩ (.slice Au1 (ms.length + 1) cu1))) ?hg ?ho ?hn ?hr ?_; (case ho => rfl); (case hg => rfl); (case hn => rfl); (case hr => first | (go_simp; done) | (go_simp; rfl)); intro u2 hw; have M2 := Aside0.mk (M1.out.set0 hw); clear hw M1; have x0u2 := M2.out.x0; have x1u2 := M2.out.x1; have x2u2 := M2.out.x2; have f0u2 := M2.out.fr 0; have f1u2 := M2.out.fr 1; have f2u2 := M2.out.fr 2; have XE := Aside0.mk (X4.out.note (M2.out.done' (by simp) (by simp) rfl).1 (M2.out.done' (by simp) (by simp) rfl).2.1 (M2.out.done' (by simp) (by simp) rfl).2.2); clear M2))
  go_roundg k1
  case measure => omega
  case rel => exact ⟨⟨T0, T1, T0, T1, L0, L1, L0, L1, i + 1, j, !lf, ms ++ [⟨2, 0⟩], gs, true⟩, rfl, rfl, rfl, HN, ⟨by have := HK1.out; omega⟩, XE⟩
theorem E8_Rf {k k1 : Nat} {xs ys : List Int} {A1_ A2_ : Option Addr} {c1_ c2_ : Nat} {s : ESt} {w wc : World} {T0 T1 T2 T3 L0 L1 L2 L3 i j : Int} {lf : Bool} {ms : List S52} {gs : List Int} {R : Ending → World → Prop} {J : Nat → Act → World → Prop} {K2 K3 : Act → World → Prop} {c0 c4 c5 c18 c19 c214 : Value} {x0 x1 x2 x3 : Int} {o0 o1 o2 o3 : Bool} {u6 u11 u12 u13 u14 u16 u17 u20 u21 u22 u23 u24 u25 u26 u27 u28 u29 u30 u31 u32 u33 u34 u35 u36 u37 u38 u39 u40 u41 u42 u43 u44 u45 u46 u47 u48 u49 u50 u51 u52 u53 u54 u55 u56 u57 u58 u59 u60 u61 u62 u63 u64 u65 u66 u67 u68 u69 u70 u71 u72 u73 u74 u75 u76 u77 u78 u79 u80 u81 u82 u83 u84 u85 u86 u87 u88 u89 u90 u91 u92 u93 u94 u95 u96 u97 u98 u99 u100 u101 u102 u103 u104 u105 u106 u107 u108 u109 u110 u111 u112 u113 u114 u115 u116 u117 u118 u119 u120 u121 u122 u123 u124 u125 u126 u127 u128 u129 u130 u131 u132 u133 u134 u135 u136 u137 u138 u139 u140 u141 u142 u143 u144 u145 u146 u147 u148 u149 u150 u151 u152 u153 u154 u155 u156 u157 u158 u159 u160 u161 u162 u163 u164 u165 u166 u167 u168 u169 u170 u171 u172 u173 u174 u175 u176 u177 u178 u179 u180 u181 u182 u183 u184 u185 u186 u187 u188 u189 u190 u191 u192 u193 u194 u195 u196 u197 u198 u199 u200 u201 u202 u203 u204 u205 u206 u207 u208 u209 u210 u211 u212 u213 : Value} (hJ : HJ44 k xs ys A1_ A2_ c1_ c2_ s w J c0 c4 c5 c18 c19 c214) (hK : ∀ (a' : Act) (w' : World), Handed J (k1 + 1) a' w' → K2 a' w') (HR : Aside0 ((Kd.int .i64).C w A1_ xs.length xs)) (HR2 : Aside0 ((Kd.int .i64).C w A2_ ys.length ys)) (HC : Aside0 (xs.length ≤ c1_)) (HC2 : Aside0 (ys.length ≤ c2_)) (CB : Aside0 (((ms.length < 1000000 ∧ gs.length < 1000000) ∧ 0 ≤ i ∧ i < 1000000 ∧ 0 ≤ j ∧ j < 1000000) ∧ xs.length < 1000000 ∧ ys.length < 1000000)) (hti0 : 0 ≤ i) (hti2 : i < 1000000) (htj0 : 0 ≤ j) (htj2 : j < 1000000) (X0 : Aside0 (HB8 89 w.heap.size w wc (w.heap.size + 1) ms gs true [(w.heap.size, #[.int .i64 T0, .int .i64 T1, .int .i64 T2, .int .i64 T3, .int .i64 L0, .int .i64 L1, .int .i64 L2, .int .i64 L3], 42)])) (cl : j < (ys.length : Int)) (H0 : Aside0 (specC true T0 (rd ys j) T1 = some (x0, o0))) (H1 : Aside0 (specC o0 T2 (rd ys j) T3 = some (x1, o1))) (H2 : Aside0 (specC o1 L0 (rd ys j) L1 = some (x2, o2))) (H3 : Aside0 (specC o2 L2 (rd ys j) L3 = some (x3, o3))) (HN : Aside0 (runE k xs ys k1 ⟨x0, T0, x1, T2, x2, L0, x3, L2, i, j + 1, !lf, ms ++ [⟨3, rd ys j⟩], gs, o3⟩ = some s)) (HK1 : Aside0 (k1 + 1 ≤ k)) :
    Code.wp Try.prog (tl44 23) (Exit.inBlock 1 (Exit.then K2 (Exit.inBlock 0 (Exit.then K3 (bodyPost Try.prog Try.f44 R))))) ⟨List.toArray (q20 c0 (.slice A1_ xs.length c1_) (.slice A2_ ys.length c2_) (.pointer (some ⟨w.heap.size, 0, none⟩)) c4 c5 u6 (.pointer (some ⟨w.heap.size + 1, 0, none⟩)) (.int .i64 i) (.int .i64 j) (.bool (!lf)) u11 u12 u13 u14 (.bool false) u16 u17 c18 c19 (q20 u20 u21 u22 u23 u24 u25 u26 u27 u28 u29 u30 u31 u32 u33 u34 u35 u36 u37 u38 u39 (q20 u40 u41 u42 u43 u44 u45 u46 u47 u48 u49 u50 u51 u52 u53 u54 u55 u56 u57 u58 u59 (q20 u60 u61 u62 u63 u64 u65 u66 u67 u68 u69 u70 u71 u72 u73 u74 u75 u76 u77 u78 u79 (q20 u80 u81 u82 u83 u84 u85 u86 u87 u88 u89 u90 u91 u92 u93 u94 u95 u96 u97 u98 u99 (q20 u100 u101 u102 u103 u104 u105 u106 u107 u108 u109 u110 u111 u112 u113 u114 u115 u116 u117 u118 u119 (q20 u120 u121 u122 u123 u124 u125 u126 u127 u128 u129 u130 u131 u132 u133 u134 u135 u136 u137 u138 u139 (q20 u140 u141 u142 u143 u144 u145 u146 u147 u148 u149 u150 u151 u152 u153 u154 u155 u156 u157 u158 u159 (q20 u160 u161 u162 u163 u164 u165 u166 u167 u168 u169 u170 u171 u172 u173 u174 u175 u176 u177 u178 u179 (q20 u180 u181 u182 u183 u184 u185 u186 u187 u188 u189 u190 u191 u192 u193 u194 u195 u196 u197 u198 u199 (u200 :: u201 :: u202 :: u203 :: u204 :: u205 :: u206 :: u207 :: u208 :: u209 :: u210 :: u211 :: u212 :: u213 :: c214 :: []))))))))))), []⟩ wc := by
  have hu42 := Try.underlying42
  have hu38 := Try.underlying38
  conv => arg 2; whnf
  unfold q20
  unfold HJ44 at hJ
  obtain ⟨⟨q0w0, q1w0, q2w0, q3w0, q4w0, q5w0, q6w0, q7w0⟩, z0w0, z1w0, z2w0, z3w0, z4w0, z5w0, z6w0, z7w0⟩ := cells8 X0.out.at0
  have f4 : decide (j < (ys.length : Int)) = true := decide_eq_true cl
  obtain ⟨ad, e0_, hx0⟩ := Kd.at_int HR2.out j (by omega) (by omega)
  cases e0_
  have HX0 := Aside0.mk hx0
  clear hx0
  have p0 := eq_true htj0
  have p1 := eq_true cl
  clear cl
  have hxi := (X0.out.bel.cell (World.block_lt_of_cell? w _ HX0.out)).trans HX0.out
  go_wp2
  have XD := Aside0.mk X0.out.drew
  refine start_ (n := 12) (S := fun w' => w'.cell? ⟨w.heap.size, 0, none⟩ = some (.int .i64 T0) ∧ w'.cell? ⟨w.heap.size, 1, none⟩ = some (.int .i64 T1) ∧ w'.cell? ⟨w.heap.size, 2, none⟩ = some (.int .i64 T2) ∧ w'.cell? ⟨w.heap.size, 3, none⟩ = some (.int .i64 T3) ∧ w'.cell? ⟨w.heap.size, 4, none⟩ = some (.int .i64 L0) ∧ w'.cell? ⟨w.heap.size, 5, none⟩ = some (.int .i64 L1) ∧ w'.cell? ⟨w.heap.size, 6, none⟩ = some (.int .i64 L2) ∧ w'.cell? ⟨w.heap.size, 7, none⟩ = some (.int .i64 L3)) (ds := [11]) #[false, false, false, false, false, false, false, false, false, false, false, false] (by kernel_rfl) rfl rfl ⟨(blk_cell XD.out.at0 0).trans rfl, (blk_cell XD.out.at0 1).trans rfl, (blk_cell XD.out.at0 2).trans rfl, (blk_cell XD.out.at0 3).trans rfl, (blk_cell XD.out.at0 4).trans rfl, (blk_cell XD.out.at0 5).trans rfl, (blk_cell XD.out.at0 6).trans rfl, (blk_cell XD.out.at0 7).trans rfl⟩ (fun hHeld => ?_)
  refine pure_ (i := 0) (N := some 163) (v := ?_) (a' := ?_) #[true, false, false, false, false, false, false, false, false, false, false, false] rfl rfl (by kernel_rfl) (fun _ _ _ h => h) (Or.inl ⟨by rfl, ?_⟩) ?_ ?_
  rotate_left
  · intro w'
    go_simp
    with_reducible rfl
  rotate_left
  · simp only [Act.put, sa_, sz_, ss_, i64_w, i32_w]
    rfl
  refine pure_ (i := 1) (N := some 164) (v := ?_) (a' := ?_) #[true, true, false, false, false, false, false, false, false, false, false, false] rfl rfl (by kernel_rfl) (fun _ _ _ h => h) (Or.inl ⟨by rfl, ?_⟩) ?_ ?_
  rotate_left
  · intro w'
    go_simp
    with_reducible rfl
  rotate_left
  · simp only [Act.put, sa_, sz_, ss_, i64_w, i32_w]
    rfl
  refine pure_ (i := 3) (N := some 166) (v := ?_) (a' := ?_) #[true, true, false, true, false, false, false, false, false, false, false, false] rfl rfl (by kernel_rfl) (fun _ _ _ h => h) (Or.inl ⟨by rfl, ?_⟩) ?_ ?_
  rotate_left
  · intro w'
    go_simp
    with_reducible rfl
  rotate_left
  · simp only [Act.put, sa_, sz_, ss_, i64_w, i32_w]
    rfl
  refine pure_ (i := 5) (N := some 168) (v := ?_) (a' := ?_) #[true, true, false, true, false, true, false, false, false, false, false, false] rfl rfl (by kernel_rfl) (fun _ _ _ h => h) (Or.inl ⟨by rfl, ?_⟩) ?_ ?_
  rotate_left
  · intro w'
    go_simp
    with_reducible rfl
  rotate_left
  · simp only [Act.put, sa_, sz_, ss_, i64_w, i32_w]
    rfl
  refine pure_ (i := 6) (N := some 169) (v := ?_) (a' := ?_) #[true, true, false, true, false, true, true, false, false, false, false, false] rfl rfl (by kernel_rfl) (fun _ _ _ h => h) (Or.inl ⟨by rfl, ?_⟩) ?_ ?_
  rotate_left
  · intro w'
    go_simp
    with_reducible rfl
  rotate_left
  · simp only [Act.put, sa_, sz_, ss_, i64_w, i32_w]
    rfl
  refine pure_ (i := 8) (N := some 171) (v := ?_) (a' := ?_) #[true, true, false, true, false, true, true, false, true, false, false, false] rfl rfl (by kernel_rfl) (fun _ _ _ h => h) (Or.inl ⟨by rfl, ?_⟩) ?_ ?_
  rotate_left
  · intro w'
    go_simp
    with_reducible rfl
  rotate_left
  · simp only [Act.put, sa_, sz_, ss_, i64_w, i32_w]
    rfl
  refine take_ (i := 2) (N := some 165) (v := ?_) (a' := ?_) #[true, true, true, true, false, true, true, false, true, false, false, false] rfl rfl (by kernel_rfl) (fun _ _ _ h => h) (Or.inl ⟨by rfl, ?_⟩) hHeld ?_ ?_
  rotate_left
  · rintro w' ⟨s0, s1, s2, s3, s4, s5, s6, s7⟩
    go_simp
    with_reducible rfl
  rotate_left
  · simp only [Act.put, sa_, sz_, ss_, i64_w, i32_w]
    rfl
  refine take_ (i := 7) (N := some 170) (v := ?_) (a' := ?_) #[true, true, true, true, false, true, true, true, true, false, false, false] rfl rfl (by kernel_rfl) (fun _ _ _ h => h) (Or.inl ⟨by rfl, ?_⟩) hHeld ?_ ?_
  rotate_left
  · rintro w' ⟨s0, s1, s2, s3, s4, s5, s6, s7⟩
    go_simp
    with_reducible rfl
  rotate_left
  · simp only [Act.put, sa_, sz_, ss_, i64_w, i32_w]
    rfl
  refine one_ (i := 4) (N := some 167) #[true, true, true, true, true, true, true, true, true, false, false, false] rfl rfl (by kernel_rfl) (by decide) (fun K hK => ?_)
  refine goes_ Try.func65 (by kernel_rfl) rfl #[.pointer (some ⟨w.heap.size + 1, 0, none⟩), .agg #[.int .i64 T0, .int .i64 T1, .int .i64 T2, .int .i64 T3], .int .i64 (rd ys j)] (by rfl) rfl rfl (by simp only [List.map_toArray, List.map_cons, List.map_nil]; rfl) ?_
  with_reducible refine (HB8.right XD.out H0.out H1.out).mono ?_
  rintro e w4 ⟨rfl, hX⟩
  refine ⟨_, rfl, ?_⟩
  have X4 := Aside0.mk hX
  clear hX
  refine hK.out _ _ ⟨(blk_cell X4.out.at0 0).trans rfl, (blk_cell X4.out.at0 1).trans rfl, (blk_cell X4.out.at0 2).trans rfl, (blk_cell X4.out.at0 3).trans rfl, (blk_cell X4.out.at0 4).trans rfl, (blk_cell X4.out.at0 5).trans rfl, (blk_cell X4.out.at0 6).trans rfl, (blk_cell X4.out.at0 7).trans rfl⟩ (fun hHeld => ?_)
  clear hK K
  refine norm_ (a' := ?_) ?_ ?_
  rotate_left
  · show Act.put _ (some 167) _ = _
    simp only [Act.put, sa_, sz_, ss_, i64_w, i32_w]
    rfl
  refine one_ (i := 9) (N := some 172) #[true, true, true, true, true, true, true, true, true, true, false, false] rfl rfl (by kernel_rfl) (by decide) (fun K hK => ?_)
  refine goes_ Try.func65 (by kernel_rfl) rfl #[.pointer (some ⟨w.heap.size + 1, 0, none⟩), .agg #[.int .i64 L0, .int .i64 L1, .int .i64 L2, .int .i64 L3], .int .i64 (rd ys j)] (by rfl) rfl rfl (by simp only [List.map_toArray, List.map_cons, List.map_nil]; rfl) ?_
  with_reducible refine (HB8.right X4.out H2.out H3.out).mono ?_
  rintro e w5 ⟨rfl, hX⟩
  refine ⟨_, rfl, ?_⟩
  have X5 := Aside0.mk hX
  clear hX
  refine hK.out _ _ ⟨(blk_cell X5.out.at0 0).trans rfl, (blk_cell X5.out.at0 1).trans rfl, (blk_cell X5.out.at0 2).trans rfl, (blk_cell X5.out.at0 3).trans rfl, (blk_cell X5.out.at0 4).trans rfl, (blk_cell X5.out.at0 5).trans rfl, (blk_cell X5.out.at0 6).trans rfl, (blk_cell X5.out.at0 7).trans rfl⟩ (fun hHeld => ?_)
  clear hK K
  refine norm_ (a' := ?_) ?_ ?_
  rotate_left
  · show Act.put _ (some 172) _ = _
    simp only [Act.put, sa_, sz_, ss_, i64_w, i32_w]
    rfl
  refine pure_ (i := 10) (N := some 173) (v := ?_) (a' := ?_) #[true, true, true, true, true, true, true, true, true, true, true, false] rfl rfl (by kernel_rfl) (fun _ _ _ h => h) (Or.inl ⟨by rfl, ?_⟩) ?_ ?_
  rotate_left
  · intro w'
    go_simp
    with_reducible rfl
  rotate_left
  · simp only [Act.put, sa_, sz_, ss_, i64_w, i32_w]
    rfl
  refine last_store_ (i := 11) (w1 := (World.setCell (World.setCell (World.setCell (World.setCell (World.setCell (World.setCell (World.setCell (World.setCell w5 ⟨w.heap.size, 0, none⟩ (.int .i64 x0)) ⟨w.heap.size, 1, none⟩ (.int .i64 T0)) ⟨w.heap.size, 2, none⟩ (.int .i64 x1)) ⟨w.heap.size, 3, none⟩ (.int .i64 T2)) ⟨w.heap.size, 4, none⟩ (.int .i64 x2)) ⟨w.heap.size, 5, none⟩ (.int .i64 L0)) ⟨w.heap.size, 6, none⟩ (.int .i64 x3)) ⟨w.heap.size, 7, none⟩ (.int .i64 L2))) #[true, true, true, true, true, true, true, true, true, true, true, true] rfl rfl (by kernel_rfl) (by decide) (by rfl) (run_put8_ rfl (show _ = Value.pointer (some ⟨w.heap.size, 0, none⟩) from by rfl) (show _ = Value.agg #[.int .i64 x0, .int .i64 T0, .int .i64 x1, .int .i64 T2, .int .i64 x2, .int .i64 L0, .int .i64 x3, .int .i64 L2] from by rfl) X5.out.at0 (by kernel_rfl) (by rfl)) ?_
  refine done_ (by kernel_rfl) ?_
  generalize hw6 : (World.setCell (World.setCell (World.setCell (World.setCell (World.setCell (World.setCell (World.setCell (World.setCell w5 ⟨w.heap.size, 0, none⟩ (.int .i64 x0)) ⟨w.heap.size, 1, none⟩ (.int .i64 T0)) ⟨w.heap.size, 2, none⟩ (.int .i64 x1)) ⟨w.heap.size, 3, none⟩ (.int .i64 T2)) ⟨w.heap.size, 4, none⟩ (.int .i64 x2)) ⟨w.heap.size, 5, none⟩ (.int .i64 L0)) ⟨w.heap.size, 6, none⟩ (.int .i64 x3)) ⟨w.heap.size, 7, none⟩ (.int .i64 L2)) = w6
  have X6 := Aside0.mk (X5.out.put8_0 (by intro p hp; cases hp) hw6.symm)
  clear hw6 q0w0 q1w0 q2w0 q3w0 q4w0 q5w0 q6w0 q7w0 z0w0 z1w0 z2w0 z3w0 z4w0 z5w0 z6w0 z7w0 X0 XD X4 X5
  obtain ⟨mv, gv, hMw⟩ := Mw.start (by decide) X6.out.n X6.out.bel X6.out.sz
  have M0 := Aside0.mk hMw
  clear hMw
  have m0v := M0.out.x0
  have m1v := M0.out.x1
  go_wp2_with (first | ((with_reducible refine gate_builtin (b := .append) (xs := #[.tmp 205, .tmp 208]) rfl ?_); at_builtin; refine Kd.R_append k52 (w0 := w) w.heap.size rfl (.tmp 205) (.tmp 208) 33 52 (.agg #[(.int .i8 0), (.int .i64 0)]) 16 rfl Try.underlying33 info52_ rfl (by decide) (by omega) mv ms (⟨3, (rd ys j)⟩ : S52) [.int .i8 3, .int .i64 (rd ys j)] (fun _ => True) (fun _ => False) rfl rfl ?aP (fun _ hk => hk.elim) ?aF ?aO ?aB ?aS ?aL ?_; (case aP => exact k52_mkM _ _ _ (⟨3, (rd ys j)⟩ : S52)); (case aB => exact M0.out.bel); (case aF => exact (fun _ _ => trivial)); (case aO => exact M0.out.m); (case aS => exact M0.out.sz); (case aL => have := CB.out.1.1.1; omega); intro v_ u1 ho hb1 hg1 hat; obtain ⟨Au1, cu1, rfl⟩ := Kd.R_slice ho; have M1 := Aside0.mk (M0.out.appM ho hb1 hg1); clear ho hb1 hg1 hat M0; have x0u1 := M1.out.x0; have x1u1 := M1.out.x1; have x2u1 := M1.out.x2; have f0u1 := M1.out.fr 0; have f1u1 := M1.out.fr 1; have f2u1 := M1.out.fr 2) | ((with_reducible refine gate_store (t := 33) (p := 211) rfl ?_); refine store_event (t := 33) (p := 211) (v := ?vo_u2_12) (w1 := (u1.setCell ⟨w.heap.size + 1, 0, none⟩ (.slice Au1 (ms.length + 1) cu1))) ?hg ?ho ?hn ?hr ?_; (case ho => rfl); (case hg => rfl); (case hn => rfl); (case hr => first | (go_simp; done) | (go_simp; rfl)); intro u2 hw; have M2 := Aside0.mk (M1.out.set0 hw); clear hw M1; have x0u2 := M2.out.x0; have x1u2 := M2.out.x1; have x2u2 := M2.out.x2; have f0u2 := M2.out.fr 0; have f1u2 := M2.out.fr 1; have f2u2 := M2.out.fr 2; have XE := Aside0.mk (X6.out.note (M2.out.done' (by simp) (by simp) rfl).1 (M2.out.done' (by simp) (by simp) rfl).2.1 (M2.out.done' (by simp) (by simp) rfl).2.2); clear M2))
  go_roundg k1
  case measure => omega
  case rel => exact ⟨⟨x0, T0, x1, T2, x2, L0, x3, L2, i, j + 1, !lf, ms ++ [⟨3, (rd ys j)⟩], gs, o3⟩, rfl, rfl, rfl, HN, ⟨by have := HK1.out; omega⟩, XE⟩
theorem E8_Ri {k k1 : Nat} {xs ys : List Int} {A1_ A2_ : Option Addr} {c1_ c2_ : Nat} {s : ESt} {w wc : World} {T0 T1 T2 T3 L0 L1 L2 L3 i j : Int} {lf : Bool} {ms : List S52} {gs : List Int} {R : Ending → World → Prop} {J : Nat → Act → World → Prop} {K2 K3 : Act → World → Prop} {c0 c4 c5 c18 c19 c214 : Value} {u6 u11 u12 u13 u14 u16 u17 u20 u21 u22 u23 u24 u25 u26 u27 u28 u29 u30 u31 u32 u33 u34 u35 u36 u37 u38 u39 u40 u41 u42 u43 u44 u45 u46 u47 u48 u49 u50 u51 u52 u53 u54 u55 u56 u57 u58 u59 u60 u61 u62 u63 u64 u65 u66 u67 u68 u69 u70 u71 u72 u73 u74 u75 u76 u77 u78 u79 u80 u81 u82 u83 u84 u85 u86 u87 u88 u89 u90 u91 u92 u93 u94 u95 u96 u97 u98 u99 u100 u101 u102 u103 u104 u105 u106 u107 u108 u109 u110 u111 u112 u113 u114 u115 u116 u117 u118 u119 u120 u121 u122 u123 u124 u125 u126 u127 u128 u129 u130 u131 u132 u133 u134 u135 u136 u137 u138 u139 u140 u141 u142 u143 u144 u145 u146 u147 u148 u149 u150 u151 u152 u153 u154 u155 u156 u157 u158 u159 u160 u161 u162 u163 u164 u165 u166 u167 u168 u169 u170 u171 u172 u173 u174 u175 u176 u177 u178 u179 u180 u181 u182 u183 u184 u185 u186 u187 u188 u189 u190 u191 u192 u193 u194 u195 u196 u197 u198 u199 u200 u201 u202 u203 u204 u205 u206 u207 u208 u209 u210 u211 u212 u213 : Value} (hJ : HJ44 k xs ys A1_ A2_ c1_ c2_ s w J c0 c4 c5 c18 c19 c214) (hK : ∀ (a' : Act) (w' : World), Handed J (k1 + 1) a' w' → K2 a' w') (HR : Aside0 ((Kd.int .i64).C w A1_ xs.length xs)) (HR2 : Aside0 ((Kd.int .i64).C w A2_ ys.length ys)) (HC : Aside0 (xs.length ≤ c1_)) (HC2 : Aside0 (ys.length ≤ c2_)) (CB : Aside0 (((ms.length < 1000000 ∧ gs.length < 1000000) ∧ 0 ≤ i ∧ i < 1000000 ∧ 0 ≤ j ∧ j < 1000000) ∧ xs.length < 1000000 ∧ ys.length < 1000000)) (hti0 : 0 ≤ i) (hti2 : i < 1000000) (htj0 : 0 ≤ j) (htj2 : j < 1000000) (X0 : Aside0 (HB8 89 w.heap.size w wc (w.heap.size + 1) ms gs true [(w.heap.size, #[.int .i64 T0, .int .i64 T1, .int .i64 T2, .int .i64 T3, .int .i64 L0, .int .i64 L1, .int .i64 L2, .int .i64 L3], 42)])) (cl : ¬ j < (ys.length : Int)) (HN : Aside0 (runE k xs ys k1 ⟨T0, T0, T2, T2, L0, L0, L2, L2, i, j + 1, !lf, ms ++ [⟨3, 0⟩], gs, true⟩ = some s)) (HK1 : Aside0 (k1 + 1 ≤ k)) :
    Code.wp Try.prog (tl44 23) (Exit.inBlock 1 (Exit.then K2 (Exit.inBlock 0 (Exit.then K3 (bodyPost Try.prog Try.f44 R))))) ⟨List.toArray (q20 c0 (.slice A1_ xs.length c1_) (.slice A2_ ys.length c2_) (.pointer (some ⟨w.heap.size, 0, none⟩)) c4 c5 u6 (.pointer (some ⟨w.heap.size + 1, 0, none⟩)) (.int .i64 i) (.int .i64 j) (.bool (!lf)) u11 u12 u13 u14 (.bool false) u16 u17 c18 c19 (q20 u20 u21 u22 u23 u24 u25 u26 u27 u28 u29 u30 u31 u32 u33 u34 u35 u36 u37 u38 u39 (q20 u40 u41 u42 u43 u44 u45 u46 u47 u48 u49 u50 u51 u52 u53 u54 u55 u56 u57 u58 u59 (q20 u60 u61 u62 u63 u64 u65 u66 u67 u68 u69 u70 u71 u72 u73 u74 u75 u76 u77 u78 u79 (q20 u80 u81 u82 u83 u84 u85 u86 u87 u88 u89 u90 u91 u92 u93 u94 u95 u96 u97 u98 u99 (q20 u100 u101 u102 u103 u104 u105 u106 u107 u108 u109 u110 u111 u112 u113 u114 u115 u116 u117 u118 u119 (q20 u120 u121 u122 u123 u124 u125 u126 u127 u128 u129 u130 u131 u132 u133 u134 u135 u136 u137 u138 u139 (q20 u140 u141 u142 u143 u144 u145 u146 u147 u148 u149 u150 u151 u152 u153 u154 u155 u156 u157 u158 u159 (q20 u160 u161 u162 u163 u164 u165 u166 u167 u168 u169 u170 u171 u172 u173 u174 u175 u176 u177 u178 u179 (q20 u180 u181 u182 u183 u184 u185 u186 u187 u188 u189 u190 u191 u192 u193 u194 u195 u196 u197 u198 u199 (u200 :: u201 :: u202 :: u203 :: u204 :: u205 :: u206 :: u207 :: u208 :: u209 :: u210 :: u211 :: u212 :: u213 :: c214 :: []))))))))))), []⟩ wc := by
  have hu42 := Try.underlying42
  have hu38 := Try.underlying38
  conv => arg 2; whnf
  unfold q20
  unfold HJ44 at hJ
  obtain ⟨⟨q0w0, q1w0, q2w0, q3w0, q4w0, q5w0, q6w0, q7w0⟩, z0w0, z1w0, z2w0, z3w0, z4w0, z5w0, z6w0, z7w0⟩ := cells8 X0.out.at0
  have f4 : decide (j < (ys.length : Int)) = false := decide_eq_false cl
  clear cl
  go_wp2_with (first | ((with_reducible refine gate_store (t := 42) (p := 3) rfl ?_); refine store_event (t := 42) (p := 3) (v := ?vo_w4_13) (w1 := (World.setCell (World.setCell (World.setCell (World.setCell (World.setCell (World.setCell (World.setCell (World.setCell wc ⟨w.heap.size, 0, none⟩ (.int .i64 T0)) ⟨w.heap.size, 1, none⟩ (.int .i64 T0)) ⟨w.heap.size, 2, none⟩ (.int .i64 T2)) ⟨w.heap.size, 3, none⟩ (.int .i64 T2)) ⟨w.heap.size, 4, none⟩ (.int .i64 L0)) ⟨w.heap.size, 5, none⟩ (.int .i64 L0)) ⟨w.heap.size, 6, none⟩ (.int .i64 L2)) ⟨w.heap.size, 7, none⟩ (.int .i64 L2))) ?hg ?ho ?hn ?hr ?_; (case ho => rfl); (case hg => rfl); (case hn => rfl); (case hr => first | (go_simp; done) | (go_simp; rfl)); intro w4 hw; have X4 := Aside0.mk (X0.out.put8_0 (by intro p hp; cases hp) hw); clear hw; obtain ⟨⟨q0w4, q1w4, q2w4, q3w4, q4w4, q5w4, q6w4, q7w4⟩, z0w4, z1w4, z2w4, z3w4, z4w4, z5w4, z6w4, z7w4⟩ := cells8 X4.out.at0; obtain ⟨mv, gv, hMw⟩ := Mw.start (by decide) X4.out.n X4.out.bel X4.out.sz; have M0 := Aside0.mk hMw; clear hMw; have m0v := M0.out.x0; have m1v := M0.out.x1) | ((with_reducible refine gate_builtin (b := .append) (xs := #[.tmp 205, .tmp 208]) rfl ?_); at_builtin; refine Kd.R_append k52 (w0 := w) w.heap.size rfl (.tmp 205) (.tmp 208) 33 52 (.agg #[(.int .i8 0), (.int .i64 0)]) 16 rfl Try.underlying33 info52_ rfl (by decide) (by omega) mv ms (⟨3, 0⟩ : S52) [.int .i8 3, .int .i64 0] (fun _ => True) (fun _ => False) rfl rfl ?aP (fun _ hk => hk.elim) ?aF ?aO ?aB ?aS ?aL ?_; (case aP => exact k52_mkM _ _ _ (⟨3, 0⟩ : S52)); (case aB => exact M0.out.bel); (case aF => exact (fun _ _ => trivial)); (case aO => exact M0.out.m); (case aS => exact M0.out.sz); (case aL => have := CB.out.1.1.1; omega); intro v_ u1 ho hb1 hg1 hat; obtain ⟨Au1, cu1, rfl⟩ := Kd.R_slice ho; have M1 := Aside0.mk (M0.out.appM ho hb1 hg1); clear ho hb1 hg1 hat M0; have x0u1 := M1.out.x0; have x1u1 := M1.out.x1; have x2u1 := M1.out.x2; have f0u1 := M1.out.fr 0; have f1u1 := M1.out.fr 1; have f2u1 := M1.out.fr 2) | ((with_reducible refine gate_store (t := 33) (p := 211) rfl ?_); refine store_event (t := 33) (p := 211) (v := ?vo_u2_14) (w1 := (u1.setCell ⟨w.heap.size + 1, 0, none⟩ (.slice Au1 (ms.length + 1) cu1))) ?hg ?ho ?hn ?hr ?_; (case ho => rfl); (case hg => rfl); (case hn => rfl); (case hr => first | (go_simp; done) | (go_simp; rfl)); intro u2 hw; have M2 := Aside0.mk (M1.out.set0 hw); clear hw M1; have x0u2 := M2.out.x0; have x1u2 := M2.out.x1; have x2u2 := M2.out.x2; have f0u2 := M2.out.fr 0; have f1u2 := M2.out.fr 1; have f2u2 := M2.out.fr 2; have XE := Aside0.mk (X4.out.note (M2.out.done' (by simp) (by simp) rfl).1 (M2.out.done' (by simp) (by simp) rfl).2.1 (M2.out.done' (by simp) (by simp) rfl).2.2); clear M2))
  go_roundg k1
  case measure => omega
  case rel => exact ⟨⟨T0, T0, T2, T2, L0, L0, L2, L2, i, j + 1, !lf, ms ++ [⟨3, 0⟩], gs, true⟩, rfl, rfl, rfl, HN, ⟨by have := HK1.out; omega⟩, XE⟩
theorem l04Eight_calls (k : Nat) (U0 U1 U2 U3 V0 V1 V2 V3 : Int) (xs ys : List Int) (A1_ A2_ : Option Addr) (c1_ c2_ : Nat) (s : ESt) (w : World) (hr : Kd.C (Kd.int .i64) w A1_ xs.length xs) (hc : xs.length ≤ c1_) (hr2 : Kd.C (Kd.int .i64) w A2_ ys.length ys) (hc2 : ys.length ≤ c2_) (hs : runE k xs ys k ⟨U0, U1, U2, U3, V0, V1, V2, V3, 0, 0, true, [], [], true⟩ = some s) :
    Calls Try.prog 44 #[.agg #[.int .i64 U0, .int .i64 U1, .int .i64 U2, .int .i64 U3, .int .i64 V0, .int .i64 V1, .int .i64 V2, .int .i64 V3], .slice A1_ xs.length c1_, .slice A2_ ys.length c2_] w fun e w' => ∃ gw, e = .returned (.pointer (some ⟨gw, 0, none⟩)) ∧ Mv 89 w.heap.size w' gw s.ms s.gs s.ov ∧ Below w.heap.size w w' := by
  have HR := Aside0.mk hr
  have HC := Aside0.mk hc
  have HR2 := Aside0.mk hr2
  have HC2 := Aside0.mk hc2
  have HS := Aside0.mk hs
  have hu42 := Try.underlying42
  have hu38 := Try.underlying38
  clear hr hc hr2 hc2 hs
  go_enter Try.func44, Try.ntmps44
  go_wp2
  go_loopg [8, 9, 10] k (fun kq v8 v9 v10 w' => ∃ s1 : ESt, v8 = .int .i64 s1.i ∧ v9 = .int .i64 s1.j ∧ v10 = .bool s1.lf ∧ Aside0 (runE k xs ys kq s1 = some s) ∧ Aside0 (kq ≤ k) ∧ Aside0 (HB8 89 w.heap.size w w' (w.heap.size + 1) s1.ms s1.gs s1.ov [(w.heap.size, #[.int .i64 s1.T0, .int .i64 s1.T1, .int .i64 s1.T2, .int .i64 s1.T3, .int .i64 s1.L0, .int .i64 s1.L1, .int .i64 s1.L2, .int .i64 s1.L3], 42)]))
  case atStart => exact ⟨⟨U0, U1, U2, U3, V0, V1, V2, V3, 0, 0, true, [], [], true⟩, rfl, rfl, rfl, HS, ⟨Nat.le_refl _⟩, ⟨HB_startS⟩⟩
  case round =>
    obtain ⟨⟨T0, T1, T2, T3, L0, L1, L2, L3, i, j, lf, ms, gs, ov⟩, rfl, rfl, rfl, HR1, HK1, X0⟩ := hrel
    simp only at X0
    rename_i J K2 hJ hK
    clear HS
    cases gk with
    | zero => exact absurd HR1.out (by simp [runE])
    | succ k1 =>
      have h := HR1.out
      rw [runE] at h
      simp only at h
      clear HR1
      cases ov with
      | false =>
        rw [if_neg (by decide)] at h
        obtain rfl := Option.some.inj h
        clear h
        have cw0 := X0.out.cw
        go_wp2
        go_ret
        exact ⟨_, rfl, X0.out.n, X0.out.bel⟩
      | true =>
        rw [if_pos rfl] at h
        by_cases cb : ((ms.length < 1000000 ∧ gs.length < 1000000) ∧ 0 ≤ i ∧ i < 1000000 ∧ 0 ≤ j ∧ j < 1000000) ∧ xs.length < 1000000 ∧ ys.length < 1000000
        rotate_left
        · rw [if_neg cb] at h
          cases h
        · rw [if_pos cb] at h
          have hti0 := cb.1.2.1
          have hti2 := cb.1.2.2.1
          have htj0 := cb.1.2.2.2.1
          have htj2 := cb.1.2.2.2.2
          have CB := Aside0.mk cb
          clear cb
          have cw0 := X0.out.cw
          obtain ⟨⟨q0w0, q1w0, q2w0, q3w0, q4w0, q5w0, q6w0, q7w0⟩, z0w0, z1w0, z2w0, z3w0, z4w0, z5w0, z6w0, z7w0⟩ := cells8 X0.out.at0
          obtain ⟨⟨r, s2⟩, hst, h⟩ := Option.bind_eq_some_iff.mp h
          unfold stepE corn at hst
          simp only at hst h
          by_cases ce : ((xs.length : Int) < i ∧ (ys.length : Int) < j) ∧ L0 = 0
          · rw [if_pos ce] at hst
            simp only [Option.some.injEq, Prod.mk.injEq] at hst
            obtain ⟨rfl, rfl⟩ := hst
            rw [if_neg (by decide)] at h
            obtain rfl := Option.some.inj h
            clear h
            have f1 : decide ((xs.length : Int) < i) = true := decide_eq_true ce.1.1
            have f2 : decide ((ys.length : Int) < j) = true := decide_eq_true ce.1.2
            have f3 : (L0 == 0) = true := beq_iff_eq.mpr ce.2
            clear ce
            go_wp2
            go_ret
            exact ⟨_, rfl, X0.out.n, X0.out.bel⟩
          · rw [if_neg ce] at hst
            obtain ⟨⟨q, yes⟩, hg, hst⟩ := Option.bind_eq_some_iff.mp hst
            simp only at hst
            have HG := Aside0.mk hg
            clear hg
            clear cw0 q0w0 q1w0 q2w0 q3w0 q4w0 q5w0 q6w0 q7w0 z0w0 z1w0 z2w0 z3w0 z4w0 z5w0 z6w0 z7w0
            have hce := Aside0.mk ce
            have hst' := Aside0.mk hst
            have h' := Aside0.mk h
            clear hst h ce
            refine E8_P1 HR HR2 HC HC2 CB hti0 hti2 htj0 htj2 X0 hce.out HG ⟨?_⟩
            intro _ _ _ _ _ _ _ _ _ _ _ _ _ _ _ _ _ _ _ _ _ _ _ _ _ _ _ _ _ _ _ _ _ _ _ _ _ _ _ _ _ _ _ _ _ _ _ _ _ _ _ _ _ _ _ _ _ _ _ _ _ _ _ _ _ _ _ _ _ _ _ _ _ _ _ _ _ _ _ _ _ _ _ _ _ _ _ _ _ _ _ _ _ _ _ _ _ _ _ _ _ _ _ _ _ _ _ _ _ _ _ _ _ _ _ _ _ _ _ _ _ _ _ _ _ _ _ _ _ _ _ _ _ _ _ _ _ _ _ _ _ _ _ _ _ _ _ _ _ _ _ _ _ _ _ _ _ _ _ _ _ _ _ _ _ _ _ _ _ _ _ _ _ _ _ _ _ _ _ _ _ _ _ _ _ _ _ _ _ _ _ _ _ _ _ _ _ _ _ _ wc X4
            have hst := hst'.out
            have h := h'.out
            by_cases cg : yes = true ∧ 0 < i ∧ 0 < j
            · rw [if_pos cg] at hst
              obtain ⟨rfl, hip, hjp⟩ := cg
              obtain ⟨⟨x0, o0⟩, e0, hst⟩ := Option.bind_eq_some_iff.mp hst
              obtain ⟨⟨x1, o1⟩, e1, hst⟩ := Option.bind_eq_some_iff.mp hst
              obtain ⟨⟨x2, o2⟩, e2, hst⟩ := Option.bind_eq_some_iff.mp hst
              obtain ⟨⟨x3, o3⟩, e3, hst⟩ := Option.bind_eq_some_iff.mp hst
              simp only [Option.some.injEq, Prod.mk.injEq] at hst
              obtain ⟨rfl, rfl⟩ := hst
              rw [if_pos rfl] at h
              have HN := Aside0.mk h
              have H0 := Aside0.mk e0
              have H1 := Aside0.mk e1
              have H2 := Aside0.mk e2
              have H3 := Aside0.mk e3
              clear h e0 e1 e2 e3
              exact E8_G hJ hK HR HR2 HC HC2 CB hti0 hti2 htj0 htj2 X4 hip hjp H0 H1 H2 H3 HN HK1
            · rw [if_neg cg] at hst
              refine E8_P2 HR HR2 HC HC2 CB hti0 hti2 htj0 htj2 X4 cg ⟨?_⟩
              intro _ _ _ _ _ _ _ _ _ _ _ _ _ _ _ _ _ _ _ _ _ _ _ _ _ _ _ _ _ _ _ _ _ _ _ _ _ _ _ _ _ _ _ _ _ _ _ _ _ _ _ _ _ _ _ _ _ _ _ _ _ _ _ _ _ _ _ _ _ _ _ _ _ _ _ _ _ _ _ _ _ _ _ _ _ _ _ _ _ _ _ _ _ _ _ _ _ _ _ _ _ _ _ _ _ _ _ _ _ _ _ _ _ _ _ _ _ _ _ _ _ _ _ _ _ _ _ _ _ _ _ _ _ _ _ _ _ _ _ _ _ _ _ _ _ _ _ _ _ _ _ _ _ _ _ _ _ _ _ _ _ _ _ _ _ _ _ _ _ _ _ _ _ _ _ _ _ _ _ _ _ _ _ _ _ _ _ _ _ _ _ _ _ _ _ _ _ _ _ _ _ wd X5
              by_cases cz : (xs.length : Int) < i ∧ (ys.length : Int) < j
              · rw [if_pos cz] at hst
                cases hst
              rw [if_neg cz] at hst
              by_cases ct : (lf = true ∨ (ys.length : Int) < j) ∧ ¬ (xs.length : Int) < i
              · rw [if_pos ct] at hst
                refine E8_P3 (turn := true) HR HR2 HC HC2 CB hti0 hti2 htj0 htj2 X5 (by
                  by_cases c2 : (ys.length : Int) < j
                  · rw [if_pos c2]
                  · rw [if_neg c2, if_neg ct.2]
                    exact (ct.1.elim id (fun z => absurd z c2)).symm) ⟨?_⟩
                intro _ _ _ _ _ _ _ _ _ _ _ _ _ _ _ _ _ _ _ _ _ _ _ _ _ _ _ _ _ _ _ _ _ _ _ _ _ _ _ _ _ _ _ _ _ _ _ _ _ _ _ _ _ _ _ _ _ _ _ _ _ _ _ _ _ _ _ _ _ _ _ _ _ _ _ _ _ _ _ _ _ _ _ _ _ _ _ _ _ _ _ _ _ _ _ _ _ _ _ _ _ _ _ _ _ _ _ _ _ _ _ _ _ _ _ _ _ _ _ _ _ _ _ _ _ _ _ _ _ _ _ _ _ _ _ _ _ _ _ _ _ _ _ _ _ _ _ _ _ _ _ _ _ _ _ _ _ _ _ _ _ _ _ _ _ _ _ _ _ _ _ _ _ _ _ _ _ _ _ _ _ _ _ _ _ _ _ _ _ _ _ _ _ _ _ _ _ _ _ _ _ we X6
                by_cases cl : i < (xs.length : Int)
                · rw [if_pos cl] at hst
                  obtain ⟨⟨x0, o0⟩, e0, hst⟩ := Option.bind_eq_some_iff.mp hst
                  obtain ⟨⟨x1, o1⟩, e1, hst⟩ := Option.bind_eq_some_iff.mp hst
                  obtain ⟨⟨x2, o2⟩, e2, hst⟩ := Option.bind_eq_some_iff.mp hst
                  obtain ⟨⟨x3, o3⟩, e3, hst⟩ := Option.bind_eq_some_iff.mp hst
                  simp only [Option.some.injEq, Prod.mk.injEq] at hst
                  obtain ⟨rfl, rfl⟩ := hst
                  rw [if_pos rfl] at h
                  have HN := Aside0.mk h
                  have H0 := Aside0.mk e0
                  have H1 := Aside0.mk e1
                  have H2 := Aside0.mk e2
                  have H3 := Aside0.mk e3
                  clear h e0 e1 e2 e3
                  exact E8_Lf hJ hK HR HR2 HC HC2 CB hti0 hti2 htj0 htj2 X6 cl H0 H1 H2 H3 HN HK1
                · rw [if_neg cl] at hst
                  simp only [Option.some.injEq, Prod.mk.injEq] at hst
                  obtain ⟨rfl, rfl⟩ := hst
                  rw [if_pos rfl] at h
                  exact E8_Li hJ hK HR HR2 HC HC2 CB hti0 hti2 htj0 htj2 X6 cl ⟨h⟩ HK1
              · rw [if_neg ct] at hst
                refine E8_P3 (turn := false) HR HR2 HC HC2 CB hti0 hti2 htj0 htj2 X5 (by
                  by_cases c1 : (xs.length : Int) < i
                  · rw [if_neg (fun z => cz ⟨c1, z⟩), if_pos c1]
                  · have c2 : ¬ (ys.length : Int) < j := fun z => ct ⟨Or.inr z, c1⟩
                    rw [if_neg c2, if_neg c1]
                    cases lf with
                    | false => rfl
                    | true => exact absurd ⟨Or.inl rfl, c1⟩ ct) ⟨?_⟩
                intro _ _ _ _ _ _ _ _ _ _ _ _ _ _ _ _ _ _ _ _ _ _ _ _ _ _ _ _ _ _ _ _ _ _ _ _ _ _ _ _ _ _ _ _ _ _ _ _ _ _ _ _ _ _ _ _ _ _ _ _ _ _ _ _ _ _ _ _ _ _ _ _ _ _ _ _ _ _ _ _ _ _ _ _ _ _ _ _ _ _ _ _ _ _ _ _ _ _ _ _ _ _ _ _ _ _ _ _ _ _ _ _ _ _ _ _ _ _ _ _ _ _ _ _ _ _ _ _ _ _ _ _ _ _ _ _ _ _ _ _ _ _ _ _ _ _ _ _ _ _ _ _ _ _ _ _ _ _ _ _ _ _ _ _ _ _ _ _ _ _ _ _ _ _ _ _ _ _ _ _ _ _ _ _ _ _ _ _ _ _ _ _ _ _ _ _ _ _ _ _ _ we X6
                by_cases cl : j < (ys.length : Int)
                · rw [if_pos cl] at hst
                  obtain ⟨⟨x0, o0⟩, e0, hst⟩ := Option.bind_eq_some_iff.mp hst
                  obtain ⟨⟨x1, o1⟩, e1, hst⟩ := Option.bind_eq_some_iff.mp hst
                  obtain ⟨⟨x2, o2⟩, e2, hst⟩ := Option.bind_eq_some_iff.mp hst
                  obtain ⟨⟨x3, o3⟩, e3, hst⟩ := Option.bind_eq_some_iff.mp hst
                  simp only [Option.some.injEq, Prod.mk.injEq] at hst
                  obtain ⟨rfl, rfl⟩ := hst
                  rw [if_pos rfl] at h
                  have HN := Aside0.mk h
                  have H0 := Aside0.mk e0
                  have H1 := Aside0.mk e1
                  have H2 := Aside0.mk e2
                  have H3 := Aside0.mk e3
                  clear h e0 e1 e2 e3
                  exact E8_Rf hJ hK HR HR2 HC HC2 CB hti0 hti2 htj0 htj2 X6 cl H0 H1 H2 H3 HN HK1
                · rw [if_neg cl] at hst
                  simp only [Option.some.injEq, Prod.mk.injEq] at hst
                  obtain ⟨rfl, rfl⟩ := hst
                  rw [if_pos rfl] at h
                  exact E8_Ri hJ hK HR HR2 HC HC2 CB hti0 hti2 htj0 htj2 X6 cl ⟨h⟩ HK1
theorem stepE_mono (xs ys : List Int) (s : ESt) (k : Nat) : LeO (stepE k xs ys s) (stepE (k + 1) xs ys s) := by
  unfold stepE
  exact LeO.ite (LeO.refl _) (LeO.bind (spec_l04Alike.mono _ _ _) (fun _ => LeO.refl _))
theorem runE_mono (xs ys : List Int) (k : Nat) : ∀ (n : Nat) (s : ESt), LeO (runE k xs ys n s) (runE (k + 1) xs ys (n + 1) s)
  | 0, s => by intro r h; simp [runE] at h
  | n + 1, s => by
    rw [runE]
    conv => rhs; rw [runE]
    refine LeO.ite (LeO.ite ?_ (LeO.none _)) (LeO.refl _)
    refine LeO.bind (stepE_mono xs ys s k) (fun r => ?_)
    exact LeO.ite (runE_mono xs ys k n r.2) (LeO.refl _)

def spec_EightTerms.f (k : Nat) (a0_0 a0_1 a0_2 a0_3 a0_4 a0_5 a0_6 a0_7 : Int) (l1 l2 : List Int) : Option (List Int × Int) :=
  (spec_l04EightGiven.f k a0_0 a0_1 a0_2 a0_3 a0_4 a0_5 a0_6 a0_7 l1 l2).bind fun g => if g = 0 then ((runE k l1 l2 k ⟨a0_0, a0_1, a0_2, a0_3, a0_4, a0_5, a0_6, a0_7, 0, 0, true, [], [], true⟩).bind fun s => (spec_l04Work_end.f k s.ms s.gs s.ov).bind fun c => some (if c = 0 then s.gs else [], c)) else some ([], g)
theorem spec_EightTerms.mono : ∀ a0 a1 a2 a3 a4 a5 a6 a7 a8 a9 k, LeO (spec_EightTerms.f k a0 a1 a2 a3 a4 a5 a6 a7 a8 a9) (spec_EightTerms.f (k + 1) a0 a1 a2 a3 a4 a5 a6 a7 a8 a9) := fun _ _ _ _ _ _ _ _ _ _ k =>
  LeO.bind (spec_l04EightGiven.mono _ _ _ _ _ _ _ _ _ _ _) (fun _ => LeO.ite (LeO.bind (runE_mono _ _ k k _) (fun s => LeO.bind (spec_l04Work_end.mono _ _ _ _) (fun _ => LeO.refl _))) (LeO.refl _))
theorem spec_EightTerms.calls (k : Nat) (a0_0 a0_1 a0_2 a0_3 a0_4 a0_5 a0_6 a0_7 : Int) (A1 : Option Addr) (c1 : Nat) (l1 : List Int) (A2 : Option Addr) (c2 : Nat) (l2 : List Int) (r1 : List Int) (r2 : Int) (w : World) (hr1 : Kd.C (Kd.int .i64) w A1 l1.length l1) (hc1 : l1.length ≤ c1) (hr2 : Kd.C (Kd.int .i64) w A2 l2.length l2) (hc2 : l2.length ≤ c2) (h : spec_EightTerms.f k a0_0 a0_1 a0_2 a0_3 a0_4 a0_5 a0_6 a0_7 l1 l2 = some (r1, r2)) :
    Calls Try.prog 21 #[.agg #[.int .i64 a0_0, .int .i64 a0_1, .int .i64 a0_2, .int .i64 a0_3, .int .i64 a0_4, .int .i64 a0_5, .int .i64 a0_6, .int .i64 a0_7], .slice A1 l1.length c1, .slice A2 l2.length c2] w fun e w' => ∃ v0_ : Value, e = .returned (.tuple #[v0_, .int .i64 r2]) ∧ Kd.R (Kd.int .i64) 2 w' w.heap.size (fun _ => True) v0_ r1 ∧ Below w.heap.size w w' := by
  obtain ⟨g, hg, H⟩ := Option.bind_eq_some_iff.mp h
  have HGv := Aside0.mk hg
  have HR := Aside0.mk hr1
  have HC := Aside0.mk hc1
  have HR2 := Aside0.mk hr2
  have HC2 := Aside0.mk hc2
  have hu42 := Try.underlying42
  have hu38 := Try.underlying38
  clear h hg hr1 hc1 hr2 hc2
  by_cases g0 : g = 0
  · subst g0
    rw [if_pos rfl] at H
    obtain ⟨s, hs, H⟩ := Option.bind_eq_some_iff.mp H
    obtain ⟨c, hc, H⟩ := Option.bind_eq_some_iff.mp H
    simp only [Option.some.injEq, Prod.mk.injEq] at H
    obtain ⟨hq, rfl⟩ := H
    have HQ := Aside0.mk hq
    have HS := Aside0.mk hs
    have HE := Aside0.mk hc
    clear hs hc hq
    go_enter Try.func21, Try.ntmps21
    go_wp2_with (first | (go_at_call 43; (with_reducible refine (spec_l04EightGiven.calls k w.heap.size 0 a0_0 a0_1 a0_2 a0_3 a0_4 a0_5 a0_6 a0_7 A1 c1 l1 A2 c2 l2 0 _ ?s1 ?s2 ?s1b ?s2b ?s3 HGv.out).mono ?_); (case s1 => exact Kd.C_alloc HR.out _); (case s2 => exact HC.out); (case s1b => exact Kd.C_alloc HR2.out _); (case s2b => exact HC2.out); (case s3 => exact ⟨(blk_cell (heap_alloc_new w _) 0).trans rfl, (blk_cell (heap_alloc_new w _) 1).trans rfl, (blk_cell (heap_alloc_new w _) 2).trans rfl, (blk_cell (heap_alloc_new w _) 3).trans rfl, (blk_cell (heap_alloc_new w _) 4).trans rfl, (blk_cell (heap_alloc_new w _) 5).trans rfl, (blk_cell (heap_alloc_new w _) 6).trans rfl, (blk_cell (heap_alloc_new w _) 7).trans rfl⟩); rintro e w' ⟨rfl, ⟨nd, rfl⟩⟩) | (go_at_call 44; (with_reducible refine (l04Eight_calls k a0_0 a0_1 a0_2 a0_3 a0_4 a0_5 a0_6 a0_7 l1 l2 A1 A2 c1 c2 s _ ?t1 ?t2 ?t1b ?t2b HS.out).mono ?_); (case t1 => exact Kd.C_drewN (Kd.C_alloc HR.out _) _); (case t2 => exact HC.out); (case t1b => exact Kd.C_drewN (Kd.C_alloc HR2.out _) _); (case t2b => exact HC2.out); rintro e w1 ⟨gw, rfl, hM, hb⟩; have HM := Aside0.mk hM; have HB := Aside0.mk hb; clear hM hb) | (go_at_call 39; (with_reducible refine (answer_calls k _ gw s.ms s.gs s.ov c _ HM.out HB.out.size HE.out).mono ?_); rintro e w2 ⟨v0, v1, rfl, h0, h1, hb2⟩; rw [HQ.out] at h1; obtain ⟨A3, c3, rfl⟩ := Kd.R_slice h1; have HO := Aside0.mk h1; have HB2 := Aside0.mk hb2; clear h0 h1 hb2))
    go_ret2
    exact ⟨_, rfl, Kd.R_lower HO.out (by simp), below_step (below_step (pw_below_drewN (below_alloc (Below.refl _ _) _) _) HB.out) HB2.out⟩
  · rw [if_neg g0] at H
    simp only [Option.some.injEq, Prod.mk.injEq] at H
    obtain ⟨rfl, rfl⟩ := H
    have hg0 : (g == 0) = false := beq_eq_false_iff_ne.mpr g0
    have hg2 : (g != 0) = true := bne_iff_ne.mpr g0
    clear g0
    go_enter Try.func21, Try.ntmps21
    go_wp2_with (first | (go_at_call 43; (with_reducible refine (spec_l04EightGiven.calls k w.heap.size 0 a0_0 a0_1 a0_2 a0_3 a0_4 a0_5 a0_6 a0_7 A1 c1 l1 A2 c2 l2 g _ ?u1 ?u2 ?u1b ?u2b ?u3 HGv.out).mono ?_); (case u1 => exact Kd.C_alloc HR.out _); (case u2 => exact HC.out); (case u1b => exact Kd.C_alloc HR2.out _); (case u2b => exact HC2.out); (case u3 => exact ⟨(blk_cell (heap_alloc_new w _) 0).trans rfl, (blk_cell (heap_alloc_new w _) 1).trans rfl, (blk_cell (heap_alloc_new w _) 2).trans rfl, (blk_cell (heap_alloc_new w _) 3).trans rfl, (blk_cell (heap_alloc_new w _) 4).trans rfl, (blk_cell (heap_alloc_new w _) 5).trans rfl, (blk_cell (heap_alloc_new w _) 6).trans rfl, (blk_cell (heap_alloc_new w _) 7).trans rfl⟩); rintro e w' ⟨rfl, ⟨nd, rfl⟩⟩) | ((with_reducible refine gate_dst (N := 17) rfl ?_); refine Kd.R_lit (w0 := w) (Kd.int .i64) w.heap.size 2 ?hg2 (N := 17) ?hd2 (xs := ([] : List Int)) (inner := []) (ok := fun _ => True) (okp := fun _ => True) ?hr2 ?hp2 (fun _ hk => hk) trivial ?hb2 ?hs2 (by simp) ?_; (case hd2 => rfl); (case hg2 => rfl); (case hr2 => first | (go_simp; done) | (go_simp; rfl)); (case hp2 => exact (Reps.none _ _)); (case hb2 => exact pw_below_drewN (below_alloc (Below.refl _ _) _) _); (case hs2 => simp); intro v2 w2 ho hb hg_ hnew_; have HO2 := Aside0.mk ho; have HB2 := Aside0.mk hb; clear ho hb hg_ hnew_))
    go_ret2
    exact ⟨_, rfl, HO2.out, HB2.out⟩

/-! ### impl_within: function 60 -/
def impl_within.f (a0 : Int) (a1 : Int) (a2 : Int) : Option (Bool) := if a0 ≥ a1 then (some (decide (a0 ≤ a2))) else (some false)
theorem impl_within.calls (a0 : Int) (a1 : Int) (a2 : Int) (r : Bool) (w : World) (h : impl_within.f a0 a1 a2 = some r) :
    Calls Try.prog 60 #[.int .i64 a0, .int .i64 a1, .int .i64 a2] w fun e w' => e = .returned (.bool r) ∧ Drawn0 w w' := by
  have H : (if a0 ≥ a1 then (some (decide (a0 ≤ a2))) else (some false)) = some r := h
  clear h
  by_cases c4 : a0 ≥ a1
  · rw [if_pos c4] at H
    have c4b0 : decide (a1 ≤ a0) = true := decide_eq_true c4
    clear c4
    obtain rfl := Option.some.inj H
    go_enter Try.func60, Try.ntmps60
    go_wp2
    go_ret
    exact ⟨by first | rfl | (simp; done) | (simp [*]; done), by repeat (first | exact Drawn0.refl _ | apply Drawn0.step)⟩
  · rw [if_neg c4] at H
    have c4b0 : decide (a1 ≤ a0) = false := decide_eq_false c4
    clear c4
    obtain rfl := Option.some.inj H
    go_enter Try.func60, Try.ntmps60
    go_wp2
    go_ret
    exact ⟨by first | rfl | (simp; done) | (simp [*]; done), by repeat (first | exact Drawn0.refl _ | apply Drawn0.step)⟩

/-! ### impl_ValidTerms: function 59 -/
mutual
def impl_ValidTerms.j0 : Nat → List Int → Bool → Option (Bool)
  | 0, _, _ => none
  | k + 1, x0, x12 => if x12 = true then (some false) else (impl_ValidTerms.l0 k x0 x0 (x0.length : Int) 0)
def impl_ValidTerms.l0 : Nat → List Int → List Int → Int → Int → Option (Bool)
  | 0, _, _, _, _ => none
  | k + 1, x0, x13, x14, x15 => if x15 < x14 then (if 0 ≤ x15 then (if x15 < (x13.length : Int) then ((impl_within.f (rd x13 x15) (-1000000000) 1000000000).bind fun t130 => (if t130 = true then (if x15 > 0 then (if (rd x13 x15) < 1 then (some false) else (impl_ValidTerms.l0 k x0 x13 x14 (wrap64 (x15 + 1)))) else (impl_ValidTerms.l0 k x0 x13 x14 (wrap64 (x15 + 1)))) else (some false))) else (none)) else (none)) else (if (x0.length : Int) = 1 then (some true) else (if 0 ≤ (wrap64 ((x0.length : Int) - 1)) then (if (wrap64 ((x0.length : Int) - 1)) < (x0.length : Int) then (some (decide ((rd x0 (wrap64 ((x0.length : Int) - 1))) ≥ 2))) else (none)) else (none)))
end
def impl_ValidTerms.f (k : Nat) (l0 : List Int) : Option (Bool) := if (l0.length : Int) < 1 then (impl_ValidTerms.j0 k l0 true) else (impl_ValidTerms.j0 k l0 (decide ((l0.length : Int) > 40)))
theorem impl_ValidTerms.mono_l : ∀ k, (∀ y0 y1, LeO (impl_ValidTerms.j0 k y0 y1) (impl_ValidTerms.j0 (k + 1) y0 y1)) ∧ (∀ y0 y1 y2 y3, LeO (impl_ValidTerms.l0 k y0 y1 y2 y3) (impl_ValidTerms.l0 (k + 1) y0 y1 y2 y3))
  | 0 => ⟨fun _ _ r h => by simp [impl_ValidTerms.j0] at h, fun _ _ _ _ r h => by simp [impl_ValidTerms.l0] at h⟩
  | k + 1 => by
    obtain ⟨ih0, ih1⟩ := impl_ValidTerms.mono_l k
    refine ⟨?_, ?_⟩
    · intro y0 y1
      unfold impl_ValidTerms.j0
      repeat' first
      | (with_reducible exact ih0 _ _)
      | (with_reducible exact ih1 _ _ _ _)
      | (with_reducible exact LeO.refl _)
      | (with_reducible exact LeO.none _)
      | (with_reducible refine LeO.ite ?_ ?_)
      | (with_reducible refine LeO.bind ?_ (fun _ => ?_))
      | exact ih0 _ _
      | exact ih1 _ _ _ _
      | exact LeO.none _
      | refine LeO.ite ?_ ?_
      | refine LeO.bind ?_ (fun _ => ?_)
    · intro y0 y1 y2 y3
      unfold impl_ValidTerms.l0
      repeat' first
      | (with_reducible exact ih0 _ _)
      | (with_reducible exact ih1 _ _ _ _)
      | (with_reducible exact LeO.refl _)
      | (with_reducible exact LeO.none _)
      | (with_reducible refine LeO.ite ?_ ?_)
      | (with_reducible refine LeO.bind ?_ (fun _ => ?_))
      | exact ih0 _ _
      | exact ih1 _ _ _ _
      | exact LeO.none _
      | refine LeO.ite ?_ ?_
      | refine LeO.bind ?_ (fun _ => ?_)
theorem impl_ValidTerms.mono : ∀ a0 k, LeO (impl_ValidTerms.f k a0) (impl_ValidTerms.f (k + 1) a0) := by
  intro a0 k
  obtain ⟨ih0, ih1⟩ := impl_ValidTerms.mono_l k
  unfold impl_ValidTerms.f
  repeat' first
      | (with_reducible exact ih0 _ _)
      | (with_reducible exact ih1 _ _ _ _)
      | (with_reducible exact LeO.refl _)
      | (with_reducible exact LeO.none _)
      | (with_reducible refine LeO.ite ?_ ?_)
      | (with_reducible refine LeO.bind ?_ (fun _ => ?_))
      | exact ih0 _ _
      | exact ih1 _ _ _ _
      | exact LeO.none _
      | refine LeO.ite ?_ ?_
      | refine LeO.bind ?_ (fun _ => ?_)
theorem impl_ValidTerms.calls (k : Nat) (A0 : Option Addr) (c0 : Nat) (l0 : List Int) (r : Bool) (w : World) (hr0 : Kd.C (Kd.int .i64) w A0 l0.length l0) (hc0 : l0.length ≤ c0) (h : impl_ValidTerms.f k l0 = some r) :
    Calls Try.prog 59 #[.slice A0 l0.length c0] w fun e w' => e = .returned (.bool r) ∧ Drawn0 w w' := by
  have HR0 := Aside0.mk hr0
  have HC0 := Aside0.mk hc0
  clear hr0 hc0
  have H : (if (l0.length : Int) < 1 then (impl_ValidTerms.j0 k l0 true) else (impl_ValidTerms.j0 k l0 (decide ((l0.length : Int) > 40)))) = some r := h
  clear h
  have HC2 := Aside0.mk H
  clear H
  go_enter Try.func59, Try.ntmps59
  go_upto_region 1 with (fail)
  go_cut [12] (fun v12 wc => ∃ (kq : Nat) (x12_1 : Bool), v12 = .bool x12_1 ∧ Aside0 (impl_ValidTerms.j0 kq l0 x12_1 = some r) ∧ Aside0 (kq ≤ k) ∧ Drawn0 w wc)
  case first =>
    have H := HC2.out
    clear HC2
    by_cases c3 : (l0.length : Int) < 1
    · rw [if_pos c3] at H
      have c3b0 : decide ((l0.length : Int) < 1) = true := decide_eq_true c3
      have c3b1 : decide (l0.length < 1) = true := decide_eq_true (by omega)
      clear c3
      (first | rw [c3b0] | (simp only [i64_w, i32_w]; rw [c3b0]) | skip)
      have H' := Aside0.mk H
      clear H
      go_wp2
      go_meet
      case rel => exact ⟨_, (true), (by first | rfl | (simp; done) | (simp [*]; done)), H', ⟨by first | omega | exact Nat.le_refl _⟩, by repeat (first | exact Drawn0.refl _ | apply Drawn0.step)⟩
    · rw [if_neg c3] at H
      have c3b0 : decide ((l0.length : Int) < 1) = false := decide_eq_false c3
      have c3b1 : decide (l0.length < 1) = false := decide_eq_false (by omega)
      clear c3
      (first | rw [c3b0] | (simp only [i64_w, i32_w]; rw [c3b0]) | skip)
      have H' := Aside0.mk H
      clear H
      go_wp2
      go_meet
      case rel => exact ⟨_, (decide ((l0.length : Int) > 40)), (by first | rfl | (simp; done) | (simp [*]; done)), H', ⟨by first | omega | exact Nat.le_refl _⟩, by repeat (first | exact Drawn0.refl _ | apply Drawn0.step)⟩
  case rest =>
    clear HC2
    try clear p2
    try clear c3
    try clear c3b0
    try clear c3b1
    obtain ⟨kq, x12_1, rfl, HA, HJ1, ⟨mc1, rfl⟩⟩ := hcut
    cases kq with
    | zero => exact absurd HA.out (by simp [impl_ValidTerms.j0])
    | succ kj1 =>
      have H := HA.out
      clear HA
      simp only [impl_ValidTerms.j0] at H
      by_cases c4 : x12_1 = true
      · subst c4
        have H1 : (some false) = some r := by rw [if_pos rfl] at H; exact H
        clear H
        have H := H1
        clear H1
        obtain rfl := Option.some.inj H
        go_wp2
        go_ret
        exact ⟨by first | rfl | (simp; done) | (simp [*]; done), by repeat (first | exact Drawn0.refl _ | apply Drawn0.step)⟩
      · replace c4 := Bool.eq_false_iff.mpr c4
        subst c4
        have H1 : (impl_ValidTerms.l0 kj1 l0 l0 (l0.length : Int) 0) = some r := by rw [if_neg (show ¬ (false = true) by decide)] at H; exact H
        clear H
        have H := H1
        clear H1
        have H' := Aside0.mk H
        clear H
        go_wp2
        go_loopg [15] kj1 (fun kq v15 w' => ∃ (x15_2 : Int), v15 = .int .i64 x15_2 ∧ Aside0 (impl_ValidTerms.l0 kq l0 l0 (l0.length : Int) x15_2 = some r) ∧ Aside0 (kq ≤ kj1) ∧ Drawn0 w w')
        case atStart => exact ⟨(0), (by first | rfl | (simp; done) | (simp [*]; done)), H', ⟨Nat.le_refl _⟩, by repeat (first | exact Drawn0.refl _ | apply Drawn0.step)⟩
        case round =>
          clear H'
          try clear c1
          try clear p2
          try clear c3
          try clear c3b0
          try clear c3b1
          try clear c4
          try clear p2
          obtain ⟨x15_2, rfl, HA, HK2, ⟨m2, rfl⟩⟩ := hrel
          cases gk with
          | zero => exact absurd HA.out (by simp [impl_ValidTerms.l0])
          | succ k2 =>
            have H := HA.out
            clear HA
            simp only [impl_ValidTerms.l0] at H
            by_cases c5 : x15_2 < (l0.length : Int)
            · rw [if_pos c5] at H
              have c5b0 : decide (x15_2 < (l0.length : Int)) = true := decide_eq_true c5
              clear c5
              by_cases c6 : 0 ≤ x15_2
              · rw [if_pos c6] at H
                have c6b0 : decide (0 ≤ x15_2) = true := decide_eq_true c6
                clear c6
                have c7 : x15_2 < (l0.length : Int) := of_decide_eq_true c5b0
                rw [if_pos c7] at H
                clear c7
                replace H := Option.bind_eq_some_iff.mp H
                obtain ⟨t130, A80, H⟩ := H
                replace H : (if t130 = true then (if x15_2 > 0 then (if (rd l0 x15_2) < 1 then (some false) else (impl_ValidTerms.l0 k2 l0 l0 (l0.length : Int) (wrap64 (x15_2 + 1)))) else (impl_ValidTerms.l0 k2 l0 l0 (l0.length : Int) (wrap64 (x15_2 + 1)))) else (some false)) = some r := H
                have A8 := Aside0.mk A80
                clear A80
                by_cases c9 : t130 = true
                · subst c9
                  have H1 : (if x15_2 > 0 then (if (rd l0 x15_2) < 1 then (some false) else (impl_ValidTerms.l0 k2 l0 l0 (l0.length : Int) (wrap64 (x15_2 + 1)))) else (impl_ValidTerms.l0 k2 l0 l0 (l0.length : Int) (wrap64 (x15_2 + 1)))) = some r := by rw [if_pos rfl] at H; exact H
                  clear H
                  have H := H1
                  clear H1
                  by_cases c10 : x15_2 > 0
                  · rw [if_pos c10] at H
                    have c10b0 : decide (0 < x15_2) = true := decide_eq_true c10
                    clear c10
                    by_cases c11 : (rd l0 x15_2) < 1
                    · rw [if_pos c11] at H
                      have c11b0 : decide ((rd l0 x15_2) < 1) = true := decide_eq_true c11
                      clear c11
                      obtain rfl := Option.some.inj H
                      have p129 : 0 ≤ (x15_2 : Int) := of_decide_eq_true (by first | (with_reducible assumption) | assumption)
                      have q129 : x15_2 < (l0.length : Int) := of_decide_eq_true (by first | (with_reducible assumption) | assumption)
                      obtain ⟨ad129, e129, hx129_0⟩ := Kd.at_int HR0.out x15_2 p129 q129
                      cases e129
                      replace p129 := eq_true p129
                      replace q129 := eq_true q129
                      go_wp2_with (first | ((with_reducible refine gate_callee (f := 60) rfl ?_); refine goesL_ (some 21) rfl rfl Try.func60 (by kernel_rfl) rfl #[.int .i64 (rd l0 x15_2), .int .i64 (-1000000000), .int .i64 1000000000] rfl (by (try simp only [List.map_toArray, List.map_cons, List.map_nil]); first | done | rfl | (simp only [List.length_drop, List.length_take]; rfl) | (simp only [List.drop_one]; done) | (simp only [List.drop_one]; rfl)) ?_; (with_reducible refine (impl_within.calls (rd l0 x15_2) (-1000000000) 1000000000 true _ A8.out).mono ?_); rintro e w' ⟨rfl, ⟨nd, rfl⟩⟩; refine ⟨_, rfl, ?_⟩))
                      go_ret
                      exact ⟨by first | rfl | (simp; done) | (simp [*]; done), by repeat (first | exact Drawn0.refl _ | apply Drawn0.step)⟩
                    · rw [if_neg c11] at H
                      have c11b0 : decide ((rd l0 x15_2) < 1) = false := decide_eq_false c11
                      clear c11
                      have H' := Aside0.mk H
                      clear H
                      have p129 : 0 ≤ (x15_2 : Int) := of_decide_eq_true (by first | (with_reducible assumption) | assumption)
                      have q129 : x15_2 < (l0.length : Int) := of_decide_eq_true (by first | (with_reducible assumption) | assumption)
                      obtain ⟨ad129, e129, hx129_0⟩ := Kd.at_int HR0.out x15_2 p129 q129
                      cases e129
                      replace p129 := eq_true p129
                      replace q129 := eq_true q129
                      go_wp2_with (first | ((with_reducible refine gate_callee (f := 60) rfl ?_); refine goesL_ (some 21) rfl rfl Try.func60 (by kernel_rfl) rfl #[.int .i64 (rd l0 x15_2), .int .i64 (-1000000000), .int .i64 1000000000] rfl (by (try simp only [List.map_toArray, List.map_cons, List.map_nil]); first | done | rfl | (simp only [List.length_drop, List.length_take]; rfl) | (simp only [List.drop_one]; done) | (simp only [List.drop_one]; rfl)) ?_; (with_reducible refine (impl_within.calls (rd l0 x15_2) (-1000000000) 1000000000 true _ A8.out).mono ?_); rintro e w' ⟨rfl, ⟨nd, rfl⟩⟩; refine ⟨_, rfl, ?_⟩))
                      go_roundg k2
                      case measure => have := HJ1.out; have := HK2.out; omega
                      case rel => exact ⟨(wrap64 (x15_2 + 1)), (by first | rfl | (simp; done) | (simp [*]; done)), H', ⟨by have := HJ1.out; have := HK2.out; omega⟩, by repeat (first | exact Drawn0.refl _ | apply Drawn0.step)⟩
                  · rw [if_neg c10] at H
                    have c10b0 : decide (0 < x15_2) = false := decide_eq_false c10
                    clear c10
                    have H' := Aside0.mk H
                    clear H
                    have p129 : 0 ≤ (x15_2 : Int) := of_decide_eq_true (by first | (with_reducible assumption) | assumption)
                    have q129 : x15_2 < (l0.length : Int) := of_decide_eq_true (by first | (with_reducible assumption) | assumption)
                    obtain ⟨ad129, e129, hx129_0⟩ := Kd.at_int HR0.out x15_2 p129 q129
                    cases e129
                    replace p129 := eq_true p129
                    replace q129 := eq_true q129
                    go_wp2_with (first | ((with_reducible refine gate_callee (f := 60) rfl ?_); refine goesL_ (some 21) rfl rfl Try.func60 (by kernel_rfl) rfl #[.int .i64 (rd l0 x15_2), .int .i64 (-1000000000), .int .i64 1000000000] rfl (by (try simp only [List.map_toArray, List.map_cons, List.map_nil]); first | done | rfl | (simp only [List.length_drop, List.length_take]; rfl) | (simp only [List.drop_one]; done) | (simp only [List.drop_one]; rfl)) ?_; (with_reducible refine (impl_within.calls (rd l0 x15_2) (-1000000000) 1000000000 true _ A8.out).mono ?_); rintro e w' ⟨rfl, ⟨nd, rfl⟩⟩; refine ⟨_, rfl, ?_⟩))
                    go_roundg k2
                    case measure => have := HJ1.out; have := HK2.out; omega
                    case rel => exact ⟨(wrap64 (x15_2 + 1)), (by first | rfl | (simp; done) | (simp [*]; done)), H', ⟨by have := HJ1.out; have := HK2.out; omega⟩, by repeat (first | exact Drawn0.refl _ | apply Drawn0.step)⟩
                · replace c9 := Bool.eq_false_iff.mpr c9
                  subst c9
                  have H1 : (some false) = some r := by rw [if_neg (show ¬ (false = true) by decide)] at H; exact H
                  clear H
                  have H := H1
                  clear H1
                  obtain rfl := Option.some.inj H
                  have p129 : 0 ≤ (x15_2 : Int) := of_decide_eq_true (by first | (with_reducible assumption) | assumption)
                  have q129 : x15_2 < (l0.length : Int) := of_decide_eq_true (by first | (with_reducible assumption) | assumption)
                  obtain ⟨ad129, e129, hx129_0⟩ := Kd.at_int HR0.out x15_2 p129 q129
                  cases e129
                  replace p129 := eq_true p129
                  replace q129 := eq_true q129
                  go_wp2_with (first | ((with_reducible refine gate_callee (f := 60) rfl ?_); refine goesL_ (some 21) rfl rfl Try.func60 (by kernel_rfl) rfl #[.int .i64 (rd l0 x15_2), .int .i64 (-1000000000), .int .i64 1000000000] rfl (by (try simp only [List.map_toArray, List.map_cons, List.map_nil]); first | done | rfl | (simp only [List.length_drop, List.length_take]; rfl) | (simp only [List.drop_one]; done) | (simp only [List.drop_one]; rfl)) ?_; (with_reducible refine (impl_within.calls (rd l0 x15_2) (-1000000000) 1000000000 false _ A8.out).mono ?_); rintro e w' ⟨rfl, ⟨nd, rfl⟩⟩; refine ⟨_, rfl, ?_⟩))
                  go_ret
                  exact ⟨by first | rfl | (simp; done) | (simp [*]; done), by repeat (first | exact Drawn0.refl _ | apply Drawn0.step)⟩
              · rw [if_neg c6] at H
                exact absurd H (by simp)
            · rw [if_neg c5] at H
              have c5b0 : decide (x15_2 < (l0.length : Int)) = false := decide_eq_false c5
              clear c5
              by_cases c12 : (l0.length : Int) = 1
              · rw [if_pos c12] at H
                have c12b0 : ((l0.length : Int) == 1) = true := beq_iff_eq.mpr c12
                have c12b1 : ((l0.length : Int) != 1) = false := bne_eq_false_iff_eq.mpr c12
                clear c12
                obtain rfl := Option.some.inj H
                go_wp2
                go_ret
                exact ⟨by first | rfl | (simp; done) | (simp [*]; done), by repeat (first | exact Drawn0.refl _ | apply Drawn0.step)⟩
              · rw [if_neg c12] at H
                have c12b0 : ((l0.length : Int) == 1) = false := beq_eq_false_iff_ne.mpr c12
                have c12b1 : ((l0.length : Int) != 1) = true := bne_iff_ne.mpr c12
                obtain ⟨ji13, hji13⟩ : ∃ j_ : Int, (wrap64 ((l0.length : Int) - 1)) = j_ := ⟨_, rfl⟩
                replace H : (if 0 ≤ (ji13) then (if (ji13) < (l0.length : Int) then (some (decide ((rd l0 (ji13)) ≥ 2))) else (none)) else (none)) = some r := by first | (rw [hji13] at H; exact H) | (simp only [hji13] at H ⊢; exact H)
                have hji13w : (IntKind.i64.wrap ((l0.length : Int) - 1)) = ji13 := (i64_w _).trans hji13
                by_cases c14 : 0 ≤ (ji13)
                · rw [if_pos c14] at H
                  have c14b0 : decide (0 ≤ (ji13)) = true := decide_eq_true c14
                  clear c14
                  by_cases c15 : (ji13) < (l0.length : Int)
                  · rw [if_pos c15] at H
                    have c15b0 : decide ((ji13) < (l0.length : Int)) = true := decide_eq_true c15
                    clear c15
                    obtain rfl := Option.some.inj H
                    have p131 : 0 ≤ ((ji13) : Int) := of_decide_eq_true (by first | (with_reducible assumption) | assumption)
                    have q131 : (ji13) < (l0.length : Int) := of_decide_eq_true (by first | (with_reducible assumption) | assumption)
                    obtain ⟨ad131, e131, hx131_0⟩ := Kd.at_int HR0.out (ji13) p131 q131
                    cases e131
                    replace p131 := eq_true p131
                    replace q131 := eq_true q131
                    go_wp2
                    go_ret
                    exact ⟨by first | rfl | (simp; done) | (simp only [← hji13] <;> (first | rfl | simp)) | (simp [*]; done), by repeat (first | exact Drawn0.refl _ | apply Drawn0.step)⟩
                  · rw [if_neg c15] at H
                    exact absurd H (by simp)
                · rw [if_neg c14] at H
                  exact absurd H (by simp)

end Go.Proofs.Ytgldplkbacfacaa.MFnEights
