/- Functions of the program as Lean functions, and the proof that the code comes to what they say. Written by a program of this session (myprint.py). -/
import Derived.Test.YtbomadebdekjjaaProg
import Derived.Below
import Derived.Deep.Draws
import Derived.Deep.AppendLies
import Derived.Maps.AppendAt
import Derived.OwnWalk
import Derived.Laws.BytesArg
import Derived.Laws.MakeOwn
import Derived.Laws.OwnMore
import Derived.Deep.OwnRows
import Derived.Tactics
import Derived.Lib.ConvBytes
import Derived.Laws.Slices
import Derived.WalkKit
import Derived.KernelRfl
import Derived.RowKit3
import Derived.Deep.LoopGhost
import Derived.Deep.QuietTactic
import Derived.BigQuiet
import Derived.WideLaws
import Derived.Deep.DeepCutAuto
import Derived.Deep.CutBlock
import Derived.Deep.RegionHeld3
import Derived.Laws.Rows
import Derived.Lib.AppendStr
import Derived.ArgAppend
import Derived.Laws.IdiomCopy
import Derived.OrdersHeld
import Derived.Laws.BitsLemmas
import Derived.RowKit
import Derived.ChangeKeysEq
import Derived.Test.YtbomadebdekjjaaWide
import Derived.Test.YtbomadebdekjjaaWWords
import Derived.Test.YtbomadebdekjjaaWLast
import Derived.Test.YtbomadebdekjjaaWTab
import Derived.Test.YtbomadebdekjjaaWFour
import Derived.Test.YtbomadebdekjjaaWQPut
import Derived.Test.YtbomadebdekjjaaWApart
import Derived.Test.YtbomadebdekjjaaWArr
import Derived.Test.YtbomadebdekjjaaWZeros
import Derived.Test.YtbomadebdekjjaaWFoot
import Derived.Test.YtbomadebdekjjaaWKept
import Derived.Test.YtbomadebdekjjaaWShare
import Derived.Test.YtbomadebdekjjaaWN
import Derived.Test.YtbomadebdekjjaaWFootNe
import Derived.Test.YtbomadebdekjjaaWAt
import Derived.Test.YtbomadebdekjjaaWEqStruct
import Derived.Test.YtbomadebdekjjaaWRepsOne
import Derived.Test.YtbomadebdekjjaaWInv
import Derived.Test.YtbomadebdekjjaaWInvWords
import Derived.Test.YtbomadebdekjjaaWGuard
import Derived.Test.YtbomadebdekjjaaWNEv
import Derived.Test.YtbomadebdekjjaaWMore
import Derived.Test.YtbomadebdekjjaaMOpen
namespace Go.Proofs.Ytbomadebdekjjaa.MFnExactSeriesTerms
open Go.RowKit Go.Proofs.Ytbomadebdekjjaa.MOpen Go.Proofs.YtbomadebdekjjaaW.PrintWords Go.Proofs.YtbomadebdekjjaaW.PrintLast Go.Proofs.YtbomadebdekjjaaW.PrintMore
attribute [local go_sem] max2_int min2_int max_two min_two max_three min_three max_four min_four   -- for this text's walks alone
set_option linter.unusedVariables false
set_option linter.unusedSimpArgs false



def errW : Option Int → Value
  | none => .nilIface
  | some c => .iface 0 (.int .i64 c)
theorem errW_none : errW none = .nilIface := rfl
theorem errW_some (c : Int) : errW (some c) = .iface 0 (.int .i64 c) := rfl

theorem info111 : (Try.prog.info? 111).map (fun i => (i.zero, i.size, i.bytes)) = some (some (.agg #[(.int .u32 0), (.int .u32 0), (.int .u32 0), (.int .u32 0), (.int .u32 0), (.int .u32 0)]), 6, 24) := by kernel_rfl
-- the values' own types
/-! #### struct type 40 -/
structure S40 where
  f0 : Int
  f1 : Int
  f2 : Int
  f3 : Int
  f4 : Bool
def z40 : S40 := ⟨(0 : Int), (0 : Int), (0 : Int), (0 : Int), false⟩
def k40 : Kd S40 := Kd.iso (Kd.pair (Kd.int .i64) (Kd.pair (Kd.int .i64) (Kd.pair (Kd.int .i64) (Kd.pair (Kd.int .i64) Kd.bool)))) (fun x : S40 => (x.f0, x.f1, x.f2, x.f3, x.f4))
theorem k40_open {w : World} {x : S40} {cs : List Value} (h : k40.K w x cs) : cs = [.int .i64 x.f0, .int .i64 x.f1, .int .i64 x.f2, .int .i64 x.f3, .bool x.f4] := by
  obtain ⟨_, _, rfl, rfl, ⟨_, _, rfl, rfl, ⟨_, _, rfl, rfl, ⟨_, _, rfl, rfl, rfl⟩⟩⟩⟩ := h
  exact rfl
theorem k40_openM {w : World} {base : Nat} {ok : Nat → Prop} {x : S40} {cs : List Value} (h : k40.M w base ok x cs) : cs = [.int .i64 x.f0, .int .i64 x.f1, .int .i64 x.f2, .int .i64 x.f3, .bool x.f4] := by
  obtain ⟨_, _, rfl, rfl, ⟨_, _, rfl, rfl, ⟨_, _, rfl, rfl, ⟨_, _, rfl, rfl, rfl⟩⟩⟩⟩ := h
  exact rfl
theorem k40_mk (w : World) (x : S40)  : k40.K w x [.int .i64 x.f0, .int .i64 x.f1, .int .i64 x.f2, .int .i64 x.f3, .bool x.f4] := ⟨[.int .i64 x.f0], [.int .i64 x.f1, .int .i64 x.f2, .int .i64 x.f3, .bool x.f4], rfl, rfl, ⟨[.int .i64 x.f1], [.int .i64 x.f2, .int .i64 x.f3, .bool x.f4], rfl, rfl, ⟨[.int .i64 x.f2], [.int .i64 x.f3, .bool x.f4], rfl, rfl, ⟨[.int .i64 x.f3], [.bool x.f4], rfl, rfl, rfl⟩⟩⟩⟩
theorem k40_mkM (w : World) (base : Nat) (ok : Nat → Prop) (x : S40)  : k40.M w base ok x [.int .i64 x.f0, .int .i64 x.f1, .int .i64 x.f2, .int .i64 x.f3, .bool x.f4] := ⟨[.int .i64 x.f0], [.int .i64 x.f1, .int .i64 x.f2, .int .i64 x.f3, .bool x.f4], rfl, rfl, ⟨[.int .i64 x.f1], [.int .i64 x.f2, .int .i64 x.f3, .bool x.f4], rfl, rfl, ⟨[.int .i64 x.f2], [.int .i64 x.f3, .bool x.f4], rfl, rfl, ⟨[.int .i64 x.f3], [.bool x.f4], rfl, rfl, rfl⟩⟩⟩⟩
def rd_T40 (xs : List S40) (i : Int) : S40 := xs.getD i.toNat z40
theorem at_T40 {w : World} {A : Option Addr} {n : Nat} {xs : List S40} (h : Kd.C k40 w A n xs) (i : Int) (h0 : 0 ≤ i) (h1 : i < n) : ∃ ad , A = some ad ∧ w.cell? (ad.add (i.toNat * 5)) = some (.int .i64 (rd_T40 xs i).f0) ∧ w.cell? ⟨(ad.add (i.toNat * 5)).block, (ad.add (i.toNat * 5)).off + 1, none⟩ = some (.int .i64 (rd_T40 xs i).f1) ∧ w.cell? ⟨(ad.add (i.toNat * 5)).block, (ad.add (i.toNat * 5)).off + 2, none⟩ = some (.int .i64 (rd_T40 xs i).f2) ∧ w.cell? ⟨(ad.add (i.toNat * 5)).block, (ad.add (i.toNat * 5)).off + 3, none⟩ = some (.int .i64 (rd_T40 xs i).f3) ∧ w.cell? ⟨(ad.add (i.toNat * 5)).block, (ad.add (i.toNat * 5)).off + 4, none⟩ = some (.bool (rd_T40 xs i).f4) := by
  obtain ⟨ad, c, e, _, hK, hc0⟩ := Kd.C_get h z40 i h0 h1
  have hc : ∀ j u, c[j]? = some u → w.cell? (ad.add (i.toNat * 5 + j)) = some u := hc0
  obtain rfl := k40_open hK
  exact ⟨ad, e, hc 0 _ rfl, by rw [← add_field _ _ 1 (by omega)]; exact hc 1 _ rfl, by rw [← add_field _ _ 2 (by omega)]; exact hc 2 _ rfl, by rw [← add_field _ _ 3 (by omega)]; exact hc 3 _ rfl, by rw [← add_field _ _ 4 (by omega)]; exact hc 4 _ rfl⟩

/-! #### struct type 23 -/
structure S23 where
  f0 : Int
  f1 : Int
  f2 : Int
  f3 : Int
  f4 : Int
  f5 : Int
def z23 : S23 := ⟨(0 : Int), (0 : Int), (0 : Int), (0 : Int), (0 : Int), (0 : Int)⟩
def k23 : Kd S23 := Kd.iso (Kd.pair (Kd.int .u32) (Kd.pair (Kd.int .u32) (Kd.pair (Kd.int .u32) (Kd.pair (Kd.int .u32) (Kd.pair (Kd.int .u32) (Kd.int .u32)))))) (fun x : S23 => (x.f0, x.f1, x.f2, x.f3, x.f4, x.f5))
theorem k23_open {w : World} {x : S23} {cs : List Value} (h : k23.K w x cs) : cs = [.int .u32 x.f0, .int .u32 x.f1, .int .u32 x.f2, .int .u32 x.f3, .int .u32 x.f4, .int .u32 x.f5] := by
  obtain ⟨_, _, rfl, rfl, ⟨_, _, rfl, rfl, ⟨_, _, rfl, rfl, ⟨_, _, rfl, rfl, ⟨_, _, rfl, rfl, rfl⟩⟩⟩⟩⟩ := h
  exact rfl
theorem k23_openM {w : World} {base : Nat} {ok : Nat → Prop} {x : S23} {cs : List Value} (h : k23.M w base ok x cs) : cs = [.int .u32 x.f0, .int .u32 x.f1, .int .u32 x.f2, .int .u32 x.f3, .int .u32 x.f4, .int .u32 x.f5] := by
  obtain ⟨_, _, rfl, rfl, ⟨_, _, rfl, rfl, ⟨_, _, rfl, rfl, ⟨_, _, rfl, rfl, ⟨_, _, rfl, rfl, rfl⟩⟩⟩⟩⟩ := h
  exact rfl
theorem k23_mk (w : World) (x : S23)  : k23.K w x [.int .u32 x.f0, .int .u32 x.f1, .int .u32 x.f2, .int .u32 x.f3, .int .u32 x.f4, .int .u32 x.f5] := ⟨[.int .u32 x.f0], [.int .u32 x.f1, .int .u32 x.f2, .int .u32 x.f3, .int .u32 x.f4, .int .u32 x.f5], rfl, rfl, ⟨[.int .u32 x.f1], [.int .u32 x.f2, .int .u32 x.f3, .int .u32 x.f4, .int .u32 x.f5], rfl, rfl, ⟨[.int .u32 x.f2], [.int .u32 x.f3, .int .u32 x.f4, .int .u32 x.f5], rfl, rfl, ⟨[.int .u32 x.f3], [.int .u32 x.f4, .int .u32 x.f5], rfl, rfl, ⟨[.int .u32 x.f4], [.int .u32 x.f5], rfl, rfl, rfl⟩⟩⟩⟩⟩
theorem k23_mkM (w : World) (base : Nat) (ok : Nat → Prop) (x : S23)  : k23.M w base ok x [.int .u32 x.f0, .int .u32 x.f1, .int .u32 x.f2, .int .u32 x.f3, .int .u32 x.f4, .int .u32 x.f5] := ⟨[.int .u32 x.f0], [.int .u32 x.f1, .int .u32 x.f2, .int .u32 x.f3, .int .u32 x.f4, .int .u32 x.f5], rfl, rfl, ⟨[.int .u32 x.f1], [.int .u32 x.f2, .int .u32 x.f3, .int .u32 x.f4, .int .u32 x.f5], rfl, rfl, ⟨[.int .u32 x.f2], [.int .u32 x.f3, .int .u32 x.f4, .int .u32 x.f5], rfl, rfl, ⟨[.int .u32 x.f3], [.int .u32 x.f4, .int .u32 x.f5], rfl, rfl, ⟨[.int .u32 x.f4], [.int .u32 x.f5], rfl, rfl, rfl⟩⟩⟩⟩⟩
def rd_T23 (xs : List S23) (i : Int) : S23 := xs.getD i.toNat z23
theorem at_T23 {w : World} {A : Option Addr} {n : Nat} {xs : List S23} (h : Kd.C k23 w A n xs) (i : Int) (h0 : 0 ≤ i) (h1 : i < n) : ∃ ad , A = some ad ∧ w.cell? (ad.add (i.toNat * 6)) = some (.int .u32 (rd_T23 xs i).f0) ∧ w.cell? ⟨(ad.add (i.toNat * 6)).block, (ad.add (i.toNat * 6)).off + 1, none⟩ = some (.int .u32 (rd_T23 xs i).f1) ∧ w.cell? ⟨(ad.add (i.toNat * 6)).block, (ad.add (i.toNat * 6)).off + 2, none⟩ = some (.int .u32 (rd_T23 xs i).f2) ∧ w.cell? ⟨(ad.add (i.toNat * 6)).block, (ad.add (i.toNat * 6)).off + 3, none⟩ = some (.int .u32 (rd_T23 xs i).f3) ∧ w.cell? ⟨(ad.add (i.toNat * 6)).block, (ad.add (i.toNat * 6)).off + 4, none⟩ = some (.int .u32 (rd_T23 xs i).f4) ∧ w.cell? ⟨(ad.add (i.toNat * 6)).block, (ad.add (i.toNat * 6)).off + 5, none⟩ = some (.int .u32 (rd_T23 xs i).f5) := by
  obtain ⟨ad, c, e, _, hK, hc0⟩ := Kd.C_get h z23 i h0 h1
  have hc : ∀ j u, c[j]? = some u → w.cell? (ad.add (i.toNat * 6 + j)) = some u := hc0
  obtain rfl := k23_open hK
  exact ⟨ad, e, hc 0 _ rfl, by rw [← add_field _ _ 1 (by omega)]; exact hc 1 _ rfl, by rw [← add_field _ _ 2 (by omega)]; exact hc 2 _ rfl, by rw [← add_field _ _ 3 (by omega)]; exact hc 3 _ rfl, by rw [← add_field _ _ 4 (by omega)]; exact hc 4 _ rfl, by rw [← add_field _ _ 5 (by omega)]; exact hc 5 _ rfl⟩

/-! #### struct type 24 -/
structure S24 where
  f0 : Bool
  f1 : S23
def z24 : S24 := ⟨false, z23⟩
def k24 : Kd S24 := Kd.iso (Kd.pair Kd.bool k23) (fun x : S24 => (x.f0, x.f1))
theorem k24_open {w : World} {x : S24} {cs : List Value} (h : k24.K w x cs) : cs = [.bool x.f0, .int .u32 x.f1.f0, .int .u32 x.f1.f1, .int .u32 x.f1.f2, .int .u32 x.f1.f3, .int .u32 x.f1.f4, .int .u32 x.f1.f5] := by
  obtain ⟨_, _, rfl, rfl, s1⟩ := h
  obtain rfl := k23_open s1
  exact rfl
theorem k24_openM {w : World} {base : Nat} {ok : Nat → Prop} {x : S24} {cs : List Value} (h : k24.M w base ok x cs) : cs = [.bool x.f0, .int .u32 x.f1.f0, .int .u32 x.f1.f1, .int .u32 x.f1.f2, .int .u32 x.f1.f3, .int .u32 x.f1.f4, .int .u32 x.f1.f5] := by
  obtain ⟨_, _, rfl, rfl, s1⟩ := h
  obtain rfl := k23_openM s1
  exact rfl
theorem k24_mk (w : World) (x : S24)  : k24.K w x [.bool x.f0, .int .u32 x.f1.f0, .int .u32 x.f1.f1, .int .u32 x.f1.f2, .int .u32 x.f1.f3, .int .u32 x.f1.f4, .int .u32 x.f1.f5] := ⟨[.bool x.f0], [.int .u32 x.f1.f0, .int .u32 x.f1.f1, .int .u32 x.f1.f2, .int .u32 x.f1.f3, .int .u32 x.f1.f4, .int .u32 x.f1.f5], rfl, rfl, (k23_mk w x.f1 )⟩
theorem k24_mkM (w : World) (base : Nat) (ok : Nat → Prop) (x : S24)  : k24.M w base ok x [.bool x.f0, .int .u32 x.f1.f0, .int .u32 x.f1.f1, .int .u32 x.f1.f2, .int .u32 x.f1.f3, .int .u32 x.f1.f4, .int .u32 x.f1.f5] := ⟨[.bool x.f0], [.int .u32 x.f1.f0, .int .u32 x.f1.f1, .int .u32 x.f1.f2, .int .u32 x.f1.f3, .int .u32 x.f1.f4, .int .u32 x.f1.f5], rfl, rfl, (k23_mkM w base ok x.f1 )⟩
def rd_T24 (xs : List S24) (i : Int) : S24 := xs.getD i.toNat z24
theorem at_T24 {w : World} {A : Option Addr} {n : Nat} {xs : List S24} (h : Kd.C k24 w A n xs) (i : Int) (h0 : 0 ≤ i) (h1 : i < n) : ∃ ad , A = some ad ∧ w.cell? (ad.add (i.toNat * 7)) = some (.bool (rd_T24 xs i).f0) ∧ w.cell? ⟨(ad.add (i.toNat * 7)).block, (ad.add (i.toNat * 7)).off + 1, none⟩ = some (.int .u32 (rd_T24 xs i).f1.f0) ∧ w.cell? ⟨(ad.add (i.toNat * 7)).block, (ad.add (i.toNat * 7)).off + 2, none⟩ = some (.int .u32 (rd_T24 xs i).f1.f1) ∧ w.cell? ⟨(ad.add (i.toNat * 7)).block, (ad.add (i.toNat * 7)).off + 3, none⟩ = some (.int .u32 (rd_T24 xs i).f1.f2) ∧ w.cell? ⟨(ad.add (i.toNat * 7)).block, (ad.add (i.toNat * 7)).off + 4, none⟩ = some (.int .u32 (rd_T24 xs i).f1.f3) ∧ w.cell? ⟨(ad.add (i.toNat * 7)).block, (ad.add (i.toNat * 7)).off + 5, none⟩ = some (.int .u32 (rd_T24 xs i).f1.f4) ∧ w.cell? ⟨(ad.add (i.toNat * 7)).block, (ad.add (i.toNat * 7)).off + 6, none⟩ = some (.int .u32 (rd_T24 xs i).f1.f5) := by
  obtain ⟨ad, c, e, _, hK, hc0⟩ := Kd.C_get h z24 i h0 h1
  have hc : ∀ j u, c[j]? = some u → w.cell? (ad.add (i.toNat * 7 + j)) = some u := hc0
  obtain rfl := k24_open hK
  exact ⟨ad, e, hc 0 _ rfl, by rw [← add_field _ _ 1 (by omega)]; exact hc 1 _ rfl, by rw [← add_field _ _ 2 (by omega)]; exact hc 2 _ rfl, by rw [← add_field _ _ 3 (by omega)]; exact hc 3 _ rfl, by rw [← add_field _ _ 4 (by omega)]; exact hc 4 _ rfl, by rw [← add_field _ _ 5 (by omega)]; exact hc 5 _ rfl, by rw [← add_field _ _ 6 (by omega)]; exact hc 6 _ rfl⟩

/-! #### struct type 123 -/
structure S123 where
  f0 : Int
  f1 : Int
  f2 : Int
  f3 : Int
  f4 : Int
  f5 : Int
  f6 : Int
  f7 : Int
  f8 : Int
  f9 : Int
  f10 : Int
  f11 : Int
def z123 : S123 := ⟨(0 : Int), (0 : Int), (0 : Int), (0 : Int), (0 : Int), (0 : Int), (0 : Int), (0 : Int), (0 : Int), (0 : Int), (0 : Int), (0 : Int)⟩
def k123 : Kd S123 := Kd.iso (Kd.pair (Kd.int .u32) (Kd.pair (Kd.int .u32) (Kd.pair (Kd.int .u32) (Kd.pair (Kd.int .u32) (Kd.pair (Kd.int .u32) (Kd.pair (Kd.int .u32) (Kd.pair (Kd.int .u32) (Kd.pair (Kd.int .u32) (Kd.pair (Kd.int .u32) (Kd.pair (Kd.int .u32) (Kd.pair (Kd.int .u32) (Kd.int .u32)))))))))))) (fun x : S123 => (x.f0, x.f1, x.f2, x.f3, x.f4, x.f5, x.f6, x.f7, x.f8, x.f9, x.f10, x.f11))
theorem k123_open {w : World} {x : S123} {cs : List Value} (h : k123.K w x cs) : cs = [.int .u32 x.f0, .int .u32 x.f1, .int .u32 x.f2, .int .u32 x.f3, .int .u32 x.f4, .int .u32 x.f5, .int .u32 x.f6, .int .u32 x.f7, .int .u32 x.f8, .int .u32 x.f9, .int .u32 x.f10, .int .u32 x.f11] := by
  obtain ⟨_, _, rfl, rfl, ⟨_, _, rfl, rfl, ⟨_, _, rfl, rfl, ⟨_, _, rfl, rfl, ⟨_, _, rfl, rfl, ⟨_, _, rfl, rfl, ⟨_, _, rfl, rfl, ⟨_, _, rfl, rfl, ⟨_, _, rfl, rfl, ⟨_, _, rfl, rfl, ⟨_, _, rfl, rfl, rfl⟩⟩⟩⟩⟩⟩⟩⟩⟩⟩⟩ := h
  exact rfl
theorem k123_openM {w : World} {base : Nat} {ok : Nat → Prop} {x : S123} {cs : List Value} (h : k123.M w base ok x cs) : cs = [.int .u32 x.f0, .int .u32 x.f1, .int .u32 x.f2, .int .u32 x.f3, .int .u32 x.f4, .int .u32 x.f5, .int .u32 x.f6, .int .u32 x.f7, .int .u32 x.f8, .int .u32 x.f9, .int .u32 x.f10, .int .u32 x.f11] := by
  obtain ⟨_, _, rfl, rfl, ⟨_, _, rfl, rfl, ⟨_, _, rfl, rfl, ⟨_, _, rfl, rfl, ⟨_, _, rfl, rfl, ⟨_, _, rfl, rfl, ⟨_, _, rfl, rfl, ⟨_, _, rfl, rfl, ⟨_, _, rfl, rfl, ⟨_, _, rfl, rfl, ⟨_, _, rfl, rfl, rfl⟩⟩⟩⟩⟩⟩⟩⟩⟩⟩⟩ := h
  exact rfl
theorem k123_mk (w : World) (x : S123)  : k123.K w x [.int .u32 x.f0, .int .u32 x.f1, .int .u32 x.f2, .int .u32 x.f3, .int .u32 x.f4, .int .u32 x.f5, .int .u32 x.f6, .int .u32 x.f7, .int .u32 x.f8, .int .u32 x.f9, .int .u32 x.f10, .int .u32 x.f11] := ⟨[.int .u32 x.f0], [.int .u32 x.f1, .int .u32 x.f2, .int .u32 x.f3, .int .u32 x.f4, .int .u32 x.f5, .int .u32 x.f6, .int .u32 x.f7, .int .u32 x.f8, .int .u32 x.f9, .int .u32 x.f10, .int .u32 x.f11], rfl, rfl, ⟨[.int .u32 x.f1], [.int .u32 x.f2, .int .u32 x.f3, .int .u32 x.f4, .int .u32 x.f5, .int .u32 x.f6, .int .u32 x.f7, .int .u32 x.f8, .int .u32 x.f9, .int .u32 x.f10, .int .u32 x.f11], rfl, rfl, ⟨[.int .u32 x.f2], [.int .u32 x.f3, .int .u32 x.f4, .int .u32 x.f5, .int .u32 x.f6, .int .u32 x.f7, .int .u32 x.f8, .int .u32 x.f9, .int .u32 x.f10, .int .u32 x.f11], rfl, rfl, ⟨[.int .u32 x.f3], [.int .u32 x.f4, .int .u32 x.f5, .int .u32 x.f6, .int .u32 x.f7, .int .u32 x.f8, .int .u32 x.f9, .int .u32 x.f10, .int .u32 x.f11], rfl, rfl, ⟨[.int .u32 x.f4], [.int .u32 x.f5, .int .u32 x.f6, .int .u32 x.f7, .int .u32 x.f8, .int .u32 x.f9, .int .u32 x.f10, .int .u32 x.f11], rfl, rfl, ⟨[.int .u32 x.f5], [.int .u32 x.f6, .int .u32 x.f7, .int .u32 x.f8, .int .u32 x.f9, .int .u32 x.f10, .int .u32 x.f11], rfl, rfl, ⟨[.int .u32 x.f6], [.int .u32 x.f7, .int .u32 x.f8, .int .u32 x.f9, .int .u32 x.f10, .int .u32 x.f11], rfl, rfl, ⟨[.int .u32 x.f7], [.int .u32 x.f8, .int .u32 x.f9, .int .u32 x.f10, .int .u32 x.f11], rfl, rfl, ⟨[.int .u32 x.f8], [.int .u32 x.f9, .int .u32 x.f10, .int .u32 x.f11], rfl, rfl, ⟨[.int .u32 x.f9], [.int .u32 x.f10, .int .u32 x.f11], rfl, rfl, ⟨[.int .u32 x.f10], [.int .u32 x.f11], rfl, rfl, rfl⟩⟩⟩⟩⟩⟩⟩⟩⟩⟩⟩
theorem k123_mkM (w : World) (base : Nat) (ok : Nat → Prop) (x : S123)  : k123.M w base ok x [.int .u32 x.f0, .int .u32 x.f1, .int .u32 x.f2, .int .u32 x.f3, .int .u32 x.f4, .int .u32 x.f5, .int .u32 x.f6, .int .u32 x.f7, .int .u32 x.f8, .int .u32 x.f9, .int .u32 x.f10, .int .u32 x.f11] := ⟨[.int .u32 x.f0], [.int .u32 x.f1, .int .u32 x.f2, .int .u32 x.f3, .int .u32 x.f4, .int .u32 x.f5, .int .u32 x.f6, .int .u32 x.f7, .int .u32 x.f8, .int .u32 x.f9, .int .u32 x.f10, .int .u32 x.f11], rfl, rfl, ⟨[.int .u32 x.f1], [.int .u32 x.f2, .int .u32 x.f3, .int .u32 x.f4, .int .u32 x.f5, .int .u32 x.f6, .int .u32 x.f7, .int .u32 x.f8, .int .u32 x.f9, .int .u32 x.f10, .int .u32 x.f11], rfl, rfl, ⟨[.int .u32 x.f2], [.int .u32 x.f3, .int .u32 x.f4, .int .u32 x.f5, .int .u32 x.f6, .int .u32 x.f7, .int .u32 x.f8, .int .u32 x.f9, .int .u32 x.f10, .int .u32 x.f11], rfl, rfl, ⟨[.int .u32 x.f3], [.int .u32 x.f4, .int .u32 x.f5, .int .u32 x.f6, .int .u32 x.f7, .int .u32 x.f8, .int .u32 x.f9, .int .u32 x.f10, .int .u32 x.f11], rfl, rfl, ⟨[.int .u32 x.f4], [.int .u32 x.f5, .int .u32 x.f6, .int .u32 x.f7, .int .u32 x.f8, .int .u32 x.f9, .int .u32 x.f10, .int .u32 x.f11], rfl, rfl, ⟨[.int .u32 x.f5], [.int .u32 x.f6, .int .u32 x.f7, .int .u32 x.f8, .int .u32 x.f9, .int .u32 x.f10, .int .u32 x.f11], rfl, rfl, ⟨[.int .u32 x.f6], [.int .u32 x.f7, .int .u32 x.f8, .int .u32 x.f9, .int .u32 x.f10, .int .u32 x.f11], rfl, rfl, ⟨[.int .u32 x.f7], [.int .u32 x.f8, .int .u32 x.f9, .int .u32 x.f10, .int .u32 x.f11], rfl, rfl, ⟨[.int .u32 x.f8], [.int .u32 x.f9, .int .u32 x.f10, .int .u32 x.f11], rfl, rfl, ⟨[.int .u32 x.f9], [.int .u32 x.f10, .int .u32 x.f11], rfl, rfl, ⟨[.int .u32 x.f10], [.int .u32 x.f11], rfl, rfl, rfl⟩⟩⟩⟩⟩⟩⟩⟩⟩⟩⟩
def rd_T123 (xs : List S123) (i : Int) : S123 := xs.getD i.toNat z123
theorem at_T123 {w : World} {A : Option Addr} {n : Nat} {xs : List S123} (h : Kd.C k123 w A n xs) (i : Int) (h0 : 0 ≤ i) (h1 : i < n) : ∃ ad , A = some ad ∧ w.cell? (ad.add (i.toNat * 12)) = some (.int .u32 (rd_T123 xs i).f0) ∧ w.cell? ⟨(ad.add (i.toNat * 12)).block, (ad.add (i.toNat * 12)).off + 1, none⟩ = some (.int .u32 (rd_T123 xs i).f1) ∧ w.cell? ⟨(ad.add (i.toNat * 12)).block, (ad.add (i.toNat * 12)).off + 2, none⟩ = some (.int .u32 (rd_T123 xs i).f2) ∧ w.cell? ⟨(ad.add (i.toNat * 12)).block, (ad.add (i.toNat * 12)).off + 3, none⟩ = some (.int .u32 (rd_T123 xs i).f3) ∧ w.cell? ⟨(ad.add (i.toNat * 12)).block, (ad.add (i.toNat * 12)).off + 4, none⟩ = some (.int .u32 (rd_T123 xs i).f4) ∧ w.cell? ⟨(ad.add (i.toNat * 12)).block, (ad.add (i.toNat * 12)).off + 5, none⟩ = some (.int .u32 (rd_T123 xs i).f5) ∧ w.cell? ⟨(ad.add (i.toNat * 12)).block, (ad.add (i.toNat * 12)).off + 6, none⟩ = some (.int .u32 (rd_T123 xs i).f6) ∧ w.cell? ⟨(ad.add (i.toNat * 12)).block, (ad.add (i.toNat * 12)).off + 7, none⟩ = some (.int .u32 (rd_T123 xs i).f7) ∧ w.cell? ⟨(ad.add (i.toNat * 12)).block, (ad.add (i.toNat * 12)).off + 8, none⟩ = some (.int .u32 (rd_T123 xs i).f8) ∧ w.cell? ⟨(ad.add (i.toNat * 12)).block, (ad.add (i.toNat * 12)).off + 9, none⟩ = some (.int .u32 (rd_T123 xs i).f9) ∧ w.cell? ⟨(ad.add (i.toNat * 12)).block, (ad.add (i.toNat * 12)).off + 10, none⟩ = some (.int .u32 (rd_T123 xs i).f10) ∧ w.cell? ⟨(ad.add (i.toNat * 12)).block, (ad.add (i.toNat * 12)).off + 11, none⟩ = some (.int .u32 (rd_T123 xs i).f11) := by
  obtain ⟨ad, c, e, _, hK, hc0⟩ := Kd.C_get h z123 i h0 h1
  have hc : ∀ j u, c[j]? = some u → w.cell? (ad.add (i.toNat * 12 + j)) = some u := hc0
  obtain rfl := k123_open hK
  exact ⟨ad, e, hc 0 _ rfl, by rw [← add_field _ _ 1 (by omega)]; exact hc 1 _ rfl, by rw [← add_field _ _ 2 (by omega)]; exact hc 2 _ rfl, by rw [← add_field _ _ 3 (by omega)]; exact hc 3 _ rfl, by rw [← add_field _ _ 4 (by omega)]; exact hc 4 _ rfl, by rw [← add_field _ _ 5 (by omega)]; exact hc 5 _ rfl, by rw [← add_field _ _ 6 (by omega)]; exact hc 6 _ rfl, by rw [← add_field _ _ 7 (by omega)]; exact hc 7 _ rfl, by rw [← add_field _ _ 8 (by omega)]; exact hc 8 _ rfl, by rw [← add_field _ _ 9 (by omega)]; exact hc 9 _ rfl, by rw [← add_field _ _ 10 (by omega)]; exact hc 10 _ rfl, by rw [← add_field _ _ 11 (by omega)]; exact hc 11 _ rfl⟩

end Go.Proofs.Ytbomadebdekjjaa.MFnExactSeriesTerms
