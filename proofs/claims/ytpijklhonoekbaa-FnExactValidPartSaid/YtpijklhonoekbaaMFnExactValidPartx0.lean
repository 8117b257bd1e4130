/- Functions of the program as Lean functions, and the proof that the code comes to what they say. Written by a program of this session (myprint.py). -/
import Derived.Test.YtpijklhonoekbaaProg
import Derived.Below
import Derived.Deep.Draws
import Derived.Deep.AppendLies
import Derived.Maps.AppendAt
import Derived.OwnWalk
import Derived.Laws.BytesArg
import Derived.Laws.MakeOwn
import Derived.Laws.OwnMore
import Derived.Deep.OwnRows
import Derived.Tactics
import Derived.Lib.ConvBytes
import Derived.Laws.Slices
import Derived.WalkKit
import Derived.KernelRfl
import Derived.RowKit3
import Derived.Deep.LoopGhost
import Derived.Deep.QuietTactic
import Derived.BigQuiet
import Derived.WideLaws
import Derived.Deep.DeepCutAuto
import Derived.Deep.CutBlock
import Derived.Deep.RegionHeld3
import Derived.Laws.Rows
import Derived.Lib.AppendStr
import Derived.ArgAppend
import Derived.Laws.IdiomCopy
import Derived.OrdersHeld
import Derived.Laws.BitsLemmas
import Derived.RowKit
import Derived.ChangeKeysEq
import Derived.Test.YtpijklhonoekbaaWWords
import Derived.Test.YtpijklhonoekbaaWLast
import Derived.Test.YtpijklhonoekbaaWTab
import Derived.Test.YtpijklhonoekbaaWFour
import Derived.Test.YtpijklhonoekbaaWQPut
import Derived.Test.YtpijklhonoekbaaWApart
import Derived.Test.YtpijklhonoekbaaWArr
import Derived.Test.YtpijklhonoekbaaWZeros
import Derived.Test.YtpijklhonoekbaaWFoot
import Derived.Test.YtpijklhonoekbaaWKept
import Derived.Test.YtpijklhonoekbaaWShare
import Derived.Test.YtpijklhonoekbaaWN
import Derived.Test.YtpijklhonoekbaaWFootNe
import Derived.Test.YtpijklhonoekbaaWAt
import Derived.Test.YtpijklhonoekbaaWEqStruct
import Derived.Test.YtpijklhonoekbaaWRepsOne
import Derived.Test.YtpijklhonoekbaaWInv
import Derived.Test.YtpijklhonoekbaaWInvWords
import Derived.Test.YtpijklhonoekbaaWGuard
import Derived.Test.YtpijklhonoekbaaWNEv
import Derived.Test.YtpijklhonoekbaaWMore
import Derived.Test.YtpijklhonoekbaaMOpen
namespace Go.Proofs.Ytpijklhonoekbaa.MFnExactValidPart
open Go.RowKit Go.Proofs.Ytpijklhonoekbaa.MOpen Go.Proofs.YtpijklhonoekbaaW.PrintWords Go.Proofs.YtpijklhonoekbaaW.PrintLast Go.Proofs.YtpijklhonoekbaaW.PrintMore
attribute [local go_sem] max2_int min2_int max_two min_two max_three min_three max_four min_four   -- for this text's walks alone
set_option linter.unusedVariables false
set_option linter.unusedSimpArgs false



def errW : Option Int → Value
  | none => .nilIface
  | some c => .iface 0 (.int .i64 c)
theorem errW_none : errW none = .nilIface := rfl
theorem errW_some (c : Int) : errW (some c) = .iface 0 (.int .i64 c) := rfl

-- the values' own types
/-! #### struct type 39 -/
structure S39 where
  f0 : Int
  f1 : Int
  f2 : Int
  f3 : Int
  f4 : Int
  f5 : Int
def z39 : S39 := ⟨(0 : Int), (0 : Int), (0 : Int), (0 : Int), (0 : Int), (0 : Int)⟩
def k39 : Kd S39 := Kd.iso (Kd.pair (Kd.int .u32) (Kd.pair (Kd.int .u32) (Kd.pair (Kd.int .u32) (Kd.pair (Kd.int .u32) (Kd.pair (Kd.int .u32) (Kd.int .u32)))))) (fun x : S39 => (x.f0, x.f1, x.f2, x.f3, x.f4, x.f5))
theorem k39_open {w : World} {x : S39} {cs : List Value} (h : k39.K w x cs) : cs = [.int .u32 x.f0, .int .u32 x.f1, .int .u32 x.f2, .int .u32 x.f3, .int .u32 x.f4, .int .u32 x.f5] := by
  obtain ⟨_, _, rfl, rfl, ⟨_, _, rfl, rfl, ⟨_, _, rfl, rfl, ⟨_, _, rfl, rfl, ⟨_, _, rfl, rfl, rfl⟩⟩⟩⟩⟩ := h
  exact rfl
theorem k39_openM {w : World} {base : Nat} {ok : Nat → Prop} {x : S39} {cs : List Value} (h : k39.M w base ok x cs) : cs = [.int .u32 x.f0, .int .u32 x.f1, .int .u32 x.f2, .int .u32 x.f3, .int .u32 x.f4, .int .u32 x.f5] := by
  obtain ⟨_, _, rfl, rfl, ⟨_, _, rfl, rfl, ⟨_, _, rfl, rfl, ⟨_, _, rfl, rfl, ⟨_, _, rfl, rfl, rfl⟩⟩⟩⟩⟩ := h
  exact rfl
theorem k39_mk (w : World) (x : S39)  : k39.K w x [.int .u32 x.f0, .int .u32 x.f1, .int .u32 x.f2, .int .u32 x.f3, .int .u32 x.f4, .int .u32 x.f5] := ⟨[.int .u32 x.f0], [.int .u32 x.f1, .int .u32 x.f2, .int .u32 x.f3, .int .u32 x.f4, .int .u32 x.f5], rfl, rfl, ⟨[.int .u32 x.f1], [.int .u32 x.f2, .int .u32 x.f3, .int .u32 x.f4, .int .u32 x.f5], rfl, rfl, ⟨[.int .u32 x.f2], [.int .u32 x.f3, .int .u32 x.f4, .int .u32 x.f5], rfl, rfl, ⟨[.int .u32 x.f3], [.int .u32 x.f4, .int .u32 x.f5], rfl, rfl, ⟨[.int .u32 x.f4], [.int .u32 x.f5], rfl, rfl, rfl⟩⟩⟩⟩⟩
theorem k39_mkM (w : World) (base : Nat) (ok : Nat → Prop) (x : S39)  : k39.M w base ok x [.int .u32 x.f0, .int .u32 x.f1, .int .u32 x.f2, .int .u32 x.f3, .int .u32 x.f4, .int .u32 x.f5] := ⟨[.int .u32 x.f0], [.int .u32 x.f1, .int .u32 x.f2, .int .u32 x.f3, .int .u32 x.f4, .int .u32 x.f5], rfl, rfl, ⟨[.int .u32 x.f1], [.int .u32 x.f2, .int .u32 x.f3, .int .u32 x.f4, .int .u32 x.f5], rfl, rfl, ⟨[.int .u32 x.f2], [.int .u32 x.f3, .int .u32 x.f4, .int .u32 x.f5], rfl, rfl, ⟨[.int .u32 x.f3], [.int .u32 x.f4, .int .u32 x.f5], rfl, rfl, ⟨[.int .u32 x.f4], [.int .u32 x.f5], rfl, rfl, rfl⟩⟩⟩⟩⟩
def rd_T39 (xs : List S39) (i : Int) : S39 := xs.getD i.toNat z39
theorem at_T39 {w : World} {A : Option Addr} {n : Nat} {xs : List S39} (h : Kd.C k39 w A n xs) (i : Int) (h0 : 0 ≤ i) (h1 : i < n) : ∃ ad , A = some ad ∧ w.cell? (ad.add (i.toNat * 6)) = some (.int .u32 (rd_T39 xs i).f0) ∧ w.cell? ⟨(ad.add (i.toNat * 6)).block, (ad.add (i.toNat * 6)).off + 1, none⟩ = some (.int .u32 (rd_T39 xs i).f1) ∧ w.cell? ⟨(ad.add (i.toNat * 6)).block, (ad.add (i.toNat * 6)).off + 2, none⟩ = some (.int .u32 (rd_T39 xs i).f2) ∧ w.cell? ⟨(ad.add (i.toNat * 6)).block, (ad.add (i.toNat * 6)).off + 3, none⟩ = some (.int .u32 (rd_T39 xs i).f3) ∧ w.cell? ⟨(ad.add (i.toNat * 6)).block, (ad.add (i.toNat * 6)).off + 4, none⟩ = some (.int .u32 (rd_T39 xs i).f4) ∧ w.cell? ⟨(ad.add (i.toNat * 6)).block, (ad.add (i.toNat * 6)).off + 5, none⟩ = some (.int .u32 (rd_T39 xs i).f5) := by
  obtain ⟨ad, c, e, _, hK, hc0⟩ := Kd.C_get h z39 i h0 h1
  have hc : ∀ j u, c[j]? = some u → w.cell? (ad.add (i.toNat * 6 + j)) = some u := hc0
  obtain rfl := k39_open hK
  exact ⟨ad, e, hc 0 _ rfl, by rw [← add_field _ _ 1 (by omega)]; exact hc 1 _ rfl, by rw [← add_field _ _ 2 (by omega)]; exact hc 2 _ rfl, by rw [← add_field _ _ 3 (by omega)]; exact hc 3 _ rfl, by rw [← add_field _ _ 4 (by omega)]; exact hc 4 _ rfl, by rw [← add_field _ _ 5 (by omega)]; exact hc 5 _ rfl⟩

/-! #### struct type 41 -/
structure S41 where
  f0 : Bool
  f1 : S39
def z41 : S41 := ⟨false, z39⟩
def k41 : Kd S41 := Kd.iso (Kd.pair Kd.bool k39) (fun x : S41 => (x.f0, x.f1))
theorem k41_open {w : World} {x : S41} {cs : List Value} (h : k41.K w x cs) : cs = [.bool x.f0, .int .u32 x.f1.f0, .int .u32 x.f1.f1, .int .u32 x.f1.f2, .int .u32 x.f1.f3, .int .u32 x.f1.f4, .int .u32 x.f1.f5] := by
  obtain ⟨_, _, rfl, rfl, s1⟩ := h
  obtain rfl := k39_open s1
  exact rfl
theorem k41_openM {w : World} {base : Nat} {ok : Nat → Prop} {x : S41} {cs : List Value} (h : k41.M w base ok x cs) : cs = [.bool x.f0, .int .u32 x.f1.f0, .int .u32 x.f1.f1, .int .u32 x.f1.f2, .int .u32 x.f1.f3, .int .u32 x.f1.f4, .int .u32 x.f1.f5] := by
  obtain ⟨_, _, rfl, rfl, s1⟩ := h
  obtain rfl := k39_openM s1
  exact rfl
theorem k41_mk (w : World) (x : S41)  : k41.K w x [.bool x.f0, .int .u32 x.f1.f0, .int .u32 x.f1.f1, .int .u32 x.f1.f2, .int .u32 x.f1.f3, .int .u32 x.f1.f4, .int .u32 x.f1.f5] := ⟨[.bool x.f0], [.int .u32 x.f1.f0, .int .u32 x.f1.f1, .int .u32 x.f1.f2, .int .u32 x.f1.f3, .int .u32 x.f1.f4, .int .u32 x.f1.f5], rfl, rfl, (k39_mk w x.f1 )⟩
theorem k41_mkM (w : World) (base : Nat) (ok : Nat → Prop) (x : S41)  : k41.M w base ok x [.bool x.f0, .int .u32 x.f1.f0, .int .u32 x.f1.f1, .int .u32 x.f1.f2, .int .u32 x.f1.f3, .int .u32 x.f1.f4, .int .u32 x.f1.f5] := ⟨[.bool x.f0], [.int .u32 x.f1.f0, .int .u32 x.f1.f1, .int .u32 x.f1.f2, .int .u32 x.f1.f3, .int .u32 x.f1.f4, .int .u32 x.f1.f5], rfl, rfl, (k39_mkM w base ok x.f1 )⟩
def rd_T41 (xs : List S41) (i : Int) : S41 := xs.getD i.toNat z41
theorem at_T41 {w : World} {A : Option Addr} {n : Nat} {xs : List S41} (h : Kd.C k41 w A n xs) (i : Int) (h0 : 0 ≤ i) (h1 : i < n) : ∃ ad , A = some ad ∧ w.cell? (ad.add (i.toNat * 7)) = some (.bool (rd_T41 xs i).f0) ∧ w.cell? ⟨(ad.add (i.toNat * 7)).block, (ad.add (i.toNat * 7)).off + 1, none⟩ = some (.int .u32 (rd_T41 xs i).f1.f0) ∧ w.cell? ⟨(ad.add (i.toNat * 7)).block, (ad.add (i.toNat * 7)).off + 2, none⟩ = some (.int .u32 (rd_T41 xs i).f1.f1) ∧ w.cell? ⟨(ad.add (i.toNat * 7)).block, (ad.add (i.toNat * 7)).off + 3, none⟩ = some (.int .u32 (rd_T41 xs i).f1.f2) ∧ w.cell? ⟨(ad.add (i.toNat * 7)).block, (ad.add (i.toNat * 7)).off + 4, none⟩ = some (.int .u32 (rd_T41 xs i).f1.f3) ∧ w.cell? ⟨(ad.add (i.toNat * 7)).block, (ad.add (i.toNat * 7)).off + 5, none⟩ = some (.int .u32 (rd_T41 xs i).f1.f4) ∧ w.cell? ⟨(ad.add (i.toNat * 7)).block, (ad.add (i.toNat * 7)).off + 6, none⟩ = some (.int .u32 (rd_T41 xs i).f1.f5) := by
  obtain ⟨ad, c, e, _, hK, hc0⟩ := Kd.C_get h z41 i h0 h1
  have hc : ∀ j u, c[j]? = some u → w.cell? (ad.add (i.toNat * 7 + j)) = some u := hc0
  obtain rfl := k41_open hK
  exact ⟨ad, e, hc 0 _ rfl, by rw [← add_field _ _ 1 (by omega)]; exact hc 1 _ rfl, by rw [← add_field _ _ 2 (by omega)]; exact hc 2 _ rfl, by rw [← add_field _ _ 3 (by omega)]; exact hc 3 _ rfl, by rw [← add_field _ _ 4 (by omega)]; exact hc 4 _ rfl, by rw [← add_field _ _ 5 (by omega)]; exact hc 5 _ rfl, by rw [← add_field _ _ 6 (by omega)]; exact hc 6 _ rfl⟩

/-! #### struct type 43 -/
structure S43 where
  f0 : S41
  f1 : S41
  f2 : Int
def z43 : S43 := ⟨z41, z41, (0 : Int)⟩
def k43 : Kd S43 := Kd.iso (Kd.pair k41 (Kd.pair k41 (Kd.int .i64))) (fun x : S43 => (x.f0, x.f1, x.f2))
theorem k43_open {w : World} {x : S43} {cs : List Value} (h : k43.K w x cs) : cs = [.bool x.f0.f0, .int .u32 x.f0.f1.f0, .int .u32 x.f0.f1.f1, .int .u32 x.f0.f1.f2, .int .u32 x.f0.f1.f3, .int .u32 x.f0.f1.f4, .int .u32 x.f0.f1.f5, .bool x.f1.f0, .int .u32 x.f1.f1.f0, .int .u32 x.f1.f1.f1, .int .u32 x.f1.f1.f2, .int .u32 x.f1.f1.f3, .int .u32 x.f1.f1.f4, .int .u32 x.f1.f1.f5, .int .i64 x.f2] := by
  obtain ⟨_, _, rfl, s0, ⟨_, _, rfl, s7, rfl⟩⟩ := h
  obtain rfl := k41_open s0
  obtain rfl := k41_open s7
  exact rfl
theorem k43_openM {w : World} {base : Nat} {ok : Nat → Prop} {x : S43} {cs : List Value} (h : k43.M w base ok x cs) : cs = [.bool x.f0.f0, .int .u32 x.f0.f1.f0, .int .u32 x.f0.f1.f1, .int .u32 x.f0.f1.f2, .int .u32 x.f0.f1.f3, .int .u32 x.f0.f1.f4, .int .u32 x.f0.f1.f5, .bool x.f1.f0, .int .u32 x.f1.f1.f0, .int .u32 x.f1.f1.f1, .int .u32 x.f1.f1.f2, .int .u32 x.f1.f1.f3, .int .u32 x.f1.f1.f4, .int .u32 x.f1.f1.f5, .int .i64 x.f2] := by
  obtain ⟨_, _, rfl, s0, ⟨_, _, rfl, s7, rfl⟩⟩ := h
  obtain rfl := k41_openM s0
  obtain rfl := k41_openM s7
  exact rfl
theorem k43_mk (w : World) (x : S43)  : k43.K w x [.bool x.f0.f0, .int .u32 x.f0.f1.f0, .int .u32 x.f0.f1.f1, .int .u32 x.f0.f1.f2, .int .u32 x.f0.f1.f3, .int .u32 x.f0.f1.f4, .int .u32 x.f0.f1.f5, .bool x.f1.f0, .int .u32 x.f1.f1.f0, .int .u32 x.f1.f1.f1, .int .u32 x.f1.f1.f2, .int .u32 x.f1.f1.f3, .int .u32 x.f1.f1.f4, .int .u32 x.f1.f1.f5, .int .i64 x.f2] := ⟨[.bool x.f0.f0, .int .u32 x.f0.f1.f0, .int .u32 x.f0.f1.f1, .int .u32 x.f0.f1.f2, .int .u32 x.f0.f1.f3, .int .u32 x.f0.f1.f4, .int .u32 x.f0.f1.f5], [.bool x.f1.f0, .int .u32 x.f1.f1.f0, .int .u32 x.f1.f1.f1, .int .u32 x.f1.f1.f2, .int .u32 x.f1.f1.f3, .int .u32 x.f1.f1.f4, .int .u32 x.f1.f1.f5, .int .i64 x.f2], rfl, (k41_mk w x.f0 ), ⟨[.bool x.f1.f0, .int .u32 x.f1.f1.f0, .int .u32 x.f1.f1.f1, .int .u32 x.f1.f1.f2, .int .u32 x.f1.f1.f3, .int .u32 x.f1.f1.f4, .int .u32 x.f1.f1.f5], [.int .i64 x.f2], rfl, (k41_mk w x.f1 ), rfl⟩⟩
theorem k43_mkM (w : World) (base : Nat) (ok : Nat → Prop) (x : S43)  : k43.M w base ok x [.bool x.f0.f0, .int .u32 x.f0.f1.f0, .int .u32 x.f0.f1.f1, .int .u32 x.f0.f1.f2, .int .u32 x.f0.f1.f3, .int .u32 x.f0.f1.f4, .int .u32 x.f0.f1.f5, .bool x.f1.f0, .int .u32 x.f1.f1.f0, .int .u32 x.f1.f1.f1, .int .u32 x.f1.f1.f2, .int .u32 x.f1.f1.f3, .int .u32 x.f1.f1.f4, .int .u32 x.f1.f1.f5, .int .i64 x.f2] := ⟨[.bool x.f0.f0, .int .u32 x.f0.f1.f0, .int .u32 x.f0.f1.f1, .int .u32 x.f0.f1.f2, .int .u32 x.f0.f1.f3, .int .u32 x.f0.f1.f4, .int .u32 x.f0.f1.f5], [.bool x.f1.f0, .int .u32 x.f1.f1.f0, .int .u32 x.f1.f1.f1, .int .u32 x.f1.f1.f2, .int .u32 x.f1.f1.f3, .int .u32 x.f1.f1.f4, .int .u32 x.f1.f1.f5, .int .i64 x.f2], rfl, (k41_mkM w base ok x.f0 ), ⟨[.bool x.f1.f0, .int .u32 x.f1.f1.f0, .int .u32 x.f1.f1.f1, .int .u32 x.f1.f1.f2, .int .u32 x.f1.f1.f3, .int .u32 x.f1.f1.f4, .int .u32 x.f1.f1.f5], [.int .i64 x.f2], rfl, (k41_mkM w base ok x.f1 ), rfl⟩⟩
def rd_T43 (xs : List S43) (i : Int) : S43 := xs.getD i.toNat z43
theorem at_T43 {w : World} {A : Option Addr} {n : Nat} {xs : List S43} (h : Kd.C k43 w A n xs) (i : Int) (h0 : 0 ≤ i) (h1 : i < n) : ∃ ad , A = some ad ∧ w.cell? (ad.add (i.toNat * 15)) = some (.bool (rd_T43 xs i).f0.f0) ∧ w.cell? ⟨(ad.add (i.toNat * 15)).block, (ad.add (i.toNat * 15)).off + 1, none⟩ = some (.int .u32 (rd_T43 xs i).f0.f1.f0) ∧ w.cell? ⟨(ad.add (i.toNat * 15)).block, (ad.add (i.toNat * 15)).off + 2, none⟩ = some (.int .u32 (rd_T43 xs i).f0.f1.f1) ∧ w.cell? ⟨(ad.add (i.toNat * 15)).block, (ad.add (i.toNat * 15)).off + 3, none⟩ = some (.int .u32 (rd_T43 xs i).f0.f1.f2) ∧ w.cell? ⟨(ad.add (i.toNat * 15)).block, (ad.add (i.toNat * 15)).off + 4, none⟩ = some (.int .u32 (rd_T43 xs i).f0.f1.f3) ∧ w.cell? ⟨(ad.add (i.toNat * 15)).block, (ad.add (i.toNat * 15)).off + 5, none⟩ = some (.int .u32 (rd_T43 xs i).f0.f1.f4) ∧ w.cell? ⟨(ad.add (i.toNat * 15)).block, (ad.add (i.toNat * 15)).off + 6, none⟩ = some (.int .u32 (rd_T43 xs i).f0.f1.f5) ∧ w.cell? ⟨(ad.add (i.toNat * 15)).block, (ad.add (i.toNat * 15)).off + 7, none⟩ = some (.bool (rd_T43 xs i).f1.f0) ∧ w.cell? ⟨(ad.add (i.toNat * 15)).block, (ad.add (i.toNat * 15)).off + 8, none⟩ = some (.int .u32 (rd_T43 xs i).f1.f1.f0) ∧ w.cell? ⟨(ad.add (i.toNat * 15)).block, (ad.add (i.toNat * 15)).off + 9, none⟩ = some (.int .u32 (rd_T43 xs i).f1.f1.f1) ∧ w.cell? ⟨(ad.add (i.toNat * 15)).block, (ad.add (i.toNat * 15)).off + 10, none⟩ = some (.int .u32 (rd_T43 xs i).f1.f1.f2) ∧ w.cell? ⟨(ad.add (i.toNat * 15)).block, (ad.add (i.toNat * 15)).off + 11, none⟩ = some (.int .u32 (rd_T43 xs i).f1.f1.f3) ∧ w.cell? ⟨(ad.add (i.toNat * 15)).block, (ad.add (i.toNat * 15)).off + 12, none⟩ = some (.int .u32 (rd_T43 xs i).f1.f1.f4) ∧ w.cell? ⟨(ad.add (i.toNat * 15)).block, (ad.add (i.toNat * 15)).off + 13, none⟩ = some (.int .u32 (rd_T43 xs i).f1.f1.f5) ∧ w.cell? ⟨(ad.add (i.toNat * 15)).block, (ad.add (i.toNat * 15)).off + 14, none⟩ = some (.int .i64 (rd_T43 xs i).f2) := by
  obtain ⟨ad, c, e, _, hK, hc0⟩ := Kd.C_get h z43 i h0 h1
  have hc : ∀ j u, c[j]? = some u → w.cell? (ad.add (i.toNat * 15 + j)) = some u := hc0
  obtain rfl := k43_open hK
  exact ⟨ad, e, hc 0 _ rfl, by rw [← add_field _ _ 1 (by omega)]; exact hc 1 _ rfl, by rw [← add_field _ _ 2 (by omega)]; exact hc 2 _ rfl, by rw [← add_field _ _ 3 (by omega)]; exact hc 3 _ rfl, by rw [← add_field _ _ 4 (by omega)]; exact hc 4 _ rfl, by rw [← add_field _ _ 5 (by omega)]; exact hc 5 _ rfl, by rw [← add_field _ _ 6 (by omega)]; exact hc 6 _ rfl, by rw [← add_field _ _ 7 (by omega)]; exact hc 7 _ rfl, by rw [← add_field _ _ 8 (by omega)]; exact hc 8 _ rfl, by rw [← add_field _ _ 9 (by omega)]; exact hc 9 _ rfl, by rw [← add_field _ _ 10 (by omega)]; exact hc 10 _ rfl, by rw [← add_field _ _ 11 (by omega)]; exact hc 11 _ rfl, by rw [← add_field _ _ 12 (by omega)]; exact hc 12 _ rfl, by rw [← add_field _ _ 13 (by omega)]; exact hc 13 _ rfl, by rw [← add_field _ _ 14 (by omega)]; exact hc 14 _ rfl⟩

end Go.Proofs.Ytpijklhonoekbaa.MFnExactValidPart
