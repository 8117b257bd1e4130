/-
  The table of the powers of ten in memory (a variable of the library that the row lists), carried through a call; strconv.FormatInt at base 10 over it.
-/
import Derived.Test.YtfenifdigjcmiaaDoorShelf
import Derived.Test.YtfenifdigjcmiaaDoorRows
import Derived.Below
import Derived.KernelRfl
import Derived.MakeChecks
import Derived.Stop.LaidErr
import Derived.Lib.LaidTab
import Derived.Lib.AppendIntMem
import Derived.Lib.ItoaLen
namespace Go.Proofs.YtfenifdigjcmiaaDoor.MOpen
open Go.RowKit Go.Stop

/-- The block of the table. -/
def TabAt (w : World) : Prop := ∃ t fr, w.heap[1]? = some (.cells (Go.Lib.pow10Tab.map fun z => Value.int .u64 z).toArray t fr)
theorem TabAt.below {w w' : World} (h : TabAt w) (hb : Below w.heap.size w w') : TabAt w' := by
  obtain ⟨t, fr, e⟩ := h
  have hlt : 1 < w.heap.size := by
    rcases Nat.lt_or_ge 1 w.heap.size with h0 | h0
    · exact h0
    · rw [Array.getElem?_eq_none (by omega)] at e; cases e
  exact ⟨t, fr, (hb.block 1 hlt).trans e⟩
theorem formatInt (n : Int) (h0 : -9223372036854775808 ≤ n) (h1 : n ≤ 9223372036854775807) (w : World) (hT : TabAt w) :
    Calls Tryd.prog 27 #[.int .i64 n, .int .i64 10] w fun e w' => e = .returned (.string ⟨(Lib.itoa n).toArray⟩) ∧ Below w.heap.size w w' := by
  refine (Go.Proofs.Any.strconv_FormatInt_10 Tryd.lays173 n h0 h1 w (by
    obtain ⟨t, fr, e⟩ := hT
    exact Option.bind_eq_some_iff.2 ⟨1, by kernel_rfl, by rw [e]⟩)).mono ?_
  rintro e w' ⟨rfl, k, os, rfl⟩
  exact ⟨rfl, Go.Lib.below_grow w.heap.size w (Nat.le_refl _) k os⟩
/-- The row's condition gives the table. -/
theorem tab_of_laid {W : World} (h : laidMetH Tryd.prog Rows.fnExactPolyTextRow.laid W) : TabAt W := by
  rw [MakeChecks.laidMetH_plain _ _ _ (by kernel_rfl)] at h
  have h3 : laidMet Tryd.prog [(_, Go.Lib.tabData .u64 Go.Lib.pow10Tab)] W := laidMet.tail (laidMet.tail h)
  have hT := Go.Lib.tabIs_of_head (g := 1) (t := 83) (e := 64) (n := 20) (by kernel_rfl) (by kernel_rfl) (by kernel_rfl) (by kernel_rfl) (by kernel_rfl) (by kernel_rfl) h3
  obtain ⟨g, hg, e⟩ := Option.bind_eq_some_iff.1 hT
  obtain rfl : 1 = g := Option.some.inj ((show _ = some 1 by kernel_rfl).symm.trans hg)
  split at e
  · rename_i cs t fr he
    obtain rfl := Option.some.inj e
    exact ⟨t, fr, he⟩
  · cases e
end Go.Proofs.YtfenifdigjcmiaaDoor.MOpen
