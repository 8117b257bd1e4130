/-
  No cell of these rows narrows 'for every input' (looked for: loops, veiled, ifaces, maps, wideKeys, modest, calm, conditions, laid).
  DERIVED. THE GIVEN ROWS OF THIS SEAT. 10 by the template 'for every input the law returns true; each argument reads behind the call as it read before'; 0 by the template 'total and deterministic' (their statements: YtdnkpfmcpalojaaTotals.lean).
  GIVEN WITH THE SEED: the statements are not yours to turn. If you find one false, say at which input.
  Laid BY PROGRAM, IN A SANDBOX (cutbox-rows.mjs): the forced cells as the released guide's own fill.sh prints them over the translation 4f6ff2dc52046600… (all of the seat's roots in one cut). By AI agents, Wed Nov 11 2026. No macro, syntax, notation, axiom, sorry.
-/
import Derived.Test.YtdnkpfmcpalojaaChecked
import GoSem.Claim
import GoSem.ClaimJoined
import GoSem.ClaimMapViews
import Derived.JoinedTies
import Derived.KernelRfl
namespace Go.Proofs.Ytdnkpfmcpalojaa
/- THE CELL 'sum', in the pinned program and in every row, IS THE sha256 OF THE DUMP (.gsa) THAT YtdnkpfmcpalojaaProg.lean LOADS. Nothing in Lean hashes anything: it is a label: what it is worth is what the hold of that sum in a sandbox is worth. -/
noncomputable def Try.pinned : Pinned := { name := "ytdnkpfmcpalojaa", sum := "4f6ff2dc5204660007d9d8b0c8044864f252186d7615c779a82f08c311d88fed", checked := Try.checked }
namespace Rows
def none {H : Type} : Left H := { results := [], args := [] }

/-- 'laws.FnExactCompareTerms': WHATEVER THE INPUT: true; the input reads as it did. -/
def fnExactCompareTermsSpec : ChangeSpec := { name := "fnExactCompareTerms", fn := fun _ => fun
  | [d1, d2] => { results := [.lit (.bool true)], args := [d1, d2] }
  | _ => none }
def fnExactCompareTermsRow : OpenClaim := { program := "ytdnkpfmcpalojaa", sum := "4f6ff2dc5204660007d9d8b0c8044864f252186d7615c779a82f08c311d88fed", func := "loop.example/g01242/laws.FnExactCompareTerms", spec := "fnExactCompareTerms", apart := false }
def FnExactCompareTermsSaid : Prop := fnExactCompareTermsRow.holds Try.pinned (OpenSpec.ofChange fnExactCompareTermsSpec)

/-- ITS FALSE NEIGHBOUR: 'it returns false'. Refute it at one input. -/
def fnExactCompareTermsWrong : ChangeSpec := { name := "fnExactCompareTerms", fn := fun _ => fun
  | [d1, d2] => { results := [.lit (.bool false)], args := [d1, d2] }
  | _ => none }
def FnExactCompareTermsWrongFalsely : Prop := fnExactCompareTermsRow.holds Try.pinned (OpenSpec.ofChange fnExactCompareTermsWrong)

/-- 'laws.FnExactRootTermAt': WHATEVER THE INPUT: true; the input reads as it did. -/
def fnExactRootTermAtSpec : ChangeSpec := { name := "fnExactRootTermAt", fn := fun _ => fun
  | [d1, d2] => { results := [.lit (.bool true)], args := [d1, d2] }
  | _ => none }
def fnExactRootTermAtRow : OpenClaim := { program := "ytdnkpfmcpalojaa", sum := "4f6ff2dc5204660007d9d8b0c8044864f252186d7615c779a82f08c311d88fed", func := "loop.example/g01242/laws.FnExactRootTermAt", spec := "fnExactRootTermAt", apart := false }
def FnExactRootTermAtSaid : Prop := fnExactRootTermAtRow.holds Try.pinned (OpenSpec.ofChange fnExactRootTermAtSpec)

/-- ITS FALSE NEIGHBOUR: 'it returns false'. Refute it at one input. -/
def fnExactRootTermAtWrong : ChangeSpec := { name := "fnExactRootTermAt", fn := fun _ => fun
  | [d1, d2] => { results := [.lit (.bool false)], args := [d1, d2] }
  | _ => none }
def FnExactRootTermAtWrongFalsely : Prop := fnExactRootTermAtRow.holds Try.pinned (OpenSpec.ofChange fnExactRootTermAtWrong)

/-- 'laws.FnExactRatioOf': WHATEVER THE INPUT: true; the input reads as it did. -/
def fnExactRatioOfSpec : ChangeSpec := { name := "fnExactRatioOf", fn := fun _ => fun
  | [d] => { results := [.lit (.bool true)], args := [d] }
  | _ => none }
def fnExactRatioOfRow : OpenClaim := { program := "ytdnkpfmcpalojaa", sum := "4f6ff2dc5204660007d9d8b0c8044864f252186d7615c779a82f08c311d88fed", func := "loop.example/g01242/laws.FnExactRatioOf", spec := "fnExactRatioOf", apart := false }
def FnExactRatioOfSaid : Prop := fnExactRatioOfRow.holds Try.pinned (OpenSpec.ofChange fnExactRatioOfSpec)

/-- ITS FALSE NEIGHBOUR: 'it returns false'. Refute it at one input. -/
def fnExactRatioOfWrong : ChangeSpec := { name := "fnExactRatioOf", fn := fun _ => fun
  | [d] => { results := [.lit (.bool false)], args := [d] }
  | _ => none }
def FnExactRatioOfWrongFalsely : Prop := fnExactRatioOfRow.holds Try.pinned (OpenSpec.ofChange fnExactRatioOfWrong)

/-- 'laws.FnExactTermsOf': WHATEVER THE INPUT: true; the input reads as it did. -/
def fnExactTermsOfSpec : ChangeSpec := { name := "fnExactTermsOf", fn := fun _ => fun
  | [d] => { results := [.lit (.bool true)], args := [d] }
  | _ => none }
def fnExactTermsOfRow : OpenClaim := { program := "ytdnkpfmcpalojaa", sum := "4f6ff2dc5204660007d9d8b0c8044864f252186d7615c779a82f08c311d88fed", func := "loop.example/g01242/laws.FnExactTermsOf", spec := "fnExactTermsOf", apart := false }
def FnExactTermsOfSaid : Prop := fnExactTermsOfRow.holds Try.pinned (OpenSpec.ofChange fnExactTermsOfSpec)

/-- ITS FALSE NEIGHBOUR: 'it returns false'. Refute it at one input. -/
def fnExactTermsOfWrong : ChangeSpec := { name := "fnExactTermsOf", fn := fun _ => fun
  | [d] => { results := [.lit (.bool false)], args := [d] }
  | _ => none }
def FnExactTermsOfWrongFalsely : Prop := fnExactTermsOfRow.holds Try.pinned (OpenSpec.ofChange fnExactTermsOfWrong)

/-- 'laws.FnExactNeighboursOf': WHATEVER THE INPUT: true; the input reads as it did. -/
def fnExactNeighboursOfSpec : ChangeSpec := { name := "fnExactNeighboursOf", fn := fun _ => fun
  | [d1, d2] => { results := [.lit (.bool true)], args := [d1, d2] }
  | _ => none }
def fnExactNeighboursOfRow : OpenClaim := { program := "ytdnkpfmcpalojaa", sum := "4f6ff2dc5204660007d9d8b0c8044864f252186d7615c779a82f08c311d88fed", func := "loop.example/g01242/laws.FnExactNeighboursOf", spec := "fnExactNeighboursOf", apart := false }
def FnExactNeighboursOfSaid : Prop := fnExactNeighboursOfRow.holds Try.pinned (OpenSpec.ofChange fnExactNeighboursOfSpec)

/-- ITS FALSE NEIGHBOUR: 'it returns false'. Refute it at one input. -/
def fnExactNeighboursOfWrong : ChangeSpec := { name := "fnExactNeighboursOf", fn := fun _ => fun
  | [d1, d2] => { results := [.lit (.bool false)], args := [d1, d2] }
  | _ => none }
def FnExactNeighboursOfWrongFalsely : Prop := fnExactNeighboursOfRow.holds Try.pinned (OpenSpec.ofChange fnExactNeighboursOfWrong)

/-- 'laws.FnExactBestFraction': WHATEVER THE INPUT: true; the input reads as it did. -/
def fnExactBestFractionSpec : ChangeSpec := { name := "fnExactBestFraction", fn := fun _ => fun
  | [d1, d2] => { results := [.lit (.bool true)], args := [d1, d2] }
  | _ => none }
def fnExactBestFractionRow : OpenClaim := { program := "ytdnkpfmcpalojaa", sum := "4f6ff2dc5204660007d9d8b0c8044864f252186d7615c779a82f08c311d88fed", func := "loop.example/g01242/laws.FnExactBestFraction", spec := "fnExactBestFraction", apart := false }
def FnExactBestFractionSaid : Prop := fnExactBestFractionRow.holds Try.pinned (OpenSpec.ofChange fnExactBestFractionSpec)

/-- ITS FALSE NEIGHBOUR: 'it returns false'. Refute it at one input. -/
def fnExactBestFractionWrong : ChangeSpec := { name := "fnExactBestFraction", fn := fun _ => fun
  | [d1, d2] => { results := [.lit (.bool false)], args := [d1, d2] }
  | _ => none }
def FnExactBestFractionWrongFalsely : Prop := fnExactBestFractionRow.holds Try.pinned (OpenSpec.ofChange fnExactBestFractionWrong)

/-- 'laws.FnExactConvergentsOf': WHATEVER THE INPUT: true; the input reads as it did. -/
def fnExactConvergentsOfSpec : ChangeSpec := { name := "fnExactConvergentsOf", fn := fun _ => fun
  | [d] => { results := [.lit (.bool true)], args := [d] }
  | _ => none }
def fnExactConvergentsOfRow : OpenClaim := { program := "ytdnkpfmcpalojaa", sum := "4f6ff2dc5204660007d9d8b0c8044864f252186d7615c779a82f08c311d88fed", func := "loop.example/g01242/laws.FnExactConvergentsOf", spec := "fnExactConvergentsOf", apart := false }
def FnExactConvergentsOfSaid : Prop := fnExactConvergentsOfRow.holds Try.pinned (OpenSpec.ofChange fnExactConvergentsOfSpec)

/-- ITS FALSE NEIGHBOUR: 'it returns false'. Refute it at one input. -/
def fnExactConvergentsOfWrong : ChangeSpec := { name := "fnExactConvergentsOf", fn := fun _ => fun
  | [d] => { results := [.lit (.bool false)], args := [d] }
  | _ => none }
def FnExactConvergentsOfWrongFalsely : Prop := fnExactConvergentsOfRow.holds Try.pinned (OpenSpec.ofChange fnExactConvergentsOfWrong)

/-- 'laws.FnExactPathOf': WHATEVER THE INPUT: true; the input reads as it did. -/
def fnExactPathOfSpec : ChangeSpec := { name := "fnExactPathOf", fn := fun _ => fun
  | [d] => { results := [.lit (.bool true)], args := [d] }
  | _ => none }
def fnExactPathOfRow : OpenClaim := { program := "ytdnkpfmcpalojaa", sum := "4f6ff2dc5204660007d9d8b0c8044864f252186d7615c779a82f08c311d88fed", func := "loop.example/g01242/laws.FnExactPathOf", spec := "fnExactPathOf", inPlace := ["internal/abi.NoEscape", "internal/bytealg.MakeNoZero"], apart := false }
def FnExactPathOfSaid : Prop := fnExactPathOfRow.holds Try.pinned (OpenSpec.ofChange fnExactPathOfSpec)

/-- ITS FALSE NEIGHBOUR: 'it returns false'. Refute it at one input. -/
def fnExactPathOfWrong : ChangeSpec := { name := "fnExactPathOf", fn := fun _ => fun
  | [d] => { results := [.lit (.bool false)], args := [d] }
  | _ => none }
def FnExactPathOfWrongFalsely : Prop := fnExactPathOfRow.holds Try.pinned (OpenSpec.ofChange fnExactPathOfWrong)

/-- 'laws.FnExactPairTerms': WHATEVER THE INPUT: true; the input reads as it did. -/
def fnExactPairTermsSpec : ChangeSpec := { name := "fnExactPairTerms", fn := fun _ => fun
  | [d1, d2] => { results := [.lit (.bool true)], args := [d1, d2] }
  | _ => none }
def fnExactPairTermsRow : OpenClaim := { program := "ytdnkpfmcpalojaa", sum := "4f6ff2dc5204660007d9d8b0c8044864f252186d7615c779a82f08c311d88fed", func := "loop.example/g01242/laws.FnExactPairTerms", spec := "fnExactPairTerms", apart := false }
def FnExactPairTermsSaid : Prop := fnExactPairTermsRow.holds Try.pinned (OpenSpec.ofChange fnExactPairTermsSpec)

/-- ITS FALSE NEIGHBOUR: 'it returns false'. Refute it at one input. -/
def fnExactPairTermsWrong : ChangeSpec := { name := "fnExactPairTerms", fn := fun _ => fun
  | [d1, d2] => { results := [.lit (.bool false)], args := [d1, d2] }
  | _ => none }
def FnExactPairTermsWrongFalsely : Prop := fnExactPairTermsRow.holds Try.pinned (OpenSpec.ofChange fnExactPairTermsWrong)

/-- 'laws.FnExactPairMoves': WHATEVER THE INPUT: true; the input reads as it did. -/
def fnExactPairMovesSpec : ChangeSpec := { name := "fnExactPairMoves", fn := fun _ => fun
  | [d1, d2] => { results := [.lit (.bool true)], args := [d1, d2] }
  | _ => none }
def fnExactPairMovesRow : OpenClaim := { program := "ytdnkpfmcpalojaa", sum := "4f6ff2dc5204660007d9d8b0c8044864f252186d7615c779a82f08c311d88fed", func := "loop.example/g01242/laws.FnExactPairMoves", spec := "fnExactPairMoves", apart := false }
def FnExactPairMovesSaid : Prop := fnExactPairMovesRow.holds Try.pinned (OpenSpec.ofChange fnExactPairMovesSpec)

/-- ITS FALSE NEIGHBOUR: 'it returns false'. Refute it at one input. -/
def fnExactPairMovesWrong : ChangeSpec := { name := "fnExactPairMoves", fn := fun _ => fun
  | [d1, d2] => { results := [.lit (.bool false)], args := [d1, d2] }
  | _ => none }
def FnExactPairMovesWrongFalsely : Prop := fnExactPairMovesRow.holds Try.pinned (OpenSpec.ofChange fnExactPairMovesWrong)

/- THE SECOND FORM. 'bulk': how many values and letters a reading holds, each counted each time it is reached (what is shared counts as often as it is met; a slice's spare places count too). A statement '..UptoSaid' is the law's where the arguments, and the package variables that the reading takes, are together of bulk at most 1048576: NARROWER than '..Said'. Prove '..Said' where nothing that the law and all that it calls make is longer than what came in: it says more and counts as full. Else prove '..UptoSaid'. A law counts once. -/
mutual
def uptoBulk {H : Type} : DataW H → Nat
  | .lit (.string bytes) => bytes.length + 1
  | .lit _ => 1
  | .nil => 1
  | .ptr d => uptoBulk d + 1
  | .slice elems spare => uptoBulkAll elems + uptoBulkAll spare + 1
  | .agg parts => uptoBulkAll parts + 1
  | .iface _ d => uptoBulk d + 1
  | .map entries => uptoBulkEntries entries + 1
  | .held _ => 1
def uptoBulkAll {H : Type} : List (DataW H) → Nat
  | [] => 0
  | d :: r => uptoBulk d + uptoBulkAll r
def uptoBulkEntries {H : Type} : List (Lit × DataW H) → Nat
  | [] => 0
  | x :: r => uptoBulkEntry x + uptoBulkEntries r
def uptoBulkEntry {H : Type} : Lit × DataW H → Nat
  | (.string bytes, d) => bytes.length + uptoBulk d + 1
  | (_, d) => uptoBulk d + 1
 end
def uptoSmall : (H : Type) → List (DataW H) → Bool := fun _ ds => decide (uptoBulkAll ds ≤ 1048576)
def OpenSpec.upto (s : _root_.Go.ChangeSpec) : _root_.Go.OpenSpec := { _root_.Go.OpenSpec.ofChange s with cond := some uptoSmall }

/-- 'laws.FnExactCompareTerms', WHERE WHAT IT READS IS OF BULK AT MOST 1048576: true; the input reads as it did. -/
def fnExactCompareTermsUptoRow : OpenClaim := { program := "ytdnkpfmcpalojaa", sum := "4f6ff2dc5204660007d9d8b0c8044864f252186d7615c779a82f08c311d88fed", func := "loop.example/g01242/laws.FnExactCompareTerms", spec := "fnExactCompareTerms", apart := false, narrowed := true }
def FnExactCompareTermsUptoSaid : Prop := fnExactCompareTermsUptoRow.holds Try.pinned (OpenSpec.upto fnExactCompareTermsSpec)

/-- 'laws.FnExactRootTermAt', WHERE WHAT IT READS IS OF BULK AT MOST 1048576: true; the input reads as it did. -/
def fnExactRootTermAtUptoRow : OpenClaim := { program := "ytdnkpfmcpalojaa", sum := "4f6ff2dc5204660007d9d8b0c8044864f252186d7615c779a82f08c311d88fed", func := "loop.example/g01242/laws.FnExactRootTermAt", spec := "fnExactRootTermAt", apart := false, narrowed := true }
def FnExactRootTermAtUptoSaid : Prop := fnExactRootTermAtUptoRow.holds Try.pinned (OpenSpec.upto fnExactRootTermAtSpec)

/-- 'laws.FnExactRatioOf', WHERE WHAT IT READS IS OF BULK AT MOST 1048576: true; the input reads as it did. -/
def fnExactRatioOfUptoRow : OpenClaim := { program := "ytdnkpfmcpalojaa", sum := "4f6ff2dc5204660007d9d8b0c8044864f252186d7615c779a82f08c311d88fed", func := "loop.example/g01242/laws.FnExactRatioOf", spec := "fnExactRatioOf", apart := false, narrowed := true }
def FnExactRatioOfUptoSaid : Prop := fnExactRatioOfUptoRow.holds Try.pinned (OpenSpec.upto fnExactRatioOfSpec)

/-- 'laws.FnExactTermsOf', WHERE WHAT IT READS IS OF BULK AT MOST 1048576: true; the input reads as it did. -/
def fnExactTermsOfUptoRow : OpenClaim := { program := "ytdnkpfmcpalojaa", sum := "4f6ff2dc5204660007d9d8b0c8044864f252186d7615c779a82f08c311d88fed", func := "loop.example/g01242/laws.FnExactTermsOf", spec := "fnExactTermsOf", apart := false, narrowed := true }
def FnExactTermsOfUptoSaid : Prop := fnExactTermsOfUptoRow.holds Try.pinned (OpenSpec.upto fnExactTermsOfSpec)

/-- 'laws.FnExactNeighboursOf', WHERE WHAT IT READS IS OF BULK AT MOST 1048576: true; the input reads as it did. -/
def fnExactNeighboursOfUptoRow : OpenClaim := { program := "ytdnkpfmcpalojaa", sum := "4f6ff2dc5204660007d9d8b0c8044864f252186d7615c779a82f08c311d88fed", func := "loop.example/g01242/laws.FnExactNeighboursOf", spec := "fnExactNeighboursOf", apart := false, narrowed := true }
def FnExactNeighboursOfUptoSaid : Prop := fnExactNeighboursOfUptoRow.holds Try.pinned (OpenSpec.upto fnExactNeighboursOfSpec)

/-- 'laws.FnExactBestFraction', WHERE WHAT IT READS IS OF BULK AT MOST 1048576: true; the input reads as it did. -/
def fnExactBestFractionUptoRow : OpenClaim := { program := "ytdnkpfmcpalojaa", sum := "4f6ff2dc5204660007d9d8b0c8044864f252186d7615c779a82f08c311d88fed", func := "loop.example/g01242/laws.FnExactBestFraction", spec := "fnExactBestFraction", apart := false, narrowed := true }
def FnExactBestFractionUptoSaid : Prop := fnExactBestFractionUptoRow.holds Try.pinned (OpenSpec.upto fnExactBestFractionSpec)

/-- 'laws.FnExactConvergentsOf', WHERE WHAT IT READS IS OF BULK AT MOST 1048576: true; the input reads as it did. -/
def fnExactConvergentsOfUptoRow : OpenClaim := { program := "ytdnkpfmcpalojaa", sum := "4f6ff2dc5204660007d9d8b0c8044864f252186d7615c779a82f08c311d88fed", func := "loop.example/g01242/laws.FnExactConvergentsOf", spec := "fnExactConvergentsOf", apart := false, narrowed := true }
def FnExactConvergentsOfUptoSaid : Prop := fnExactConvergentsOfUptoRow.holds Try.pinned (OpenSpec.upto fnExactConvergentsOfSpec)

/-- 'laws.FnExactPathOf', WHERE WHAT IT READS IS OF BULK AT MOST 1048576: true; the input reads as it did. -/
def fnExactPathOfUptoRow : OpenClaim := { program := "ytdnkpfmcpalojaa", sum := "4f6ff2dc5204660007d9d8b0c8044864f252186d7615c779a82f08c311d88fed", func := "loop.example/g01242/laws.FnExactPathOf", spec := "fnExactPathOf", inPlace := ["internal/abi.NoEscape", "internal/bytealg.MakeNoZero"], apart := false, narrowed := true }
def FnExactPathOfUptoSaid : Prop := fnExactPathOfUptoRow.holds Try.pinned (OpenSpec.upto fnExactPathOfSpec)

/-- 'laws.FnExactPairTerms', WHERE WHAT IT READS IS OF BULK AT MOST 1048576: true; the input reads as it did. -/
def fnExactPairTermsUptoRow : OpenClaim := { program := "ytdnkpfmcpalojaa", sum := "4f6ff2dc5204660007d9d8b0c8044864f252186d7615c779a82f08c311d88fed", func := "loop.example/g01242/laws.FnExactPairTerms", spec := "fnExactPairTerms", apart := false, narrowed := true }
def FnExactPairTermsUptoSaid : Prop := fnExactPairTermsUptoRow.holds Try.pinned (OpenSpec.upto fnExactPairTermsSpec)

/-- 'laws.FnExactPairMoves', WHERE WHAT IT READS IS OF BULK AT MOST 1048576: true; the input reads as it did. -/
def fnExactPairMovesUptoRow : OpenClaim := { program := "ytdnkpfmcpalojaa", sum := "4f6ff2dc5204660007d9d8b0c8044864f252186d7615c779a82f08c311d88fed", func := "loop.example/g01242/laws.FnExactPairMoves", spec := "fnExactPairMoves", apart := false, narrowed := true }
def FnExactPairMovesUptoSaid : Prop := fnExactPairMovesUptoRow.holds Try.pinned (OpenSpec.upto fnExactPairMovesSpec)

end Rows
end Go.Proofs.Ytdnkpfmcpalojaa
