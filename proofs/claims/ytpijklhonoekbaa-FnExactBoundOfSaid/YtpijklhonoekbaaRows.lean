/-
  No cell of these rows narrows 'for every input' (looked for: loops, veiled, ifaces, maps, wideKeys, modest, calm, conditions, laid).
  DERIVED. THE GIVEN ROWS OF THIS SEAT. 10 by the template 'for every input the law returns true; each argument reads behind the call as it read before'; 0 by the template 'total and deterministic' (their statements: YtpijklhonoekbaaTotals.lean).
  GIVEN WITH THE SEED: the statements are not yours to turn. If you find one false, say at which input.
  Laid BY PROGRAM, IN A SANDBOX (cutbox-rows.mjs): the forced cells as the released guide's own fill.sh prints them over the translation 097b2687efaeacde… (all of the seat's roots in one cut). By AI agents, Wed Nov 11 2026. No macro, syntax, notation, axiom, sorry.
-/
import Derived.Test.YtpijklhonoekbaaChecked
import GoSem.Claim
import GoSem.ClaimJoined
import GoSem.ClaimMapViews
import Derived.JoinedTies
import Derived.KernelRfl
namespace Go.Proofs.Ytpijklhonoekbaa
/- THE CELL 'sum', in the pinned program and in every row, IS THE sha256 OF THE DUMP (.gsa) THAT YtpijklhonoekbaaProg.lean LOADS. Nothing in Lean hashes anything: it is a label: what it is worth is what the hold of that sum in a sandbox is worth. -/
noncomputable def Try.pinned : Pinned := { name := "ytpijklhonoekbaa", sum := "097b2687efaeacdec8128de275b6d357d94d9e8a1c7ca15b1082ede2760d7be0", checked := Try.checked }
namespace Rows
def none {H : Type} : Left H := { results := [], args := [] }

/-- 'laws.FnExactValidSeries': WHATEVER THE INPUT: true; the input reads as it did. -/
def fnExactValidSeriesSpec : ChangeSpec := { name := "fnExactValidSeries", fn := fun _ => fun
  | [d] => { results := [.lit (.bool true)], args := [d] }
  | _ => none }
def fnExactValidSeriesRow : OpenClaim := { program := "ytpijklhonoekbaa", sum := "097b2687efaeacdec8128de275b6d357d94d9e8a1c7ca15b1082ede2760d7be0", func := "loop.example/g01242/laws.FnExactValidSeries", spec := "fnExactValidSeries", apart := false }
def FnExactValidSeriesSaid : Prop := fnExactValidSeriesRow.holds Try.pinned (OpenSpec.ofChange fnExactValidSeriesSpec)

/-- ITS FALSE NEIGHBOUR: 'it returns false'. Refute it at one input. -/
def fnExactValidSeriesWrong : ChangeSpec := { name := "fnExactValidSeries", fn := fun _ => fun
  | [d] => { results := [.lit (.bool false)], args := [d] }
  | _ => none }
def FnExactValidSeriesWrongFalsely : Prop := fnExactValidSeriesRow.holds Try.pinned (OpenSpec.ofChange fnExactValidSeriesWrong)

/-- 'laws.FnExactProductEight': WHATEVER THE INPUT: true; the input reads as it did. -/
def fnExactProductEightSpec : ChangeSpec := { name := "fnExactProductEight", fn := fun _ => fun
  | [] => { results := [.lit (.bool true)], args := [] }
  | _ => none }
def fnExactProductEightRow : OpenClaim := { program := "ytpijklhonoekbaa", sum := "097b2687efaeacdec8128de275b6d357d94d9e8a1c7ca15b1082ede2760d7be0", func := "loop.example/g01242/laws.FnExactProductEight", spec := "fnExactProductEight", apart := false }
def FnExactProductEightSaid : Prop := fnExactProductEightRow.holds Try.pinned (OpenSpec.ofChange fnExactProductEightSpec)

/-- ITS FALSE NEIGHBOUR: 'it returns false'. Refute it at one input. -/
def fnExactProductEightWrong : ChangeSpec := { name := "fnExactProductEight", fn := fun _ => fun
  | [] => { results := [.lit (.bool false)], args := [] }
  | _ => none }
def FnExactProductEightWrongFalsely : Prop := fnExactProductEightRow.holds Try.pinned (OpenSpec.ofChange fnExactProductEightWrong)

/-- 'laws.FnExactSumEight': WHATEVER THE INPUT: true; the input reads as it did. -/
def fnExactSumEightSpec : ChangeSpec := { name := "fnExactSumEight", fn := fun _ => fun
  | [] => { results := [.lit (.bool true)], args := [] }
  | _ => none }
def fnExactSumEightRow : OpenClaim := { program := "ytpijklhonoekbaa", sum := "097b2687efaeacdec8128de275b6d357d94d9e8a1c7ca15b1082ede2760d7be0", func := "loop.example/g01242/laws.FnExactSumEight", spec := "fnExactSumEight", apart := false }
def FnExactSumEightSaid : Prop := fnExactSumEightRow.holds Try.pinned (OpenSpec.ofChange fnExactSumEightSpec)

/-- ITS FALSE NEIGHBOUR: 'it returns false'. Refute it at one input. -/
def fnExactSumEightWrong : ChangeSpec := { name := "fnExactSumEight", fn := fun _ => fun
  | [] => { results := [.lit (.bool false)], args := [] }
  | _ => none }
def FnExactSumEightWrongFalsely : Prop := fnExactSumEightRow.holds Try.pinned (OpenSpec.ofChange fnExactSumEightWrong)

/-- 'laws.FnExactValidTerms': WHATEVER THE INPUT: true; the input reads as it did. -/
def fnExactValidTermsSpec : ChangeSpec := { name := "fnExactValidTerms", fn := fun _ => fun
  | [d] => { results := [.lit (.bool true)], args := [d] }
  | _ => none }
def fnExactValidTermsRow : OpenClaim := { program := "ytpijklhonoekbaa", sum := "097b2687efaeacdec8128de275b6d357d94d9e8a1c7ca15b1082ede2760d7be0", func := "loop.example/g01242/laws.FnExactValidTerms", spec := "fnExactValidTerms", apart := false }
def FnExactValidTermsSaid : Prop := fnExactValidTermsRow.holds Try.pinned (OpenSpec.ofChange fnExactValidTermsSpec)

/-- ITS FALSE NEIGHBOUR: 'it returns false'. Refute it at one input. -/
def fnExactValidTermsWrong : ChangeSpec := { name := "fnExactValidTerms", fn := fun _ => fun
  | [d] => { results := [.lit (.bool false)], args := [d] }
  | _ => none }
def FnExactValidTermsWrongFalsely : Prop := fnExactValidTermsRow.holds Try.pinned (OpenSpec.ofChange fnExactValidTermsWrong)

/-- 'laws.FnExactValidPoly': WHATEVER THE INPUT: true; the input reads as it did. -/
def fnExactValidPolySpec : ChangeSpec := { name := "fnExactValidPoly", fn := fun _ => fun
  | [d] => { results := [.lit (.bool true)], args := [d] }
  | _ => none }
def fnExactValidPolyRow : OpenClaim := { program := "ytpijklhonoekbaa", sum := "097b2687efaeacdec8128de275b6d357d94d9e8a1c7ca15b1082ede2760d7be0", func := "loop.example/g01242/laws.FnExactValidPoly", spec := "fnExactValidPoly", unfollowed := true, recurses := true, apart := false }
def FnExactValidPolySaid : Prop := fnExactValidPolyRow.holds Try.pinned (OpenSpec.ofChange fnExactValidPolySpec)

/-- ITS FALSE NEIGHBOUR: 'it returns false'. Refute it at one input. -/
def fnExactValidPolyWrong : ChangeSpec := { name := "fnExactValidPoly", fn := fun _ => fun
  | [d] => { results := [.lit (.bool false)], args := [d] }
  | _ => none }
def FnExactValidPolyWrongFalsely : Prop := fnExactValidPolyRow.holds Try.pinned (OpenSpec.ofChange fnExactValidPolyWrong)

/-- 'laws.FnExactValidPart': WHATEVER THE INPUT: true; the input reads as it did. -/
def fnExactValidPartSpec : ChangeSpec := { name := "fnExactValidPart", fn := fun _ => fun
  | [d] => { results := [.lit (.bool true)], args := [d] }
  | _ => none }
def fnExactValidPartRow : OpenClaim := { program := "ytpijklhonoekbaa", sum := "097b2687efaeacdec8128de275b6d357d94d9e8a1c7ca15b1082ede2760d7be0", func := "loop.example/g01242/laws.FnExactValidPart", spec := "fnExactValidPart", apart := false }
def FnExactValidPartSaid : Prop := fnExactValidPartRow.holds Try.pinned (OpenSpec.ofChange fnExactValidPartSpec)

/-- ITS FALSE NEIGHBOUR: 'it returns false'. Refute it at one input. -/
def fnExactValidPartWrong : ChangeSpec := { name := "fnExactValidPart", fn := fun _ => fun
  | [d] => { results := [.lit (.bool false)], args := [d] }
  | _ => none }
def FnExactValidPartWrongFalsely : Prop := fnExactValidPartRow.holds Try.pinned (OpenSpec.ofChange fnExactValidPartWrong)

/-- 'laws.FnExactRootTerms': WHATEVER THE INPUT: true; the input reads as it did. -/
def fnExactRootTermsSpec : ChangeSpec := { name := "fnExactRootTerms", fn := fun _ => fun
  | [d] => { results := [.lit (.bool true)], args := [d] }
  | _ => none }
def fnExactRootTermsRow : OpenClaim := { program := "ytpijklhonoekbaa", sum := "097b2687efaeacdec8128de275b6d357d94d9e8a1c7ca15b1082ede2760d7be0", func := "loop.example/g01242/laws.FnExactRootTerms", spec := "fnExactRootTerms", apart := false }
def FnExactRootTermsSaid : Prop := fnExactRootTermsRow.holds Try.pinned (OpenSpec.ofChange fnExactRootTermsSpec)

/-- ITS FALSE NEIGHBOUR: 'it returns false'. Refute it at one input. -/
def fnExactRootTermsWrong : ChangeSpec := { name := "fnExactRootTerms", fn := fun _ => fun
  | [d] => { results := [.lit (.bool false)], args := [d] }
  | _ => none }
def FnExactRootTermsWrongFalsely : Prop := fnExactRootTermsRow.holds Try.pinned (OpenSpec.ofChange fnExactRootTermsWrong)

/-- 'laws.FnExactSlopeOf': WHATEVER THE INPUT: true; the input reads as it did. -/
def fnExactSlopeOfSpec : ChangeSpec := { name := "fnExactSlopeOf", fn := fun _ => fun
  | [d] => { results := [.lit (.bool true)], args := [d] }
  | _ => none }
def fnExactSlopeOfRow : OpenClaim := { program := "ytpijklhonoekbaa", sum := "097b2687efaeacdec8128de275b6d357d94d9e8a1c7ca15b1082ede2760d7be0", func := "loop.example/g01242/laws.FnExactSlopeOf", spec := "fnExactSlopeOf", unfollowed := true, recurses := true, apart := false }
def FnExactSlopeOfSaid : Prop := fnExactSlopeOfRow.holds Try.pinned (OpenSpec.ofChange fnExactSlopeOfSpec)

/-- ITS FALSE NEIGHBOUR: 'it returns false'. Refute it at one input. -/
def fnExactSlopeOfWrong : ChangeSpec := { name := "fnExactSlopeOf", fn := fun _ => fun
  | [d] => { results := [.lit (.bool false)], args := [d] }
  | _ => none }
def FnExactSlopeOfWrongFalsely : Prop := fnExactSlopeOfRow.holds Try.pinned (OpenSpec.ofChange fnExactSlopeOfWrong)

/-- 'laws.FnExactTimesPoly': WHATEVER THE INPUT: true; the input reads as it did. -/
def fnExactTimesPolySpec : ChangeSpec := { name := "fnExactTimesPoly", fn := fun _ => fun
  | [d1, d2] => { results := [.lit (.bool true)], args := [d1, d2] }
  | _ => none }
def fnExactTimesPolyRow : OpenClaim := { program := "ytpijklhonoekbaa", sum := "097b2687efaeacdec8128de275b6d357d94d9e8a1c7ca15b1082ede2760d7be0", func := "loop.example/g01242/laws.FnExactTimesPoly", spec := "fnExactTimesPoly", unfollowed := true, recurses := true, apart := false }
def FnExactTimesPolySaid : Prop := fnExactTimesPolyRow.holds Try.pinned (OpenSpec.ofChange fnExactTimesPolySpec)

/-- ITS FALSE NEIGHBOUR: 'it returns false'. Refute it at one input. -/
def fnExactTimesPolyWrong : ChangeSpec := { name := "fnExactTimesPoly", fn := fun _ => fun
  | [d1, d2] => { results := [.lit (.bool false)], args := [d1, d2] }
  | _ => none }
def FnExactTimesPolyWrongFalsely : Prop := fnExactTimesPolyRow.holds Try.pinned (OpenSpec.ofChange fnExactTimesPolyWrong)

/-- 'laws.FnExactBoundOf': WHATEVER THE INPUT: true; the input reads as it did. -/
def fnExactBoundOfSpec : ChangeSpec := { name := "fnExactBoundOf", fn := fun _ => fun
  | [d] => { results := [.lit (.bool true)], args := [d] }
  | _ => none }
def fnExactBoundOfRow : OpenClaim := { program := "ytpijklhonoekbaa", sum := "097b2687efaeacdec8128de275b6d357d94d9e8a1c7ca15b1082ede2760d7be0", func := "loop.example/g01242/laws.FnExactBoundOf", spec := "fnExactBoundOf", unfollowed := true, recurses := true, apart := false }
def FnExactBoundOfSaid : Prop := fnExactBoundOfRow.holds Try.pinned (OpenSpec.ofChange fnExactBoundOfSpec)

/-- ITS FALSE NEIGHBOUR: 'it returns false'. Refute it at one input. -/
def fnExactBoundOfWrong : ChangeSpec := { name := "fnExactBoundOf", fn := fun _ => fun
  | [d] => { results := [.lit (.bool false)], args := [d] }
  | _ => none }
def FnExactBoundOfWrongFalsely : Prop := fnExactBoundOfRow.holds Try.pinned (OpenSpec.ofChange fnExactBoundOfWrong)

/- THE SECOND FORM. 'bulk': how many values and letters a reading holds, each counted each time it is reached (what is shared counts as often as it is met; a slice's spare places count too). A statement '..UptoSaid' is the law's where the arguments, and the package variables that the reading takes, are together of bulk at most 1048576: NARROWER than '..Said'. Prove '..Said' where nothing that the law and all that it calls make is longer than what came in: it says more and counts as full. Else prove '..UptoSaid'. A law counts once. -/
mutual
def uptoBulk {H : Type} : DataW H → Nat
  | .lit (.string bytes) => bytes.length + 1
  | .lit _ => 1
  | .nil => 1
  | .ptr d => uptoBulk d + 1
  | .slice elems spare => uptoBulkAll elems + uptoBulkAll spare + 1
  | .agg parts => uptoBulkAll parts + 1
  | .iface _ d => uptoBulk d + 1
  | .map entries => uptoBulkEntries entries + 1
  | .held _ => 1
def uptoBulkAll {H : Type} : List (DataW H) → Nat
  | [] => 0
  | d :: r => uptoBulk d + uptoBulkAll r
def uptoBulkEntries {H : Type} : List (Lit × DataW H) → Nat
  | [] => 0
  | x :: r => uptoBulkEntry x + uptoBulkEntries r
def uptoBulkEntry {H : Type} : Lit × DataW H → Nat
  | (.string bytes, d) => bytes.length + uptoBulk d + 1
  | (_, d) => uptoBulk d + 1
 end
def uptoSmall : (H : Type) → List (DataW H) → Bool := fun _ ds => decide (uptoBulkAll ds ≤ 1048576)
def OpenSpec.upto (s : _root_.Go.ChangeSpec) : _root_.Go.OpenSpec := { _root_.Go.OpenSpec.ofChange s with cond := some uptoSmall }

/-- 'laws.FnExactValidSeries', WHERE WHAT IT READS IS OF BULK AT MOST 1048576: true; the input reads as it did. -/
def fnExactValidSeriesUptoRow : OpenClaim := { program := "ytpijklhonoekbaa", sum := "097b2687efaeacdec8128de275b6d357d94d9e8a1c7ca15b1082ede2760d7be0", func := "loop.example/g01242/laws.FnExactValidSeries", spec := "fnExactValidSeries", apart := false, narrowed := true }
def FnExactValidSeriesUptoSaid : Prop := fnExactValidSeriesUptoRow.holds Try.pinned (OpenSpec.upto fnExactValidSeriesSpec)

/-- 'laws.FnExactProductEight', WHERE WHAT IT READS IS OF BULK AT MOST 1048576: true; the input reads as it did. -/
def fnExactProductEightUptoRow : OpenClaim := { program := "ytpijklhonoekbaa", sum := "097b2687efaeacdec8128de275b6d357d94d9e8a1c7ca15b1082ede2760d7be0", func := "loop.example/g01242/laws.FnExactProductEight", spec := "fnExactProductEight", apart := false, narrowed := true }
def FnExactProductEightUptoSaid : Prop := fnExactProductEightUptoRow.holds Try.pinned (OpenSpec.upto fnExactProductEightSpec)

/-- 'laws.FnExactSumEight', WHERE WHAT IT READS IS OF BULK AT MOST 1048576: true; the input reads as it did. -/
def fnExactSumEightUptoRow : OpenClaim := { program := "ytpijklhonoekbaa", sum := "097b2687efaeacdec8128de275b6d357d94d9e8a1c7ca15b1082ede2760d7be0", func := "loop.example/g01242/laws.FnExactSumEight", spec := "fnExactSumEight", apart := false, narrowed := true }
def FnExactSumEightUptoSaid : Prop := fnExactSumEightUptoRow.holds Try.pinned (OpenSpec.upto fnExactSumEightSpec)

/-- 'laws.FnExactValidTerms', WHERE WHAT IT READS IS OF BULK AT MOST 1048576: true; the input reads as it did. -/
def fnExactValidTermsUptoRow : OpenClaim := { program := "ytpijklhonoekbaa", sum := "097b2687efaeacdec8128de275b6d357d94d9e8a1c7ca15b1082ede2760d7be0", func := "loop.example/g01242/laws.FnExactValidTerms", spec := "fnExactValidTerms", apart := false, narrowed := true }
def FnExactValidTermsUptoSaid : Prop := fnExactValidTermsUptoRow.holds Try.pinned (OpenSpec.upto fnExactValidTermsSpec)

/-- 'laws.FnExactValidPoly', WHERE WHAT IT READS IS OF BULK AT MOST 1048576: true; the input reads as it did. -/
def fnExactValidPolyUptoRow : OpenClaim := { program := "ytpijklhonoekbaa", sum := "097b2687efaeacdec8128de275b6d357d94d9e8a1c7ca15b1082ede2760d7be0", func := "loop.example/g01242/laws.FnExactValidPoly", spec := "fnExactValidPoly", unfollowed := true, recurses := true, apart := false, narrowed := true }
def FnExactValidPolyUptoSaid : Prop := fnExactValidPolyUptoRow.holds Try.pinned (OpenSpec.upto fnExactValidPolySpec)

/-- 'laws.FnExactValidPart', WHERE WHAT IT READS IS OF BULK AT MOST 1048576: true; the input reads as it did. -/
def fnExactValidPartUptoRow : OpenClaim := { program := "ytpijklhonoekbaa", sum := "097b2687efaeacdec8128de275b6d357d94d9e8a1c7ca15b1082ede2760d7be0", func := "loop.example/g01242/laws.FnExactValidPart", spec := "fnExactValidPart", apart := false, narrowed := true }
def FnExactValidPartUptoSaid : Prop := fnExactValidPartUptoRow.holds Try.pinned (OpenSpec.upto fnExactValidPartSpec)

/-- 'laws.FnExactRootTerms', WHERE WHAT IT READS IS OF BULK AT MOST 1048576: true; the input reads as it did. -/
def fnExactRootTermsUptoRow : OpenClaim := { program := "ytpijklhonoekbaa", sum := "097b2687efaeacdec8128de275b6d357d94d9e8a1c7ca15b1082ede2760d7be0", func := "loop.example/g01242/laws.FnExactRootTerms", spec := "fnExactRootTerms", apart := false, narrowed := true }
def FnExactRootTermsUptoSaid : Prop := fnExactRootTermsUptoRow.holds Try.pinned (OpenSpec.upto fnExactRootTermsSpec)

/-- 'laws.FnExactSlopeOf', WHERE WHAT IT READS IS OF BULK AT MOST 1048576: true; the input reads as it did. -/
def fnExactSlopeOfUptoRow : OpenClaim := { program := "ytpijklhonoekbaa", sum := "097b2687efaeacdec8128de275b6d357d94d9e8a1c7ca15b1082ede2760d7be0", func := "loop.example/g01242/laws.FnExactSlopeOf", spec := "fnExactSlopeOf", unfollowed := true, recurses := true, apart := false, narrowed := true }
def FnExactSlopeOfUptoSaid : Prop := fnExactSlopeOfUptoRow.holds Try.pinned (OpenSpec.upto fnExactSlopeOfSpec)

/-- 'laws.FnExactTimesPoly', WHERE WHAT IT READS IS OF BULK AT MOST 1048576: true; the input reads as it did. -/
def fnExactTimesPolyUptoRow : OpenClaim := { program := "ytpijklhonoekbaa", sum := "097b2687efaeacdec8128de275b6d357d94d9e8a1c7ca15b1082ede2760d7be0", func := "loop.example/g01242/laws.FnExactTimesPoly", spec := "fnExactTimesPoly", unfollowed := true, recurses := true, apart := false, narrowed := true }
def FnExactTimesPolyUptoSaid : Prop := fnExactTimesPolyUptoRow.holds Try.pinned (OpenSpec.upto fnExactTimesPolySpec)

/-- 'laws.FnExactBoundOf', WHERE WHAT IT READS IS OF BULK AT MOST 1048576: true; the input reads as it did. -/
def fnExactBoundOfUptoRow : OpenClaim := { program := "ytpijklhonoekbaa", sum := "097b2687efaeacdec8128de275b6d357d94d9e8a1c7ca15b1082ede2760d7be0", func := "loop.example/g01242/laws.FnExactBoundOf", spec := "fnExactBoundOf", unfollowed := true, recurses := true, apart := false, narrowed := true }
def FnExactBoundOfUptoSaid : Prop := fnExactBoundOfUptoRow.holds Try.pinned (OpenSpec.upto fnExactBoundOfSpec)

end Rows
end Go.Proofs.Ytpijklhonoekbaa
