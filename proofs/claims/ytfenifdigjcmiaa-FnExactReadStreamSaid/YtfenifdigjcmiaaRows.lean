/-
  No cell of these rows narrows 'for every input' (looked for: loops, veiled, ifaces, maps, wideKeys, modest, calm, conditions, laid).
  DERIVED. THE GIVEN ROWS OF THIS SEAT. 9 by the template 'for every input the law returns true; each argument reads behind the call as it read before'; 0 by the template 'total and deterministic' (their statements: YtfenifdigjcmiaaTotals.lean).
  GIVEN WITH THE SEED: the statements are not yours to turn. If you find one false, say at which input.
  Laid BY PROGRAM, IN A SANDBOX (cutbox-rows.mjs): the forced cells as the released guide's own fill.sh prints them over the translation 12276e648a261263… (all of the seat's roots in one cut). By AI agents, Wed Nov 11 2026. No macro, syntax, notation, axiom, sorry.
-/
import Derived.Test.YtfenifdigjcmiaaChecked
import GoSem.Claim
import GoSem.ClaimJoined
import GoSem.ClaimMapViews
import Derived.JoinedTies
import Derived.KernelRfl
namespace Go.Proofs.Ytfenifdigjcmiaa
/- THE CELL 'sum', in the pinned program and in every row, IS THE sha256 OF THE DUMP (.gsa) THAT YtfenifdigjcmiaaProg.lean LOADS. Nothing in Lean hashes anything: it is a label: what it is worth is what the hold of that sum in a sandbox is worth. -/
noncomputable def Try.pinned : Pinned := { name := "ytfenifdigjcmiaa", sum := "12276e648a261263dfc1a7682d0ad2ba6aa2f75e6ddcc10b6cca60a882e0dcba", checked := Try.checked }
namespace Rows
def none {H : Type} : Left H := { results := [], args := [] }

/-- 'laws.FnExactBoundsOf': WHATEVER THE INPUT: true; the input reads as it did. -/
def fnExactBoundsOfSpec : ChangeSpec := { name := "fnExactBoundsOf", fn := fun _ => fun
  | [d] => { results := [.lit (.bool true)], args := [d] }
  | _ => none }
def fnExactBoundsOfRow : OpenClaim := { program := "ytfenifdigjcmiaa", sum := "12276e648a261263dfc1a7682d0ad2ba6aa2f75e6ddcc10b6cca60a882e0dcba", func := "loop.example/g01242/laws.FnExactBoundsOf", spec := "fnExactBoundsOf", unfollowed := true, recurses := true, plainKeys := false, apart := false }
def FnExactBoundsOfSaid : Prop := fnExactBoundsOfRow.holds Try.pinned (OpenSpec.ofChange fnExactBoundsOfSpec)

/-- ITS FALSE NEIGHBOUR: 'it returns false'. Refute it at one input. -/
def fnExactBoundsOfWrong : ChangeSpec := { name := "fnExactBoundsOf", fn := fun _ => fun
  | [d] => { results := [.lit (.bool false)], args := [d] }
  | _ => none }
def FnExactBoundsOfWrongFalsely : Prop := fnExactBoundsOfRow.holds Try.pinned (OpenSpec.ofChange fnExactBoundsOfWrong)

/-- 'laws.FnExactNormalStream': WHATEVER THE INPUT: true; the input reads as it did. -/
def fnExactNormalStreamSpec : ChangeSpec := { name := "fnExactNormalStream", fn := fun _ => fun
  | [d] => { results := [.lit (.bool true)], args := [d] }
  | _ => none }
def fnExactNormalStreamRow : OpenClaim := { program := "ytfenifdigjcmiaa", sum := "12276e648a261263dfc1a7682d0ad2ba6aa2f75e6ddcc10b6cca60a882e0dcba", func := "loop.example/g01242/laws.FnExactNormalStream", spec := "fnExactNormalStream", unfollowed := true, recurses := true, plainKeys := false, apart := false }
def FnExactNormalStreamSaid : Prop := fnExactNormalStreamRow.holds Try.pinned (OpenSpec.ofChange fnExactNormalStreamSpec)

/-- ITS FALSE NEIGHBOUR: 'it returns false'. Refute it at one input. -/
def fnExactNormalStreamWrong : ChangeSpec := { name := "fnExactNormalStream", fn := fun _ => fun
  | [d] => { results := [.lit (.bool false)], args := [d] }
  | _ => none }
def FnExactNormalStreamWrongFalsely : Prop := fnExactNormalStreamRow.holds Try.pinned (OpenSpec.ofChange fnExactNormalStreamWrong)

/-- 'laws.FnExactValueOf': WHATEVER THE INPUT: true; the input reads as it did. -/
def fnExactValueOfSpec : ChangeSpec := { name := "fnExactValueOf", fn := fun _ => fun
  | [d] => { results := [.lit (.bool true)], args := [d] }
  | _ => none }
def fnExactValueOfRow : OpenClaim := { program := "ytfenifdigjcmiaa", sum := "12276e648a261263dfc1a7682d0ad2ba6aa2f75e6ddcc10b6cca60a882e0dcba", func := "loop.example/g01242/laws.FnExactValueOf", spec := "fnExactValueOf", unfollowed := true, recurses := true, plainKeys := false, apart := false }
def FnExactValueOfSaid : Prop := fnExactValueOfRow.holds Try.pinned (OpenSpec.ofChange fnExactValueOfSpec)

/-- ITS FALSE NEIGHBOUR: 'it returns false'. Refute it at one input. -/
def fnExactValueOfWrong : ChangeSpec := { name := "fnExactValueOf", fn := fun _ => fun
  | [d] => { results := [.lit (.bool false)], args := [d] }
  | _ => none }
def FnExactValueOfWrongFalsely : Prop := fnExactValueOfRow.holds Try.pinned (OpenSpec.ofChange fnExactValueOfWrong)

/-- 'laws.FnExactStreamOf': WHATEVER THE INPUT: true; the input reads as it did. -/
def fnExactStreamOfSpec : ChangeSpec := { name := "fnExactStreamOf", fn := fun _ => fun
  | [d] => { results := [.lit (.bool true)], args := [d] }
  | _ => none }
def fnExactStreamOfRow : OpenClaim := { program := "ytfenifdigjcmiaa", sum := "12276e648a261263dfc1a7682d0ad2ba6aa2f75e6ddcc10b6cca60a882e0dcba", func := "loop.example/g01242/laws.FnExactStreamOf", spec := "fnExactStreamOf", unfollowed := true, recurses := true, plainKeys := false, apart := false }
def FnExactStreamOfSaid : Prop := fnExactStreamOfRow.holds Try.pinned (OpenSpec.ofChange fnExactStreamOfSpec)

/-- ITS FALSE NEIGHBOUR: 'it returns false'. Refute it at one input. -/
def fnExactStreamOfWrong : ChangeSpec := { name := "fnExactStreamOf", fn := fun _ => fun
  | [d] => { results := [.lit (.bool false)], args := [d] }
  | _ => none }
def FnExactStreamOfWrongFalsely : Prop := fnExactStreamOfRow.holds Try.pinned (OpenSpec.ofChange fnExactStreamOfWrong)

/-- 'laws.FnExactCompareStreams': WHATEVER THE INPUT: true; the input reads as it did. -/
def fnExactCompareStreamsSpec : ChangeSpec := { name := "fnExactCompareStreams", fn := fun _ => fun
  | [d1, d2] => { results := [.lit (.bool true)], args := [d1, d2] }
  | _ => none }
def fnExactCompareStreamsRow : OpenClaim := { program := "ytfenifdigjcmiaa", sum := "12276e648a261263dfc1a7682d0ad2ba6aa2f75e6ddcc10b6cca60a882e0dcba", func := "loop.example/g01242/laws.FnExactCompareStreams", spec := "fnExactCompareStreams", unfollowed := true, recurses := true, plainKeys := false, apart := false }
def FnExactCompareStreamsSaid : Prop := fnExactCompareStreamsRow.holds Try.pinned (OpenSpec.ofChange fnExactCompareStreamsSpec)

/-- ITS FALSE NEIGHBOUR: 'it returns false'. Refute it at one input. -/
def fnExactCompareStreamsWrong : ChangeSpec := { name := "fnExactCompareStreams", fn := fun _ => fun
  | [d1, d2] => { results := [.lit (.bool false)], args := [d1, d2] }
  | _ => none }
def FnExactCompareStreamsWrongFalsely : Prop := fnExactCompareStreamsRow.holds Try.pinned (OpenSpec.ofChange fnExactCompareStreamsWrong)

/-- 'laws.FnExactReadStream': WHATEVER THE INPUT: true; the input reads as it did. -/
def fnExactReadStreamSpec : ChangeSpec := { name := "fnExactReadStream", fn := fun _ => fun
  | [d] => { results := [.lit (.bool true)], args := [d] }
  | _ => none }
def fnExactReadStreamRow : OpenClaim := { program := "ytfenifdigjcmiaa", sum := "12276e648a261263dfc1a7682d0ad2ba6aa2f75e6ddcc10b6cca60a882e0dcba", func := "loop.example/g01242/laws.FnExactReadStream", spec := "fnExactReadStream", inPlace := ["internal/bytealg.IndexByteString", "internal/bytealg.IndexString"], unfollowed := true, recurses := true, named := ["internal/bytealg.MaxLen"], plainKeys := false, apart := false }
def FnExactReadStreamSaid : Prop := fnExactReadStreamRow.holds Try.pinned (OpenSpec.ofChange fnExactReadStreamSpec)

/-- ITS FALSE NEIGHBOUR: 'it returns false'. Refute it at one input. -/
def fnExactReadStreamWrong : ChangeSpec := { name := "fnExactReadStream", fn := fun _ => fun
  | [d] => { results := [.lit (.bool false)], args := [d] }
  | _ => none }
def FnExactReadStreamWrongFalsely : Prop := fnExactReadStreamRow.holds Try.pinned (OpenSpec.ofChange fnExactReadStreamWrong)

/-- 'laws.FnExactAverageOf': WHATEVER THE INPUT: true; the input reads as it did. -/
def fnExactAverageOfSpec : ChangeSpec := { name := "fnExactAverageOf", fn := fun _ => fun
  | [d1, d2] => { results := [.lit (.bool true)], args := [d1, d2] }
  | _ => none }
def fnExactAverageOfRow : OpenClaim := { program := "ytfenifdigjcmiaa", sum := "12276e648a261263dfc1a7682d0ad2ba6aa2f75e6ddcc10b6cca60a882e0dcba", func := "loop.example/g01242/laws.FnExactAverageOf", spec := "fnExactAverageOf", unfollowed := true, recurses := true, plainKeys := false, apart := false }
def FnExactAverageOfSaid : Prop := fnExactAverageOfRow.holds Try.pinned (OpenSpec.ofChange fnExactAverageOfSpec)

/-- ITS FALSE NEIGHBOUR: 'it returns false'. Refute it at one input. -/
def fnExactAverageOfWrong : ChangeSpec := { name := "fnExactAverageOf", fn := fun _ => fun
  | [d1, d2] => { results := [.lit (.bool false)], args := [d1, d2] }
  | _ => none }
def FnExactAverageOfWrongFalsely : Prop := fnExactAverageOfRow.holds Try.pinned (OpenSpec.ofChange fnExactAverageOfWrong)

/-- 'laws.FnExactStreamTree': WHATEVER THE INPUT: true; the input reads as it did. -/
def fnExactStreamTreeSpec : ChangeSpec := { name := "fnExactStreamTree", fn := fun _ => fun
  | [d] => { results := [.lit (.bool true)], args := [d] }
  | _ => none }
def fnExactStreamTreeRow : OpenClaim := { program := "ytfenifdigjcmiaa", sum := "12276e648a261263dfc1a7682d0ad2ba6aa2f75e6ddcc10b6cca60a882e0dcba", func := "loop.example/g01242/laws.FnExactStreamTree", spec := "fnExactStreamTree", unfollowed := true, recurses := true, plainKeys := false, apart := false }
def FnExactStreamTreeSaid : Prop := fnExactStreamTreeRow.holds Try.pinned (OpenSpec.ofChange fnExactStreamTreeSpec)

/-- ITS FALSE NEIGHBOUR: 'it returns false'. Refute it at one input. -/
def fnExactStreamTreeWrong : ChangeSpec := { name := "fnExactStreamTree", fn := fun _ => fun
  | [d] => { results := [.lit (.bool false)], args := [d] }
  | _ => none }
def FnExactStreamTreeWrongFalsely : Prop := fnExactStreamTreeRow.holds Try.pinned (OpenSpec.ofChange fnExactStreamTreeWrong)

/-- 'laws.FnExactSeriesTerms': WHATEVER THE INPUT: true; the input reads as it did. -/
def fnExactSeriesTermsSpec : ChangeSpec := { name := "fnExactSeriesTerms", fn := fun _ => fun
  | [d1, d2] => { results := [.lit (.bool true)], args := [d1, d2] }
  | _ => none }
def fnExactSeriesTermsRow : OpenClaim := { program := "ytfenifdigjcmiaa", sum := "12276e648a261263dfc1a7682d0ad2ba6aa2f75e6ddcc10b6cca60a882e0dcba", func := "loop.example/g01242/laws.FnExactSeriesTerms", spec := "fnExactSeriesTerms", plainKeys := false, apart := false }
def FnExactSeriesTermsSaid : Prop := fnExactSeriesTermsRow.holds Try.pinned (OpenSpec.ofChange fnExactSeriesTermsSpec)

/-- ITS FALSE NEIGHBOUR: 'it returns false'. Refute it at one input. -/
def fnExactSeriesTermsWrong : ChangeSpec := { name := "fnExactSeriesTerms", fn := fun _ => fun
  | [d1, d2] => { results := [.lit (.bool false)], args := [d1, d2] }
  | _ => none }
def FnExactSeriesTermsWrongFalsely : Prop := fnExactSeriesTermsRow.holds Try.pinned (OpenSpec.ofChange fnExactSeriesTermsWrong)

/- THE SECOND FORM. 'bulk': how many values and letters a reading holds, each counted each time it is reached (what is shared counts as often as it is met; a slice's spare places count too). A statement '..UptoSaid' is the law's where the arguments, and the package variables that the reading takes, are together of bulk at most 1048576: NARROWER than '..Said'. Prove '..Said' where nothing that the law and all that it calls make is longer than what came in: it says more and counts as full. Else prove '..UptoSaid'. A law counts once. -/
mutual
def uptoBulk {H : Type} : DataW H → Nat
  | .lit (.string bytes) => bytes.length + 1
  | .lit _ => 1
  | .nil => 1
  | .ptr d => uptoBulk d + 1
  | .slice elems spare => uptoBulkAll elems + uptoBulkAll spare + 1
  | .agg parts => uptoBulkAll parts + 1
  | .iface _ d => uptoBulk d + 1
  | .map entries => uptoBulkEntries entries + 1
  | .held _ => 1
def uptoBulkAll {H : Type} : List (DataW H) → Nat
  | [] => 0
  | d :: r => uptoBulk d + uptoBulkAll r
def uptoBulkEntries {H : Type} : List (Lit × DataW H) → Nat
  | [] => 0
  | x :: r => uptoBulkEntry x + uptoBulkEntries r
def uptoBulkEntry {H : Type} : Lit × DataW H → Nat
  | (.string bytes, d) => bytes.length + uptoBulk d + 1
  | (_, d) => uptoBulk d + 1
 end
def uptoSmall : (H : Type) → List (DataW H) → Bool := fun _ ds => decide (uptoBulkAll ds ≤ 1048576)
def OpenSpec.upto (s : _root_.Go.ChangeSpec) : _root_.Go.OpenSpec := { _root_.Go.OpenSpec.ofChange s with cond := some uptoSmall }

/-- 'laws.FnExactBoundsOf', WHERE WHAT IT READS IS OF BULK AT MOST 1048576: true; the input reads as it did. -/
def fnExactBoundsOfUptoRow : OpenClaim := { program := "ytfenifdigjcmiaa", sum := "12276e648a261263dfc1a7682d0ad2ba6aa2f75e6ddcc10b6cca60a882e0dcba", func := "loop.example/g01242/laws.FnExactBoundsOf", spec := "fnExactBoundsOf", unfollowed := true, recurses := true, plainKeys := false, apart := false, narrowed := true }
def FnExactBoundsOfUptoSaid : Prop := fnExactBoundsOfUptoRow.holds Try.pinned (OpenSpec.upto fnExactBoundsOfSpec)

/-- 'laws.FnExactNormalStream', WHERE WHAT IT READS IS OF BULK AT MOST 1048576: true; the input reads as it did. -/
def fnExactNormalStreamUptoRow : OpenClaim := { program := "ytfenifdigjcmiaa", sum := "12276e648a261263dfc1a7682d0ad2ba6aa2f75e6ddcc10b6cca60a882e0dcba", func := "loop.example/g01242/laws.FnExactNormalStream", spec := "fnExactNormalStream", unfollowed := true, recurses := true, plainKeys := false, apart := false, narrowed := true }
def FnExactNormalStreamUptoSaid : Prop := fnExactNormalStreamUptoRow.holds Try.pinned (OpenSpec.upto fnExactNormalStreamSpec)

/-- 'laws.FnExactValueOf', WHERE WHAT IT READS IS OF BULK AT MOST 1048576: true; the input reads as it did. -/
def fnExactValueOfUptoRow : OpenClaim := { program := "ytfenifdigjcmiaa", sum := "12276e648a261263dfc1a7682d0ad2ba6aa2f75e6ddcc10b6cca60a882e0dcba", func := "loop.example/g01242/laws.FnExactValueOf", spec := "fnExactValueOf", unfollowed := true, recurses := true, plainKeys := false, apart := false, narrowed := true }
def FnExactValueOfUptoSaid : Prop := fnExactValueOfUptoRow.holds Try.pinned (OpenSpec.upto fnExactValueOfSpec)

/-- 'laws.FnExactStreamOf', WHERE WHAT IT READS IS OF BULK AT MOST 1048576: true; the input reads as it did. -/
def fnExactStreamOfUptoRow : OpenClaim := { program := "ytfenifdigjcmiaa", sum := "12276e648a261263dfc1a7682d0ad2ba6aa2f75e6ddcc10b6cca60a882e0dcba", func := "loop.example/g01242/laws.FnExactStreamOf", spec := "fnExactStreamOf", unfollowed := true, recurses := true, plainKeys := false, apart := false, narrowed := true }
def FnExactStreamOfUptoSaid : Prop := fnExactStreamOfUptoRow.holds Try.pinned (OpenSpec.upto fnExactStreamOfSpec)

/-- 'laws.FnExactCompareStreams', WHERE WHAT IT READS IS OF BULK AT MOST 1048576: true; the input reads as it did. -/
def fnExactCompareStreamsUptoRow : OpenClaim := { program := "ytfenifdigjcmiaa", sum := "12276e648a261263dfc1a7682d0ad2ba6aa2f75e6ddcc10b6cca60a882e0dcba", func := "loop.example/g01242/laws.FnExactCompareStreams", spec := "fnExactCompareStreams", unfollowed := true, recurses := true, plainKeys := false, apart := false, narrowed := true }
def FnExactCompareStreamsUptoSaid : Prop := fnExactCompareStreamsUptoRow.holds Try.pinned (OpenSpec.upto fnExactCompareStreamsSpec)

/-- 'laws.FnExactReadStream', WHERE WHAT IT READS IS OF BULK AT MOST 1048576: true; the input reads as it did. -/
def fnExactReadStreamUptoRow : OpenClaim := { program := "ytfenifdigjcmiaa", sum := "12276e648a261263dfc1a7682d0ad2ba6aa2f75e6ddcc10b6cca60a882e0dcba", func := "loop.example/g01242/laws.FnExactReadStream", spec := "fnExactReadStream", inPlace := ["internal/bytealg.IndexByteString", "internal/bytealg.IndexString"], unfollowed := true, recurses := true, named := ["internal/bytealg.MaxLen"], plainKeys := false, apart := false, narrowed := true }
def FnExactReadStreamUptoSaid : Prop := fnExactReadStreamUptoRow.holds Try.pinned (OpenSpec.upto fnExactReadStreamSpec)

/-- 'laws.FnExactAverageOf', WHERE WHAT IT READS IS OF BULK AT MOST 1048576: true; the input reads as it did. -/
def fnExactAverageOfUptoRow : OpenClaim := { program := "ytfenifdigjcmiaa", sum := "12276e648a261263dfc1a7682d0ad2ba6aa2f75e6ddcc10b6cca60a882e0dcba", func := "loop.example/g01242/laws.FnExactAverageOf", spec := "fnExactAverageOf", unfollowed := true, recurses := true, plainKeys := false, apart := false, narrowed := true }
def FnExactAverageOfUptoSaid : Prop := fnExactAverageOfUptoRow.holds Try.pinned (OpenSpec.upto fnExactAverageOfSpec)

/-- 'laws.FnExactStreamTree', WHERE WHAT IT READS IS OF BULK AT MOST 1048576: true; the input reads as it did. -/
def fnExactStreamTreeUptoRow : OpenClaim := { program := "ytfenifdigjcmiaa", sum := "12276e648a261263dfc1a7682d0ad2ba6aa2f75e6ddcc10b6cca60a882e0dcba", func := "loop.example/g01242/laws.FnExactStreamTree", spec := "fnExactStreamTree", unfollowed := true, recurses := true, plainKeys := false, apart := false, narrowed := true }
def FnExactStreamTreeUptoSaid : Prop := fnExactStreamTreeUptoRow.holds Try.pinned (OpenSpec.upto fnExactStreamTreeSpec)

/-- 'laws.FnExactSeriesTerms', WHERE WHAT IT READS IS OF BULK AT MOST 1048576: true; the input reads as it did. -/
def fnExactSeriesTermsUptoRow : OpenClaim := { program := "ytfenifdigjcmiaa", sum := "12276e648a261263dfc1a7682d0ad2ba6aa2f75e6ddcc10b6cca60a882e0dcba", func := "loop.example/g01242/laws.FnExactSeriesTerms", spec := "fnExactSeriesTerms", plainKeys := false, apart := false, narrowed := true }
def FnExactSeriesTermsUptoSaid : Prop := fnExactSeriesTermsUptoRow.holds Try.pinned (OpenSpec.upto fnExactSeriesTermsSpec)

end Rows
end Go.Proofs.Ytfenifdigjcmiaa
