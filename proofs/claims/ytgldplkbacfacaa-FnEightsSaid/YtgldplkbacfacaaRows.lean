/-
  No cell of these rows narrows 'for every input' (looked for: loops, veiled, ifaces, maps, wideKeys, modest, calm, conditions, laid).
  DERIVED. THE GIVEN ROWS OF THIS SEAT. 6 by the template 'for every input the law returns true; each argument reads behind the call as it read before'; 0 by the template 'total and deterministic' (their statements: YtgldplkbacfacaaTotals.lean).
  GIVEN WITH THE SEED: the statements are not yours to turn. If you find one false, say at which input.
  Laid BY PROGRAM, IN A SANDBOX (cutbox-rows.mjs): the forced cells as the released guide's own fill.sh prints them over the translation a3b47bb41e4122e0… (all of the seat's roots in one cut). By AI agents, Wed Nov 11 2026. No macro, syntax, notation, axiom, sorry.
-/
import Derived.Test.YtgldplkbacfacaaChecked
import GoSem.Claim
import GoSem.ClaimJoined
import GoSem.ClaimMapViews
import Derived.JoinedTies
import Derived.KernelRfl
namespace Go.Proofs.Ytgldplkbacfacaa
/- THE CELL 'sum', in the pinned program and in every row, IS THE sha256 OF THE DUMP (.gsa) THAT YtgldplkbacfacaaProg.lean LOADS. Nothing in Lean hashes anything: it is a label: what it is worth is what the hold of that sum in a sandbox is worth. -/
noncomputable def Try.pinned : Pinned := { name := "ytgldplkbacfacaa", sum := "a3b47bb41e4122e021006428e6dcf626c2d6f5ab10f46e637b9fe771d1ca1197", checked := Try.checked }
namespace Rows
def none {H : Type} : Left H := { results := [], args := [] }

/-- 'laws.FnExactPairTerms': WHATEVER THE INPUT: true; the input reads as it did. -/
def fnExactPairTermsSpec : ChangeSpec := { name := "fnExactPairTerms", fn := fun _ => fun
  | [d1, d2] => { results := [.lit (.bool true)], args := [d1, d2] }
  | _ => none }
def fnExactPairTermsRow : OpenClaim := { program := "ytgldplkbacfacaa", sum := "a3b47bb41e4122e021006428e6dcf626c2d6f5ab10f46e637b9fe771d1ca1197", func := "loop.example/g01242/laws.FnExactPairTerms", spec := "fnExactPairTerms", apart := false }
def FnExactPairTermsSaid : Prop := fnExactPairTermsRow.holds Try.pinned (OpenSpec.ofChange fnExactPairTermsSpec)

/-- ITS FALSE NEIGHBOUR: 'it returns false'. Refute it at one input. -/
def fnExactPairTermsWrong : ChangeSpec := { name := "fnExactPairTerms", fn := fun _ => fun
  | [d1, d2] => { results := [.lit (.bool false)], args := [d1, d2] }
  | _ => none }
def FnExactPairTermsWrongFalsely : Prop := fnExactPairTermsRow.holds Try.pinned (OpenSpec.ofChange fnExactPairTermsWrong)

/-- 'laws.FnExactPairMoves': WHATEVER THE INPUT: true; the input reads as it did. -/
def fnExactPairMovesSpec : ChangeSpec := { name := "fnExactPairMoves", fn := fun _ => fun
  | [d1, d2] => { results := [.lit (.bool true)], args := [d1, d2] }
  | _ => none }
def fnExactPairMovesRow : OpenClaim := { program := "ytgldplkbacfacaa", sum := "a3b47bb41e4122e021006428e6dcf626c2d6f5ab10f46e637b9fe771d1ca1197", func := "loop.example/g01242/laws.FnExactPairMoves", spec := "fnExactPairMoves", apart := false }
def FnExactPairMovesSaid : Prop := fnExactPairMovesRow.holds Try.pinned (OpenSpec.ofChange fnExactPairMovesSpec)

/-- ITS FALSE NEIGHBOUR: 'it returns false'. Refute it at one input. -/
def fnExactPairMovesWrong : ChangeSpec := { name := "fnExactPairMoves", fn := fun _ => fun
  | [d1, d2] => { results := [.lit (.bool false)], args := [d1, d2] }
  | _ => none }
def FnExactPairMovesWrongFalsely : Prop := fnExactPairMovesRow.holds Try.pinned (OpenSpec.ofChange fnExactPairMovesWrong)

/-- 'laws.FnExactEightTerms': WHATEVER THE INPUT: true; the input reads as it did. -/
def fnExactEightTermsSpec : ChangeSpec := { name := "fnExactEightTerms", fn := fun _ => fun
  | [d1, d2, d3] => { results := [.lit (.bool true)], args := [d1, d2, d3] }
  | _ => none }
def fnExactEightTermsRow : OpenClaim := { program := "ytgldplkbacfacaa", sum := "a3b47bb41e4122e021006428e6dcf626c2d6f5ab10f46e637b9fe771d1ca1197", func := "loop.example/g01242/laws.FnExactEightTerms", spec := "fnExactEightTerms", apart := false }
def FnExactEightTermsSaid : Prop := fnExactEightTermsRow.holds Try.pinned (OpenSpec.ofChange fnExactEightTermsSpec)

/-- ITS FALSE NEIGHBOUR: 'it returns false'. Refute it at one input. -/
def fnExactEightTermsWrong : ChangeSpec := { name := "fnExactEightTerms", fn := fun _ => fun
  | [d1, d2, d3] => { results := [.lit (.bool false)], args := [d1, d2, d3] }
  | _ => none }
def FnExactEightTermsWrongFalsely : Prop := fnExactEightTermsRow.holds Try.pinned (OpenSpec.ofChange fnExactEightTermsWrong)

/-- 'laws.FnExactEightMoves': WHATEVER THE INPUT: true; the input reads as it did. -/
def fnExactEightMovesSpec : ChangeSpec := { name := "fnExactEightMoves", fn := fun _ => fun
  | [d1, d2, d3] => { results := [.lit (.bool true)], args := [d1, d2, d3] }
  | _ => none }
def fnExactEightMovesRow : OpenClaim := { program := "ytgldplkbacfacaa", sum := "a3b47bb41e4122e021006428e6dcf626c2d6f5ab10f46e637b9fe771d1ca1197", func := "loop.example/g01242/laws.FnExactEightMoves", spec := "fnExactEightMoves", apart := false }
def FnExactEightMovesSaid : Prop := fnExactEightMovesRow.holds Try.pinned (OpenSpec.ofChange fnExactEightMovesSpec)

/-- ITS FALSE NEIGHBOUR: 'it returns false'. Refute it at one input. -/
def fnExactEightMovesWrong : ChangeSpec := { name := "fnExactEightMoves", fn := fun _ => fun
  | [d1, d2, d3] => { results := [.lit (.bool false)], args := [d1, d2, d3] }
  | _ => none }
def FnExactEightMovesWrongFalsely : Prop := fnExactEightMovesRow.holds Try.pinned (OpenSpec.ofChange fnExactEightMovesWrong)

/-- 'laws.FnPairs': WHATEVER THE INPUT: true; the input reads as it did. -/
def fnPairsSpec : ChangeSpec := { name := "fnPairs", fn := fun _ => fun
  | [d1, d2] => { results := [.lit (.bool true)], args := [d1, d2] }
  | _ => none }
def fnPairsRow : OpenClaim := { program := "ytgldplkbacfacaa", sum := "a3b47bb41e4122e021006428e6dcf626c2d6f5ab10f46e637b9fe771d1ca1197", func := "loop.example/g01242/laws.FnPairs", spec := "fnPairs", apart := false }
def FnPairsSaid : Prop := fnPairsRow.holds Try.pinned (OpenSpec.ofChange fnPairsSpec)

/-- ITS FALSE NEIGHBOUR: 'it returns false'. Refute it at one input. -/
def fnPairsWrong : ChangeSpec := { name := "fnPairs", fn := fun _ => fun
  | [d1, d2] => { results := [.lit (.bool false)], args := [d1, d2] }
  | _ => none }
def FnPairsWrongFalsely : Prop := fnPairsRow.holds Try.pinned (OpenSpec.ofChange fnPairsWrong)

/-- 'laws.FnEights': WHATEVER THE INPUT: true; the input reads as it did. -/
def fnEightsSpec : ChangeSpec := { name := "fnEights", fn := fun _ => fun
  | [d1, d2] => { results := [.lit (.bool true)], args := [d1, d2] }
  | _ => none }
def fnEightsRow : OpenClaim := { program := "ytgldplkbacfacaa", sum := "a3b47bb41e4122e021006428e6dcf626c2d6f5ab10f46e637b9fe771d1ca1197", func := "loop.example/g01242/laws.FnEights", spec := "fnEights", apart := false }
def FnEightsSaid : Prop := fnEightsRow.holds Try.pinned (OpenSpec.ofChange fnEightsSpec)

/-- ITS FALSE NEIGHBOUR: 'it returns false'. Refute it at one input. -/
def fnEightsWrong : ChangeSpec := { name := "fnEights", fn := fun _ => fun
  | [d1, d2] => { results := [.lit (.bool false)], args := [d1, d2] }
  | _ => none }
def FnEightsWrongFalsely : Prop := fnEightsRow.holds Try.pinned (OpenSpec.ofChange fnEightsWrong)

/- THE SECOND FORM. 'bulk': how many values and letters a reading holds, each counted each time it is reached (what is shared counts as often as it is met; a slice's spare places count too). A statement '..UptoSaid' is the law's where the arguments, and the package variables that the reading takes, are together of bulk at most 1048576: NARROWER than '..Said'. Prove '..Said' where nothing that the law and all that it calls make is longer than what came in: it says more and counts as full. Else prove '..UptoSaid'. A law counts once. -/
mutual
def uptoBulk {H : Type} : DataW H → Nat
  | .lit (.string bytes) => bytes.length + 1
  | .lit _ => 1
  | .nil => 1
  | .ptr d => uptoBulk d + 1
  | .slice elems spare => uptoBulkAll elems + uptoBulkAll spare + 1
  | .agg parts => uptoBulkAll parts + 1
  | .iface _ d => uptoBulk d + 1
  | .map entries => uptoBulkEntries entries + 1
  | .held _ => 1
def uptoBulkAll {H : Type} : List (DataW H) → Nat
  | [] => 0
  | d :: r => uptoBulk d + uptoBulkAll r
def uptoBulkEntries {H : Type} : List (Lit × DataW H) → Nat
  | [] => 0
  | x :: r => uptoBulkEntry x + uptoBulkEntries r
def uptoBulkEntry {H : Type} : Lit × DataW H → Nat
  | (.string bytes, d) => bytes.length + uptoBulk d + 1
  | (_, d) => uptoBulk d + 1
 end
def uptoSmall : (H : Type) → List (DataW H) → Bool := fun _ ds => decide (uptoBulkAll ds ≤ 1048576)
def OpenSpec.upto (s : _root_.Go.ChangeSpec) : _root_.Go.OpenSpec := { _root_.Go.OpenSpec.ofChange s with cond := some uptoSmall }

/-- 'laws.FnExactPairTerms', WHERE WHAT IT READS IS OF BULK AT MOST 1048576: true; the input reads as it did. -/
def fnExactPairTermsUptoRow : OpenClaim := { program := "ytgldplkbacfacaa", sum := "a3b47bb41e4122e021006428e6dcf626c2d6f5ab10f46e637b9fe771d1ca1197", func := "loop.example/g01242/laws.FnExactPairTerms", spec := "fnExactPairTerms", apart := false, narrowed := true }
def FnExactPairTermsUptoSaid : Prop := fnExactPairTermsUptoRow.holds Try.pinned (OpenSpec.upto fnExactPairTermsSpec)

/-- 'laws.FnExactPairMoves', WHERE WHAT IT READS IS OF BULK AT MOST 1048576: true; the input reads as it did. -/
def fnExactPairMovesUptoRow : OpenClaim := { program := "ytgldplkbacfacaa", sum := "a3b47bb41e4122e021006428e6dcf626c2d6f5ab10f46e637b9fe771d1ca1197", func := "loop.example/g01242/laws.FnExactPairMoves", spec := "fnExactPairMoves", apart := false, narrowed := true }
def FnExactPairMovesUptoSaid : Prop := fnExactPairMovesUptoRow.holds Try.pinned (OpenSpec.upto fnExactPairMovesSpec)

/-- 'laws.FnExactEightTerms', WHERE WHAT IT READS IS OF BULK AT MOST 1048576: true; the input reads as it did. -/
def fnExactEightTermsUptoRow : OpenClaim := { program := "ytgldplkbacfacaa", sum := "a3b47bb41e4122e021006428e6dcf626c2d6f5ab10f46e637b9fe771d1ca1197", func := "loop.example/g01242/laws.FnExactEightTerms", spec := "fnExactEightTerms", apart := false, narrowed := true }
def FnExactEightTermsUptoSaid : Prop := fnExactEightTermsUptoRow.holds Try.pinned (OpenSpec.upto fnExactEightTermsSpec)

/-- 'laws.FnExactEightMoves', WHERE WHAT IT READS IS OF BULK AT MOST 1048576: true; the input reads as it did. -/
def fnExactEightMovesUptoRow : OpenClaim := { program := "ytgldplkbacfacaa", sum := "a3b47bb41e4122e021006428e6dcf626c2d6f5ab10f46e637b9fe771d1ca1197", func := "loop.example/g01242/laws.FnExactEightMoves", spec := "fnExactEightMoves", apart := false, narrowed := true }
def FnExactEightMovesUptoSaid : Prop := fnExactEightMovesUptoRow.holds Try.pinned (OpenSpec.upto fnExactEightMovesSpec)

/-- 'laws.FnPairs', WHERE WHAT IT READS IS OF BULK AT MOST 1048576: true; the input reads as it did. -/
def fnPairsUptoRow : OpenClaim := { program := "ytgldplkbacfacaa", sum := "a3b47bb41e4122e021006428e6dcf626c2d6f5ab10f46e637b9fe771d1ca1197", func := "loop.example/g01242/laws.FnPairs", spec := "fnPairs", apart := false, narrowed := true }
def FnPairsUptoSaid : Prop := fnPairsUptoRow.holds Try.pinned (OpenSpec.upto fnPairsSpec)

/-- 'laws.FnEights', WHERE WHAT IT READS IS OF BULK AT MOST 1048576: true; the input reads as it did. -/
def fnEightsUptoRow : OpenClaim := { program := "ytgldplkbacfacaa", sum := "a3b47bb41e4122e021006428e6dcf626c2d6f5ab10f46e637b9fe771d1ca1197", func := "loop.example/g01242/laws.FnEights", spec := "fnEights", apart := false, narrowed := true }
def FnEightsUptoSaid : Prop := fnEightsUptoRow.holds Try.pinned (OpenSpec.upto fnEightsSpec)

end Rows
end Go.Proofs.Ytgldplkbacfacaa
