/-
  No cell of these rows narrows 'for every input' (looked for: loops, veiled, ifaces, maps, wideKeys, modest, calm, conditions, laid).
  DERIVED. THE GIVEN ROWS OF THIS SEAT. 8 by the template 'for every input the law returns true; each argument reads behind the call as it read before'; 0 by the template 'total and deterministic' (their statements: YtbomadebdekjjaaTotals.lean).
  GIVEN WITH THE SEED: the statements are not yours to turn. If you find one false, say at which input.
  Laid BY PROGRAM, IN A SANDBOX (cutbox-rows.mjs): the forced cells as the released guide's own fill.sh prints them over the translation f4a0a3bba474b57b… (all of the seat's roots in one cut). By AI agents, Wed Nov 11 2026. No macro, syntax, notation, axiom, sorry.
-/
import Derived.Test.YtbomadebdekjjaaChecked
import GoSem.Claim
import GoSem.ClaimJoined
import GoSem.ClaimMapViews
import Derived.JoinedTies
import Derived.KernelRfl
namespace Go.Proofs.Ytbomadebdekjjaa
/- THE CELL 'sum', in the pinned program and in every row, IS THE sha256 OF THE DUMP (.gsa) THAT YtbomadebdekjjaaProg.lean LOADS. Nothing in Lean hashes anything: it is a label: what it is worth is what the hold of that sum in a sandbox is worth. -/
noncomputable def Try.pinned : Pinned := { name := "ytbomadebdekjjaa", sum := "f4a0a3bba474b57bae8f6a9725bd7980d1f857d1ad8878c8243a34143185cca6", checked := Try.checked }
namespace Rows
def none {H : Type} : Left H := { results := [], args := [] }

/-- 'laws.FnExactUnitOf': WHATEVER THE INPUT: true; the input reads as it did. -/
def fnExactUnitOfSpec : ChangeSpec := { name := "fnExactUnitOf", fn := fun _ => fun
  | [d] => { results := [.lit (.bool true)], args := [d] }
  | _ => none }
def fnExactUnitOfRow : OpenClaim := { program := "ytbomadebdekjjaa", sum := "f4a0a3bba474b57bae8f6a9725bd7980d1f857d1ad8878c8243a34143185cca6", func := "loop.example/g01242/laws.FnExactUnitOf", spec := "fnExactUnitOf", apart := false }
def FnExactUnitOfSaid : Prop := fnExactUnitOfRow.holds Try.pinned (OpenSpec.ofChange fnExactUnitOfSpec)

/-- ITS FALSE NEIGHBOUR: 'it returns false'. Refute it at one input. -/
def fnExactUnitOfWrong : ChangeSpec := { name := "fnExactUnitOf", fn := fun _ => fun
  | [d] => { results := [.lit (.bool false)], args := [d] }
  | _ => none }
def FnExactUnitOfWrongFalsely : Prop := fnExactUnitOfRow.holds Try.pinned (OpenSpec.ofChange fnExactUnitOfWrong)

/-- 'laws.FnExactRootConvergent': WHATEVER THE INPUT: true; the input reads as it did. -/
def fnExactRootConvergentSpec : ChangeSpec := { name := "fnExactRootConvergent", fn := fun _ => fun
  | [d1, d2] => { results := [.lit (.bool true)], args := [d1, d2] }
  | _ => none }
def fnExactRootConvergentRow : OpenClaim := { program := "ytbomadebdekjjaa", sum := "f4a0a3bba474b57bae8f6a9725bd7980d1f857d1ad8878c8243a34143185cca6", func := "loop.example/g01242/laws.FnExactRootConvergent", spec := "fnExactRootConvergent", apart := false }
def FnExactRootConvergentSaid : Prop := fnExactRootConvergentRow.holds Try.pinned (OpenSpec.ofChange fnExactRootConvergentSpec)

/-- ITS FALSE NEIGHBOUR: 'it returns false'. Refute it at one input. -/
def fnExactRootConvergentWrong : ChangeSpec := { name := "fnExactRootConvergent", fn := fun _ => fun
  | [d1, d2] => { results := [.lit (.bool false)], args := [d1, d2] }
  | _ => none }
def FnExactRootConvergentWrongFalsely : Prop := fnExactRootConvergentRow.holds Try.pinned (OpenSpec.ofChange fnExactRootConvergentWrong)

/-- 'laws.FnExactValueAt': WHATEVER THE INPUT: true; the input reads as it did. -/
def fnExactValueAtSpec : ChangeSpec := { name := "fnExactValueAt", fn := fun _ => fun
  | [d1, d2, d3] => { results := [.lit (.bool true)], args := [d1, d2, d3] }
  | _ => none }
def fnExactValueAtRow : OpenClaim := { program := "ytbomadebdekjjaa", sum := "f4a0a3bba474b57bae8f6a9725bd7980d1f857d1ad8878c8243a34143185cca6", func := "loop.example/g01242/laws.FnExactValueAt", spec := "fnExactValueAt", unfollowed := true, recurses := true, apart := false }
def FnExactValueAtSaid : Prop := fnExactValueAtRow.holds Try.pinned (OpenSpec.ofChange fnExactValueAtSpec)

/-- ITS FALSE NEIGHBOUR: 'it returns false'. Refute it at one input. -/
def fnExactValueAtWrong : ChangeSpec := { name := "fnExactValueAt", fn := fun _ => fun
  | [d1, d2, d3] => { results := [.lit (.bool false)], args := [d1, d2, d3] }
  | _ => none }
def FnExactValueAtWrongFalsely : Prop := fnExactValueAtRow.holds Try.pinned (OpenSpec.ofChange fnExactValueAtWrong)

/-- 'laws.FnExactSeriesTerms': WHATEVER THE INPUT: true; the input reads as it did. -/
def fnExactSeriesTermsSpec : ChangeSpec := { name := "fnExactSeriesTerms", fn := fun _ => fun
  | [d1, d2] => { results := [.lit (.bool true)], args := [d1, d2] }
  | _ => none }
def fnExactSeriesTermsRow : OpenClaim := { program := "ytbomadebdekjjaa", sum := "f4a0a3bba474b57bae8f6a9725bd7980d1f857d1ad8878c8243a34143185cca6", func := "loop.example/g01242/laws.FnExactSeriesTerms", spec := "fnExactSeriesTerms", apart := false }
def FnExactSeriesTermsSaid : Prop := fnExactSeriesTermsRow.holds Try.pinned (OpenSpec.ofChange fnExactSeriesTermsSpec)

/-- ITS FALSE NEIGHBOUR: 'it returns false'. Refute it at one input. -/
def fnExactSeriesTermsWrong : ChangeSpec := { name := "fnExactSeriesTerms", fn := fun _ => fun
  | [d1, d2] => { results := [.lit (.bool false)], args := [d1, d2] }
  | _ => none }
def FnExactSeriesTermsWrongFalsely : Prop := fnExactSeriesTermsRow.holds Try.pinned (OpenSpec.ofChange fnExactSeriesTermsWrong)

/-- 'laws.FnExactCommonPoly': WHATEVER THE INPUT: true; the input reads as it did. -/
def fnExactCommonPolySpec : ChangeSpec := { name := "fnExactCommonPoly", fn := fun _ => fun
  | [d1, d2] => { results := [.lit (.bool true)], args := [d1, d2] }
  | _ => none }
def fnExactCommonPolyRow : OpenClaim := { program := "ytbomadebdekjjaa", sum := "f4a0a3bba474b57bae8f6a9725bd7980d1f857d1ad8878c8243a34143185cca6", func := "loop.example/g01242/laws.FnExactCommonPoly", spec := "fnExactCommonPoly", unfollowed := true, recurses := true, apart := false }
def FnExactCommonPolySaid : Prop := fnExactCommonPolyRow.holds Try.pinned (OpenSpec.ofChange fnExactCommonPolySpec)

/-- ITS FALSE NEIGHBOUR: 'it returns false'. Refute it at one input. -/
def fnExactCommonPolyWrong : ChangeSpec := { name := "fnExactCommonPoly", fn := fun _ => fun
  | [d1, d2] => { results := [.lit (.bool false)], args := [d1, d2] }
  | _ => none }
def FnExactCommonPolyWrongFalsely : Prop := fnExactCommonPolyRow.holds Try.pinned (OpenSpec.ofChange fnExactCommonPolyWrong)

/-- 'laws.FnExactChainOf': WHATEVER THE INPUT: true; the input reads as it did. -/
def fnExactChainOfSpec : ChangeSpec := { name := "fnExactChainOf", fn := fun _ => fun
  | [d] => { results := [.lit (.bool true)], args := [d] }
  | _ => none }
def fnExactChainOfRow : OpenClaim := { program := "ytbomadebdekjjaa", sum := "f4a0a3bba474b57bae8f6a9725bd7980d1f857d1ad8878c8243a34143185cca6", func := "loop.example/g01242/laws.FnExactChainOf", spec := "fnExactChainOf", unfollowed := true, recurses := true, apart := false }
def FnExactChainOfSaid : Prop := fnExactChainOfRow.holds Try.pinned (OpenSpec.ofChange fnExactChainOfSpec)

/-- ITS FALSE NEIGHBOUR: 'it returns false'. Refute it at one input. -/
def fnExactChainOfWrong : ChangeSpec := { name := "fnExactChainOf", fn := fun _ => fun
  | [d] => { results := [.lit (.bool false)], args := [d] }
  | _ => none }
def FnExactChainOfWrongFalsely : Prop := fnExactChainOfRow.holds Try.pinned (OpenSpec.ofChange fnExactChainOfWrong)

/-- 'laws.FnExactTurnsAt': WHATEVER THE INPUT: true; the input reads as it did. -/
def fnExactTurnsAtSpec : ChangeSpec := { name := "fnExactTurnsAt", fn := fun _ => fun
  | [d1, d2, d3] => { results := [.lit (.bool true)], args := [d1, d2, d3] }
  | _ => none }
def fnExactTurnsAtRow : OpenClaim := { program := "ytbomadebdekjjaa", sum := "f4a0a3bba474b57bae8f6a9725bd7980d1f857d1ad8878c8243a34143185cca6", func := "loop.example/g01242/laws.FnExactTurnsAt", spec := "fnExactTurnsAt", unfollowed := true, recurses := true, apart := false }
def FnExactTurnsAtSaid : Prop := fnExactTurnsAtRow.holds Try.pinned (OpenSpec.ofChange fnExactTurnsAtSpec)

/-- ITS FALSE NEIGHBOUR: 'it returns false'. Refute it at one input. -/
def fnExactTurnsAtWrong : ChangeSpec := { name := "fnExactTurnsAt", fn := fun _ => fun
  | [d1, d2, d3] => { results := [.lit (.bool false)], args := [d1, d2, d3] }
  | _ => none }
def FnExactTurnsAtWrongFalsely : Prop := fnExactTurnsAtRow.holds Try.pinned (OpenSpec.ofChange fnExactTurnsAtWrong)

/-- 'laws.FnRoots': WHATEVER THE INPUT: true; the input reads as it did. -/
def fnRootsSpec : ChangeSpec := { name := "fnRoots", fn := fun _ => fun
  | [d] => { results := [.lit (.bool true)], args := [d] }
  | _ => none }
def fnRootsRow : OpenClaim := { program := "ytbomadebdekjjaa", sum := "f4a0a3bba474b57bae8f6a9725bd7980d1f857d1ad8878c8243a34143185cca6", func := "loop.example/g01242/laws.FnRoots", spec := "fnRoots", apart := false }
def FnRootsSaid : Prop := fnRootsRow.holds Try.pinned (OpenSpec.ofChange fnRootsSpec)

/-- ITS FALSE NEIGHBOUR: 'it returns false'. Refute it at one input. -/
def fnRootsWrong : ChangeSpec := { name := "fnRoots", fn := fun _ => fun
  | [d] => { results := [.lit (.bool false)], args := [d] }
  | _ => none }
def FnRootsWrongFalsely : Prop := fnRootsRow.holds Try.pinned (OpenSpec.ofChange fnRootsWrong)

/- THE SECOND FORM. 'bulk': how many values and letters a reading holds, each counted each time it is reached (what is shared counts as often as it is met; a slice's spare places count too). A statement '..UptoSaid' is the law's where the arguments, and the package variables that the reading takes, are together of bulk at most 1048576: NARROWER than '..Said'. Prove '..Said' where nothing that the law and all that it calls make is longer than what came in: it says more and counts as full. Else prove '..UptoSaid'. A law counts once. -/
mutual
def uptoBulk {H : Type} : DataW H → Nat
  | .lit (.string bytes) => bytes.length + 1
  | .lit _ => 1
  | .nil => 1
  | .ptr d => uptoBulk d + 1
  | .slice elems spare => uptoBulkAll elems + uptoBulkAll spare + 1
  | .agg parts => uptoBulkAll parts + 1
  | .iface _ d => uptoBulk d + 1
  | .map entries => uptoBulkEntries entries + 1
  | .held _ => 1
def uptoBulkAll {H : Type} : List (DataW H) → Nat
  | [] => 0
  | d :: r => uptoBulk d + uptoBulkAll r
def uptoBulkEntries {H : Type} : List (Lit × DataW H) → Nat
  | [] => 0
  | x :: r => uptoBulkEntry x + uptoBulkEntries r
def uptoBulkEntry {H : Type} : Lit × DataW H → Nat
  | (.string bytes, d) => bytes.length + uptoBulk d + 1
  | (_, d) => uptoBulk d + 1
 end
def uptoSmall : (H : Type) → List (DataW H) → Bool := fun _ ds => decide (uptoBulkAll ds ≤ 1048576)
def OpenSpec.upto (s : _root_.Go.ChangeSpec) : _root_.Go.OpenSpec := { _root_.Go.OpenSpec.ofChange s with cond := some uptoSmall }

/-- 'laws.FnExactUnitOf', WHERE WHAT IT READS IS OF BULK AT MOST 1048576: true; the input reads as it did. -/
def fnExactUnitOfUptoRow : OpenClaim := { program := "ytbomadebdekjjaa", sum := "f4a0a3bba474b57bae8f6a9725bd7980d1f857d1ad8878c8243a34143185cca6", func := "loop.example/g01242/laws.FnExactUnitOf", spec := "fnExactUnitOf", apart := false, narrowed := true }
def FnExactUnitOfUptoSaid : Prop := fnExactUnitOfUptoRow.holds Try.pinned (OpenSpec.upto fnExactUnitOfSpec)

/-- 'laws.FnExactRootConvergent', WHERE WHAT IT READS IS OF BULK AT MOST 1048576: true; the input reads as it did. -/
def fnExactRootConvergentUptoRow : OpenClaim := { program := "ytbomadebdekjjaa", sum := "f4a0a3bba474b57bae8f6a9725bd7980d1f857d1ad8878c8243a34143185cca6", func := "loop.example/g01242/laws.FnExactRootConvergent", spec := "fnExactRootConvergent", apart := false, narrowed := true }
def FnExactRootConvergentUptoSaid : Prop := fnExactRootConvergentUptoRow.holds Try.pinned (OpenSpec.upto fnExactRootConvergentSpec)

/-- 'laws.FnExactValueAt', WHERE WHAT IT READS IS OF BULK AT MOST 1048576: true; the input reads as it did. -/
def fnExactValueAtUptoRow : OpenClaim := { program := "ytbomadebdekjjaa", sum := "f4a0a3bba474b57bae8f6a9725bd7980d1f857d1ad8878c8243a34143185cca6", func := "loop.example/g01242/laws.FnExactValueAt", spec := "fnExactValueAt", unfollowed := true, recurses := true, apart := false, narrowed := true }
def FnExactValueAtUptoSaid : Prop := fnExactValueAtUptoRow.holds Try.pinned (OpenSpec.upto fnExactValueAtSpec)

/-- 'laws.FnExactSeriesTerms', WHERE WHAT IT READS IS OF BULK AT MOST 1048576: true; the input reads as it did. -/
def fnExactSeriesTermsUptoRow : OpenClaim := { program := "ytbomadebdekjjaa", sum := "f4a0a3bba474b57bae8f6a9725bd7980d1f857d1ad8878c8243a34143185cca6", func := "loop.example/g01242/laws.FnExactSeriesTerms", spec := "fnExactSeriesTerms", apart := false, narrowed := true }
def FnExactSeriesTermsUptoSaid : Prop := fnExactSeriesTermsUptoRow.holds Try.pinned (OpenSpec.upto fnExactSeriesTermsSpec)

/-- 'laws.FnExactCommonPoly', WHERE WHAT IT READS IS OF BULK AT MOST 1048576: true; the input reads as it did. -/
def fnExactCommonPolyUptoRow : OpenClaim := { program := "ytbomadebdekjjaa", sum := "f4a0a3bba474b57bae8f6a9725bd7980d1f857d1ad8878c8243a34143185cca6", func := "loop.example/g01242/laws.FnExactCommonPoly", spec := "fnExactCommonPoly", unfollowed := true, recurses := true, apart := false, narrowed := true }
def FnExactCommonPolyUptoSaid : Prop := fnExactCommonPolyUptoRow.holds Try.pinned (OpenSpec.upto fnExactCommonPolySpec)

/-- 'laws.FnExactChainOf', WHERE WHAT IT READS IS OF BULK AT MOST 1048576: true; the input reads as it did. -/
def fnExactChainOfUptoRow : OpenClaim := { program := "ytbomadebdekjjaa", sum := "f4a0a3bba474b57bae8f6a9725bd7980d1f857d1ad8878c8243a34143185cca6", func := "loop.example/g01242/laws.FnExactChainOf", spec := "fnExactChainOf", unfollowed := true, recurses := true, apart := false, narrowed := true }
def FnExactChainOfUptoSaid : Prop := fnExactChainOfUptoRow.holds Try.pinned (OpenSpec.upto fnExactChainOfSpec)

/-- 'laws.FnExactTurnsAt', WHERE WHAT IT READS IS OF BULK AT MOST 1048576: true; the input reads as it did. -/
def fnExactTurnsAtUptoRow : OpenClaim := { program := "ytbomadebdekjjaa", sum := "f4a0a3bba474b57bae8f6a9725bd7980d1f857d1ad8878c8243a34143185cca6", func := "loop.example/g01242/laws.FnExactTurnsAt", spec := "fnExactTurnsAt", unfollowed := true, recurses := true, apart := false, narrowed := true }
def FnExactTurnsAtUptoSaid : Prop := fnExactTurnsAtUptoRow.holds Try.pinned (OpenSpec.upto fnExactTurnsAtSpec)

/-- 'laws.FnRoots', WHERE WHAT IT READS IS OF BULK AT MOST 1048576: true; the input reads as it did. -/
def fnRootsUptoRow : OpenClaim := { program := "ytbomadebdekjjaa", sum := "f4a0a3bba474b57bae8f6a9725bd7980d1f857d1ad8878c8243a34143185cca6", func := "loop.example/g01242/laws.FnRoots", spec := "fnRoots", apart := false, narrowed := true }
def FnRootsUptoSaid : Prop := fnRootsUptoRow.holds Try.pinned (OpenSpec.upto fnRootsSpec)

end Rows
end Go.Proofs.Ytbomadebdekjjaa
