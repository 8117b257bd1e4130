/-
  No cell of these rows narrows 'for every input' (looked for: loops, veiled, ifaces, maps, wideKeys, modest, calm, conditions, laid).
  DERIVED. THE GIVEN ROWS OF THIS SEAT. 12 by the template 'for every input the law returns true; each argument reads behind the call as it read before'; 0 by the template 'total and deterministic' (their statements: YtlccefmimpmgjaaTotals.lean).
  GIVEN WITH THE SEED: the statements are not yours to turn. If you find one false, say at which input.
  Laid BY PROGRAM, IN A SANDBOX (cutbox-rows.mjs): the forced cells as the released guide's own fill.sh prints them over the translation 7219a184a57772ac… (all of the seat's roots in one cut). By AI agents, Wed Nov 11 2026. No macro, syntax, notation, axiom, sorry.
-/
import Derived.Test.YtlccefmimpmgjaaChecked
import GoSem.Claim
import GoSem.ClaimJoined
import GoSem.ClaimMapViews
import Derived.JoinedTies
import Derived.KernelRfl
namespace Go.Proofs.Ytlccefmimpmgjaa
/- THE CELL 'sum', in the pinned program and in every row, IS THE sha256 OF THE DUMP (.gsa) THAT YtlccefmimpmgjaaProg.lean LOADS. Nothing in Lean hashes anything: it is a label: what it is worth is what the hold of that sum in a sandbox is worth. -/
noncomputable def Try.pinned : Pinned := { name := "ytlccefmimpmgjaa", sum := "7219a184a57772acc44194292a860a9aa0fed11317b231294997a0c59c449225", checked := Try.checked }
namespace Rows
def none {H : Type} : Left H := { results := [], args := [] }

/-- 'laws.FnExactEchoTree': WHATEVER THE INPUT: true; the input reads as it did. -/
def fnExactEchoTreeSpec : ChangeSpec := { name := "fnExactEchoTree", fn := fun _ => fun
  | [] => { results := [.lit (.bool true)], args := [] }
  | _ => none }
def fnExactEchoTreeRow : OpenClaim := { program := "ytlccefmimpmgjaa", sum := "7219a184a57772acc44194292a860a9aa0fed11317b231294997a0c59c449225", func := "loop.example/g01242/laws.FnExactEchoTree", spec := "fnExactEchoTree", apart := false }
def FnExactEchoTreeSaid : Prop := fnExactEchoTreeRow.holds Try.pinned (OpenSpec.ofChange fnExactEchoTreeSpec)

/-- ITS FALSE NEIGHBOUR: 'it returns false'. Refute it at one input. -/
def fnExactEchoTreeWrong : ChangeSpec := { name := "fnExactEchoTree", fn := fun _ => fun
  | [] => { results := [.lit (.bool false)], args := [] }
  | _ => none }
def FnExactEchoTreeWrongFalsely : Prop := fnExactEchoTreeRow.holds Try.pinned (OpenSpec.ofChange fnExactEchoTreeWrong)

/-- 'laws.FnExactHalfTree': WHATEVER THE INPUT: true; the input reads as it did. -/
def fnExactHalfTreeSpec : ChangeSpec := { name := "fnExactHalfTree", fn := fun _ => fun
  | [] => { results := [.lit (.bool true)], args := [] }
  | _ => none }
def fnExactHalfTreeRow : OpenClaim := { program := "ytlccefmimpmgjaa", sum := "7219a184a57772acc44194292a860a9aa0fed11317b231294997a0c59c449225", func := "loop.example/g01242/laws.FnExactHalfTree", spec := "fnExactHalfTree", apart := false }
def FnExactHalfTreeSaid : Prop := fnExactHalfTreeRow.holds Try.pinned (OpenSpec.ofChange fnExactHalfTreeSpec)

/-- ITS FALSE NEIGHBOUR: 'it returns false'. Refute it at one input. -/
def fnExactHalfTreeWrong : ChangeSpec := { name := "fnExactHalfTree", fn := fun _ => fun
  | [] => { results := [.lit (.bool false)], args := [] }
  | _ => none }
def FnExactHalfTreeWrongFalsely : Prop := fnExactHalfTreeRow.holds Try.pinned (OpenSpec.ofChange fnExactHalfTreeWrong)

/-- 'laws.FnExactNegTree': WHATEVER THE INPUT: true; the input reads as it did. -/
def fnExactNegTreeSpec : ChangeSpec := { name := "fnExactNegTree", fn := fun _ => fun
  | [] => { results := [.lit (.bool true)], args := [] }
  | _ => none }
def fnExactNegTreeRow : OpenClaim := { program := "ytlccefmimpmgjaa", sum := "7219a184a57772acc44194292a860a9aa0fed11317b231294997a0c59c449225", func := "loop.example/g01242/laws.FnExactNegTree", spec := "fnExactNegTree", apart := false }
def FnExactNegTreeSaid : Prop := fnExactNegTreeRow.holds Try.pinned (OpenSpec.ofChange fnExactNegTreeSpec)

/-- ITS FALSE NEIGHBOUR: 'it returns false'. Refute it at one input. -/
def fnExactNegTreeWrong : ChangeSpec := { name := "fnExactNegTree", fn := fun _ => fun
  | [] => { results := [.lit (.bool false)], args := [] }
  | _ => none }
def FnExactNegTreeWrongFalsely : Prop := fnExactNegTreeRow.holds Try.pinned (OpenSpec.ofChange fnExactNegTreeWrong)

/-- 'laws.FnExactSameTree': WHATEVER THE INPUT: true; the input reads as it did. -/
def fnExactSameTreeSpec : ChangeSpec := { name := "fnExactSameTree", fn := fun _ => fun
  | [d1, d2] => { results := [.lit (.bool true)], args := [d1, d2] }
  | _ => none }
def fnExactSameTreeRow : OpenClaim := { program := "ytlccefmimpmgjaa", sum := "7219a184a57772acc44194292a860a9aa0fed11317b231294997a0c59c449225", func := "loop.example/g01242/laws.FnExactSameTree", spec := "fnExactSameTree", apart := false }
def FnExactSameTreeSaid : Prop := fnExactSameTreeRow.holds Try.pinned (OpenSpec.ofChange fnExactSameTreeSpec)

/-- ITS FALSE NEIGHBOUR: 'it returns false'. Refute it at one input. -/
def fnExactSameTreeWrong : ChangeSpec := { name := "fnExactSameTree", fn := fun _ => fun
  | [d1, d2] => { results := [.lit (.bool false)], args := [d1, d2] }
  | _ => none }
def FnExactSameTreeWrongFalsely : Prop := fnExactSameTreeRow.holds Try.pinned (OpenSpec.ofChange fnExactSameTreeWrong)

/-- 'laws.FnExactValidTree': WHATEVER THE INPUT: true; the input reads as it did. -/
def fnExactValidTreeSpec : ChangeSpec := { name := "fnExactValidTree", fn := fun _ => fun
  | [d] => { results := [.lit (.bool true)], args := [d] }
  | _ => none }
def fnExactValidTreeRow : OpenClaim := { program := "ytlccefmimpmgjaa", sum := "7219a184a57772acc44194292a860a9aa0fed11317b231294997a0c59c449225", func := "loop.example/g01242/laws.FnExactValidTree", spec := "fnExactValidTree", unfollowed := true, recurses := true, apart := false }
def FnExactValidTreeSaid : Prop := fnExactValidTreeRow.holds Try.pinned (OpenSpec.ofChange fnExactValidTreeSpec)

/-- ITS FALSE NEIGHBOUR: 'it returns false'. Refute it at one input. -/
def fnExactValidTreeWrong : ChangeSpec := { name := "fnExactValidTree", fn := fun _ => fun
  | [d] => { results := [.lit (.bool false)], args := [d] }
  | _ => none }
def FnExactValidTreeWrongFalsely : Prop := fnExactValidTreeRow.holds Try.pinned (OpenSpec.ofChange fnExactValidTreeWrong)

/-- 'laws.FnExactIsProductive': WHATEVER THE INPUT: true; the input reads as it did. -/
def fnExactIsProductiveSpec : ChangeSpec := { name := "fnExactIsProductive", fn := fun _ => fun
  | [d] => { results := [.lit (.bool true)], args := [d] }
  | _ => none }
def fnExactIsProductiveRow : OpenClaim := { program := "ytlccefmimpmgjaa", sum := "7219a184a57772acc44194292a860a9aa0fed11317b231294997a0c59c449225", func := "loop.example/g01242/laws.FnExactIsProductive", spec := "fnExactIsProductive", unfollowed := true, recurses := true, apart := false }
def FnExactIsProductiveSaid : Prop := fnExactIsProductiveRow.holds Try.pinned (OpenSpec.ofChange fnExactIsProductiveSpec)

/-- ITS FALSE NEIGHBOUR: 'it returns false'. Refute it at one input. -/
def fnExactIsProductiveWrong : ChangeSpec := { name := "fnExactIsProductive", fn := fun _ => fun
  | [d] => { results := [.lit (.bool false)], args := [d] }
  | _ => none }
def FnExactIsProductiveWrongFalsely : Prop := fnExactIsProductiveRow.holds Try.pinned (OpenSpec.ofChange fnExactIsProductiveWrong)

/-- 'laws.FnExactReachedTree': WHATEVER THE INPUT: true; the input reads as it did. -/
def fnExactReachedTreeSpec : ChangeSpec := { name := "fnExactReachedTree", fn := fun _ => fun
  | [d] => { results := [.lit (.bool true)], args := [d] }
  | _ => none }
def fnExactReachedTreeRow : OpenClaim := { program := "ytlccefmimpmgjaa", sum := "7219a184a57772acc44194292a860a9aa0fed11317b231294997a0c59c449225", func := "loop.example/g01242/laws.FnExactReachedTree", spec := "fnExactReachedTree", unfollowed := true, recurses := true, apart := false }
def FnExactReachedTreeSaid : Prop := fnExactReachedTreeRow.holds Try.pinned (OpenSpec.ofChange fnExactReachedTreeSpec)

/-- ITS FALSE NEIGHBOUR: 'it returns false'. Refute it at one input. -/
def fnExactReachedTreeWrong : ChangeSpec := { name := "fnExactReachedTree", fn := fun _ => fun
  | [d] => { results := [.lit (.bool false)], args := [d] }
  | _ => none }
def FnExactReachedTreeWrongFalsely : Prop := fnExactReachedTreeRow.holds Try.pinned (OpenSpec.ofChange fnExactReachedTreeWrong)

/-- 'laws.FnExactEightTerms': WHATEVER THE INPUT: true; the input reads as it did. -/
def fnExactEightTermsSpec : ChangeSpec := { name := "fnExactEightTerms", fn := fun _ => fun
  | [d1, d2, d3] => { results := [.lit (.bool true)], args := [d1, d2, d3] }
  | _ => none }
def fnExactEightTermsRow : OpenClaim := { program := "ytlccefmimpmgjaa", sum := "7219a184a57772acc44194292a860a9aa0fed11317b231294997a0c59c449225", func := "loop.example/g01242/laws.FnExactEightTerms", spec := "fnExactEightTerms", apart := false }
def FnExactEightTermsSaid : Prop := fnExactEightTermsRow.holds Try.pinned (OpenSpec.ofChange fnExactEightTermsSpec)

/-- ITS FALSE NEIGHBOUR: 'it returns false'. Refute it at one input. -/
def fnExactEightTermsWrong : ChangeSpec := { name := "fnExactEightTerms", fn := fun _ => fun
  | [d1, d2, d3] => { results := [.lit (.bool false)], args := [d1, d2, d3] }
  | _ => none }
def FnExactEightTermsWrongFalsely : Prop := fnExactEightTermsRow.holds Try.pinned (OpenSpec.ofChange fnExactEightTermsWrong)

/-- 'laws.FnExactEightMoves': WHATEVER THE INPUT: true; the input reads as it did. -/
def fnExactEightMovesSpec : ChangeSpec := { name := "fnExactEightMoves", fn := fun _ => fun
  | [d1, d2, d3] => { results := [.lit (.bool true)], args := [d1, d2, d3] }
  | _ => none }
def fnExactEightMovesRow : OpenClaim := { program := "ytlccefmimpmgjaa", sum := "7219a184a57772acc44194292a860a9aa0fed11317b231294997a0c59c449225", func := "loop.example/g01242/laws.FnExactEightMoves", spec := "fnExactEightMoves", apart := false }
def FnExactEightMovesSaid : Prop := fnExactEightMovesRow.holds Try.pinned (OpenSpec.ofChange fnExactEightMovesSpec)

/-- ITS FALSE NEIGHBOUR: 'it returns false'. Refute it at one input. -/
def fnExactEightMovesWrong : ChangeSpec := { name := "fnExactEightMoves", fn := fun _ => fun
  | [d1, d2, d3] => { results := [.lit (.bool false)], args := [d1, d2, d3] }
  | _ => none }
def FnExactEightMovesWrongFalsely : Prop := fnExactEightMovesRow.holds Try.pinned (OpenSpec.ofChange fnExactEightMovesWrong)

/-- 'laws.FnExactUnitOf': WHATEVER THE INPUT: true; the input reads as it did. -/
def fnExactUnitOfSpec : ChangeSpec := { name := "fnExactUnitOf", fn := fun _ => fun
  | [d] => { results := [.lit (.bool true)], args := [d] }
  | _ => none }
def fnExactUnitOfRow : OpenClaim := { program := "ytlccefmimpmgjaa", sum := "7219a184a57772acc44194292a860a9aa0fed11317b231294997a0c59c449225", func := "loop.example/g01242/laws.FnExactUnitOf", spec := "fnExactUnitOf", apart := false }
def FnExactUnitOfSaid : Prop := fnExactUnitOfRow.holds Try.pinned (OpenSpec.ofChange fnExactUnitOfSpec)

/-- ITS FALSE NEIGHBOUR: 'it returns false'. Refute it at one input. -/
def fnExactUnitOfWrong : ChangeSpec := { name := "fnExactUnitOf", fn := fun _ => fun
  | [d] => { results := [.lit (.bool false)], args := [d] }
  | _ => none }
def FnExactUnitOfWrongFalsely : Prop := fnExactUnitOfRow.holds Try.pinned (OpenSpec.ofChange fnExactUnitOfWrong)

/-- 'laws.FnExactRootConvergent': WHATEVER THE INPUT: true; the input reads as it did. -/
def fnExactRootConvergentSpec : ChangeSpec := { name := "fnExactRootConvergent", fn := fun _ => fun
  | [d1, d2] => { results := [.lit (.bool true)], args := [d1, d2] }
  | _ => none }
def fnExactRootConvergentRow : OpenClaim := { program := "ytlccefmimpmgjaa", sum := "7219a184a57772acc44194292a860a9aa0fed11317b231294997a0c59c449225", func := "loop.example/g01242/laws.FnExactRootConvergent", spec := "fnExactRootConvergent", apart := false }
def FnExactRootConvergentSaid : Prop := fnExactRootConvergentRow.holds Try.pinned (OpenSpec.ofChange fnExactRootConvergentSpec)

/-- ITS FALSE NEIGHBOUR: 'it returns false'. Refute it at one input. -/
def fnExactRootConvergentWrong : ChangeSpec := { name := "fnExactRootConvergent", fn := fun _ => fun
  | [d1, d2] => { results := [.lit (.bool false)], args := [d1, d2] }
  | _ => none }
def FnExactRootConvergentWrongFalsely : Prop := fnExactRootConvergentRow.holds Try.pinned (OpenSpec.ofChange fnExactRootConvergentWrong)

/-- 'laws.FnExactValueAt': WHATEVER THE INPUT: true; the input reads as it did. -/
def fnExactValueAtSpec : ChangeSpec := { name := "fnExactValueAt", fn := fun _ => fun
  | [d1, d2, d3] => { results := [.lit (.bool true)], args := [d1, d2, d3] }
  | _ => none }
def fnExactValueAtRow : OpenClaim := { program := "ytlccefmimpmgjaa", sum := "7219a184a57772acc44194292a860a9aa0fed11317b231294997a0c59c449225", func := "loop.example/g01242/laws.FnExactValueAt", spec := "fnExactValueAt", unfollowed := true, recurses := true, apart := false }
def FnExactValueAtSaid : Prop := fnExactValueAtRow.holds Try.pinned (OpenSpec.ofChange fnExactValueAtSpec)

/-- ITS FALSE NEIGHBOUR: 'it returns false'. Refute it at one input. -/
def fnExactValueAtWrong : ChangeSpec := { name := "fnExactValueAt", fn := fun _ => fun
  | [d1, d2, d3] => { results := [.lit (.bool false)], args := [d1, d2, d3] }
  | _ => none }
def FnExactValueAtWrongFalsely : Prop := fnExactValueAtRow.holds Try.pinned (OpenSpec.ofChange fnExactValueAtWrong)

/- THE SECOND FORM. 'bulk': how many values and letters a reading holds, each counted each time it is reached (what is shared counts as often as it is met; a slice's spare places count too). A statement '..UptoSaid' is the law's where the arguments, and the package variables that the reading takes, are together of bulk at most 1048576: NARROWER than '..Said'. Prove '..Said' where nothing that the law and all that it calls make is longer than what came in: it says more and counts as full. Else prove '..UptoSaid'. A law counts once. -/
mutual
def uptoBulk {H : Type} : DataW H → Nat
  | .lit (.string bytes) => bytes.length + 1
  | .lit _ => 1
  | .nil => 1
  | .ptr d => uptoBulk d + 1
  | .slice elems spare => uptoBulkAll elems + uptoBulkAll spare + 1
  | .agg parts => uptoBulkAll parts + 1
  | .iface _ d => uptoBulk d + 1
  | .map entries => uptoBulkEntries entries + 1
  | .held _ => 1
def uptoBulkAll {H : Type} : List (DataW H) → Nat
  | [] => 0
  | d :: r => uptoBulk d + uptoBulkAll r
def uptoBulkEntries {H : Type} : List (Lit × DataW H) → Nat
  | [] => 0
  | x :: r => uptoBulkEntry x + uptoBulkEntries r
def uptoBulkEntry {H : Type} : Lit × DataW H → Nat
  | (.string bytes, d) => bytes.length + uptoBulk d + 1
  | (_, d) => uptoBulk d + 1
 end
def uptoSmall : (H : Type) → List (DataW H) → Bool := fun _ ds => decide (uptoBulkAll ds ≤ 1048576)
def OpenSpec.upto (s : _root_.Go.ChangeSpec) : _root_.Go.OpenSpec := { _root_.Go.OpenSpec.ofChange s with cond := some uptoSmall }

/-- 'laws.FnExactEchoTree', WHERE WHAT IT READS IS OF BULK AT MOST 1048576: true; the input reads as it did. -/
def fnExactEchoTreeUptoRow : OpenClaim := { program := "ytlccefmimpmgjaa", sum := "7219a184a57772acc44194292a860a9aa0fed11317b231294997a0c59c449225", func := "loop.example/g01242/laws.FnExactEchoTree", spec := "fnExactEchoTree", apart := false, narrowed := true }
def FnExactEchoTreeUptoSaid : Prop := fnExactEchoTreeUptoRow.holds Try.pinned (OpenSpec.upto fnExactEchoTreeSpec)

/-- 'laws.FnExactHalfTree', WHERE WHAT IT READS IS OF BULK AT MOST 1048576: true; the input reads as it did. -/
def fnExactHalfTreeUptoRow : OpenClaim := { program := "ytlccefmimpmgjaa", sum := "7219a184a57772acc44194292a860a9aa0fed11317b231294997a0c59c449225", func := "loop.example/g01242/laws.FnExactHalfTree", spec := "fnExactHalfTree", apart := false, narrowed := true }
def FnExactHalfTreeUptoSaid : Prop := fnExactHalfTreeUptoRow.holds Try.pinned (OpenSpec.upto fnExactHalfTreeSpec)

/-- 'laws.FnExactNegTree', WHERE WHAT IT READS IS OF BULK AT MOST 1048576: true; the input reads as it did. -/
def fnExactNegTreeUptoRow : OpenClaim := { program := "ytlccefmimpmgjaa", sum := "7219a184a57772acc44194292a860a9aa0fed11317b231294997a0c59c449225", func := "loop.example/g01242/laws.FnExactNegTree", spec := "fnExactNegTree", apart := false, narrowed := true }
def FnExactNegTreeUptoSaid : Prop := fnExactNegTreeUptoRow.holds Try.pinned (OpenSpec.upto fnExactNegTreeSpec)

/-- 'laws.FnExactSameTree', WHERE WHAT IT READS IS OF BULK AT MOST 1048576: true; the input reads as it did. -/
def fnExactSameTreeUptoRow : OpenClaim := { program := "ytlccefmimpmgjaa", sum := "7219a184a57772acc44194292a860a9aa0fed11317b231294997a0c59c449225", func := "loop.example/g01242/laws.FnExactSameTree", spec := "fnExactSameTree", apart := false, narrowed := true }
def FnExactSameTreeUptoSaid : Prop := fnExactSameTreeUptoRow.holds Try.pinned (OpenSpec.upto fnExactSameTreeSpec)

/-- 'laws.FnExactValidTree', WHERE WHAT IT READS IS OF BULK AT MOST 1048576: true; the input reads as it did. -/
def fnExactValidTreeUptoRow : OpenClaim := { program := "ytlccefmimpmgjaa", sum := "7219a184a57772acc44194292a860a9aa0fed11317b231294997a0c59c449225", func := "loop.example/g01242/laws.FnExactValidTree", spec := "fnExactValidTree", unfollowed := true, recurses := true, apart := false, narrowed := true }
def FnExactValidTreeUptoSaid : Prop := fnExactValidTreeUptoRow.holds Try.pinned (OpenSpec.upto fnExactValidTreeSpec)

/-- 'laws.FnExactIsProductive', WHERE WHAT IT READS IS OF BULK AT MOST 1048576: true; the input reads as it did. -/
def fnExactIsProductiveUptoRow : OpenClaim := { program := "ytlccefmimpmgjaa", sum := "7219a184a57772acc44194292a860a9aa0fed11317b231294997a0c59c449225", func := "loop.example/g01242/laws.FnExactIsProductive", spec := "fnExactIsProductive", unfollowed := true, recurses := true, apart := false, narrowed := true }
def FnExactIsProductiveUptoSaid : Prop := fnExactIsProductiveUptoRow.holds Try.pinned (OpenSpec.upto fnExactIsProductiveSpec)

/-- 'laws.FnExactReachedTree', WHERE WHAT IT READS IS OF BULK AT MOST 1048576: true; the input reads as it did. -/
def fnExactReachedTreeUptoRow : OpenClaim := { program := "ytlccefmimpmgjaa", sum := "7219a184a57772acc44194292a860a9aa0fed11317b231294997a0c59c449225", func := "loop.example/g01242/laws.FnExactReachedTree", spec := "fnExactReachedTree", unfollowed := true, recurses := true, apart := false, narrowed := true }
def FnExactReachedTreeUptoSaid : Prop := fnExactReachedTreeUptoRow.holds Try.pinned (OpenSpec.upto fnExactReachedTreeSpec)

/-- 'laws.FnExactEightTerms', WHERE WHAT IT READS IS OF BULK AT MOST 1048576: true; the input reads as it did. -/
def fnExactEightTermsUptoRow : OpenClaim := { program := "ytlccefmimpmgjaa", sum := "7219a184a57772acc44194292a860a9aa0fed11317b231294997a0c59c449225", func := "loop.example/g01242/laws.FnExactEightTerms", spec := "fnExactEightTerms", apart := false, narrowed := true }
def FnExactEightTermsUptoSaid : Prop := fnExactEightTermsUptoRow.holds Try.pinned (OpenSpec.upto fnExactEightTermsSpec)

/-- 'laws.FnExactEightMoves', WHERE WHAT IT READS IS OF BULK AT MOST 1048576: true; the input reads as it did. -/
def fnExactEightMovesUptoRow : OpenClaim := { program := "ytlccefmimpmgjaa", sum := "7219a184a57772acc44194292a860a9aa0fed11317b231294997a0c59c449225", func := "loop.example/g01242/laws.FnExactEightMoves", spec := "fnExactEightMoves", apart := false, narrowed := true }
def FnExactEightMovesUptoSaid : Prop := fnExactEightMovesUptoRow.holds Try.pinned (OpenSpec.upto fnExactEightMovesSpec)

/-- 'laws.FnExactUnitOf', WHERE WHAT IT READS IS OF BULK AT MOST 1048576: true; the input reads as it did. -/
def fnExactUnitOfUptoRow : OpenClaim := { program := "ytlccefmimpmgjaa", sum := "7219a184a57772acc44194292a860a9aa0fed11317b231294997a0c59c449225", func := "loop.example/g01242/laws.FnExactUnitOf", spec := "fnExactUnitOf", apart := false, narrowed := true }
def FnExactUnitOfUptoSaid : Prop := fnExactUnitOfUptoRow.holds Try.pinned (OpenSpec.upto fnExactUnitOfSpec)

/-- 'laws.FnExactRootConvergent', WHERE WHAT IT READS IS OF BULK AT MOST 1048576: true; the input reads as it did. -/
def fnExactRootConvergentUptoRow : OpenClaim := { program := "ytlccefmimpmgjaa", sum := "7219a184a57772acc44194292a860a9aa0fed11317b231294997a0c59c449225", func := "loop.example/g01242/laws.FnExactRootConvergent", spec := "fnExactRootConvergent", apart := false, narrowed := true }
def FnExactRootConvergentUptoSaid : Prop := fnExactRootConvergentUptoRow.holds Try.pinned (OpenSpec.upto fnExactRootConvergentSpec)

/-- 'laws.FnExactValueAt', WHERE WHAT IT READS IS OF BULK AT MOST 1048576: true; the input reads as it did. -/
def fnExactValueAtUptoRow : OpenClaim := { program := "ytlccefmimpmgjaa", sum := "7219a184a57772acc44194292a860a9aa0fed11317b231294997a0c59c449225", func := "loop.example/g01242/laws.FnExactValueAt", spec := "fnExactValueAt", unfollowed := true, recurses := true, apart := false, narrowed := true }
def FnExactValueAtUptoSaid : Prop := fnExactValueAtUptoRow.holds Try.pinned (OpenSpec.upto fnExactValueAtSpec)

end Rows
end Go.Proofs.Ytlccefmimpmgjaa
