/-
  DERIVED. GIVEN WITH THE SEED: THE CARDS: each row of YtaamlhmabgiehaaDoorRows.lean that lists a variable, with what it lists TIED to the program's text (the seventh form; the later family's looks); each row that meets fmt, with fmt's text TOLD by the authors' own Lean function (tested against real Go, not proved from fmt's source: count such statements apart). THE CARD IS WHAT COUNTS. Prove the row's statement (the work); the ties are given (YtaamlhmabgiehaaDoorTie.lean); close each card by the builder's one call (the guide's Derived/Test/ToyasCard.lean, 'card_holds'). Laid BY PROGRAM, IN A SANDBOX (cutbox-door.mjs). By AI agents, Wed Nov 11 2026. No macro, syntax, notation, axiom, sorry.
-/
import Derived.Test.YtaamlhmabgiehaaDoorRows
import GoSem.ClaimSeven
namespace Go.Proofs.YtaamlhmabgiehaaDoor
namespace Rows

/-- THE TIED CARD OF 'laws.FnExactTermsText'. -/
def fnExactTermsTextCard : Claim7 := { stood := { row := fnExactTermsTextRow, standIns := [], harness := (true, "084304bd56c128ce099a88d62e2d546e76842c7cc3d1cae39e325b9c98ad570b"), looks := false }, kinds := [], alts := [], laidByText := true, laidKinds := [.data, .data, .data], laidTests := true, laidLooks := .later }
def FnExactTermsTextCardSaid : Prop := Claim7.holds Tryd.pinned (.plain (OpenSpec.ofChange fnExactTermsTextSpec)) fnExactTermsTextCard

/-- THE TIED CARD OF 'laws.FnExactRatioOfPath'. -/
def fnExactRatioOfPathCard : Claim7 := { stood := { row := fnExactRatioOfPathRow, standIns := [], harness := (true, "084304bd56c128ce099a88d62e2d546e76842c7cc3d1cae39e325b9c98ad570b"), looks := false }, kinds := [], alts := [], laidByText := true, laidKinds := [.data, .pinned], laidTests := true, laidLooks := .later }
def FnExactRatioOfPathCardSaid : Prop := Claim7.holds Tryd.pinned (.plain (OpenSpec.ofChange fnExactRatioOfPathSpec)) fnExactRatioOfPathCard

/-- THE SECOND FORM's CARD OF 'laws.FnExactTermsText'. -/
def fnExactTermsTextUptoCard : Claim7 := { stood := { row := fnExactTermsTextUptoRow, standIns := [], harness := (true, "084304bd56c128ce099a88d62e2d546e76842c7cc3d1cae39e325b9c98ad570b"), looks := false }, kinds := [], alts := [], laidByText := true, laidKinds := [.data, .data, .data], laidTests := true, laidLooks := .later }
def FnExactTermsTextUptoCardSaid : Prop := Claim7.holds Tryd.pinned (.plain (OpenSpec.upto fnExactTermsTextSpec)) fnExactTermsTextUptoCard

/-- THE SECOND FORM's CARD OF 'laws.FnExactRatioOfPath'. -/
def fnExactRatioOfPathUptoCard : Claim7 := { stood := { row := fnExactRatioOfPathUptoRow, standIns := [], harness := (true, "084304bd56c128ce099a88d62e2d546e76842c7cc3d1cae39e325b9c98ad570b"), looks := false }, kinds := [], alts := [], laidByText := true, laidKinds := [.data, .pinned], laidTests := true, laidLooks := .later }
def FnExactRatioOfPathUptoCardSaid : Prop := Claim7.holds Tryd.pinned (.plain (OpenSpec.upto fnExactRatioOfPathSpec)) fnExactRatioOfPathUptoCard
end Rows
end Go.Proofs.YtaamlhmabgiehaaDoor
