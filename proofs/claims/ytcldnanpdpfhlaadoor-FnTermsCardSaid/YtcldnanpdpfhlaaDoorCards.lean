/-
  DERIVED. GIVEN WITH THE SEED: THE CARDS: each row of YtcldnanpdpfhlaaDoorRows.lean that lists a variable, with what it lists TIED to the program's text (the seventh form; the later family's looks); each row that meets fmt, with fmt's text TOLD by the authors' own Lean function (tested against real Go, not proved from fmt's source: count such statements apart). THE CARD IS WHAT COUNTS. Prove the row's statement (the work); the ties are given (YtcldnanpdpfhlaaDoorTie.lean); close each card by the builder's one call (the guide's Derived/Test/ToyasCard.lean, 'card_holds'). Laid BY PROGRAM, IN A SANDBOX (cutbox-door.mjs). By AI agents, Wed Nov 11 2026. No macro, syntax, notation, axiom, sorry.
-/
import Derived.Test.YtcldnanpdpfhlaaDoorRows
import GoSem.ClaimSeven
namespace Go.Proofs.YtcldnanpdpfhlaaDoor
namespace Rows

/-- THE TIED CARD OF 'laws.FnNearest'. -/
def fnNearestCard : Claim7 := { stood := { row := fnNearestRow, standIns := [], harness := (true, "1201af3ff4240e41202f40837f88767e98375ad43b997da2a568034a1b976f6e"), looks := true }, kinds := [], alts := [], laidByText := true, laidKinds := [.data, .pinned], laidTests := true, laidLooks := .later }
def FnNearestCardSaid : Prop := Claim7.holds Tryd.pinned (.plain (OpenSpec.ofChange fnNearestSpec)) fnNearestCard

/-- THE TIED CARD OF 'laws.FnTerms'. -/
def fnTermsCard : Claim7 := { stood := { row := fnTermsRow, standIns := [], harness := (true, "1201af3ff4240e41202f40837f88767e98375ad43b997da2a568034a1b976f6e"), looks := true }, kinds := [], alts := [], laidByText := true, laidKinds := [.data, .data, .data, .data, .sentinel, .sentinel, .pinned], laidTests := true, laidLooks := .later }
def FnTermsCardSaid : Prop := Claim7.holds Tryd.pinned (.plain (OpenSpec.ofChange fnTermsSpec)) fnTermsCard

/-- THE SECOND FORM's CARD OF 'laws.FnNearest'. -/
def fnNearestUptoCard : Claim7 := { stood := { row := fnNearestUptoRow, standIns := [], harness := (true, "1201af3ff4240e41202f40837f88767e98375ad43b997da2a568034a1b976f6e"), looks := true }, kinds := [], alts := [], laidByText := true, laidKinds := [.data, .pinned], laidTests := true, laidLooks := .later }
def FnNearestUptoCardSaid : Prop := Claim7.holds Tryd.pinned (.plain (OpenSpec.upto fnNearestSpec)) fnNearestUptoCard

/-- THE SECOND FORM's CARD OF 'laws.FnTerms'. -/
def fnTermsUptoCard : Claim7 := { stood := { row := fnTermsUptoRow, standIns := [], harness := (true, "1201af3ff4240e41202f40837f88767e98375ad43b997da2a568034a1b976f6e"), looks := true }, kinds := [], alts := [], laidByText := true, laidKinds := [.data, .data, .data, .data, .sentinel, .sentinel, .pinned], laidTests := true, laidLooks := .later }
def FnTermsUptoCardSaid : Prop := Claim7.holds Tryd.pinned (.plain (OpenSpec.upto fnTermsSpec)) fnTermsUptoCard
end Rows
end Go.Proofs.YtcldnanpdpfhlaaDoor
