/-
  DERIVED. GIVEN WITH THE SEED: THE CARDS: each row of YtmcmhalhieejaaaGreatDoorRows.lean that lists a variable, with what it lists TIED to the program's text (the seventh form; the later family's looks); each row that meets fmt, with fmt's text TOLD by the authors' own Lean function (tested against real Go, not proved from fmt's source: count such statements apart). THE CARD IS WHAT COUNTS. Prove the row's statement (the work); the ties are given (YtmcmhalhieejaaaGreatDoorTie.lean); close each card by the builder's one call (the guide's Derived/Test/ToyasCard.lean, 'card_holds'). Laid BY PROGRAM, IN A SANDBOX (cutbox-door.mjs). By AI agents, Wed Nov 11 2026. No macro, syntax, notation, axiom, sorry.
-/
import Derived.Test.YtmcmhalhieejaaaGreatDoorRows
import GoSem.ClaimSeven
namespace Go.Proofs.YtmcmhalhieejaaaGreatDoor
namespace Rows

/-- THE TIED CARD OF 'laws.FnChgText'. -/
def fnChgTextCard : Claim7 := { stood := { row := fnChgTextRow, standIns := [], harness := (true, "334d38619e9f860c5ac6582348c87205df3b093a815563cb1bde53db0f503d50"), looks := true }, kinds := [], alts := [], laidByText := true, laidKinds := [.data, .data, .data, .data, .sentinel, .sentinel, .pinned], laidTests := true, laidLooks := .later }
def FnChgTextCardSaid : Prop := Claim7.holds Tryz.pinned (.plain (OpenSpec.ofChange fnChgTextSpec)) fnChgTextCard

/-- THE SECOND FORM's CARD OF 'laws.FnChgText'. -/
def fnChgTextUptoCard : Claim7 := { stood := { row := fnChgTextUptoRow, standIns := [], harness := (true, "334d38619e9f860c5ac6582348c87205df3b093a815563cb1bde53db0f503d50"), looks := true }, kinds := [], alts := [], laidByText := true, laidKinds := [.data, .data, .data, .data, .sentinel, .sentinel, .pinned], laidTests := true, laidLooks := .later }
def FnChgTextUptoCardSaid : Prop := Claim7.holds Tryz.pinned (.plain (OpenSpec.upto fnChgTextSpec)) fnChgTextUptoCard
end Rows
end Go.Proofs.YtmcmhalhieejaaaGreatDoor
