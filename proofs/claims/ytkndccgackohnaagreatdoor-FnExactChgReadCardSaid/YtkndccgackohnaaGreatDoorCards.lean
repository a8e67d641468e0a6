/-
  DERIVED. GIVEN WITH THE SEED: THE CARDS: each row of YtkndccgackohnaaGreatDoorRows.lean that lists a variable, with what it lists TIED to the program's text (the seventh form; the later family's looks); each row that meets fmt, with fmt's text TOLD by the authors' own Lean function (tested against real Go, not proved from fmt's source: count such statements apart). THE CARD IS WHAT COUNTS. Prove the row's statement (the work); the ties are given (YtkndccgackohnaaGreatDoorTie.lean); close each card by the builder's one call (the guide's Derived/Test/ToyasCard.lean, 'card_holds'). Laid BY PROGRAM, IN A SANDBOX (cutbox-door.mjs). By AI agents, Wed Nov 11 2026. No macro, syntax, notation, axiom, sorry.
-/
import Derived.Test.YtkndccgackohnaaGreatDoorRows
import GoSem.ClaimSeven
namespace Go.Proofs.YtkndccgackohnaaGreatDoor
namespace Rows

/-- THE TIED CARD OF 'laws.FnExactChgRead'. -/
def fnExactChgReadCard : Claim7 := { stood := { row := fnExactChgReadRow, standIns := [], harness := (true, "acd9e34f737fe207812fef665bc3e61e8d2290356e029217a2873f965666fdc9"), looks := true }, kinds := [], alts := [], laidByText := true, laidKinds := [.data, .data, .data, .data, .sentinel, .sentinel, .pinned], laidTests := true, laidLooks := .later }
def FnExactChgReadCardSaid : Prop := Claim7.holds Tryz.pinned (.plain (OpenSpec.ofChange fnExactChgReadSpec)) fnExactChgReadCard

/-- THE TIED CARD OF 'laws.FnChgText'. -/
def fnChgTextCard : Claim7 := { stood := { row := fnChgTextRow, standIns := [], harness := (true, "acd9e34f737fe207812fef665bc3e61e8d2290356e029217a2873f965666fdc9"), looks := true }, kinds := [], alts := [], laidByText := true, laidKinds := [.data, .data, .data, .data, .sentinel, .sentinel, .pinned], laidTests := true, laidLooks := .later }
def FnChgTextCardSaid : Prop := Claim7.holds Tryz.pinned (.plain (OpenSpec.ofChange fnChgTextSpec)) fnChgTextCard

/-- THE SECOND FORM's CARD OF 'laws.FnExactChgRead'. -/
def fnExactChgReadUptoCard : Claim7 := { stood := { row := fnExactChgReadUptoRow, standIns := [], harness := (true, "acd9e34f737fe207812fef665bc3e61e8d2290356e029217a2873f965666fdc9"), looks := true }, kinds := [], alts := [], laidByText := true, laidKinds := [.data, .data, .data, .data, .sentinel, .sentinel, .pinned], laidTests := true, laidLooks := .later }
def FnExactChgReadUptoCardSaid : Prop := Claim7.holds Tryz.pinned (.plain (OpenSpec.upto fnExactChgReadSpec)) fnExactChgReadUptoCard

/-- THE SECOND FORM's CARD OF 'laws.FnChgText'. -/
def fnChgTextUptoCard : Claim7 := { stood := { row := fnChgTextUptoRow, standIns := [], harness := (true, "acd9e34f737fe207812fef665bc3e61e8d2290356e029217a2873f965666fdc9"), looks := true }, kinds := [], alts := [], laidByText := true, laidKinds := [.data, .data, .data, .data, .sentinel, .sentinel, .pinned], laidTests := true, laidLooks := .later }
def FnChgTextUptoCardSaid : Prop := Claim7.holds Tryz.pinned (.plain (OpenSpec.upto fnChgTextSpec)) fnChgTextUptoCard
end Rows
end Go.Proofs.YtkndccgackohnaaGreatDoor
