/-
  DERIVED. GIVEN WITH THE SEED: THE CARDS: each row of YtohpiobncgafeaaGreatDoorRows.lean that lists a variable, with what it lists TIED to the program's text (the seventh form; the later family's looks); each row that meets fmt, with fmt's text TOLD by the authors' own Lean function (tested against real Go, not proved from fmt's source: count such statements apart). THE CARD IS WHAT COUNTS. Prove the row's statement (the work); the ties are given (YtohpiobncgafeaaGreatDoorTie.lean); close each card by the builder's one call (the guide's Derived/Test/ToyasCard.lean, 'card_holds'). Laid BY PROGRAM, IN A SANDBOX (cutbox-door.mjs). By AI agents, Wed Nov 11 2026. No macro, syntax, notation, axiom, sorry.
-/
import Derived.Test.YtohpiobncgafeaaGreatDoorRows
import GoSem.ClaimSeven
namespace Go.Proofs.YtohpiobncgafeaaGreatDoor
namespace Rows

/-- THE TIED CARD OF 'laws.FnLnkTwo'. -/
def fnLnkTwoCard : Claim7 := { stood := { row := fnLnkTwoRow, standIns := [], harness := (true, "4c97b8bc33860802d26e721479b15c8ac6de1576eb0c1897acad989047e56365"), looks := true }, kinds := [], alts := [], laidByText := true, laidKinds := [.handle], laidTests := true, laidLooks := .later }
def FnLnkTwoCardSaid : Prop := Claim7.holds Tryz.pinned (.plain (OpenSpec.ofChange fnLnkTwoSpec)) fnLnkTwoCard

/-- THE SECOND FORM's CARD OF 'laws.FnLnkTwo'. -/
def fnLnkTwoUptoCard : Claim7 := { stood := { row := fnLnkTwoUptoRow, standIns := [], harness := (true, "4c97b8bc33860802d26e721479b15c8ac6de1576eb0c1897acad989047e56365"), looks := true }, kinds := [], alts := [], laidByText := true, laidKinds := [.handle], laidTests := true, laidLooks := .later }
def FnLnkTwoUptoCardSaid : Prop := Claim7.holds Tryz.pinned (.plain (OpenSpec.upto fnLnkTwoSpec)) fnLnkTwoUptoCard
end Rows
end Go.Proofs.YtohpiobncgafeaaGreatDoor
