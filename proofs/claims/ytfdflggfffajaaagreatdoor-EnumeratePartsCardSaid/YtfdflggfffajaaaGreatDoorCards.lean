/-
  DERIVED. GIVEN WITH THE SEED: THE CARDS: each row of YtfdflggfffajaaaGreatDoorRows.lean that lists a variable, with what it lists TIED to the program's text (the seventh form; the later family's looks); each row that meets fmt, with fmt's text TOLD by the authors' own Lean function (tested against real Go, not proved from fmt's source: count such statements apart). THE CARD IS WHAT COUNTS. Prove the row's statement (the work); the ties are given (YtfdflggfffajaaaGreatDoorTie.lean); close each card by the builder's one call (the guide's Derived/Test/ToyasCard.lean, 'card_holds'). Laid BY PROGRAM, IN A SANDBOX (cutbox-door.mjs). By AI agents, Wed Nov 11 2026. No macro, syntax, notation, axiom, sorry.
-/
import Derived.Test.YtfdflggfffajaaaGreatDoorRows
import GoSem.ClaimSeven
namespace Go.Proofs.YtfdflggfffajaaaGreatDoor
namespace Rows

/-- THE TIED CARD OF 'pairinglaw22.EnumerateParts'. -/
def enumeratePartsCard : Claim7 := { stood := { row := enumeratePartsRow, standIns := [], harness := (true, "778260d534f2854963ae1551ee28e37a82b7f94fa38022cc494409c2acfb47aa"), looks := false }, kinds := [], alts := [], laidByText := true, laidKinds := [.widerDeep, .widerDeep, .widerDeep, .widerDeep, .widerDeep], laidTests := true, laidLooks := .later }
def EnumeratePartsCardSaid : Prop := Claim7.holds Tryz.pinned (.plain (OpenSpec.ofChange enumeratePartsSpec)) enumeratePartsCard
end Rows
end Go.Proofs.YtfdflggfffajaaaGreatDoor
