/-
  DERIVED. GIVEN WITH THE SEED: THE PROGRAM's TIES (one call each: nine closed facts by the kernel) AND EACH ROW's TIE, after the 31st guide's Derived/Test/Toyas{Tie, Card}.lean. No idea stands in it: it is a product of the set-up. Laid BY PROGRAM, IN A SANDBOX (cutbox-door.mjs). By AI agents, Wed Nov 11 2026. No macro, syntax, notation, axiom, sorry.
-/
import Derived.Test.YtfdflggfffajaaaGreatDoorRows
import Derived.LaidByTextLater
import Derived.SevenTiedAt
import Derived.LaidSub
import Derived.LaidOnce
namespace Go.Proofs.YtfdflggfffajaaaGreatDoor
open Go
set_option maxRecDepth 100000
theorem seatTie1 : Tryz.prog.laidByTextLater [("pairing/grammar.reserved", Rows.laid_pairing_grammar_reserved), ("pairing/types.dutyNames", Rows.laid_pairing_types_dutyNames), ("pairing/types.restNames", Rows.laid_pairing_types_restNames), ("pairing/types.pairingNames", Rows.laid_pairing_types_pairingNames), ("pairing/types.pairingTypes", Rows.laid_pairing_types_pairingTypes)] [.widerDeep, .widerDeep, .widerDeep, .widerDeep, .widerDeep] true :=
  Program.laidByTextLater_by_one 34 8 14 (by kernel_rfl) (by kernel_rfl) (by kernel_rfl) (by kernel_rfl) (by kernel_rfl) (by kernel_rfl) (fun _ _ => by kernel_rfl)
theorem noOwnUnsafe : Tryz.pinned.checked.prog.headLifts.contains "ownunsafe" = false := by kernel_rfl
theorem tie : Tryz.prog.laidByTextLater [("pairing/grammar.reserved", Rows.laid_pairing_grammar_reserved), ("pairing/types.dutyNames", Rows.laid_pairing_types_dutyNames), ("pairing/types.restNames", Rows.laid_pairing_types_restNames), ("pairing/types.pairingNames", Rows.laid_pairing_types_pairingNames), ("pairing/types.pairingTypes", Rows.laid_pairing_types_pairingTypes)] [.widerDeep, .widerDeep, .widerDeep, .widerDeep, .widerDeep] true :=
  Program.laidByTextLater.sub seatTie1 ["pairing/grammar.reserved", "pairing/types.dutyNames", "pairing/types.restNames", "pairing/types.pairingNames", "pairing/types.pairingTypes"] (by kernel_rfl) (by kernel_rfl)
theorem enumerateParts_row_tie : Rows.enumeratePartsRow.laidByTextAt .later Tryz.pinned [.widerDeep, .widerDeep, .widerDeep, .widerDeep, .widerDeep] true :=
  OpenClaim.laidByTextAt_later rfl rfl tie noOwnUnsafe
end Go.Proofs.YtfdflggfffajaaaGreatDoor
