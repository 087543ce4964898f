/-
  NARROWER THAN 'FOR EVERY INPUT', by the rows' own cells (each row's printed sentence says how): EnumerateParts: calm, laid.
  DERIVED. THE GIVEN ROWS OF THIS SEAT. 1 by the template 'for every input the law returns true; each argument reads behind the call as it read before'; 0 by the template 'total and deterministic' (their statements: YtfdflggfffajaaaGreatDoorTotals.lean).
  GIVEN WITH THE SEED: the statements are not yours to turn. If you find one false, say at which input.
  Laid BY PROGRAM, IN A SANDBOX (cutbox-rows.mjs): the forced cells as the released guide's own fill.sh prints them over the translation abee04534308afdd… (all of the seat's roots in one cut). By AI agents, Wed Nov 11 2026. No macro, syntax, notation, axiom, sorry.
-/
import Derived.Test.YtfdflggfffajaaaGreatDoorChecked
import GoSem.Claim
import GoSem.ClaimJoined
import GoSem.ClaimMapViews
import Derived.JoinedTies
import Derived.KernelRfl
namespace Go.Proofs.YtfdflggfffajaaaGreatDoor
/- THE CELL 'sum', in the pinned program and in every row, IS THE sha256 OF THE DUMP (.gsa) THAT YtfdflggfffajaaaGreatDoorProg.lean LOADS. Nothing in Lean hashes anything: it is a label: what it is worth is what the hold of that sum in a sandbox is worth. -/
noncomputable def Tryz.pinned : Pinned := { name := "ytfdflggfffajaaagreatdoor", sum := "abee04534308afdd4518a835758e7c9adb72a5397dca095ab71dbac532d05b23", checked := Tryz.checked }
namespace Rows
def none {H : Type} : Left H := { results := [], args := [] }

/- WHAT THE LISTED PACKAGE-LEVEL VARIABLES READ AS WHEN THE CALL BEGINS. Each datum BY PROGRAM (the guide's laid-datum.mjs) off the statement by which the dump's own 'gosem.cut.vars' lays the variable. In a bare row this is a premise. The card (YtfdflggfffajaaaGreatDoorCards.lean) ties it to the program's text. -/
def laid_pairing_grammar_reserved {H : Type} : DataW H := .agg [.lit (.string [97, 110, 100]), .lit (.string [111, 114]), .lit (.string [110, 111, 116]), .lit (.string [105, 109, 112, 108, 105, 101, 115]), .lit (.string [105, 110]), .lit (.string [116, 111]), .lit (.string [116, 114, 117, 101]), .lit (.string [102, 97, 108, 115, 101]), .lit (.string [109, 105, 110]), .lit (.string [109, 97, 120]), .lit (.string [105, 102]), .lit (.string [116, 104, 101, 110]), .lit (.string [101, 108, 115, 101])]
def laid_pairing_types_dutyNames {H : Type} : DataW H := .agg [.lit (.string [108, 101, 103, 115]), .lit (.string [104, 101, 97, 100, 115]), .lit (.string [116, 121, 112, 101, 115]), .lit (.string [98, 108, 111, 99, 107]), .lit (.string [115, 112, 97, 110]), .lit (.string [110, 105, 103, 104, 116]), .lit (.string [108, 111, 110, 103, 101, 115, 116]), .lit (.string [115, 104, 111, 114, 116, 101, 115, 116]), .lit (.string [115, 104, 105, 102, 116]), .lit (.string [115, 116, 97, 114, 116]), .lit (.string [101, 110, 100])]
def laid_pairing_types_restNames {H : Type} : DataW H := .agg [.lit (.string [114, 101, 115, 116]), .lit (.string [110, 105, 103, 104, 116, 115]), .lit (.string [104, 111, 109, 101])]
def laid_pairing_types_pairingNames {H : Type} : DataW H := .agg [.lit (.string [100, 117, 116, 105, 101, 115]), .lit (.string [108, 101, 103, 115]), .lit (.string [104, 101, 97, 100, 115]), .lit (.string [100, 97, 121, 115]), .lit (.string [98, 108, 111, 99, 107]), .lit (.string [115, 112, 97, 110]), .lit (.string [99, 114, 101, 100, 105, 116])]
def laid_pairing_types_pairingTypes {H : Type} : DataW H := .agg [.lit (.int .i64 1), .lit (.int .i64 1), .lit (.int .i64 1), .lit (.int .i64 1), .lit (.int .i64 2), .lit (.int .i64 2), .lit (.int .i64 2)]

/-- 'pairinglaw22.EnumerateParts': WHATEVER THE INPUT: true; the input reads as it did. -/
def enumeratePartsSpec : ChangeSpec := { name := "enumerateParts", fn := fun _ => fun
  | [d1, d2, d3, d4] => { results := [.lit (.bool true)], args := [d1, d2, d3, d4] }
  | _ => none }
def enumeratePartsRow : OpenClaim := { program := "ytfdflggfffajaaagreatdoor", sum := "abee04534308afdd4518a835758e7c9adb72a5397dca095ab71dbac532d05b23", func := "pairing/pairinglaw22.EnumerateParts", spec := "enumerateParts", inPlace := ["internal/bytealg.IndexByteString", "internal/bytealg.IndexString"], unfollowed := true, recurses := true, named := ["pairing/grammar.reserved", "internal/bytealg.MaxLen", "pairing/types.dutyNames", "pairing/types.restNames", "pairing/types.pairingNames", "pairing/types.dutyTypes", "pairing/types.restTypes", "pairing/types.pairingTypes"], apart := false, calm := true, outside := [.timePasses], laid := [("pairing/grammar.reserved", laid_pairing_grammar_reserved), ("pairing/types.dutyNames", laid_pairing_types_dutyNames), ("pairing/types.restNames", laid_pairing_types_restNames), ("pairing/types.pairingNames", laid_pairing_types_pairingNames), ("pairing/types.pairingTypes", laid_pairing_types_pairingTypes)] }
def EnumeratePartsSaid : Prop := enumeratePartsRow.holds Tryz.pinned (OpenSpec.ofChange enumeratePartsSpec)

/-- ITS FALSE NEIGHBOUR: 'it returns false'. Refute it at one input. -/
def enumeratePartsWrong : ChangeSpec := { name := "enumerateParts", fn := fun _ => fun
  | [d1, d2, d3, d4] => { results := [.lit (.bool false)], args := [d1, d2, d3, d4] }
  | _ => none }
def EnumeratePartsWrongFalsely : Prop := enumeratePartsRow.holds Tryz.pinned (OpenSpec.ofChange enumeratePartsWrong)

end Rows
end Go.Proofs.YtfdflggfffajaaaGreatDoor
