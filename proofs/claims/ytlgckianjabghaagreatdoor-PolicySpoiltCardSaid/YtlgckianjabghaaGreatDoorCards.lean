/-
  DERIVED. GIVEN WITH THE SEED: THE CARDS: each row of YtlgckianjabghaaGreatDoorRows.lean that lists a variable, with what it lists TIED to the program's text (the seventh form; the later family's looks); each row that meets fmt, with fmt's text TOLD by the authors' own Lean function (tested against real Go, not proved from fmt's source: count such statements apart). THE CARD IS WHAT COUNTS. Prove the row's statement (the work); the ties are given (YtlgckianjabghaaGreatDoorTie.lean); close each card by the builder's one call (the guide's Derived/Test/ToyasCard.lean, 'card_holds'). Laid BY PROGRAM, IN A SANDBOX (cutbox-door.mjs). By AI agents, Wed Nov 11 2026. No macro, syntax, notation, axiom, sorry.
-/
import Derived.Test.YtlgckianjabghaaGreatDoorRows
import GoSem.ClaimSeven
namespace Go.Proofs.YtlgckianjabghaaGreatDoor
namespace Rows

/-- THE TIED CARD OF 'admissionlaw28.PolicySpoilt'. -/
def policySpoiltCard : Claim7 := { stood := { row := policySpoiltRow, standIns := [], harness := (true, "f8aa04b56dbfa72e764284297d2b6aa11983429c6979b16b8885987e34fe8563"), looks := false }, kinds := [], alts := [], laidByText := true, laidKinds := [.data, .data, .data, .data, .pinned], laidTests := true, laidLooks := .later }
def PolicySpoiltCardSaid : Prop := Claim7.holds Tryz.pinned (.plain (OpenSpec.ofChange policySpoiltSpec)) policySpoiltCard

/-- THE SECOND FORM's CARD OF 'admissionlaw28.PolicySpoilt'. -/
def policySpoiltUptoCard : Claim7 := { stood := { row := policySpoiltUptoRow, standIns := [], harness := (true, "f8aa04b56dbfa72e764284297d2b6aa11983429c6979b16b8885987e34fe8563"), looks := false }, kinds := [], alts := [], laidByText := true, laidKinds := [.data, .data, .data, .data, .pinned], laidTests := true, laidLooks := .later }
def PolicySpoiltUptoCardSaid : Prop := Claim7.holds Tryz.pinned (.plain (OpenSpec.upto policySpoiltSpec)) policySpoiltUptoCard
end Rows
end Go.Proofs.YtlgckianjabghaaGreatDoor
