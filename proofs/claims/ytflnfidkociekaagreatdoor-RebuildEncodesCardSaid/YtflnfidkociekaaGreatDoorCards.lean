/-
  DERIVED. GIVEN WITH THE SEED: THE CARDS: each row of YtflnfidkociekaaGreatDoorRows.lean that lists a variable, with what it lists TIED to the program's text (the seventh form; the later family's looks); each row that meets fmt, with fmt's text TOLD by the authors' own Lean function (tested against real Go, not proved from fmt's source: count such statements apart). THE CARD IS WHAT COUNTS. Prove the row's statement (the work); the ties are given (YtflnfidkociekaaGreatDoorTie.lean); close each card by the builder's one call (the guide's Derived/Test/ToyasCard.lean, 'card_holds'). Laid BY PROGRAM, IN A SANDBOX (cutbox-door.mjs). By AI agents, Wed Nov 11 2026. No macro, syntax, notation, axiom, sorry.
-/
import Derived.Test.YtflnfidkociekaaGreatDoorRows
import GoSem.ClaimSeven
namespace Go.Proofs.YtflnfidkociekaaGreatDoor
namespace Rows

/-- THE TIED CARD OF 'admissionlaw18.RebuildEncodes'. -/
def rebuildEncodesCard : Claim7 := { stood := { row := rebuildEncodesRow, standIns := [], harness := (true, "750d456b48ff5ed687ec8b1fe2c66b5755a4c8a863b8b7152f0021ce26c6af49"), looks := false }, kinds := [], alts := [], laidByText := true, laidKinds := [.data, .data, .data, .data, .pinned], laidTests := true, laidLooks := .later }
def RebuildEncodesCardSaid : Prop := Claim7.holds Tryz.pinned (.plain (OpenSpec.ofChange rebuildEncodesSpec)) rebuildEncodesCard

/-- THE SECOND FORM's CARD OF 'admissionlaw18.RebuildEncodes'. -/
def rebuildEncodesUptoCard : Claim7 := { stood := { row := rebuildEncodesUptoRow, standIns := [], harness := (true, "750d456b48ff5ed687ec8b1fe2c66b5755a4c8a863b8b7152f0021ce26c6af49"), looks := false }, kinds := [], alts := [], laidByText := true, laidKinds := [.data, .data, .data, .data, .pinned], laidTests := true, laidLooks := .later }
def RebuildEncodesUptoCardSaid : Prop := Claim7.holds Tryz.pinned (.plain (OpenSpec.upto rebuildEncodesSpec)) rebuildEncodesUptoCard
end Rows
end Go.Proofs.YtflnfidkociekaaGreatDoor
