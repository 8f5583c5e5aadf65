/-
  DERIVED. GIVEN WITH THE SEED: THE CARDS: each row of YtlldglbooaefhaaDoorRows.lean that lists a variable, with what it lists TIED to the program's text (the seventh form; the later family's looks); each row that meets fmt, with fmt's text TOLD by the authors' own Lean function (tested against real Go, not proved from fmt's source: count such statements apart). THE CARD IS WHAT COUNTS. Prove the row's statement (the work); the ties are given (YtlldglbooaefhaaDoorTie.lean); close each card by the builder's one call (the guide's Derived/Test/ToyasCard.lean, 'card_holds'). Laid BY PROGRAM, IN A SANDBOX (cutbox-door.mjs). By AI agents, Wed Nov 11 2026. No macro, syntax, notation, axiom, sorry.
-/
import Derived.Test.YtlldglbooaefhaaDoorRows
import GoSem.ClaimSeven
namespace Go.Proofs.YtlldglbooaefhaaDoor
namespace Rows

/-- THE TIED CARD OF 'admissionlaw28.PolicyRound'. -/
def policyRoundCard : Claim7 := { stood := { row := policyRoundRow, standIns := [], harness := (true, "15be7892ca1104b8b28cd8daee4937f8eb40532bd8673a52f437445d00da4649"), looks := false }, kinds := [], alts := [], laidByText := true, laidKinds := [.data, .data, .data, .data, .pinned], laidTests := true, laidLooks := .later }
def PolicyRoundCardSaid : Prop := Claim7.holds Tryd.pinned (.plain (OpenSpec.ofChange policyRoundSpec)) policyRoundCard

/-- THE TIED CARD OF 'admissionlaw28.PolicyMonotone'. -/
def policyMonotoneCard : Claim7 := { stood := { row := policyMonotoneRow, standIns := [], harness := (true, "15be7892ca1104b8b28cd8daee4937f8eb40532bd8673a52f437445d00da4649"), looks := false }, kinds := [], alts := [], laidByText := true, laidKinds := [.data, .data, .data, .data, .pinned], laidTests := true, laidLooks := .later }
def PolicyMonotoneCardSaid : Prop := Claim7.holds Tryd.pinned (.plain (OpenSpec.ofChange policyMonotoneSpec)) policyMonotoneCard

/-- THE TIED CARD OF 'admissionlaw28.PolicyParts'. -/
def policyPartsCard : Claim7 := { stood := { row := policyPartsRow, standIns := [], harness := (true, "15be7892ca1104b8b28cd8daee4937f8eb40532bd8673a52f437445d00da4649"), looks := false }, kinds := [], alts := [], laidByText := true, laidKinds := [.data, .data, .data, .data, .pinned], laidTests := true, laidLooks := .later }
def PolicyPartsCardSaid : Prop := Claim7.holds Tryd.pinned (.plain (OpenSpec.ofChange policyPartsSpec)) policyPartsCard

/-- THE SECOND FORM's CARD OF 'admissionlaw28.PolicyRound'. -/
def policyRoundUptoCard : Claim7 := { stood := { row := policyRoundUptoRow, standIns := [], harness := (true, "15be7892ca1104b8b28cd8daee4937f8eb40532bd8673a52f437445d00da4649"), looks := false }, kinds := [], alts := [], laidByText := true, laidKinds := [.data, .data, .data, .data, .pinned], laidTests := true, laidLooks := .later }
def PolicyRoundUptoCardSaid : Prop := Claim7.holds Tryd.pinned (.plain (OpenSpec.upto policyRoundSpec)) policyRoundUptoCard

/-- THE SECOND FORM's CARD OF 'admissionlaw28.PolicyMonotone'. -/
def policyMonotoneUptoCard : Claim7 := { stood := { row := policyMonotoneUptoRow, standIns := [], harness := (true, "15be7892ca1104b8b28cd8daee4937f8eb40532bd8673a52f437445d00da4649"), looks := false }, kinds := [], alts := [], laidByText := true, laidKinds := [.data, .data, .data, .data, .pinned], laidTests := true, laidLooks := .later }
def PolicyMonotoneUptoCardSaid : Prop := Claim7.holds Tryd.pinned (.plain (OpenSpec.upto policyMonotoneSpec)) policyMonotoneUptoCard

/-- THE SECOND FORM's CARD OF 'admissionlaw28.PolicyParts'. -/
def policyPartsUptoCard : Claim7 := { stood := { row := policyPartsUptoRow, standIns := [], harness := (true, "15be7892ca1104b8b28cd8daee4937f8eb40532bd8673a52f437445d00da4649"), looks := false }, kinds := [], alts := [], laidByText := true, laidKinds := [.data, .data, .data, .data, .pinned], laidTests := true, laidLooks := .later }
def PolicyPartsUptoCardSaid : Prop := Claim7.holds Tryd.pinned (.plain (OpenSpec.upto policyPartsSpec)) policyPartsUptoCard
end Rows
end Go.Proofs.YtlldglbooaefhaaDoor
