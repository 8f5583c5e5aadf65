/-
  DERIVED. GIVEN WITH THE SEED: THE CARDS: each row of YtlldglbooaefhaaGreatDoorRows.lean that lists a variable, with what it lists TIED to the program's text (the seventh form; the later family's looks); each row that meets fmt, with fmt's text TOLD by the authors' own Lean function (tested against real Go, not proved from fmt's source: count such statements apart). THE CARD IS WHAT COUNTS. Prove the row's statement (the work); the ties are given (YtlldglbooaefhaaGreatDoorTie.lean); close each card by the builder's one call (the guide's Derived/Test/ToyasCard.lean, 'card_holds'). Laid BY PROGRAM, IN A SANDBOX (cutbox-door.mjs). By AI agents, Wed Nov 11 2026. No macro, syntax, notation, axiom, sorry.
-/
import Derived.Test.YtlldglbooaefhaaGreatDoorRows
import GoSem.ClaimSeven
namespace Go.Proofs.YtlldglbooaefhaaGreatDoor
namespace Rows

/-- THE TIED CARD OF 'admissionlaw28.PolicyTree'. -/
def policyTreeCard : Claim7 := { stood := { row := policyTreeRow, standIns := [], harness := (true, "ff5d47cd62c7d13f21802cca9c8b9512cc3c2844dd4407b78ea0f3c0525ec3f2"), looks := false }, kinds := [], alts := [], laidByText := true, laidKinds := [.data, .data, .data, .data, .pinned], laidTests := true, laidLooks := .later }
def PolicyTreeCardSaid : Prop := Claim7.holds Tryz.pinned (.plain (OpenSpec.ofChange policyTreeSpec)) policyTreeCard

/-- THE TIED CARD OF 'admissionlaw28.PolicyMade'. -/
def policyMadeCard : Claim7 := { stood := { row := policyMadeRow, standIns := [], harness := (true, "ff5d47cd62c7d13f21802cca9c8b9512cc3c2844dd4407b78ea0f3c0525ec3f2"), looks := false }, kinds := [], alts := [], laidByText := true, laidKinds := [.data, .data, .data, .data, .pinned], laidTests := true, laidLooks := .later }
def PolicyMadeCardSaid : Prop := Claim7.holds Tryz.pinned (.plain (OpenSpec.ofChange policyMadeSpec)) policyMadeCard

/-- THE TIED CARD OF 'admissionlaw28.PolicyValid'. -/
def policyValidCard : Claim7 := { stood := { row := policyValidRow, standIns := [], harness := (true, "ff5d47cd62c7d13f21802cca9c8b9512cc3c2844dd4407b78ea0f3c0525ec3f2"), looks := false }, kinds := [], alts := [], laidByText := true, laidKinds := [.data, .data, .data, .data, .pinned], laidTests := true, laidLooks := .later }
def PolicyValidCardSaid : Prop := Claim7.holds Tryz.pinned (.plain (OpenSpec.ofChange policyValidSpec)) policyValidCard

/-- THE TIED CARD OF 'admissionlaw28.PolicyChanged'. -/
def policyChangedCard : Claim7 := { stood := { row := policyChangedRow, standIns := [], harness := (true, "ff5d47cd62c7d13f21802cca9c8b9512cc3c2844dd4407b78ea0f3c0525ec3f2"), looks := false }, kinds := [], alts := [], laidByText := true, laidKinds := [.data, .data, .data, .data, .pinned], laidTests := true, laidLooks := .later }
def PolicyChangedCardSaid : Prop := Claim7.holds Tryz.pinned (.plain (OpenSpec.ofChange policyChangedSpec)) policyChangedCard

/-- THE TIED CARD OF 'admissionlaw28.PolicyDecode'. -/
def policyDecodeCard : Claim7 := { stood := { row := policyDecodeRow, standIns := [], harness := (true, "ff5d47cd62c7d13f21802cca9c8b9512cc3c2844dd4407b78ea0f3c0525ec3f2"), looks := false }, kinds := [], alts := [], laidByText := true, laidKinds := [.data, .data, .data, .data, .pinned], laidTests := true, laidLooks := .later }
def PolicyDecodeCardSaid : Prop := Claim7.holds Tryz.pinned (.plain (OpenSpec.ofChange policyDecodeSpec)) policyDecodeCard

/-- THE TIED CARD OF 'admissionlaw28.PolicyLines'. -/
def policyLinesCard : Claim7 := { stood := { row := policyLinesRow, standIns := [], harness := (true, "ff5d47cd62c7d13f21802cca9c8b9512cc3c2844dd4407b78ea0f3c0525ec3f2"), looks := false }, kinds := [], alts := [], laidByText := true, laidKinds := [.data, .data, .data, .data, .pinned], laidTests := true, laidLooks := .later }
def PolicyLinesCardSaid : Prop := Claim7.holds Tryz.pinned (.plain (OpenSpec.ofChange policyLinesSpec)) policyLinesCard

/-- THE TIED CARD OF 'admissionlaw28.PolicySpoilt'. -/
def policySpoiltCard : Claim7 := { stood := { row := policySpoiltRow, standIns := [], harness := (true, "ff5d47cd62c7d13f21802cca9c8b9512cc3c2844dd4407b78ea0f3c0525ec3f2"), looks := false }, kinds := [], alts := [], laidByText := true, laidKinds := [.data, .data, .data, .data, .pinned], laidTests := true, laidLooks := .later }
def PolicySpoiltCardSaid : Prop := Claim7.holds Tryz.pinned (.plain (OpenSpec.ofChange policySpoiltSpec)) policySpoiltCard

/-- THE TIED CARD OF 'admissionlaw28.PolicyCut'. -/
def policyCutCard : Claim7 := { stood := { row := policyCutRow, standIns := [], harness := (true, "ff5d47cd62c7d13f21802cca9c8b9512cc3c2844dd4407b78ea0f3c0525ec3f2"), looks := false }, kinds := [], alts := [], laidByText := true, laidKinds := [.data, .data, .data, .data, .pinned], laidTests := true, laidLooks := .later }
def PolicyCutCardSaid : Prop := Claim7.holds Tryz.pinned (.plain (OpenSpec.ofChange policyCutSpec)) policyCutCard

/-- THE TIED CARD OF 'admissionlaw28.PolicySelect'. -/
def policySelectCard : Claim7 := { stood := { row := policySelectRow, standIns := [], harness := (true, "ff5d47cd62c7d13f21802cca9c8b9512cc3c2844dd4407b78ea0f3c0525ec3f2"), looks := false }, kinds := [], alts := [], laidByText := true, laidKinds := [.data, .data, .data, .data, .pinned], laidTests := true, laidLooks := .later }
def PolicySelectCardSaid : Prop := Claim7.holds Tryz.pinned (.plain (OpenSpec.ofChange policySelectSpec)) policySelectCard

/-- THE SECOND FORM's CARD OF 'admissionlaw28.PolicyTree'. -/
def policyTreeUptoCard : Claim7 := { stood := { row := policyTreeUptoRow, standIns := [], harness := (true, "ff5d47cd62c7d13f21802cca9c8b9512cc3c2844dd4407b78ea0f3c0525ec3f2"), looks := false }, kinds := [], alts := [], laidByText := true, laidKinds := [.data, .data, .data, .data, .pinned], laidTests := true, laidLooks := .later }
def PolicyTreeUptoCardSaid : Prop := Claim7.holds Tryz.pinned (.plain (OpenSpec.upto policyTreeSpec)) policyTreeUptoCard

/-- THE SECOND FORM's CARD OF 'admissionlaw28.PolicyMade'. -/
def policyMadeUptoCard : Claim7 := { stood := { row := policyMadeUptoRow, standIns := [], harness := (true, "ff5d47cd62c7d13f21802cca9c8b9512cc3c2844dd4407b78ea0f3c0525ec3f2"), looks := false }, kinds := [], alts := [], laidByText := true, laidKinds := [.data, .data, .data, .data, .pinned], laidTests := true, laidLooks := .later }
def PolicyMadeUptoCardSaid : Prop := Claim7.holds Tryz.pinned (.plain (OpenSpec.upto policyMadeSpec)) policyMadeUptoCard

/-- THE SECOND FORM's CARD OF 'admissionlaw28.PolicyValid'. -/
def policyValidUptoCard : Claim7 := { stood := { row := policyValidUptoRow, standIns := [], harness := (true, "ff5d47cd62c7d13f21802cca9c8b9512cc3c2844dd4407b78ea0f3c0525ec3f2"), looks := false }, kinds := [], alts := [], laidByText := true, laidKinds := [.data, .data, .data, .data, .pinned], laidTests := true, laidLooks := .later }
def PolicyValidUptoCardSaid : Prop := Claim7.holds Tryz.pinned (.plain (OpenSpec.upto policyValidSpec)) policyValidUptoCard

/-- THE SECOND FORM's CARD OF 'admissionlaw28.PolicyChanged'. -/
def policyChangedUptoCard : Claim7 := { stood := { row := policyChangedUptoRow, standIns := [], harness := (true, "ff5d47cd62c7d13f21802cca9c8b9512cc3c2844dd4407b78ea0f3c0525ec3f2"), looks := false }, kinds := [], alts := [], laidByText := true, laidKinds := [.data, .data, .data, .data, .pinned], laidTests := true, laidLooks := .later }
def PolicyChangedUptoCardSaid : Prop := Claim7.holds Tryz.pinned (.plain (OpenSpec.upto policyChangedSpec)) policyChangedUptoCard

/-- THE SECOND FORM's CARD OF 'admissionlaw28.PolicyDecode'. -/
def policyDecodeUptoCard : Claim7 := { stood := { row := policyDecodeUptoRow, standIns := [], harness := (true, "ff5d47cd62c7d13f21802cca9c8b9512cc3c2844dd4407b78ea0f3c0525ec3f2"), looks := false }, kinds := [], alts := [], laidByText := true, laidKinds := [.data, .data, .data, .data, .pinned], laidTests := true, laidLooks := .later }
def PolicyDecodeUptoCardSaid : Prop := Claim7.holds Tryz.pinned (.plain (OpenSpec.upto policyDecodeSpec)) policyDecodeUptoCard

/-- THE SECOND FORM's CARD OF 'admissionlaw28.PolicyLines'. -/
def policyLinesUptoCard : Claim7 := { stood := { row := policyLinesUptoRow, standIns := [], harness := (true, "ff5d47cd62c7d13f21802cca9c8b9512cc3c2844dd4407b78ea0f3c0525ec3f2"), looks := false }, kinds := [], alts := [], laidByText := true, laidKinds := [.data, .data, .data, .data, .pinned], laidTests := true, laidLooks := .later }
def PolicyLinesUptoCardSaid : Prop := Claim7.holds Tryz.pinned (.plain (OpenSpec.upto policyLinesSpec)) policyLinesUptoCard

/-- THE SECOND FORM's CARD OF 'admissionlaw28.PolicySpoilt'. -/
def policySpoiltUptoCard : Claim7 := { stood := { row := policySpoiltUptoRow, standIns := [], harness := (true, "ff5d47cd62c7d13f21802cca9c8b9512cc3c2844dd4407b78ea0f3c0525ec3f2"), looks := false }, kinds := [], alts := [], laidByText := true, laidKinds := [.data, .data, .data, .data, .pinned], laidTests := true, laidLooks := .later }
def PolicySpoiltUptoCardSaid : Prop := Claim7.holds Tryz.pinned (.plain (OpenSpec.upto policySpoiltSpec)) policySpoiltUptoCard

/-- THE SECOND FORM's CARD OF 'admissionlaw28.PolicyCut'. -/
def policyCutUptoCard : Claim7 := { stood := { row := policyCutUptoRow, standIns := [], harness := (true, "ff5d47cd62c7d13f21802cca9c8b9512cc3c2844dd4407b78ea0f3c0525ec3f2"), looks := false }, kinds := [], alts := [], laidByText := true, laidKinds := [.data, .data, .data, .data, .pinned], laidTests := true, laidLooks := .later }
def PolicyCutUptoCardSaid : Prop := Claim7.holds Tryz.pinned (.plain (OpenSpec.upto policyCutSpec)) policyCutUptoCard

/-- THE SECOND FORM's CARD OF 'admissionlaw28.PolicySelect'. -/
def policySelectUptoCard : Claim7 := { stood := { row := policySelectUptoRow, standIns := [], harness := (true, "ff5d47cd62c7d13f21802cca9c8b9512cc3c2844dd4407b78ea0f3c0525ec3f2"), looks := false }, kinds := [], alts := [], laidByText := true, laidKinds := [.data, .data, .data, .data, .pinned], laidTests := true, laidLooks := .later }
def PolicySelectUptoCardSaid : Prop := Claim7.holds Tryz.pinned (.plain (OpenSpec.upto policySelectSpec)) policySelectUptoCard
end Rows
end Go.Proofs.YtlldglbooaefhaaGreatDoor
