/-
  DERIVED. GIVEN WITH THE SEED: THE CARDS: each row of YthedbjfipmkpiaaGreatDoorRows.lean that lists a variable, with what it lists TIED to the program's text (the seventh form; the later family's looks); each row that meets fmt, with fmt's text TOLD by the authors' own Lean function (tested against real Go, not proved from fmt's source: count such statements apart). THE CARD IS WHAT COUNTS. Prove the row's statement (the work); the ties are given (YthedbjfipmkpiaaGreatDoorTie.lean); close each card by the builder's one call (the guide's Derived/Test/ToyasCard.lean, 'card_holds'). Laid BY PROGRAM, IN A SANDBOX (cutbox-door.mjs). By AI agents, Wed Nov 11 2026. No macro, syntax, notation, axiom, sorry.
-/
import Derived.Test.YthedbjfipmkpiaaGreatDoorRows
import GoSem.ClaimSeven
namespace Go.Proofs.YthedbjfipmkpiaaGreatDoor
namespace Rows

/-- THE TIED CARD OF 'admissionlaw31.DerivationProve'. -/
def derivationProveCard : Claim7 := { stood := { row := derivationProveRow, standIns := [], harness := (true, "21008691179fbc5e685a549e14076cf73832ee6f24894afe5decf201da899196"), looks := false }, kinds := [], alts := [], laidByText := true, laidKinds := [.data, .data, .data, .data, .pinned], laidTests := true, laidLooks := .later }
def DerivationProveCardSaid : Prop := Claim7.holds Tryz.pinned (.plain (OpenSpec.ofChange derivationProveSpec)) derivationProveCard

/-- THE TIED CARD OF 'admissionlaw31.DerivationNeeded'. -/
def derivationNeededCard : Claim7 := { stood := { row := derivationNeededRow, standIns := [], harness := (true, "21008691179fbc5e685a549e14076cf73832ee6f24894afe5decf201da899196"), looks := false }, kinds := [], alts := [], laidByText := true, laidKinds := [.data, .data, .data, .data, .pinned], laidTests := true, laidLooks := .later }
def DerivationNeededCardSaid : Prop := Claim7.holds Tryz.pinned (.plain (OpenSpec.ofChange derivationNeededSpec)) derivationNeededCard

/-- THE TIED CARD OF 'admissionlaw31.DerivationEncode'. -/
def derivationEncodeCard : Claim7 := { stood := { row := derivationEncodeRow, standIns := [], harness := (true, "21008691179fbc5e685a549e14076cf73832ee6f24894afe5decf201da899196"), looks := false }, kinds := [], alts := [], laidByText := true, laidKinds := [.data, .data, .data, .data, .pinned], laidTests := true, laidLooks := .later }
def DerivationEncodeCardSaid : Prop := Claim7.holds Tryz.pinned (.plain (OpenSpec.ofChange derivationEncodeSpec)) derivationEncodeCard

/-- THE TIED CARD OF 'admissionlaw31.DerivationRound'. -/
def derivationRoundCard : Claim7 := { stood := { row := derivationRoundRow, standIns := [], harness := (true, "21008691179fbc5e685a549e14076cf73832ee6f24894afe5decf201da899196"), looks := false }, kinds := [], alts := [], laidByText := true, laidKinds := [.data, .data, .data, .data, .pinned], laidTests := true, laidLooks := .later }
def DerivationRoundCardSaid : Prop := Claim7.holds Tryz.pinned (.plain (OpenSpec.ofChange derivationRoundSpec)) derivationRoundCard

/-- THE TIED CARD OF 'admissionlaw31.DerivationDocuments'. -/
def derivationDocumentsCard : Claim7 := { stood := { row := derivationDocumentsRow, standIns := [], harness := (true, "21008691179fbc5e685a549e14076cf73832ee6f24894afe5decf201da899196"), looks := false }, kinds := [], alts := [], laidByText := true, laidKinds := [.data, .data, .data, .data, .pinned], laidTests := true, laidLooks := .later }
def DerivationDocumentsCardSaid : Prop := Claim7.holds Tryz.pinned (.plain (OpenSpec.ofChange derivationDocumentsSpec)) derivationDocumentsCard

/-- THE TIED CARD OF 'admissionlaw31.DerivationDecode'. -/
def derivationDecodeCard : Claim7 := { stood := { row := derivationDecodeRow, standIns := [], harness := (true, "21008691179fbc5e685a549e14076cf73832ee6f24894afe5decf201da899196"), looks := false }, kinds := [], alts := [], laidByText := true, laidKinds := [.data, .data, .data, .data, .pinned], laidTests := true, laidLooks := .later }
def DerivationDecodeCardSaid : Prop := Claim7.holds Tryz.pinned (.plain (OpenSpec.ofChange derivationDecodeSpec)) derivationDecodeCard

/-- THE TIED CARD OF 'admissionlaw31.DerivationSpoilt'. -/
def derivationSpoiltCard : Claim7 := { stood := { row := derivationSpoiltRow, standIns := [], harness := (true, "21008691179fbc5e685a549e14076cf73832ee6f24894afe5decf201da899196"), looks := false }, kinds := [], alts := [], laidByText := true, laidKinds := [.data, .data, .data, .data, .pinned], laidTests := true, laidLooks := .later }
def DerivationSpoiltCardSaid : Prop := Claim7.holds Tryz.pinned (.plain (OpenSpec.ofChange derivationSpoiltSpec)) derivationSpoiltCard

/-- THE SECOND FORM's CARD OF 'admissionlaw31.DerivationProve'. -/
def derivationProveUptoCard : Claim7 := { stood := { row := derivationProveUptoRow, standIns := [], harness := (true, "21008691179fbc5e685a549e14076cf73832ee6f24894afe5decf201da899196"), looks := false }, kinds := [], alts := [], laidByText := true, laidKinds := [.data, .data, .data, .data, .pinned], laidTests := true, laidLooks := .later }
def DerivationProveUptoCardSaid : Prop := Claim7.holds Tryz.pinned (.plain (OpenSpec.upto derivationProveSpec)) derivationProveUptoCard

/-- THE SECOND FORM's CARD OF 'admissionlaw31.DerivationNeeded'. -/
def derivationNeededUptoCard : Claim7 := { stood := { row := derivationNeededUptoRow, standIns := [], harness := (true, "21008691179fbc5e685a549e14076cf73832ee6f24894afe5decf201da899196"), looks := false }, kinds := [], alts := [], laidByText := true, laidKinds := [.data, .data, .data, .data, .pinned], laidTests := true, laidLooks := .later }
def DerivationNeededUptoCardSaid : Prop := Claim7.holds Tryz.pinned (.plain (OpenSpec.upto derivationNeededSpec)) derivationNeededUptoCard

/-- THE SECOND FORM's CARD OF 'admissionlaw31.DerivationEncode'. -/
def derivationEncodeUptoCard : Claim7 := { stood := { row := derivationEncodeUptoRow, standIns := [], harness := (true, "21008691179fbc5e685a549e14076cf73832ee6f24894afe5decf201da899196"), looks := false }, kinds := [], alts := [], laidByText := true, laidKinds := [.data, .data, .data, .data, .pinned], laidTests := true, laidLooks := .later }
def DerivationEncodeUptoCardSaid : Prop := Claim7.holds Tryz.pinned (.plain (OpenSpec.upto derivationEncodeSpec)) derivationEncodeUptoCard

/-- THE SECOND FORM's CARD OF 'admissionlaw31.DerivationRound'. -/
def derivationRoundUptoCard : Claim7 := { stood := { row := derivationRoundUptoRow, standIns := [], harness := (true, "21008691179fbc5e685a549e14076cf73832ee6f24894afe5decf201da899196"), looks := false }, kinds := [], alts := [], laidByText := true, laidKinds := [.data, .data, .data, .data, .pinned], laidTests := true, laidLooks := .later }
def DerivationRoundUptoCardSaid : Prop := Claim7.holds Tryz.pinned (.plain (OpenSpec.upto derivationRoundSpec)) derivationRoundUptoCard

/-- THE SECOND FORM's CARD OF 'admissionlaw31.DerivationDocuments'. -/
def derivationDocumentsUptoCard : Claim7 := { stood := { row := derivationDocumentsUptoRow, standIns := [], harness := (true, "21008691179fbc5e685a549e14076cf73832ee6f24894afe5decf201da899196"), looks := false }, kinds := [], alts := [], laidByText := true, laidKinds := [.data, .data, .data, .data, .pinned], laidTests := true, laidLooks := .later }
def DerivationDocumentsUptoCardSaid : Prop := Claim7.holds Tryz.pinned (.plain (OpenSpec.upto derivationDocumentsSpec)) derivationDocumentsUptoCard

/-- THE SECOND FORM's CARD OF 'admissionlaw31.DerivationDecode'. -/
def derivationDecodeUptoCard : Claim7 := { stood := { row := derivationDecodeUptoRow, standIns := [], harness := (true, "21008691179fbc5e685a549e14076cf73832ee6f24894afe5decf201da899196"), looks := false }, kinds := [], alts := [], laidByText := true, laidKinds := [.data, .data, .data, .data, .pinned], laidTests := true, laidLooks := .later }
def DerivationDecodeUptoCardSaid : Prop := Claim7.holds Tryz.pinned (.plain (OpenSpec.upto derivationDecodeSpec)) derivationDecodeUptoCard

/-- THE SECOND FORM's CARD OF 'admissionlaw31.DerivationSpoilt'. -/
def derivationSpoiltUptoCard : Claim7 := { stood := { row := derivationSpoiltUptoRow, standIns := [], harness := (true, "21008691179fbc5e685a549e14076cf73832ee6f24894afe5decf201da899196"), looks := false }, kinds := [], alts := [], laidByText := true, laidKinds := [.data, .data, .data, .data, .pinned], laidTests := true, laidLooks := .later }
def DerivationSpoiltUptoCardSaid : Prop := Claim7.holds Tryz.pinned (.plain (OpenSpec.upto derivationSpoiltSpec)) derivationSpoiltUptoCard
end Rows
end Go.Proofs.YthedbjfipmkpiaaGreatDoor
