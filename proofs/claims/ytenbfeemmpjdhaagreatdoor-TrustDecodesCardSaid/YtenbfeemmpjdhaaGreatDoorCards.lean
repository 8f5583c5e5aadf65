/-
  DERIVED. GIVEN WITH THE SEED: THE CARDS: each row of YtenbfeemmpjdhaaGreatDoorRows.lean that lists a variable, with what it lists TIED to the program's text (the seventh form; the later family's looks); each row that meets fmt, with fmt's text TOLD by the authors' own Lean function (tested against real Go, not proved from fmt's source: count such statements apart). THE CARD IS WHAT COUNTS. Prove the row's statement (the work); the ties are given (YtenbfeemmpjdhaaGreatDoorTie.lean); close each card by the builder's one call (the guide's Derived/Test/ToyasCard.lean, 'card_holds'). Laid BY PROGRAM, IN A SANDBOX (cutbox-door.mjs). By AI agents, Wed Nov 11 2026. No macro, syntax, notation, axiom, sorry.
-/
import Derived.Test.YtenbfeemmpjdhaaGreatDoorRows
import GoSem.ClaimSeven
namespace Go.Proofs.YtenbfeemmpjdhaaGreatDoor
namespace Rows

/-- THE TIED CARD OF 'admissionlaw11.TrustValid'. -/
def trustValidCard : Claim7 := { stood := { row := trustValidRow, standIns := [], harness := (true, "a6004cba14d084c939e55818a9fd244e68653aaafb07118b80d6f1b0c2c3011d"), looks := true }, kinds := [], alts := [], laidByText := true, laidKinds := [.data, .data, .data], laidTests := true, laidLooks := .later }
def TrustValidCardSaid : Prop := Claim7.holds Tryz.pinned (.plain (OpenSpec.ofChange trustValidSpec)) trustValidCard

/-- THE TIED CARD OF 'admissionlaw11.TrustForever'. -/
def trustForeverCard : Claim7 := { stood := { row := trustForeverRow, standIns := [], harness := (true, "a6004cba14d084c939e55818a9fd244e68653aaafb07118b80d6f1b0c2c3011d"), looks := true }, kinds := [], alts := [], laidByText := true, laidKinds := [.data, .pinned], laidTests := true, laidLooks := .later }
def TrustForeverCardSaid : Prop := Claim7.holds Tryz.pinned (.plain (OpenSpec.ofChange trustForeverSpec)) trustForeverCard

/-- THE TIED CARD OF 'admissionlaw11.TrustRotates'. -/
def trustRotatesCard : Claim7 := { stood := { row := trustRotatesRow, standIns := [], harness := (true, "a6004cba14d084c939e55818a9fd244e68653aaafb07118b80d6f1b0c2c3011d"), looks := true }, kinds := [], alts := [], laidByText := true, laidKinds := [.data, .pinned], laidTests := true, laidLooks := .later }
def TrustRotatesCardSaid : Prop := Claim7.holds Tryz.pinned (.plain (OpenSpec.ofChange trustRotatesSpec)) trustRotatesCard

/-- THE TIED CARD OF 'admissionlaw11.TrustDecodes'. -/
def trustDecodesCard : Claim7 := { stood := { row := trustDecodesRow, standIns := [], harness := (true, "a6004cba14d084c939e55818a9fd244e68653aaafb07118b80d6f1b0c2c3011d"), looks := true }, kinds := [], alts := [], laidByText := true, laidKinds := [.data, .data, .data, .data, .pinned], laidTests := true, laidLooks := .later }
def TrustDecodesCardSaid : Prop := Claim7.holds Tryz.pinned (.plain (OpenSpec.ofChange trustDecodesSpec)) trustDecodesCard

/-- THE SECOND FORM's CARD OF 'admissionlaw11.TrustValid'. -/
def trustValidUptoCard : Claim7 := { stood := { row := trustValidUptoRow, standIns := [], harness := (true, "a6004cba14d084c939e55818a9fd244e68653aaafb07118b80d6f1b0c2c3011d"), looks := true }, kinds := [], alts := [], laidByText := true, laidKinds := [.data, .data, .data], laidTests := true, laidLooks := .later }
def TrustValidUptoCardSaid : Prop := Claim7.holds Tryz.pinned (.plain (OpenSpec.upto trustValidSpec)) trustValidUptoCard

/-- THE SECOND FORM's CARD OF 'admissionlaw11.TrustForever'. -/
def trustForeverUptoCard : Claim7 := { stood := { row := trustForeverUptoRow, standIns := [], harness := (true, "a6004cba14d084c939e55818a9fd244e68653aaafb07118b80d6f1b0c2c3011d"), looks := true }, kinds := [], alts := [], laidByText := true, laidKinds := [.data, .pinned], laidTests := true, laidLooks := .later }
def TrustForeverUptoCardSaid : Prop := Claim7.holds Tryz.pinned (.plain (OpenSpec.upto trustForeverSpec)) trustForeverUptoCard

/-- THE SECOND FORM's CARD OF 'admissionlaw11.TrustRotates'. -/
def trustRotatesUptoCard : Claim7 := { stood := { row := trustRotatesUptoRow, standIns := [], harness := (true, "a6004cba14d084c939e55818a9fd244e68653aaafb07118b80d6f1b0c2c3011d"), looks := true }, kinds := [], alts := [], laidByText := true, laidKinds := [.data, .pinned], laidTests := true, laidLooks := .later }
def TrustRotatesUptoCardSaid : Prop := Claim7.holds Tryz.pinned (.plain (OpenSpec.upto trustRotatesSpec)) trustRotatesUptoCard

/-- THE SECOND FORM's CARD OF 'admissionlaw11.TrustDecodes'. -/
def trustDecodesUptoCard : Claim7 := { stood := { row := trustDecodesUptoRow, standIns := [], harness := (true, "a6004cba14d084c939e55818a9fd244e68653aaafb07118b80d6f1b0c2c3011d"), looks := true }, kinds := [], alts := [], laidByText := true, laidKinds := [.data, .data, .data, .data, .pinned], laidTests := true, laidLooks := .later }
def TrustDecodesUptoCardSaid : Prop := Claim7.holds Tryz.pinned (.plain (OpenSpec.upto trustDecodesSpec)) trustDecodesUptoCard
end Rows
end Go.Proofs.YtenbfeemmpjdhaaGreatDoor
