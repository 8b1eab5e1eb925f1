/-
  DERIVED. GIVEN WITH THE SEED: THE CARDS: each row of YtfohmbookjnkgaaGreatDoorRows.lean that lists a variable, with what it lists TIED to the program's text (the seventh form; the later family's looks); each row that meets fmt, with fmt's text TOLD by the authors' own Lean function (tested against real Go, not proved from fmt's source: count such statements apart). THE CARD IS WHAT COUNTS. Prove the row's statement (the work); the ties are given (YtfohmbookjnkgaaGreatDoorTie.lean); close each card by the builder's one call (the guide's Derived/Test/ToyasCard.lean, 'card_holds'). Laid BY PROGRAM, IN A SANDBOX (cutbox-door.mjs). By AI agents, Wed Nov 11 2026. No macro, syntax, notation, axiom, sorry.
-/
import Derived.Test.YtfohmbookjnkgaaGreatDoorRows
import GoSem.ClaimSeven
namespace Go.Proofs.YtfohmbookjnkgaaGreatDoor
namespace Rows

/-- THE TIED CARD OF 'ostlerlaw14.MetaBack'. -/
def metaBackCard : Claim7 := { stood := { row := metaBackRow, standIns := [], harness := (true, "bf6efdf3b4a7e915494f121cf4cc29997cde3f476c8b1ce8802ffe84cb9dc7dc"), looks := true }, kinds := [], alts := [], laidByText := true, laidKinds := [.data, .data, .data], laidTests := true, laidLooks := .later }
def MetaBackCardSaid : Prop := Claim7.holds Tryz.pinned (.plain (OpenSpec.ofChange metaBackSpec)) metaBackCard

/-- THE TIED CARD OF 'ostlerlaw14.MetaOpens'. -/
def metaOpensCard : Claim7 := { stood := { row := metaOpensRow, standIns := [], harness := (true, "bf6efdf3b4a7e915494f121cf4cc29997cde3f476c8b1ce8802ffe84cb9dc7dc"), looks := true }, kinds := [], alts := [], laidByText := true, laidKinds := [.data, .data, .data], laidTests := true, laidLooks := .later }
def MetaOpensCardSaid : Prop := Claim7.holds Tryz.pinned (.plain (OpenSpec.ofChange metaOpensSpec)) metaOpensCard

/-- THE TIED CARD OF 'ostlerlaw14.MetaDocs'. -/
def metaDocsCard : Claim7 := { stood := { row := metaDocsRow, standIns := [], harness := (true, "bf6efdf3b4a7e915494f121cf4cc29997cde3f476c8b1ce8802ffe84cb9dc7dc"), looks := true }, kinds := [], alts := [], laidByText := true, laidKinds := [.data, .data, .data], laidTests := true, laidLooks := .later }
def MetaDocsCardSaid : Prop := Claim7.holds Tryz.pinned (.plain (OpenSpec.ofChange metaDocsSpec)) metaDocsCard

/-- THE TIED CARD OF 'ostlerlaw11.NoteSigned'. -/
def noteSignedCard : Claim7 := { stood := { row := noteSignedRow, standIns := [], harness := (true, "bf6efdf3b4a7e915494f121cf4cc29997cde3f476c8b1ce8802ffe84cb9dc7dc"), looks := true }, kinds := [], alts := [], laidByText := true, laidKinds := [.data, .data, .data, .data, .sentinel, .sentinel, .pinned], laidTests := true, laidLooks := .later }
def NoteSignedCardSaid : Prop := Claim7.holds Tryz.pinned (.plain (OpenSpec.ofChange noteSignedSpec)) noteSignedCard

/-- THE SECOND FORM's CARD OF 'ostlerlaw14.MetaBack'. -/
def metaBackUptoCard : Claim7 := { stood := { row := metaBackUptoRow, standIns := [], harness := (true, "bf6efdf3b4a7e915494f121cf4cc29997cde3f476c8b1ce8802ffe84cb9dc7dc"), looks := true }, kinds := [], alts := [], laidByText := true, laidKinds := [.data, .data, .data], laidTests := true, laidLooks := .later }
def MetaBackUptoCardSaid : Prop := Claim7.holds Tryz.pinned (.plain (OpenSpec.upto metaBackSpec)) metaBackUptoCard

/-- THE SECOND FORM's CARD OF 'ostlerlaw14.MetaOpens'. -/
def metaOpensUptoCard : Claim7 := { stood := { row := metaOpensUptoRow, standIns := [], harness := (true, "bf6efdf3b4a7e915494f121cf4cc29997cde3f476c8b1ce8802ffe84cb9dc7dc"), looks := true }, kinds := [], alts := [], laidByText := true, laidKinds := [.data, .data, .data], laidTests := true, laidLooks := .later }
def MetaOpensUptoCardSaid : Prop := Claim7.holds Tryz.pinned (.plain (OpenSpec.upto metaOpensSpec)) metaOpensUptoCard

/-- THE SECOND FORM's CARD OF 'ostlerlaw14.MetaDocs'. -/
def metaDocsUptoCard : Claim7 := { stood := { row := metaDocsUptoRow, standIns := [], harness := (true, "bf6efdf3b4a7e915494f121cf4cc29997cde3f476c8b1ce8802ffe84cb9dc7dc"), looks := true }, kinds := [], alts := [], laidByText := true, laidKinds := [.data, .data, .data], laidTests := true, laidLooks := .later }
def MetaDocsUptoCardSaid : Prop := Claim7.holds Tryz.pinned (.plain (OpenSpec.upto metaDocsSpec)) metaDocsUptoCard

/-- THE SECOND FORM's CARD OF 'ostlerlaw11.NoteSigned'. -/
def noteSignedUptoCard : Claim7 := { stood := { row := noteSignedUptoRow, standIns := [], harness := (true, "bf6efdf3b4a7e915494f121cf4cc29997cde3f476c8b1ce8802ffe84cb9dc7dc"), looks := true }, kinds := [], alts := [], laidByText := true, laidKinds := [.data, .data, .data, .data, .sentinel, .sentinel, .pinned], laidTests := true, laidLooks := .later }
def NoteSignedUptoCardSaid : Prop := Claim7.holds Tryz.pinned (.plain (OpenSpec.upto noteSignedSpec)) noteSignedUptoCard
end Rows
end Go.Proofs.YtfohmbookjnkgaaGreatDoor
