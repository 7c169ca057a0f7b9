/-
  DERIVED. GIVEN WITH THE SEED: THE CARDS: each row of YtahgdagcnkpnbaaGreatDoorRows.lean that lists a variable, with what it lists TIED to the program's text (the seventh form; the later family's looks); each row that meets fmt, with fmt's text TOLD by the authors' own Lean function (tested against real Go, not proved from fmt's source: count such statements apart). THE CARD IS WHAT COUNTS. Prove the row's statement (the work); the ties are given (YtahgdagcnkpnbaaGreatDoorTie.lean); close each card by the builder's one call (the guide's Derived/Test/ToyasCard.lean, 'card_holds'). Laid BY PROGRAM, IN A SANDBOX (cutbox-door.mjs). By AI agents, Wed Nov 11 2026. No macro, syntax, notation, axiom, sorry.
-/
import Derived.Test.YtahgdagcnkpnbaaGreatDoorRows
import GoSem.ClaimSeven
namespace Go.Proofs.YtahgdagcnkpnbaaGreatDoor
namespace Rows

/-- THE TIED CARD OF 'remitlaw14.TxnBatch'. -/
def txnBatchCard : Claim7 := { stood := { row := txnBatchRow, standIns := [], harness := (true, "8af191ba53cd243b32371f09494f08cdbb76310dff1cfaaf016acb65aa955362"), looks := true }, kinds := [], alts := [], laidByText := true, laidKinds := [.sentinel, .sentinel, .sentinel, .sentinel, .sentinel, .sentinel, .sentinel, .sentinel, .sentinel, .sentinel, .sentinel, .sentinel, .sentinel, .sentinel, .sentinel, .sentinel, .data], laidTests := true, laidLooks := .later }
def TxnBatchCardSaid : Prop := Claim7.holds Tryz.pinned (.plain (OpenSpec.ofChange txnBatchSpec)) txnBatchCard

/-- THE TIED CARD OF 'remitlaw14.TxnPlays'. -/
def txnPlaysCard : Claim7 := { stood := { row := txnPlaysRow, standIns := [], harness := (true, "8af191ba53cd243b32371f09494f08cdbb76310dff1cfaaf016acb65aa955362"), looks := true }, kinds := [], alts := [], laidByText := true, laidKinds := [.sentinel, .sentinel, .sentinel, .sentinel, .sentinel, .sentinel, .sentinel, .sentinel, .sentinel, .sentinel, .sentinel, .sentinel, .sentinel, .sentinel, .sentinel, .sentinel, .sentinel, .sentinel, .sentinel, .sentinel, .sentinel, .sentinel, .sentinel, .sentinel, .sentinel, .sentinel, .sentinel, .sentinel, .sentinel, .sentinel, .sentinel, .sentinel, .sentinel, .sentinel, .sentinel, .sentinel, .sentinel, .data], laidTests := true, laidLooks := .later }
def TxnPlaysCardSaid : Prop := Claim7.holds Tryz.pinned (.plain (OpenSpec.ofChange txnPlaysSpec)) txnPlaysCard

/-- THE TIED CARD OF 'remitlaw14.TxnUndo'. -/
def txnUndoCard : Claim7 := { stood := { row := txnUndoRow, standIns := [], harness := (true, "8af191ba53cd243b32371f09494f08cdbb76310dff1cfaaf016acb65aa955362"), looks := true }, kinds := [], alts := [], laidByText := true, laidKinds := [.sentinel, .sentinel, .sentinel, .sentinel, .sentinel, .sentinel, .sentinel, .sentinel, .sentinel, .sentinel, .sentinel, .sentinel, .sentinel, .sentinel, .sentinel, .sentinel, .data], laidTests := true, laidLooks := .later }
def TxnUndoCardSaid : Prop := Claim7.holds Tryz.pinned (.plain (OpenSpec.ofChange txnUndoSpec)) txnUndoCard

/-- THE TIED CARD OF 'remitlaw14.TxnOwns'. -/
def txnOwnsCard : Claim7 := { stood := { row := txnOwnsRow, standIns := [], harness := (true, "8af191ba53cd243b32371f09494f08cdbb76310dff1cfaaf016acb65aa955362"), looks := true }, kinds := [], alts := [], laidByText := true, laidKinds := [.sentinel, .sentinel, .sentinel, .sentinel, .sentinel, .sentinel, .sentinel, .sentinel, .sentinel, .sentinel, .sentinel, .sentinel, .sentinel, .sentinel, .sentinel, .sentinel, .sentinel, .sentinel, .sentinel, .sentinel, .sentinel, .sentinel, .sentinel, .sentinel, .sentinel, .sentinel, .sentinel, .sentinel, .sentinel, .sentinel, .sentinel, .sentinel, .sentinel, .sentinel, .sentinel, .sentinel, .sentinel, .data], laidTests := true, laidLooks := .later }
def TxnOwnsCardSaid : Prop := Claim7.holds Tryz.pinned (.plain (OpenSpec.ofChange txnOwnsSpec)) txnOwnsCard

/-- THE TIED CARD OF 'remitlaw13.StoreRefused'. -/
def storeRefusedCard : Claim7 := { stood := { row := storeRefusedRow, standIns := [], harness := (true, "8af191ba53cd243b32371f09494f08cdbb76310dff1cfaaf016acb65aa955362"), looks := true }, kinds := [], alts := [], laidByText := true, laidKinds := [.sentinel, .sentinel, .sentinel, .sentinel, .sentinel, .sentinel, .sentinel, .sentinel, .sentinel, .sentinel, .sentinel, .sentinel, .sentinel, .sentinel, .sentinel, .sentinel, .sentinel, .sentinel, .sentinel, .sentinel, .sentinel, .sentinel, .sentinel, .sentinel, .sentinel, .sentinel, .sentinel, .sentinel, .sentinel, .sentinel, .sentinel, .sentinel, .sentinel, .sentinel, .sentinel, .sentinel, .sentinel, .data], laidTests := true, laidLooks := .later }
def StoreRefusedCardSaid : Prop := Claim7.holds Tryz.pinned (.plain (OpenSpec.ofChange storeRefusedSpec)) storeRefusedCard

/-- THE TIED CARD OF 'remitlaw13.StoreMemory'. -/
def storeMemoryCard : Claim7 := { stood := { row := storeMemoryRow, standIns := [], harness := (true, "8af191ba53cd243b32371f09494f08cdbb76310dff1cfaaf016acb65aa955362"), looks := true }, kinds := [], alts := [], laidByText := true, laidKinds := [.sentinel, .sentinel, .sentinel, .sentinel, .sentinel, .sentinel, .sentinel, .sentinel, .sentinel, .sentinel, .sentinel, .sentinel, .sentinel, .sentinel, .sentinel, .sentinel, .sentinel, .sentinel, .sentinel, .sentinel, .sentinel, .sentinel, .sentinel, .sentinel, .sentinel, .sentinel, .sentinel, .sentinel, .sentinel, .sentinel, .sentinel, .sentinel, .sentinel, .sentinel, .sentinel, .sentinel, .sentinel, .data], laidTests := true, laidLooks := .later }
def StoreMemoryCardSaid : Prop := Claim7.holds Tryz.pinned (.plain (OpenSpec.ofChange storeMemorySpec)) storeMemoryCard

/-- THE TIED CARD OF 'remitlaw13.StoreLayouts'. -/
def storeLayoutsCard : Claim7 := { stood := { row := storeLayoutsRow, standIns := [], harness := (true, "8af191ba53cd243b32371f09494f08cdbb76310dff1cfaaf016acb65aa955362"), looks := true }, kinds := [], alts := [], laidByText := true, laidKinds := [.sentinel, .sentinel, .sentinel, .sentinel, .sentinel, .sentinel, .sentinel, .sentinel, .sentinel, .sentinel, .sentinel, .sentinel, .sentinel, .sentinel, .sentinel, .sentinel, .sentinel, .sentinel, .sentinel, .sentinel, .sentinel, .sentinel, .sentinel, .sentinel, .sentinel, .sentinel, .sentinel, .sentinel, .sentinel, .sentinel, .sentinel, .sentinel, .sentinel, .sentinel, .sentinel, .sentinel, .sentinel, .data], laidTests := true, laidLooks := .later }
def StoreLayoutsCardSaid : Prop := Claim7.holds Tryz.pinned (.plain (OpenSpec.ofChange storeLayoutsSpec)) storeLayoutsCard

/-- THE TIED CARD OF 'remitlaw13.StoreFormats'. -/
def storeFormatsCard : Claim7 := { stood := { row := storeFormatsRow, standIns := [], harness := (true, "8af191ba53cd243b32371f09494f08cdbb76310dff1cfaaf016acb65aa955362"), looks := true }, kinds := [], alts := [], laidByText := true, laidKinds := [.sentinel, .sentinel, .sentinel, .sentinel, .sentinel, .sentinel, .sentinel, .sentinel, .sentinel, .sentinel, .sentinel, .sentinel, .sentinel, .sentinel, .sentinel, .sentinel, .sentinel, .sentinel, .sentinel, .sentinel, .sentinel, .sentinel, .sentinel, .sentinel, .sentinel, .sentinel, .sentinel, .sentinel, .sentinel, .sentinel, .sentinel, .sentinel, .sentinel, .sentinel, .sentinel, .sentinel, .sentinel, .data], laidTests := true, laidLooks := .later }
def StoreFormatsCardSaid : Prop := Claim7.holds Tryz.pinned (.plain (OpenSpec.ofChange storeFormatsSpec)) storeFormatsCard

/-- THE TIED CARD OF 'remitlaw13.StoreImages'. -/
def storeImagesCard : Claim7 := { stood := { row := storeImagesRow, standIns := [], harness := (true, "8af191ba53cd243b32371f09494f08cdbb76310dff1cfaaf016acb65aa955362"), looks := true }, kinds := [], alts := [], laidByText := true, laidKinds := [.sentinel, .sentinel, .sentinel, .sentinel, .sentinel, .sentinel, .sentinel, .sentinel, .sentinel, .sentinel, .sentinel, .sentinel, .sentinel, .sentinel, .sentinel, .sentinel, .sentinel, .sentinel, .sentinel, .sentinel, .sentinel, .sentinel, .sentinel, .sentinel, .sentinel, .sentinel, .sentinel, .sentinel, .sentinel, .sentinel, .sentinel, .sentinel, .sentinel, .sentinel, .sentinel, .sentinel, .sentinel, .data], laidTests := true, laidLooks := .later }
def StoreImagesCardSaid : Prop := Claim7.holds Tryz.pinned (.plain (OpenSpec.ofChange storeImagesSpec)) storeImagesCard

/-- THE TIED CARD OF 'remitlaw13.StoreWhole'. -/
def storeWholeCard : Claim7 := { stood := { row := storeWholeRow, standIns := [], harness := (true, "8af191ba53cd243b32371f09494f08cdbb76310dff1cfaaf016acb65aa955362"), looks := true }, kinds := [], alts := [], laidByText := true, laidKinds := [.sentinel, .sentinel, .sentinel, .sentinel, .sentinel, .sentinel, .sentinel, .sentinel, .sentinel, .sentinel, .sentinel, .sentinel, .sentinel, .sentinel, .sentinel, .sentinel, .sentinel, .sentinel, .sentinel, .sentinel, .sentinel, .sentinel, .sentinel, .sentinel, .sentinel, .sentinel, .sentinel, .sentinel, .sentinel, .sentinel, .sentinel, .sentinel, .sentinel, .sentinel, .sentinel, .sentinel, .sentinel, .data], laidTests := true, laidLooks := .later }
def StoreWholeCardSaid : Prop := Claim7.holds Tryz.pinned (.plain (OpenSpec.ofChange storeWholeSpec)) storeWholeCard

/-- THE TIED CARD OF 'remitlaw13.StorePlays'. -/
def storePlaysCard : Claim7 := { stood := { row := storePlaysRow, standIns := [], harness := (true, "8af191ba53cd243b32371f09494f08cdbb76310dff1cfaaf016acb65aa955362"), looks := true }, kinds := [], alts := [], laidByText := true, laidKinds := [.sentinel, .sentinel, .sentinel, .sentinel, .sentinel, .sentinel, .sentinel, .sentinel, .sentinel, .sentinel, .sentinel, .sentinel, .sentinel, .sentinel, .sentinel, .sentinel, .sentinel, .sentinel, .sentinel, .sentinel, .sentinel, .sentinel, .sentinel, .sentinel, .sentinel, .sentinel, .sentinel, .sentinel, .sentinel, .sentinel, .sentinel, .sentinel, .sentinel, .sentinel, .sentinel, .sentinel, .sentinel, .data], laidTests := true, laidLooks := .later }
def StorePlaysCardSaid : Prop := Claim7.holds Tryz.pinned (.plain (OpenSpec.ofChange storePlaysSpec)) storePlaysCard

/-- THE SECOND FORM's CARD OF 'remitlaw14.TxnBatch'. -/
def txnBatchUptoCard : Claim7 := { stood := { row := txnBatchUptoRow, standIns := [], harness := (true, "8af191ba53cd243b32371f09494f08cdbb76310dff1cfaaf016acb65aa955362"), looks := true }, kinds := [], alts := [], laidByText := true, laidKinds := [.sentinel, .sentinel, .sentinel, .sentinel, .sentinel, .sentinel, .sentinel, .sentinel, .sentinel, .sentinel, .sentinel, .sentinel, .sentinel, .sentinel, .sentinel, .sentinel, .data], laidTests := true, laidLooks := .later }
def TxnBatchUptoCardSaid : Prop := Claim7.holds Tryz.pinned (.plain (OpenSpec.upto txnBatchSpec)) txnBatchUptoCard

/-- THE SECOND FORM's CARD OF 'remitlaw14.TxnPlays'. -/
def txnPlaysUptoCard : Claim7 := { stood := { row := txnPlaysUptoRow, standIns := [], harness := (true, "8af191ba53cd243b32371f09494f08cdbb76310dff1cfaaf016acb65aa955362"), looks := true }, kinds := [], alts := [], laidByText := true, laidKinds := [.sentinel, .sentinel, .sentinel, .sentinel, .sentinel, .sentinel, .sentinel, .sentinel, .sentinel, .sentinel, .sentinel, .sentinel, .sentinel, .sentinel, .sentinel, .sentinel, .sentinel, .sentinel, .sentinel, .sentinel, .sentinel, .sentinel, .sentinel, .sentinel, .sentinel, .sentinel, .sentinel, .sentinel, .sentinel, .sentinel, .sentinel, .sentinel, .sentinel, .sentinel, .sentinel, .sentinel, .sentinel, .data], laidTests := true, laidLooks := .later }
def TxnPlaysUptoCardSaid : Prop := Claim7.holds Tryz.pinned (.plain (OpenSpec.upto txnPlaysSpec)) txnPlaysUptoCard

/-- THE SECOND FORM's CARD OF 'remitlaw14.TxnUndo'. -/
def txnUndoUptoCard : Claim7 := { stood := { row := txnUndoUptoRow, standIns := [], harness := (true, "8af191ba53cd243b32371f09494f08cdbb76310dff1cfaaf016acb65aa955362"), looks := true }, kinds := [], alts := [], laidByText := true, laidKinds := [.sentinel, .sentinel, .sentinel, .sentinel, .sentinel, .sentinel, .sentinel, .sentinel, .sentinel, .sentinel, .sentinel, .sentinel, .sentinel, .sentinel, .sentinel, .sentinel, .data], laidTests := true, laidLooks := .later }
def TxnUndoUptoCardSaid : Prop := Claim7.holds Tryz.pinned (.plain (OpenSpec.upto txnUndoSpec)) txnUndoUptoCard

/-- THE SECOND FORM's CARD OF 'remitlaw14.TxnOwns'. -/
def txnOwnsUptoCard : Claim7 := { stood := { row := txnOwnsUptoRow, standIns := [], harness := (true, "8af191ba53cd243b32371f09494f08cdbb76310dff1cfaaf016acb65aa955362"), looks := true }, kinds := [], alts := [], laidByText := true, laidKinds := [.sentinel, .sentinel, .sentinel, .sentinel, .sentinel, .sentinel, .sentinel, .sentinel, .sentinel, .sentinel, .sentinel, .sentinel, .sentinel, .sentinel, .sentinel, .sentinel, .sentinel, .sentinel, .sentinel, .sentinel, .sentinel, .sentinel, .sentinel, .sentinel, .sentinel, .sentinel, .sentinel, .sentinel, .sentinel, .sentinel, .sentinel, .sentinel, .sentinel, .sentinel, .sentinel, .sentinel, .sentinel, .data], laidTests := true, laidLooks := .later }
def TxnOwnsUptoCardSaid : Prop := Claim7.holds Tryz.pinned (.plain (OpenSpec.upto txnOwnsSpec)) txnOwnsUptoCard

/-- THE SECOND FORM's CARD OF 'remitlaw13.StoreRefused'. -/
def storeRefusedUptoCard : Claim7 := { stood := { row := storeRefusedUptoRow, standIns := [], harness := (true, "8af191ba53cd243b32371f09494f08cdbb76310dff1cfaaf016acb65aa955362"), looks := true }, kinds := [], alts := [], laidByText := true, laidKinds := [.sentinel, .sentinel, .sentinel, .sentinel, .sentinel, .sentinel, .sentinel, .sentinel, .sentinel, .sentinel, .sentinel, .sentinel, .sentinel, .sentinel, .sentinel, .sentinel, .sentinel, .sentinel, .sentinel, .sentinel, .sentinel, .sentinel, .sentinel, .sentinel, .sentinel, .sentinel, .sentinel, .sentinel, .sentinel, .sentinel, .sentinel, .sentinel, .sentinel, .sentinel, .sentinel, .sentinel, .sentinel, .data], laidTests := true, laidLooks := .later }
def StoreRefusedUptoCardSaid : Prop := Claim7.holds Tryz.pinned (.plain (OpenSpec.upto storeRefusedSpec)) storeRefusedUptoCard

/-- THE SECOND FORM's CARD OF 'remitlaw13.StoreMemory'. -/
def storeMemoryUptoCard : Claim7 := { stood := { row := storeMemoryUptoRow, standIns := [], harness := (true, "8af191ba53cd243b32371f09494f08cdbb76310dff1cfaaf016acb65aa955362"), looks := true }, kinds := [], alts := [], laidByText := true, laidKinds := [.sentinel, .sentinel, .sentinel, .sentinel, .sentinel, .sentinel, .sentinel, .sentinel, .sentinel, .sentinel, .sentinel, .sentinel, .sentinel, .sentinel, .sentinel, .sentinel, .sentinel, .sentinel, .sentinel, .sentinel, .sentinel, .sentinel, .sentinel, .sentinel, .sentinel, .sentinel, .sentinel, .sentinel, .sentinel, .sentinel, .sentinel, .sentinel, .sentinel, .sentinel, .sentinel, .sentinel, .sentinel, .data], laidTests := true, laidLooks := .later }
def StoreMemoryUptoCardSaid : Prop := Claim7.holds Tryz.pinned (.plain (OpenSpec.upto storeMemorySpec)) storeMemoryUptoCard

/-- THE SECOND FORM's CARD OF 'remitlaw13.StoreLayouts'. -/
def storeLayoutsUptoCard : Claim7 := { stood := { row := storeLayoutsUptoRow, standIns := [], harness := (true, "8af191ba53cd243b32371f09494f08cdbb76310dff1cfaaf016acb65aa955362"), looks := true }, kinds := [], alts := [], laidByText := true, laidKinds := [.sentinel, .sentinel, .sentinel, .sentinel, .sentinel, .sentinel, .sentinel, .sentinel, .sentinel, .sentinel, .sentinel, .sentinel, .sentinel, .sentinel, .sentinel, .sentinel, .sentinel, .sentinel, .sentinel, .sentinel, .sentinel, .sentinel, .sentinel, .sentinel, .sentinel, .sentinel, .sentinel, .sentinel, .sentinel, .sentinel, .sentinel, .sentinel, .sentinel, .sentinel, .sentinel, .sentinel, .sentinel, .data], laidTests := true, laidLooks := .later }
def StoreLayoutsUptoCardSaid : Prop := Claim7.holds Tryz.pinned (.plain (OpenSpec.upto storeLayoutsSpec)) storeLayoutsUptoCard

/-- THE SECOND FORM's CARD OF 'remitlaw13.StoreFormats'. -/
def storeFormatsUptoCard : Claim7 := { stood := { row := storeFormatsUptoRow, standIns := [], harness := (true, "8af191ba53cd243b32371f09494f08cdbb76310dff1cfaaf016acb65aa955362"), looks := true }, kinds := [], alts := [], laidByText := true, laidKinds := [.sentinel, .sentinel, .sentinel, .sentinel, .sentinel, .sentinel, .sentinel, .sentinel, .sentinel, .sentinel, .sentinel, .sentinel, .sentinel, .sentinel, .sentinel, .sentinel, .sentinel, .sentinel, .sentinel, .sentinel, .sentinel, .sentinel, .sentinel, .sentinel, .sentinel, .sentinel, .sentinel, .sentinel, .sentinel, .sentinel, .sentinel, .sentinel, .sentinel, .sentinel, .sentinel, .sentinel, .sentinel, .data], laidTests := true, laidLooks := .later }
def StoreFormatsUptoCardSaid : Prop := Claim7.holds Tryz.pinned (.plain (OpenSpec.upto storeFormatsSpec)) storeFormatsUptoCard

/-- THE SECOND FORM's CARD OF 'remitlaw13.StoreImages'. -/
def storeImagesUptoCard : Claim7 := { stood := { row := storeImagesUptoRow, standIns := [], harness := (true, "8af191ba53cd243b32371f09494f08cdbb76310dff1cfaaf016acb65aa955362"), looks := true }, kinds := [], alts := [], laidByText := true, laidKinds := [.sentinel, .sentinel, .sentinel, .sentinel, .sentinel, .sentinel, .sentinel, .sentinel, .sentinel, .sentinel, .sentinel, .sentinel, .sentinel, .sentinel, .sentinel, .sentinel, .sentinel, .sentinel, .sentinel, .sentinel, .sentinel, .sentinel, .sentinel, .sentinel, .sentinel, .sentinel, .sentinel, .sentinel, .sentinel, .sentinel, .sentinel, .sentinel, .sentinel, .sentinel, .sentinel, .sentinel, .sentinel, .data], laidTests := true, laidLooks := .later }
def StoreImagesUptoCardSaid : Prop := Claim7.holds Tryz.pinned (.plain (OpenSpec.upto storeImagesSpec)) storeImagesUptoCard

/-- THE SECOND FORM's CARD OF 'remitlaw13.StoreWhole'. -/
def storeWholeUptoCard : Claim7 := { stood := { row := storeWholeUptoRow, standIns := [], harness := (true, "8af191ba53cd243b32371f09494f08cdbb76310dff1cfaaf016acb65aa955362"), looks := true }, kinds := [], alts := [], laidByText := true, laidKinds := [.sentinel, .sentinel, .sentinel, .sentinel, .sentinel, .sentinel, .sentinel, .sentinel, .sentinel, .sentinel, .sentinel, .sentinel, .sentinel, .sentinel, .sentinel, .sentinel, .sentinel, .sentinel, .sentinel, .sentinel, .sentinel, .sentinel, .sentinel, .sentinel, .sentinel, .sentinel, .sentinel, .sentinel, .sentinel, .sentinel, .sentinel, .sentinel, .sentinel, .sentinel, .sentinel, .sentinel, .sentinel, .data], laidTests := true, laidLooks := .later }
def StoreWholeUptoCardSaid : Prop := Claim7.holds Tryz.pinned (.plain (OpenSpec.upto storeWholeSpec)) storeWholeUptoCard

/-- THE SECOND FORM's CARD OF 'remitlaw13.StorePlays'. -/
def storePlaysUptoCard : Claim7 := { stood := { row := storePlaysUptoRow, standIns := [], harness := (true, "8af191ba53cd243b32371f09494f08cdbb76310dff1cfaaf016acb65aa955362"), looks := true }, kinds := [], alts := [], laidByText := true, laidKinds := [.sentinel, .sentinel, .sentinel, .sentinel, .sentinel, .sentinel, .sentinel, .sentinel, .sentinel, .sentinel, .sentinel, .sentinel, .sentinel, .sentinel, .sentinel, .sentinel, .sentinel, .sentinel, .sentinel, .sentinel, .sentinel, .sentinel, .sentinel, .sentinel, .sentinel, .sentinel, .sentinel, .sentinel, .sentinel, .sentinel, .sentinel, .sentinel, .sentinel, .sentinel, .sentinel, .sentinel, .sentinel, .data], laidTests := true, laidLooks := .later }
def StorePlaysUptoCardSaid : Prop := Claim7.holds Tryz.pinned (.plain (OpenSpec.upto storePlaysSpec)) storePlaysUptoCard
end Rows
end Go.Proofs.YtahgdagcnkpnbaaGreatDoor
