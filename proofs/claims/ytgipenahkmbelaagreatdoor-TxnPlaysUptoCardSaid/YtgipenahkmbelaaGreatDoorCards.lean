/-
  DERIVED. GIVEN WITH THE SEED: THE CARDS: each row of YtgipenahkmbelaaGreatDoorRows.lean that lists a variable, with what it lists TIED to the program's text (the seventh form; the later family's looks); each row that meets fmt, with fmt's text TOLD by the authors' own Lean function (tested against real Go, not proved from fmt's source: count such statements apart). THE CARD IS WHAT COUNTS. Prove the row's statement (the work); the ties are given (YtgipenahkmbelaaGreatDoorTie.lean); close each card by the builder's one call (the guide's Derived/Test/ToyasCard.lean, 'card_holds'). Laid BY PROGRAM, IN A SANDBOX (cutbox-door.mjs). By AI agents, Wed Nov 11 2026. No macro, syntax, notation, axiom, sorry.
-/
import Derived.Test.YtgipenahkmbelaaGreatDoorRows
import GoSem.ClaimSeven
namespace Go.Proofs.YtgipenahkmbelaaGreatDoor
namespace Rows

/-- THE TIED CARD OF 'remitlaw14.TxnPlays'. -/
def txnPlaysCard : Claim7 := { stood := { row := txnPlaysRow, standIns := [], harness := (true, "1729810d0a8f7318a78047a4137eca418e645d9e494e71d63f61ae44bfad348f"), looks := true }, kinds := [], alts := [], laidByText := true, laidKinds := [.sentinel, .sentinel, .sentinel, .sentinel, .sentinel, .sentinel, .sentinel, .sentinel, .sentinel, .sentinel, .sentinel, .sentinel, .sentinel, .sentinel, .sentinel, .sentinel, .sentinel, .sentinel, .sentinel, .sentinel, .sentinel, .sentinel, .sentinel, .sentinel, .sentinel, .sentinel, .sentinel, .sentinel, .sentinel, .sentinel, .sentinel, .sentinel, .sentinel, .sentinel, .sentinel, .sentinel, .sentinel, .data], laidTests := true, laidLooks := .later }
def TxnPlaysCardSaid : Prop := Claim7.holds Tryz.pinned (.plain (OpenSpec.ofChange txnPlaysSpec)) txnPlaysCard

/-- THE SECOND FORM's CARD OF 'remitlaw14.TxnPlays'. -/
def txnPlaysUptoCard : Claim7 := { stood := { row := txnPlaysUptoRow, standIns := [], harness := (true, "1729810d0a8f7318a78047a4137eca418e645d9e494e71d63f61ae44bfad348f"), looks := true }, kinds := [], alts := [], laidByText := true, laidKinds := [.sentinel, .sentinel, .sentinel, .sentinel, .sentinel, .sentinel, .sentinel, .sentinel, .sentinel, .sentinel, .sentinel, .sentinel, .sentinel, .sentinel, .sentinel, .sentinel, .sentinel, .sentinel, .sentinel, .sentinel, .sentinel, .sentinel, .sentinel, .sentinel, .sentinel, .sentinel, .sentinel, .sentinel, .sentinel, .sentinel, .sentinel, .sentinel, .sentinel, .sentinel, .sentinel, .sentinel, .sentinel, .data], laidTests := true, laidLooks := .later }
def TxnPlaysUptoCardSaid : Prop := Claim7.holds Tryz.pinned (.plain (OpenSpec.upto txnPlaysSpec)) txnPlaysUptoCard
end Rows
end Go.Proofs.YtgipenahkmbelaaGreatDoor
