/-
  DERIVED. GIVEN WITH THE SEED: THE CARDS: each row of YtlnbkbfblhofbaaGreatDoorRows.lean that lists a variable, with what it lists TIED to the program's text (the seventh form; the later family's looks); each row that meets fmt, with fmt's text TOLD by the authors' own Lean function (tested against real Go, not proved from fmt's source: count such statements apart). THE CARD IS WHAT COUNTS. Prove the row's statement (the work); the ties are given (YtlnbkbfblhofbaaGreatDoorTie.lean); close each card by the builder's one call (the guide's Derived/Test/ToyasCard.lean, 'card_holds'). Laid BY PROGRAM, IN A SANDBOX (cutbox-door.mjs). By AI agents, Wed Nov 11 2026. No macro, syntax, notation, axiom, sorry.
-/
import Derived.Test.YtlnbkbfblhofbaaGreatDoorRows
import GoSem.ClaimSeven
namespace Go.Proofs.YtlnbkbfblhofbaaGreatDoor
namespace Rows

/-- THE TIED CARD OF 'remitlaw13.StoreImages'. -/
def storeImagesCard : Claim7 := { stood := { row := storeImagesRow, standIns := [], harness := (true, "6daffdae72d06af9acbcbff3e1f581353ab914a3ef832a95bdf763efca8f2c28"), looks := true }, kinds := [], alts := [], laidByText := true, laidKinds := [.sentinel, .sentinel, .sentinel, .sentinel, .sentinel, .sentinel, .sentinel, .sentinel, .sentinel, .sentinel, .sentinel, .sentinel, .sentinel, .sentinel, .sentinel, .sentinel, .sentinel, .sentinel, .sentinel, .sentinel, .sentinel, .sentinel, .sentinel, .sentinel, .sentinel, .sentinel, .sentinel, .sentinel, .sentinel, .sentinel, .sentinel, .sentinel, .sentinel, .sentinel, .sentinel, .sentinel, .sentinel, .data], laidTests := true, laidLooks := .later }
def StoreImagesCardSaid : Prop := Claim7.holds Tryz.pinned (.plain (OpenSpec.ofChange storeImagesSpec)) storeImagesCard

/-- THE SECOND FORM's CARD OF 'remitlaw13.StoreImages'. -/
def storeImagesUptoCard : Claim7 := { stood := { row := storeImagesUptoRow, standIns := [], harness := (true, "6daffdae72d06af9acbcbff3e1f581353ab914a3ef832a95bdf763efca8f2c28"), looks := true }, kinds := [], alts := [], laidByText := true, laidKinds := [.sentinel, .sentinel, .sentinel, .sentinel, .sentinel, .sentinel, .sentinel, .sentinel, .sentinel, .sentinel, .sentinel, .sentinel, .sentinel, .sentinel, .sentinel, .sentinel, .sentinel, .sentinel, .sentinel, .sentinel, .sentinel, .sentinel, .sentinel, .sentinel, .sentinel, .sentinel, .sentinel, .sentinel, .sentinel, .sentinel, .sentinel, .sentinel, .sentinel, .sentinel, .sentinel, .sentinel, .sentinel, .data], laidTests := true, laidLooks := .later }
def StoreImagesUptoCardSaid : Prop := Claim7.holds Tryz.pinned (.plain (OpenSpec.upto storeImagesSpec)) storeImagesUptoCard
end Rows
end Go.Proofs.YtlnbkbfblhofbaaGreatDoor
