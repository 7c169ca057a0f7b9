/-
  DERIVED. GIVEN WITH THE SEED: THE CARDS: each row of YthpljnpaolaciaaGreatDoorRows.lean that lists a variable, with what it lists TIED to the program's text (the seventh form; the later family's looks); each row that meets fmt, with fmt's text TOLD by the authors' own Lean function (tested against real Go, not proved from fmt's source: count such statements apart). THE CARD IS WHAT COUNTS. Prove the row's statement (the work); the ties are given (YthpljnpaolaciaaGreatDoorTie.lean); close each card by the builder's one call (the guide's Derived/Test/ToyasCard.lean, 'card_holds'). Laid BY PROGRAM, IN A SANDBOX (cutbox-door.mjs). By AI agents, Wed Nov 11 2026. No macro, syntax, notation, axiom, sorry.
-/
import Derived.Test.YthpljnpaolaciaaGreatDoorRows
import GoSem.ClaimSeven
namespace Go.Proofs.YthpljnpaolaciaaGreatDoor
namespace Rows

/-- THE TIED CARD OF 'remitlaw19.WindowsSum'. -/
def windowsSumCard : Claim7 := { stood := { row := windowsSumRow, standIns := [], harness := (true, "4b1ba025ca6df6174a6680783694186ea852e701665fd908cc5333260cd2a05b"), looks := true }, kinds := [], alts := [], laidByText := true, laidKinds := [.sentinel, .sentinel, .sentinel, .sentinel, .sentinel, .sentinel, .sentinel, .sentinel, .sentinel, .sentinel, .sentinel, .sentinel, .sentinel, .sentinel, .sentinel, .sentinel, .sentinel, .sentinel, .sentinel, .sentinel, .sentinel, .sentinel, .sentinel, .sentinel, .sentinel, .sentinel, .sentinel, .sentinel, .sentinel, .sentinel, .sentinel, .sentinel, .sentinel, .sentinel, .sentinel, .sentinel, .sentinel, .data], laidTests := true, laidLooks := .later }
def WindowsSumCardSaid : Prop := Claim7.holds Tryz.pinned (.plain (OpenSpec.ofChange windowsSumSpec)) windowsSumCard

/-- THE TIED CARD OF 'remitlaw19.WindowsNone'. -/
def windowsNoneCard : Claim7 := { stood := { row := windowsNoneRow, standIns := [], harness := (true, "4b1ba025ca6df6174a6680783694186ea852e701665fd908cc5333260cd2a05b"), looks := true }, kinds := [], alts := [], laidByText := true, laidKinds := [.sentinel, .sentinel, .sentinel, .sentinel, .sentinel, .sentinel, .sentinel, .sentinel, .sentinel, .sentinel, .sentinel, .sentinel, .sentinel, .sentinel, .sentinel, .sentinel, .sentinel, .sentinel, .sentinel, .sentinel, .sentinel, .sentinel, .sentinel, .sentinel, .sentinel, .sentinel, .sentinel, .sentinel, .sentinel, .sentinel, .sentinel, .sentinel, .sentinel, .sentinel, .sentinel, .sentinel, .sentinel, .data], laidTests := true, laidLooks := .later }
def WindowsNoneCardSaid : Prop := Claim7.holds Tryz.pinned (.plain (OpenSpec.ofChange windowsNoneSpec)) windowsNoneCard

/-- THE TIED CARD OF 'remitlaw19.WindowsPlays'. -/
def windowsPlaysCard : Claim7 := { stood := { row := windowsPlaysRow, standIns := [], harness := (true, "4b1ba025ca6df6174a6680783694186ea852e701665fd908cc5333260cd2a05b"), looks := true }, kinds := [], alts := [], laidByText := true, laidKinds := [.sentinel, .sentinel, .sentinel, .sentinel, .sentinel, .sentinel, .sentinel, .sentinel, .sentinel, .sentinel, .sentinel, .sentinel, .sentinel, .sentinel, .sentinel, .sentinel, .sentinel, .sentinel, .sentinel, .sentinel, .sentinel, .sentinel, .sentinel, .sentinel, .sentinel, .sentinel, .sentinel, .sentinel, .sentinel, .sentinel, .sentinel, .sentinel, .sentinel, .sentinel, .sentinel, .sentinel, .sentinel, .data], laidTests := true, laidLooks := .later }
def WindowsPlaysCardSaid : Prop := Claim7.holds Tryz.pinned (.plain (OpenSpec.ofChange windowsPlaysSpec)) windowsPlaysCard

/-- THE SECOND FORM's CARD OF 'remitlaw19.WindowsSum'. -/
def windowsSumUptoCard : Claim7 := { stood := { row := windowsSumUptoRow, standIns := [], harness := (true, "4b1ba025ca6df6174a6680783694186ea852e701665fd908cc5333260cd2a05b"), looks := true }, kinds := [], alts := [], laidByText := true, laidKinds := [.sentinel, .sentinel, .sentinel, .sentinel, .sentinel, .sentinel, .sentinel, .sentinel, .sentinel, .sentinel, .sentinel, .sentinel, .sentinel, .sentinel, .sentinel, .sentinel, .sentinel, .sentinel, .sentinel, .sentinel, .sentinel, .sentinel, .sentinel, .sentinel, .sentinel, .sentinel, .sentinel, .sentinel, .sentinel, .sentinel, .sentinel, .sentinel, .sentinel, .sentinel, .sentinel, .sentinel, .sentinel, .data], laidTests := true, laidLooks := .later }
def WindowsSumUptoCardSaid : Prop := Claim7.holds Tryz.pinned (.plain (OpenSpec.upto windowsSumSpec)) windowsSumUptoCard

/-- THE SECOND FORM's CARD OF 'remitlaw19.WindowsNone'. -/
def windowsNoneUptoCard : Claim7 := { stood := { row := windowsNoneUptoRow, standIns := [], harness := (true, "4b1ba025ca6df6174a6680783694186ea852e701665fd908cc5333260cd2a05b"), looks := true }, kinds := [], alts := [], laidByText := true, laidKinds := [.sentinel, .sentinel, .sentinel, .sentinel, .sentinel, .sentinel, .sentinel, .sentinel, .sentinel, .sentinel, .sentinel, .sentinel, .sentinel, .sentinel, .sentinel, .sentinel, .sentinel, .sentinel, .sentinel, .sentinel, .sentinel, .sentinel, .sentinel, .sentinel, .sentinel, .sentinel, .sentinel, .sentinel, .sentinel, .sentinel, .sentinel, .sentinel, .sentinel, .sentinel, .sentinel, .sentinel, .sentinel, .data], laidTests := true, laidLooks := .later }
def WindowsNoneUptoCardSaid : Prop := Claim7.holds Tryz.pinned (.plain (OpenSpec.upto windowsNoneSpec)) windowsNoneUptoCard

/-- THE SECOND FORM's CARD OF 'remitlaw19.WindowsPlays'. -/
def windowsPlaysUptoCard : Claim7 := { stood := { row := windowsPlaysUptoRow, standIns := [], harness := (true, "4b1ba025ca6df6174a6680783694186ea852e701665fd908cc5333260cd2a05b"), looks := true }, kinds := [], alts := [], laidByText := true, laidKinds := [.sentinel, .sentinel, .sentinel, .sentinel, .sentinel, .sentinel, .sentinel, .sentinel, .sentinel, .sentinel, .sentinel, .sentinel, .sentinel, .sentinel, .sentinel, .sentinel, .sentinel, .sentinel, .sentinel, .sentinel, .sentinel, .sentinel, .sentinel, .sentinel, .sentinel, .sentinel, .sentinel, .sentinel, .sentinel, .sentinel, .sentinel, .sentinel, .sentinel, .sentinel, .sentinel, .sentinel, .sentinel, .data], laidTests := true, laidLooks := .later }
def WindowsPlaysUptoCardSaid : Prop := Claim7.holds Tryz.pinned (.plain (OpenSpec.upto windowsPlaysSpec)) windowsPlaysUptoCard
end Rows
end Go.Proofs.YthpljnpaolaciaaGreatDoor
