/-
  DERIVED. GIVEN WITH THE SEED: THE CARDS: each row of YtdbfemdpdpaffaaDoorRows.lean that lists a variable, with what it lists TIED to the program's text (the seventh form; the later family's looks); each row that meets fmt, with fmt's text TOLD by the authors' own Lean function (tested against real Go, not proved from fmt's source: count such statements apart). THE CARD IS WHAT COUNTS. Prove the row's statement (the work); the ties are given (YtdbfemdpdpaffaaDoorTie.lean); close each card by the builder's one call (the guide's Derived/Test/ToyasCard.lean, 'card_holds'). Laid BY PROGRAM, IN A SANDBOX (cutbox-door.mjs). By AI agents, Wed Nov 11 2026. No macro, syntax, notation, axiom, sorry.
-/
import Derived.Test.YtdbfemdpdpaffaaDoorRows
import GoSem.ClaimSeven
namespace Go.Proofs.YtdbfemdpdpaffaaDoor
namespace Rows

/-- THE TIED CARD OF 'remitlaw16.PostingBack'. -/
def postingBackCard : Claim7 := { stood := { row := postingBackRow, standIns := [], harness := (true, "70711ed57219b9ac10f3000060434111425a2c13b0299544c9a51e35fd379c68"), looks := true }, kinds := [], alts := [], laidByText := true, laidKinds := [.sentinel, .sentinel, .sentinel, .sentinel, .sentinel, .sentinel, .sentinel, .sentinel, .sentinel, .sentinel, .sentinel, .sentinel, .sentinel, .sentinel, .sentinel, .sentinel, .sentinel, .sentinel, .sentinel, .sentinel, .sentinel, .sentinel, .sentinel, .sentinel, .sentinel, .sentinel, .sentinel, .sentinel, .sentinel, .sentinel, .sentinel, .sentinel, .sentinel, .sentinel, .sentinel, .sentinel, .sentinel], laidTests := true, laidLooks := .later }
def PostingBackCardSaid : Prop := Claim7.holds Tryd.pinned (.plain (OpenSpec.ofChange postingBackSpec)) postingBackCard

/-- THE TIED CARD OF 'remitlaw16.PostingSame'. -/
def postingSameCard : Claim7 := { stood := { row := postingSameRow, standIns := [], harness := (true, "70711ed57219b9ac10f3000060434111425a2c13b0299544c9a51e35fd379c68"), looks := true }, kinds := [], alts := [], laidByText := true, laidKinds := [.sentinel, .sentinel, .sentinel, .sentinel, .sentinel, .sentinel, .sentinel, .sentinel, .sentinel, .sentinel, .sentinel, .sentinel, .sentinel, .sentinel, .sentinel, .sentinel, .sentinel, .sentinel, .sentinel, .sentinel, .sentinel, .sentinel, .sentinel, .sentinel, .sentinel, .sentinel, .sentinel, .sentinel, .sentinel, .sentinel, .sentinel, .sentinel, .sentinel, .sentinel, .sentinel, .sentinel, .sentinel], laidTests := true, laidLooks := .later }
def PostingSameCardSaid : Prop := Claim7.holds Tryd.pinned (.plain (OpenSpec.ofChange postingSameSpec)) postingSameCard

/-- THE SECOND FORM's CARD OF 'remitlaw16.PostingBack'. -/
def postingBackUptoCard : Claim7 := { stood := { row := postingBackUptoRow, standIns := [], harness := (true, "70711ed57219b9ac10f3000060434111425a2c13b0299544c9a51e35fd379c68"), looks := true }, kinds := [], alts := [], laidByText := true, laidKinds := [.sentinel, .sentinel, .sentinel, .sentinel, .sentinel, .sentinel, .sentinel, .sentinel, .sentinel, .sentinel, .sentinel, .sentinel, .sentinel, .sentinel, .sentinel, .sentinel, .sentinel, .sentinel, .sentinel, .sentinel, .sentinel, .sentinel, .sentinel, .sentinel, .sentinel, .sentinel, .sentinel, .sentinel, .sentinel, .sentinel, .sentinel, .sentinel, .sentinel, .sentinel, .sentinel, .sentinel, .sentinel], laidTests := true, laidLooks := .later }
def PostingBackUptoCardSaid : Prop := Claim7.holds Tryd.pinned (.plain (OpenSpec.upto postingBackSpec)) postingBackUptoCard

/-- THE SECOND FORM's CARD OF 'remitlaw16.PostingSame'. -/
def postingSameUptoCard : Claim7 := { stood := { row := postingSameUptoRow, standIns := [], harness := (true, "70711ed57219b9ac10f3000060434111425a2c13b0299544c9a51e35fd379c68"), looks := true }, kinds := [], alts := [], laidByText := true, laidKinds := [.sentinel, .sentinel, .sentinel, .sentinel, .sentinel, .sentinel, .sentinel, .sentinel, .sentinel, .sentinel, .sentinel, .sentinel, .sentinel, .sentinel, .sentinel, .sentinel, .sentinel, .sentinel, .sentinel, .sentinel, .sentinel, .sentinel, .sentinel, .sentinel, .sentinel, .sentinel, .sentinel, .sentinel, .sentinel, .sentinel, .sentinel, .sentinel, .sentinel, .sentinel, .sentinel, .sentinel, .sentinel], laidTests := true, laidLooks := .later }
def PostingSameUptoCardSaid : Prop := Claim7.holds Tryd.pinned (.plain (OpenSpec.upto postingSameSpec)) postingSameUptoCard
end Rows
end Go.Proofs.YtdbfemdpdpaffaaDoor
