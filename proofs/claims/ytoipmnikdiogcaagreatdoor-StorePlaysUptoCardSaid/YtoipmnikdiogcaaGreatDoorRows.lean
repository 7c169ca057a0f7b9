/-
  NARROWER THAN 'FOR EVERY INPUT', by the rows' own cells (each row's printed sentence says how): StorePlays: laid.
  DERIVED. THE GIVEN ROWS OF THIS SEAT. 1 by the template 'for every input the law returns true; each argument reads behind the call as it read before'; 0 by the template 'total and deterministic' (their statements: YtoipmnikdiogcaaGreatDoorTotals.lean).
  GIVEN WITH THE SEED: the statements are not yours to turn. If you find one false, say at which input.
  Laid BY PROGRAM, IN A SANDBOX (cutbox-rows.mjs): the forced cells as the released guide's own fill.sh prints them over the translation 12beffce5c2c20dd… (all of the seat's roots in one cut). By AI agents, Wed Nov 11 2026. No macro, syntax, notation, axiom, sorry.
-/
import Derived.Test.YtoipmnikdiogcaaGreatDoorChecked
import GoSem.Claim
import GoSem.ClaimJoined
import GoSem.ClaimMapViews
import Derived.JoinedTies
import Derived.KernelRfl
namespace Go.Proofs.YtoipmnikdiogcaaGreatDoor
/- THE CELL 'sum', in the pinned program and in every row, IS THE sha256 OF THE DUMP (.gsa) THAT YtoipmnikdiogcaaGreatDoorProg.lean LOADS. Nothing in Lean hashes anything: it is a label: what it is worth is what the hold of that sum in a sandbox is worth. -/
noncomputable def Tryz.pinned : Pinned := { name := "ytoipmnikdiogcaagreatdoor", sum := "12beffce5c2c20dd896e2a95690618968e100efb089b013d55f9612790ed6de9", checked := Tryz.checked }
namespace Rows
def none {H : Type} : Left H := { results := [], args := [] }

/- WHAT THE LISTED PACKAGE-LEVEL VARIABLES READ AS WHEN THE CALL BEGINS. Each datum BY PROGRAM (the guide's laid-datum.mjs) off the statement by which the dump's own 'gosem.cut.vars' lays the variable. In a bare row this is a premise. The card (YtoipmnikdiogcaaGreatDoorCards.lean) ties it to the program's text. -/
def laid_remit_api_ErrShort {H : Type} : DataW H := .iface "*errors.errorString" (.ptr (.agg [.lit (.string [114, 101, 109, 105, 116, 58, 32, 116, 111, 111, 32, 115, 104, 111, 114, 116])]))
def laid_remit_api_ErrVarint {H : Type} : DataW H := .iface "*errors.errorString" (.ptr (.agg [.lit (.string [114, 101, 109, 105, 116, 58, 32, 118, 97, 114, 105, 110, 116])]))
def laid_remit_api_ErrLimit {H : Type} : DataW H := .iface "*errors.errorString" (.ptr (.agg [.lit (.string [114, 101, 109, 105, 116, 58, 32, 108, 105, 109, 105, 116])]))
def laid_remit_api_ErrOrder {H : Type} : DataW H := .iface "*errors.errorString" (.ptr (.agg [.lit (.string [114, 101, 109, 105, 116, 58, 32, 111, 114, 100, 101, 114])]))
def laid_remit_api_ErrTail {H : Type} : DataW H := .iface "*errors.errorString" (.ptr (.agg [.lit (.string [114, 101, 109, 105, 116, 58, 32, 116, 97, 105, 108])]))
def laid_remit_api_ErrRange {H : Type} : DataW H := .iface "*errors.errorString" (.ptr (.agg [.lit (.string [114, 101, 109, 105, 116, 58, 32, 114, 97, 110, 103, 101])]))
def laid_remit_api_ErrForm {H : Type} : DataW H := .iface "*errors.errorString" (.ptr (.agg [.lit (.string [114, 101, 109, 105, 116, 58, 32, 102, 111, 114, 109])]))
def laid_remit_api_ErrDigits {H : Type} : DataW H := .iface "*errors.errorString" (.ptr (.agg [.lit (.string [114, 101, 109, 105, 116, 58, 32, 99, 104, 101, 99, 107, 32, 100, 105, 103, 105, 116, 115])]))
def laid_remit_api_ErrAmount {H : Type} : DataW H := .iface "*errors.errorString" (.ptr (.agg [.lit (.string [114, 101, 109, 105, 116, 58, 32, 97, 109, 111, 117, 110, 116])]))
def laid_remit_api_ErrOverflow {H : Type} : DataW H := .iface "*errors.errorString" (.ptr (.agg [.lit (.string [114, 101, 109, 105, 116, 58, 32, 111, 118, 101, 114, 102, 108, 111, 119])]))
def laid_remit_api_ErrCurrency {H : Type} : DataW H := .iface "*errors.errorString" (.ptr (.agg [.lit (.string [114, 101, 109, 105, 116, 58, 32, 99, 117, 114, 114, 101, 110, 99, 121])]))
def laid_remit_api_ErrDown {H : Type} : DataW H := .iface "*errors.errorString" (.ptr (.agg [.lit (.string [114, 101, 109, 105, 116, 58, 32, 100, 111, 119, 110])]))
def laid_remit_api_ErrSmall {H : Type} : DataW H := .iface "*errors.errorString" (.ptr (.agg [.lit (.string [114, 101, 109, 105, 116, 58, 32, 115, 109, 97, 108, 108])]))
def laid_remit_api_ErrBlank {H : Type} : DataW H := .iface "*errors.errorString" (.ptr (.agg [.lit (.string [114, 101, 109, 105, 116, 58, 32, 98, 108, 97, 110, 107])]))
def laid_remit_api_ErrCorrupt {H : Type} : DataW H := .iface "*errors.errorString" (.ptr (.agg [.lit (.string [114, 101, 109, 105, 116, 58, 32, 99, 111, 114, 114, 117, 112, 116])]))
def laid_remit_api_ErrWorn {H : Type} : DataW H := .iface "*errors.errorString" (.ptr (.agg [.lit (.string [114, 101, 109, 105, 116, 58, 32, 119, 111, 114, 110])]))
def laid_remit_api_ErrFull {H : Type} : DataW H := .iface "*errors.errorString" (.ptr (.agg [.lit (.string [114, 101, 109, 105, 116, 58, 32, 102, 117, 108, 108])]))
def laid_remit_api_ErrLarge {H : Type} : DataW H := .iface "*errors.errorString" (.ptr (.agg [.lit (.string [114, 101, 109, 105, 116, 58, 32, 108, 97, 114, 103, 101])]))
def laid_remit_api_ErrClosed {H : Type} : DataW H := .iface "*errors.errorString" (.ptr (.agg [.lit (.string [114, 101, 109, 105, 116, 58, 32, 99, 108, 111, 115, 101, 100])]))
def laid_remit_api_ErrAccount {H : Type} : DataW H := .iface "*errors.errorString" (.ptr (.agg [.lit (.string [114, 101, 109, 105, 116, 58, 32, 97, 99, 99, 111, 117, 110, 116])]))
def laid_remit_api_ErrExists {H : Type} : DataW H := .iface "*errors.errorString" (.ptr (.agg [.lit (.string [114, 101, 109, 105, 116, 58, 32, 101, 120, 105, 115, 116, 115])]))
def laid_remit_api_ErrFrozen {H : Type} : DataW H := .iface "*errors.errorString" (.ptr (.agg [.lit (.string [114, 101, 109, 105, 116, 58, 32, 102, 114, 111, 122, 101, 110])]))
def laid_remit_api_ErrFunds {H : Type} : DataW H := .iface "*errors.errorString" (.ptr (.agg [.lit (.string [114, 101, 109, 105, 116, 58, 32, 102, 117, 110, 100, 115])]))
def laid_remit_api_ErrLegs {H : Type} : DataW H := .iface "*errors.errorString" (.ptr (.agg [.lit (.string [114, 101, 109, 105, 116, 58, 32, 108, 101, 103, 115])]))
def laid_remit_api_ErrConflict {H : Type} : DataW H := .iface "*errors.errorString" (.ptr (.agg [.lit (.string [114, 101, 109, 105, 116, 58, 32, 99, 111, 110, 102, 108, 105, 99, 116])]))
def laid_remit_api_ErrId {H : Type} : DataW H := .iface "*errors.errorString" (.ptr (.agg [.lit (.string [114, 101, 109, 105, 116, 58, 32, 105, 100])]))
def laid_remit_api_ErrPayee {H : Type} : DataW H := .iface "*errors.errorString" (.ptr (.agg [.lit (.string [114, 101, 109, 105, 116, 58, 32, 112, 97, 121, 101, 101])]))
def laid_remit_api_ErrRail {H : Type} : DataW H := .iface "*errors.errorString" (.ptr (.agg [.lit (.string [114, 101, 109, 105, 116, 58, 32, 114, 97, 105, 108])]))
def laid_remit_api_ErrBusy {H : Type} : DataW H := .iface "*errors.errorString" (.ptr (.agg [.lit (.string [114, 101, 109, 105, 116, 58, 32, 98, 117, 115, 121])]))
def laid_remit_api_ErrWindow {H : Type} : DataW H := .iface "*errors.errorString" (.ptr (.agg [.lit (.string [114, 101, 109, 105, 116, 58, 32, 119, 105, 110, 100, 111, 119])]))
def laid_remit_api_ErrPhase {H : Type} : DataW H := .iface "*errors.errorString" (.ptr (.agg [.lit (.string [114, 101, 109, 105, 116, 58, 32, 112, 104, 97, 115, 101])]))
def laid_remit_api_ErrToken {H : Type} : DataW H := .iface "*errors.errorString" (.ptr (.agg [.lit (.string [114, 101, 109, 105, 116, 58, 32, 116, 111, 107, 101, 110])]))
def laid_remit_api_ErrTime {H : Type} : DataW H := .iface "*errors.errorString" (.ptr (.agg [.lit (.string [114, 101, 109, 105, 116, 58, 32, 116, 105, 109, 101])]))
def laid_remit_api_ErrUnknown {H : Type} : DataW H := .iface "*errors.errorString" (.ptr (.agg [.lit (.string [114, 101, 109, 105, 116, 58, 32, 117, 110, 107, 110, 111, 119, 110])]))
def laid_remit_api_ErrConfig {H : Type} : DataW H := .iface "*errors.errorString" (.ptr (.agg [.lit (.string [114, 101, 109, 105, 116, 58, 32, 99, 111, 110, 102, 105, 103, 117, 114, 97, 116, 105, 111, 110])]))
def laid_remit_api_ErrCommand {H : Type} : DataW H := .iface "*errors.errorString" (.ptr (.agg [.lit (.string [114, 101, 109, 105, 116, 58, 32, 99, 111, 109, 109, 97, 110, 100])]))
def laid_remit_api_ErrUse {H : Type} : DataW H := .iface "*errors.errorString" (.ptr (.agg [.lit (.string [114, 101, 109, 105, 116, 58, 32, 105, 110, 32, 117, 115, 101])]))
def laid_remit_checks_nibbles {H : Type} : DataW H := .agg [.lit (.int .u32 0), .lit (.int .u32 274646895), .lit (.int .u32 549293790), .lit (.int .u32 820201905), .lit (.int .u32 1098587580), .lit (.int .u32 1361435347), .lit (.int .u32 1640403810), .lit (.int .u32 1905808397), .lit (.int .u32 2197175160), .lit (.int .u32 2460548119), .lit (.int .u32 2722870694), .lit (.int .u32 2987750089), .lit (.int .u32 3280807620), .lit (.int .u32 3553878443), .lit (.int .u32 3811616794), .lit (.int .u32 4084100981)]

/-- 'remitlaw13.StorePlays': WHATEVER THE INPUT: true; the input reads as it did. -/
def storePlaysSpec : ChangeSpec := { name := "storePlays", fn := fun _ => fun
  | [d1, d2] => { results := [.lit (.bool true)], args := [d1, d2] }
  | _ => none }
def storePlaysRow : OpenClaim := { program := "ytoipmnikdiogcaagreatdoor", sum := "12beffce5c2c20dd896e2a95690618968e100efb089b013d55f9612790ed6de9", func := "remit/remitlaw13.StorePlays", spec := "storePlays", inPlace := ["internal/abi.NoEscape", "internal/reflectlite.ValueOf", "internal/reflectlite.Swapper", "(internal/reflectlite.Value).Len"], unfollowed := true, recurses := true, named := ["remit/api.ErrRange", "remit/api.ErrSmall", "remit/api.ErrDown", "remit/api.ErrCorrupt", "remit/api.ErrBlank", "remit/api.ErrForm", "remit/api.ErrLimit", "remit/checks.nibbles", "remit/api.ErrShort", "remit/api.ErrVarint", "remit/api.ErrTail", "remit/api.ErrOrder", "remit/api.ErrWorn", "remit/api.ErrExists", "remit/api.ErrFull", "remit/api.ErrDigits", "remit/api.ErrAmount", "remit/api.ErrOverflow", "remit/api.ErrCurrency", "remit/api.ErrLarge", "remit/api.ErrClosed", "remit/api.ErrAccount", "remit/api.ErrFrozen", "remit/api.ErrFunds", "remit/api.ErrLegs", "remit/api.ErrConflict", "remit/api.ErrId", "remit/api.ErrPayee", "remit/api.ErrRail", "remit/api.ErrBusy", "remit/api.ErrWindow", "remit/api.ErrPhase", "remit/api.ErrToken", "remit/api.ErrTime", "remit/api.ErrUnknown", "remit/api.ErrConfig", "remit/api.ErrCommand", "remit/api.ErrUse"], apart := false, laid := [("remit/api.ErrShort", laid_remit_api_ErrShort), ("remit/api.ErrVarint", laid_remit_api_ErrVarint), ("remit/api.ErrLimit", laid_remit_api_ErrLimit), ("remit/api.ErrOrder", laid_remit_api_ErrOrder), ("remit/api.ErrTail", laid_remit_api_ErrTail), ("remit/api.ErrRange", laid_remit_api_ErrRange), ("remit/api.ErrForm", laid_remit_api_ErrForm), ("remit/api.ErrDigits", laid_remit_api_ErrDigits), ("remit/api.ErrAmount", laid_remit_api_ErrAmount), ("remit/api.ErrOverflow", laid_remit_api_ErrOverflow), ("remit/api.ErrCurrency", laid_remit_api_ErrCurrency), ("remit/api.ErrDown", laid_remit_api_ErrDown), ("remit/api.ErrSmall", laid_remit_api_ErrSmall), ("remit/api.ErrBlank", laid_remit_api_ErrBlank), ("remit/api.ErrCorrupt", laid_remit_api_ErrCorrupt), ("remit/api.ErrWorn", laid_remit_api_ErrWorn), ("remit/api.ErrFull", laid_remit_api_ErrFull), ("remit/api.ErrLarge", laid_remit_api_ErrLarge), ("remit/api.ErrClosed", laid_remit_api_ErrClosed), ("remit/api.ErrAccount", laid_remit_api_ErrAccount), ("remit/api.ErrExists", laid_remit_api_ErrExists), ("remit/api.ErrFrozen", laid_remit_api_ErrFrozen), ("remit/api.ErrFunds", laid_remit_api_ErrFunds), ("remit/api.ErrLegs", laid_remit_api_ErrLegs), ("remit/api.ErrConflict", laid_remit_api_ErrConflict), ("remit/api.ErrId", laid_remit_api_ErrId), ("remit/api.ErrPayee", laid_remit_api_ErrPayee), ("remit/api.ErrRail", laid_remit_api_ErrRail), ("remit/api.ErrBusy", laid_remit_api_ErrBusy), ("remit/api.ErrWindow", laid_remit_api_ErrWindow), ("remit/api.ErrPhase", laid_remit_api_ErrPhase), ("remit/api.ErrToken", laid_remit_api_ErrToken), ("remit/api.ErrTime", laid_remit_api_ErrTime), ("remit/api.ErrUnknown", laid_remit_api_ErrUnknown), ("remit/api.ErrConfig", laid_remit_api_ErrConfig), ("remit/api.ErrCommand", laid_remit_api_ErrCommand), ("remit/api.ErrUse", laid_remit_api_ErrUse), ("remit/checks.nibbles", laid_remit_checks_nibbles)] }
def StorePlaysSaid : Prop := storePlaysRow.holds Tryz.pinned (OpenSpec.ofChange storePlaysSpec)

/-- ITS FALSE NEIGHBOUR: 'it returns false'. Refute it at one input. -/
def storePlaysWrong : ChangeSpec := { name := "storePlays", fn := fun _ => fun
  | [d1, d2] => { results := [.lit (.bool false)], args := [d1, d2] }
  | _ => none }
def StorePlaysWrongFalsely : Prop := storePlaysRow.holds Tryz.pinned (OpenSpec.ofChange storePlaysWrong)

/- THE SECOND FORM. 'bulk': how many values and letters a reading holds, each counted each time it is reached (what is shared counts as often as it is met; a slice's spare places count too). A statement '..UptoSaid' is the law's where the arguments, and the package variables that the reading takes, are together of bulk at most 1048576: NARROWER than '..Said'. Prove '..Said' where nothing that the law and all that it calls make is longer than what came in: it says more and counts as full. Else prove '..UptoSaid'. A law counts once. -/
mutual
def uptoBulk {H : Type} : DataW H → Nat
  | .lit (.string bytes) => bytes.length + 1
  | .lit _ => 1
  | .nil => 1
  | .ptr d => uptoBulk d + 1
  | .slice elems spare => uptoBulkAll elems + uptoBulkAll spare + 1
  | .agg parts => uptoBulkAll parts + 1
  | .iface _ d => uptoBulk d + 1
  | .map entries => uptoBulkEntries entries + 1
  | .held _ => 1
def uptoBulkAll {H : Type} : List (DataW H) → Nat
  | [] => 0
  | d :: r => uptoBulk d + uptoBulkAll r
def uptoBulkEntries {H : Type} : List (Lit × DataW H) → Nat
  | [] => 0
  | x :: r => uptoBulkEntry x + uptoBulkEntries r
def uptoBulkEntry {H : Type} : Lit × DataW H → Nat
  | (.string bytes, d) => bytes.length + uptoBulk d + 1
  | (_, d) => uptoBulk d + 1
 end
def uptoSmall : (H : Type) → List (DataW H) → Bool := fun _ ds => decide (uptoBulkAll ds ≤ 1048576)
def OpenSpec.upto (s : _root_.Go.ChangeSpec) : _root_.Go.OpenSpec := { _root_.Go.OpenSpec.ofChange s with cond := some uptoSmall }

/-- 'remitlaw13.StorePlays', WHERE WHAT IT READS IS OF BULK AT MOST 1048576: true; the input reads as it did. -/
def storePlaysUptoRow : OpenClaim := { program := "ytoipmnikdiogcaagreatdoor", sum := "12beffce5c2c20dd896e2a95690618968e100efb089b013d55f9612790ed6de9", func := "remit/remitlaw13.StorePlays", spec := "storePlays", inPlace := ["internal/abi.NoEscape", "internal/reflectlite.ValueOf", "internal/reflectlite.Swapper", "(internal/reflectlite.Value).Len"], unfollowed := true, recurses := true, named := ["remit/api.ErrRange", "remit/api.ErrSmall", "remit/api.ErrDown", "remit/api.ErrCorrupt", "remit/api.ErrBlank", "remit/api.ErrForm", "remit/api.ErrLimit", "remit/checks.nibbles", "remit/api.ErrShort", "remit/api.ErrVarint", "remit/api.ErrTail", "remit/api.ErrOrder", "remit/api.ErrWorn", "remit/api.ErrExists", "remit/api.ErrFull", "remit/api.ErrDigits", "remit/api.ErrAmount", "remit/api.ErrOverflow", "remit/api.ErrCurrency", "remit/api.ErrLarge", "remit/api.ErrClosed", "remit/api.ErrAccount", "remit/api.ErrFrozen", "remit/api.ErrFunds", "remit/api.ErrLegs", "remit/api.ErrConflict", "remit/api.ErrId", "remit/api.ErrPayee", "remit/api.ErrRail", "remit/api.ErrBusy", "remit/api.ErrWindow", "remit/api.ErrPhase", "remit/api.ErrToken", "remit/api.ErrTime", "remit/api.ErrUnknown", "remit/api.ErrConfig", "remit/api.ErrCommand", "remit/api.ErrUse"], apart := false, laid := [("remit/api.ErrShort", laid_remit_api_ErrShort), ("remit/api.ErrVarint", laid_remit_api_ErrVarint), ("remit/api.ErrLimit", laid_remit_api_ErrLimit), ("remit/api.ErrOrder", laid_remit_api_ErrOrder), ("remit/api.ErrTail", laid_remit_api_ErrTail), ("remit/api.ErrRange", laid_remit_api_ErrRange), ("remit/api.ErrForm", laid_remit_api_ErrForm), ("remit/api.ErrDigits", laid_remit_api_ErrDigits), ("remit/api.ErrAmount", laid_remit_api_ErrAmount), ("remit/api.ErrOverflow", laid_remit_api_ErrOverflow), ("remit/api.ErrCurrency", laid_remit_api_ErrCurrency), ("remit/api.ErrDown", laid_remit_api_ErrDown), ("remit/api.ErrSmall", laid_remit_api_ErrSmall), ("remit/api.ErrBlank", laid_remit_api_ErrBlank), ("remit/api.ErrCorrupt", laid_remit_api_ErrCorrupt), ("remit/api.ErrWorn", laid_remit_api_ErrWorn), ("remit/api.ErrFull", laid_remit_api_ErrFull), ("remit/api.ErrLarge", laid_remit_api_ErrLarge), ("remit/api.ErrClosed", laid_remit_api_ErrClosed), ("remit/api.ErrAccount", laid_remit_api_ErrAccount), ("remit/api.ErrExists", laid_remit_api_ErrExists), ("remit/api.ErrFrozen", laid_remit_api_ErrFrozen), ("remit/api.ErrFunds", laid_remit_api_ErrFunds), ("remit/api.ErrLegs", laid_remit_api_ErrLegs), ("remit/api.ErrConflict", laid_remit_api_ErrConflict), ("remit/api.ErrId", laid_remit_api_ErrId), ("remit/api.ErrPayee", laid_remit_api_ErrPayee), ("remit/api.ErrRail", laid_remit_api_ErrRail), ("remit/api.ErrBusy", laid_remit_api_ErrBusy), ("remit/api.ErrWindow", laid_remit_api_ErrWindow), ("remit/api.ErrPhase", laid_remit_api_ErrPhase), ("remit/api.ErrToken", laid_remit_api_ErrToken), ("remit/api.ErrTime", laid_remit_api_ErrTime), ("remit/api.ErrUnknown", laid_remit_api_ErrUnknown), ("remit/api.ErrConfig", laid_remit_api_ErrConfig), ("remit/api.ErrCommand", laid_remit_api_ErrCommand), ("remit/api.ErrUse", laid_remit_api_ErrUse), ("remit/checks.nibbles", laid_remit_checks_nibbles)], narrowed := true }
def StorePlaysUptoSaid : Prop := storePlaysUptoRow.holds Tryz.pinned (OpenSpec.upto storePlaysSpec)

end Rows
end Go.Proofs.YtoipmnikdiogcaaGreatDoor
