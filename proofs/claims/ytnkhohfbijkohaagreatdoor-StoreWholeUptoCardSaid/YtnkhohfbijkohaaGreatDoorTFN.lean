/-
  RgW2, RgV.
-/
import Derived.Test.YtnkhohfbijkohaaGreatDoorTDI
import Derived.Test.YtnkhohfbijkohaaGreatDoorTEE
import Derived.Test.YtnkhohfbijkohaaGreatDoorTEU
set_option maxHeartbeats 64000000
namespace Go.Proofs.YtnkhohfbijkohaaGreatDoor
open Go Go.RowKit
section
variable {W:World} {N:List Nd} {a:Option Addr} {t:Tr} {lo hi:List UInt8} {m lp:Nat} {J S:Nat→SP} {x:Nat × Nat × Nat}
structure RgOk (N:List Nd) (a:Option Addr) (t:Tr) (lo hi:List UInt8) (m:Nat):Prop where
 at_:TrAt N a t
 le:m≤(t.frm lo).length
 yes:∀ i p,(t.frm lo)[i]? = some p→i<m→Op.bytesLess p.1 hi=true
 no:∀ p,(t.frm lo)[m]? = some p→Op.bytesLess p.1 hi=false
end
end Go.Proofs.YtnkhohfbijkohaaGreatDoor
namespace Go.Proofs.YtnkhohfbijkohaaGreatDoor
open Go Go.RowKit
theorem RgOk.mono {N M:List Nd} {a:Option Addr} {t:Tr} {lo hi:List UInt8} {m:Nat} (h:RgOk N a t lo hi m) (hs:∀ x ∈ N,x ∈ M):RgOk M a t lo hi m:=⟨h.at_.mono hs,h.le,h.yes,h.no⟩
end Go.Proofs.YtnkhohfbijkohaaGreatDoor
