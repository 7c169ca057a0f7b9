/-
  ChD1, ChS2.
-/
import Derived.Test.YtnbgcimalpdfoaaGreatDoorUDJ
import Derived.Test.YtnbgcimalpdfoaaGreatDoorUDF
import Derived.Test.YtnbgcimalpdfoaaGreatDoorUDS
import Derived.Test.YtnbgcimalpdfoaaGreatDoorUCX
import Derived.Test.YtnbgcimalpdfoaaGreatDoorUDG
import Derived.Test.YtnbgcimalpdfoaaGreatDoorUDH
import Derived.Test.YtnbgcimalpdfoaaGreatDoorUFI
import Derived.Test.YtnbgcimalpdfoaaGreatDoorUFJ
import Derived.Test.YtnbgcimalpdfoaaGreatDoorUET
import Derived.Test.YtnbgcimalpdfoaaGreatDoorUFH
set_option maxHeartbeats 64000000
namespace Go.Proofs.YtnbgcimalpdfoaaGreatDoor
open Go Go.RowKit
abbrev rwP (x:Option Addr × Nat) (l:Rows):SP:=lsP rC 89 2 (.slice x.1 l.length x.2) l
end Go.Proofs.YtnbgcimalpdfoaaGreatDoor
namespace Go.Proofs.YtnbgcimalpdfoaaGreatDoor
open Go Go.RowKit
abbrev ffB:List UInt8:=[255,255,255,255,255,255,255,255]
section
variable {W:World} {F:Nat→Addr} {t m:Nat} {r:Rows}
instance fn_look15:FnIs Tryz.prog 37:=⟨by kernel_rfl⟩
theorem look15_ct (hl:r.length*32≤140737488355328) (hk:∀ p ∈ r,Op.bytesLess p.1 ffB=true) :
 Ct Tryz.prog W 37 [.pointer (some ⟨t,0,none⟩)] [TxQ t r false m] (fun x:Option Addr × Nat=>.tuple #[.slice x.1 r.length x.2,.bool true]) (fun x=>[TxQ t r false m,rwP x r]):=by
 refine Ct.enter Tryz.func37 rfl Tryz.ntmps37 (by simp) (fun R=>?_)
 refine KJ.unpack_at (F:=fun x:{x:Nat × List (List UInt8 × Bool) × List UE//x.2.2.length≤m}=>[TxP t x.1.1 r x.1.2.1 x.1.2.2 false]) xS (fun ⟨(s,K,U),hU⟩=>?_)
 dsimp only at hU ⊢
 refine KJ.txOpen xS (fun y hT=>?_)
 have hT':=hT
 obtain ⟨tr,h1,-,h3,h4⟩:=hT'
 have hfr:tr.frm []=r:=by rw [frm_nil,h3]
 have hR:RgOk y.N y.a tr [] ffB r.length:=⟨h1,by rw [hfr];exact Nat.le_refl _,fun i p hp _=>hk p (by rw [hfr] at hp;exact List.mem_of_getElem? hp),fun p hp=>by rw [hfr,List.getElem?_eq_none (Nat.le_refl _)] at hp;cases hp⟩
 have cR:=txrange_open (W:=W) (t:=t) (s:=s) (l:=U.length) (y:=y) [] ffB
 repeat' (first|(refine zBd ?_;refine zAz rfl (fun g4=>?_))|(refine zAd ?_;refine zAc xE cR xP rfl (fun z=>?_);obtain ⟨z1,z2,z3⟩:=z)|(refine zBa ?_;first|(refine KJ_bslice0 rfl (fun gm=>?_))|(refine KJ_bsliceN (len:=8) (places:=[(0,1),(1,1),(2,1),(3,1),(4,1),(5,1),(6,1),(7,1)]) (base:=[.int .u8 0,.int .u8 0,.int .u8 0,.int .u8 0,.int .u8 0,.int .u8 0,.int .u8 0,.int .u8 0]) xV (by rfl) (by rfl) xW (by omega) rfl (fun gb=>?_)))|(refine zBe ?_;refine zAa (Ev_bytesStr0 (l:=ffB) rfl xS rfl) ?_)|(refine zAv ?_;refine zAa (Ev_eqlFn2 rfl rfl) ?_)|refine xst ?_|(refine xsa ?_;intro _)|(refine xsb ?_ ?_ <;>intro _<;>try (exfalso;omega))|refine xsc ?_|fail)
 obtain ⟨G,hG⟩:∃ G:Nat→Option Addr × Nat→List SP,G=fun i x=>[zAk g4 [.slice x.1 (r.take i).length x.2] 37,lsP rC 89 2 (.slice x.1 (r.take i).length x.2) (r.take i)]:=⟨_,rfl⟩
 have hGi:∀ i x,G i x=[zAk g4 [.slice x.1 (r.take i).length x.2] 37,lsP rC 89 2 (.slice x.1 (r.take i).length x.2) (r.take i)]:=fun i x=>by rw [hG]
 clear hG
 refine KJ.packs (tag:=52) (key:=g4) (F:=G 0) (some ⟨gm,0,none⟩,0) (by rw [hGi];exact xP) ?_
 refine KJ_rangeRng (x:=(z1,z2,z3)) (a:=y.a) (N:=y.N) rfl rfl hR rfl (by decide) (fun i=>packP 52 g4 (G i)) (fun _=>factP False) .ret xP (fun l i p hp him R'=>?_) ?_ (fun i him=>?_)
 ·rw [hfr] at hp
  dsimp only [Env.ofPs]
  refine KJ.unpack_at (F:=G i) xS (fun x=>?_)
  rw [hGi]
  have em:r.take i++[p]=r.take (i+1):=by rw [List.take_add_one,hp];rfl
  have b1:((r.take i).length+1)*32≤140737488355328:=by rw [List.length_take];omega
  have b2:(r.take i).length+1≤9223372036854775807:=by omega
  repeat' (first|(refine is_begin ?_;refine KJ_begin xS ?_)|(refine zBp ?_;refine zBx (a:=p) rC_ok rfl rfl rfl xS xS b1 b2 rfl (fun g5 c5=>?_))|(refine zBa ?_;refine zBh rfl xF (by rfl) (by omega) rfl (fun gb=>?_))|(refine zBb ?_;refine zAa (zBc xV xW) ?_)|refine xst ?_|(refine xsa ?_;intro _)|(refine xsb ?_ ?_ <;>intro _<;>try (exfalso;omega))|refine xsc ?_|fail)
  rw [em]
  refine KJ.packs (tag:=52) (key:=g4) (F:=G (i+1)) (some ⟨g5,0,none⟩,c5) (by rw [hGi];exact xP) ?_
  exact KJ_round_t xS (xN)
 ·refine KJ.unpack_at (F:=G r.length) xS (fun x=>?_)
  rw [hGi,List.take_length]
  repeat' (first|refine xst ?_|(refine xsa ?_;intro _)|(refine xsb ?_ ?_ <;>intro _<;>try (exfalso;omega))|refine xsc ?_|fail)
  all_goals refine KJ.txShut (s:=s) (K:=K) (U:=U) (ended:=false) y hT xP ?_
  all_goals refine KJ.packs (tag:=83) (key:=t) (F:=fun x:{x:Nat × List (List UInt8 × Bool) × List UE//x.2.2.length≤m}=>[TxP t x.1.1 r x.1.2.1 x.1.2.2 false]) ⟨(s,K,U),hU⟩ xP ?_
  all_goals (exact xdn x)
 ·exact KJ.absurdF xS
end
end Go.Proofs.YtnbgcimalpdfoaaGreatDoor
