/-
  TxW1, StW2, TxW3.
-/
import Derived.Test.YtnkhohfbijkohaaGreatDoorTDQ
set_option maxHeartbeats 64000000
namespace Go.Proofs.YtnkhohfbijkohaaGreatDoor
open Go Go.RowKit
structure UE where
 key:List UInt8
 old:List UInt8
 there:Bool
 gt:Nat
 gk:Nat
 go:Nat
 gh:Nat
def ueC (e:UE):List Value:=[.func (.func 219) #[] #[.pointer (some ⟨e.gh,0,none⟩),.pointer (some ⟨e.gt,0,none⟩),.pointer (some ⟨e.gk,0,none⟩),.pointer (some ⟨e.go,0,none⟩)]]
abbrev ueP (t:Nat) (e:UE):List SP:=[zAq e.gh [.bool e.there] 4,zAq e.gt [.pointer (some ⟨t,0,none⟩)] 150,zAq e.gk [strV e.key] 9,zAq e.go [strV e.old] 9]
def undoP (t:Nat) (U:List UE):SP:=allP 81 (U.flatMap (ueP t))
structure TxH where
 q:Nat
 a:Option Addr
 b:Int
 N:List Nd
 m:Nat
 ua:Option Addr
 uc:Nat
abbrev txC (s:Nat) (x:TxH) (l:Nat) (ended:Bool):List Value:=[.pointer (some ⟨s,0,none⟩),.pointer (some ⟨x.q,0,none⟩),.map (some x.m),.slice x.ua l x.uc,.bool ended]
abbrev txL (t s:Nat) (x:TxH) (K:List (List UInt8 × Bool)) (U:List UE) (ended:Bool):List SP:=
 [zAq t (txC s x U.length ended) 227,tbP x.q x.a x.b,arP x.N,mapP strV Value.bool x.m K,lsP ueC 1 1 (.slice x.ua U.length x.uc) U,undoP t U]
def TxP (t s:Nat) (r:Rows) (K:List (List UInt8 × Bool)) (U:List UE) (ended:Bool):SP:=packP 80 t (fun x:{x:TxH//TbOk x.N x.a r}=>txL t s x.1 K U ended)
end Go.Proofs.YtnkhohfbijkohaaGreatDoor
namespace Go.Proofs.YtnkhohfbijkohaaGreatDoor
open Go Go.RowKit
abbrev stC (d q n:Nat) (v:Int) (lg:Option Addr) (life:Int) (dead:Bool):List Value:=
 [.pointer (some ⟨d,0,none⟩),.int .i64 2,.int .i64 (2+layA n:Nat),.int .i64 (layA n:Nat),.int .i64 (zAt n:Nat),.int .i64 (logN n:Nat),.pointer (some ⟨q,0,none⟩),.int .i64 v,.pointer lg,.int .i64 life,.bool dead]
abbrev stP (s d q n:Nat) (v:Int) (lg:Option Addr) (life:Int) (dead:Bool):SP:=zAq s (stC d q n v lg life dead) 117
abbrev layC (n:Nat):List Value:=[.int .i64 2,.int .i64 (2+layA n:Nat),.int .i64 (layA n:Nat),.int .i64 (zAt n:Nat),.int .i64 (logN n:Nat)]
theorem layA_le {n:Nat} (h:n≤65536):layA n≤21845:=by unfold layA;omega
section
variable {W:World} {N:List Nd} {a:Option Addr} {r:Rows} {p q s d n:Nat} {b:Int} {D:Dsk}
instance fn_layoutOf:FnIs Tryz.prog 113:=⟨by kernel_rfl⟩
theorem layoutOf_ct (h1:64≤n) (h2:n≤65536):Ct Tryz.prog W 113 [.int .i64 (n:Nat)] [] (fun _:Unit=>.agg (layC n).toArray) (fun _=>[]):=by
 have hq:((n:Int)-2) / 3=(layA n:Nat):=by unfold layA;omega
 have hA:=layA_le h2
 have e1:(2:Int)+(layA n:Nat)=(2+layA n:Nat):=by omega
 have e2:(2:Int)*(layA n:Nat)=(2*layA n:Nat):=by omega
 have e3:(2:Int)+(2*layA n:Nat)=(zAt n:Nat):=by unfold zAt;omega
 have e4:(n:Int)-2-(2*layA n:Nat)=(logN n:Nat):=by unfold logN layA;omega
 have b3:=zBn h1 0
 refine Ct.enter Tryz.func113 rfl Tryz.ntmps113 (by simp) (fun R=>?_)
 repeat' (first|(refine zBf ?_;refine zBb rfl (fun g=>?_))|(refine ek_build ?_;first|refine zAc (Ev_buildA (t:=111) (vs:=[.int .i64 2,.int .i64 (2+layA n:Nat)]) xV (by kernel_rfl)) ?_|refine zAc (Ev_build xV xW) ?_)|(refine zBk ?_;first|refine zAc (zAi rfl rfl e3 (by omega)) ?_|refine zAc (zAi rfl rfl e1 (by omega)) ?_)|(refine ek_sub ?_;refine zAc (Ev_subI_v rfl rfl e4 (by omega)) ?_)|(refine ek_mul ?_;refine zAc (Ev_mulI_v rfl rfl e2 (by omega)) ?_)|(refine ek_quo ?_;refine zAc (Ev_quo_w rfl rfl (by omega) hq) ?_)|refine xst ?_|(refine xsa ?_;intro _)|(refine xsb ?_ ?_ <;>intro _<;>try (exfalso;omega))|refine xsc ?_|fail)
 all_goals (refine is_ex ?_;exact KJ_done (by first|exact Or.inl rfl|exact Or.inr rfl) rfl (Rvs.agg (T:=113) rfl inferInstance inferInstance xS xC Rvs.nil) () (by rfl) (xN))
end
end Go.Proofs.YtnkhohfbijkohaaGreatDoor
namespace Go.Proofs.YtnkhohfbijkohaaGreatDoor
open Go Go.RowKit
section
variable {W:World} {F:Nat→Addr} {N:List Nd} {a:Option Addr} {r:Rows} {q s d n:Nat} {b:Int}
instance fn_srows:FnIs Tryz.prog 13:=⟨by kernel_rfl⟩
theorem srows_ct (v:Int) (lg:Option Addr) (life:Int) (dead:Bool) (hT:TbOk N a r) (hl:r.length*32≤140737488355328) :
 Ct Tryz.prog W 13 [.pointer (some ⟨s,0,none⟩)] [stP s d q n v lg life dead,tbP q a b,arP N] (fun x:Option Addr × Nat=>.slice x.1 r.length x.2) (fun x=>[stP s d q n v lg life dead,tbP q a b,arP N,lsP rC 96 2 (.slice x.1 r.length x.2) r]):=by
 have cr:=trows_ct (W:=W) (p:=q) (b:=b) hT hl
 refine Ct.enter Tryz.func13 rfl Tryz.ntmps13 (by simp) (fun R=>?_)
 repeat' (first|(refine zAd ?_;refine zAa xE cr xP rfl (fun x=>?_))|refine xst ?_|(refine xsa ?_;intro _)|(refine xsb ?_ ?_ <;>intro _<;>try (exfalso;omega))|refine xsc ?_|fail)
 all_goals (exact xdn x)
end
end Go.Proofs.YtnkhohfbijkohaaGreatDoor
