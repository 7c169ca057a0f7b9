/-
  TxW1, StW2, TxW2, TxW3, StW3, StW4, JLe4, StW5, StW6.
-/
import Derived.Test.YtnbgcimalpdfoaaGreatDoorVDQ
import Derived.Test.YtnbgcimalpdfoaaGreatDoorVER
import Derived.Test.YtnbgcimalpdfoaaGreatDoorVCF
set_option maxHeartbeats 64000000
namespace Go.Proofs.YtnbgcimalpdfoaaGreatDoor
open Go Go.RowKit
abbrev plVDZ0:Pl:=(.op 0 (.op 1 (.op 2 (.op 3 (.op 4 (.alt (.ef 5 [] (.op 6 (.op 7 (.op 8 (.alt (.ef 9 [8,7,6] (.ef 10 [8,7,6] (.ef 11 [8] (.ef 12 [] .nil)))) (.ef 10 [8,7,6] (.ef 9 [8,7,6] (.ef 11 [8] (.ef 12 [] .nil))))))))) (.alt (.ef 9 [4,3,2,1,0] (.alt (.ef 5 [] (.op 6 (.op 7 (.op 8 (.ef 10 [8,7,6] (.ef 11 [8] (.ef 12 [] .nil))))))) (.ef 10 [4,3,2,1,0] (.ef 5 [] (.op 6 (.op 7 (.op 8 (.ef 11 [8] (.ef 12 [] .nil))))))))) (.ef 10 [4,3,2,1,0] (.alt (.ef 5 [] (.op 6 (.op 7 (.op 8 (.ef 9 [8,7,6] (.ef 11 [8] (.ef 12 [] .nil))))))) (.ef 9 [4,3,2,1,0] (.ef 5 [] (.op 6 (.op 7 (.op 8 (.ef 11 [8] (.ef 12 [] .nil))))))))))))))))
abbrev plVDZ1:Pl:=(.op 0 (.op 1 (.op 2 (.op 3 (.op 4 (.ef 5 [] .nil))))))
abbrev plVDZ2:Pl:=(.op 0 (.op 1 (.op 2 (.op 3 (.op 4 (.op 5 (.ef 6 [4,3,2,1,0] (.ef 7 [0] (.op 8 (.op 9 (.ef 10 [] .nil)))))))))))
abbrev plVDZ3:Pl:=(.op 0 (.op 1 (.op 2 (.op 3 (.op 4 (.op 5 (.ef 6 [] .nil)))))))
abbrev plVDZ4:Pl:=(.op 0 (.op 1 (.op 2 (.op 3 (.op 4 (.op 5 (.op 6 (.op 7 (.op 8 (.ef 9 [4,3,2,1,0] (.op 10 (.op 11 .nil))))))))))))
abbrev plVDZ5:Pl:=(.op 0 (.op 1 (.op 2 (.op 3 (.op 4 (.op 5 (.op 6 (.op 7 (.op 8 (.op 9 (.op 10 (.op 11 (.op 12 (.op 13 (.op 14 (.op 15 (.op 16 (.op 17 (.op 18 (.op 19 (.ef 20 [] (.op 21 (.op 22 (.op 23 (.op 24 (.op 25 (.op 26 (.op 27 (.op 28 (.ef 29 [27,26,25,24,23] (.ef 30 [] (.op 31 (.op 32 .nil)))))))))))))))))))))))))))))))))
abbrev plVDZ6:Pl:=(.op 0 (.op 1 (.op 2 (.op 3 (.op 4 (.op 5 (.op 6 (.op 7 (.op 8 (.op 9 (.op 10 (.op 11 (.op 12 (.op 13 (.op 14 (.ef 15 [] (.op 16 (.op 17 (.op 18 (.op 19 (.op 20 .nil)))))))))))))))))))))
abbrev plVDZ7:Pl:=(.op 0 (.op 1 (.op 2 (.ef 3 [] .nil))))
abbrev plVDZ8:Pl:=(.op 0 (.op 1 (.op 2 (.op 3 (.op 4 (.op 8 (.ef 5 [8,0] (.op 6 (.op 7 (.ef 9 [] .nil))))))))))
abbrev plVDZ9:Pl:=(.op 0 (.op 1 (.op 2 (.op 3 (.op 4 (.op 5 (.op 6 (.op 7 (.op 8 (.op 9 (.op 10 (.op 11 (.op 12 (.op 13 (.op 14 (.op 15 (.op 16 (.op 17 (.op 18 (.op 19 (.ef 20 [] (.op 21 (.op 22 (.op 23 (.op 24 (.op 25 .nil))))))))))))))))))))))))))
abbrev plVDZ10:Pl:=(.op 0 (.op 1 (.op 2 (.op 3 (.op 5 (.op 8 (.ef 4 [8,5] (.ef 6 [8] (.op 7 (.ef 9 [] .nil))))))))))
structure UE where
 key:List UInt8
 old:List UInt8
 there:Bool
 gt:Nat
 gk:Nat
 go:Nat
 gh:Nat
def ueC (e:UE):List Value:=[.func (.func 121) #[] #[.pointer (some ⟨e.gh,0,none⟩),.pointer (some ⟨e.gt,0,none⟩),.pointer (some ⟨e.gk,0,none⟩),.pointer (some ⟨e.go,0,none⟩)]]
theorem ue_ok:EncOk ueC 1:=⟨fun _=>rfl,fun x=>by unfold ueC;exact xO,by omega⟩
abbrev ueP (t:Nat) (e:UE):List SP:=[zAn e.gh [.bool e.there] 4,zAn e.gt [.pointer (some ⟨t,0,none⟩)] 25,zAn e.gk [strV e.key] 9,zAn e.go [strV e.old] 9]
def undoP (t:Nat) (U:List UE):SP:=allP 81 (U.flatMap (ueP t))
section
variable {W:World} {n:Nat} {k:KK} {E:Env} {H R R':List SP}
theorem KJ.allAdd {key:Nat} {L As:List SP} (q:Sel (allP key L) H R) (p:Pick As R R') (h:KJ W n k E (allP key (L++As)::R')):KJ W n k E H:=
 ⟨fun a w pp s=>h.go a w pp (((s.perm (q.perm.append_right _)).perm (List.Perm.cons _ (p.perm.append_right _))).mono fun g hg=>by
  have h1:zBq (L++((As++R')++dm a.defers)) g:=all_open hg
  refine all_shut (L:=L++As) (H:=R'++dm a.defers) ?_
  rw [List.append_assoc]
  rw [List.append_assoc] at h1
  exact h1)⟩
theorem undo_nil_star {t:Nat}:∀ g,zBq H g→zBq (undoP t []::H) g:=fun _ q=>all_shut (L:=[]) q
theorem KJ.undoNil (t:Nat) (h:KJ W n k E (undoP t []::H)):KJ W n k E H:=⟨fun a w q s=>h.go a w q (s.mono undo_nil_star)⟩
theorem KJ.undoAdd {t:Nat} {U:List UE} (e:UE) (q:Sel (undoP t U) H R) (p:Pick (ueP t e) R R') (h:KJ W n k E (undoP t (U++[e])::R')):KJ W n k E H:=by
 refine KJ.allAdd q p ?_
 have e1:U.flatMap (ueP t)++ueP t e=(U++[e]).flatMap (ueP t):=by simp
 rw [e1]
 exact h
end
structure TxH where
 q:Nat
 a:Option Addr
 b:Int
 N:List Nd
 m:Nat
 ua:Option Addr
 uc:Nat
abbrev txC (s:Nat) (x:TxH) (l:Nat) (ended:Bool):List Value:=[.pointer (some ⟨s,0,none⟩),.pointer (some ⟨x.q,0,none⟩),.map (some x.m),.slice x.ua l x.uc,.bool ended]
abbrev txL (t s:Nat) (x:TxH) (K:List (List UInt8 × Bool)) (U:List UE) (ended:Bool):List SP:=
 [zAn t (txC s x U.length ended) 128,tbP x.q x.a x.b,arP x.N,mapP strV Value.bool x.m K,lsP ueC 1 1 (.slice x.ua U.length x.uc) U,undoP t U]
def TxP (t s:Nat) (r:Rows) (K:List (List UInt8 × Bool)) (U:List UE) (ended:Bool):SP:=packP 80 t (fun x:{x:TxH//TbOk x.N x.a r}=>txL t s x.1 K U ended)
section
variable {W:World} {t s:Nat} {r r':Rows} {K:List (List UInt8 × Bool)} {U:List UE} {ended:Bool}
theorem KJ.txOpen {n:Nat} {k:KK} {E:Env} {H R:List SP} (q:Sel (TxP t s r K U ended) H R) (h:∀ x:TxH,TbOk x.N x.a r→KJ W n k E (txL t s x K U ended++R)):KJ W n k E H:=KJ.unpack_at q fun x=>h x.1 x.2
theorem KJ.txShut {n:Nat} {k:KK} {E:Env} {H R:List SP} (x:TxH) (hT:TbOk x.N x.a r) (p:Pick (txL t s x K U ended) H R) (h:KJ W n k E (TxP t s r K U ended::R)):KJ W n k E H:=KJ.packs (F:=fun x:{x:TxH//TbOk x.N x.a r}=>txL t s x.1 K U ended) ⟨x,hT⟩ p h
theorem txget_ct (key:List UInt8):Ct Tryz.prog W 24 [.pointer (some ⟨t,0,none⟩),strV key] [TxP t s r K U false] (fun _:Unit=>.tuple #[strV ((lk r key).getD []),.bool (lk r key).isSome]) (fun _=>[TxP t s r K U false]):=by
 refine Ct.enter Tryz.func24 rfl Tryz.ntmps24 (by simp) (fun R=>?_)
 refine KJ.txOpen xS (fun x hT=>?_)
 have cg:=tget_ct (W:=W) (p:=x.q) (b:=x.b) hT key
 repeat' (first|(refine zAe ?_;refine zAa xE cg xP rfl (fun _=>?_))|refine xst ?_|(refine xsa ?_;intro _)|(refine xsb ?_ ?_ <;>intro _<;>try (exfalso;omega))|refine xsc ?_|fail)
 all_goals refine KJ.txShut (s:=s) (K:=K) (U:=U) (ended:=false) x hT xP ?_
 all_goals (exact xdn ())
theorem txget_end (key:List UInt8):Ct Tryz.prog W 24 [.pointer (some ⟨t,0,none⟩),strV key] [TxP t s r K U true] (fun _:Unit=>.tuple #[strV [],.bool false]) (fun _=>[TxP t s r K U true]):=by
 refine Ct.enter Tryz.func24 rfl Tryz.ntmps24 (by simp) (fun R=>?_)
 refine KJ.txOpen xS (fun x hT=>?_)
 repeat' (first|refine xst ?_|(refine xsa ?_;intro _)|(refine xsb ?_ ?_ <;>intro _<;>try (exfalso;omega))|refine xsc ?_|fail)
 all_goals refine KJ.txShut (s:=s) (K:=K) (U:=U) (ended:=true) x hT xP ?_
 all_goals (exact xdn ())
theorem txdrop_ct:Ct Tryz.prog W 23 [.pointer (some ⟨t,0,none⟩)] [TxP t s r K U ended] (fun _:Unit=>.tuple #[]) (fun _=>[TxP t s r K U true]):=by
 refine Ct.enter Tryz.func23 rfl Tryz.ntmps23 (by simp) (fun R=>?_)
 refine KJ.txOpen xS (fun x hT=>?_)
 repeat' (first|refine xst ?_|(refine xsa ?_;intro _)|(refine xsb ?_ ?_ <;>intro _<;>try (exfalso;omega))|refine xsc ?_|fail)
 all_goals refine KJ.txShut (s:=s) (K:=K) (U:=U) (ended:=true) x hT xP ?_
 all_goals (exact xdn ())
end
end Go.Proofs.YtnbgcimalpdfoaaGreatDoor
namespace Go.Proofs.YtnbgcimalpdfoaaGreatDoor
open Go Go.RowKit
abbrev stC (d q n:Nat) (v:Int) (lg:Option Addr) (life:Int) (dead:Bool):List Value:=
 [.pointer (some ⟨d,0,none⟩),.int .i64 2,.int .i64 (2+layA n:Nat),.int .i64 (layA n:Nat),.int .i64 (logAt n:Nat),.int .i64 (logN n:Nat),.pointer (some ⟨q,0,none⟩),.int .i64 v,.pointer lg,.int .i64 life,.bool dead]
abbrev stP (s d q n:Nat) (v:Int) (lg:Option Addr) (life:Int) (dead:Bool):SP:=zAn s (stC d q n v lg life dead) 170
abbrev layC (n:Nat):List Value:=[.int .i64 2,.int .i64 (2+layA n:Nat),.int .i64 (layA n:Nat),.int .i64 (logAt n:Nat),.int .i64 (logN n:Nat)]
theorem layA_le {n:Nat} (h:n≤65536):layA n≤21845:=by unfold layA;omega
section
variable {W:World} {N:List Nd} {a:Option Addr} {r:Rows} {p q s d n:Nat} {b:Int} {D:Dsk}
instance fn_layoutOf:FnIs Tryz.prog 153:=⟨by kernel_rfl⟩
theorem layoutOf_ct (h1:64≤n) (h2:n≤65536):Ct Tryz.prog W 153 [.int .i64 (n:Nat)] [] (fun _:Unit=>.agg (layC n).toArray) (fun _=>[]):=by
 have hq:((n:Int)-2) / 3=(layA n:Nat):=by unfold layA;omega
 have hA:=layA_le h2
 have e1:(2:Int)+(layA n:Nat)=(2+layA n:Nat):=by omega
 have e2:(2:Int)*(layA n:Nat)=(2*layA n:Nat):=by omega
 have e3:(2:Int)+(2*layA n:Nat)=(logAt n:Nat):=by unfold logAt;omega
 have e4:(n:Int)-2-(2*layA n:Nat)=(logN n:Nat):=by unfold logN layA;omega
 have b3:=lay_fit h1 0
 refine Ct.enter Tryz.func153 rfl Tryz.ntmps153 (by simp) (fun R=>?_)
 repeat' (first|(refine zBd ?_;refine zBb rfl (fun g=>?_))|(refine zBk ?_;first|refine zAb (Ev_buildA (t:=165) (vs:=[.int .i64 2,.int .i64 (2+layA n:Nat)]) xV (by kernel_rfl)) ?_|refine zAb (zBm xV xW) ?_)|(refine zAu ?_;first|refine zAb (zAh rfl rfl e3 (by omega)) ?_|refine zAb (zAh rfl rfl e1 (by omega)) ?_)|(refine ek_sub ?_;refine zAb (Ev_subI_v rfl rfl e4 (by omega)) ?_)|(refine ek_mul ?_;refine zAb (Ev_mulI_v rfl rfl e2 (by omega)) ?_)|(refine ek_quo ?_;refine zAb (Ev_quo_w rfl rfl (by omega) hq) ?_)|refine xst ?_|(refine xsa ?_;intro _)|(refine xsb ?_ ?_ <;>intro _<;>try (exfalso;omega))|refine xsc ?_|fail)
 all_goals (refine is_ex ?_;exact KJ_done (by first|exact Or.inl rfl|exact Or.inr rfl) rfl (Rvs.agg (T:=167) rfl inferInstance inferInstance xS xC Rvs.nil) () (by rfl) (xN))
end
end Go.Proofs.YtnbgcimalpdfoaaGreatDoor
namespace Go.Proofs.YtnbgcimalpdfoaaGreatDoor
open Go Go.RowKit
section
variable {P:Program} {W:World} {n:Nat} {E:Env} {H:List SP} {x y z u:Operand} {a b c d:Value} {f:Fn}
theorem Ev_mkFunc3 (hx:Env.ev E x=some a) (hy:Env.ev E y=some b) (hz:Env.ev E z=some c):Ev P W n E H (.makeFunc f #[] #[x,y,z]) (.func f #[] #[a,b,c]):=
 Ev.mk fun o ho ac w p _=>by simp [execOp,ho,p.ev hx,p.ev hy,p.ev hz,Instr.makeFunc]
theorem Ev_mkFunc4 (hx:Env.ev E x=some a) (hy:Env.ev E y=some b) (hz:Env.ev E z=some c) (hu:Env.ev E u=some d):Ev P W n E H (.makeFunc f #[] #[x,y,z,u]) (.func f #[] #[a,b,c,d]):=
 Ev.mk fun o ho ac w p _=>by simp [execOp,ho,p.ev hx,p.ev hy,p.ev hz,p.ev hu,Instr.makeFunc]
end
def DoC (W:World) (f:FuncId) (cs:List Value) (A:SP) (t:Nat) (r r':Rows):Prop:=∀ (s:Nat) (x:TxH) (l:Nat),TbOk x.N x.a r→
 Ct Tryz.prog W f cs [zAn t (txC s x l false) 128,tbP x.q x.a x.b,arP x.N,A] (fun _:TbQ x.N r'=>.tuple #[]) (fun y=>[zAn t (txC s x l false) 128,tbP x.q y.1.2.1 y.1.2.2,arP y.1.1,A])
section
variable {W:World} {t s:Nat} {r r':Rows} {K:List (List UInt8 × Bool)} {U:List UE}
theorem step_ct (f:FuncId) [FnIs Tryz.prog f] (cs:List Value) (A:SP) (hdo:DoC W f cs A t r r') (key:List UInt8) (hU:(U.length+1)*8≤140737488355328) :
 Ct Tryz.prog W 68 [.pointer (some ⟨t,0,none⟩),strV key,.func (.func f) #[] cs.toArray] [TxP t s r K U false,A] (fun _:Nat × Nat × Nat × Nat=>.nilIface)
  (fun z=>[TxP t s r' (mput K key true) (U++[⟨key,(lk r key).getD [],(lk r key).isSome,z.1,z.2.1,z.2.2.1,z.2.2.2⟩]) false,A]):=by
 refine Ct.enter Tryz.func68 rfl Tryz.ntmps68 (by simp) (fun R=>?_)
 refine KJ.txOpen xS (fun x hT=>?_)
 have cg:=tget_ct (W:=W) (p:=x.q) (b:=x.b) hT key
 have b2:U.length+1≤9223372036854775807:=by omega
 have cd:=fun (ua:Option Addr) (uc:Nat) (l:Nat)=>hdo s { x with ua:=ua,uc:=uc } l hT
 obtain ⟨old,hOld⟩:∃ o,o=(lk r key).getD []:=⟨_,rfl⟩
 obtain ⟨there,hthere⟩:∃ o,o=(lk r key).isSome:=⟨_,rfl⟩
 rw [← hOld,← hthere] at cg ⊢
 apply KJ_rest (fun Kc=>∀ (gt gk go gh:Nat),KJ W 40 Kc [(2,.func (.func f) #[] cs.toArray),(3,.pointer (some ⟨gt,0,none⟩)),(4,.pointer (some ⟨gk,0,none⟩)),(7,.pointer (some ⟨go,0,none⟩)),(8,.pointer (some ⟨gh,0,none⟩))]
  ((txL t s x K U false++[A,zAn gt [.pointer (some ⟨t,0,none⟩)] 25,zAn gk [strV key] 9,zAn go [strV old] 9,zAn gh [.bool there] 4])++R))
 ·intro rest
  repeat' (first|(refine at_seq_region (id:=4) ?_;exact KJ.weak (rest gt gk go gh) xB (xN))|(refine zBd ?_;first|(refine zBb (d:=8) rfl (fun gh=>?_))|(refine zBb (d:=7) rfl (fun go=>?_)))|(refine zBn ?_;first|(refine zBg (d:=4) rfl xF rfl (fun gk=>?_))|(refine zBg (d:=3) rfl xF rfl (fun gt=>?_)))|(refine zAe ?_;refine zAa xE cg xP rfl (fun _=>?_))|refine xst ?_|(refine xsa ?_;intro _)|(refine xsb ?_ ?_ <;>intro _<;>try (exfalso;omega))|refine xsc ?_|(refine zAc (id:=3) plVDZ0 (by kernel_rfl) (by kernel_rfl) ?_)|(refine zAc (id:=4) plVDZ1 (by kernel_rfl) (by kernel_rfl) ?_)|(refine zAc (id:=5) plVDZ2 (by kernel_rfl) (by kernel_rfl) ?_)|refine zAm ?_ ?_|refine zAk rfl rfl rfl rfl rfl ?_ ?_|refine zAg ?_ ?_|exact Rech.nil|fail)
 intro gt gk go gh
 repeat' (first|(refine zBr ?_;refine zCe (a:=(⟨key,old,there,gt,gk,go,gh⟩:UE)) ue_ok rfl rfl rfl xS xS hU b2 rfl (fun ga ca=>?_))|(refine zAw ?_;refine zBa rfl xF (by rfl) (by omega) rfl (fun gb=>?_))|(refine is_mapUpdate ?_;refine KJ_mapUpdate (v:=true) ky_key rfl rfl rfl xS ?_)|(refine is_callV ?_;refine hold ?_)|(refine ek_mkFunc ?_;refine zAb (Ev_mkFunc4 rfl rfl rfl rfl) ?_)|refine xst ?_|(refine xsa ?_;intro _)|(refine xsb ?_ ?_ <;>intro _<;>try (exfalso;omega))|refine xsc ?_|(refine zAc (id:=3) plVDZ0 (by kernel_rfl) (by kernel_rfl) ?_)|(refine zAc (id:=4) plVDZ1 (by kernel_rfl) (by kernel_rfl) ?_)|(refine zAc (id:=5) plVDZ2 (by kernel_rfl) (by kernel_rfl) ?_)|refine zAm ?_ ?_|refine zAk rfl rfl rfl rfl rfl ?_ ?_|refine zAg ?_ ?_|exact Rech.nil|fail)
 refine Hold.mk ?_
 refine KJ_callV (f:=f) (fs:=#[]) (cs:=cs.toArray) (us:=cs) (vs:=[]) rfl Evs.nil (by simp) (cd (some ⟨ga,0,none⟩) ca _) xP rfl (fun y=>?_)
 obtain ⟨⟨N1,a1,b1⟩,g1,t1⟩:=y
 dsimp only at g1 t1 ⊢
 refine KJ.undoAdd (⟨key,old,there,gt,gk,go,gh⟩:UE) xS xP ?_
 refine KJ.txShut (s:=s) (K:=mput K key true) (U:=U++[(⟨key,old,there,gt,gk,go,gh⟩:UE)]) (ended:=false) ⟨x.q,a1,b1,N1,x.m,some ⟨ga,0,none⟩,ca⟩ t1 xP ?_
 repeat' (first|refine xst ?_|(refine xsa ?_;intro _)|(refine xsb ?_ ?_ <;>intro _<;>try (exfalso;omega))|refine xsc ?_|(refine zAc (id:=3) plVDZ0 (by kernel_rfl) (by kernel_rfl) ?_)|(refine zAc (id:=4) plVDZ1 (by kernel_rfl) (by kernel_rfl) ?_)|(refine zAc (id:=5) plVDZ2 (by kernel_rfl) (by kernel_rfl) ?_)|refine zAm ?_ ?_|refine zAk rfl rfl rfl rfl rfl ?_ ?_|refine zAg ?_ ?_|exact Rech.nil|fail)
 all_goals (exact xdn (gt,gk,go,gh))
end
end Go.Proofs.YtnbgcimalpdfoaaGreatDoor
namespace Go.Proofs.YtnbgcimalpdfoaaGreatDoor
open Go Go.RowKit
section
variable {W:World} {t s:Nat} {r:Rows} {K:List (List UInt8 × Bool)} {U:List UE}
instance fn_put1:FnIs Tryz.prog 69:=⟨by kernel_rfl⟩
abbrev putP (t:Nat) (key val:List UInt8) (g3 g4 g5:Nat):List SP:=[zAn g3 [.pointer (some ⟨t,0,none⟩)] 25,zAn g4 [strV key] 9,zAn g5 [strV val] 9]
theorem put1_ct (key val:List UInt8) (g3 g4 g5:Nat) (hl:r.length≤288230376151711744):DoC W 69 [.pointer (some ⟨g3,0,none⟩),.pointer (some ⟨g4,0,none⟩),.pointer (some ⟨g5,0,none⟩)] (allP 82 (putP t key val g3 g4 g5)) t r (putR r key val):=fun s x l hT=>by
 have cp:=tput_ct (W:=W) (p:=x.q) (b:=x.b) (k:=key) (v:=val) hT hl
 refine Ct.enter Tryz.func69 rfl Tryz.ntmps69 (by simp) (fun R=>?_)
 refine KJ.allOpen (L:=putP t key val g3 g4 g5) xS ?_
 repeat' (first|(refine zAe ?_;refine zAa xE cp xP rfl (fun y=>?_);obtain ⟨⟨N1,a1,b1⟩,g1,t1⟩:=y;dsimp only at g1 t1 ⊢)|refine xst ?_|(refine xsa ?_;intro _)|(refine xsb ?_ ?_ <;>intro _<;>try (exfalso;omega))|refine xsc ?_|(refine zAc (id:=0) plVDZ3 (by kernel_rfl) (by kernel_rfl) ?_)|refine zAm ?_ ?_|refine zAk rfl rfl rfl rfl rfl ?_ ?_|refine zAg ?_ ?_|exact Rech.nil|fail)
 all_goals refine KJ.allShut (L:=putP t key val g3 g4 g5) 82 xP ?_
 all_goals (exact xdn ⟨(N1,a1,b1),g1,t1⟩)
theorem txput_ct (key val:List UInt8) (hl:r.length≤288230376151711744) (hU:(U.length+1)*8≤140737488355328) :
 Ct Tryz.prog W 22 [.pointer (some ⟨t,0,none⟩),strV key,strV val] [TxP t s r K U false] (fun _:Nat × Nat × Nat × Nat=>.nilIface)
  (fun z=>[TxP t s (putR r key val) (mput K key true) (U++[⟨key,(lk r key).getD [],(lk r key).isSome,z.1,z.2.1,z.2.2.1,z.2.2.2⟩]) false]):=by
 have cs:=fun g3 g4 g5=>step_ct (W:=W) (t:=t) (s:=s) (r:=r) (K:=K) (U:=U) 69 _ _ (put1_ct key val g3 g4 g5 hl) key hU
 refine Ct.enter Tryz.func22 rfl Tryz.ntmps22 (by simp) (fun R=>?_)
 repeat' (first|(refine zBn ?_;first|(refine zBg (d:=5) rfl xF rfl (fun g5=>?_))|(refine zBg (d:=4) rfl xF rfl (fun g4=>?_))|(refine zBg (d:=3) rfl xF rfl (fun g3=>?_)))|(refine zAe ?_;refine KJ.allShut (L:=putP t key val g3 g4 g5) 82 xP ?_;refine zAa xE (cs _ _ _) xP rfl (fun z=>?_))|(refine ek_mkFunc ?_;refine zAb (Ev_mkFunc3 rfl rfl rfl) ?_)|refine xst ?_|(refine xsa ?_;intro _)|(refine xsb ?_ ?_ <;>intro _<;>try (exfalso;omega))|refine xsc ?_|fail)
 all_goals (exact xdn z)
end
section
variable {W:World} {F:Nat→Addr} {N:List Nd} {a:Option Addr} {r:Rows} {q s d n:Nat} {b:Int}
instance fn_srows:FnIs Tryz.prog 116:=⟨by kernel_rfl⟩
instance fn_tof:FnIs Tryz.prog 115:=⟨by kernel_rfl⟩
theorem srows_ct (v:Int) (lg:Option Addr) (life:Int) (dead:Bool) (hT:TbOk N a r) (hl:r.length*32≤140737488355328) :
 Ct Tryz.prog W 116 [.pointer (some ⟨s,0,none⟩)] [stP s d q n v lg life dead,tbP q a b,arP N] (fun x:Option Addr × Nat=>.slice x.1 r.length x.2) (fun x=>[stP s d q n v lg life dead,tbP q a b,arP N,lsP rC 89 2 (.slice x.1 r.length x.2) r]):=by
 have cr:=trows_ct (W:=W) (p:=q) (b:=b) hT hl
 refine Ct.enter Tryz.func116 rfl Tryz.ntmps116 (by simp) (fun R=>?_)
 repeat' (first|(refine zAe ?_;refine zAa xE cr xP rfl (fun x=>?_))|refine xst ?_|(refine xsa ?_;intro _)|(refine xsb ?_ ?_ <;>intro _<;>try (exfalso;omega))|refine xsc ?_|fail)
 all_goals (exact xdn x)
theorem txbegin_ct (v:Int) (lg:Option Addr) (life:Int) (dead:Bool) (hT:TbOk N a r) (hl:r.length*32≤140737488355328) :
 Ct Tryz.prog W 57 [.pointer (some ⟨s,0,none⟩)] [stP s d q n v lg life dead,tbP q a b,arP N] (fun t:Nat=>.pointer (some ⟨t,0,none⟩)) (fun t=>[stP s d q n v lg life dead,tbP q a b,arP N,TxP t s (ofR r) [] [] false]):=by
 have cr:=srows_ct (W:=W) (s:=s) (d:=d) (q:=q) (n:=n) (b:=b) v lg life dead hT hl
 have co:=fun (xa:Option Addr) (xc:Nat)=>tof_ct (W:=W) [] _ xa xc r (Lv.own (e:=89) (c:=xc) rC_ok rfl) (by omega)
 refine Ct.enter Tryz.func57 rfl Tryz.ntmps57 (by simp) (fun R=>?_)
 repeat' (first|(refine zBn ?_;refine zBg rfl xF rfl (fun t=>?_))|(refine zAe ?_;first|(refine zAa xE (co _ _) xP rfl (fun y=>?_);obtain ⟨⟨qt,N1,a1,b1⟩,g1,t1⟩:=y;dsimp only at g1 t1 ⊢)|(refine zAa xE cr xP rfl (fun x=>?_);obtain ⟨xa,xc⟩:=x;refine KJ.arNil ?_))|(refine is_mkMap ?_;refine KJ_makeMap (t:=125) strV Value.bool rfl (fun m=>?_))|(refine zBk ?_;refine zAb (zBm xV xW) ?_)|refine xst ?_|(refine xsa ?_;intro _)|(refine xsb ?_ ?_ <;>intro _<;>try (exfalso;omega))|refine xsc ?_|fail)
 all_goals
  refine KJ.undoNil t ?_
  refine KJ.nilrow 1 1 ?_
  refine KJ.txShut (t:=t) (s:=s) (r:=ofR r) (K:=[]) (U:=[]) (ended:=false) ⟨qt,a1,b1,N1,m,none,0⟩ t1 xP ?_
 all_goals (exact xdn t)
end
end Go.Proofs.YtnbgcimalpdfoaaGreatDoor
namespace Go.Proofs.YtnbgcimalpdfoaaGreatDoor
open Go Go.RowKit
section
variable {W:World} {F:Nat→Addr} {N:List Nd} {a:Option Addr} {r:Rows} {q s d n:Nat} {b:Int} {D:Dsk}
instance fn_snapshot:FnIs Tryz.prog 160:=⟨by kernel_rfl⟩
abbrev jouP (g d:Nat) (n v:Nat) (life:Int):SP:=zAn g [.pointer (some ⟨d,0,none⟩),.int .i64 (logAt n:Nat),.int .i64 (logN n:Nat),.int .i64 (v:Nat),.int .i64 0,.int .i64 life,.bool false] 256
theorem sfold_ct (hE:ErrsOn L8 W F) (hN:NibAt W) (h1:64≤n) (h2:n≤65536) (v:Nat) (hv:v+1≤1099511627776) (lg:Option Addr) (life:Int) (dead:Bool) (hT:TbOk N a r) (hn:D.n=n) (hr:(snapB r).length≤234*layA n) (hul:D.und.length+65536<1073741823)
 (hA:(areaW D (areaAt n (v+1)) (layA n) ((v+1:Nat):Int) (snapB r)).1=0) (hu2:(fldA D n (v+1) r).und=[]) (hn2:(fldA D n (v+1) r).n=n) (hS:slotWE (fldA D n (v+1) r) 0 ((v+1:Nat):Int) (hdrB n (snapB r).length)=0) (ho:(fldD D n (v+1) r).off=false) (hn3:(fldD D n (v+1) r).n=n) :
 Ct Tryz.prog W 111 [.pointer (some ⟨s,0,none⟩)] [stP s d q n (v:Nat) lg life dead,DiskP d D,tbP q a b,arP N] (fun _:Nat=>.nilIface)
  (fun g=>[stP s d q n ((v+1:Nat):Int) (some ⟨g,0,none⟩) life dead,DiskP d (fldD D n (v+1) r),tbP q a b,arP N,jouP g d n (v+1) (fldD D n (v+1) r).life]):=by
 obtain ⟨f1,f2,f3,f4⟩:=lay_fit h1 (v+1)
 have hA2:=layA_le h2
 have cs:=snapshot_ct (W:=W) (p:=q) (b:=b) hT (by omega)
 have cA:Ct Tryz.prog W 162 [.pointer (some ⟨d,0,none⟩),.int .i64 (areaAt n (v+1):Nat),.int .i64 (layA n:Nat),.int .u64 ((v+1:Nat):Int),strV (snapB r)] [DiskP d D] (fun _:Unit=>.nilIface) (fun _=>[DiskP d (fldA D n (v+1) r)]):=by
  have:=awrite_ct (W:=W) (p:=d) (D:=D) hE hN (by omega) hul (areaAt n (v+1):Nat) (layA n:Nat) ((v+1:Nat):Int) (snapB r)
  rw [hA] at this
  exact this
 have cW:Ct Tryz.prog W 163 [.pointer (some ⟨d,0,none⟩),.int .i64 0,.int .i64 ((v+1:Nat):Int),strV (hdrB n (snapB r).length)] [DiskP d (fldA D n (v+1) r)] (fun _:Unit=>.nilIface) (fun _=>[DiskP d (fldD D n (v+1) r)]):=by
  have:=swrite_ct (W:=W) (p:=d) (D:=fldA D n (v+1) r) hE hN (by omega) (by rw [hu2];simp) 0 ((v+1:Nat):Int) (hdrB n (snapB r).length)
  rw [hS] at this
  exact this
 have cB:=begin_ct (W:=W) (p:=d) (D:=fldD D n (v+1) r) (by omega) ho (logAt n:Nat) (logN n:Nat) ((v+1:Nat):Int) ⟨by omega,by omega,by omega,by omega,by omega,by omega,by omega⟩
 obtain ⟨D1,hD1⟩:∃ D1,D1=fldA D n (v+1) r:=⟨_,rfl⟩
 obtain ⟨D2,hD2⟩:∃ D2,D2=fldD D n (v+1) r:=⟨_,rfl⟩
 rw [← hD1,← hD2] at cW
 rw [← hD1] at cA
 rw [← hD2] at cB ⊢
 clear hA hS hD1 hD2 hu2 hn2
 have csz:Ct Tryz.prog W 104 [.pointer (some ⟨d,0,none⟩)] [DiskP d D] (fun _:Unit=>.int .i64 (n:Nat)) (fun _=>[DiskP d D]):=by
  have:=size_ct (W:=W) (p:=d) (D:=D)
  rw [hn] at this
  exact this
 obtain ⟨L,hL⟩:∃ L,L=snapB r:=⟨_,rfl⟩
 rw [← hL] at hr cs cA cW
 clear hL
 have cn:=wnew_ct (W:=W)
 have cu1:∀ g,Ct Tryz.prog W 161 [.pointer (some ⟨g,0,none⟩),.int .u64 (n:Nat)] [WrP g []] (fun _:Unit=>.tuple #[]) (fun _=>[WrP g (vu n)]):=fun g=>by
  have:=wuint_ct (W:=W) (p:=g) (l:=[]) n (by omega) (by simp)
  rw [List.nil_append] at this
  exact this
 have hvn:=vu_len n
 have hvp:=vu_pos n
 have cu2:∀ g,Ct Tryz.prog W 161 [.pointer (some ⟨g,0,none⟩),.int .u64 (L.length:Nat)] [WrP g (vu n)] (fun _:Unit=>.tuple #[]) (fun _=>[WrP g (hdrB n L.length)]):=fun g=>wuint_ct (W:=W) (p:=g) (l:=vu n) L.length (by omega) (by omega)
 have co:∀ g,Ct Tryz.prog W 61 [.pointer (some ⟨g,0,none⟩)] [WrP g (hdrB n L.length)] (fun _:Unit=>strV (hdrB n L.length)) (fun _=>[WrP g (hdrB n L.length)]):=fun g=>wout_ct (W:=W) (by unfold hdrB;rw [List.length_append];omega)
 have w1:IntKind.u64.wrap ((n:Nat):Int)=((n:Nat):Int):=zCd _ (by omega)
 have w2:IntKind.u64.wrap ((L.length:Nat):Int)=((L.length:Nat):Int):=zCd _ (by omega)
 have w3:IntKind.u64.wrap ((v+1:Nat):Int)=((v+1:Nat):Int):=zCd _ (by omega)
 have q0:decide ((1099511627776:Int)≤(v:Nat))=false:=decide_eq_false (by omega)
 have fin:∀ m:Nat,((v+1:Nat):Int) % 2=(m:Nat)→(stC d q n (v:Nat) lg life dead)[0+1+0+((m:Nat):Int).toNat*1]? = some (.int .i64 (areaAt n (v+1):Nat)):=fun m hm=>by
  unfold areaAt
  rcases (show m=0∨m=1 by omega) with rfl|rfl
  ·rw [if_pos (by omega)];rfl
  ·rw [if_neg (by omega)];rfl
 obtain ⟨m,hm⟩:∃ m:Nat,((v+1:Nat):Int) % 2=(m:Nat):=⟨(v+1) % 2,by omega⟩
 have hx:=fin m hm
 have hm2:m<2:=by omega
 clear fin
 refine Ct.enter Tryz.func111 rfl Tryz.ntmps111 (by simp) (fun R=>?_)
 repeat' (first|(refine zAe ?_;first|(refine zAa xE cB xP rfl (fun g=>?_))|(refine zAa xE cW xP rfl (fun _=>?_))|(refine zAa xE cA xP rfl (fun _=>?_))|(refine zAa xE (co _) xP rfl (fun _=>?_))|(refine zAa xE (cu2 _) xP rfl (fun _=>?_))|(refine zAa xE (cu1 _) xP rfl (fun _=>?_))|(refine zAa xE csz xP rfl (fun _=>?_))|(refine zAa xE cn xP rfl (fun pw=>?_))|(refine zAa xE cs xP rfl (fun _=>?_)))|(refine zAp ?_;refine zAb (Ev_load rfl xS hx) ?_)|(refine zBi ?_;first|refine zAb (zAs rfl w3) ?_|refine zAb (zAs rfl w2) ?_|refine zAb (zAs rfl w1) ?_)|(refine zAu ?_;refine zAb (zAh (r:=((v+1:Nat):Int)) rfl rfl (by omega) (by omega)) ?_)|(refine ek_rem ?_;refine zAb (Ev_rem_w rfl rfl (by omega) hm) ?_)|(refine zCa ?_;refine zAb (zAv rfl rfl q0) ?_)|refine xst ?_|(refine xsa ?_;intro _)|(refine xsb ?_ ?_ <;>intro _<;>try (exfalso;omega))|refine xsc ?_|(refine zAc (id:=3) plVDZ4 (by kernel_rfl) (by kernel_rfl) ?_)|(refine zAc (id:=7) plVDZ5 (by kernel_rfl) (by kernel_rfl) ?_)|(refine zAc (id:=10) plVDZ6 (by kernel_rfl) (by kernel_rfl) ?_)|refine zAm ?_ ?_|refine zAk rfl rfl rfl rfl rfl ?_ ?_|refine zAg ?_ ?_|exact Rech.nil|fail)
 all_goals (exact xdn g)
end
end Go.Proofs.YtnbgcimalpdfoaaGreatDoor
namespace Go.Proofs.YtnbgcimalpdfoaaGreatDoor
open Go Go.RowKit
theorem snap_nil:snapB []=[0]:=rfl
section
variable {W:World} {F:Nat→Addr} {q s d n g:Nat} {D:Dsk}
instance fn_must:FnIs Tryz.prog 165:=⟨by kernel_rfl⟩
theorem must_ct:Ct Tryz.prog W 165 [.nilIface] [] (fun _:Unit=>.tuple #[]) (fun _=>[]):=by
 refine Ct.enter Tryz.func165 rfl Tryz.ntmps165 (by simp) (fun R=>?_)
 repeat' (first|refine xst ?_|(refine xsa ?_;intro _)|(refine xsb ?_ ?_ <;>intro _<;>try (exfalso;omega))|refine xsc ?_|fail)
 all_goals (exact xdn ())
theorem unless_ct (e:Value):Ct Tryz.prog W 170 [.bool true,e] [] (fun _:Unit=>.tuple #[]) (fun _=>[]):=by
 refine Ct.enter Tryz.func170 rfl Tryz.ntmps170 (by simp) (fun R=>?_)
 repeat' (first|refine xst ?_|(refine xsa ?_;intro _)|(refine xsb ?_ ?_ <;>intro _<;>try (exfalso;omega))|refine xsc ?_|fail)
 all_goals (exact xdn ())
theorem corrupt_ct (hE:ErrsOn L37 W F):Ct Tryz.prog W 167 [.nilIface] [] (fun _:Unit=>.tuple #[]) (fun _=>[]):=by
 have e12:W.cell? ⟨12,0,none⟩=some (errV F 12):=hE.at_ 12 (by decide)
 have e15:W.cell? ⟨4,0,none⟩=some (errV F 15):=hE.at_ 15 (by decide)
 have cu:=unless_ct (W:=W) (errV F 15)
 have cm:=must_ct (W:=W)
 refine Ct.enter Tryz.func167 rfl Tryz.ntmps167 (by simp) (fun R=>?_)
 repeat' (first|(refine zAe ?_;first|(refine zAa xE cm xP rfl (fun _=>?_))|(refine zAa xE cu xP rfl (fun _=>?_)))|(refine zAp ?_;first|refine zAb (zAq rfl e15) ?_|refine zAb (zAq rfl e12) ?_)|(refine zBc ?_;refine zAb (Ev_neqE (a:=0) (b:=12) hE rfl rfl (.inl rfl) (by decide) rfl) ?_)|refine xst ?_|(refine xsa ?_;intro _)|(refine xsb ?_ ?_ <;>intro _<;>try (exfalso;omega))|refine xsc ?_|(refine zAc (id:=1) plVDZ7 (by kernel_rfl) (by kernel_rfl) ?_)|refine zAm ?_ ?_|refine zAk rfl rfl rfl rfl rfl ?_ ?_|refine zAg ?_ ?_|exact Rech.nil|fail)
 all_goals (exact xdn ())
theorem sroom_ct (v:Int) (lg:Option Addr) (life:Int) (dead:Bool) (h2:n≤65536):Ct Tryz.prog W 110 [.pointer (some ⟨s,0,none⟩)] [stP s d q n v lg life dead] (fun _:Unit=>.int .i64 (234*layA n:Nat)) (fun _=>[stP s d q n v lg life dead]):=by
 have hA:=layA_le h2
 have cr:Ct Tryz.prog W 159 [.int .i64 (layA n:Nat)] [] (fun _:Unit=>.int .i64 (234*layA n:Nat)) (fun _=>[]):=by
  have:=room9_ct (W:=W) (layA n:Nat)
  rw [show roomI (layA n:Nat)=(234*layA n:Nat) by unfold roomI;omega] at this
  exact this
 refine Ct.enter Tryz.func110 rfl Tryz.ntmps110 (by simp) (fun R=>?_)
 repeat' (first|(refine zAe ?_;refine zAa xE cr xP rfl (fun _=>?_))|refine xst ?_|(refine xsa ?_;intro _)|(refine xsb ?_ ?_ <;>intro _<;>try (exfalso;omega))|refine xsc ?_|fail)
 all_goals (exact xdn ())
theorem restore0_ct (hE:ErrsOn L37 W F):Ct Tryz.prog W 172 [strV [0]] [] (fun q:Nat=>.pointer (some ⟨q,0,none⟩)) (fun q=>[tbP q none 0]):=by
 have e1:W.cell? ⟨14,0,none⟩=some (errV F 1):=hE.at_ 1 (by decide)
 have e2:W.cell? ⟨15,0,none⟩=some (errV F 2):=hE.at_ 2 (by decide)
 have e3:W.cell? ⟨16,0,none⟩=some (errV F 3):=hE.at_ 3 (by decide)
 have e5:W.cell? ⟨18,0,none⟩=some (errV F 5):=hE.at_ 5 (by decide)
 have crd:=rread_ct (W:=W) [0]
 have cup:∀ g,Ct Tryz.prog W 168 [.pointer (some ⟨g,0,none⟩),.int .i64 1] [rdP g [0] 0] (fun _:Unit=>.tuple #[.int .i64 0,.nilIface]) (fun _=>[rdP g [0] 1]):=fun g=>rupto_ct (W:=W) (F:=F) (p:=g) (s:=[0]) (a:=0) 1 (by omega) (by simp) (by simp) e1 e2 e3 (.ok 0 []) rfl
 have cd:∀ g,Ct Tryz.prog W 169 [.pointer (some ⟨g,0,none⟩)] [rdP g [0] 1] (fun _:Unit=>.nilIface) (fun _=>[rdP g [0] 1]):=fun g=>rdone_ct (W:=W) (F:=F) (p:=g) (s:=[0]) (a:=1) (by simp) (by simp) e5
 have cc:=corrupt_ct (W:=W) hE
 have ct:=tnew_ct (W:=W)
 refine Ct.enter Tryz.func172 rfl Tryz.ntmps172 (by simp) (fun R=>?_)
 repeat' (first|(refine zAe ?_;first|(refine zAa xE ct xP rfl (fun q=>?_))|(refine zAa xE cc xP rfl (fun _=>?_))|(refine zAa xE (cup _) xP rfl (fun _=>?_))|(refine zAa xE crd xP rfl (fun g=>?_)))|refine xst ?_|(refine xsa ?_;intro _)|(refine xsb ?_ ?_ <;>intro _<;>try (exfalso;omega))|refine xsc ?_|fail)
 refine zBe (fun _:Unit=>[(3,.pointer (some ⟨g,0,none⟩)),(6,.pointer (some ⟨q,0,none⟩)),(24,.int .i64 0),(25,.int .i64 0)]) (fun _=>[tbP q none 0,rdP g [0] 1]++R) (fun _=>0) () xB (xN) (fun _=>?_)
 have ql:decide ((0:Int)<0)=false:=rfl
 repeat' (first|(refine zAe ?_;first|(refine zAa xE cc xP rfl (fun _=>?_))|(refine zAa xE (cd _) xP rfl (fun _=>?_)))|(refine zAi ?_;refine zAb (zAd rfl rfl ql) ?_)|refine xst ?_|(refine xsa ?_;intro _)|(refine xsb ?_ ?_ <;>intro _<;>try (exfalso;omega))|refine xsc ?_|fail)
 all_goals (exact xdn q)
end
end Go.Proofs.YtnbgcimalpdfoaaGreatDoor
namespace Go.Proofs.YtnbgcimalpdfoaaGreatDoor
open Go Go.RowKit
section
variable {P:Program} {W:World} {n:Nat} {k:KK} {E:Env} {H R:List SP} {x z:Operand} {t e:TypeId}
theorem Ct.rowSl {P:Program} {W:World} {f:FuncId} {args:List Value} {Hpre:List SP} {A:SP} {e size m:Nat} {xs:List Value} (h:Ct P W f args Hpre (fun v:Value=>.tuple #[v,.nilIface]) (fun v=>[A,rowP v e size m xs])) :
 Ct P W f args Hpre (fun x:Option Addr × Nat=>.tuple #[.slice x.1 m x.2,.nilIface]) (fun x=>[A,rowP (.slice x.1 m x.2) e size m xs]):=
 ⟨fun R w s=>(h.go R w s).mono fun en w' ⟨v,he,st⟩=>by
  have hrow:=St.row (v:=v) (e:=e) (size:=size) (n:=m) (xs:=xs) st (.there .here)
  rcases hrow.2 with ⟨hv,q⟩|⟨g,cap,cur,hv,_⟩
  ·subst hv
   subst q
   exact ⟨(none,0),he,st⟩
  ·subst hv
   exact ⟨(some ⟨g,0,none⟩,cap),he,st⟩⟩
end
section
variable {W:World} {E:Nat→Addr} {p g:Nat} {D:Dsk}
theorem sync_ct (hE:ErrsOn L8 W E) (at_ n ver used life:Int) (hdn:downB D life false=false) (hul:D.und.length<1073741823):Ct Tryz.prog W 149 [.pointer (some ⟨g,0,none⟩)] [DiskP p D,zAn g [.pointer (some ⟨p,0,none⟩),.int .i64 at_,.int .i64 n,.int .i64 ver,.int .i64 used,.int .i64 life,.bool false] 256] (fun _:Unit=>errV E (if D.flushE=0 then 0 else 12)) (fun _=>[DiskP p D.flushD,zAn g [.pointer (some ⟨p,0,none⟩),.int .i64 at_,.int .i64 n,.int .i64 ver,.int .i64 used,.int .i64 life,.bool (decide (D.flushE≠0))] 256]):=by
 have e12:W.cell? ⟨12,0,none⟩=some (errV E 12):=hE.at_ 12 (by decide)
 have c1:=down_ct (W:=W) (p:=p) (g:=g) (D:=D) at_ n ver used life false
 rw [hdn] at c1
 have c2:=flush_ct (W:=W) (p:=p) (D:=D) hE (by omega)
 obtain ⟨D1,hD1⟩:∃ D1,D1=D.flushD:=⟨_,rfl⟩
 obtain ⟨e,he⟩:∃ e,e=D.flushE:=⟨_,rfl⟩
 rw [← hD1,← he]
 rw [← hD1,← he] at c2
 clear hD1 he
 by_cases hz:e=0
 ·subst hz
  have c2':Ct Tryz.prog W 203 [.pointer (some ⟨p,0,none⟩)] [DiskP p D] (fun _:Unit=>.nilIface) (fun _=>[DiskP p D1]):=c2
  refine Ct.enter Tryz.func149 rfl Tryz.ntmps149 (by simp) (fun R=>?_)
  repeat' (first|(refine zAe ?_;first|(refine zAa xE c2' xP rfl (fun _=>?_))|(refine zAa xE c1 xP rfl (fun _=>?_)))|refine xst ?_|(refine xsa ?_;intro _)|(refine xsb ?_ ?_ <;>intro _<;>try (exfalso;omega))|refine xsc ?_|fail)
  all_goals (exact xdn ())
 ·obtain ⟨ea,hea⟩:=errV_ne (E:=E) hz
  rw [hea] at c2
  rw [if_neg hz,decide_eq_true (show e≠0 from hz)]
  refine Ct.enter Tryz.func149 rfl Tryz.ntmps149 (by simp) (fun R=>?_)
  repeat' (first|(refine zAe ?_;first|(refine zAa xE c2 xP rfl (fun _=>?_))|(refine zAa xE c1 xP rfl (fun _=>?_)))|(refine zAp ?_;refine zAb (zAq rfl e12) ?_)|refine xst ?_|(refine xsa ?_;intro _)|(refine xsb ?_ ?_ <;>intro _<;>try (exfalso;omega))|refine xsc ?_|fail)
  all_goals (exact xdn ())
end
end Go.Proofs.YtnbgcimalpdfoaaGreatDoor
namespace Go.Proofs.YtnbgcimalpdfoaaGreatDoor
open Go Go.RowKit
section
variable {W:World} {F:Nat→Addr} {q s d n g:Nat} {D:Dsk}
instance fn_restore:FnIs Tryz.prog 172:=⟨by kernel_rfl⟩
theorem sload0_ct (hE:ErrsOn L37 W F) (hE8:ErrsOn L8 W F) (hN:NibAt W) (h1:64≤n) (h2:n≤178) (v:Nat) (hv:1≤v∧v≤1099511627776) (life:Int) (hG:Good n [] v D) :
 Ct Tryz.prog W 114 [.pointer (some ⟨s,0,none⟩)] [stP s d q n 0 none life false,DiskP d D] (fun _:Nat=>.tuple #[]) (fun q'=>[stP s d q' n (v:Nat) none life false,DiskP d D,tbP q' none 0]):=by
 have e1:W.cell? ⟨14,0,none⟩=some (errV F 1):=hE.at_ 1 (by decide)
 have e2:W.cell? ⟨15,0,none⟩=some (errV F 2):=hE.at_ 2 (by decide)
 have e3:W.cell? ⟨16,0,none⟩=some (errV F 3):=hE.at_ 3 (by decide)
 have e5:W.cell? ⟨18,0,none⟩=some (errV F 5):=hE.at_ 5 (by decide)
 have e15:W.cell? ⟨4,0,none⟩=some (errV F 15):=hE.at_ 15 (by decide)
 obtain ⟨f1,f2,f3,f4⟩:=lay_fit h1 v
 have hA:=layA_le (n:=n) (by omega)
 have hDn:=hG.nn
 have ho:=hG.rest.calm.1
 obtain ⟨g1,g2,g3,g4⟩:=hG.read h1 (by omega) hv (by rw [snap_nil];simp;omega)
 have g5:=hG.log0 h1 h2 hv
 have hvp:=vu_pos n
 have hvn:=vu_len n
 obtain ⟨hd,hhd⟩:∃ hd,hd=hdrB n 1:=⟨_,rfl⟩
 have hdl:hd.length=(vu n).length+1:=by rw [hhd];unfold hdrB;rw [List.length_append];rfl
 have hru1:ru (hd.drop 0)=.ok n [1]:=by
  rw [List.drop_zero,hhd]
  exact ru_vu n (by omega) [1]
 have hru2:ru (hd.drop (vu n).length)=.ok 1 []:=by
  rw [hhd]
  unfold hdrB
  rw [List.drop_left]
  rfl
 have cr:Ct Tryz.prog W 106 [.pointer (some ⟨d,0,none⟩),.int .i64 0] [DiskP d D] (fun _:Unit=>.tuple #[strV hd,.int .i64 (v:Nat),.nilIface]) (fun _=>[DiskP d D]):=by
  have:=sread_ct (W:=W) (p:=d) (D:=D) hE8 hN (by omega) 0
  rw [g1,g2,g3,snap_nil,show ([0]:List UInt8).length=1 from rfl,← hhd] at this
  exact this
 have crd:=rread_ct (W:=W) hd
 have cu:∀ g,Ct Tryz.prog W 166 [.pointer (some ⟨g,0,none⟩)] [rdP g hd 0] (fun _:Unit=>.tuple #[.int .u64 (n:Nat),.nilIface]) (fun _=>[rdP g hd (vu n).length]):=fun g=>by
  have:=ruint_ct (W:=W) (F:=F) (p:=g) (s:=hd) (a:=0) (by omega) (by omega) e1 e2 (.ok n [1]) hru1
  rw [Nat.zero_add] at this
  exact this
 have cup:∀ g,Ct Tryz.prog W 168 [.pointer (some ⟨g,0,none⟩),.int .i64 (234*layA n:Nat)] [rdP g hd (vu n).length] (fun _:Unit=>.tuple #[.int .i64 1,.nilIface]) (fun _=>[rdP g hd ((vu n).length+1)]):=fun g=>by
  have:=rupto_ct (W:=W) (F:=F) (p:=g) (s:=hd) (a:=(vu n).length) (234*layA n) (by omega) (by omega) (by omega) e1 e2 e3 (.ok 1 []) hru2
  have u1:uptN (234*layA n) (.ok 1 [])=1:=(if_neg (by omega):(if 234*layA n<1 then 0 else 1)=1)
  have u2:uptE (234*layA n) (.ok 1 [])=0:=(if_neg (by omega):(if 234*layA n<1 then 3 else 0)=0)
  have u3:uptL (234*layA n) (.ok 1 [])=1:=(if_neg (by omega):(if 234*layA n<1 then 0 else (vu 1).length)=(vu 1).length)
  rw [u1,u2,u3] at this
  exact this
 have cd:∀ g,Ct Tryz.prog W 169 [.pointer (some ⟨g,0,none⟩)] [rdP g hd ((vu n).length+1)] (fun _:Unit=>.nilIface) (fun _=>[rdP g hd ((vu n).length+1)]):=fun g=>by
  have:=rdone_ct (W:=W) (F:=F) (p:=g) (s:=hd) (a:=(vu n).length+1) (by omega) (by omega) e5
  rw [if_neg (by omega)] at this
  exact this
 have cm:=must_ct (W:=W)
 have cc:=corrupt_ct (W:=W) hE
 have cun:=unless_ct (W:=W) (errV F 15)
 have cro:=fun q v=>sroom_ct (W:=W) (s:=s) (d:=d) (q:=q) (n:=n) v none life false (by omega)
 have csz:Ct Tryz.prog W 104 [.pointer (some ⟨d,0,none⟩)] [DiskP d D] (fun _:Unit=>.int .i64 (n:Nat)) (fun _=>[DiskP d D]):=by
  have:=size_ct (W:=W) (p:=d) (D:=D)
  rw [hDn] at this
  exact this
 have car:Ct Tryz.prog W 171 [.pointer (some ⟨d,0,none⟩),.int .i64 (areaAt n v:Nat),.int .i64 (layA n:Nat),.int .u64 (v:Nat),.int .i64 1] [DiskP d D] (fun _:Unit=>.tuple #[strV [0],.nilIface]) (fun _=>[DiskP d D]):=by
  have:=aread_ct (W:=W) (p:=d) (D:=D) hE8 e15 hN (by omega) (areaAt n v:Nat) (layA n:Nat) (v:Nat) 1
  have g6:areaR D (areaAt n v:Nat) (layA n:Nat) (v:Nat) 1=([0],0):=g4
  rw [g6] at this
  exact this
 have cre:=restore0_ct (W:=W) hE
 have crp:Ct Tryz.prog W 173 [.pointer (some ⟨d,0,none⟩),.int .i64 (logAt n:Nat),.int .i64 (logN n:Nat),.int .i64 (v:Nat)] [DiskP d D] (fun x:Option Addr × Nat=>.tuple #[.slice x.1 0 x.2,.nilIface]) (fun x=>[DiskP d D,rowP (.slice x.1 0 x.2) 9 1 0 []]):=by
  have h:=replay_ct (W:=W) (p:=d) (D:=D) hE8 hN (logAt n:Nat) (logN n:Nat) v (by omega) ho ⟨by omega,by omega,by omega,by omega,by omega,by omega,by omega⟩
  rw [g5] at h
  exact Ct.rowSl h
 have csi:∀ q,Ct Tryz.prog W 109 [.pointer (some ⟨q,0,none⟩)] [tbP q none 0] (fun _:Unit=>.int .i64 1) (fun _=>[tbP q none 0]):=fun q=>by
  have:=ssize_ct (W:=W) (N:=[]) (p:=q) (b:=0) (TbOk.nil []) (by rw [snap_nil];simp)
  refine ⟨fun R w st=>?_⟩
  have h2:=this.go R w (st.mono fun g hg=>by
   obtain ⟨x1,x2,y1,y2,y3,y4,y5⟩:=hg
   exact ⟨x1,x2,y1,y2,y3,y4,arNil_star _ y5⟩)
  refine h2.mono fun e w' ⟨x,he,hs⟩=>⟨x,he,hs.mono fun g hg=>?_⟩
  obtain ⟨x1,x2,y1,y2,y3,y4,z1,z2,z3,z4,z5,z6,z7⟩:=hg
  exact ⟨x1,x2,y1,y2,y3,y4,starL_le z5 z7⟩
 clear g1 g2 g3 g4 g5 hru1 hru2 hG hhd
 have w1:IntKind.u64.wrap ((n:Nat):Int)=((n:Nat):Int):=zCd _ (by omega)
 have w2:IntKind.u64.wrap ((v:Nat):Int)=((v:Nat):Int):=zCd _ (by omega)
 obtain ⟨m,hm⟩:∃ m:Nat,((v:Nat):Int) % 2=(m:Nat):=⟨v % 2,by omega⟩
 have hm2:m<2:=by omega
 have hx:∀ z,(stC d z n 0 none life false)[0+1+0+((m:Nat):Int).toNat*1]? = some (.int .i64 (areaAt n v:Nat)):=fun z=>by
  unfold areaAt
  rcases (show m=0∨m=1 by omega) with rfl|rfl
  ·rw [if_pos (by omega)];rfl
  ·rw [if_neg (by omega)];rfl
 have qe:decide (((n:Nat):Int)=((n:Nat):Int))=true:=decide_eq_true rfl
 have qs:decide ((1:Int)≤((234*layA n:Nat):Int))=true:=decide_eq_true (by omega)
 refine Ct.enter Tryz.func114 rfl Tryz.ntmps114 (by simp) (fun R=>?_)
 repeat' (first|(refine zAe ?_;first|(refine zAa xE crp xP rfl (fun x=>?_);obtain ⟨xa,xc⟩:=x)|(refine zAa xE cre xP rfl (fun q'=>?_))|(refine zAa xE car xP rfl (fun _=>?_))|(refine zAa xE cun xP rfl (fun _=>?_))|(refine zAa xE csz xP rfl (fun _=>?_))|(refine zAa xE (cd _) xP rfl (fun _=>?_))|(refine zAa xE (cup _) xP rfl (fun _=>?_))|(refine zAa xE (cro _ _) xP rfl (fun _=>?_))|(refine zAa xE cc xP rfl (fun _=>?_))|(refine zAa xE (cu _) xP rfl (fun _=>?_))|(refine zAa xE crd xP rfl (fun g=>?_))|(refine zAa xE cm xP rfl (fun _=>?_))|(refine zAa xE cr xP rfl (fun _=>?_)))|(refine zAp ?_;first|refine zAb (Ev_load rfl xS (hx _)) ?_|refine zAb (zAq rfl e15) ?_)|(refine zBi ?_;first|refine zAb (zAs rfl w2) ?_|refine zAb (zAs rfl w1) ?_)|(refine ek_rem ?_;refine zAb (Ev_rem_w rfl rfl (by omega) hm) ?_)|(refine zAx ?_;refine zAb (zAf rfl rfl qe) ?_)|refine xst ?_|(refine xsa ?_;intro _)|(refine xsb ?_ ?_ <;>intro _<;>try (exfalso;omega))|refine xsc ?_|(refine zAc (id:=8) plVDZ8 (by kernel_rfl) (by kernel_rfl) ?_)|(refine zAc (id:=9) plVDZ9 (by kernel_rfl) (by kernel_rfl) ?_)|(refine zAc (id:=12) plVDZ6 (by kernel_rfl) (by kernel_rfl) ?_)|(refine zAc (id:=21) plVDZ10 (by kernel_rfl) (by kernel_rfl) ?_)|refine zAm ?_ ?_|refine zAk rfl rfl rfl rfl rfl ?_ ?_|refine zAg ?_ ?_|exact Rech.nil|fail)
 refine zBe (fun _:Unit=>[(0,.pointer (some ⟨s,0,none⟩)),(3,.int .i64 (v:Nat)),(109,.int .i64 0),(110,.int .i64 0)]) (fun _=>[stP s d q' n 0 none life false,DiskP d D,tbP q' none 0]++R) (fun _=>0) () xB (xN) (fun _=>?_)
 have ql:decide ((0:Int)<0)=false:=rfl
 repeat' (first|(refine zAe ?_;first|(refine zAa xE cun xP rfl (fun _=>?_))|(refine zAa xE (cro _ _) xP rfl (fun _=>?_))|(refine zAa xE (csi _) xP rfl (fun _=>?_)))|(refine zAp ?_;refine zAb (zAq rfl e15) ?_)|(refine zAi ?_;refine zAb (zAd rfl rfl ql) ?_)|(refine ek_leq ?_;refine zAb (zBf rfl rfl qs) ?_)|refine xst ?_|(refine xsa ?_;intro _)|(refine xsb ?_ ?_ <;>intro _<;>try (exfalso;omega))|refine xsc ?_|(refine zAc (id:=8) plVDZ8 (by kernel_rfl) (by kernel_rfl) ?_)|(refine zAc (id:=9) plVDZ9 (by kernel_rfl) (by kernel_rfl) ?_)|(refine zAc (id:=12) plVDZ6 (by kernel_rfl) (by kernel_rfl) ?_)|(refine zAc (id:=21) plVDZ10 (by kernel_rfl) (by kernel_rfl) ?_)|refine zAm ?_ ?_|refine zAk rfl rfl rfl rfl rfl ?_ ?_|refine zAg ?_ ?_|exact Rech.nil|fail)
 all_goals (exact xdn q')
end
end Go.Proofs.YtnbgcimalpdfoaaGreatDoor
namespace Go.Proofs.YtnbgcimalpdfoaaGreatDoor
open Go Go.RowKit
section
variable {W:World} {F:Nat→Addr} {q s d n g:Nat} {D:Dsk}
instance fn_over:FnIs Tryz.prog 107:=⟨by kernel_rfl⟩
instance fn_size:FnIs Tryz.prog 109:=⟨by kernel_rfl⟩
theorem over_ct (h1:64≤n) (h2:n≤65536) (hn:D.n=n):Ct Tryz.prog W 107 [.pointer (some ⟨d,0,none⟩)] [DiskP d D] (fun x:Nat × Nat=>.pointer (some ⟨x.1,0,none⟩)) (fun x=>[stP x.1 d x.2 n 0 none D.life false,DiskP d D,tbP x.2 none 0]):=by
 have csz:Ct Tryz.prog W 104 [.pointer (some ⟨d,0,none⟩)] [DiskP d D] (fun _:Unit=>.int .i64 (n:Nat)) (fun _=>[DiskP d D]):=by
  have:=size_ct (W:=W) (p:=d) (D:=D)
  rw [hn] at this
  exact this
 have cl:=layoutOf_ct (W:=W) h1 h2
 have ct:=tnew_ct (W:=W)
 have cf:=life_ct (W:=W) (p:=d) (D:=D)
 refine Ct.enter Tryz.func107 rfl Tryz.ntmps107 (by simp) (fun R=>?_)
 repeat' (first|(refine zBn ?_;refine zBg rfl xF rfl (fun s=>?_))|(refine zAe ?_;first|(refine zAa xE cf xP rfl (fun _=>?_))|(refine zAa xE ct xP rfl (fun q=>?_))|(refine zAa xE cl xP rfl (fun _=>?_))|(refine zAa xE csz xP rfl (fun _=>?_)))|(refine zBk ?_;refine zAb (zBm xV xW) ?_)|refine xst ?_|(refine xsa ?_;intro _)|(refine xsb ?_ ?_ <;>intro _<;>try (exfalso;omega))|refine xsc ?_|fail)
 all_goals (exact xdn (s,q))
instance fn_fold:FnIs Tryz.prog 111:=⟨by kernel_rfl⟩
theorem sformat0_ct (_hE:ErrsOn L37 W F) (hE8:ErrsOn L8 W F) (hN:NibAt W) (h1:64≤n) (h2:n≤65536):Ct Tryz.prog W 55 [.pointer (some ⟨d,0,none⟩),.slice none 0 0] [DiskP d (Dsk.blank n)] (fun _:Unit=>.nilIface) (fun _=>[DiskP d (fldD (Dsk.blank n) n 1 [])]):=by
 have hA:=layA_le h2
 obtain ⟨f1,f2,f3,f4⟩:=lay_fit h1 0
 have hb:=blank_rest n (by omega) h2
 obtain ⟨t1,t2,t3⟩:=Holds.told hb (a:=0) (by show 0+2≤n;omega) (Holds.blank n 0 (by omega))
 obtain ⟨g1,g2,g3,g4,g5,g6,g7,g8⟩:=(Ready.blank h1 h2).fold [] h1 h2 (by omega) (by rw [snap_nil];simp;omega)
 rw [if_pos rfl] at t1
 obtain ⟨ea,hea⟩:=errV_ne (E:=F) (show (14:Nat)≠0 by omega)
 have cr:Ct Tryz.prog W 106 [.pointer (some ⟨d,0,none⟩),.int .i64 0] [DiskP d (Dsk.blank n)] (fun _:Unit=>.tuple #[strV [],.int .i64 0,.iface 318 (.pointer (some ea))]) (fun _=>[DiskP d (Dsk.blank n)]):=by
  have:=sread_ct (W:=W) (p:=d) (D:=Dsk.blank n) hE8 hN h2 0
  have e0:slotE (Dsk.blank n) 0=14:=t1
  rw [e0,hea] at this
  have e1:slotS (Dsk.blank n) 0=[]:=by unfold slotS;rw [e0];rfl
  have e2:slotN (Dsk.blank n) 0=0:=by unfold slotN;rw [e0];rfl
  rw [e1,e2] at this
  exact this
 have csz:Ct Tryz.prog W 104 [.pointer (some ⟨d,0,none⟩)] [DiskP d (Dsk.blank n)] (fun _:Unit=>.int .i64 (n:Nat)) (fun _=>[DiskP d (Dsk.blank n)]):=size_ct (W:=W) (p:=d) (D:=Dsk.blank n)
 have cof:Ct Tryz.prog W 105 [.pointer (some ⟨d,0,none⟩)] [DiskP d (Dsk.blank n)] (fun _:Unit=>.bool false) (fun _=>[DiskP d (Dsk.blank n)]):=off_ct (W:=W) (p:=d) (D:=Dsk.blank n)
 have cov:=over_ct (W:=W) (d:=d) (D:=Dsk.blank n) h1 h2 rfl
 have cap:=fun q=>bapply_ct (W:=W) (N:=[]) (ta:=none) (r:=[]) (p:=q) (tb:=0) (TbOk.nil []) noP none 0 [] ⟨fun w H R _ _ h=>absurd rfl h⟩ (by simp)
 have csi:=fun (q:Nat) (N:List Nd) (a:Option Addr) (b:Int) (hT:TbOk N a [])=>ssize_ct (W:=W) (N:=N) (p:=q) (b:=b) hT (by rw [snap_nil];simp)
 have cro:=fun s q=>sroom_ct (W:=W) (s:=s) (d:=d) (q:=q) (n:=n) 0 none (Dsk.blank n).life false h2
 have cfo:=fun (s q:Nat) (N:List Nd) (a:Option Addr) (b:Int) (hT:TbOk N a [])=>sfold_ct (W:=W) (s:=s) (d:=d) (q:=q) (b:=b) (D:=Dsk.blank n) hE8 hN h1 h2 0 (by omega) none (Dsk.blank n).life false hT rfl (by rw [snap_nil];simp;omega) (by show ([]:List (Nat × List UInt8)).length+65536<1073741823;simp) g1 g6 g7 g2 g8 g3.nn
 obtain ⟨D0,hD0⟩:∃ D0,D0=Dsk.blank n:=⟨_,rfl⟩
 obtain ⟨D2,hD2⟩:∃ D2,D2=fldD (Dsk.blank n) n 1 []:=⟨_,rfl⟩
 have q1:decide ((n:Int)<64)=false:=decide_eq_false (by omega)
 have q2:decide (((234*layA n:Nat):Int)<(([0]:List UInt8).length:Nat))=false:=decide_eq_false (by simp;omega)
 rw [← hD2] at cfo ⊢
 simp only [← hD0] at cr csz cof cov cro cfo ⊢
 clear hD0 hD2 g1 g2 g3 g4 g5 g6 g7 g8 t1 t2 t3 hb
 refine Ct.enter Tryz.func55 rfl Tryz.ntmps55 (by simp) (fun R=>?_)
 refine KJ.noP ?_
 refine KJ.arNil ?_
 repeat' (first|(refine zAe ?_;first|(refine zAa xE (cfo _ _ _ _ _ hT) xP rfl (fun g=>?_))|(refine zAa xE (cro _ _) xP rfl (fun _=>?_))|(refine zAa xE (csi _ _ _ _ hT) xP rfl (fun _=>?_))|(refine zAa xE (cap _) xP rfl (fun x=>?_);obtain ⟨⟨N,a,b⟩,gN,hT⟩:=x;dsimp only at gN hT ⊢)|(refine zAa xE cov xP rfl (fun x=>?_);obtain ⟨s,q⟩:=x)|(refine zAa xE cr xP rfl (fun _=>?_))|(refine zAa xE cof xP rfl (fun _=>?_))|(refine zAa xE csz xP rfl (fun _=>?_)))|(refine zAi ?_;refine zAb (zAd rfl rfl q1) ?_)|(refine zAz ?_;refine zAb (zAj rfl rfl q2) ?_)|refine xst ?_|(refine xsa ?_;intro _)|(refine xsb ?_ ?_ <;>intro _<;>try (exfalso;omega))|refine xsc ?_|fail)
 all_goals (exact xdn ())
end
end Go.Proofs.YtnbgcimalpdfoaaGreatDoor
