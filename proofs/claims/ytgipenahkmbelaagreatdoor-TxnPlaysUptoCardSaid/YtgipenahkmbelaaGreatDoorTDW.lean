/-
  TxW1, StW2, TxW2, TxW3.
-/
import Derived.Test.YtgipenahkmbelaaGreatDoorTDS
set_option maxHeartbeats 64000000
namespace Go.Proofs.YtgipenahkmbelaaGreatDoor
open Go Go.RowKit
abbrev plTDW0:Pl:=(.op 0 (.op 1 (.op 2 (.op 3 (.op 4 (.alt (.ef 5 [] (.op 6 (.op 7 (.op 8 (.alt (.ef 9 [8,7,6] (.ef 10 [8,7,6] (.ef 11 [8] (.ef 12 [] .nil)))) (.ef 10 [8,7,6] (.ef 9 [8,7,6] (.ef 11 [8] (.ef 12 [] .nil))))))))) (.alt (.ef 9 [4,3,2,1,0] (.alt (.ef 5 [] (.op 6 (.op 7 (.op 8 (.ef 10 [8,7,6] (.ef 11 [8] (.ef 12 [] .nil))))))) (.ef 10 [4,3,2,1,0] (.ef 5 [] (.op 6 (.op 7 (.op 8 (.ef 11 [8] (.ef 12 [] .nil))))))))) (.ef 10 [4,3,2,1,0] (.alt (.ef 5 [] (.op 6 (.op 7 (.op 8 (.ef 9 [8,7,6] (.ef 11 [8] (.ef 12 [] .nil))))))) (.ef 9 [4,3,2,1,0] (.ef 5 [] (.op 6 (.op 7 (.op 8 (.ef 11 [8] (.ef 12 [] .nil))))))))))))))))
abbrev plTDW1:Pl:=(.op 0 (.op 1 (.op 2 (.op 3 (.op 4 (.ef 5 [] .nil))))))
abbrev plTDW2:Pl:=(.op 0 (.op 1 (.op 2 (.op 3 (.op 4 (.op 5 (.ef 6 [4,3,2,1,0] (.ef 7 [0] (.op 8 (.op 9 (.ef 10 [] .nil)))))))))))
abbrev plTDW3:Pl:=(.op 0 (.op 1 (.op 2 (.op 3 (.op 4 (.op 5 (.ef 6 [] .nil)))))))
structure UE where
 key:List UInt8
 old:List UInt8
 there:Bool
 gt:Nat
 gk:Nat
 go:Nat
 gh:Nat
def ueC (e:UE):List Value:=[.func (.func 71) #[] #[.pointer (some ⟨e.gh,0,none⟩),.pointer (some ⟨e.gt,0,none⟩),.pointer (some ⟨e.gk,0,none⟩),.pointer (some ⟨e.go,0,none⟩)]]
theorem ue_ok:EncOk ueC 1:=⟨fun _=>rfl,fun x=>by unfold ueC;exact xO,by omega⟩
abbrev ueP (t:Nat) (e:UE):List SP:=[zAh e.gh [.bool e.there] 4,zAh e.gt [.pointer (some ⟨t,0,none⟩)] 37,zAh e.gk [strV e.key] 9,zAh e.go [strV e.old] 9]
def undoP (t:Nat) (U:List UE):SP:=allP 81 (U.flatMap (ueP t))
section
variable {W:World} {M:List Nd} {n:Nat} {k:KK} {E:Env} {H R R':List SP}
theorem KJ.allAdd {key:Nat} {L As:List SP} (q:Sel (allP key L) H R) (p:Pick As R R') (h:KJ W n k E (allP key (L++As)::R')):KJ W n k E H:=
 ⟨fun a w pp s=>h.go a w pp (((s.perm (q.perm.append_right _)).perm (List.Perm.cons _ (p.perm.append_right _))).mono fun g hg=>by
  have h1:zAj (L++((As++R')++dm a.defers)) g:=all_open hg
  refine all_shut (L:=L++As) (H:=R'++dm a.defers) ?_
  rw [List.append_assoc]
  rw [List.append_assoc] at h1
  exact h1)⟩
theorem undo_nil_star {t:Nat}:∀ g,zAj H g→zAj (undoP t []::H) g:=fun _ q=>all_shut (L:=[]) q
theorem KJ.undoNil (t:Nat) (h:KJ W n k E (undoP t []::H)):KJ W n k E H:=⟨fun a w q s=>h.go a w q (s.mono undo_nil_star)⟩
theorem KJ.undoAdd {t:Nat} {U:List UE} (e:UE) (q:Sel (undoP t U) H R) (p:Pick (ueP t e) R R') (h:KJ W n k E (undoP t (U++[e])::R')):KJ W n k E H:=by
 refine KJ.allAdd q p ?_
 have e1:U.flatMap (ueP t)++ueP t e=(U++[e]).flatMap (ueP t):=by simp
 rw [e1]
 exact h
end
structure TxH where
 q:Nat
 a:Option Addr
 b:Int
 N:List Nd
 m:Nat
 ua:Option Addr
 uc:Nat
abbrev txC (s:Nat) (x:TxH) (l:Nat) (ended:Bool):List Value:=[.pointer (some ⟨s,0,none⟩),.pointer (some ⟨x.q,0,none⟩),.map (some x.m),.slice x.ua l x.uc,.bool ended]
abbrev txL (t s:Nat) (x:TxH) (K:List (List UInt8 × Bool)) (U:List UE) (ended:Bool):List SP:=
 [zAh t (txC s x U.length ended) 86,tbP x.q x.a x.b,arP x.N,mapP strV Value.bool x.m K,lsP ueC 1 1 (.slice x.ua U.length x.uc) U,undoP t U]
def TxP (M:List Nd) (t s:Nat) (r:Rows) (K:List (List UInt8 × Bool)) (U:List UE) (ended:Bool):SP:=packP 80 t (fun x:{x:TxH//TbOk x.N x.a r∧∀ y ∈ M,y ∈ x.N}=>txL t s x.1 K U ended)
section
variable {W:World} {M:List Nd} {t s:Nat} {r r':Rows} {K:List (List UInt8 × Bool)} {U:List UE} {ended:Bool}
theorem KJ.txOpen {n:Nat} {k:KK} {E:Env} {H R:List SP} (q:Sel (TxP M t s r K U ended) H R) (h:∀ x:TxH,TbOk x.N x.a r→(∀ y ∈ M,y ∈ x.N)→KJ W n k E (txL t s x K U ended++R)):KJ W n k E H:=KJ.unpack_at q fun x=>h x.1 x.2.1 x.2.2
theorem KJ.txShut {n:Nat} {k:KK} {E:Env} {H R:List SP} (x:TxH) (hT:TbOk x.N x.a r) (hM:∀ y ∈ M,y ∈ x.N) (p:Pick (txL t s x K U ended) H R) (h:KJ W n k E (TxP M t s r K U ended::R)):KJ W n k E H:=KJ.packs (F:=fun x:{x:TxH//TbOk x.N x.a r∧∀ y ∈ M,y ∈ x.N}=>txL t s x.1 K U ended) ⟨x,hT,hM⟩ p h
theorem TxP.weak {M':List Nd} (hs:∀ y ∈ M',y ∈ M) {R:List SP}:∀ g,zAj (TxP M t s r K U ended::R) g→zAj (TxP M' t s r K U ended::R) g:=fun g q=>by
 obtain ⟨x,hx⟩:=unpack_star q
 exact pack_star (F:=fun x:{x:TxH//TbOk x.N x.a r∧∀ y ∈ M',y ∈ x.N}=>txL t s x.1 K U ended) ⟨x.1,x.2.1,fun y hy=>x.2.2 y (hs y hy)⟩ g hx
theorem txget_ct (key:List UInt8):Ct Tryz.prog W 14 [.pointer (some ⟨t,0,none⟩),strV key] [TxP M t s r K U false] (fun _:Unit=>.tuple #[strV ((lk r key).getD []),.bool (lk r key).isSome]) (fun _=>[TxP M t s r K U false]):=by
 refine Ct.enter Tryz.func14 rfl Tryz.ntmps14 (by simp) (fun R=>?_)
 refine KJ.txOpen xS (fun x hT hMx=>?_)
 have cg:=tget_ct (W:=W) (p:=x.q) (b:=x.b) hT key
 repeat' (first|(refine zAd ?_;refine zAc xE cg xP rfl (fun _=>?_))|refine xst ?_|(refine xsa ?_;intro _)|(refine xsb ?_ ?_ <;>intro _<;>try (exfalso;omega))|refine xsc ?_|fail)
 all_goals refine KJ.txShut (s:=s) (K:=K) (U:=U) (ended:=false) x hT hMx xP ?_
 all_goals (exact xdn ())
theorem txget_end (key:List UInt8):Ct Tryz.prog W 14 [.pointer (some ⟨t,0,none⟩),strV key] [TxP M t s r K U true] (fun _:Unit=>.tuple #[strV [],.bool false]) (fun _=>[TxP M t s r K U true]):=by
 refine Ct.enter Tryz.func14 rfl Tryz.ntmps14 (by simp) (fun R=>?_)
 refine KJ.txOpen xS (fun x hT hMx=>?_)
 repeat' (first|refine xst ?_|(refine xsa ?_;intro _)|(refine xsb ?_ ?_ <;>intro _<;>try (exfalso;omega))|refine xsc ?_|fail)
 all_goals refine KJ.txShut (s:=s) (K:=K) (U:=U) (ended:=true) x hT hMx xP ?_
 all_goals (exact xdn ())
theorem txdrop_ct:Ct Tryz.prog W 17 [.pointer (some ⟨t,0,none⟩)] [TxP M t s r K U ended] (fun _:Unit=>.tuple #[]) (fun _=>[TxP M t s r K U true]):=by
 refine Ct.enter Tryz.func17 rfl Tryz.ntmps17 (by simp) (fun R=>?_)
 refine KJ.txOpen xS (fun x hT hMx=>?_)
 repeat' (first|refine xst ?_|(refine xsa ?_;intro _)|(refine xsb ?_ ?_ <;>intro _<;>try (exfalso;omega))|refine xsc ?_|fail)
 all_goals refine KJ.txShut (s:=s) (K:=K) (U:=U) (ended:=true) x hT hMx xP ?_
 all_goals (exact xdn ())
end
end Go.Proofs.YtgipenahkmbelaaGreatDoor
namespace Go.Proofs.YtgipenahkmbelaaGreatDoor
open Go Go.RowKit
abbrev stC (d q n:Nat) (v:Int) (lg:Option Addr) (life:Int) (dead:Bool):List Value:=
 [.pointer (some ⟨d,0,none⟩),.int .i64 2,.int .i64 (2+layA n:Nat),.int .i64 (layA n:Nat),.int .i64 (logAt n:Nat),.int .i64 (logN n:Nat),.pointer (some ⟨q,0,none⟩),.int .i64 v,.pointer lg,.int .i64 life,.bool dead]
abbrev stP (s d q n:Nat) (v:Int) (lg:Option Addr) (life:Int) (dead:Bool):SP:=zAh s (stC d q n v lg life dead) 109
abbrev layC (n:Nat):List Value:=[.int .i64 2,.int .i64 (2+layA n:Nat),.int .i64 (layA n:Nat),.int .i64 (logAt n:Nat),.int .i64 (logN n:Nat)]
theorem layA_le {n:Nat} (h:n≤65536):layA n≤21845:=by unfold layA;omega
section
variable {W:World} {N:List Nd} {a:Option Addr} {r:Rows} {p q s d n:Nat} {b:Int} {D:Dsk}
instance fn_layoutOf:FnIs Tryz.prog 91:=⟨by kernel_rfl⟩
theorem layoutOf_ct (h1:64≤n) (h2:n≤65536):Ct Tryz.prog W 91 [.int .i64 (n:Nat)] [] (fun _:Unit=>.agg (layC n).toArray) (fun _=>[]):=by
 have hq:((n:Int)-2) / 3=(layA n:Nat):=by unfold layA;omega
 have hA:=layA_le h2
 have e1:(2:Int)+(layA n:Nat)=(2+layA n:Nat):=by omega
 have e2:(2:Int)*(layA n:Nat)=(2*layA n:Nat):=by omega
 have e3:(2:Int)+(2*layA n:Nat)=(logAt n:Nat):=by unfold logAt;omega
 have e4:(n:Int)-2-(2*layA n:Nat)=(logN n:Nat):=by unfold logN layA;omega
 have b3:=lay_fit h1 0
 refine Ct.enter Tryz.func91 rfl Tryz.ntmps91 (by simp) (fun R=>?_)
 repeat' (first|(refine zBc ?_;refine zAu rfl (fun g=>?_))|(refine zAy ?_;first|refine zAb (Ev_buildA (t:=104) (vs:=[.int .i64 2,.int .i64 (2+layA n:Nat)]) xV (by kernel_rfl)) ?_|refine zAb (zAz xV xW) ?_)|(refine zBh ?_;first|refine zAb (zAi rfl rfl e3 (by omega)) ?_|refine zAb (zAi rfl rfl e1 (by omega)) ?_)|(refine ek_sub ?_;refine zAb (Ev_subI_v rfl rfl e4 (by omega)) ?_)|(refine ek_mul ?_;refine zAb (Ev_mulI_v rfl rfl e2 (by omega)) ?_)|(refine ek_quo ?_;refine zAb (Ev_quo_w rfl rfl (by omega) hq) ?_)|refine xst ?_|(refine xsa ?_;intro _)|(refine xsb ?_ ?_ <;>intro _<;>try (exfalso;omega))|refine xsc ?_|fail)
 all_goals (refine is_ex ?_;exact KJ_done (by first|exact Or.inl rfl|exact Or.inr rfl) rfl (Rvs.agg (T:=106) rfl inferInstance inferInstance xS xC Rvs.nil) () (by rfl) (xN))
end
end Go.Proofs.YtgipenahkmbelaaGreatDoor
namespace Go.Proofs.YtgipenahkmbelaaGreatDoor
open Go Go.RowKit
section
variable {P:Program} {W:World} {n:Nat} {E:Env} {H:List SP} {x y z u:Operand} {a b c d:Value} {f:Fn}
theorem Ev_mkFunc3 (hx:Env.ev E x=some a) (hy:Env.ev E y=some b) (hz:Env.ev E z=some c):Ev P W n E H (.makeFunc f #[] #[x,y,z]) (.func f #[] #[a,b,c]):=
 Ev.mk fun o ho ac w p _=>by simp [execOp,ho,p.ev hx,p.ev hy,p.ev hz,Instr.makeFunc]
theorem Ev_mkFunc4 (hx:Env.ev E x=some a) (hy:Env.ev E y=some b) (hz:Env.ev E z=some c) (hu:Env.ev E u=some d):Ev P W n E H (.makeFunc f #[] #[x,y,z,u]) (.func f #[] #[a,b,c,d]):=
 Ev.mk fun o ho ac w p _=>by simp [execOp,ho,p.ev hx,p.ev hy,p.ev hz,p.ev hu,Instr.makeFunc]
end
def DoC (W:World) (f:FuncId) (cs:List Value) (A:SP) (t:Nat) (r r':Rows):Prop:=∀ (s:Nat) (x:TxH) (l:Nat),TbOk x.N x.a r→
 Ct Tryz.prog W f cs [zAh t (txC s x l false) 86,tbP x.q x.a x.b,arP x.N,A] (fun _:TbQ x.N r'=>.tuple #[]) (fun y=>[zAh t (txC s x l false) 86,tbP x.q y.1.2.1 y.1.2.2,arP y.1.1,A])
section
variable {W:World} {M:List Nd} {t s:Nat} {r r':Rows} {K:List (List UInt8 × Bool)} {U:List UE}
theorem step_ct (f:FuncId) [FnIs Tryz.prog f] (cs:List Value) (A:SP) (hdo:DoC W f cs A t r r') (key:List UInt8) (hU:(U.length+1)*8≤140737488355328) :
 Ct Tryz.prog W 37 [.pointer (some ⟨t,0,none⟩),strV key,.func (.func f) #[] cs.toArray] [TxP M t s r K U false,A] (fun _:Nat × Nat × Nat × Nat=>.nilIface)
  (fun z=>[TxP M t s r' (mput K key true) (U++[⟨key,(lk r key).getD [],(lk r key).isSome,z.1,z.2.1,z.2.2.1,z.2.2.2⟩]) false,A]):=by
 refine Ct.enter Tryz.func37 rfl Tryz.ntmps37 (by simp) (fun R=>?_)
 refine KJ.txOpen xS (fun x hT hMx=>?_)
 have cg:=tget_ct (W:=W) (p:=x.q) (b:=x.b) hT key
 have b2:U.length+1≤9223372036854775807:=by omega
 have cd:=fun (ua:Option Addr) (uc:Nat) (l:Nat)=>hdo s { x with ua:=ua,uc:=uc } l hT
 obtain ⟨old,hOld⟩:∃ o,o=(lk r key).getD []:=⟨_,rfl⟩
 obtain ⟨there,hthere⟩:∃ o,o=(lk r key).isSome:=⟨_,rfl⟩
 rw [← hOld,← hthere] at cg ⊢
 apply KJ_rest (fun Kc=>∀ (gt gk go gh:Nat),KJ W 40 Kc [(2,.func (.func f) #[] cs.toArray),(3,.pointer (some ⟨gt,0,none⟩)),(4,.pointer (some ⟨gk,0,none⟩)),(7,.pointer (some ⟨go,0,none⟩)),(8,.pointer (some ⟨gh,0,none⟩))]
  ((txL t s x K U false++[A,zAh gt [.pointer (some ⟨t,0,none⟩)] 37,zAh gk [strV key] 9,zAh go [strV old] 9,zAh gh [.bool there] 4])++R))
 ·intro rest
  repeat' (first|(refine at_seq_region (id:=4) ?_;exact KJ.weak (rest gt gk go gh) xB (xN))|(refine zBc ?_;first|(refine zAu (d:=8) rfl (fun gh=>?_))|(refine zAu (d:=7) rfl (fun go=>?_)))|(refine zBe ?_;first|(refine zBb (d:=4) rfl xF rfl (fun gk=>?_))|(refine zBb (d:=3) rfl xF rfl (fun gt=>?_)))|(refine zAd ?_;refine zAc xE cg xP rfl (fun _=>?_))|refine xst ?_|(refine xsa ?_;intro _)|(refine xsb ?_ ?_ <;>intro _<;>try (exfalso;omega))|refine xsc ?_|(refine zAa (id:=3) plTDW0 (by kernel_rfl) (by kernel_rfl) ?_)|(refine zAa (id:=4) plTDW1 (by kernel_rfl) (by kernel_rfl) ?_)|(refine zAa (id:=5) plTDW2 (by kernel_rfl) (by kernel_rfl) ?_)|refine zAp ?_ ?_|refine zAn rfl rfl rfl rfl rfl ?_ ?_|refine zAg ?_ ?_|exact Rech.nil|fail)
 intro gt gk go gh
 repeat' (first|(refine zBq ?_;refine zCe (a:=(⟨key,old,there,gt,gk,go,gh⟩:UE)) ue_ok rfl rfl rfl xS xS hU b2 rfl (fun ga ca=>?_))|(refine zBi ?_;refine zBt rfl xF (by rfl) (by omega) rfl (fun gb=>?_))|(refine is_mapUpdate ?_;refine KJ_mapUpdate (v:=true) ky_key rfl rfl rfl xS ?_)|(refine is_callV ?_;refine hold ?_)|(refine ek_mkFunc ?_;refine zAb (Ev_mkFunc4 rfl rfl rfl rfl) ?_)|refine xst ?_|(refine xsa ?_;intro _)|(refine xsb ?_ ?_ <;>intro _<;>try (exfalso;omega))|refine xsc ?_|(refine zAa (id:=3) plTDW0 (by kernel_rfl) (by kernel_rfl) ?_)|(refine zAa (id:=4) plTDW1 (by kernel_rfl) (by kernel_rfl) ?_)|(refine zAa (id:=5) plTDW2 (by kernel_rfl) (by kernel_rfl) ?_)|refine zAp ?_ ?_|refine zAn rfl rfl rfl rfl rfl ?_ ?_|refine zAg ?_ ?_|exact Rech.nil|fail)
 refine Hold.mk ?_
 refine KJ_callV (f:=f) (fs:=#[]) (cs:=cs.toArray) (us:=cs) (vs:=[]) rfl Evs.nil (by simp) (cd (some ⟨ga,0,none⟩) ca _) xP rfl (fun y=>?_)
 obtain ⟨⟨N1,a1,b1⟩,g1,t1⟩:=y
 dsimp only at g1 t1 ⊢
 refine KJ.undoAdd (⟨key,old,there,gt,gk,go,gh⟩:UE) xS xP ?_
 refine KJ.txShut (s:=s) (K:=mput K key true) (U:=U++[(⟨key,old,there,gt,gk,go,gh⟩:UE)]) (ended:=false) ⟨x.q,a1,b1,N1,x.m,some ⟨ga,0,none⟩,ca⟩ t1 (fun y hy=>g1 y (hMx y hy)) xP ?_
 repeat' (first|refine xst ?_|(refine xsa ?_;intro _)|(refine xsb ?_ ?_ <;>intro _<;>try (exfalso;omega))|refine xsc ?_|(refine zAa (id:=3) plTDW0 (by kernel_rfl) (by kernel_rfl) ?_)|(refine zAa (id:=4) plTDW1 (by kernel_rfl) (by kernel_rfl) ?_)|(refine zAa (id:=5) plTDW2 (by kernel_rfl) (by kernel_rfl) ?_)|refine zAp ?_ ?_|refine zAn rfl rfl rfl rfl rfl ?_ ?_|refine zAg ?_ ?_|exact Rech.nil|fail)
 all_goals (exact xdn (gt,gk,go,gh))
end
end Go.Proofs.YtgipenahkmbelaaGreatDoor
namespace Go.Proofs.YtgipenahkmbelaaGreatDoor
open Go Go.RowKit
section
variable {W:World} {M:List Nd} {t s:Nat} {r:Rows} {K:List (List UInt8 × Bool)} {U:List UE}
instance fn_put1:FnIs Tryz.prog 38:=⟨by kernel_rfl⟩
abbrev putP (t:Nat) (key val:List UInt8) (g3 g4 g5:Nat):List SP:=[zAh g3 [.pointer (some ⟨t,0,none⟩)] 37,zAh g4 [strV key] 9,zAh g5 [strV val] 9]
theorem put1_ct (key val:List UInt8) (g3 g4 g5:Nat) (hl:r.length≤288230376151711744):DoC W 38 [.pointer (some ⟨g3,0,none⟩),.pointer (some ⟨g4,0,none⟩),.pointer (some ⟨g5,0,none⟩)] (allP 82 (putP t key val g3 g4 g5)) t r (putR r key val):=fun s x l hT=>by
 have cp:=tput_ct (W:=W) (p:=x.q) (b:=x.b) (k:=key) (v:=val) hT hl
 refine Ct.enter Tryz.func38 rfl Tryz.ntmps38 (by simp) (fun R=>?_)
 refine KJ.allOpen (L:=putP t key val g3 g4 g5) xS ?_
 repeat' (first|(refine zAd ?_;refine zAc xE cp xP rfl (fun y=>?_);obtain ⟨⟨N1,a1,b1⟩,g1,t1⟩:=y;dsimp only at g1 t1 ⊢)|refine xst ?_|(refine xsa ?_;intro _)|(refine xsb ?_ ?_ <;>intro _<;>try (exfalso;omega))|refine xsc ?_|(refine zAa (id:=0) plTDW3 (by kernel_rfl) (by kernel_rfl) ?_)|refine zAp ?_ ?_|refine zAn rfl rfl rfl rfl rfl ?_ ?_|refine zAg ?_ ?_|exact Rech.nil|fail)
 all_goals refine KJ.allShut (L:=putP t key val g3 g4 g5) 82 xP ?_
 all_goals (exact xdn ⟨(N1,a1,b1),g1,t1⟩)
theorem txput_ct (key val:List UInt8) (hl:r.length≤288230376151711744) (hU:(U.length+1)*8≤140737488355328) :
 Ct Tryz.prog W 11 [.pointer (some ⟨t,0,none⟩),strV key,strV val] [TxP M t s r K U false] (fun _:Nat × Nat × Nat × Nat=>.nilIface)
  (fun z=>[TxP M t s (putR r key val) (mput K key true) (U++[⟨key,(lk r key).getD [],(lk r key).isSome,z.1,z.2.1,z.2.2.1,z.2.2.2⟩]) false]):=by
 have cs:=fun g3 g4 g5=>step_ct (W:=W) (M:=M) (t:=t) (s:=s) (r:=r) (K:=K) (U:=U) 38 _ _ (put1_ct key val g3 g4 g5 hl) key hU
 refine Ct.enter Tryz.func11 rfl Tryz.ntmps11 (by simp) (fun R=>?_)
 repeat' (first|(refine zBe ?_;first|(refine zBb (d:=5) rfl xF rfl (fun g5=>?_))|(refine zBb (d:=4) rfl xF rfl (fun g4=>?_))|(refine zBb (d:=3) rfl xF rfl (fun g3=>?_)))|(refine zAd ?_;refine KJ.allShut (L:=putP t key val g3 g4 g5) 82 xP ?_;refine zAc xE (cs _ _ _) xP rfl (fun z=>?_))|(refine ek_mkFunc ?_;refine zAb (Ev_mkFunc3 rfl rfl rfl) ?_)|refine xst ?_|(refine xsa ?_;intro _)|(refine xsb ?_ ?_ <;>intro _<;>try (exfalso;omega))|refine xsc ?_|fail)
 all_goals (exact xdn z)
end
section
variable {W:World} {M:List Nd} {F:Nat→Addr} {N:List Nd} {a:Option Addr} {r:Rows} {q s d n:Nat} {b:Int}
instance fn_srows:FnIs Tryz.prog 32:=⟨by kernel_rfl⟩
instance fn_tof:FnIs Tryz.prog 36:=⟨by kernel_rfl⟩
theorem srows_ct (v:Int) (lg:Option Addr) (life:Int) (dead:Bool) (hT:TbOk N a r) (hl:r.length*32≤140737488355328) :
 Ct Tryz.prog W 32 [.pointer (some ⟨s,0,none⟩)] [stP s d q n v lg life dead,tbP q a b,arP N] (fun x:Option Addr × Nat=>.slice x.1 r.length x.2) (fun x=>[stP s d q n v lg life dead,tbP q a b,arP N,lsP rC 36 2 (.slice x.1 r.length x.2) r]):=by
 have cr:=trows_ct (W:=W) (p:=q) (b:=b) hT hl
 refine Ct.enter Tryz.func32 rfl Tryz.ntmps32 (by simp) (fun R=>?_)
 repeat' (first|(refine zAd ?_;refine zAc xE cr xP rfl (fun x=>?_))|refine xst ?_|(refine xsa ?_;intro _)|(refine xsb ?_ ?_ <;>intro _<;>try (exfalso;omega))|refine xsc ?_|fail)
 all_goals (exact xdn x)
theorem txbegin_ct (v:Int) (lg:Option Addr) (life:Int) (dead:Bool) (hT:TbOk N a r) (hl:r.length*32≤140737488355328) :
 Ct Tryz.prog W 10 [.pointer (some ⟨s,0,none⟩)] [stP s d q n v lg life dead,tbP q a b,arP N] (fun t:Nat=>.pointer (some ⟨t,0,none⟩)) (fun t=>[stP s d q n v lg life dead,tbP q a b,arP N,TxP [] t s (ofR r) [] [] false]):=by
 have cr:=srows_ct (W:=W) (s:=s) (d:=d) (q:=q) (n:=n) (b:=b) v lg life dead hT hl
 have co:=fun (xa:Option Addr) (xc:Nat)=>tof_ct (W:=W) [] _ xa xc r (Lv.own (e:=36) (c:=xc) zCc rfl) (by omega)
 refine Ct.enter Tryz.func10 rfl Tryz.ntmps10 (by simp) (fun R=>?_)
 repeat' (first|(refine zBe ?_;refine zBb rfl xF rfl (fun t=>?_))|(refine zAd ?_;first|(refine zAc xE (co _ _) xP rfl (fun y=>?_);obtain ⟨⟨qt,N1,a1,b1⟩,g1,t1⟩:=y;dsimp only at g1 t1 ⊢)|(refine zAc xE cr xP rfl (fun x=>?_);obtain ⟨xa,xc⟩:=x;refine KJ.arNil ?_))|(refine is_mkMap ?_;refine KJ_makeMap (t:=83) strV Value.bool rfl (fun m=>?_))|(refine zAy ?_;refine zAb (zAz xV xW) ?_)|refine xst ?_|(refine xsa ?_;intro _)|(refine xsb ?_ ?_ <;>intro _<;>try (exfalso;omega))|refine xsc ?_|fail)
 all_goals
  refine KJ.undoNil t ?_
  refine KJ.nilrow 1 1 ?_
  refine KJ.txShut (M:=[]) (t:=t) (s:=s) (r:=ofR r) (K:=[]) (U:=[]) (ended:=false) ⟨qt,a1,b1,N1,m,none,0⟩ t1 (fun _ hy=>by cases hy) xP ?_
 all_goals (exact xdn t)
end
end Go.Proofs.YtgipenahkmbelaaGreatDoor
