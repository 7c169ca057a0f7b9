/-
  TbW4, Rng, TbW5, TbW6, BaR1, RdW3.
-/
import Derived.Test.YtoipmnikdiogcaaGreatDoorYDE
import Derived.RangeFuncIn
import Derived.Laws.MakeOwn
set_option maxHeartbeats 64000000
namespace Go.Proofs.YtoipmnikdiogcaaGreatDoor
open Go Go.RowKit
open Go.Proofs.Tryz
abbrev yHc:Pl:=(po [0,1,2,3,4,6,7,8,9,10,11,12,13,14,15,16,17] (.ef 5 [17,16,15,14,13,12,11,10,9,8,7,6] (.ef 18 [] (.op 19 .nil))))
abbrev yHd:Pl:=(po [0,1,2,3,4,5,6,7,8,9,10,11,12,13,14,15,16] (.ef 17 [11,10,9,8,7,6,5,4,3,2,1,0] (.ef 18 [] (.op 19 .nil))))
abbrev yHe:Pl:=(po [0,1,2,3,4,5,6,7,8,9,10,11,12,13,14,15,16,17,18,19] (.ef 20 [11,10,9,8,7,6,5,4,3,2,1,0] (.ef 21 [] (.op 22 .nil))))
abbrev zTDK0:List (Nat×Pl):=[(3,yHc),(5,yHd),(13,yHe)]
abbrev yKA:Pl:=(po [0,1,2,3,4,5] (.ef 6 [] (po [7,8,9,10,11,12,13,14,15,16] (.ef 17 [] (po [18,19,20,21,22,23,24,25] (.ef 26 [] (.op 27 (.op 28 .nil))))))))
abbrev yOg:Pl:=(po [0,1,2,3,4,5,6,7,8,9,10,11,12,13,14,15] .nil)
section
variable {W:World}
theorem yU1:∀ (t:Tr) (x:zB) {N:List Nd} {a:Option Addr},TrAt N a t→t.Ok→RisR t.rows→t.cnt≤288230376151711744→(lk t.rows x).isSome=true→Ct prog W 158 [.pointer a,strV x] [arP N] (fun z:xCt N (t.remove x)=>.pointer z.1.2) (fun z=>[arP z.1.1]):=by
 intro t
 induction t with
 |nil=>intro x N a hT ho hr hc hx;cases hx
 |node yl yk yv yr yh ys ihl ihr=>
  intro x N a hT ho hr hc hx;obtain ⟨b,al,ar,rfl,hm,bF,d8⟩:=hT;have hr':RisR (yl.rows++(yk,yv)::yr.rows):=hr;obtain ⟨r1,r2,r3,r4⟩:=ris_mid.1 hr';obtain ⟨k1,k2,k3,k4,k5,k6⟩:=Tr.child ho;have hc:ys≤288230376151711744:=hc;have u1:=Tr.tall_cnt k1;have u2:=Tr.tall_cnt k2;rw [show (Tr.node yl yk yv yr yh ys).rows=yl.rows++(yk,yv)::yr.rows from rfl,yHZ hr'] at hx;have cc:=yIS (W:=W) x yk;rcases xCu x yk with ⟨h1,h2⟩|⟨h1,h2⟩|⟨h1,h2⟩
  ·rw [yZW h1] at cc;rw [if_pos h1] at hx;have q1:decide ((-1:Int)<0)=true:=rfl;have cp:=ihl x bF k1 r1 zO hx;have he:(Tr.node yl yk yv yr yh ys).remove x=Tr.level (yl.remove x) yk yv yr:=by (conv=>lhs;unfold Tr.remove);exact if_pos h1
   obtain ⟨iR,-⟩:=Tr.remove_ok k1 r1 x hx;have pc:=yIT k1 r1 x hx;rw [he];refine zE func158 ntmps158 fun R=>?_;repeat' (first|refine xca (cp) fun x=>?_;obtain ⟨⟨N1,p1⟩,g1,t1⟩:=x;dsimp only at g1 t1 ⊢;refine yDw ?_|refine yAi ?_;refine yAa (yAB (nd:=⟨b,yk,yv,al,ar,yh,ys⟩) rfl xS (hm) rfl) ?_|refine xqa ?_|refine xsf ?_ ?_|refine xdt zTDK0 ?_|apply zN|intro _)
   refine Hold.mk ?_;repeat' (first|refine xca (yH8 (W:=W) t1 (d8.mono g1) iR k2 zO zO) fun x=>?_;obtain ⟨⟨N2,p2⟩,g2,t2⟩:=x;dsimp only at g2 t2 ⊢|refine yAi ?_;refine yAa (yAB (nd:=⟨b,yk,yv,al,ar,yh,ys⟩) rfl xS (g1 _ hm) rfl) ?_|refine xst ?_|refine xsf ?_ ?_|refine xdt zTDK0 ?_|apply zN|intro _)
   all_goals (exact xdn ⟨(N2,p2),fun y hy=>g2 y (g1 y hy),t2⟩)
  ·rw [yZX h1 h2] at cc;rw [if_neg (by rw [h1];decide),if_pos h2] at hx;have q1:decide ((1:Int)<0)=false:=rfl;have q2:decide ((0:Int)<1)=true:=rfl;have cp:=ihr x d8 k2 r2 zO hx;have he:(Tr.node yl yk yv yr yh ys).remove x=Tr.level yl yk yv (yr.remove x):=by (conv=>lhs;unfold Tr.remove);exact (if_neg (by rw [h1];decide)).trans (if_pos h2)
   obtain ⟨iR,-⟩:=Tr.remove_ok k2 r2 x hx;have pc:=yIT k2 r2 x hx;rw [he];refine zE func158 ntmps158 fun R=>?_;repeat' (first|refine xca (cp) fun x=>?_;obtain ⟨⟨N1,p1⟩,g1,t1⟩:=x;dsimp only at g1 t1 ⊢;refine yDw ?_|refine yAi ?_;refine yAa (yAB (nd:=⟨b,yk,yv,al,ar,yh,ys⟩) rfl xS (hm) rfl) ?_|refine xqa ?_|refine xsf ?_ ?_|refine xdt zTDK0 ?_|apply zN|intro _)
   refine Hold.mk ?_;repeat' (first|refine xca (yH8 (W:=W) (bF.mono g1) t1 k1 iR zO zO) fun x=>?_;obtain ⟨⟨N2,p2⟩,g2,t2⟩:=x;dsimp only at g2 t2 ⊢|refine yAi ?_;refine yAa (yAB (nd:=⟨b,yk,yv,al,ar,yh,ys⟩) rfl xS (g1 _ hm) rfl) ?_|refine xst ?_|refine xsf ?_ ?_|refine xdt zTDK0 ?_|apply zN|intro _)
   all_goals (exact xdn ⟨(N2,p2),fun y hy=>g2 y (g1 y hy),t2⟩)
  ·rw [yZY h1 h2] at cc;have q1:decide ((0:Int)<0)=false:=rfl;cases yl with
   |nil=>
    cases bF;have he:(Tr.node .nil yk yv yr yh ys).remove x=yr:=by (conv=>lhs;unfold Tr.remove);exact (if_neg (by rw [h1];decide)).trans ((if_neg (by rw [h2];decide)).trans (by cases yr <;> rfl))
    rw [he];refine zE func158 ntmps158 fun R=>?_;repeat' (first|refine yAi ?_;refine yAa (yAB (nd:=⟨b,yk,yv,none,ar,yh,ys⟩) rfl xS (hm) rfl) ?_|refine xqa ?_|refine xsf ?_ ?_|refine xdt zTDK0 ?_|apply zN|intro _)
    all_goals (exact xdn ⟨(N,ar),fun y hy=>hy,d8⟩)
   |node ll lk' lv lr lh ls=>
    have j5:=bF;obtain ⟨d,dl,dr,rfl,hmd,-,-⟩:=bF;cases yr with
    |nil=>
     cases d8;have he:(Tr.node (.node ll lk' lv lr lh ls) yk yv .nil yh ys).remove x=.node ll lk' lv lr lh ls:=by (conv=>lhs;unfold Tr.remove);exact (if_neg (by rw [h1];decide)).trans ((if_neg (by rw [h2];decide)).trans rfl)
     rw [he];refine zE func158 ntmps158 fun R=>?_;repeat' (first|refine yAi ?_;refine yAa (yAB (nd:=⟨b,yk,yv,some ⟨d,0,none⟩,none,yh,ys⟩) rfl xS (hm) rfl) ?_|refine xqa ?_|refine xsf ?_ ?_|refine xdt zTDK0 ?_|apply zN|intro _)
     all_goals (exact xdn ⟨(N,some ⟨d,0,none⟩),fun y hy=>hy,j5⟩)
    |node rl rk rv rr rh rs=>
     have j7:=d8;obtain ⟨e,el,er,rfl,hme,-,-⟩:=d8;have he:(Tr.node (.node ll lk' lv lr lh ls) yk yv (.node rl rk rv rr rh rs) yh ys).remove x=Tr.level (.node ll lk' lv lr lh ls) (Tr.node rl rk rv rr rh rs).first.1 (Tr.node rl rk rv rr rh rs).first.2 ((Tr.node rl rk rv rr rh rs).remove (Tr.node rl rk rv rr rh rs).first.1):=by (conv=>lhs;unfold Tr.remove);exact (if_neg (by rw [h1];decide)).trans ((if_neg (by rw [h2];decide)).trans rfl)
     rw [he];obtain ⟨yr,gA⟩:∃ z,z=Tr.node rl rk rv rr rh rs:=⟨_,rfl⟩;obtain ⟨yl,fZ⟩:∃ z,z=Tr.node ll lk' lv lr lh ls:=⟨_,rfl⟩;have ao:yr≠.nil:=by rw [gA];intro h;cases h
     obtain ⟨R0,hR0⟩:=Tr.first_rows ao;rw [← gA] at j7 k2 r2 k4 k6 ihr u2 ⊢;rw [← fZ] at j5 k1 k3 k5 u1 ⊢;obtain ⟨⟨k0,v0⟩,dY⟩:∃ z,z=yr.first:=⟨_,rfl⟩;rw [← dY] at hR0 ⊢;clear he hx ihl r3 r4 hr' hr ho;have gI:(lk yr.rows k0).isSome=true:=by rw [hR0,yPH,if_pos rfl];rfl
     have cp:=ihr k0 j7 k2 r2 zO gI;obtain ⟨iR,-⟩:=Tr.remove_ok k2 r2 _ gI;have pc:=yIT k2 r2 _ gI;refine zE func158 ntmps158 fun R=>?_;repeat' (first|refine yAi ?_;refine yAa (yAB (nd:=⟨b,yk,yv,some ⟨d,0,none⟩,some ⟨e,0,none⟩,yh,ys⟩) rfl xS (hm) rfl) ?_|refine xqa ?_|refine xsf ?_ ?_|refine xdt zTDK0 ?_|apply zN|intro _)
     refine yAC (fun i:{i:Option Addr × Tr//TrAt N i.1 i.2∧i.2≠.nil∧i.2.first=(k0,v0)}=>[(0,zPp b),(6,.pointer i.1.1)])
      (fun _=>[arP N]++R) (fun i=>i.1.2.sz) ⟨(some ⟨e,0,none⟩,yr),j7,ao,dY.symm⟩ xB (xN) (fun ⟨(f,u),hb,hu,iM⟩=>?_)
     dsimp only at hb hu iM ⊢;cases u with
     |nil=>exact absurd rfl hu
     |node wl wk wv wr wh ws=>
      obtain ⟨f,fl,fr,rfl,hmf,fp,hfr⟩:=hb;cases wl with
      |nil=>
       cases fp;have iM:(wk,wv)=(k0,v0):=iM;have ez:wk=k0:=congrArg Prod.fst iM;have eA:wv=v0:=congrArg Prod.snd iM;subst ez;subst eA;repeat' (first|refine xca (cp) fun x=>?_;obtain ⟨⟨N1,p1⟩,g1,t1⟩:=x;dsimp only at g1 t1 ⊢;refine yDw ?_|(refine yAi ?_;first|refine yAa (yAB (nd:=⟨f,wk,wv,none,fr,wh,ws⟩) rfl xS (hmf) rfl) ?_|refine yAa (yAB (nd:=⟨b,yk,yv,some ⟨d,0,none⟩,some ⟨e,0,none⟩,yh,ys⟩) rfl xS (hm) rfl) ?_)|refine xst ?_|refine xsf ?_ ?_|refine xdt zTDK0 ?_|apply zN|intro _)
       refine Hold.mk ?_;repeat' (first|refine xca (yH8 (W:=W) (j5.mono g1) t1 k1 iR zO zO) fun x=>?_;obtain ⟨⟨N2,p2⟩,g2,t2⟩:=x;dsimp only at g2 t2 ⊢|(refine yAi ?_;first|refine yAa (yAB (nd:=⟨f,wk,wv,none,fr,wh,ws⟩) rfl xS (g1 _ hmf) rfl) ?_|refine yAa (yAB (nd:=⟨b,yk,yv,some ⟨d,0,none⟩,some ⟨e,0,none⟩,yh,ys⟩) rfl xS (g1 _ hm) rfl) ?_)|refine xst ?_|refine xsf ?_ ?_|refine xdt zTDK0 ?_|apply zN|intro _)
       all_goals (exact xdn ⟨(N2,p2),fun y hy=>g2 y (g1 y hy),t2⟩)
      |node vl vk vv vr vh vs=>
       have hfl':=fp;obtain ⟨q,ql,qr,rfl,hmq,-,-⟩:=fp;repeat' (first|refine yAi ?_;refine yAa (yAB (nd:=⟨f,wk,wv,some ⟨q,0,none⟩,fr,wh,ws⟩) rfl xS (hmf) rfl) ?_|refine xst ?_|refine xsf ?_ ?_|refine xdt zTDK0 ?_|apply zN|intro _)
       all_goals refine yAs ⟨(some ⟨q,0,none⟩,.node vl vk vv vr vh vs),hfl',(fun h=>by cases h),iM⟩ (by show Tr.sz (.node vl vk vv vr vh vs)<Tr.sz (.node vl vk vv vr vh vs)+wr.sz+1;omega) xB (xN)
end
abbrev yv (l:Nat):Value:=.func (.yield l) #[] #[]
def yET (l:Nat) (st:LoopState) (pe:Option Code) (n:Nat) (E:Env) (ps:Array Tmp) (aH bd:Code):SP:=
 ⟨4,l,fun h=>∃ fn tmps D,h l=some (.loop { state:=st,pending:=pe,fn,tmps,params:=ps,assign:=aH,body:=bd,defers:=D })∧tmps.size=n∧∀ t v,Env.at E t=some v→tmps[t]? = some v⟩
theorem yZ0 {l:Nat} {st:LoopState} {pe:Option Code} {n:Nat} {E:Env} {ps:Array Tmp} {aH bd:Code}:∀ h g,Hl.le h g→(yET l st pe n E ps aH bd).ok h→(yET l st pe n E ps aH bd).ok g:=
 fun _ _ le ⟨fn,tmps,D,a,b,c⟩=>⟨fn,tmps,D,le _ _ a,b,c⟩
section
variable {P:Program} {W w:World} {n:Nat} {q:QQ} {k:KK} {E:Env} {H H' R:List SP} {l:Nat} {st:LoopState} {pe:Option Code} {ps:Array Tmp} {aH bd:Code} {X:Type}
theorem St.recd (s:St W H w) (p:Sel (yET l st pe n E ps aH bd) H R):∃ fn tmps D,w.heap[l]? = some (.loop { state:=st,pending:=pe,fn,tmps,params:=ps,assign:=aH,body:=bd,defers:=D })∧tmps.size=n∧∀ t v,Env.at E t=some v→tmps[t]? = some v:=by obtain ⟨h,⟨fn,tmps,D,a,b⟩,lies⟩:=s.sel p yZ0;exact ⟨fn,tmps,D,(lies l _ a).2,b⟩
theorem St.recTurn {st':LoopState} {pe':Option Code} {fn:FuncId} {tmps:Array Value} {D:Nat} (s:St W H w) (p:Sel (yET l st pe n E ps aH bd) H R) (hh:w.heap[l]? = some (.loop { state:=st,pending:=pe,fn,tmps,params:=ps,assign:=aH,body:=bd,defers:=D })) :St W (yET l st' pe' n E ps aH bd::R) (w.putObj l (.loop { state:=st',pending:=pe',fn,tmps,params:=ps,assign:=aH,body:=bd,defers:=D })):=by
 have hlt:=(zLh.1 hh).1;refine St.act (A:=[yET l st pe n E ps aH bd]) (B:=[yET l st' pe' n E ps aH bd]) (H:=R) (s.perm p.perm) rfl rfl rfl zW ?_;intro h1 ⟨h,_,_,le,_,⟨fn',jz,D',a,b⟩,_⟩ lies;have ha:=(lies l _ (le _ _ a)).2;rw [hh] at ha;cases ha;refine ⟨Hl.one l _,yBP ⟨fn,tmps,D,Hl.one_self _ _,b⟩,fun k x hx=>?_,fun k x hx=>?_,fun k _ hn=>World.putObj_heap_other ?_⟩
 ·obtain ⟨rfl,rfl⟩:=Hl.one_some hx;exact World.putObj_heap_same hlt
 ·obtain ⟨rfl,rfl⟩:=Hl.one_some hx;exact .inl ⟨_,le _ _ a⟩
 ·intro e;subst e;rw [le _ _ a] at hn;cases hn
def yPQ (W:World) {X:Type} (r:X→Bool) (H':X→List SP) (R:List SP):Ending→World→Prop:=fun e w=>∃ x,e=.returned (.bool (r x))∧St W (H' x++R) w
structure Yt (P:Program) (W:World) (l:Nat) (args:List Value) (Hpre:List SP) {X:Type} (r:X→Bool) (H':X→List SP):Prop where
 go:∀ R w,St W (Hpre++R) w→∃ f tmps aH bd,(Instr.yield l args.toArray).run P w=.ok (.round l f tmps aH bd) w∧RoundIn Fence.wide 0 P l f tmps aH bd w (yPQ W r H' R)
theorem yQ1 {x:Operand} {xs:List Operand} {ts:Array TypeId} {vs:List Value} {dd:Option Tmp} {Hpre:List SP} {r:X→Bool} {Hp:X→List SP} (hf:Env.ev E x=some (yv l)) (hx:Evs E xs vs) (hc:Yt P W l vs Hpre r Hp) (hp:Pick Hpre H R) (hn:yFW n dd=true) (h:∀ c,KJ W n k (Env.put E dd (.bool (r c))) (Hp c++R)):KJ W n (.oper P (.call { callee:=.value x,args:=xs.toArray,argTypes:=ts }) dd k) E H:=by
 refine ⟨fun a w p s o ho hd=>?_⟩;subst hd;show uponP P o a _ ((execOp a.eval o).run P w);obtain ⟨f,tmps,aH,bd,hy,hr⟩:=hc.go (R++dm a.defers) w (s.perm ((hp.perm.append_right _).trans (by rw [zLd])));have hv:=p.evs hx;have av:(execOp a.eval o).run P w=.ok (.round l f tmps aH bd) w:=by
  have:(execOp a.eval o).run P w=(Instr.yield l vs.toArray).run P w:=by simp [execOp,ho,resolve,p.ev hf,Deferred.ofValue,invoke,hv,callFunc]
  rw [this,hy]
 rw [av];refine RoundIn.mono hr ?_
 rintro e w' ⟨c,rfl,s⟩
 refine ⟨_,rfl,(h c).go _ w' (p.put hn _) ?_⟩;show St W (_++dm (a.put o.dst _).defers) w';rw [yB9,zLd];exact s
theorem Yt.frame {args:List Value} {Hpre:List SP} {r:X→Bool} {Hp:X→List SP} (h:Yt P W l args Hpre r Hp) (F:List SP):Yt P W l args (Hpre++F) r (fun x=>Hp x++F):=
 ⟨fun R w s=>by obtain ⟨f,tmps,aH,bd,h1,h2⟩:=h.go (F++R) w (by rw [← zLd];exact s);exact ⟨f,tmps,aH,bd,h1,h2.mono fun e w' ⟨x,he,s⟩=>⟨x,he,by rw [zLd];exact s⟩⟩⟩
theorem Pick.all (H:List SP):Pick H H []:=by
 induction H with
 |nil=>exact .nil
 |cons A H ih=>exact .cons .here ih
def Env.ofPs:List Tmp→List Value→Env→Env
 |p::ps,v::vs,E=>Env.ofPs ps vs ((p,v)::E)
 |_,_,E=>E
theorem Hd.ofPs:∀ (ps:List Tmp) (vs:List Value) (E:Env) (tmps:Array Value),(∀ p ∈ ps,p<n)→tmps.size=n→(∀ t v,Env.at E t=some v→tmps[t]? = some v)→Hd n (Env.ofPs ps vs E) { tmps:=(ps.zip vs).foldl (fun t (p,v)=>t.setIfInBounds p v) tmps,defers:=[] }
 |[],vs,E,tmps,_,h1,h2=>⟨by simpa using h1,fun t v q=>by simpa using h2 t v (by simpa [Env.ofPs] using q)⟩
 |p::ps,[],E,tmps,_,h1,h2=>⟨by simpa using h1,fun t v q=>by simpa using h2 t v (by simpa [Env.ofPs] using q)⟩
 |p::ps,v::vs,E,tmps,hp,h1,h2=>by
  have:=Hd.ofPs ps vs ((p,v)::E) (tmps.setIfInBounds p v) (fun x hx=>hp x (by simp [hx])) (by simpa using h1) (fun t u q=>by
   rw [Env.at_cons] at q;split at q
   ·rename_i e;subst e;cases q;have:p<tmps.size:=by rw [h1];exact hp p zW
    simp [this]
   ·rename_i e;rw [zLx e];exact h2 t u q)
  simpa [Env.ofPs] using this
def yQ2 (P:Program) (l:Nat) (bd:Code) (Q:Exit→Act→World→Prop):Act→World→Prop:=fun a₁ w₁=>∃ w₂,(Instr.beginRound l).run P w₁=.ok () w₂∧bd.wpIn (fen (some l)) 0 P Q a₁ w₂
abbrev xCZ (P:Program) (l:Nat) (bd:Code) (Q:Exit→Act→World→Prop):QQ:=.thn (yQ2 P l bd Q) (.rnd l fun _ _ _=>False)
theorem yJC {bd:Code} {Q:Exit→Act→World→Prop} (h:KJ W n (.raw (yQ2 P l bd Q)) E H):KJ W n (.raw (yQ2 P l bd Q)) E H:=h
theorem yJD {Q:Exit→Act→World→Prop} {E':Env} {bd':Code} (hs:Sel (yET l .ready pe n E' ps aH bd') H R) (h:KJ W n (.code P bd (.rnd l Q)) E (yET l .busy pe n E' ps aH bd'::R)):KJ W n (.raw (yQ2 P l bd Q)) E H:=
 ⟨fun a w p s=>by obtain ⟨fn,tmps,D,hh,_⟩:=s.left.recd hs;exact ⟨_,run_beginRound hh rfl,h.go a _ p (St.recTurn s (hs.app _) hh)⟩⟩
theorem yXr {r:X→Bool} {Hp:X→List SP} {ex:Exit} {jump:Option Code} {E':Env} (hj:ex=.normal∧jump=none∨ex=.ret∧jump=some .ret∨∃ id,ex=.exit id∧jump=some (.exit id)) (hs:Sel (yET l .busy pe n E' ps aH bd) H H') (c:X) (hc:jump.isNone=r c) (hE:∀ g,yAH (yET l (if jump.isNone then .ready else .done) jump n E' ps aH bd::H') g→yAH (Hp c++R) g):KJ W n (.ex (.rnd l (roundPost P l (yPQ W r Hp R))) ex) E H:=
 ⟨fun a w p s=>by
  obtain ⟨fn,tmps,D,hh,_⟩:=s.left.recd hs;have av:=run_endRound (P:=P) jump hh;have st:St W (yET l (if jump.isNone then .ready else .done) jump n E' ps aH bd::H') _:=(St.recTurn (st':=if jump.isNone then .ready else .done) (pe':=jump) s (hs.app _) hh).left (B:=dm a.defers);have cX:∃ v w',(Instr.endRound l jump).run P w=.ok v w'∧yPQ W r Hp R (.returned v) w':=⟨_,_,av,c,by rw [hc],st.mono hE⟩;rcases hj with ⟨rfl,rfl⟩|⟨rfl,rfl⟩|⟨id,rfl,rfl⟩
  ·exact cX
  ·exact cX
  ·exact cX⟩
theorem yGM {A B:List SP} {E':Env} (hs:Sel (yET l .busy pe n E' ps aH bd) H H') (hE:∀ g,yAH (yET l .ready none n E' ps aH bd::H') g→yAH (A++R) g):KJ W n (.ex (.rnd l (roundPost P l (yPQ W (fun b:Bool=>b) (fun b=>if b then A else B) R))) .normal) E H:=
 yXr (.inl ⟨rfl,rfl⟩) hs true rfl hE
theorem Yt.of {args:List Value} {bA:List Tmp} {Hpre:List SP} {r:X→Bool} {Hp:X→List SP} (hl:args.length=bA.length) (hp:∀ p ∈ bA,p<n) (h:∀ R,KJ W n (.code P aH (xCZ P l bd (roundPost P l (yPQ W r Hp R)))) (Env.ofPs bA args E) (yET l .ready pe n E bA.toArray aH bd::Hpre++R)):Yt P W l args (yET l .ready pe n E bA.toArray aH bd::Hpre) r Hp:=
 ⟨fun R w s=>by obtain ⟨fn,tmps,D,hh,h1,h2⟩:=s.recd .here;refine ⟨_,_,_,_,run_yield hh (by simpa using hl),?_⟩;refine roundIn_of_wpIn (F:=Fence.wide) (n:=0) trivial ?_;have hd:=Hd.ofPs bA args E tmps hp h1 h2;have:=(h R).go _ w hd (s.perm (by show _;simp [dm]));simp only [List.zip_toArray,List.foldl_toArray',List.size_toArray];exact this⟩
theorem yQ3 {g:Operand} {gf:FuncId} {lb:List Value} {Hpre:List SP} {pe:X→Option Code} {Hp:X→List SP} {v:X→Value} (cI:q.ro=none) (hg:Env.ev E g=some (.func (.func gf) #[] lb.toArray)) [hf:FnIs P gf] (hc:∀ l,Ct P W gf (yv l::lb) (yET l .ready none n E ps aH bd::Hpre) v (fun x=>yET l (if (pe x).isNone then .ready else .done) (pe x) n E ps aH bd::Hp x)) (hp:Pick Hpre H R) (h0:∀ x,pe x=none→KJ W n (.ex q .normal) E (Hp x++R)) (h1:∀ x c,pe x=some c→KJ W n (.code P c q) E (Hp x++R)):KJ W n (.code P (Code.rangeFunc g ps aH bd) q) E H:=by
 refine ⟨fun a w p s=>?_⟩;show (Code.rangeFunc g ps aH bd).wpIn (fen q.ro) 0 P q.den a w;rw [cI];refine wpIn_rangeFunc fun fn _=>?_;obtain ⟨W1,hW1⟩:∃ W1,((w.alloc (.deferred (some []))).alloc (.loop { state:=.ready,pending:=none,fn,tmps:=a.tmps,params:=ps,assign:=aH,body:=bd,defers:=w.heap.size }))=W1:=⟨_,rfl⟩;have hev:=p.ev hg;have hb:FnIs P gf:=hf;refine ⟨w.heap.size+1,[{ target:=.collected w.heap.size,args:=#[] }],W1,{ target:=.fn (.func gf) lb.toArray,args:=#[yv (w.heap.size+1)] },W1,gf,(yv (w.heap.size+1)::lb).toArray,W1,?_,?_,fun _ _=>trivial,?_,fun e=>by simp at e,?_⟩
 ·rw [← hW1];exact run_enterLoop_outer _ _ _ _ _
 ·simp only [resolve,hev];simp [go_sem]
 ·have hf:=hf.h;cases hq:P.funcs[gf]? with
  |none=>simp [hq] at hf
  |some fnn=>
   simp [hq] at hf;obtain ⟨h1,h2⟩:=hf;have hb:¬ fnn.body=none:=by cases h:fnn.body <;> simp_all
   simp [invoke,callFunc,Go.program,Sem.run,hq,h2,hb,Result.andThen]
 ·have s1:St W (yET (w.heap.size+1) .ready none n E ps aH bd::yQo w.heap.size (.deferred (some []))::(H++dm a.defers)) W1:=by rw [← hW1];have:=(St.alloc (A:=yQo w.heap.size (.deferred (some []))) (o:=.deferred (some [])) s (Hl.one_self _ _));refine this.alloc (A:=yET (w.heap.size+1) .ready none n E ps aH bd) ?_;rw [World.size_alloc];exact ⟨fn,a.tmps,w.heap.size,Hl.one_self _ _,p.size,p.at_⟩
  have jF:(yET (w.heap.size+1) .ready none n E ps aH bd::yQo w.heap.size (.deferred (some []))::(H++dm a.defers)).Perm ((yET (w.heap.size+1) .ready none n E ps aH bd::Hpre)++(R++(yQo w.heap.size (.deferred (some []))::dm a.defers))):=by refine List.Perm.cons _ ?_;refine (List.perm_middle (l₁:=H)).symm.trans ?_;refine List.Perm.trans (hp.perm.append_right _) ?_;show ((Hpre++R)++_).Perm (Hpre++(R++_));rw [zLd]
  refine (callsIn_wide (n:=0)).2 (((hc (w.heap.size+1)).go _ W1 (s1.perm jF)).mono ?_)
  rintro e w2 ⟨x,rfl,s2⟩
  obtain ⟨fn',jz,D',hh,_⟩:=s2.recd .here;have ao:(if (pe x).isNone then LoopState.ready else LoopState.done)≠.busy:=by split <;> simp
  have s3:=St.recTurn (st':=.exhausted) (pe':=pe x) s2 .here hh;have s4:St W ((Hp x++R)++(yQo w.heap.size (.deferred (some []))::dm a.defers)) (w2.putObj (w.heap.size+1) (.loop { state:=.exhausted,pending:=pe x,fn:=fn',tmps:=jz,params:=ps,assign:=aH,body:=bd,defers:=D' })):=by have:=s3.right (A:=[yET (w.heap.size+1) .exhausted (pe x) n E ps aH bd]);rw [zLd];exact this
  refine ⟨pe x,_,run_endLoop hh ao,?_⟩;have p2:Hd n E { a with defers:=[{ target:=.collected w.heap.size,args:=#[] }]++a.defers }:=⟨p.size,p.at_⟩;cases gq:pe x with
  |none=>
   rw [gq] at s4;exact (h0 x gq).go _ _ p2 s4
  |some c=>
   rw [gq] at s4;have:=(h1 x c gq).go _ _ p2 s4;have e2:KK.den (.code P c q)=c.wpIn (fen q.ro) 0 P q.den:=rfl;rw [e2,cI] at this;exact this
end
section
variable {P:Program} {W:World} {n d m sz bytes:Nat} {E:Env} {H R:List SP} {k:KK} {t e:TypeId} {x y:Operand}
theorem yXs {C:Int} {zs:List Value} (hx:Env.ev E x=some (zi 0)) (hy:Env.ev E y=some (zi C)) [hu:UIs P t (.slice e)] [hs:SzIs P e sz] [hb:ByIs P e bytes] [hz:ZcIs P e zs] (hC:C=(m:Int)) (hm:bytes*m≤281474976710656) (dy:m≤9223372036854775807) (hn:Nat.blt d n=true) (h:∀ g c,KJ W n k ((d,.slice (zq g) 0 c)::E) (yA4 (.slice (zq g) 0 c) e sz 0 []::H)):KJ W n (.oper P (.makeSlice t x y) (some d) k) E H:=by
 refine ⟨fun a w p s o ho hd=>?_⟩;have hz:=hz.h;have hs:=hs.h;have hb:=hb.h;cases hq:P.info? e with
 |none=>simp [hq] at hz
 |some i=>
  simp [hq] at hz hs hb;obtain ⟨zv,dN,eb⟩:=hz;obtain ⟨w',h1,h2,h3⟩:=run_make_own (P:=P) w W.heap.size t e i zv sz hu.h hq dN hs .i64 .i64 m (by rw [hb];exact hm) (by unfold maxLen;omega) s.size;show uponP P o a _ ((execOp a.eval o).run P w);have av:(execOp a.eval o).run P w=.ok (.value (.slice (some ⟨w.heap.size,0,none⟩) 0 m)) w':=by simp only [execOp,ho,p.ev hx,p.ev hy,hC,Sem.run_bind,h1,Result.andThen_ok,Sem.run_pure]
  rw [av];obtain ⟨q1,q2⟩:=h2;rcases q2 with ⟨q,_⟩|⟨g,cap,aw,hv,hg,hh,bI,gd,bu,bZ⟩
  ·cases q
  ·cases hv;have st:St W (yA4 (.slice (some ⟨w.heap.size,0,none⟩) 0 m) e sz 0 []::(H++dm a.defers)) w':=by
    obtain ⟨iI,h2',dj,hA,hH,l1,l2⟩:=(show St W ([]++(H++dm a.defers)) w from s).split
    exact St.join (B:=[yA4 (.slice (some ⟨w.heap.size,0,none⟩) 0 m) e sz 0 []]) (g:=Hl.one w.heap.size (.cells aw e (0,0))) s.below dj hH l1 l2 (yBP ⟨q1,.inr ⟨_,_,aw,rfl,Hl.one_self _ _,bI,gd,bu,bZ⟩⟩) h3.os h3.tape h3.output h3.size
     (fun k o q=>by obtain ⟨rfl,rfl⟩:=Hl.one_some q;exact hh) (fun k o q=>by obtain ⟨rfl,rfl⟩:=Hl.one_some q;exact .inr (Nat.le_refl _)) (fun k hk _=>h3.block k hk zW)
   have:=(h w.heap.size m).go _ w' (p.put (d:=some d) hn _) st;rw [← hd] at this;exact this
def yDx (key:Nat) (L:List SP):SP:=⟨51,key,fun h=>yAH L h⟩
theorem yCf {L H:List SP} {key:Nat} {g:Hl} (q:yAH (yDx key L::H) g):yAH (L++H) g:=by obtain ⟨h1,h2,d,l1,l2,s1,s2⟩:=q;exact (yBj g).2 ⟨h1,h2,d,l1,l2,s1,s2⟩
theorem yCn {L H:List SP} {key:Nat} {g:Hl} (q:yAH (L++H) g):yAH (yDx key L::H) g:=by obtain ⟨h1,h2,d,l1,l2,s1,s2⟩:=(yBj g).1 q;exact ⟨h1,h2,d,l1,l2,s1,s2⟩
theorem KJ.allOpen {L:List SP} {key:Nat} (q:Sel (yDx key L) H R) (h:KJ W n k E (L++R)):KJ W n k E H:=
 ⟨fun a w p s=>h.go a w p ((s.perm (q.perm.append_right _)).mono fun g hg=>by
  have:=yCf (L:=L) (H:=R++dm a.defers) hg
  rwa [← zLd] at this)⟩
theorem KJ.allShut {L:List SP} (key:Nat) (p:Pick L H R) (h:KJ W n k E (yDx key L::R)):KJ W n k E H:=
 ⟨fun a w q s=>h.go a w q ((s.perm (p.perm.append_right _)).mono fun g hg=>by rw [zLd] at hg;exact yCn hg)⟩
theorem Yt.bif {l:Nat} {args:List Value} {Hpre A B:List SP} (h:Yt P W l args Hpre (fun b:Bool=>b) (fun b=>if b then A else B)):Yt P W l args Hpre (fun b:Bool=>b) (fun b=>match b with|true=>A|false=>B):=by
 have e:(fun b:Bool=>if b then A else B)=(fun b=>match b with|true=>A|false=>B):=by funext b;cases b <;> rfl
 rwa [e] at h
end
def Tr.frm (lo:zB):Tr→Rows
 |.nil=>[]
 |.node l k v r _ _=>if Op.bytesLess k lo=true then r.frm lo else l.frm lo++(k,v)::r.frm lo
theorem yU2 {l r:Tr} {k v lo:zB} {h s:Nat} (c:Op.bytesLess k lo=true):(Tr.node l k v r h s).frm lo=r.frm lo:=if_pos c
theorem yQ4 {l r:Tr} {k v lo:zB} {h s:Nat} (c:Op.bytesLess k lo=false):(Tr.node l k v r h s).frm lo=l.frm lo++(k,v)::r.frm lo:=if_neg (by rw [c];decide)
def jsP (J S:Nat→SP) (M:Nat):Option Nat→SP
 |none=>J M
 |some m=>S m
section
variable {W:World} {N:List Nd} {L:Rows} {J S:Nat→SP} {lp:Nat}
theorem yU3 (lo:zB) (hy:∀ i p,L[i]? = some p→Yt prog W lp [strV p.1,strV p.2] [J i] (fun b:Bool=>b) (fun b=>match b with|true=>[J (i+1)]|false=>[S i])):∀ (t:Tr) (a:Option Addr) (i0 M:Nat),TrAt N a t→M=i0+(t.frm lo).length→(∀ j p,(t.frm lo)[j]? = some p→L[i0+j]? = some p)→
 Ct prog W 162 [.pointer a,strV lo,yv lp] [arP N,J i0] (fun x:{x:Option Nat//∀ m,x=some m→m<M}=>.bool x.1.isNone) (fun x=>[arP N,jsP J S M x.1]):=by
 intro t
 induction t with
 |nil=>
  intro a i0 M hT hM hL;cases hT;have hM:M=i0:=hM;subst hM;refine zE func162 ntmps162 fun R=>?_;repeat' (first|refine xst ?_|refine xsf ?_ ?_|refine xdr 5 yKA ?_|apply zN|intro _)
  all_goals (exact xdn ⟨none,fun m h=>by cases h⟩)
 |node yl yk yv' yr yh ys ihl ihr=>
  intro a i0 M hT hM hL;obtain ⟨b,al,ar,rfl,hm,bF,d8⟩:=hT;by_cases c:Op.bytesLess yk lo=true
  ·rw [yU2 c] at hM hL;have cr:=ihr ar i0 M d8 hM hL;refine zE func162 ntmps162 fun R=>?_;repeat' (first|refine xca cr fun x=>?_|refine yAi ?_;refine yAa (yAB (nd:=⟨b,yk,yv',al,ar,yh,ys⟩) rfl xS hm rfl) ?_|refine xqa ?_|refine xsf ?_ ?_|refine xdr 5 yKA ?_|apply zN|intro _)
   all_goals (exact xdn x)
  ·have c:Op.bytesLess yk lo=false:=by simpa using c
   rw [yQ4 c] at hM hL;rw [zLa,zLj] at hM;have cl:=ihl al i0 (i0+(yl.frm lo).length) bF rfl (fun j p h=>hL j p (by rw [zLp (zLc.1 h).1];exact h));have hyy:=hy (i0+(yl.frm lo).length) (yk,yv') (hL (yl.frm lo).length (yk,yv') (by rw [zLn (Nat.le_refl _),Nat.sub_self];rfl));have cr:=ihr ar (i0+(yl.frm lo).length+1) M d8 zO (fun j p h=>by
    have:=hL ((yl.frm lo).length+(j+1)) p (by rw [zLn zO,Nat.add_sub_cancel_left,List.getElem?_cons_succ];exact h)
    rwa [← Nat.add_assoc,← Nat.add_assoc,Nat.add_right_comm (i0+_) j 1] at this)
   obtain ⟨m0,hm0⟩:∃ z,z=i0+(yl.frm lo).length:=⟨_,rfl⟩;rw [← hm0] at cl hyy cr;refine zE func162 ntmps162 fun R=>?_;repeat' (first|refine xca cl fun x=>?_;obtain ⟨x,hx⟩:=x;refine yDw ?_|refine yAi ?_;refine yAa (yAB (nd:=⟨b,yk,yv',al,ar,yh,ys⟩) rfl xS hm rfl) ?_|refine xqa ?_|refine xsf ?_ ?_|refine xdr 5 yKA ?_|apply zN|intro _)
   refine Hold.mk ?_;dsimp only at hx ⊢;cases x with
   |some j=>
    have hj:=hx j rfl;dsimp only [jsP,Option.isNone];repeat' (first|refine yAi ?_;refine yAa (yAB (nd:=⟨b,yk,yv',al,ar,yh,ys⟩) rfl xS hm rfl) ?_|refine xst ?_|refine xsf ?_ ?_|refine xdr 5 yKA ?_|apply zN|intro _)
    all_goals exact xdn ⟨some j,fun m h=>by cases h;omega⟩ (hE:=by dsimp only [jsP];exact (xN))
   |none=>
    dsimp only [jsP,Option.isNone];repeat' (first|refine yFB ?_;refine yQ1 rfl xE hyy xP rfl (fun y=>?_);refine yDw ?_|refine yAi ?_;refine yAa (yAB (nd:=⟨b,yk,yv',al,ar,yh,ys⟩) rfl xS hm rfl) ?_|refine xst ?_|refine xsf ?_ ?_|refine xdr 5 yKA ?_|apply zN|intro _)
    refine Hold.mk ?_;cases y with
    |false=>
     dsimp only;repeat' (first|refine yAi ?_;refine yAa (yAB (nd:=⟨b,yk,yv',al,ar,yh,ys⟩) rfl xS hm rfl) ?_|refine xst ?_|refine xsf ?_ ?_|refine xdr 5 yKA ?_|apply zN|intro _)
     all_goals exact xdn ⟨some m0,fun m h=>by cases h;omega⟩ (hE:=by dsimp only [jsP];exact (xN))
    |true=>
     dsimp only;repeat' (first|refine xca cr fun z=>?_|refine yAi ?_;refine yAa (yAB (nd:=⟨b,yk,yv',al,ar,yh,ys⟩) rfl xS hm rfl) ?_|refine xst ?_|refine xsf ?_ ?_|refine xdr 5 yKA ?_|apply zN|intro _)
     all_goals (exact xdn z)
end
section
variable {P:Program} {W:World} {f:FuncId} {l:Nat} {args:List Value} {A A':List SP} {X:Type}
theorem Ct.conv {r:X→Value} {B B':X→List SP} (h:Ct P W f args A r B) (pre:∀ R g,yAH (A'++R) g→yAH (A++R) g) (post:∀ x R g,yAH (B x++R) g→yAH (B' x++R) g):Ct P W f args A' r B':=
 ⟨fun R w s=>(h.go R w (s.mono (pre R))).mono fun _ _ ⟨x,e,s⟩=>⟨x,e,s.mono (post x R)⟩⟩
theorem Yt.conv {r:X→Bool} {B B':X→List SP} (h:Yt P W l args A r B) (pre:∀ R g,yAH (A'++R) g→yAH (A++R) g) (post:∀ x R g,yAH (B x++R) g→yAH (B' x++R) g):Yt P W l args A' r B':=
 ⟨fun R w s=>by obtain ⟨f,tmps,aH,bd,h1,h2⟩:=h.go R w (s.mono (pre R));exact ⟨f,tmps,aH,bd,h1,h2.mono fun e w' ⟨x,he,s⟩=>⟨x,he,s.mono (post x R)⟩⟩⟩
end
section
variable {W:World} {N:List Nd} {a:Option Addr} {t:Tr} {lo:zB} {L:Rows} {gr gl:Nat}
theorem yXt {lp:Nat} {J S:Nat→SP} (hT:TrAt N a t) (hL:L=t.frm lo) (hy:∀ i p,L[i]? = some p→Yt prog W lp [strV p.1,strV p.2] [J i] (fun b:Bool=>b) (fun b=>match b with|true=>[J (i+1)]|false=>[S i])) :
 Ct prog W 161 [yv lp,zPp gr,zPp gl] [J 0,yAj gr [.pointer a] 185,yAj gl [strV lo] 9,arP N]
  (fun _:{x:Option Nat//∀ m,x=some m→m<L.length}=>.tuple #[]) (fun x=>[jsP J S L.length x.1,yAj gr [.pointer a] 185,yAj gl [strV lo] 9,arP N]):=by
 have cr:=yU3 (W:=W) (N:=N) (L:=L) (J:=J) (S:=S) (lp:=lp) lo hy t a 0 L.length hT (by rw [hL];omega) (fun j p h=>by rw [hL,zLq];exact h);refine zE func161 ntmps161 fun R=>?_;repeat' (first|refine xca cr fun x=>?_|refine xst ?_|refine xsf ?_ ?_|intro _)
 all_goals (refine yCu ?_;exact yA5 zor rfl Rvs.nil x (by rfl) (xN))
theorem yGk {n:Nat} {q:QQ} {gop:Operand} {En:Env} {H R:List SP} {bA:List Tmp} {aH bd:Code} (cI:q.ro=none) (hg:Env.ev En gop=some (.func (.func 161) #[] #[zPp gr,zPp gl])) (hT:TrAt N a t) (hL:L=t.frm lo) (bk:bA.length=2) (fI:∀ p ∈ bA,p<n) (J S:Nat→SP) (jump:Code) (hp:Pick [J 0,yAj gr [.pointer a] 185,yAj gl [strV lo] 9,arP N] H R) (hb:∀ l i p,L[i]? = some p→∀ R,KJ W n (.code prog aH (xCZ prog l bd (roundPost prog l (yPQ W (fun b:Bool=>b) (fun b=>if b then yET l .ready none n En bA.toArray aH bd::[J (i+1)] else yET l .done (some jump) n En bA.toArray aH bd::[S i]) R)))) (Env.ofPs bA [strV p.1,strV p.2] En) (yET l .ready none n En bA.toArray aH bd::[J i]++R)) (h0:KJ W n (.ex q .normal) En ([J L.length,yAj gr [.pointer a] 185,yAj gl [strV lo] 9,arP N]++R)) (h1:∀ i,i<L.length→KJ W n (.code prog jump q) En ([S i,yAj gr [.pointer a] 185,yAj gl [strV lo] 9,arP N]++R)):KJ W n (.code prog (Code.rangeFunc gop bA.toArray aH bd) q) En H:=by
 refine yQ3 (X:={x:Option Nat//∀ m,x=some m→m<L.length}) (lb:=[zPp gr,zPp gl]) (pe:=fun x=>match x.1 with|none=>none|some _=>some jump) (Hp:=fun x=>[jsP J S L.length x.1,yAj gr [.pointer a] 185,yAj gl [strV lo] 9,arP N]) (v:=fun _=>.tuple #[]) cI hg (fun l=>?_) hp (fun x hx=>?_) (fun x cc hx=>?_)
 ·have key:=yXt (W:=W) (gr:=gr) (gl:=gl) (lp:=l) (J:=fun i=>yDx l [yET l .ready none n En bA.toArray aH bd,J i]) (S:=fun i=>yDx l [yET l .done (some jump) n En bA.toArray aH bd,S i]) hT hL (fun i p hi=>by
   have hy:=Yt.of (n:=n) (Hpre:=[J i]) (by rw [bk];rfl) fI (fun R=>hb l i p hi R);refine hy.conv (fun R g q=>yCf q) (fun b R g q=>?_);cases b
   ·exact yCn (L:=[yET l .done (some jump) n En bA.toArray aH bd,S i]) q
   ·exact yCn (L:=[yET l .ready none n En bA.toArray aH bd,J (i+1)]) q)
  refine key.conv (fun R g q=>yCn (L:=[yET l .ready none n En bA.toArray aH bd,J 0]) q) (fun x R g q=>?_);obtain ⟨x,hx⟩:=x;cases x
  ·exact yCf (L:=[yET l .ready none n En bA.toArray aH bd,J L.length]) q
  ·exact yCf (L:=[yET l .done (some jump) n En bA.toArray aH bd,S _]) q
 ·obtain ⟨x,eI⟩:=x;cases x with
  |none=>exact h0
  |some i=>cases hx
 ·obtain ⟨x,eI⟩:=x;cases x with
  |none=>cases hx
  |some i=>
   cases hx;exact h1 i (eI i rfl)
end
def rC (r:zB × zB):List Value:=[strV r.1,strV r.2]
theorem yBp:EncOk rC 2:=⟨fun _=>rfl,fun x=>by unfold rC;exact xO,zO⟩
section
variable {W:World}
theorem yOh (a:Option Addr) (c:Nat) (l:Rows) (hr:RisR l) (k:zB) (hl:l.length≤140737488355328) :CtU prog W 129 [.slice a l.length c,strV k] [lsP rC 64 2 (.slice a l.length c) l] (.tuple #[zi (atB Prod.fst l k:Nat),.bool (yIu Prod.fst l k)]) [lsP rC 64 2 (.slice a l.length c) l]:=by
 have cJ:=yJh (f:=Prod.fst) l k;refine zE func129 ntmps129 fun R=>?_;repeat' (first|refine xst ?_|refine xsf ?_ ?_|refine xdr 7 yOg ?_|apply zN|intro _)
 refine yAC (fun i:{i:Nat × Nat//i.1≤atB Prod.fst l k∧atB Prod.fst l k≤i.2∧i.2≤l.length}=>[(0,.slice a l.length c),(1,strV k),(6,zi (i.1.1:Nat)),(7,zi (i.1.2:Nat))])
  (fun i=>[lsP rC 64 2 (.slice a l.length c) l]++R) (fun i=>i.1.2-i.1.1) ⟨(0,l.length),zLA _,cJ,Nat.le_refl _⟩ xB (xN) (fun ⟨(lo,hi),h1,h2,h3⟩=>?_)
 dsimp only at h1 h2 h3 ⊢;by_cases hlt:lo<hi
 ·have ql:decide ((lo:Int)<(hi:Nat))=true:=zY zO;have hm:(lo+hi) / 2<l.length:=zO;obtain ⟨x,hx⟩:∃ s,l[(lo+hi) / 2]? = some s:=⟨_,zLb hm⟩;have hiff:=yMV hr k _ x hx;refine KJ.lsSome xS zO (fun g hg=>?_);subst hg;have ho:0+Int.toNat (((lo+hi) / 2:Nat):Int)*2+0=(lo+hi) / 2*2+0:=by rw [zLe];omega
  have kx:(rC x)[0]? = some (strV x.1):=rfl;cases hb:Op.bytesLess x.1 k with
  |true=>
   have:=hiff.1 hb;repeat' (first|refine yAi ?_;refine yAa (yCV yBp rfl xS rfl ho hx kx) ?_|refine zad ((lo+hi) / 2+1) ?_|refine zad (lo+hi) ?_|refine yEm ?_;refine yAa (yD5 (r:=(((lo+hi) / 2:Nat):Int)) rfl rfl zO zO) ?_|refine xqa ?_|refine xsf ?_ ?_|refine xdr 7 yOg ?_|apply zN|intro _)
   all_goals refine yAs ⟨((lo+hi) / 2+1,hi),by dsimp only;omega,h2,h3⟩ (by show hi-((lo+hi) / 2+1)<hi-lo;omega) xB (xN)
  |false=>
   have:¬ (lo+hi) / 2<atB Prod.fst l k:=fun h=>by rw [hiff.2 h] at hb;cases hb
   repeat' (first|refine yAi ?_;refine yAa (yCV yBp rfl xS rfl ho hx kx) ?_|refine zad (lo+hi) ?_|refine yEm ?_;refine yAa (yD5 (r:=(((lo+hi) / 2:Nat):Int)) rfl rfl zO zO) ?_|refine xqa ?_|refine xsf ?_ ?_|refine xdr 7 yOg ?_|apply zN|intro _)
   all_goals refine yAs ⟨(lo,(lo+hi) / 2),h1,by dsimp only;omega,by dsimp only;omega⟩ (by show (lo+hi) / 2-lo<hi-lo;omega) xB (xN)
 have ql:decide ((lo:Int)<(hi:Nat))=false:=zZ zO;obtain rfl:lo=atB Prod.fst l k:=zO;by_cases dh:atB Prod.fst l k<l.length
 ·have q2:decide ((atB Prod.fst l k:Int)<(l.length:Nat))=true:=zY zO;obtain ⟨x,hx⟩:∃ s,l[atB Prod.fst l k]? = some s:=⟨_,zLb dh⟩;have hh:decide (x.1=k)=yIu Prod.fst l k:=by
   cases e:yIu Prod.fst l k with
   |true=>
    obtain ⟨y,hy,ey⟩:=(yKo hr k).1 e;rw [hx] at hy;cases hy;exact zY ey
   |false=>exact zZ fun q=>by rw [(yKo hr k).2 ⟨x,hx,q⟩] at e;cases e
  refine KJ.lsSome xS zO (fun g hg=>?_);subst hg;have ho:0+Int.toNat ((atB Prod.fst l k:Nat):Int)*2+0=atB Prod.fst l k*2+0:=zW;have kx:(rC x)[0]? = some (strV x.1):=rfl;repeat' (first|refine yAi ?_;refine yAa (yCV yBp rfl xS rfl ho hx kx) ?_|refine xqa ?_|refine xsf ?_ ?_|refine xdr 7 yOg ?_|apply zN|intro _)
  all_goals exact xdn () (hc:=by rw [← hh];rfl)
 ·have q2:decide ((atB Prod.fst l k:Int)<(l.length:Nat))=false:=zZ zO;have hh:yIu Prod.fst l k=false:=by
   cases e:yIu Prod.fst l k with
   |false=>rfl
   |true=>
    obtain ⟨y,hy,-⟩:=(yKo hr k).1 e;exact absurd (zLc.1 hy).1 dh
  repeat' (first|refine xqa ?_|refine xsf ?_ ?_|refine xdr 7 yOg ?_|apply zN|intro _)
  all_goals exact xdn () (hc:=by rw [hh];rfl)
theorem yGN (x:Nat) (hx:x≤9223372036854775807):Ct prog W 137 [zi (x:Nat)] [] (fun y:Nat × Nat=>.slice (some ⟨y.1,0,none⟩) (vu x).length y.2) (fun y=>[byP (.slice (some ⟨y.1,0,none⟩) (vu x).length y.2) (vu x)]):=by
 refine zE func137 ntmps137 fun R=>?_;repeat' (first|refine yAD ?_;refine yCC rfl (fun g0=>?_)|refine xst ?_|refine xsf ?_ ?_|intro _)
 refine yAC (fun i:{i:(zB × Nat × Nat) × (Option Addr × Nat)//VuI [] x i.1}=>[(0,zi (i.1.1.2.1:Nat)),(3,.slice i.1.2.1 i.1.1.1.length i.1.2.2)])
  (fun i=>[byP (.slice i.1.2.1 i.1.1.1.length i.1.2.2) i.1.1.1]++R) (fun i=>i.1.1.2.2) ⟨(([],x,9),(some ⟨g0,0,none⟩,0)),VuI.start [] zO⟩ xB (xN) (fun ⟨((l,y,f),(a,c)),hi⟩=>?_)
 dsimp only at hi ⊢;have ai:=hi.len;have hv:=yCe x;have hyx:=hi.2.2.1;dsimp only [List.length_nil] at ai hyx;have b1:(l.length+1)*1≤140737488355328:=zO;have b2:l.length+1≤9223372036854775807:=zO;by_cases hlt:y<128
 ·have ql:decide ((128:Int)≤(y:Nat))=false:=zZ zO;have e1:IntKind.u8.wrap ((y:Nat):Int)=((UInt8.ofNat y).toNat:Int):=by rw [yKs,yUT]
  have bg:=hi.last hlt;rw [List.nil_append] at bg;repeat' (first|refine yAQ ?_;refine yBm (a:=UInt8.ofNat y) yE3 rfl rfl rfl xS xS b1 b2 rfl (fun g' c'=>?_)|refine yAD ?_;refine yAK rfl xF (by rfl) zO rfl (fun gb=>?_)|refine xqa ?_|refine xsf ?_ ?_|intro _)
  all_goals rw [bg]
  all_goals (exact xdn (g',c'))
 ·have ql:decide ((128:Int)≤(y:Nat))=true:=zY zO;obtain ⟨f',rfl,hn⟩:=hi.next hlt;have e1:IntKind.u8.wrap ((y % 128+128:Nat):Int)=((UInt8.ofNat (y % 128+128)).toNat:Int):=by rw [yKs,yUT]
  repeat' (first|refine yAQ ?_;refine yBm (a:=UInt8.ofNat (y % 128+128)) yE3 rfl rfl rfl xS xS b1 b2 rfl (fun g' c'=>?_)|refine yAD ?_;refine yAK rfl xF (by rfl) zO rfl (fun gb=>?_)|refine zad (y % 128+128) ?_|refine yEm ?_;refine yAa (yD5 (r:=((y / 128:Nat):Int)) rfl rfl zO zO) ?_|refine yBu ?_;refine yAa (yBc (r:=((y % 128:Nat):Int)) rfl rfl zO zO) ?_|refine xqa ?_|refine xsf ?_ ?_|intro _)
  all_goals refine yAs ⟨((l++[UInt8.ofNat (y % 128+128)],y / 128,f'),(some ⟨g',0,none⟩,c')),hn⟩ (by show f'<f'+1;omega) xB (xN)
end
def txA (most:Nat) (l:zB):Nat:=match ru l with
 |.bad _=>0
 |.ok n t=>if most<n then 0 else if t.length<n then (vu n).length else (vu n).length+n
def rdS:Rd zB→zB
 |.bad _=>[]
 |.ok y _=>y
def rdT:Rd zB→Nat
 |.bad _=>0
 |.ok y _=>(tx y).length
theorem yU4 {most:Nat} {l y t:zB} (h:rtx most l=.ok y t):txA most l=(tx y).length:=by
 unfold rtx at h;unfold txA;split at h
 ·cases h
 rename_i n u hu;rw [hu];dsimp only;split at h
 ·cases h
 rename_i h1;split at h
 ·cases h
 rename_i h2;rw [if_neg h1,if_neg h2];cases h;have e:(u.take n).length=n:=by rw [zLg];omega
 unfold tx;rw [zLa,e]
theorem yCW {P:Program} {W:World} {n:Nat} {E:Env} {H:List SP} {f:FuncId} {x y:Operand} {u v:Value} (hx:Env.ev E x=some u) (hy:Env.ev E y=some v):Ev P W n E H (.makeFunc (.func f) #[] #[x,y]) (.func (.func f) #[] #[u,v]):=
 yN8 (f:=.func f) (xs:=[]) (ys:=[x,y]) (us:=[]) (vs:=[u,v]) Evs.nil (.cons hx (.cons hy Evs.nil)) rfl
theorem yLQ {most x:Nat} {t:zB} (h:¬ most<x):yHx most (.ok x t)=0∧yOU most (.ok x t)=x∧yOV most (.ok x t)=(vu x).length:=⟨if_neg h,if_neg h,if_neg h⟩
theorem yM5 {most x:Nat} {t:zB} (h:most<x):yHx most (.ok x t)=3∧yOU most (.ok x t)=0∧yOV most (.ok x t)=0:=⟨if_pos h,if_pos h,if_pos h⟩
theorem yXu {most:Nat} {q:Rd Nat} {l:zB} (hm:most≤9223372036854775807) (hq:ru l=q) (he:yHx most q=0):yOV most q=rdL q∧IntKind.i64.wrap ((rdN q:Nat):Int)=((yOU most q:Nat):Int):=by
 cases q with
 |bad e=>exact absurd he (by show e≠0;rcases yDB hq with h|h <;> omega)
 |ok x t=>
  by_cases h:most<x
  ·rw [(yM5 h).1] at he;cases he
  ·obtain ⟨h1,h2,h3⟩:=yLQ (t:=t) h;rw [h2,h3];refine ⟨rfl,?_⟩;show IntKind.i64.wrap ((x:Nat):Int)=_;simp only [IntKind.wrap,IntKind.signed,IntKind.bits];simp;omega
theorem yZ1 {most:Nat} {q:Rd Nat} (he:yHx most q≠0):yOV most q=0∧yOU most q=0:=by
 cases q with
 |bad e=>exact ⟨rfl,rfl⟩
 |ok x t=>
  by_cases h:most<x
  ·exact ⟨(yM5 h).2.2,(yM5 h).2.1⟩
  ·exact absurd (yLQ h).1 he
section
variable {W:World} {F:Nat→Addr} {p:Nat} {s:zB} {a:Nat}
theorem yDM (most:Nat) (hm:most≤9223372036854775807) (ha:a≤s.length) (hs:s.length≤9223372036854775807) (e1:W.cell? ⟨9,0,none⟩=some (yAy F 1)) (e2:W.cell? ⟨10,0,none⟩=some (yAy F 2)) (e3:W.cell? ⟨11,0,none⟩=some (yAy F 3)) (q:Rd Nat) (hq:ru (s.drop a)=q) :CtU prog W 93 [zPp p,zi (most:Nat)] [rdP p s a] (.tuple #[zi (yOU most q:Nat),yAy F (yHx most q)]) [rdP p s (a+yOV most q)]:=by
 have cu:∀ br bm,Ct prog W 145 [zPp p,.func (.func 146) #[] #[zPp br,zPp bm]] [rdP p s a,yAj br [zPp p] 144,yAj bm [zi (most:Nat)] 3] (fun _:Unit=>.tuple #[zi (yOU most q:Nat),yAy F (yHx most q)])
  (fun _=>[rdP p s (a+yOV most q),yAj br [zPp p] 144,yAj bm [zi (most:Nat)] 3]):=fun br bm=>by
  have cc:=yXp (W:=W) (F:=F) (p:=p) (s:=s) (a:=a) br bm most hm ha hs e1 e2 e3 q hq;by_cases he:yHx most q=0
  ·obtain ⟨hl,hn⟩:=yXu hm hq he;rw [hn,he] at cc;rw [he,hl];refine zE func145 ntmps145 fun R=>?_;repeat' (first|refine yFB ?_;refine yH2 rfl xE rfl cc xP rfl (fun _=>?_)|refine xst ?_|refine xsf ?_ ?_|exact xdn ()|intro _)
  ·obtain ⟨hl,hn⟩:=yZ1 he;have ao:=yH7 (F:=F) he;rw [hl,hn];refine zE func145 ntmps145 fun R=>?_;repeat' (first|refine yFB ?_;refine yH2 rfl xE rfl cc xP rfl (fun _=>?_)|refine yAo ?_;refine yAa (yBZ rfl ao) ?_|refine xst ?_|refine xsf ?_ ?_|exact xdn ()|intro _)
 refine zE func93 ntmps93 fun R=>?_;repeat' (first|refine zbx fun g=>?_|refine xca (cu _ _) fun _=>?_|refine yCL ?_;refine yAa (yCW rfl rfl) ?_|refine xst ?_|refine xsf ?_ ?_|exact xdn ()|intro _)
end
end Go.Proofs.YtoipmnikdiogcaaGreatDoor
